/- ModesAre: for any linkage, any turns and any assembly the law returns true and leaves its arguments as they were. No other condition. Part 5 of 7: what the later parts need -/
import Derived.Test.YtkmgmddcmmadjaaGreatXd
import Derived.Test.YtkmgmddcmmadjaaGreatRows
set_option linter.unusedVariables false
open List (mem_of_getElem? mem_cons_of_mem mem_append map_cons mem_cons length_cons mem_cons_self length_append length_nil getD_eq_getElem?_getD all_eq_true getElem?_map getElem?_eq_getElem nil_append map_append length_take take_of_length_le drop_zero take_length not_mem_nil length_map map_take all_append length_set)
open Nat (le_refl lt_or_ge le_trans zero_le)
open Option (map_eq_some_iff)
open Bool (and_eq_true or_eq_true)
open Int (toNat_natCast)
open Go.Proofs.Tryz
namespace Go.Lw
open Go.Proofs
theorem ags (n:Nat) (hn:n <= 281474976710656):FnC prog 207 [i64 n] (.tup [i64 (pwk n), bl (pwb n)]):=by
 refine gF0 func207 ?_
 refine gL1 [0] [] (fun (k:Nat)=>[(5,some (i64 k))]) (fun _=>[]) (fun k=>k <= 6 /\ ∀ j,j < k -> n ≠ 2 ^ j) (fun k=>6 - k) 0 ⟨by omega,fun j h=>by omega⟩ ?_
 rintro k ⟨hk,hj⟩ K1 hK1
 refine gC (fun ht6=>?_) (fun ht6=>?_)
 ·have h1 : k < 6 := by have := ht6; simp only [aaa, decide_eq_true_eq] at this; omega
  refine gs (ag4 (.const _) (.tmp rfl) (by omega) (aj3 (by omega)) rfl) ?_
  refine gC (fun ht11=>?_) (fun ht11=>?_)
  ·have h2 : n = 2 ^ k := by have := ht11; simp only [aaa, beq_iff_eq] at this; omega
   refine gE2 ?_
   rw [h2,(atq (by omega)).1,(atq (by omega)).2]; rfl
  ·have h2 : n ≠ 2 ^ k := by have := ht11; simp only [aaa, beq_eq_false_iff_ne, ne_eq] at this; omega
   refine ga (aa4 (by omega)) ?_
   exact gK1 hK1 (k + 1) ⟨by omega,fun j h=>by rcases lt_or_ge j k with h3 | h3; exact hj j h3; (have:j = k:=by omega); subst this; exact h2⟩
 ·have h1 : k = 6 := by have := ht6; simp only [aaa, decide_eq_false_iff_not] at this; omega
  subst h1
  refine gE2 ?_
  rw [(a9r hj).1,(a9r hj).2]; rfl
theorem an7 (m:Nat) (hm:m <= 5) (a:List Rt) (ha:∀ r ∈ a, r.ok) (hl:a.length <= 281474976710656):FnC prog 194 [i64 m, nR a] (i64 (agk m a)):=by
 refine gF0 func194 ?_
 refine gl ?_
 refine gc (ags a.length hl) ?_
 refine gl ?_
 refine gC (fun ht26=>?_) (fun ht26=>?_)
 ·have h1:a ≠ [] /\ (lvl a.length < 0 \/ (m:Int) < lvl a.length):=(a2j hm a).2 (bh4 ht26)
  refine gE1 ?_
  unfold agk; rw [if_pos h1]; rfl
 ·have hn:¬ (a ≠ [] /\ (lvl a.length < 0 \/ (m:Int) < lvl a.length)):=fun h=>blp ht26 ((a2j hm a).1 h)
  refine gl ?_
  refine gL1 [27,28] [] (fun (i:Nat)=>[(29,some (i64 i))]) (fun _=>[]) (fun i=>i <= a.length /\ (a.take i).all Rt.valid = true) (fun i=>a.length - i) 0 ⟨zero_le _,by simp⟩ ?_
  rintro i ⟨hi,hv⟩ K1 hK1
  refine gC (fun ht30=>?_) (fun ht30=>?_)
  ·have hin : i < a.length := by simpa [aaa] using ht30
   obtain ⟨r,hr⟩:=abu hin
   have hrok:=ha r (mem_of_getElem? hr)
   refine gi (aad hr) ?_
   refine gc (agx r hrok) ?_
   refine gC (fun ht35=>?_) (fun ht35=>?_)
   ·have hrv : r.valid = false := by simpa using ht35
    refine gE1 ?_
    unfold agk
    rw [if_neg hn,if_neg]
    ·rfl
    ·rw [all_eq_true]
     intro h
     rw [h r (mem_of_getElem? hr)] at hrv; cases hrv
   ·have hrv : r.valid = true := by simpa using ht35
    refine ga aan ?_
    exact gK1 hK1 (i + 1) ⟨by omega,by rw [aam hr,all_append,hv]; simp [hrv]⟩
  ·have hin : i = a.length := by have : a.length <= i := (by simpa [aaa] using ht30); omega
   subst hin
   rw [take_length] at hv
   refine gE1 ?_
   unfold agk; rw [if_neg hn,if_pos hv]; rfl
theorem aq1 (a:List Rat) (hl:a.length <= 281474976710656):FnC prog 271 [nA a] (bl (abq a)):=by
 refine gF0 func271 ?_
 refine gl ?_
 refine gL1 [5,6] [] (fun (i:Nat)=>[(7,some (i64 i))]) (fun _=>[]) (fun i=>i <= a.length /\ abq (a.take i) = true) (fun i=>a.length - i) 0 ⟨zero_le _,by simp [abq]⟩ ?_
 rintro i ⟨hi,hv⟩ K1 hK1
 refine gC (fun ht8=>?_) (fun ht8=>?_)
 ·have hin : i < a.length := by simpa [aaa] using ht8
  obtain ⟨q,hq⟩:=abu hin
  refine gi (aad hq) ?_
  refine glG ?_
  refine glG ?_
  refine gC (fun ht24=>?_) (fun ht24=>?_)
  ·have h0:q ≠ 0:=bdl ht24
   refine gE1 ?_
   have:abq a = false:=by
    rw [Bool.eq_false_iff]
    intro h
    exact h0 (by simpa using List.all_eq_true.1 h q (mem_of_getElem? hq))
   rw [this]; rfl
  ·have h0:q = 0:=a95 ht24
   refine ga aan ?_
   exact gK1 hK1 (i + 1) ⟨by omega,by rw [aam hq]; simp only [abq,all_append,and_eq_true]; exact ⟨hv,by simp [h0]⟩⟩
 ·have hin : i = a.length := by have : a.length <= i := (by simpa [aaa] using ht8); omega
  subst hin
  rw [take_length] at hv
  refine gE1 ?_
  rw [hv]; rfl
theorem afh {n:Nat} (a:List Rat) (hn:n <= 5) (ha:Nl n a):FnC prog 195 [nA a] (nA (sh n (dec n a))):=by
 have hl:=ha.len5 hn
 rw [<- ajf ha hn]
 refine gF0 func195 ?_
 refine gl ?_
 refine gc (ags a.length (by omega)) ?_
 refine gC (fun ht13=>?_) (fun ht13=>?_)
 ·have h0:a = []:=by
   rcases ha with h | ⟨j,hj,h⟩
   ·exact h
   ·have h9:=ht13
    rw [h,(atq (by omega)).2] at h9; cases h9
  refine gs (acx T65 rfl T70 rfl rfl rfl) ?_
  refine gs (ago (.tmp rfl) rfl rfl (.tmp rfl) T65 rfl T70 rfl rfl (by simp [h0]) rfl rfl) ?_
  refine gE1 ?_
  subst h0; rfl
 ·refine gl ?_
  refine gL1 [0] [] (fun (m:Nat)=>[(5,some (i64 m))]) (fun _=>[]) (fun m=>bch a m) (fun m=>m) a.length (a89 (ha.mono hn)) ?_
  rintro m hm K1 hK1
  refine gs (acd rfl rfl rfl (fun h=>aed (.opt rfl (o1 h)) (.const _) (by omega) (acl (by have:=hm.le; omega)) rfl)) ?_
  refine gs (acd rfl rfl rfl (fun h=>aap (.opt rfl (o1 h)) (.some _ (.opt rfl (o1 h)) (by omega)) (.some _ (.opt rfl (o1 h)) (by omega)) T65 rfl T70 rfl (by omega) (by have:=hm.le; simp; omega) rfl)) ?_
  refine gcG (fun _=>(by have h9:=aq1 ((a.drop (m / 2)).take (m - m / 2)) (by simp; omega); rw [<- awv] at h9; exact h9)) ?_
  refine gC (fun ht28=>?_) (fun ht28=>?_)
  ·have h1:1 < m /\ abq ((a.drop (m / 2)).take (m - m / 2)) = true:=by
    have h9:=ht28
    by_cases h:(m:Int) > 1
    ·simp only [aaa,decide_eq_true h,cond_true] at h9; exact ⟨by omega,h9⟩
    ·simp only [aaa,decide_eq_false h,cond_false] at h9; cases h9
   refine gs (aed (.tmp rfl) (.const _) (by omega) (acl (by have:=hm.le; omega)) rfl) ?_
   exact gK1 hK1 (m / 2) (a6h hm h1.1 h1.2)
  ·have h1:1 < m -> abq ((a.drop (m / 2)).take (m - m / 2)) = false:=by
    intro h
    have h9:=ht28
    simp only [aaa,decide_eq_true (show (m:Int) > 1 by omega),cond_true] at h9
    exact h9
   refine gs (acd rfl rfl rfl (fun h=>aap (.opt rfl (o1 h)) (.none _) (.some _ (.const _) (by omega)) T65 rfl T70 rfl (by omega) (by have h8:(m:Int) = 1:=(by simpa [aaa] using h); have:=hm.le; simp only [length_map]; omega) rfl)) ?_
   refine gcG (fun _=>(by have h9:=aq1 ((a.drop 0).take 1) (by simp; omega); rw [<- awv] at h9; exact h9)) ?_
   refine gC (fun ht37=>?_) (fun ht37=>?_)
   ·have h2:m = 1 /\ abq (a.take 1) = true:=by
     have h9:=ht37
     by_cases h:m = 1
     ·rw [h] at h9; exact ⟨h,h9⟩
     ·rw [show aaa .eql (m:Int) 1 = false by simp [aaa]; omega] at h9; cases h9
    obtain ⟨rfl,h3⟩:=h2
    refine gR ?_
    exact ac7 (by rw [bac hm h3]; exact Sub.nil _ _ _)
   ·have h2:m = 1 -> abq (a.take 1) = false:=by
     intro h
     have h9:=ht37
     rw [h] at h9; exact h9
    have h3:=a8r hm h1 h2
    refine gs (acx T65 rfl T70 rfl rfl rfl) ?_
    refine gs (aap (.tmp rfl) (.none _) (.some _ (.tmp rfl) (by omega)) T65 rfl T70 rfl (by omega) (by have:=hm.le; simp; omega) rfl) ?_
    refine gs (ago (.tmp rfl) rfl rfl (.tmp rfl) T65 rfl T70 rfl rfl (by simp only [length_take,List.length_drop,length_map]; omega) rfl rfl) ?_
    refine gE1 ?_
    rw [h3]
    simp [nA,map_take]
theorem alb (d:Nat) (hd:Nat.blt d 1000 = true) (a:List Rat) (n:Nat) (hl:a.length <= n) (hn:n <= 1099511627776) :
  Con prog 209 [nA a,i64 n] [] (.ms d 3 0 n) [(d,some (.row 3 ((aax a n).map qA)))]:=by
 refine gF func209 (fun k z h=>by cases h) ?_
 refine gs (acx T65 rfl T70 rfl rfl rfl) ?_
 refine gs (aa3 (.tmp rfl) rfl rfl (.tmp rfl) T65 rfl T70 rfl rfl (by simp only [length_map]; omega) rfl rfl) ?_
 refine gW (Wk.of (sl:=[(1,some (i64 n)),(5,some (.ms 8 3 0 a.length))]) (hp:=[(8,some (.row 3 ((aax a a.length).map qA)))]) (.k (.cons rfl (Sub.of (by simp)) .nil)) (.cons rfl (BlkSub.of (by simp [aax])) .nil)) ?_ (99999,0)
 refine gW (Wk.rekey (k:=8) (d:=900) rfl rfl) ?_
 refine gL1 [1] [] (fun (i:Nat)=>[(5,some (.ms 900 3 0 i))]) (fun i=>[(900,some (.row 3 ((aax a i).map qA)))]) (fun i=>a.length <= i /\ i <= n) (fun i=>n - i) a.length ⟨le_refl _,hl⟩ ?_
 rintro i ⟨hi,hin⟩ K1 hK1
 refine gC (fun ht12=>?_) (fun ht12=>?_)
 ·have h1 : i < n := by have := ht12; simp only [aaa, decide_eq_true_eq] at this; omega
  refine gs (aa3 (.tmp rfl) rfl (by rw [length_map,abh hi]) (.tmp rfl) T65 rfl T70 rfl rfl (by simp; omega) rfl rfl) ?_
  exact gK1 hK1 (i + 1) ⟨by omega,h1⟩ (hw:=(Wk.of (sl:=[(1,some (i64 n)),(5,some (.ms 16 3 0 (i + 1)))]) (hp:=[(16,some (.row 3 ((aax a (i + 1)).map qA)))]) abl (.cons rfl (bcs a i hi) .nil)).trans <| (Wk.rekey (k:=16) (d:=900) rfl rfl).trans <| Wk.o)
 ·have h1 : i = n := by have := ht12; simp only [aaa, decide_eq_false_iff_not] at this; omega
  subst h1
  refine gR ?_
  exact Fin.own1 rfl hd rfl
theorem agh (a:List Rat) (n:Nat) (hl:a.length <= n) (hn:n <= 1099511627776):FnC prog 209 [nA a, i64 n] (nA (aax a n)):=by
 have h:=Con.freeze (by rw [length_map,abh hl]; omega) (alb 0 rfl a n hl hn)
 rw [drop_zero,take_of_length_le (by rw [length_map,abh hl]; exact le_refl _)] at h
 exact h
theorem agj (a b:List Rat) (ha:∀ q ∈ a, Qs q) (hb:∀ q ∈ b, Qs q) (la:a.length <= 1099511627776) (lb:b.length <= 1099511627776):FnC prog 126 [nA a, nA b] (nA (ac1 a b)):=by
 obtain ⟨n,hn⟩:∃ n,n = max a.length b.length:=⟨_,rfl⟩
 have hwa:=abh (show a.length <= n by omega)
 have hwb:=abh (show b.length <= n by omega)
 have hp:=abo (a:=a) (b:=b)
 rw [<- hn] at hp
 have qa:∀ q ∈ aax a n,Qs q:=fun q hq=>by rcases List.mem_append.1 hq with h | h; exact ha q h; (rw [(List.mem_replicate.1 h).2]; exact Qs.zero)
 have qb:∀ q ∈ aax b n,Qs q:=fun q hq=>by rcases List.mem_append.1 hq with h | h; exact hb q h; (rw [(List.mem_replicate.1 h).2]; exact Qs.zero)
 refine gF0 func126 ?_
 refine gl ?_
 refine gl ?_
 refine gs (a4h (.tmp rfl) (.tmp rfl) rfl) ?_ (2,0)
 refine gW (Wk.of (sl:=[(0,some (nA a)),(1,some (nA b)),(5,some (i64 n))]) (hp:=[]) (.cons rfl (.refl _) (.cons rfl (.refl _) (.cons rfl (Sub.int (by omega)) .nil))) .nil) ?_
 refine go ?_
 refine gt (aae (alb 900 rfl a n (by omega) (by omega)) (.cons (.tmp rfl) (.cons (.tmp rfl) .nil)) (by first | exact hH0 | exact hH1 rfl | exact hH2 rfl rfl) rfl rfl) ?_
 refine gc (agh b n (by omega) (by omega)) ?_
 refine gL1 [1,19] [] (fun (i:Nat)=>[(0,some (.ms 900 3 0 n)),(20,some (i64 i))]) (fun i=>[(900,some (.row 3 (((ac1 a b).take i ++ (aax a n).drop i).map qA)))]) (fun i=>i <= n) (fun i=>n - i) 0 (zero_le _) ?_
 rintro i hi K1 hK1
 refine gC (fun ht21=>?_) (fun ht21=>?_) (st2:=(8,0))
 ·have hin : i < n := by simpa [aaa] using ht21
  have hmx:=ayz (p:=ac1 a b) (w:=aax a n) (i:=i) (by omega) (by omega)
  have hqa:=(qa _ (alg (i:=i) (by omega))).ok
  have hqb:=(qb _ (alg (i:=i) (by omega))).ok
  refine gs (aaq (n:=i) (.tmp rfl) (.tmp rfl) T65 rfl T70 rfl (by omega) (by omega) rfl) ?_
  refine gs (aav (.tmp rfl) rfl (aad hmx) T70 rfl rfl rfl) ?_
  refine gi (aad (getD_some (i:=i) (l:=aax b n) (by omega))) ?_
  refine gc (ama (rt ((aax a n).getD i 0)) (rt ((aax b n).getD i 0)) hqa hqb) ?_
  refine gs (aaq (n:=i) (.tmp rfl) (.tmp rfl) T65 rfl T70 rfl (by omega) (by omega) rfl) ?_
  refine gs (abi (.tmp rfl) rfl (aad hmx) rfl (.tmp rfl) rfl rfl T70 rfl rfl) ?_
  refine gD ?_ (7,0)
  refine gW (Wk.of (sl:=[(0,some (.ms 900 3 0 n)),(1,some (nA (aax b n))),(19,some (i64 n)),(20,some (i64 i))]) (hp:=[(900,some (.row 3 (((ac1 a b).take (i + 1) ++ (aax a n).drop (i + 1)).map qA)))]) abl (.cons rfl (BlkSub.of (by rw [aun (by omega) (by omega) (by rw [a1o,<- hn,agb,agb])])) .nil)) ?_
  refine ga aan ?_
  exact gK1 hK1 (i + 1) hin
 ·have hin : i = n := by have : n <= i := (by simpa [aaa] using ht21); omega
  refine gW ((Wk.freeze (k:=900) rfl).trans <| Wk.of (sl:=[(0,some (nA (ac1 a b)))]) (hp:=[]) (.cons rfl (Sub.of (by rw [abw (by simp; omega),hin,List.drop_of_length_le (by omega),take_of_length_le (by omega),List.append_nil]; rfl)) .nil) .nil) ?_
  refine gE1 ?_
  rfl
theorem anv (a:List Rat) (ha:∀ q ∈ a, Qs q) (hl:a.length <= 1099511627776):FnC prog 127 [nA a] (nA (ab3 a)):=by
 refine gF0 func127 ?_
 refine gl ?_
 refine gW (Wk.virt 900 3 rfl) ?_
 refine gL1 [6,7] [] (fun (i:Nat)=>[(3,some (.ms 900 3 0 i)),(8,some (i64 i))]) (fun i=>[(900,some (.row 3 ((ab3 (a.take i)).map qA)))]) (fun i=>i <= a.length) (fun i=>a.length - i) 0 (zero_le _) ?_
 rintro i hi K1 hK1
 refine gC (fun ht9=>?_) (fun ht9=>?_) (st2:=(7,0))
 ·have hin : i < a.length := by simpa [aaa] using ht9
  obtain ⟨q,hq⟩:=abu hin
  have hqs:=(ha q (mem_of_getElem? hq)).ok
  refine gi (aad hq) ?_
  refine gc (axv (rt q) hqs) ?_
  refine gs (aa3 (.tmp rfl) rfl (by simp [ab3]; omega) (.tmp rfl) T65 rfl T70 rfl rfl (by simp; omega) rfl rfl) ?_ (6,0)
  refine gW (Wk.of (sl:=[(3,some (.ms 16 3 0 (i + 1))),(6,some (nA a)),(7,some (i64 a.length)),(8,some (i64 i))]) (hp:=[(16,some (.row 3 ((ab3 (a.take (i + 1))).map qA)))]) abl (.cons rfl (BlkSub.of (by rw [aam hq]; simp only [ab3,map_append,agb]; rfl)) .nil)) ?_ (6,0)
  refine gW (Wk.rekey (k:=16) (d:=900) rfl rfl) ?_
  refine ga aan ?_
  exact gK1 hK1 (i + 1) hin
 ·have hin : i = a.length := by have : a.length <= i := (by simpa [aaa] using ht9); omega
  subst hin
  refine gW ((Wk.freeze (k:=900) rfl).trans <| Wk.of (sl:=[(3,some (nA (ab3 a)))]) (hp:=[]) (.cons rfl (Sub.of (by rw [abw (by simp [ab3]),take_length]; rfl)) .nil) .nil) ?_
  refine gE1 ?_
  rfl
end Go.Lw
namespace Go.Lw
open Go.Proofs
theorem ah5 (ts:List (List Rat)) (m r:Nat) (ht:a5g ts m r) (hm:m <= 5) (R:List AV) (hR:∀ j, j < m -> R[j]? = some (nA (ts.getD j []))) (k:Nat):∀ (j:Nat) (a b:List Rat) (e f:Nat), j <= m -> j <= k -> Nl j a -> Nl j b -> Cb e a -> Cb f b -> e + f + eB r j < 4398046511104 ->
  FnC prog 211 [.agg [.lst 1 R],nA a,nA b] (nA (rT ts k a b)):=by
 induction k using Nat.strongRecOn
 rename_i k ih
 intro j a b e f hj hjk ha hb ca cb hs
 obtain ⟨nx,dx⟩:=aot ha (by omega)
 obtain ⟨ny,dy⟩:=aot hb (by omega)
 have cx:Cb e (aas 5 a):=ca.sub (fun q hq=>ahv 5 hq)
 have cy:Cb f (aas 5 b):=cb.sub (fun q hq=>ahv 5 hq)
 have k1:=afh a (by omega) ha
 have k2:=afh b (by omega) hb
 rw [<- ajf ha (by omega)] at k1
 rw [<- ajf hb (by omega)] at k2
 obtain ⟨x,hx⟩:∃ x,x = aas 5 a:=⟨_,rfl⟩
 obtain ⟨y,hy⟩:∃ y,y = aas 5 b:=⟨_,rfl⟩
 rw [<- hx] at k1 nx dx cx
 rw [<- hy] at k2 ny dy cy
 have hlx:=nx.len5 (by omega)
 have hly:=ny.len5 (by omega)
 obtain ⟨n,hn⟩:∃ n,n = max x.length y.length:=⟨_,rfl⟩
 refine gF0 func211 ?_
 refine gc k1 ?_
 refine gc k2 ?_
 refine gl ?_
 refine gl ?_
 refine gs (a4h (.tmp rfl) (.tmp rfl) rfl) ?_ (3,0)
 refine gW (Wk.of (sl:=[(1,some (nA x)),(2,some (nA y)),(3,some (.ptr 3 0)),(7,some (i64 n))]) (hp:=[(3,some (.box [.lst 1 R]))]) (.k (.k (.k (.cons rfl (Sub.int (by omega)) .nil)))) (.cons rfl (.refl _) .nil)) ?_
 refine gl ?_
 refine glG ?_
 refine gC (fun ht32=>?_) (fun ht32=>?_)
 ·have h0 : x.length = 0 \/ y.length = 0 := by have := azh ht32; omega
  refine gR ?_
  exact ac7 (by rw [a8n (by rw [<- hx,<- hy]; exact h0)]; exact Sub.nil _ _ _)
 ·have h0 : ¬ (x.length = 0 \/ y.length = 0) := by have := aty ht32; omega
  refine gC (fun ht34=>?_) (fun ht34=>?_)
  ·have h1 : max x.length y.length = 1 := by have := ht34; simp only [aaa, beq_iff_eq] at this; omega
   have e1:=bfq (ts:=ts) (k:=k) (a:=a) (b:=b) (by rw [<- hx,<- hy]; exact h0) (by rw [<- hx,<- hy]; exact h1)
   rw [<- hx,<- hy] at e1
   clear hx hy
   have lx1:x.length = 1:=by omega
   have ly1:y.length = 1:=by omega
   clear hn
   obtain ⟨p,rfl⟩:∃ p,x = [p]:=List.length_eq_one_iff.1 lx1
   obtain ⟨q,rfl⟩:∃ q,y = [q]:=List.length_eq_one_iff.1 ly1
   refine gi rfl ?_
   refine gi rfl ?_
   refine gc (avr (rt p) (rt q) (cx.qs (by omega) (by simp:p ∈ [p])).ok (cy.qs (by omega) (by simp:q ∈ [q])).ok) ?_
   refine gD ?_
   refine gE1 ?_
   rw [e1,agb,agb]; rfl
  ·have h1 : n ≠ 1 := by have := ht34; simp only [aaa, beq_eq_false_iff_ne, ne_eq] at this; omega
   obtain ⟨i,hij,hmax⟩:=(bfn nx ny h0).resolve_left (by omega)
   obtain ⟨k',rfl⟩:∃ k',k = k' + 1:=⟨k - 1,by omega⟩
   have hp2:=Nat.two_pow_pos i
   have hpi:2 ^ i <= 32:=abj (b:=5) (by omega)
   have hps:2 ^ (i + 1) = 2 * 2 ^ i:=by rw [Nat.pow_succ]; omega
   have hnn:n = 2 ^ (i + 1):=by omega
   have hes:eB r (i + 1) <= eB r j:=bf4 r hij
   have hee:eB r (i + 1) = 2 * eB r i + r + 2:=rfl
   have lx:(aax x (2 ^ (i + 1))).length = 2 ^ (i + 1):=abh (by omega)
   have ly:(aax y (2 ^ (i + 1))).length = 2 ^ (i + 1):=abh (by omega)
   obtain ⟨X,hX⟩:∃ X,X = aax x (2 ^ (i + 1)):=⟨_,rfl⟩
   obtain ⟨Y,hY⟩:∃ Y,Y = aax y (2 ^ (i + 1)):=⟨_,rfl⟩
   have cX:Cb e X:=by rw [hX]; exact cx.wide
   have cY:Cb f Y:=by rw [hY]; exact cy.wide
   rw [<- hX] at lx
   rw [<- hY] at ly
   have n1:Nl i (X.take (2 ^ i)):=.inr ⟨i,le_refl _,ado lx⟩
   have n2:Nl i (X.drop (2 ^ i)):=.inr ⟨i,le_refl _,ad7 lx⟩
   have n3:Nl i (Y.take (2 ^ i)):=.inr ⟨i,le_refl _,ado ly⟩
   have n4:Nl i (Y.drop (2 ^ i)):=.inr ⟨i,le_refl _,ad7 ly⟩
   have nd:=ht.1 i (by omega)
   have cd:=ht.2.cb i
   have s1:=af5 hm ht (k:=k') (show i <= m by omega) (by omega) n1 n3 cX.take cY.take
   have s2:=af5 hm ht (k:=k') (show i <= m by omega) (by omega) n2 n4 cX.drop cY.drop
   have s3:=af5 hm ht (k:=k') (show i <= m by omega) (by omega) s2.1 nd s2.2.2 cd
   have s4:=af5 hm ht (k:=k') (show i <= m by omega) (by omega) n1 n4 cX.take cY.drop
   have s5:=af5 hm ht (k:=k') (show i <= m by omega) (by omega) n2 n3 cX.drop cY.take
   have hrt:=a5l (ts:=ts) (k:=k') (a:=a) (b:=b) rfl (by rw [<- hx,<- hy]; exact h0) (by rw [<- hx,<- hy]; exact hmax)
   rw [<- hx,<- hy,<- hX,<- hY] at hrt
   have w1:=agh x n (by omega) (by omega)
   have w2:=agh y n (by omega) (by omega)
   rw [hnn,<- hX] at w1
   rw [hnn,<- hY] at w2
   rw [<- hnn] at w1 w2
   have pw:=ags n (by omega)
   rw [show pwk n = i + 1 by rw [hnn]; exact (atq (by omega)).1,show pwb n = true by rw [hnn]; exact (atq (by omega)).2] at pw
   refine gc w1 ?_
   refine gc w2 ?_
   refine gc pw ?_
   refine gs (aed (.tmp rfl) (.const _) (by omega) (show _ = ((2 ^ i:Nat):Int) by rw [acl (by omega),hnn,ab6]) rfl) ?_
   refine gs (aap (.tmp rfl) (.none _) (.some _ (.tmp rfl) (by omega)) T65 rfl T70 rfl (by omega) (by simp only [length_map]; omega) rfl) ?_
   refine gs (aed (.tmp rfl) (.const _) (by omega) (show _ = ((2 ^ i:Nat):Int) by rw [acl (by omega),hnn,ab6]) rfl) ?_
   refine gs (aap (.tmp rfl) (.some _ (.tmp rfl) (by omega)) (.none _) T65 rfl T70 rfl (by simp only [length_map]; omega) (by omega) rfl) ?_
   refine gs (aed (.tmp rfl) (.const _) (by omega) (show _ = ((2 ^ i:Nat):Int) by rw [acl (by omega),hnn,ab6]) rfl) ?_
   refine gs (aap (.tmp rfl) (.none _) (.some _ (.tmp rfl) (by omega)) T65 rfl T70 rfl (by omega) (by simp only [length_map]; omega) rfl) ?_
   refine gs (aed (.tmp rfl) (.const _) (by omega) (show _ = ((2 ^ i:Nat):Int) by rw [acl (by omega),hnn,ab6]) rfl) ?_
   refine gs (aap (.tmp rfl) (.some _ (.tmp rfl) (by omega)) (.none _) T65 rfl T70 rfl (by simp only [length_map]; omega) (by omega) rfl) ?_
   refine gD ?_ (10,0)
   refine gW (Wk.of (sl:=[(3,some (.ptr 3 0)),(7,some (i64 n)),(8,some (i64 ((i + 1:Nat):Int))),(10,some (nA (X.take (2 ^ i)))),(11,some (nA (X.drop (2 ^ i)))),(12,some (nA (Y.take (2 ^ i)))),(13,some (nA (Y.drop (2 ^ i))))]) (hp:=[(3,some (.box [.lst 1 R]))]) (.k (.k (.k (.cons rfl (Sub.of (ajj X (2 ^ i))) (.cons rfl (Sub.of (ag2 X (2 ^ i))) (.cons rfl (Sub.of (ajj Y (2 ^ i))) (.cons rfl (Sub.of (ag2 Y (2 ^ i))) .nil))))))) (.cons rfl (.refl _) .nil)) ?_
   refine gc (ih k' (by omega) i _ _ e f (by omega) (by omega) n1 n3 cX.take cY.take (by omega)) ?_
   refine gc (ih k' (by omega) i _ _ e f (by omega) (by omega) n2 n4 cX.drop cY.drop (by omega)) ?_
   refine ga (show _ = (i:Int) by rw [abf (by omega)]; omega) ?_
   refine gi (hR i (by omega)) ?_
   refine gc (ih k' (by omega) i _ _ _ _ (by omega) (by omega) s2.1 nd s2.2.2 cd (by omega)) ?_
   refine gc (agj _ _ (fun q hq=>s1.2.2.qs (by omega) hq) (fun q hq=>s3.2.2.qs (by omega) hq) (by have:=s1.1.le; omega) (by have:=s3.1.le; omega)) ?_
   refine gD ?_
   refine gc (ih k' (by omega) i _ _ e f (by omega) (by omega) n1 n4 cX.take cY.drop (by omega)) ?_
   refine gc (ih k' (by omega) i _ _ e f (by omega) (by omega) n2 n3 cX.drop cY.take (by omega)) ?_
   refine gc (agj _ _ (fun q hq=>s4.2.2.qs (by omega) hq) (fun q hq=>s5.2.2.qs (by omega) hq) (by have:=s4.1.le; omega) (by have:=s5.1.le; omega)) ?_
   refine gD ?_
   refine gs (aed (.tmp rfl) (.const _) (by omega) (show _ = ((2 ^ i:Nat):Int) by rw [acl (by omega),hnn,ab6]) rfl) ?_
   refine gt (aae (alb 900 rfl _ (2 ^ i) (by have:=s1.1.le; have:=s3.1.le; rw [abo]; omega) (by omega)) (.cons (.tmp rfl) (.cons (.tmp rfl) .nil)) (by first | exact hH0 | exact hH1 rfl | exact hH2 rfl rfl) rfl rfl) ?_
   refine gs (aed (.tmp rfl) (.const _) (by omega) (show _ = ((2 ^ i:Nat):Int) by rw [acl (by omega),hnn,ab6]) rfl) ?_
   refine gc (agh _ (2 ^ i) (by have:=s4.1.le; have:=s5.1.le; rw [abo]; omega) (by omega)) ?_
   refine gs (ago (.tmp rfl) rfl (by have:=s1.1.le; have:=s3.1.le; rw [length_map,abh (by rw [abo]; omega)]) (.tmp rfl) T65 rfl T70 rfl rfl (by have:=s4.1.le; have:=s5.1.le; rw [length_map,abh (by rw [abo]; omega)]; show (2 ^ i + 2 ^ i) * 56 <= 140737488355328; omega) rfl rfl) ?_
   refine gE1 ?_
   rw [hrt,<- map_append]; rfl
theorem a3o (ts:List (List Rat)) (m r:Nat) (ht:a5g ts m r) (hm:m <= 5) (R:List AV) (hR:∀ j, j < m -> R[j]? = some (nA (ts.getD j []))) (i n:Nat) (a:List Rat) (e:Nat) (hi:i + 1 <= m) (hnn:n = 2 ^ (i + 1)) (hal:a.length = 2 ^ (i + 1)) (ca:Cb e a) (hs:4 * e + 3 * eB r i + r + 1 < 4398046511104) :
  FnC prog 208 [.agg [.lst 1 R],nA a,i64 n] (nA (apf ts i a)):=by
 have hp2:=Nat.two_pow_pos i
 have hpi:2 ^ i <= 32:=abj (b:=5) (by omega)
 have hps:2 ^ (i + 1) = 2 * 2 ^ i:=by rw [Nat.pow_succ]; omega
 have n1:Nl i (a.take (2 ^ i)):=.inr ⟨i,le_refl _,ado hal⟩
 have n2:Nl i (a.drop (2 ^ i)):=.inr ⟨i,le_refl _,ad7 hal⟩
 have nd:=ht.1 i (by omega)
 have cd:=ht.2.cb i
 have s1:=af5 hm ht (k:=i) (show i <= m by omega) (by omega) n1 n1 ca.take ca.take
 have s2:=af5 hm ht (k:=i) (show i <= m by omega) (by omega) n2 n2 ca.drop ca.drop
 have s3:=af5 hm ht (k:=i) (show i <= m by omega) (by omega) s2.1 nd s2.2.2 cd
 have w1:=agh a n (by omega) (by omega)
 rw [show aax a n = a by unfold aax; rw [hnn,hal]; simp] at w1
 have pw:=ags n (by omega)
 rw [show pwk n = i + 1 by rw [hnn]; exact (atq (by omega)).1,show pwb n = true by rw [hnn]; exact (atq (by omega)).2] at pw
 refine gF0 func208 ?_
 refine gc w1 ?_
 refine gc pw ?_
 refine gs (aed (.tmp rfl) (.const _) (by omega) (show _ = ((2 ^ i:Nat):Int) by rw [acl (by omega),hnn,ab6]) rfl) ?_
 refine gs (aap (.tmp rfl) (.none _) (.some _ (.tmp rfl) (by omega)) T65 rfl T70 rfl (by omega) (by simp only [length_map]; omega) rfl) ?_
 refine gs (aed (.tmp rfl) (.const _) (by omega) (show _ = ((2 ^ i:Nat):Int) by rw [acl (by omega),hnn,ab6]) rfl) ?_
 refine gs (aap (.tmp rfl) (.some _ (.tmp rfl) (by omega)) (.none _) T65 rfl T70 rfl (by simp only [length_map]; omega) (by omega) rfl) ?_
 refine gD ?_ (4,0)
 refine gW (Wk.of (sl:=[(3,some (.ptr 3 0)),(7,some (i64 ((i + 1:Nat):Int))),(9,some (nA (a.take (2 ^ i)))),(10,some (nA (a.drop (2 ^ i))))]) (hp:=[(3,some (.box [.lst 1 R]))]) (.k (.k (.cons rfl (Sub.of (ajj a (2 ^ i))) (.cons rfl (Sub.of (ag2 a (2 ^ i))) .nil)))) (.cons rfl (.refl _) .nil)) ?_
 refine gc (ah5 ts m r ht hm R hR i i _ _ e e (by omega) (by omega) n1 n1 ca.take ca.take (by omega)) ?_
 refine gc (ah5 ts m r ht hm R hR i i _ _ e e (by omega) (by omega) n2 n2 ca.drop ca.drop (by omega)) ?_
 refine ga (show _ = (i:Int) by rw [abf (by omega)]; omega) ?_
 refine gi (hR i (by omega)) ?_
 refine gc (ah5 ts m r ht hm R hR i i _ _ _ _ (by omega) (by omega) s2.1 nd s2.2.2 cd (by omega)) ?_
 refine gc (anv _ (fun q hq=>s3.2.2.qs (by omega) hq) (by have:=s3.1.le; omega)) ?_
 refine gc (agj _ _ (fun q hq=>s1.2.2.qs (by omega) hq) (fun q hq=>s3.2.2.minus.qs (by omega) hq) (by have:=s1.1.le; omega) (by have:=s3.1.le; rw [acw]; omega)) ?_
 refine gD ?_
 refine gE1 ?_
 rfl
theorem amy (ts:List (List Rat)) (m r:Nat) (ht:a5g ts m r) (hm:m <= 5) (hpos:∀ j, j < m -> 0 <= T.sgn (aat ts) j (aat ts j)) (R:List AV) (hR:∀ j, j < m -> R[j]? = some (nA (ts.getD j []))) (j:Nat):∀ (a:List Rat) (e:Nat), j <= m -> Nl j a -> Cb e a -> sB r j e < 4398046511104 ->
  FnC prog 125 [.agg [.lst 1 R],nA a] (i64 (T.sgn (aat ts) j (dec j a))):=by
 induction j using Nat.strongRecOn
 rename_i j ih
 intro a e hj ha ca hs
 have hse:=a7s r j e
 obtain ⟨s,hsa⟩:∃ s,s = sh j (dec j a):=⟨_,rfl⟩
 have hsd:dec j s = dec j a:=by rw [hsa,acf]
 have hsn:Nl j s:=by rw [hsa]; exact anj j _
 have cs:Cb e s:=by rw [hsa]; exact ca.sh ha
 have hls:=hsn.len5 (by omega)
 rw [<- hsd]
 refine gF0 func125 ?_
 refine gc (hsa ▸ afh a (by omega) ha) ?_
 refine gl ?_
 refine gC (fun ht15=>?_) (fun ht15=>?_)
 ·have h1 : s = [] := List.length_eq_zero_iff.1 (by have := ht15; simp only [aaa, beq_iff_eq] at this; omega)
  refine gE1 ?_
  rw [h1,af3,T.sgn_zero]; rfl
 ·have h1 : s.length ≠ 0 := by have := ht15; simp only [aaa, beq_eq_false_iff_ne, ne_eq] at this; omega
  refine gl ?_
  refine gC (fun ht19=>?_) (fun ht19=>?_)
  ·have h2 : s.length = 1 := by have := ht19; simp only [aaa, beq_iff_eq] at this; omega
   obtain ⟨q,rfl⟩:=List.length_eq_one_iff.1 h2
   refine gi rfl ?_
   refine gc (aj5 (rt q) (cs.qs (by omega) (by simp:q ∈ [q])).ok) ?_
   refine gE1 ?_
   rw [ane,T.sgn_ofQ,agb]
  ·have h2 : s.length ≠ 1 := by have := ht19; simp only [aaa, beq_eq_false_iff_ne, ne_eq] at this; omega
   obtain ⟨i, hij, hsl⟩:∃ i, i + 1 <= j /\ s.length = 2 ^ (i + 1):=by
    rcases aj0 hsn with h | h | h
    ·exact absurd h h1
    ·exact absurd h h2
    ·exact h
   have hp2:=Nat.two_pow_pos i
   have hpi:2 ^ i <= 32:=abj (b:=5) (by omega)
   have hps:2 ^ (i + 1) = 2 * 2 ^ i:=by rw [Nat.pow_succ]; omega
   have n1:Nl i (s.take (2 ^ i)):=.inr ⟨i,le_refl _,ado hsl⟩
   have n2:Nl i (s.drop (2 ^ i)):=.inr ⟨i,le_refl _,ad7 hsl⟩
   have nd:=ht.1 i (by omega)
   have cd:=ht.2.cb i
   obtain ⟨nn,dn,cn⟩:=ayj hm ht (by omega) hsl cs
   have b1:sB r i (4 * e + 3 * eB r i + r + 1) <= sB r j e:=a1s r e hij
   have b2:sB r i e <= sB r i (4 * e + 3 * eB r i + r + 1):=anu r i (by omega)
   have b3:sB r i r <= sB r i (4 * e + 3 * eB r i + r + 1):=anu r i (by omega)
   have b4:=a7s r i (4 * e + 3 * eB r i + r + 1)
   have k1:=ih i (by omega) (s.take (2 ^ i)) e (by omega) n1 cs.take (by omega)
   have k2:=ih i (by omega) (s.drop (2 ^ i)) e (by omega) n2 cs.drop (by omega)
   have k3:=ih i (by omega) _ r (by omega) nd cd (by omega)
   have k4:=ih i (by omega) _ _ (by omega) nn cn (by omega)
   have v3:T.sgn (aat ts) i (dec i (ts.getD i [])) = 0 \/ T.sgn (aat ts) i (dec i (ts.getD i [])) = 1:=by
    have h9:0 <= T.sgn (aat ts) i (dec i (ts.getD i [])):=hpos i (by omega)
    have:=T.sgn_cases (aat ts) i (dec i (ts.getD i []))
    omega
   have hres:T.sgn (aat ts) j (dec j s) = T.sgn3 (T.sgn (aat ts) i (dec i (s.take (2 ^ i)))) (T.sgn (aat ts) i (dec i (s.drop (2 ^ i)))) (T.sgn (aat ts) i (dec i (ts.getD i []))) (T.sgn (aat ts) i (dec i (apf ts i s))):=by
    rw [a5o _ (by omega) hij,dn]; rfl
   rw [bd4 v3] at hres
   have v1:=T.sgn_cases (aat ts) i (dec i (s.take (2 ^ i)))
   have v2:=T.sgn_cases (aat ts) i (dec i (s.drop (2 ^ i)))
   have v4:=T.sgn_cases (aat ts) i (dec i (apf ts i s))
   have pw:=ags s.length (by omega)
   rw [show pwk s.length = i + 1 by rw [hsl]; exact (atq (by omega)).1,show pwb s.length = true by rw [hsl]; exact (atq (by omega)).2] at pw
   refine gc pw ?_
   refine ga (show _ = (i:Int) by rw [abf (by omega)]; omega) ?_
   refine gi (hR i (by omega)) ?_
   refine gs (aed (.tmp rfl) (.const _) (by omega) (show _ = ((2 ^ i:Nat):Int) by rw [acl (by omega),hsl,ab6]) rfl) ?_
   refine gs (aap (.tmp rfl) (.none _) (.some _ (.tmp rfl) (by omega)) T65 rfl T70 rfl (by omega) (by simp only [length_map]; omega) rfl) ?_
   refine gc (by have h9:=k1; rw [<- ajj] at h9; exact h9) ?_
   refine gs (aed (.tmp rfl) (.const _) (by omega) (show _ = ((2 ^ i:Nat):Int) by rw [acl (by omega),hsl,ab6]) rfl) ?_
   refine gs (aap (.tmp rfl) (.some _ (.tmp rfl) (by omega)) (.none _) T65 rfl T70 rfl (by simp only [length_map]; omega) (by omega) rfl) ?_
   refine gc (by have h9:=k2; rw [<- ag2] at h9; exact h9) ?_
   refine gc k3 ?_
   refine ga (aqd v2 (.inr v3)) ?_
   refine gD ?_
   refine gC (fun ht57=>?_) (fun ht57=>?_)
   ·have e2:=azh ht57
    refine gE1 ?_
    rw [hres,if_pos e2]
   ·have e2:=aty ht57
    refine gC (fun ht60=>?_) (fun ht60=>?_)
    ·have e3 : T.sgn (aat ts) i (dec i (s.take (2 ^ i))) = 0 := by simpa [aaa] using ht60
     refine gE1 ?_
     rw [hres,if_neg e2,if_pos e3]; rfl
    ·have e3 : ¬ T.sgn (aat ts) i (dec i (s.take (2 ^ i))) = 0 := by simpa [aaa] using ht60
     refine gc (a3o ts m r ht hm R hR i s.length s e (by omega) hsl hsl cs (by omega)) ?_
     refine gc k4 ?_
     refine ga (aqd v1 v4) ?_
     refine gD ?_
     refine gE1 ?_
     rw [hres,if_neg e2,if_neg e3]; rfl
theorem ak7 (rs:List (List Rt)) (r:Nat) (h:TR rs r):FnC prog 110 [ae6 rs] (i64 (ad8 rs)):=by
 have hll:=h.ll
 have hr:=h.le
 refine gF0 func110 ?_
 refine gl ?_
 refine gC (fun ht9=>?_) (fun ht9=>?_)
 ·have h5 : 5 < rs.length := by have := ht9; simp only [aaa, decide_eq_true_eq] at this; omega
  refine gE1 ?_
  rw [a1t h5]; rfl
 ·have h5 : rs.length <= 5 := by have := ht9; simp only [aaa, decide_eq_false_iff_not] at this; omega
  refine gl ?_
  refine gL1 [1,11,12] [1] (fun (k:Nat)=>[(13,some (i64 k))]) (fun _=>[]) (fun k=>k <= rs.length /\ ∀ j,j < k -> aza rs j) (fun k=>rs.length - k) 0 ⟨zero_le _,fun j hj=>by omega⟩ ?_
  rintro k ⟨hk,hj⟩ K1 hK1
  refine gC (fun ht14=>?_) (fun ht14=>?_)
  ·have hin : k < rs.length := by simpa [aaa] using ht14
   obtain ⟨d,hd⟩:=abu hin
   have hdm:=mem_of_getElem? hd
   have hdl:=h.len d hdm
   refine gi (aad hd) ?_
   refine gl ?_
   refine gs (ag4 (.const _) (.tmp rfl) (by omega) (aj3 (by omega)) rfl) ?_
   refine gC (fun ht22=>?_) (fun ht22=>?_)
   ·have h1 : d.length ≠ 2 ^ k := by have := ht22; simp only [aaa, bne_iff_ne, ne_eq] at this; omega
    refine gE1 ?_
    rw [a2e h5 hd hj h1]; rfl
   ·have h1 : d.length = 2 ^ k := by have := ht22; simp only [aaa, bne_eq_false_iff_eq] at this; omega
    have hnu:=an7 k (by omega) d (h.ok d hdm) hdl
    refine gc hnu ?_
    refine gC (fun ht27=>?_) (fun ht27=>?_)
    ·have h2:=af2 ht27
     refine gE1 ?_
     rw [a2l h5 hd hj h1 h2]
    ·have h2:=af4 ht27
     have hts:=axe (ts:=llq rs) (fun j hjk=>(hj j hjk).nl) h.rb
     have hq:=at1 h2 (h.ok d hdm)
     have hcb:Cb r (lq d):=by have:=h.rb.cb k; rw [aj7,getD_eq_getElem?_getD,hd] at this; exact this
     have hsg:FnC prog 125 [ae6 rs, nR d] (i64 (T.sgn (aat (llq rs)) k (dec k (lq d)))):=by
      have h9:=amy ((llq rs).take k) k r hts (by omega) (fun j hjk=>by rw [T.sgn_congr j (fun i hi=>agl (show i < k by omega)),agl hjk]; exact (hj j hjk).2.2) (rs.map nR) (fun j hjk=>bih h.ok (show k <= rs.length by omega) hj hjk) k (lq d) r (le_refl _) hq.2 hcb (a30 (le_refl k) (by have:=h.three; omega) hr (by have:=aec k; omega))
      rw [T.sgn_congr k (fun j hjk=>agl hjk)] at h9
      rw [hq.1,ae5]
      rw [<- hq.1]; exact h9
     refine gc hsg ?_
     refine gC (fun ht32=>?_) (fun ht32=>?_)
     ·have h3 : T.sgn (aat (llq rs)) k (dec k (lq d)) < 0 := by simpa [aaa] using ht32
      refine gE1 ?_
      rw [a0r h5 hd hj h1 h2 h3]; rfl
     ·have h3 : ¬ T.sgn (aat (llq rs)) k (dec k (lq d)) < 0 := by simpa [aaa] using ht32
      refine ga aan ?_
      exact gK1 hK1 (k + 1) ⟨hin,fun j hjk=>by rcases lt_or_ge j k with h9 | h9; exact hj j h9; (have:j = k:=by omega); subst this; exact a7p hd h1 h2 h3⟩
  ·have hin : k = rs.length := by have : rs.length <= k := (by simpa [aaa] using ht14); omega
   subst hin
   refine gE1 ?_
   rw [a1e h5 hj]; rfl
theorem aer (rs:List (List Rt)) (r:Nat) (h:TR rs r) (xs:List (List Rt)) (hx:∀ a ∈ xs, (∀ x ∈ a, x.ok) /\ a.length <= 281474976710656) (hl:xs.length <= 281474976710656):FnC prog 124 [ae6 rs, .lst 1 (xs.map nR)] (i64 (aa2 rs xs)):=by
 refine gF0 func124 ?_
 refine gc (ak7 rs r h) ?_
 refine gC (fun ht12=>?_) (fun ht12=>?_)
 ·have h1:=af2 ht12
  refine gE1 ?_
  rw [at5 h1]
 ·have h1:=af4 ht12
  have h5:rs.length <= 5:=by have:=(ab4 h h1).1.five; rwa [length_map] at this
  refine gl ?_
  refine gL1 [2,14,15] [2] (fun (i:Nat)=>[(16,some (i64 i))]) (fun _=>[]) (fun i=>i <= xs.length /\ ∀ x ∈ xs.take i,agk rs.length x = 0) (fun i=>xs.length - i) 0 ⟨zero_le _,fun x hx=>by simp at hx⟩ ?_
  rintro i ⟨hi,hj⟩ K1 hK1
  refine gC (fun ht17=>?_) (fun ht17=>?_)
  ·have hin : i < xs.length := by simpa [aaa] using ht17
   obtain ⟨a,ha⟩:=abu hin
   have hok:=hx a (mem_of_getElem? ha)
   refine gi (aad ha) ?_
   refine gl ?_
   refine gc (an7 rs.length h5 a hok.1 hok.2) ?_
   refine gC (fun ht26=>?_) (fun ht26=>?_)
   ·have h2:=af2 ht26
    refine gE1 ?_
    rw [arp h1 ha hj h2]
   ·have h2:=af4 ht26
    refine ga aan ?_
    exact gK1 hK1 (i + 1) ⟨hin,fun x hx=>by rw [aam ha] at hx; rcases List.mem_append.1 hx with h9 | h9; exact hj x h9; (rw [List.mem_singleton.1 h9]; exact h2)⟩
  ·have hin : i = xs.length := by have : xs.length <= i := (by simpa [aaa] using ht17); omega
   subst hin
   rw [take_length] at hj
   refine gE1 ?_
   rw [ajm h1 hj]; rfl
theorem a6q (rs:List (List Rt)) (r:Nat) (h:TR rs r) (a b:List Rt) (e f:Nat) (ha:NR a e) (hb:NR b f) (he:e + f <= lm rs.length) :
  FnC prog 200 [ae6 rs,nR a,nR b] (.tup [nA (if aa2 rs [a,b] = 0 then sh rs.length (T.add rs.length (dec rs.length (lq a)) (dec rs.length (lq b))) else []),i64 (aa2 rs [a,b])]):=by
 have hlm:=ak9 rs.length
 refine gF0 func200 ?_
 refine gc (aer rs r h [a,b] (aoa ha hb) (by simp)) ?_
 refine gC (fun ht15=>?_) (fun ht15=>?_) (st2:=(77777,0))
 ·have h1:=af2 ht15
  refine gR ?_
  exact ac6 (by rw [if_neg h1]; exact Sub.tup (.cons (.nil _ _ _) (.cons (.refl _) .nil)))
 ·have h1:=af4 ht15
  obtain ⟨h2,h3⟩:=acu h1
  obtain ⟨tw,e0⟩:=ab4 h h2
  obtain ⟨e1,na⟩:=ha.num (h3 a (by simp))
  obtain ⟨e2,nb⟩:=hb.num (h3 b (by simp))
  have h5:rs.length <= 5:=by have:=tw.five; rwa [length_map] at this
  have hla:=na.len5 h5
  have hlb:=nb.len5 h5
  have qa:∀ q ∈ lq a,Qs q:=fun q hq=>ha.cb.qs (by omega) hq
  have qb:∀ q ∈ lq b,Qs q:=fun q hq=>hb.cb.qs (by omega) hq
  have qp:∀ q ∈ ac1 (lq a) (lq b),Qs q:=fun q hq=>(ha.cb.plus hb.cb).qs (by omega) hq
  have np:=aii na nb
  refine gW (Wk.of (sl:=[(1,some (nA (lq a))),(2,some (nA (lq b))),(3,some (.ptr 3 0)),(8,some (i64 (aa2 rs [a,b])))]) (hp:=[(3,some (.box [.lst 1 (rs.map nR)]))]) (.cons rfl (Sub.of e1) (.cons rfl (Sub.of e2) (.k (.k .nil)))) (.cons rfl (.refl _) .nil)) ?_
  refine gc (agj _ _ qa qb (by omega) (by omega)) ?_
  refine gc (afh _ h5 np) ?_
  refine gE2 ?_
  rw [if_pos h1,h1,adh]; rfl
theorem a80 (rs:List (List Rt)) (r:Nat) (h:TR rs r) (a b:List Rt) (e f:Nat) (ha:NR a e) (hb:NR b f) (he:e + f <= lm rs.length) :
  FnC prog 111 [ae6 rs,nR a,nR b] (.tup [nA (if aa2 rs [a,b] = 0 then sh rs.length (T.add rs.length (dec rs.length (lq a)) (T.neg rs.length (dec rs.length (lq b)))) else []),i64 (aa2 rs [a,b])]):=by
 have hlm:=ak9 rs.length
 refine gF0 func111 ?_
 refine gc (aer rs r h [a,b] (aoa ha hb) (by simp)) ?_
 refine gC (fun ht15=>?_) (fun ht15=>?_) (st2:=(77777,0))
 ·have h1:=af2 ht15
  refine gR ?_
  exact ac6 (by rw [if_neg h1]; exact Sub.tup (.cons (.nil _ _ _) (.cons (.refl _) .nil)))
 ·have h1:=af4 ht15
  obtain ⟨h2,h3⟩:=acu h1
  obtain ⟨tw,e0⟩:=ab4 h h2
  obtain ⟨e1,na⟩:=ha.num (h3 a (by simp))
  obtain ⟨e2,nb⟩:=hb.num (h3 b (by simp))
  have h5:rs.length <= 5:=by have:=tw.five; rwa [length_map] at this
  have hla:=na.len5 h5
  have hlb:=nb.len5 h5
  have qa:∀ q ∈ lq a,Qs q:=fun q hq=>ha.cb.qs (by omega) hq
  have qb:∀ q ∈ lq b,Qs q:=fun q hq=>hb.cb.qs (by omega) hq
  have qm:∀ q ∈ ab3 (lq b),Qs q:=fun q hq=>hb.cb.minus.qs (by omega) hq
  have qp:∀ q ∈ ac1 (lq a) (ab3 (lq b)),Qs q:=fun q hq=>(ha.cb.plus hb.cb.minus).qs (by omega) hq
  have np:=aii na (agc nb)
  refine gW (Wk.of (sl:=[(1,some (nA (lq a))),(2,some (nA (lq b))),(3,some (.ptr 3 0)),(8,some (i64 (aa2 rs [a,b])))]) (hp:=[(3,some (.box [.lst 1 (rs.map nR)]))]) (.cons rfl (Sub.of e1) (.cons rfl (Sub.of e2) (.k (.k .nil)))) (.cons rfl (.refl _) .nil)) ?_
  refine gc (anv _ qb (by omega)) ?_
  refine gc (agj _ _ qa qm (by omega) (by rw [acw]; omega)) ?_
  refine gc (afh _ h5 np) ?_
  refine gE2 ?_
  rw [if_pos h1,h1,adh,aee]; rfl
theorem a8p (rs:List (List Rt)) (r:Nat) (h:TR rs r) (a b:List Rt) (e f:Nat) (ha:NR a e) (hb:NR b f) (he:e + f <= lm rs.length) :
  FnC prog 128 [ae6 rs,nR a,nR b] (.tup [nA (if aa2 rs [a,b] = 0 then sh rs.length (T.mul (aat (llq rs)) rs.length (dec rs.length (lq a)) (dec rs.length (lq b))) else []),i64 (aa2 rs [a,b])]):=by
 have hr:=h.le
 have hlm:=ak9 rs.length
 refine gF0 func128 ?_
 refine gc (aer rs r h [a,b] (aoa ha hb) (by simp)) ?_
 refine gC (fun ht15=>?_) (fun ht15=>?_) (st2:=(77777,0))
 ·have h1:=af2 ht15
  refine gR ?_
  exact ac6 (by rw [if_neg h1]; exact Sub.tup (.cons (.nil _ _ _) (.cons (.refl _) .nil)))
 ·have h1:=af4 ht15
  obtain ⟨h2,h3⟩:=acu h1
  obtain ⟨tw,e0⟩:=ab4 h h2
  obtain ⟨e1,na⟩:=ha.num (h3 a (by simp))
  obtain ⟨e2,nb⟩:=hb.num (h3 b (by simp))
  have hlen:(llq rs).length = rs.length:=length_map _
  have h5:rs.length <= 5:=by have:=tw.five; omega
  have hla:=na.len5 h5
  have hlb:=nb.len5 h5
  have htw:=tw.ok
  rw [hlen] at htw
  have hE:=a74 r h5
  have np:=af5 h5 htw (k:=rs.length) (le_refl rs.length) (le_refl _) na nb ha.cb hb.cb
  have hti:=ah5 (llq rs) rs.length r htw h5 ((llq rs).map nA) (fun j hj=>asa (by omega)) rs.length rs.length _ _ e f (le_refl _) (le_refl _) na nb ha.cb hb.cb (by omega)
  refine gW (Wk.of (sl:=[(1,some (nA (lq a))),(2,some (nA (lq b))),(3,some (.ptr 3 0)),(8,some (i64 (aa2 rs [a,b])))]) (hp:=[(3,some (.box [.lst 1 ((llq rs).map nA)]))]) (.cons rfl (Sub.of e1) (.cons rfl (Sub.of e2) (.k (.k .nil)))) (.cons rfl (BlkSub.boxL (.cons (.of (amv e0)) .nil) rfl) .nil)) ?_
  refine gc hti ?_
  refine gc (afh _ h5 np.1) ?_
  refine gE2 ?_
  rw [if_pos h1,h1,np.2.1]; rfl
theorem a79 (rs:List (List Rt)) (r:Nat) (h:TR rs r) (a b:List Rt) (e f:Nat) (ha:NR a e) (hb:NR b f) (he:e + f + 1 <= lm rs.length) :
  FnC prog 58 [ae6 rs,nR a,nR b] (.tup [i64 (if aa2 rs [a,b] = 0 then T.sgn (aat (llq rs)) rs.length (T.add rs.length (dec rs.length (lq a)) (T.neg rs.length (dec rs.length (lq b)))) else 0),i64 (aa2 rs [a,b])]):=by
 have hr:=h.le
 have hlm:=ak9 rs.length
 refine gF0 func58 ?_
 refine gc (aer rs r h [a,b] (aoa ha hb) (by simp)) ?_
 refine gC (fun ht15=>?_) (fun ht15=>?_) (st2:=(77777,0))
 ·have h1:=af2 ht15
  refine gE2 ?_
  rw [if_neg h1]; rfl
 ·have h1:=af4 ht15
  obtain ⟨h2,h3⟩:=acu h1
  obtain ⟨tw,e0⟩:=ab4 h h2
  obtain ⟨e1,na⟩:=ha.num (h3 a (by simp))
  obtain ⟨e2,nb⟩:=hb.num (h3 b (by simp))
  have hlen:(llq rs).length = rs.length:=length_map _
  have h5:rs.length <= 5:=by have:=tw.five; omega
  have hla:=na.len5 h5
  have hlb:=nb.len5 h5
  have htw:=tw.ok
  rw [hlen] at htw
  have qa:∀ q ∈ lq a,Qs q:=fun q hq=>ha.cb.qs (by omega) hq
  have qb:∀ q ∈ lq b,Qs q:=fun q hq=>hb.cb.qs (by omega) hq
  have qm:∀ q ∈ ab3 (lq b),Qs q:=fun q hq=>hb.cb.minus.qs (by omega) hq
  have np:=aii na (agc nb)
  have hsg:=amy (llq rs) rs.length r htw h5 (fun j hj=>tw.pos j (by omega)) ((llq rs).map nA) (fun j hj=>asa (by omega)) rs.length _ _ (le_refl _) np (ha.cb.plus hb.cb.minus) (a30 (le_refl rs.length) (by have:=tw.three; omega) hr (by omega))
  refine gW (Wk.of (sl:=[(1,some (nA (lq a))),(2,some (nA (lq b))),(3,some (.ptr 3 0)),(8,some (i64 (aa2 rs [a,b])))]) (hp:=[(3,some (.box [.lst 1 ((llq rs).map nA)]))]) (.cons rfl (Sub.of e1) (.cons rfl (Sub.of e2) (.k (.k .nil)))) (.cons rfl (BlkSub.boxL (.cons (.of (amv e0)) .nil) rfl) .nil)) ?_
  refine gc (anv _ qb (by omega)) ?_
  refine gc (agj _ _ qa qm (by omega) (by rw [acw]; omega)) ?_
  refine gc hsg ?_
  refine gD ?_
  refine gE2 ?_
  rw [if_pos h1,h1,adh,aee]; rfl
theorem a24 (rs:List (List Rt)) (r:Nat) (h:TR rs r) (a:List Rt) (e:Nat) (ha:NR a e) (he:e <= lm rs.length) :
  FnC prog 104 [ae6 rs,nR a] (.tup [i64 (if aa2 rs [a] = 0 then T.sgn (aat (llq rs)) rs.length (dec rs.length (lq a)) else 0),i64 (aa2 rs [a])]):=by
 have hr:=h.le
 have hlm:=ak9 rs.length
 refine gF0 func104 ?_
 refine gc (aer rs r h [a] (fun x hx=>by rw [List.mem_singleton.1 hx]; exact ⟨ha.ok,ha.len⟩) (by simp)) ?_
 refine gC (fun ht12=>?_) (fun ht12=>?_) (st2:=(77777,0))
 ·have h1:=af2 ht12
  refine gE2 ?_
  rw [if_neg h1]; rfl
 ·have h1:=af4 ht12
  obtain ⟨h2,h3⟩:=acu h1
  obtain ⟨tw,e0⟩:=ab4 h h2
  obtain ⟨e1,na⟩:=ha.num (h3 a (by simp))
  have hlen:(llq rs).length = rs.length:=length_map _
  have h5:rs.length <= 5:=by have:=tw.five; omega
  have htw:=tw.ok
  rw [hlen] at htw
  have hsg:=amy (llq rs) rs.length r htw h5 (fun j hj=>tw.pos j (by omega)) ((llq rs).map nA) (fun j hj=>asa (by omega)) rs.length _ _ (le_refl _) na ha.cb (a30 (le_refl rs.length) (by have:=tw.three; omega) hr (by omega))
  refine gW (Wk.of (sl:=[(1,some (nA (lq a))),(2,some (.ptr 2 0)),(6,some (i64 (aa2 rs [a])))]) (hp:=[(2,some (.box [.lst 1 ((llq rs).map nA)]))]) (.cons rfl (Sub.of e1) (.k (.k .nil))) (.cons rfl (BlkSub.boxL (.cons (.of (amv e0)) .nil) rfl) .nil)) ?_
  refine gc hsg ?_
  refine gE2 ?_
  rw [if_pos h1,h1]; rfl
theorem a39 (rs:List (List Rt)) (r:Nat) (h:TR rs r) (a:List Rt) (e:Nat) (ha:NR a e) (he:e <= lm rs.length) :
  FnC prog 184 [ae6 rs,nR a] (.tup [nA (if aa2 rs [a] = 0 then aax (lq a) (2 ^ rs.length) else []),i64 (aa2 rs [a])]):=by
 have hlm:=ak9 rs.length
 refine gF0 func184 ?_
 refine gc (aer rs r h [a] (fun x hx=>by rw [List.mem_singleton.1 hx]; exact ⟨ha.ok,ha.len⟩) (by simp)) ?_
 refine gC (fun ht12=>?_) (fun ht12=>?_) (st2:=(77777,0))
 ·have h1:=af2 ht12
  refine gR ?_
  exact ac6 (by rw [if_neg h1]; exact Sub.tup (.cons (.nil _ _ _) (.cons (.refl _) .nil)))
 ·have h1:=af4 ht12
  obtain ⟨h2,h3⟩:=acu h1
  obtain ⟨tw,e0⟩:=ab4 h h2
  obtain ⟨e1,na⟩:=ha.num (h3 a (by simp))
  have hlen:(llq rs).length = rs.length:=length_map _
  have h5:rs.length <= 5:=by have:=tw.five; omega
  have hp5:2 ^ rs.length <= 32:=abj (b:=5) h5
  refine gW (Wk.of (sl:=[(1,some (nA (lq a))),(2,some (.ptr 2 0)),(6,some (i64 (aa2 rs [a])))]) (hp:=[(2,some (.box [.lst 1 (rs.map nR)]))]) (.cons rfl (Sub.of e1) (.k (.k .nil))) (.cons rfl (.refl _) .nil)) ?_
  refine gl ?_
  refine gs (ag4 (.const _) (.tmp rfl) (by omega) (aj3 (by omega)) rfl) ?_
  refine gc (agh _ _ na.le (by omega)) ?_
  refine gE2 ?_
  rw [if_pos h1,h1]; rfl
theorem bdk (x:Rt) (hx:x.ok) (hs:Qs x.q):FnC prog 101 [x.av] (nA (sh 0 (x.q:Rat))):=by
 have hadd:=ama x (rt 0) hx Qs.zero.ok
 rw [bj6] at hadd
 refine gF0 func101 ?_
 refine gc (aj5 x hx) ?_
 refine gC (fun ht5=>?_) (fun ht5=>?_)
 ·have h0 : x.q = 0 := aje (by simpa [aaa] using ht5)
  refine gR ?_
  exact ac7 (by rw [h0]; exact Sub.nil _ _ _)
 ·have h0 : x.q ≠ 0 := fun h => by rw [h] at ht5; cases ht5
  refine gc (Con.subA (.cons (.refl _) (.cons ahy .nil)) hadd) ?_
  refine gE1 ?_
  have:sh 0 (x.q:Rat) = [x.q]:=if_neg h0
  rw [this]; rfl
end Go.Lw
namespace Go.Lw
open Go.Proofs
theorem bbr {p q:Rat} (hp:Qs p) (hq:Qs q):FnC prog 142 [qA p, qA q] (qA (p + q)):=by
 have h:=aef (rt p) (rt q) hp.ok hq.ok
 rw [agb,agb] at h
 exact h
theorem a9j {p q:Rat} (hp:Qs p) (hq:Qs q):FnC prog 258 [qA p, qA q] (qA (p - q)):=by
 have h:=ar0 (rt p) (rt q) hp.ok hq.ok
 rw [agb,agb] at h
 exact h
theorem a4j {p q:Rat} (hp:Qs p) (hq:Qs q):FnC prog 204 [qA p, qA q] (qA (p * q)):=by
 have h:=akr (rt p) (rt q) hp.ok hq.ok
 rw [agb,agb] at h
 exact h
theorem bm3 {p q:Rat} (hp:Qs p) (hq:Qs q):FnC prog 396 [qA p, qA q] (.tup [qA (p / q), ahr (if q = 0 then 8 else 0)]):=by
 have h:=ar7 (rt p) (rt q) hp.ok hq.ok
 rw [agb,agb] at h
 exact h
theorem bny {p:Rat} (hp:Qs p):FnC prog 69 [qA p] (qA (-p)):=by
 have h:=ag8 (rt p) hp.ok
 rw [agb] at h
 exact h
theorem bn2 {p:Rat} (hp:Qs p):FnC prog 179 [qA p] (i64 (ai2 p)):=by
 have h:=ae0 (rt p) hp.ok
 rw [agb] at h
 exact h
theorem bbc {p q:Rat} (hp:Qs p) (hq:Qs q):FnC prog 188 [qA p, qA q] (qA (p + q)):=by
 have h:=ama (rt p) (rt q) hp.ok hq.ok
 rw [agb,agb] at h
 exact h
theorem bmi {p q:Rat} (hp:Qs p) (hq:Qs q):FnC prog 192 [qA p, qA q] (qA (p - q)):=by
 have h:=awe (rt p) (rt q) hp.ok hq.ok
 rw [agb,agb] at h
 exact h
theorem bgi {p q:Rat} (hp:Qs p) (hq:Qs q):FnC prog 190 [qA p, qA q] (qA (p * q)):=by
 have h:=avr (rt p) (rt q) hp.ok hq.ok
 rw [agb,agb] at h
 exact h
theorem boa {p q:Rat} (hp:Qs p) (hq:Qs q):FnC prog 270 [qA p, qA q] (.tup [qA (p / q), i64 (if q = 0 then 8 else 0)]):=by
 have h:=ba9 (rt p) (rt q) hp.ok hq.ok
 rw [agb,agb] at h
 exact h
theorem ajg (x:Tn) (hx:x.t.ok):FnC prog 130 [x.av] (ahr x.err):=by
 refine gF0 func130 ?_
 refine gc (aci x.t hx) ?_
 refine gcG (fun _=>(ae0 x.t hx)) ?_
 refine gC (fun ht16=>?_) (fun ht16=>?_)
 ·have h0:=Tn.err_yes ht16
  refine gE1 ?_
  rw [h0]; rfl
 ·have h0:=Tn.err_no ht16
  refine gE1 ?_
  rw [h0]; rfl
theorem ap3 {p q:Rat} (hp:Qs p) (hq:Qs q):FnC prog 384 [qA p, qA q] (qA (p / q)):=by
 refine gF0 func384 ?_
 refine gc (bm3 hp hq) ?_
 refine gC (fun ht14=>?_) (fun ht14=>?_)
 ·have h0:q = 0:=by
   have:=ac3 ht14
   by_cases h:q = 0
   ·exact h
   ·rw [if_neg h] at this; exact absurd rfl this
  refine gR ?_
  exact ac7 (by rw [h0,bb1]; exact ahy)
 ·refine gE1 ?_
  rfl
theorem aiv (half:Bool) {t:Rat} {e:Nat} (ht:Qb e t) (he:e <= 1000000):FnC prog 334 [Tn.av ⟨rt t, half⟩] (.tup [qA (bbj half t), qA (bbi half t)]):=by
 have qt:Qs t:=ht.qs (by omega)
 have m2:=ht.mul ht
 have one:Qb 1 (((1:Int):Rat)):=Qb.one
 have d:=one.add m2
 refine gF0 func334 ?_
 refine gC (fun ht8=>?_) (fun ht8=>?_)
 ·have h0:half = true:=ht8
  refine gc (ad1 (-1) (by omega)) ?_
  refine gR ?_
  exact ac6 (by subst h0; exact Sub.tup (.cons (.refl _) (.cons ahy .nil)))
 ·have h0:half = false:=ht8
  refine gc (ad1 1 (by omega)) ?_
  refine gc (a4j qt qt) ?_
  refine gD ?_
  refine gc (bbr (one.qs (by omega)) (m2.qs (by omega))) ?_
  refine gc (a9j (one.qs (by omega)) (m2.qs (by omega))) ?_
  refine gc (ap3 ((one.sub m2).qs (by omega)) (d.qs (by omega))) ?_
  refine gc (bbr qt qt) ?_
  refine gc (ap3 ((ht.add ht).qs (by omega)) (d.qs (by omega))) ?_
  refine gD ?_
  refine gE2 ?_
  subst h0; rfl
theorem a4p (x:Tn) (hx:x.t.ok) {e:Nat} (hq:Qb e x.t.q) (he:e <= 1000000):FnC prog 275 [x.av] (.tup [qA (if x.err = 0 then bbj x.half x.t.q else 0), ahr x.err]):=by
 refine gF0 func275 ?_
 refine gc (ajg x hx) ?_
 refine gC (fun ht10=>?_) (fun ht10=>?_)
 ·have h1:=ac3 ht10
  refine gR ?_
  exact ac6 (by rw [if_neg h1]; exact Sub.tup (.cons ahy (.cons (.refl _) .nil)))
 ·have h1:=ac0 ht10
  have hd:=aiv x.half hq he
  rw [<- Rt.eq_rt hx (Tn.ok_valid h1)] at hd
  refine gc hd ?_
  refine gE2 ?_
  rw [if_pos h1,h1]; rfl
theorem a5d (x:Tn) (hx:x.t.ok) {e:Nat} (hq:Qb e x.t.q) (he:e <= 1000000):FnC prog 276 [x.av] (.tup [qA (if x.err = 0 then bbi x.half x.t.q else 0), ahr x.err]):=by
 refine gF0 func276 ?_
 refine gc (ajg x hx) ?_
 refine gC (fun ht10=>?_) (fun ht10=>?_)
 ·have h1:=ac3 ht10
  refine gR ?_
  exact ac6 (by rw [if_neg h1]; exact Sub.tup (.cons ahy (.cons (.refl _) .nil)))
 ·have h1:=ac0 ht10
  have hd:=aiv x.half hq he
  rw [<- Rt.eq_rt hx (Tn.ok_valid h1)] at hd
  refine gc hd ?_
  refine gE2 ?_
  rw [if_pos h1,h1]; rfl
theorem aym (x:Tn) (hx:x.t.ok):FnC prog 97 [x.av] (i64 x.err):=by
 refine gF0 func97 ?_
 refine gc (agx x.t hx) ?_
 refine gcG (fun _=>(aj5 x.t hx)) ?_
 refine gC (fun ht16=>?_) (fun ht16=>?_)
 ·have h0:=Tn.err_yes ht16
  refine gE1 ?_
  rw [h0]; rfl
 ·have h0:=Tn.err_no ht16
  refine gE1 ?_
  rw [h0]; rfl
theorem apm:FnC prog 193 [] (qA 1):=by
 refine gF0 func193 ?_
 refine gc (alw 1 (by omega)) ?_
 refine gE1 ?_
 first | rfl | (simp; done)
theorem asn {p q:Rat} (hp:Qs p) (hq:Qs q):FnC prog 191 [qA p, qA q] (qA (p / q)):=by
 refine gF0 func191 ?_
 refine gc (boa hp hq) ?_
 refine gE1 ?_
 first | rfl | (simp; done)
theorem a54 (half:Bool) {t:Rat} {e:Nat} (ht:Qb e t) (he:e <= 1000000):FnC prog 102 [Tn.av ⟨rt t, half⟩] (qA (bbj half t)):=by
 have qt:Qs t:=ht.qs (by omega)
 have m2:=ht.mul ht
 have d:=Qb.one.add m2
 refine gF0 func102 ?_
 refine gC (fun ht5=>?_) (fun ht5=>?_)
 ·have h0:half = true:=ht5
  refine gc (alw (-1) (by omega)) ?_
  refine gE1 ?_
  subst h0; rfl
 ·have h0:half = false:=ht5
  refine gc (bgi qt qt) ?_
  refine gc apm ?_
  refine gc (bmi (Qb.one.qs (by omega)) (m2.qs (by omega))) ?_
  refine gc apm ?_
  refine gc (bbc (Qb.one.qs (by omega)) (m2.qs (by omega))) ?_
  refine gc (asn ((Qb.one.sub m2).qs (by omega)) (d.qs (by omega))) ?_
  refine gD ?_
  refine gE1 ?_
  subst h0; rfl
theorem a8g (half:Bool) {t:Rat} {e:Nat} (ht:Qb e t) (he:e <= 1000000):FnC prog 103 [Tn.av ⟨rt t, half⟩] (qA (bbi half t)):=by
 have qt:Qs t:=ht.qs (by omega)
 have m2:=ht.mul ht
 have d:=Qb.one.add m2
 refine gF0 func103 ?_
 refine gC (fun ht4=>?_) (fun ht4=>?_)
 ·have h0:half = true:=ht4
  refine gR ?_
  exact ac7 (by subst h0; exact ahy)
 ·have h0:half = false:=ht4
  refine gc (bbc qt qt) ?_
  refine gc apm ?_
  refine gc (bgi qt qt) ?_
  refine gc (bbc (Qb.one.qs (by omega)) (m2.qs (by omega))) ?_
  refine gc (asn ((ht.add ht).qs (by omega)) (d.qs (by omega))) ?_
  refine gD ?_
  refine gE1 ?_
  subst h0; rfl
end Go.Lw
namespace Go.Lw
open Go.Proofs
theorem bfi {ts:List (List Rat)} {r e f:Nat} (tw:Tw ts r) {a b:List Rat} (ha:Nm ts.length e a) (hb:Nm ts.length f b) (he:e + f <= lm ts.length) :
  FnC prog 322 [aeg ts,nA a,nA b] (.tup [nA (sh ts.length (T.add ts.length (dec ts.length a) (dec ts.length b))),.v .nilIface]):=by
 have h:=ayc (ts.map (List.map rt)) r tw.tr (a.map rt) (b.map rt) e f (ha.rt (by omega)) (hb.rt (by omega)) (by rw [length_map]; exact he)
 have h0:aa2 (ts.map (List.map rt)) [a.map rt,b.map rt] = 0:=ajc tw ha hb
 rw [h0,if_pos rfl,af7,ae5,ae5,ahb,ahb,length_map] at h
 exact h
theorem bgf {ts:List (List Rat)} {r e f:Nat} (tw:Tw ts r) {a b:List Rat} (ha:Nm ts.length e a) (hb:Nm ts.length f b) (he:e + f <= lm ts.length) :
  FnC prog 321 [aeg ts,nA a,nA b] (.tup [nA (sh ts.length (T.add ts.length (dec ts.length a) (T.neg ts.length (dec ts.length b)))),.v .nilIface]):=by
 have h:=azt (ts.map (List.map rt)) r tw.tr (a.map rt) (b.map rt) e f (ha.rt (by omega)) (hb.rt (by omega)) (by rw [length_map]; exact he)
 have h0:aa2 (ts.map (List.map rt)) [a.map rt,b.map rt] = 0:=ajc tw ha hb
 rw [h0,if_pos rfl,af7,ae5,ae5,ahb,ahb,length_map] at h
 exact h
theorem bet {ts:List (List Rat)} {r e f:Nat} (tw:Tw ts r) {a b:List Rat} (ha:Nm ts.length e a) (hb:Nm ts.length f b) (he:e + f <= lm ts.length) :
  FnC prog 56 [aeg ts,nA a,nA b] (.tup [nA (sh ts.length (T.mul (aat ts) ts.length (dec ts.length a) (dec ts.length b))),.v .nilIface]):=by
 have h:=ayp (ts.map (List.map rt)) r tw.tr (a.map rt) (b.map rt) e f (ha.rt (by omega)) (hb.rt (by omega)) (by rw [length_map]; exact he)
 have h0:aa2 (ts.map (List.map rt)) [a.map rt,b.map rt] = 0:=ajc tw ha hb
 rw [h0,if_pos rfl,af7,ae5,ae5,anx,ahb,ahb,length_map] at h
 exact h
theorem a2b {ts:List (List Rat)} {r e f:Nat} (tw:Tw ts r) {a b:List Rat} (ha:Nm ts.length e a) (hb:Nm ts.length f b) (he:e + f + 1 <= lm ts.length) :
  FnC prog 57 [aeg ts,nA a,nA b] (.tup [i64 (T.sgn (aat ts) ts.length (T.add ts.length (dec ts.length a) (T.neg ts.length (dec ts.length b)))),.v .nilIface]):=by
 have h:=aqg (ts.map (List.map rt)) r tw.tr (a.map rt) (b.map rt) e f (ha.rt (by omega)) (hb.rt (by omega)) (by rw [length_map]; exact he)
 have h0:aa2 (ts.map (List.map rt)) [a.map rt,b.map rt] = 0:=ajc tw ha hb
 rw [h0,if_pos rfl,af7,ae5,ae5,anx,ahb,ahb,length_map] at h
 exact h
theorem ay5 {ts:List (List Rat)} {r e:Nat} (tw:Tw ts r) {a:List Rat} (ha:Nm ts.length e a) (he:e <= lm ts.length) :
  FnC prog 40 [aeg ts,nA a] (.tup [i64 (T.sgn (aat ts) ts.length (dec ts.length a)),.v .nilIface]):=by
 have h:=awl (ts.map (List.map rt)) r tw.tr (a.map rt) e (ha.rt he) (by rw [length_map]; exact he)
 have h0:aa2 (ts.map (List.map rt)) [a.map rt] = 0:=azz tw ha
 rw [h0,if_pos rfl,af7,ae5,anx,ahb,length_map] at h
 exact h
theorem bnl {ts:List (List Rat)} {r e f:Nat} (tw:Tw ts r) {a b:List Rat} (ha:Nm ts.length e a) (hb:Nm ts.length f b) (he:e + f <= lm ts.length) :
  FnC prog 200 [aeg ts,nA a,nA b] (.tup [nA (sh ts.length (T.add ts.length (dec ts.length a) (dec ts.length b))),i64 0]):=by
 have h:=a6q (ts.map (List.map rt)) r tw.tr (a.map rt) (b.map rt) e f (ha.rt (by omega)) (hb.rt (by omega)) (by rw [length_map]; exact he)
 have h0:aa2 (ts.map (List.map rt)) [a.map rt,b.map rt] = 0:=ajc tw ha hb
 rw [h0,if_pos rfl,af7,ae5,ae5,ahb,ahb,length_map] at h
 exact h
theorem bnj {ts:List (List Rat)} {r e f:Nat} (tw:Tw ts r) {a b:List Rat} (ha:Nm ts.length e a) (hb:Nm ts.length f b) (he:e + f <= lm ts.length) :
  FnC prog 111 [aeg ts,nA a,nA b] (.tup [nA (sh ts.length (T.add ts.length (dec ts.length a) (T.neg ts.length (dec ts.length b)))),i64 0]):=by
 have h:=a80 (ts.map (List.map rt)) r tw.tr (a.map rt) (b.map rt) e f (ha.rt (by omega)) (hb.rt (by omega)) (by rw [length_map]; exact he)
 have h0:aa2 (ts.map (List.map rt)) [a.map rt,b.map rt] = 0:=ajc tw ha hb
 rw [h0,if_pos rfl,af7,ae5,ae5,ahb,ahb,length_map] at h
 exact h
theorem bko {ts:List (List Rat)} {r e f:Nat} (tw:Tw ts r) {a b:List Rat} (ha:Nm ts.length e a) (hb:Nm ts.length f b) (he:e + f <= lm ts.length) :
  FnC prog 128 [aeg ts,nA a,nA b] (.tup [nA (sh ts.length (T.mul (aat ts) ts.length (dec ts.length a) (dec ts.length b))),i64 0]):=by
 have h:=a8p (ts.map (List.map rt)) r tw.tr (a.map rt) (b.map rt) e f (ha.rt (by omega)) (hb.rt (by omega)) (by rw [length_map]; exact he)
 have h0:aa2 (ts.map (List.map rt)) [a.map rt,b.map rt] = 0:=ajc tw ha hb
 rw [h0,if_pos rfl,af7,ae5,ae5,anx,ahb,ahb,length_map] at h
 exact h
theorem bk6 {ts:List (List Rat)} {r e f:Nat} (tw:Tw ts r) {a b:List Rat} (ha:Nm ts.length e a) (hb:Nm ts.length f b) (he:e + f + 1 <= lm ts.length) :
  FnC prog 58 [aeg ts,nA a,nA b] (.tup [i64 (T.sgn (aat ts) ts.length (T.add ts.length (dec ts.length a) (T.neg ts.length (dec ts.length b)))),i64 0]):=by
 have h:=a79 (ts.map (List.map rt)) r tw.tr (a.map rt) (b.map rt) e f (ha.rt (by omega)) (hb.rt (by omega)) (by rw [length_map]; exact he)
 have h0:aa2 (ts.map (List.map rt)) [a.map rt,b.map rt] = 0:=ajc tw ha hb
 rw [h0,if_pos rfl,af7,ae5,ae5,anx,ahb,ahb,length_map] at h
 exact h
theorem bik {ts:List (List Rat)} {r e:Nat} (tw:Tw ts r) {a:List Rat} (ha:Nm ts.length e a) (he:e <= lm ts.length) :
  FnC prog 104 [aeg ts,nA a] (.tup [i64 (T.sgn (aat ts) ts.length (dec ts.length a)),i64 0]):=by
 have h:=a24 (ts.map (List.map rt)) r tw.tr (a.map rt) e (ha.rt he) (by rw [length_map]; exact he)
 have h0:aa2 (ts.map (List.map rt)) [a.map rt] = 0:=azz tw ha
 rw [h0,if_pos rfl,af7,ae5,anx,ahb,length_map] at h
 exact h
theorem bfu {ts:List (List Rat)} {r e:Nat} (tw:Tw ts r) {a:List Rat} (ha:Nm ts.length e a) (he:e <= lm ts.length) :
  FnC prog 161 [aeg ts,nA a] (.tup [nA (sh ts.length (T.neg ts.length (dec ts.length a))),.v .nilIface]):=by
 have h:=arg (ts.map (List.map rt)) r tw.tr (a.map rt) e (ha.rt he) (by rw [length_map]; exact he)
 have h0:aa2 (ts.map (List.map rt)) [a.map rt] = 0:=azz tw ha
 rw [h0,if_pos rfl,af7,ae5,ahb,length_map] at h
 exact h
theorem a1y {ts:List (List Rat)} {r:Nat} (tw:Tw ts r):FnC prog 158 [aeg ts] (.v .nilIface):=by
 have h:=af9 (ts.map (List.map rt)) r tw.tr
 rw [tw.chk,af7] at h
 exact h
theorem awi {q:Rat} (h:Qs q):FnC prog 136 [qA q] (nA (sh 0 (q:Rat))):=by
 have h1:=a3a (rt q) h.ok (by rw [agb]; exact h)
 rw [agb] at h1
 exact h1
theorem azb {q:Rat} (h:Qs q):FnC prog 101 [qA q] (nA (sh 0 (q:Rat))):=by
 have h1:=bdk (rt q) h.ok (by rw [agb]; exact h)
 rw [agb] at h1
 exact h1
theorem aid {ts:List (List Rat)} {r e:Nat} (tw:Tw ts r) (ls:List (List Rat)) (hl:∀ l ∈ ls, Nm ts.length e l) (he:e <= lm ts.length) (hn:ls.length <= 1000):FnC prog 164 [aeg ts, .lst 1 (ls.map nA)] (.v .nilIface):=by
 refine gF0 func164 ?_
 refine gc (a1y tw) ?_
 refine gC (fun ht13=>?_) (fun ht13=>?_) (st1:=(3,0))
 ·cases ht13
 ·refine gl ?_
  refine gL1 [2,15,16] [2] (fun (i:Nat)=>[(17,some (i64 i))]) (fun _=>[]) (fun i=>i <= ls.length) (fun i=>ls.length - i) 0 (zero_le _) ?_
  rintro i hi K1 hK1
  refine gC (fun ht18=>?_) (fun ht18=>?_)
  ·have hin : i < ls.length := by simpa [aaa] using ht18
   obtain ⟨l,hll⟩:=abu hin
   have hok:=hl l (mem_of_getElem? hll)
   refine gi (aad hll) ?_
   refine gc (bfu tw hok he) ?_
   refine gC (fun ht28=>?_) (fun ht28=>?_) (st1:=(9,0))
   ·cases ht28
   ·refine ga aan ?_
    exact gK1 hK1 (i + 1) hin
  ·have hin : i = ls.length := by have : ls.length <= i := (by simpa [aaa] using ht18); omega
   refine gE1 ?_
   first | rfl | (simp; done)
theorem ac8 {ts:List (List Rat)} {r e:Nat} (tw:Tw ts r) (ps:List (List Rat × List Rat)) (hl:∀ p ∈ ps, Nm ts.length e p.1 /\ Nm ts.length e p.2) (he:e <= lm ts.length) (hn:ps.length <= 500):FnC prog 170 [aeg ts, .lst 2 (ps.map fun p=>ptA p.1 p.2)] (.v .nilIface):=by
 refine gF0 func170 ?_
 refine gl ?_
 refine gW (Wk.virt 900 1 rfl) ?_
 refine gL1 [2,8,9] [2] (fun (i:Nat)=>[(5,some (.ms 900 1 0 (2 * i))),(10,some (i64 i))]) (fun i=>[(900,some (.row 1 ((alq (ps.take i)).map nA)))]) (fun i=>i <= ps.length) (fun i=>ps.length - i) 0 (zero_le _) ?_
 rintro i hi K1 hK1
 refine gC (fun ht11=>?_) (fun ht11=>?_) (st2:=(7,0))
 ·have hin : i < ps.length := by simpa [aaa] using ht11
  obtain ⟨p,hp⟩:=abu hin
  have hfl:(alq (ps.take i)).length = 2 * i:=by rw [aln,length_take]; omega
  refine gi (aad hp) ?_
  refine gs (aa3 (.tmp rfl) rfl (by rw [length_map,hfl]) (.tmp rfl) T28 rfl T65 rfl rfl (by simp; omega) rfl rfl) ?_ (6,0)
  refine gW (Wk.of (sl:=[(2,some (.ptr 2 0)),(5,some (.ms 20 1 0 (2 * i + 2))),(8,some (.lst 2 (ps.map fun p=>ptA p.1 p.2))),(9,some (i64 ps.length)),(10,some (i64 i))]) (hp:=[(2,some (.box [.lst 1 (ts.map nA)])),(20,some (.row 1 ((alq (ps.take (i + 1))).map nA)))]) abl (.cons rfl (.refl _) (.cons rfl (BlkSub.of (by rw [aam hp,ax3,map_append]; rfl)) .nil))) ?_ (6,0)
  refine gW (Wk.rekey (k:=20) (d:=900) rfl rfl) ?_
  refine ga aan ?_
  exact gK1 hK1 (i + 1) hin
 ·have hin : i = ps.length := by have : ps.length <= i := (by simpa [aaa] using ht11); omega
  subst hin
  refine gW ((Wk.freeze (k:=900) rfl).trans <| Wk.of (sl:=[(2,some (.ptr 2 0)),(5,some (.lst 1 ((alq ps).map nA)))]) (hp:=[(2,some (.box [.lst 1 (ts.map nA)]))]) (.k (.cons rfl (Sub.of (by rw [abw (by rw [length_map,aln,length_take]; omega),take_length])) .nil)) (.cons rfl (.refl _) .nil)) ?_
  refine gc (aid tw (alq ps) (avv hl) he (by rw [aln]; omega)) ?_
  refine gE1 ?_
  first | rfl | (simp; done)
theorem ang (R:List AV) (a:List Rat):Con prog 320 [.ptr 1000 0, nA a, .v .nilIface] [(1000, some (.box [.lst 1 R, .v .nilIface]))] (nA a) [(1000, some (.box [.lst 1 R, .v .nilIface]))]:=by
 refine gF func320 (fun k z h=>ach h) ?_
 refine gC (fun ht11=>?_) (fun ht11=>?_) (st2:=(77777,0))
 ·refine gR ?_
  exact Fin.keep (aev rfl)
 ·cases ht11
theorem alr {ts:List (List Rat)} {r e f:Nat} (tw:Tw ts r) {a b:List Rat} (ha:Nm ts.length e a) (hb:Nm ts.length f b) (he:e + f <= lm ts.length) :
  Con prog 257 [.ptr 1000 0,nA a,nA b] [(1000,some (au2 ts))] (nA (sh ts.length (T.add ts.length (dec ts.length a) (dec ts.length b)))) [(1000,some (au2 ts))]:=by
 refine gF func257 (fun k z h=>ach h) ?_
 refine gc (bfi tw ha hb he) ?_
 refine gt (aae (ang _ _) (.cons (.tmp rfl) (.cons (.tmp rfl) (.cons (.tmp rfl) .nil))) (by first | exact hH0 | exact hH1 rfl | exact hH2 rfl rfl) rfl rfl) ?_
 refine gR ?_
 exact Fin.keep (aev rfl)
theorem amn {ts:List (List Rat)} {r e f:Nat} (tw:Tw ts r) {a b:List Rat} (ha:Nm ts.length e a) (hb:Nm ts.length f b) (he:e + f <= lm ts.length) :
  Con prog 255 [.ptr 1000 0,nA a,nA b] [(1000,some (au2 ts))] (nA (sh ts.length (T.add ts.length (dec ts.length a) (T.neg ts.length (dec ts.length b))))) [(1000,some (au2 ts))]:=by
 refine gF func255 (fun k z h=>ach h) ?_
 refine gc (bgf tw ha hb he) ?_
 refine gt (aae (ang _ _) (.cons (.tmp rfl) (.cons (.tmp rfl) (.cons (.tmp rfl) .nil))) (by first | exact hH0 | exact hH1 rfl | exact hH2 rfl rfl) rfl rfl) ?_
 refine gR ?_
 exact Fin.keep (aev rfl)
theorem afr {ts:List (List Rat)} {r e f:Nat} (tw:Tw ts r) {a b:List Rat} (ha:Nm ts.length e a) (hb:Nm ts.length f b) (he:e + f <= lm ts.length) :
  Con prog 256 [.ptr 1000 0,nA a,nA b] [(1000,some (au2 ts))] (nA (sh ts.length (T.mul (aat ts) ts.length (dec ts.length a) (dec ts.length b)))) [(1000,some (au2 ts))]:=by
 refine gF func256 (fun k z h=>ach h) ?_
 refine gc (bet tw ha hb he) ?_
 refine gt (aae (ang _ _) (.cons (.tmp rfl) (.cons (.tmp rfl) (.cons (.tmp rfl) .nil))) (by first | exact hH0 | exact hH1 rfl | exact hH2 rfl rfl) rfl rfl) ?_
 refine gR ?_
 exact Fin.keep (aev rfl)
theorem a8d {ts:List (List Rat)} {r e f:Nat} (tw:Tw ts r) {a b c d:List Rat} (ha:Nm ts.length e a) (hb:Nm ts.length e b) (hc:Nm ts.length f c) (hd:Nm ts.length f d) (he:2 * (e + f + kB r ts.length) <= lm ts.length) :
  Con prog 174 [.ptr 1000 0,ptA a b,ptA c d] [(1000,some (au2 ts))] (nA (sh ts.length (bjj ts (dec ts.length a) (dec ts.length b) (dec ts.length c) (dec ts.length d)))) [(1000,some (au2 ts))]:=by
 refine gF func174 (fun k z h=>ach h) ?_
 refine gt (aae (afr tw ha hc (by omega)) (.cons (.tmp rfl) (.cons (.tmp rfl) (.cons (.tmp rfl) .nil))) (by first | exact hH0 | exact hH1 rfl | exact hH2 rfl rfl) rfl rfl) ?_
 refine gt (aae (afr tw hb hd (by omega)) (.cons (.tmp rfl) (.cons (.tmp rfl) (.cons (.tmp rfl) .nil))) (by first | exact hH0 | exact hH1 rfl | exact hH2 rfl rfl) rfl rfl) ?_
 refine gt (aae (awg ▸ alr tw (ha.mul tw rfl hc) (hb.mul tw rfl hd) (by omega)) (.cons (.tmp rfl) (.cons (.tmp rfl) (.cons (.tmp rfl) .nil))) (by first | exact hH0 | exact hH1 rfl | exact hH2 rfl rfl) rfl rfl) ?_
 refine gD ?_
 refine gR ?_
 exact Fin.keep (aev rfl)
theorem aqq {ts:List (List Rat)} {r e f:Nat} (tw:Tw ts r) {a b c d:List Rat} (ha:Nm ts.length e a) (hb:Nm ts.length e b) (hc:Nm ts.length f c) (hd:Nm ts.length f d) (he:2 * (e + f + kB r ts.length) <= lm ts.length) :
  Con prog 169 [.ptr 1000 0,ptA a b,ptA c d] [(1000,some (au2 ts))] (nA (sh ts.length (an1 ts (dec ts.length a) (dec ts.length b) (dec ts.length c) (dec ts.length d)))) [(1000,some (au2 ts))]:=by
 refine gF func169 (fun k z h=>ach h) ?_
 refine gt (aae (afr tw ha hd (by omega)) (.cons (.tmp rfl) (.cons (.tmp rfl) (.cons (.tmp rfl) .nil))) (by first | exact hH0 | exact hH1 rfl | exact hH2 rfl rfl) rfl rfl) ?_
 refine gt (aae (afr tw hb hc (by omega)) (.cons (.tmp rfl) (.cons (.tmp rfl) (.cons (.tmp rfl) .nil))) (by first | exact hH0 | exact hH1 rfl | exact hH2 rfl rfl) rfl rfl) ?_
 refine gt (aae (amd ▸ amn tw (ha.mul tw rfl hd) (hb.mul tw rfl hc) (by omega)) (.cons (.tmp rfl) (.cons (.tmp rfl) (.cons (.tmp rfl) .nil))) (by first | exact hH0 | exact hH1 rfl | exact hH2 rfl rfl) rfl rfl) ?_
 refine gD ?_
 refine gR ?_
 exact Fin.keep (aev rfl)
end Go.Lw
namespace Go.Lw
open Go.Proofs
theorem anh {ts:List (List Rat)} {r e:Nat} (tw:Tw ts r) {a b c d:List Rat} (ha:Nm ts.length e a) (hb:Nm ts.length e b) (hc:Nm ts.length e c) (hd:Nm ts.length e d) (he:2 * e <= lm ts.length) :
  Con prog 172 [.ptr 1000 0,ptA a b,ptA c d] [(1000,some (au2 ts))] (ptA (sh ts.length (subT ts (dec ts.length a) (dec ts.length c))) (sh ts.length (subT ts (dec ts.length b) (dec ts.length d)))) [(1000,some (au2 ts))]:=by
 refine gF func172 (fun k z h=>ach h) ?_
 refine gt (aae (amn tw ha hc (by omega)) (.cons (.tmp rfl) (.cons (.tmp rfl) (.cons (.tmp rfl) .nil))) (by first | exact hH0 | exact hH1 rfl | exact hH2 rfl rfl) rfl rfl) ?_
 refine gt (aae (amn tw hb hd (by omega)) (.cons (.tmp rfl) (.cons (.tmp rfl) (.cons (.tmp rfl) .nil))) (by first | exact hH0 | exact hH1 rfl | exact hH2 rfl rfl) rfl rfl) ?_
 refine gD ?_
 refine gR ?_
 exact Fin.keep (aev rfl)
theorem axs (R:List AV) (a:List Rat):Con prog 197 [.ptr 1000 0, nA a] [(1000, some (.box [.lst 1 R, .v .nilIface]))] (.tup [nA a, .v .nilIface]) [(1000, some (.box [.lst 1 R, .v .nilIface]))]:=by
 refine gF func197 (fun k z h=>ach h) ?_
 refine gC (fun ht10=>?_) (fun ht10=>?_) (st1:=(2,0))
 ·cases ht10
 ·refine gR ?_
  show Fin _ (AV.tup [nA a,.v .nilIface]) _ _
  exact Fin.keep (aev rfl)
theorem aky (R:List AV) (a b:List Rat):Con prog 171 [.ptr 1000 0, ptA a b] [(1000, some (.box [.lst 1 R, .v .nilIface]))] (.tup [ptA a b, .v .nilIface]) [(1000, some (.box [.lst 1 R, .v .nilIface]))]:=by
 refine gF func171 (fun k z h=>ach h) ?_
 refine gC (fun ht10=>?_) (fun ht10=>?_) (st1:=(2,0))
 ·cases ht10
 ·refine gR ?_
  show Fin _ (AV.tup [ptA a b,.v .nilIface]) _ _
  exact Fin.keep (aev rfl)
theorem av2 {ts:List (List Rat)} {r e:Nat} (tw:Tw ts r) {a b c d p q:List Rat} (ha:Nm ts.length e a) (hb:Nm ts.length e b) (hc:Nm ts.length e c) (hd:Nm ts.length e d) (hp:Nm ts.length e p) (hq:Nm ts.length e q)
  (he:8 * e + 4 + 2 * kB r ts.length <= lm ts.length) :
  Con prog 196 [.ptr 1000 0,ptA a b,ptA c d,ptA p q] [(1000,some (au2 ts))] (nA (sh ts.length (anm ts (dec ts.length a) (dec ts.length b) (dec ts.length c) (dec ts.length d) (dec ts.length p) (dec ts.length q)))) [(1000,some (au2 ts))]:=by
 refine gF func196 (fun k z h=>ach h) ?_
 refine gt (aae (anh tw hc hd ha hb (by omega)) (.cons (.tmp rfl) (.cons (.tmp rfl) (.cons (.tmp rfl) .nil))) (by first | exact hH0 | exact hH1 rfl | exact hH2 rfl rfl) rfl rfl) ?_
 refine gt (aae (anh tw hp hq ha hb (by omega)) (.cons (.tmp rfl) (.cons (.tmp rfl) (.cons (.tmp rfl) .nil))) (by first | exact hH0 | exact hH1 rfl | exact hH2 rfl rfl) rfl rfl) ?_
 refine gt (aae (arb ▸ aqq tw (hc.sub ha) (hd.sub hb) (hp.sub ha) (hq.sub hb) (by omega)) (.cons (.tmp rfl) (.cons (.tmp rfl) (.cons (.tmp rfl) .nil))) (by first | exact hH0 | exact hH1 rfl | exact hH2 rfl rfl) rfl rfl) ?_
 refine gD ?_
 refine gR ?_
 exact Fin.keep (aev rfl)
theorem ai7 {ts:List (List Rat)} {r e:Nat} (tw:Tw ts r) {a b c d:List Rat} (ha:Nm ts.length e a) (hb:Nm ts.length e b) (hc:Nm ts.length e c) (hd:Nm ts.length e d) (he:e <= lm ts.length) (f:FuncId) (v:List Rat)
  (hf:Con prog f [.ptr 1000 0,ptA a b,ptA c d] [(1000,some (au2 ts))] (nA v) [(1000,some (au2 ts))]) :
  FnC prog 168 [aeg ts,ptA a b,ptA c d,.fn f []] (.tup [nA v,.v .nilIface]):=by
 refine gF0 func168 ?_
 refine gc (ac8 (e:=e) tw [(a,b),(c,d)] (by simp only [mem_cons,not_mem_nil,or_false]; rintro p (rfl | rfl); exact ⟨ha,hb⟩; exact ⟨hc,hd⟩) he (by simp)) ?_
 refine gC (fun ht18=>?_) (fun ht18=>?_) (st1:=(3,0))
 ·cases ht18
 ·refine gs (arf (.tmp rfl) (show Con prog f ([.ptr 22 0, ptA a b, ptA c d] ++ []) [(22, some (au2 ts))] (nA v) [(22, some (au2 ts))] from Con.rekeyB 22 rfl rfl rfl rfl hf) (.cons (.tmp rfl) (.cons (.tmp rfl) (.cons (.tmp rfl) .nil))) (by first | exact hH0 | exact hH1 rfl | exact hH2 rfl rfl) rfl rfl) ?_
  refine gt (aae (Con.rekeyB 22 rfl rfl rfl rfl (axs _ _)) (.cons (.tmp rfl) (.cons (.tmp rfl) .nil)) (by first | exact hH0 | exact hH1 rfl | exact hH2 rfl rfl) rfl rfl) ?_
  refine gE2 ?_
  rfl
theorem ap5 {ts:List (List Rat)} {r e:Nat} (tw:Tw ts r) {a b c d:List Rat} (ha:Nm ts.length e a) (hb:Nm ts.length e b) (hc:Nm ts.length e c) (hd:Nm ts.length e d) (he:2 * (e + e + kB r ts.length) <= lm ts.length) :
  FnC prog 91 [aeg ts,ptA a b,ptA c d] (.tup [nA (sh ts.length (bjj ts (dec ts.length a) (dec ts.length b) (dec ts.length c) (dec ts.length d))),.v .nilIface]):=by
 refine gF0 func91 ?_
 refine gc (Con.subA (.cons (.refl _) (.cons (.refl _) (.cons (.refl _) (.cons (Sub.fn0 _) .nil)))) (ai7 tw ha hb hc hd (by omega) _ _ (a8d tw ha hb hc hd he))) ?_
 refine gE2 ?_
 first | rfl | (simp; done)
theorem ar6 {ts:List (List Rat)} {r e:Nat} (tw:Tw ts r) {a b c d p q:List Rat} (ha:Nm ts.length e a) (hb:Nm ts.length e b) (hc:Nm ts.length e c) (hd:Nm ts.length e d) (hp:Nm ts.length e p) (hq:Nm ts.length e q)
  (he:8 * e + 10 + 2 * kB r ts.length <= lm ts.length) :
  FnC prog 307 [aeg ts,ptA a b,ptA c d,ptA p q] (.tup [i64 (T.sgn (aat ts) ts.length (anm ts (dec ts.length a) (dec ts.length b) (dec ts.length c) (dec ts.length d) (dec ts.length p) (dec ts.length q))),.v .nilIface]):=by
 have ho:=aw3 tw ha hb hc hd hp hq
 refine gF0 func307 ?_
 refine gc (ac8 (e:=e) tw [(a,b),(c,d),(p,q)] (by simp only [mem_cons,not_mem_nil,or_false]; rintro x (rfl | rfl | rfl); exact ⟨ha,hb⟩; exact ⟨hc,hd⟩; exact ⟨hp,hq⟩) (by omega) (by simp)) ?_
 refine gC (fun ht21=>?_) (fun ht21=>?_) (st1:=(3,0))
 ·cases ht21
 ·refine gt (aae (Con.rekeyB 25 rfl rfl rfl rfl (av2 tw ha hb hc hd hp hq (by omega))) (.cons (.tmp rfl) (.cons (.tmp rfl) (.cons (.tmp rfl) (.cons (.tmp rfl) .nil)))) (by first | exact hH0 | exact hH1 rfl | exact hH2 rfl rfl) rfl rfl) ?_
  refine gt (aae (Con.rekeyB 25 rfl rfl rfl rfl (axs _ _)) (.cons (.tmp rfl) (.cons (.tmp rfl) .nil)) (by first | exact hH0 | exact hH1 rfl | exact hH2 rfl rfl) rfl rfl) ?_
  refine gC (fun ht37=>?_) (fun ht37=>?_) (st1:=(7,0))
  ·cases ht37
  ·refine gc (ay5 tw ho (by omega)) ?_
   refine gE2 ?_
   rw [acf]
theorem au8 {ts:List (List Rat)} {r e:Nat} (tw:Tw ts r) {a b c d:List Rat} (ha:Nm ts.length e a) (hb:Nm ts.length e b) (hc:Nm ts.length e c) (hd:Nm ts.length e d) (he:2 * e + 1 <= lm ts.length) :
  FnC prog 306 [aeg ts,ptA a b,ptA c d] (.tup [bl (decide (T.sgn (aat ts) ts.length (subT ts (dec ts.length a) (dec ts.length c)) = 0 /\ T.sgn (aat ts) ts.length (subT ts (dec ts.length b) (dec ts.length d)) = 0)),.v .nilIface]):=by
 refine gF0 func306 ?_
 refine gc (ac8 (e:=e) tw [(a,b),(c,d)] (by simp only [mem_cons,not_mem_nil,or_false]; rintro p (rfl | rfl); exact ⟨ha,hb⟩; exact ⟨hc,hd⟩) (by omega) (by simp)) ?_
 refine gC (fun ht18=>?_) (fun ht18=>?_) (st1:=(3,0))
 ·cases ht18
 ·refine gc (a2b tw ha hc (by omega)) ?_
  refine gC (fun ht30=>?_) (fun ht30=>?_) (st1:=(6,0))
  ·cases ht30
  ·refine gc (a2b tw hb hd (by omega)) ?_
   refine gE2 ?_
   rw [<- a5m]; rfl
theorem ava {ts:List (List Rat)} {r e:Nat} (tw:Tw ts r) {a b c d:List Rat} (ha:Nm ts.length e a) (hb:Nm ts.length e b) (hc:Nm ts.length e c) (hd:Nm ts.length e d) (he:2 * (e + e + kB r ts.length) <= lm ts.length) :
  FnC prog 165 [aeg ts,nA a,nA b,ptA c d] (.tup [ptA (sh ts.length (a7z ts (dec ts.length a) (dec ts.length b) (dec ts.length c) (dec ts.length d))) (sh ts.length (a83 ts (dec ts.length a) (dec ts.length b) (dec ts.length c) (dec ts.length d))),.v .nilIface]):=by
 refine gF0 func165 ?_
 refine gc (aid (e:=e) tw [a,b,c,d] (by simp only [mem_cons,not_mem_nil,or_false]; rintro x (rfl | rfl | rfl | rfl) <;> assumption) (by omega) (by simp)) ?_
 refine gC (fun ht22=>?_) (fun ht22=>?_) (st1:=(3,0))
 ·cases ht22
 ·refine gt (aae (Con.rekeyB 27 rfl rfl rfl rfl (afr tw ha hc (by omega))) (.cons (.tmp rfl) (.cons (.tmp rfl) (.cons (.tmp rfl) .nil))) (by first | exact hH0 | exact hH1 rfl | exact hH2 rfl rfl) rfl rfl) ?_
  refine gt (aae (Con.rekeyB 27 rfl rfl rfl rfl (afr tw hb hd (by omega))) (.cons (.tmp rfl) (.cons (.tmp rfl) (.cons (.tmp rfl) .nil))) (by first | exact hH0 | exact hH1 rfl | exact hH2 rfl rfl) rfl rfl) ?_
  refine gt (aae (Con.rekeyB 27 rfl rfl rfl rfl (amd ▸ amn tw (ha.mul tw rfl hc) (hb.mul tw rfl hd) (by omega))) (.cons (.tmp rfl) (.cons (.tmp rfl) (.cons (.tmp rfl) .nil))) (by first | exact hH0 | exact hH1 rfl | exact hH2 rfl rfl) rfl rfl) ?_
  refine gt (aae (Con.rekeyB 27 rfl rfl rfl rfl (afr tw hb hc (by omega))) (.cons (.tmp rfl) (.cons (.tmp rfl) (.cons (.tmp rfl) .nil))) (by first | exact hH0 | exact hH1 rfl | exact hH2 rfl rfl) rfl rfl) ?_
  refine gt (aae (Con.rekeyB 27 rfl rfl rfl rfl (afr tw ha hd (by omega))) (.cons (.tmp rfl) (.cons (.tmp rfl) (.cons (.tmp rfl) .nil))) (by first | exact hH0 | exact hH1 rfl | exact hH2 rfl rfl) rfl rfl) ?_
  refine gt (aae (Con.rekeyB 27 rfl rfl rfl rfl (awg ▸ alr tw (hb.mul tw rfl hc) (ha.mul tw rfl hd) (by omega))) (.cons (.tmp rfl) (.cons (.tmp rfl) (.cons (.tmp rfl) .nil))) (by first | exact hH0 | exact hH1 rfl | exact hH2 rfl rfl) rfl rfl) ?_
  refine gt (aae (Con.rekeyB 27 rfl rfl rfl rfl (aky _ _ _)) (.cons (.tmp rfl) (.cons (.tmp rfl) .nil)) (by first | exact hH0 | exact hH1 rfl | exact hH2 rfl rfl) rfl rfl) ?_
  refine gD ?_
  refine gE2 ?_
  rfl
theorem a0f {ts:List (List Rat)} {r e:Nat} (tw:Tw ts r) {a b c d:List Rat} (ha:Nm ts.length e a) (hb:Nm ts.length e b) (hc:Nm ts.length e c) (hd:Nm ts.length e d) (he:2 * e <= lm ts.length) :
  FnC prog 167 [aeg ts,ptA a b,ptA c d] (.tup [ptA (sh ts.length (T.add ts.length (dec ts.length a) (dec ts.length c))) (sh ts.length (T.add ts.length (dec ts.length b) (dec ts.length d))),.v .nilIface]):=by
 refine gF0 func167 ?_
 refine gc (ac8 (e:=e) tw [(a,b),(c,d)] (by simp only [mem_cons,not_mem_nil,or_false]; rintro p (rfl | rfl); exact ⟨ha,hb⟩; exact ⟨hc,hd⟩) (by omega) (by simp)) ?_
 refine gC (fun ht16=>?_) (fun ht16=>?_) (st1:=(3,0))
 ·cases ht16
 ·refine gt (aae (Con.rekeyB 21 rfl rfl rfl rfl (alr tw ha hc (by omega))) (.cons (.tmp rfl) (.cons (.tmp rfl) (.cons (.tmp rfl) .nil))) (by first | exact hH0 | exact hH1 rfl | exact hH2 rfl rfl) rfl rfl) ?_
  refine gt (aae (Con.rekeyB 21 rfl rfl rfl rfl (alr tw hb hd (by omega))) (.cons (.tmp rfl) (.cons (.tmp rfl) (.cons (.tmp rfl) .nil))) (by first | exact hH0 | exact hH1 rfl | exact hH2 rfl rfl) rfl rfl) ?_
  refine gt (aae (Con.rekeyB 21 rfl rfl rfl rfl (aky _ _ _)) (.cons (.tmp rfl) (.cons (.tmp rfl) .nil)) (by first | exact hH0 | exact hH1 rfl | exact hH2 rfl rfl) rfl rfl) ?_
  refine gD ?_
  refine gE2 ?_
  rfl
theorem a44 {x y:Rat} (hx:Qs x) (hy:Qs y):FnC prog 166 [qA x, qA y] (ptA (sh 0 (x:Rat)) (sh 0 (y:Rat))):=by
 refine gF0 func166 ?_
 refine gc (awi hx) ?_
 refine gc (awi hy) ?_
 refine gD ?_
 refine gE1 ?_
 first | rfl | (simp; done)
theorem am7 {ts:List (List Rat)} {r e:Nat} (tw:Tw ts r) {a b c d:List Rat} (ha:Nm ts.length e a) (hb:Nm ts.length e b) (hc:Nm ts.length e c) (hd:Nm ts.length e d) {x y:Rat} (hx:Qb e x) (hy:Qb e y) (he:8 * e + 4 * kB r ts.length + 4 <= lm ts.length) :
  FnC prog 86 [aeg ts,.agg [nA a,nA b,nA c,nA d],qA x,qA y] (.tup [ptA (sh ts.length (atX ts (dec ts.length a) (dec ts.length b) (dec ts.length c) x y)) (sh ts.length (atY ts (dec ts.length a) (dec ts.length b) (dec ts.length d) x y)),.v .nilIface]):=by
 have hlm:=ak9 ts.length
 have nx:=Nm.ofQ ha.five (Cb.one hx)
 have ny:=Nm.ofQ ha.five (Cb.one hy)
 have nX:=alt tw ha hb nx ny
 have nY:=amb tw ha hb nx ny
 have z1:e <= 2 * (e + e + kB r ts.length) + 1:=by omega
 have z2:2 * (2 * (e + e + kB r ts.length) + 1) <= lm ts.length:=ba4 he
 have hadd:=a0f tw nX nY (hc.mono z1) (hd.mono z1) z2
 refine gF0 func86 ?_
 refine gc (aid (e:=e) tw [a,b,c,d] (by simp only [mem_cons,not_mem_nil,or_false]; rintro x (rfl | rfl | rfl | rfl) <;> assumption) (by omega) (by simp)) ?_
 refine gC (fun ht25=>?_) (fun ht25=>?_) (st1:=(3,0))
 ·cases ht25
 ·refine gc (a44 (hx.qs (by omega)) (hy.qs (by omega))) ?_
  refine gc (ava tw ha hb nx ny (by omega)) ?_
  refine gD ?_
  refine gC (fun ht41=>?_) (fun ht41=>?_) (st1:=(6,0))
  ·cases ht41
  ·refine gc hadd ?_
   refine gE2 ?_
   rw [aw0,avm]; rfl
end Go.Lw
namespace Go.Lw
open Go.Proofs
theorem avi (rs:List (List Rt)) (r e:Nat) (h:TR rs r) (xs:List (List Rt)) (hx:∀ a ∈ xs, NR a e) (he:e <= lm rs.length) (hl:xs.length <= 1000):FnC prog 98 [ae6 rs, .lst 1 (xs.map nR)] (i64 (aa2 rs xs)):=by
 refine gF0 func98 ?_
 refine gc (ak7 rs r h) ?_
 refine gC (fun ht13=>?_) (fun ht13=>?_)
 ·have h1:=af2 ht13
  refine gE1 ?_
  rw [at5 h1]
 ·have h1:=af4 ht13
  refine gl ?_
  refine gL1 [2,15,16] [2] (fun (i:Nat)=>[(17,some (i64 i))]) (fun _=>[]) (fun i=>i <= xs.length /\ ∀ x ∈ xs.take i,agk rs.length x = 0) (fun i=>xs.length - i) 0 ⟨zero_le _,fun x hx=>by simp at hx⟩ ?_
  rintro i ⟨hi,hj⟩ K1 hK1
  refine gC (fun ht18=>?_) (fun ht18=>?_)
  ·have hin : i < xs.length := by simpa [aaa] using ht18
   obtain ⟨a,ha⟩:=abu hin
   have hok:=hx a (mem_of_getElem? ha)
   have hone:aa2 rs [a] = agk rs.length a:=as1 h1
   refine gi (aad ha) ?_
   refine gc (a39 rs r h a e hok he) ?_
   refine gC (fun ht28=>?_) (fun ht28=>?_)
   ·have h2:=af2 ht28
    refine gE1 ?_
    rw [hone] at h2 ⊢; rw [arp h1 ha hj h2]
   ·have h2:=af4 ht28
    rw [hone] at h2
    refine ga aan ?_
    exact gK1 hK1 (i + 1) ⟨hin,fun x hx=>by rw [aam ha] at hx; rcases List.mem_append.1 hx with h9 | h9; exact hj x h9; (rw [List.mem_singleton.1 h9]; exact h2)⟩
  ·have hin : i = xs.length := by have : xs.length <= i := (by simpa [aaa] using ht18); omega
   subst hin
   rw [take_length] at hj
   refine gE1 ?_
   rw [ajm h1 hj]; rfl
theorem aj6 {ts:List (List Rat)} {r e f:Nat} (tw:Tw ts r) {a b:List Rat} (ha:Nm ts.length e a) (hb:Nm ts.length f b) (he:e + f <= lm ts.length):FnC prog 118 [aeg ts, nA a, nA b] (nA (sh ts.length (T.add ts.length (dec ts.length a) (dec ts.length b)))):=by
 refine gF0 func118 ?_
 refine gc (bnl tw ha hb he) ?_
 refine gE1 ?_
 first | rfl | (simp; done)
theorem agu {ts:List (List Rat)} {r e f:Nat} (tw:Tw ts r) {a b:List Rat} (ha:Nm ts.length e a) (hb:Nm ts.length f b) (he:e + f <= lm ts.length):FnC prog 48 [aeg ts, nA a, nA b] (nA (sh ts.length (T.add ts.length (dec ts.length a) (T.neg ts.length (dec ts.length b))))):=by
 refine gF0 func48 ?_
 refine gc (bnj tw ha hb he) ?_
 refine gE1 ?_
 first | rfl | (simp; done)
theorem ads {ts:List (List Rat)} {r e f:Nat} (tw:Tw ts r) {a b:List Rat} (ha:Nm ts.length e a) (hb:Nm ts.length f b) (he:e + f <= lm ts.length):FnC prog 59 [aeg ts, nA a, nA b] (nA (sh ts.length (T.mul (aat ts) ts.length (dec ts.length a) (dec ts.length b)))):=by
 refine gF0 func59 ?_
 refine gc (bko tw ha hb he) ?_
 refine gE1 ?_
 first | rfl | (simp; done)
theorem ash {ts:List (List Rat)} {r e:Nat} (tw:Tw ts r) {a:List Rat} (ha:Nm ts.length e a) (he:e <= lm ts.length):FnC prog 44 [aeg ts, nA a] (i64 (T.sgn (aat ts) ts.length (dec ts.length a))):=by
 refine gF0 func44 ?_
 refine gc (bik tw ha he) ?_
 refine gE1 ?_
 first | rfl | (simp; done)
theorem aca {ts:List (List Rat)} {r e f:Nat} (tw:Tw ts r) {a b:List Rat} (ha:Nm ts.length e a) (hb:Nm ts.length f b) (he:e + f + 1 <= lm ts.length):FnC prog 27 [aeg ts, nA a, nA b] (bl (eqT ts (dec ts.length a) (dec ts.length b))):=by
 refine gF0 func27 ?_
 refine gc (bk6 tw ha hb he) ?_
 refine gE1 ?_
 exact congrArg bl (a0d _)
theorem aoq {ts:List (List Rat)} {r e:Nat} (tw:Tw ts r) {a b c d:List Rat} (ha:Nm ts.length e a) (hb:Nm ts.length e b) (hc:Nm ts.length e c) (hd:Nm ts.length e d) (he:2 * e + 1 <= lm ts.length):FnC prog 187 [aeg ts, ptA a b, ptA c d] (bl (eqT ts (dec ts.length a) (dec ts.length c) && eqT ts (dec ts.length b) (dec ts.length d))):=by
 refine gF0 func187 ?_
 refine gc (aca tw ha hc (by omega)) ?_
 refine gcG (fun _=>(aca tw hb hd (by omega))) ?_
 refine gE1 ?_
 exact congrArg bl (adf _ _)
theorem axm {ts:List (List Rat)} {r e:Nat} (tw:Tw ts r) {a b c d:List Rat} (ha:Nm ts.length e a) (hb:Nm ts.length e b) (hc:Nm ts.length e c) (hd:Nm ts.length e d) (he:2 * (e + e + kB r ts.length) <= lm ts.length):FnC prog 108 [aeg ts, ptA a b, ptA c d] (nA (sh ts.length (bjj ts (dec ts.length a) (dec ts.length b) (dec ts.length c) (dec ts.length d)))):=by
 refine gF0 func108 ?_
 refine gc (ads tw ha hc (by omega)) ?_
 refine gc (ads tw hb hd (by omega)) ?_
 refine gc (awg ▸ aj6 tw (ha.mul tw rfl hc) (hb.mul tw rfl hd) (by omega)) ?_
 refine gD ?_
 refine gE1 ?_
 first | rfl | (simp; done)
theorem aq6 {ts:List (List Rat)} {r e:Nat} (tw:Tw ts r) {a b c d:List Rat} (ha:Nm ts.length e a) (hb:Nm ts.length e b) (hc:Nm ts.length e c) (hd:Nm ts.length e d) (he:2 * (e + e + kB r ts.length) <= lm ts.length):FnC prog 105 [aeg ts, ptA a b, ptA c d] (nA (sh ts.length (an1 ts (dec ts.length a) (dec ts.length b) (dec ts.length c) (dec ts.length d)))):=by
 refine gF0 func105 ?_
 refine gc (ads tw ha hd (by omega)) ?_
 refine gc (ads tw hb hc (by omega)) ?_
 refine gc (amd ▸ agu tw (ha.mul tw rfl hd) (hb.mul tw rfl hc) (by omega)) ?_
 refine gD ?_
 refine gE1 ?_
 first | rfl | (simp; done)
theorem ap8 {ts:List (List Rat)} {r e:Nat} (tw:Tw ts r) {a b c d:List Rat} (ha:Nm ts.length e a) (hb:Nm ts.length e b) (hc:Nm ts.length e c) (hd:Nm ts.length e d) (he:2 * e <= lm ts.length):FnC prog 106 [aeg ts, ptA a b, ptA c d] (ptA (sh ts.length (subT ts (dec ts.length a) (dec ts.length c))) (sh ts.length (subT ts (dec ts.length b) (dec ts.length d)))):=by
 refine gF0 func106 ?_
 refine gc (agu tw ha hc (by omega)) ?_
 refine gc (agu tw hb hd (by omega)) ?_
 refine gD ?_
 refine gE1 ?_
 first | rfl | (simp; done)
theorem avp {ts:List (List Rat)} {r e:Nat} (tw:Tw ts r) {a b c d:List Rat} (ha:Nm ts.length e a) (hb:Nm ts.length e b) (hc:Nm ts.length e c) (hd:Nm ts.length e d) (he:2 * e <= lm ts.length):FnC prog 52 [aeg ts, ptA a b, ptA c d] (ptA (sh ts.length (T.add ts.length (dec ts.length a) (dec ts.length c))) (sh ts.length (T.add ts.length (dec ts.length b) (dec ts.length d)))):=by
 refine gF0 func52 ?_
 refine gc (aj6 tw ha hc (by omega)) ?_
 refine gc (aj6 tw hb hd (by omega)) ?_
 refine gD ?_
 refine gE1 ?_
 first | rfl | (simp; done)
theorem asf {ts:List (List Rat)} {r e:Nat} (tw:Tw ts r) {a b c d:List Rat} (ha:Nm ts.length e a) (hb:Nm ts.length e b) (hc:Nm ts.length e c) (hd:Nm ts.length e d) (he:2 * (e + e + kB r ts.length) <= lm ts.length):FnC prog 53 [aeg ts, nA a, nA b, ptA c d] (ptA (sh ts.length (a7z ts (dec ts.length a) (dec ts.length b) (dec ts.length c) (dec ts.length d))) (sh ts.length (a83 ts (dec ts.length a) (dec ts.length b) (dec ts.length c) (dec ts.length d)))):=by
 refine gF0 func53 ?_
 refine gc (ads tw ha hc (by omega)) ?_
 refine gc (ads tw hb hd (by omega)) ?_
 refine gc (amd ▸ agu tw (ha.mul tw rfl hc) (hb.mul tw rfl hd) (by omega)) ?_
 refine gc (ads tw hb hc (by omega)) ?_
 refine gc (ads tw ha hd (by omega)) ?_
 refine gc (awg ▸ aj6 tw (hb.mul tw rfl hc) (ha.mul tw rfl hd) (by omega)) ?_
 refine gD ?_
 refine gE1 ?_
 first | rfl | (simp; done)
theorem au6 {ts:List (List Rat)} {r e:Nat} (tw:Tw ts r) {a b c d p q:List Rat} (ha:Nm ts.length e a) (hb:Nm ts.length e b) (hc:Nm ts.length e c) (hd:Nm ts.length e d) (hp:Nm ts.length e p) (hq:Nm ts.length e q)
  (he:8 * e + 10 + 2 * kB r ts.length <= lm ts.length) :
  FnC prog 119 [aeg ts,ptA a b,ptA c d,ptA p q] (i64 (T.sgn (aat ts) ts.length (anm ts (dec ts.length a) (dec ts.length b) (dec ts.length c) (dec ts.length d) (dec ts.length p) (dec ts.length q)))):=by
 have ho:=aw3 tw ha hb hc hd hp hq
 refine gF0 func119 ?_
 refine gc (ap8 tw hc hd ha hb (by omega)) ?_
 refine gc (ap8 tw hp hq ha hb (by omega)) ?_
 refine gc (arb ▸ aq6 tw (hc.sub ha) (hd.sub hb) (hp.sub ha) (hq.sub hb) (by omega)) ?_
 refine gc (ash tw ho (by omega)) ?_
 refine gD ?_
 refine gE1 ?_
 rw [acf]
theorem a2a {x y:Rat} (hx:Qs x) (hy:Qs y):FnC prog 199 [qA x, qA y] (ptA (sh 0 (x:Rat)) (sh 0 (y:Rat))):=by
 refine gF0 func199 ?_
 refine gc (azb hx) ?_
 refine gc (azb hy) ?_
 refine gD ?_
 refine gE1 ?_
 first | rfl | (simp; done)
theorem a0o {ts:List (List Rat)} {r e:Nat} (tw:Tw ts r) {a b c d:List Rat} (ha:Nm ts.length e a) (hb:Nm ts.length e b) (hc:Nm ts.length e c) (hd:Nm ts.length e d) {x y:Rat} (hx:Qb e x) (hy:Qb e y) (he:8 * e + 4 * kB r ts.length + 4 <= lm ts.length) :
  FnC prog 198 [aeg ts,.agg [nA a,nA b,nA c,nA d],qA x,qA y] (ptA (sh ts.length (atX ts (dec ts.length a) (dec ts.length b) (dec ts.length c) x y)) (sh ts.length (atY ts (dec ts.length a) (dec ts.length b) (dec ts.length d) x y))):=by
 have hlm:=ak9 ts.length
 have nx:=Nm.ofQ ha.five (Cb.one hx)
 have ny:=Nm.ofQ ha.five (Cb.one hy)
 have nX:=alt tw ha hb nx ny
 have nY:=amb tw ha hb nx ny
 have z1:e <= 2 * (e + e + kB r ts.length) + 1:=by omega
 have z2:2 * (2 * (e + e + kB r ts.length) + 1) <= lm ts.length:=ba4 he
 have hadd:=avp tw nX nY (hc.mono z1) (hd.mono z1) z2
 refine gF0 func198 ?_
 refine gc (a2a (hx.qs (by omega)) (hy.qs (by omega))) ?_
 refine gc (asf tw ha hb nx ny (by omega)) ?_
 refine gc hadd ?_
 refine gD ?_
 refine gE1 ?_
 rw [aw0,avm]; rfl
theorem avz (n:Int) (h:-9223372036854775808 <= n /\ n <= 9223372036854775807):FnC prog 109 [i64 n] (nA (sh 0 ((n:Rat):Rat))):=by
 refine gF0 func109 ?_
 refine gc (alw n h) ?_
 refine gc (azb (aw2 h)) ?_
 refine gE1 ?_
 first | rfl | (simp; done)
theorem aiz {ts:List (List Rat)} {r e:Nat} (tw:Tw ts r) {a b c d p q u v:List Rat} (ha:Nm ts.length e a) (hb:Nm ts.length e b) (hc:Nm ts.length e c) (hd:Nm ts.length e d) (hp:Nm ts.length e p) (hq:Nm ts.length e q) (hu:Nm ts.length e u) (hv:Nm ts.length e v) (he:2 * e + 1 <= lm ts.length) :
  FnC prog 47 [aeg ts,.agg [nA a,nA b,nA c,nA d],.agg [nA p,nA q,nA u,nA v]] (bl (eqT ts (dec ts.length a) (dec ts.length p) && eqT ts (dec ts.length b) (dec ts.length q) && eqT ts (dec ts.length c) (dec ts.length u) && eqT ts (dec ts.length d) (dec ts.length v))):=by
 refine gF0 func47 ?_
 refine gc (aca tw ha hp (by omega)) ?_
 refine gcG (fun _=>(aca tw hb hq (by omega))) ?_
 refine gcG (fun _=>(aca tw hc hu (by omega))) ?_
 refine gcG (fun _=>(aca tw hd hv (by omega))) ?_
 refine gE1 ?_
 exact congrArg bl (awp _ _ _ _)
theorem ayk:FnC prog 185 [] (.agg [nA [1], nA [], nA [], nA []]):=by
 refine gF0 func185 ?_
 refine gc (alw 1 (by omega)) ?_
 refine gc (azb (aw2 (n:=1) (by omega))) ?_
 refine gR ?_
 exact ac7 (.agg (.cons (.refl _) (.cons (.nil _ _ _) (.cons (.nil _ _ _) (.cons (.nil _ _ _) .nil)))) rfl)
end Go.Lw
namespace Go.Lw
open Go.Proofs
end Go.Lw
namespace Go.Lw
open Go.Proofs
section
variable {ts:List (List Rat)} {u k:Nat} {a b a2 b2:List Rat} {x y x2 y2:Et ts} {w v w' v' w2 v2 w3 v3:Nat}
theorem a3r (c:Ct ts u k) {R:Nat} (h:eB R ts.length <= k):2 * (2500 * 1000000 + 2500 * 1000000 + kB R ts.length) <= lm ts.length:=by
 have h1:=c.kk h
 have h2:=aec ts.length
 omega
theorem asc [c : Ct ts u k] [ha : Zl ts u k a x w v] [hb : Zl ts u k b y w' v'] [ha2 : Zl ts u k a2 x2 w2 v2] [hb2 : Zl ts u k b2 y2 w3 v3] (h : w + v + (w' + v') + (w2 + v2 + (w3 + v3)) <= 2500 := by decide) :
  FnC prog 106 [aeg ts,ptA a b,ptA a2 b2] (ptA (sX (x - x2)) (sX (y - y2))):=by
 obtain ⟨R,tw,hk⟩:=c.ex
 have h0:=a3r c hk
 have h1:=ap8 (e:=2500 * 1000000) tw (ha.up c (by omega)) (hb.up c (by omega)) (ha2.up c (by omega)) (hb2.up c (by omega)) (by omega)
 rw [ha.eq,hb.eq,ha2.eq,hb2.eq] at h1
 exact h1
theorem a9i [c : Ct ts u k] [ha : Zl ts u k a x w v] [hb : Zl ts u k b y w' v'] [ha2 : Zl ts u k a2 x2 w2 v2] [hb2 : Zl ts u k b2 y2 w3 v3] (h : w + v + (w' + v') + (w2 + v2 + (w3 + v3)) <= 2500 := by decide) :
  FnC prog 108 [aeg ts,ptA a b,ptA a2 b2] (nA (sX (dotE x y x2 y2))):=by
 obtain ⟨R,tw,hk⟩:=c.ex
 have h0:=a3r c hk
 have h1:=axm (e:=2500 * 1000000) tw (ha.up c (by omega)) (hb.up c (by omega)) (ha2.up c (by omega)) (hb2.up c (by omega)) (by omega)
 rw [ha.eq,hb.eq,ha2.eq,hb2.eq] at h1
 exact h1
theorem a15 [c : Ct ts u k] [ha : Zl ts u k a x w v] [hb : Zl ts u k b y w' v'] [ha2 : Zl ts u k a2 x2 w2 v2] [hb2 : Zl ts u k b2 y2 w3 v3] (h : w + v + (w' + v') + (w2 + v2 + (w3 + v3)) <= 2500 := by decide) :
  FnC prog 105 [aeg ts,ptA a b,ptA a2 b2] (nA (sX (crsE x y x2 y2))):=by
 obtain ⟨R,tw,hk⟩:=c.ex
 have h0:=a3r c hk
 have h1:=aq6 (e:=2500 * 1000000) tw (ha.up c (by omega)) (hb.up c (by omega)) (ha2.up c (by omega)) (hb2.up c (by omega)) (by omega)
 rw [ha.eq,hb.eq,ha2.eq,hb2.eq] at h1
 exact h1
theorem a9u [c : Ct ts u k] [ha : Zl ts u k a x w v] [hb : Zl ts u k b y w' v'] [ha2 : Zl ts u k a2 x2 w2 v2] [hb2 : Zl ts u k b2 y2 w3 v3] (h : w + v + (w' + v') + (w2 + v2 + (w3 + v3)) <= 2500 := by decide) :
  FnC prog 91 [aeg ts,ptA a b,ptA a2 b2] (.tup [nA (sX (dotE x y x2 y2)),.v .nilIface]):=by
 obtain ⟨R,tw,hk⟩:=c.ex
 have h0:=a3r c hk
 have h1:=ap5 (e:=2500 * 1000000) tw (ha.up c (by omega)) (hb.up c (by omega)) (ha2.up c (by omega)) (hb2.up c (by omega)) (by omega)
 rw [ha.eq,hb.eq,ha2.eq,hb2.eq] at h1
 exact h1
def atXE (c s X:Et ts) (p q:Rat):Et ts:=(c * qE p - s * qE q) + X
def atYE (c s Y:Et ts) (p q:Rat):Et ts:=(s * qE p + c * qE q) + Y
instance Zu.atXE [c:Ct ts u k] {x y z:Et ts} {p q:Rat} {w1 v1 w2 v2 w3 v3 w4 w5:Nat} [Zu u k x w1 v1] [Zu u k y w2 v2] [Zu u k z w3 v3] [Qz u p w4] [Qz u q w5]:Zu u k (atXE x y z p q) (w1 + w4 + (w2 + w5) + w3) (v1 + 0 + 1 + (v2 + 0 + 1) + 1 + v3 + 1) :=
  (inferInstance:Zu u k ((x * Lw.qE p - y * Lw.qE q) + z) _ _)
instance Zu.atYE [c:Ct ts u k] {x y z:Et ts} {p q:Rat} {w1 v1 w2 v2 w3 v3 w4 w5:Nat} [Zu u k x w1 v1] [Zu u k y w2 v2] [Zu u k z w3 v3] [Qz u p w4] [Qz u q w5]:Zu u k (atYE x y z p q) (w2 + w4 + (w1 + w5) + w3) (v2 + 0 + 1 + (v1 + 0 + 1) + 1 + v3 + 1) :=
  (inferInstance:Zu u k ((y * Lw.qE p + x * Lw.qE q) + z) _ _)
end
end Go.Lw
namespace Go.Lw
open Go.Proofs
def u8 (n:Nat):AV:=.v (.int .u8 n)
theorem aq7 {p q:Bool} {a b:Nat} {c:Nat} (hp:p = decide (a <= c)) (hq:q = decide (c <= b)):cond p q false = decide (a <= c /\ c <= b):=by
 subst hp; subst hq
 by_cases h:a <= c
 ·simp [h]
 ·simp [h]
theorem a9e (c k:Nat):aaa .geq (c:Int) (k:Int) = decide (k <= c):=by simp only [aaa,decide_eq_decide]; omega
theorem a9a (c k:Nat):aaa .leq (c:Int) (k:Int) = decide (c <= k):=by simp only [aaa,decide_eq_decide]; omega
theorem bcm (c:Nat):cond (cond (aaa .geq (c:Int) 97) (aaa .leq (c:Int) 122) false) true (cond (aaa .geq (c:Int) 65) (aaa .leq (c:Int) 90) false) = acb c:=by
 have e1:cond (aaa .geq (c:Int) 97) (aaa .leq (c:Int) 122) false = decide (97 <= c /\ c <= 122):=aq7 (a9e c 97) (a9a c 122)
 have e2:cond (aaa .geq (c:Int) 65) (aaa .leq (c:Int) 90) false = decide (65 <= c /\ c <= 90):=aq7 (a9e c 65) (a9a c 90)
 rw [e1,e2]
 unfold acb
 cases decide (97 <= c /\ c <= 122) <;> rfl
theorem bdr (c:Nat):cond (cond (aaa .geq (c:Int) 65) (aaa .leq (c:Int) 90) false) true (cond (aaa .geq (c:Int) 97) (aaa .leq (c:Int) 122) false) = acb c:=by
 have e1:cond (aaa .geq (c:Int) 97) (aaa .leq (c:Int) 122) false = decide (97 <= c /\ c <= 122):=aq7 (a9e c 97) (a9a c 122)
 have e2:cond (aaa .geq (c:Int) 65) (aaa .leq (c:Int) 90) false = decide (65 <= c /\ c <= 90):=aq7 (a9e c 65) (a9a c 90)
 rw [e1,e2]
 unfold acb
 cases decide (97 <= c /\ c <= 122) <;> cases decide (65 <= c /\ c <= 90) <;> rfl
theorem a6l (c:Nat):cond (aaa .geq (c:Int) 48) (aaa .leq (c:Int) 57) false = ar9 c:=aq7 (a9e c 48) (a9a c 57)
theorem a6d (c:Nat):cond (cond (acb c) true (ar9 c)) true (aaa .eql (c:Int) 95) = apj c:=by
 unfold apj
 have:aaa .eql (c:Int) 95 = decide (c = 95):=by
  rw [Bool.eq_iff_iff]; simp only [aaa,beq_iff_eq,decide_eq_true_eq]; omega
 rw [this]
 cases acb c <;> cases ar9 c <;> rfl
theorem ake (c:Nat):FnC prog 290 [u8 c] (bl (acb c)):=by
 refine gF0 func290 ?_
 refine gE1 ?_
 exact congrArg bl (bcm c)
theorem at8 (c:Nat):FnC prog 358 [u8 c] (bl (ar9 c)):=by
 refine gF0 func358 ?_
 refine gE1 ?_
 exact congrArg bl (a6l c)
theorem awb (c:Nat):FnC prog 291 [u8 c] (bl (apj c)):=by
 refine gF0 func291 ?_
 refine gc (ake c) ?_
 refine gcG (fun _=>(at8 c)) ?_
 refine gE1 ?_
 exact congrArg bl (a6d c)
theorem akn (c:Nat):FnC prog 234 [u8 c] (bl (acb c)):=by
 refine gF0 func234 ?_
 refine gE1 ?_
 exact congrArg bl (bdr c)
theorem aul (c:Nat):FnC prog 236 [u8 c] (bl (ar9 c)):=by
 refine gF0 func236 ?_
 refine gE1 ?_
 exact congrArg bl (a6l c)
theorem awz (s:ByteArray) (hs:s.size <= 281474976710656):FnC prog 222 [.v (.string s)] (i64 (ag1 s)):=by
 refine gF0 func222 ?_
 refine gs (acd rfl rfl rfl (fun h=>amk (.opt rfl (o1 h)) (.const _) T9 rfl (by omega) (by have:=a5x h; omega) rfl)) ?_
 refine gcG (fun _=>(ake (acz s 0))) ?_
 refine gC (fun ht11=>?_) (fun ht11=>?_)
 ·have h0:ag1 s = 0:=a9o ht11
  refine gE1 ?_
  rw [h0]; rfl
 ·obtain ⟨h0, h1⟩:=a7a ht11
  refine gL1 [0] [] (fun (n:Nat)=>[(3,some (i64 n))]) (fun _=>[]) (fun n=>1 <= n /\ n <= s.size /\ ahh s 1 (s.size - 1) = ahh s n (s.size - n)) (fun n=>s.size - n) 1 ⟨le_refl _,h0,rfl⟩ ?_
  rintro n ⟨hn1,hn,hw⟩ K1 hK1
  refine gs (acd rfl rfl rfl (fun h=>amk (.opt rfl (o1 h)) (.opt rfl (o1 h)) T9 rfl (by omega) (by have:=aa0 h; omega) rfl)) ?_
  refine gcG (fun _=>(awb (acz s n))) ?_
  refine gC (fun ht21=>?_) (fun ht21=>?_)
  ·have h2:n < s.size /\ apj (acz s n) = true:=bek ht21
   refine ga aan ?_
   exact gK1 hK1 (n + 1) ⟨by omega,by omega,by rw [hw,show s.size - n = (s.size - (n + 1)) + 1 by omega]; simp only [ahh,h2.2,if_true]⟩
  ·have h2:n < s.size -> apj (acz s n) = false:=a71 ht21
   have h3:ag1 s = n:=by
    unfold ag1
    rw [if_pos ⟨h0,h1⟩,hw]
    rcases lt_or_ge n s.size with h | h
    ·rw [show s.size - n = (s.size - (n + 1)) + 1 by omega]
     simp only [ahh,h2 h,Bool.false_eq_true,if_false]
    ·rw [show s.size - n = 0 by omega]; rfl
   refine gE1 ?_
   rw [h3]
theorem aft (s:ByteArray) (hs:s.size <= 281474976710656):FnC prog 138 [.v (.string s)] (bl (ak1 s)):=by
 refine gF0 func138 ?_
 refine gc (awz s hs) ?_
 refine gE1 ?_
 exact congrArg bl (ba3 s)
theorem aos (s:ByteArray) (i:Nat):FnC prog 235 [.v (.string s), i64 i] (u8 (acz s i)):=by
 refine gF0 func235 ?_
 refine gC (fun ht8=>?_) (fun ht8=>?_)
 ·have h0:=aa0 ht8
  refine gs (amk (.tmp rfl) (.tmp rfl) T9 rfl (by omega) (by omega) rfl) ?_
  refine gE1 ?_
  rfl
 ·have h0:=a7l ht8
  refine gE1 ?_
  rw [a00 (by omega)]; rfl
theorem ath (s:ByteArray) (hs:s.size <= 281474976710656):FnC prog 147 [.v (.string s), i64 0] (i64 ((if acb (acz s 0) then ahh s 0 s.size else 0:Nat))):=by
 refine gF0 func147 ?_
 refine gc (aos s 0) ?_
 refine gc (akn (acz s 0)) ?_
 refine gC (fun ht9=>?_) (fun ht9=>?_)
 ·have h0 : acb (acz s 0) = false := by simpa using ht9
  refine gE1 ?_
  rw [h0]; rfl
 ·have h0 : acb (acz s 0) = true := by simpa using ht9
  refine gL1 [0] [] (fun (n:Nat)=>[(1,some (i64 n))]) (fun _=>[]) (fun n=>n <= s.size /\ ahh s 0 s.size = ahh s n (s.size - n)) (fun n=>s.size - n) 0 ⟨zero_le _,rfl⟩ ?_
  rintro n ⟨hn,hw⟩ K1 hK1
  refine gc (aos s n) ?_
  refine gc (akn (acz s n)) ?_
  refine gcG (fun _=>(aos s n)) ?_
  refine gcG (fun _=>(aul (acz s n))) ?_
  refine gcG (fun _=>(aos s n)) ?_
  refine gC (fun ht26=>?_) (fun ht26=>?_)
  ·have h1:apj (acz s n) = true:=(a6d _).symm.trans ht26
   have h2:n < s.size:=by
    rcases lt_or_ge n s.size with h | h
    ·exact h
    ·rw [a00 h] at h1; cases h1
   refine ga aan ?_
   exact gK1 hK1 (n + 1) ⟨by omega,by rw [hw,show s.size - n = (s.size - (n + 1)) + 1 by omega]; simp only [ahh,h1,if_true]⟩
  ·have h1:apj (acz s n) = false:=(a6d _).symm.trans ht26
   have h2:ahh s 0 s.size = n:=by
    rw [hw]
    rcases lt_or_ge n s.size with h | h
    ·rw [show s.size - n = (s.size - (n + 1)) + 1 by omega]
     simp only [ahh,h1,Bool.false_eq_true,if_false]
    ·rw [show s.size - n = 0 by omega]; rfl
   refine gE1 ?_
   rw [h0,h2]; rfl
theorem ahs (s:ByteArray) (hs:s.size <= 281474976710656):FnC prog 71 [.v (.string s)] (bl (ak1 s)):=by
 refine gF0 func71 ?_
 refine gcG (fun _=>(ath s hs)) ?_
 refine gE1 ?_
 exact congrArg bl (a37 s)
end Go.Lw
namespace Go.Lw
open Go.Proofs
theorem agf (i:Int) (n:Nat):FnC prog 224 [i64 i, i64 n] (bl (inB i n)):=by
 refine gF0 func224 ?_
 refine gE1 ?_
 exact congrArg bl (a2h i n)
theorem arz (bs:List Bd) (hbs:∀ b ∈ bs, b.ok) (hl:bs.length <= 281474976710656):FnC prog 139 [.lst 2 (bs.map Bd.av)] (ahr (ad4 bs.length (bdE bs))):=by
 refine gF0 func139 ?_
 refine gl ?_
 refine gL1 [0,11,12] [] (fun (i:Nat)=>[(13,some (i64 i))]) (fun _=>[]) (fun i=>i <= bs.length /\ ∀ j,j < i -> bdE bs j = 0) (fun i=>bs.length - i) 0 ⟨zero_le _,fun j h=>by omega⟩ ?_
 rintro i ⟨hi,hj⟩ K1 hK1
 refine gC (fun ht14=>?_) (fun ht14=>?_)
 ·have hin:=aa0 ht14
  obtain ⟨b,hb⟩:=abu hin
  have hbd:bs.getD i default = b:=aaf hb
  have hbo:=hbs b (mem_of_getElem? hb)
  have hbdup:=afv Bd.name hb
  refine gi (aad hb) ?_
  refine gc (aft b.name hbo.name) ?_
  refine gC (fun ht21=>?_) (fun ht21=>?_)
  ·have h1:=adj ht21
   have e1:bdE bs i = 5:=by unfold bdE; rw [hbd,if_pos h1]
   refine gE1 ?_
   rw [aa5 hin hj (by rw [e1]; decide),e1]; rfl
  ·have h1:=adk ht21
   refine gs (aap (.tmp rfl) (.none _) (.some _ (.tmp rfl) (by omega)) T22 rfl T80 rfl (by omega) (by simp only [length_map]; omega) rfl) ?_
   refine ge rfl ?_
   refine gL1 [0,3,4,11,12,13] [4] (fun (k:Nat)=>[(25,some (.lst 2 ((bs.take i).map Bd.av))),(26,some (i64 i)),(27,some (i64 k))]) (fun _=>[]) (fun k=>k <= i /\ (bs.take k).any (fun y=>eqS y.name b.name) = false) (fun k=>i - k) 0 ⟨zero_le _,rfl⟩ ?_ (h1:=(.cons rfl (Sub.of (bl5 2 Bd.av bs i)) (.cons rfl (Sub.int (by simp; omega)) (.k .nil))))
   rintro k ⟨hk,hd⟩ K2 hK2
   refine gC (fun ht28=>?_) (fun ht28=>?_)
   ·have hkn:=aa0 ht28
    obtain ⟨y,hy'⟩:∃ y,(bs.take i)[k]? = some y:=abu (by simp; omega)
    have hy:=(ami hy').1
    refine gi (aad hy') ?_
    refine gC (fun ht35=>?_) (fun ht35=>?_)
    ·have h2:eqS y.name b.name = true:=ht35
     have e1:bdE bs i = 6:=by unfold bdE; rw [hbd,if_neg (by rw [h1]; decide),if_pos (by rw [hbdup]; exact ahi hy hkn h2)]
     refine gE1 ?_
     rw [aa5 hin hj (by rw [e1]; decide),e1]; rfl
    ·have h2:eqS y.name b.name = false:=ht35
     refine ga aan ?_
     exact gK1 hK2 (k + 1) ⟨hkn,aex hy hd h2⟩
   ·have hkn:=aai hk ht28
    subst hkn
    have hnd:¬ axt (bs.map Bd.name) k = true:=by rw [hbdup,hd]; decide
    refine gl ?_
    refine gC (fun ht41=>?_) (fun ht41=>?_)
    ·have h3:8 < b.pts.length:=ame ht41
     have e1:bdE bs k = 4:=by unfold bdE; rw [hbd,if_neg (by rw [h1]; decide),if_neg hnd,if_pos h3]
     refine gE1 ?_
     rw [aa5 hin hj (by rw [e1]; decide),e1]; rfl
    ·have h3:b.pts.length <= 8:=ams ht41
     have e1:bdE bs k = ad4 b.pts.length (mkE b.pts):=by unfold bdE; rw [hbd,if_neg (by rw [h1]; decide),if_neg hnd,if_neg (by omega)]
     refine gl ?_
     refine gL1 [0,4,11,12,13,44,45] [4] (fun (p:Nat)=>[(46,some (i64 p))]) (fun _=>[]) (fun p=>p <= b.pts.length /\ ∀ j,j < p -> mkE b.pts j = 0) (fun p=>b.pts.length - p) 0 ⟨zero_le _,fun j h=>by omega⟩ ?_
     rintro p ⟨hp,hpj⟩ K3 hK3
     refine gC (fun ht47=>?_) (fun ht47=>?_)
     ·have hpn:=aa0 ht47
      obtain ⟨m,hm⟩:=abu hpn
      have hmd:b.pts.getD p default = m:=aaf hm
      have hmm:=mem_of_getElem? hm
      have hmdup:=afv Mk.name hm
      have hmo:=hbo.pts m hmm
      refine gi (aad hm) ?_
      refine gc (aft m.name (hbo.names m hmm)) ?_
      refine gC (fun ht54=>?_) (fun ht54=>?_)
      ·have h4:=adj ht54
       have e2:mkE b.pts p = 5:=by unfold mkE; rw [hmd,if_pos h4]
       have e3:bdE bs k = 5:=by rw [e1,aa5 hpn hpj (by rw [e2]; decide),e2]
       refine gE1 ?_
       rw [aa5 hin hj (by rw [e3]; decide),e3]; rfl
      ·have h4:=adk ht54
       refine gs (aap (.tmp rfl) (.none _) (.some _ (.tmp rfl) (by omega)) T78 rfl T82 rfl (by omega) (by simp only [length_map]; omega) rfl) ?_
       refine ge rfl ?_
       refine gL1 [0,4,8,11,12,13,44,45,46] [4,8] (fun (q:Nat)=>[(59,some (.lst 7 ((b.pts.take p).map Mk.av))),(60,some (i64 p)),(61,some (i64 q))]) (fun _=>[]) (fun q=>q <= p /\ (b.pts.take q).any (fun y=>eqS y.name m.name) = false) (fun q=>p - q) 0 ⟨zero_le _,rfl⟩ ?_ (h1:=(.cons rfl (Sub.of (bl5 7 Mk.av b.pts p)) (.cons rfl (Sub.int (by simp; omega)) (.k .nil))))
       rintro q ⟨hq,hqd⟩ K4 hK4
       refine gC (fun ht62=>?_) (fun ht62=>?_)
       ·have hqn:=aa0 ht62
        obtain ⟨y,hy'⟩:∃ y,(b.pts.take p)[q]? = some y:=abu (by simp; omega)
        have hy:=(ami hy').1
        refine gi (aad hy') ?_
        refine gC (fun ht69=>?_) (fun ht69=>?_)
        ·have h5:eqS y.name m.name = true:=ht69
         have e2:mkE b.pts p = 6:=by unfold mkE; rw [hmd,if_neg (by rw [h4]; decide),if_pos (by rw [hmdup]; exact ahi hy hqn h5)]
         have e3:bdE bs k = 6:=by rw [e1,aa5 hpn hpj (by rw [e2]; decide),e2]
         refine gE1 ?_
         rw [aa5 hin hj (by rw [e3]; decide),e3]; rfl
        ·have h5:eqS y.name m.name = false:=ht69
         refine ga aan ?_
         exact gK1 hK4 (q + 1) ⟨hqn,aex hy hqd h5⟩
       ·have hqn:=aai hq ht62
        subst hqn
        have hmnd:¬ axt (b.pts.map Mk.name) q = true:=by rw [hmdup,hqd]; decide
        refine gc (aci m.x hmo.x) ?_
        refine gcG (fun _=>(aci m.y hmo.y)) ?_
        refine gC (fun ht81=>?_) (fun ht81=>?_)
        ·have h6:=be9 ht81
         have e2:mkE b.pts q = 3:=by unfold mkE; rw [hmd,if_neg (by rw [h4]; decide),if_neg hmnd,if_neg (by rintro ⟨g1,g2⟩; rcases h6 with g | g; (rw [g1] at g; cases g); (rw [g2] at g; cases g))]
         have e3:bdE bs k = 3:=by rw [e1,aa5 hpn hpj (by rw [e2]; decide),e2]
         refine gE1 ?_
         rw [aa5 hin hj (by rw [e3]; decide),e3]; rfl
        ·have h6:=bfp ht81
         have e2:mkE b.pts q = 0:=by unfold mkE; rw [hmd,if_neg (by rw [h4]; decide),if_neg hmnd,if_pos h6]
         refine ga aan ?_
         exact gK1 hK3 (q + 1) ⟨hpn,fun j h9=>by rcases lt_or_ge j q with g | g; exact hpj j g; (have:j = q:=by omega); subst this; exact e2⟩
     ·have hpn:=aai hp ht47
      subst hpn
      have e2:bdE bs k = 0:=e1.trans (aep hpj)
      refine ga aan ?_
      exact gK1 hK1 (k + 1) ⟨hin,fun j h9=>by rcases lt_or_ge j k with g | g; exact hj j g; (have:j = k:=by omega); subst this; exact e2⟩
 ·have hin:=aai hi ht14
  subst hin
  refine gE1 ?_
  rw [aep hj]; rfl
end Go.Lw
namespace Go.Lw
open Go.Proofs
theorem aub (l:Li) (hl:l.ok) (j:Jt):FnC prog 223 [l.av, j.av] (ahr (jt0 l j)):=by
 refine gF0 func223 ?_
 refine gC (fun ht15=>?_) (fun ht15=>?_)
 ·have h1:=bfg ht15
  refine gE1 ?_
  unfold jt0; rw [if_pos h1]; rfl
 ·have h1:=beu ht15
  refine gl ?_
  refine gc (agf j.a l.bodies.length) ?_
  refine glG ?_
  refine gcG (fun _=>(agf j.b l.bodies.length)) ?_
  refine gC (fun ht32=>?_) (fun ht32=>?_)
  ·have h2:=be9 ht32
   refine gE1 ?_
   unfold jt0; rw [if_neg h1,if_pos h2]; rfl
  ·have h2:=bfp ht32
   have h2n:¬ (inB j.a l.bodies.length = false \/ inB j.b l.bodies.length = false):=by rw [h2.1,h2.2]; simp
   obtain ⟨A,hA,pA,mA,zA0⟩:=aq8 h2.1
   obtain ⟨B,hB,pB,mB,zB0⟩:=aq8 h2.2
   refine gC (fun ht38=>?_) (fun ht38=>?_)
   ·have h3:=aek ht38
    refine gE1 ?_
    unfold jt0; rw [if_neg h1,if_neg h2n,if_pos h3]; rfl
   ·have h3:=afa ht38
    refine gi (aad hB) ?_
    refine gi (aad hA) ?_
    refine gl ?_
    refine gc (agf j.point A.pts.length) ?_
    refine glG ?_
    refine gcG (fun _=>(agf j.on B.pts.length)) ?_
    refine gD ?_
    refine gC (fun ht66=>?_) (fun ht66=>?_)
    ·have h4:=be9 ht66
     refine gE1 ?_
     unfold jt0; rw [if_neg h1,if_neg h2n,if_neg h3,pA,pB,if_pos h4]; rfl
    ·have h4:=bfp ht66
     have h4n:¬ (inB j.point A.pts.length = false \/ inB j.on B.pts.length = false):=by rw [h4.1,h4.2]; simp
     refine gC (fun ht70=>?_) (fun ht70=>?_)
     ·have h5:=aek ht70
      refine gC (fun ht73=>?_) (fun ht73=>?_)
      ·have h6:=an3 ht73
       refine gE1 ?_
       unfold jt0; rw [if_neg h1,if_neg h2n,if_neg h3,pA,pB,if_neg h4n,if_pos h5,if_pos h6]; rfl
      ·have h6:=arn ht73
       refine gE1 ?_
       unfold jt0; rw [if_neg h1,if_neg h2n,if_neg h3,pA,pB,if_neg h4n,if_pos h5,if_neg (by rw [h6]; simp)]; rfl
     ·have h5:=afa ht70
      refine gl ?_
      refine gc (agf j.to B.pts.length) ?_
      refine gC (fun ht80=>?_) (fun ht80=>?_)
      ·have h6:=adj ht80
       refine gE1 ?_
       unfold jt0; rw [if_neg h1,if_neg h2n,if_neg h3,pA,pB,if_neg h4n,if_neg h5,if_pos h6]; rfl
      ·have h6:=adk ht80
       obtain ⟨m1,g1,d1,mm1,z1⟩:=asv h4.2
       obtain ⟨m2,g2,d2,mm2,z2⟩:=asv h6
       have mo1:=(hl.bodies B mB).pts m1 mm1
       have mo2:=(hl.bodies B mB).pts m2 mm2
       refine gi (aad g1) ?_
       refine gi (aad g2) ?_
       refine gD ?_
       refine gc (akq m1.x m2.x mo1.x mo2.x) ?_
       refine gcG (fun _=>(akq m1.y m2.y mo1.y mo2.y)) ?_
       refine gC (fun ht105=>?_) (fun ht105=>?_)
       ·have h7:=bfb ht105
        refine gE1 ?_
        unfold jt0; rw [if_neg h1,if_neg h2n,if_neg h3,pA,pB,if_neg h4n,if_neg h5,if_neg (by rw [h6]; decide),d1,d2,if_pos h7]; rfl
       ·have h7:=bfv ht105
        refine gE1 ?_
        unfold jt0; rw [if_neg h1,if_neg h2n,if_neg h3,pA,pB,if_neg h4n,if_neg h5,if_neg (by rw [h6]; decide),d1,d2,if_neg h7]; rfl
theorem ars (l:Li) (hl:l.ok):FnC prog 140 [l.av] (ahr (aqw l)):=by
 have hlj:=hl.lj
 refine gF0 func140 ?_
 refine gl ?_
 refine gC (fun ht11=>?_) (fun ht11=>?_)
 ·have h0:16 < l.joints.length:=ame ht11
  refine gE1 ?_
  unfold aqw; rw [if_pos h0]; rfl
 ·have h0:l.joints.length <= 16:=ams ht11
  have e0:aqw l = ad4 l.joints.length (jtE l):=by unfold aqw; rw [if_neg (by omega)]
  refine gl ?_
  refine gL1 [1,14,15] [1] (fun (i:Nat)=>[(16,some (i64 i))]) (fun _=>[]) (fun i=>i <= l.joints.length /\ ∀ j,j < i -> jtE l j = 0) (fun i=>l.joints.length - i) 0 ⟨zero_le _,fun j h=>by omega⟩ ?_
  rintro i ⟨hi,hj⟩ K1 hK1
  refine gC (fun ht17=>?_) (fun ht17=>?_)
  ·have hin:=aa0 ht17
   obtain ⟨b,hb⟩:=abu hin
   have hbd:l.joints.getD i default = b:=aaf hb
   have hbdup:=afv Jt.name hb
   refine gi (aad hb) ?_
   refine gc (aft b.name (hl.jnames b (mem_of_getElem? hb))) ?_
   refine gC (fun ht24=>?_) (fun ht24=>?_)
   ·have h1:=adj ht24
    have e1:jtE l i = 5:=by unfold jtE; rw [hbd,if_pos h1]
    refine gE1 ?_
    rw [e0,aa5 hin hj (by rw [e1]; decide),e1]; rfl
   ·have h1:=adk ht24
    refine gs (aap (.tmp rfl) (.none _) (.some _ (.tmp rfl) (by omega)) T23 rfl T125 rfl (by omega) (by simp only [length_map]; omega) rfl) ?_
    refine ge rfl ?_
    refine gL1 [1,3,4,14,15,16] [1,4] (fun (k:Nat)=>[(29,some (.lst 7 ((l.joints.take i).map Jt.av))),(30,some (i64 i)),(31,some (i64 k))]) (fun _=>[]) (fun k=>k <= i /\ (l.joints.take k).any (fun y=>eqS y.name b.name) = false) (fun k=>i - k) 0 ⟨zero_le _,rfl⟩ ?_ (h1:=(.cons rfl (Sub.of (bl5 7 Jt.av l.joints i)) (.cons rfl (Sub.int (by simp; omega)) (.k .nil))))
    rintro k ⟨hk,hd⟩ K2 hK2
    refine gC (fun ht32=>?_) (fun ht32=>?_)
    ·have hkn:=aa0 ht32
     obtain ⟨y,hy'⟩:∃ y,(l.joints.take i)[k]? = some y:=abu (by simp; omega)
     have hy:=(ami hy').1
     refine gi (aad hy') ?_
     refine gC (fun ht39=>?_) (fun ht39=>?_)
     ·have h2:eqS y.name b.name = true:=ht39
      have e1:jtE l i = 6:=by unfold jtE; rw [hbd,if_neg (by rw [h1]; decide),if_pos (by rw [hbdup]; exact ahi hy hkn h2)]
      refine gE1 ?_
      rw [e0,aa5 hin hj (by rw [e1]; decide),e1]; rfl
     ·have h2:eqS y.name b.name = false:=ht39
      refine ga aan ?_
      exact gK1 hK2 (k + 1) ⟨hkn,aex hy hd h2⟩
    ·have hkn:=aai hk ht32
     subst hkn
     have hnd:¬ axt (l.joints.map Jt.name) k = true:=by rw [hbdup,hd]; decide
     have e1:jtE l k = jt0 l b:=by unfold jtE; rw [hbd,if_neg (by rw [h1]; decide),if_neg hnd]
     refine gc (aub l hl b) ?_
     refine gC (fun ht46=>?_) (fun ht46=>?_)
     ·have h3:=ac3 ht46
      refine gE1 ?_
      rw [e0,aa5 hin hj (by rw [e1]; exact h3),e1]
     ·have h3:=ac0 ht46
      refine ga aan ?_
      exact gK1 hK1 (k + 1) ⟨hin,fun j h9=>by rcases lt_or_ge j k with g | g; exact hj j g; (have:j = k:=by omega); subst this; exact e1.trans h3⟩
  ·have hin:=aai hi ht17
   subst hin
   refine gE1 ?_
   rw [e0,aep hj]; rfl
theorem apa (l:Li) (hl:l.ok):FnC prog 141 [l.av] (ahr (azi l)):=by
 have hld:=hl.ld
 refine gF0 func141 ?_
 refine gl ?_
 refine gC (fun ht12=>?_) (fun ht12=>?_)
 ·have h0:2 < l.drivers.length:=ame ht12
  refine gE1 ?_
  unfold azi; rw [if_pos h0]; rfl
 ·have h0:l.drivers.length <= 2:=ams ht12
  have e0:azi l = ad4 l.drivers.length (drE l):=by unfold azi; rw [if_neg (by omega)]
  refine gl ?_
  refine gL1 [1,15,16] [1] (fun (i:Nat)=>[(17,some (i64 i))]) (fun _=>[]) (fun i=>i <= l.drivers.length /\ ∀ j,j < i -> drE l j = 0) (fun i=>l.drivers.length - i) 0 ⟨zero_le _,fun j h=>by omega⟩ ?_
  rintro i ⟨hi,hj⟩ K1 hK1
  refine gC (fun ht18=>?_) (fun ht18=>?_)
  ·have hin:=aa0 ht18
   obtain ⟨b,hb⟩:=abu hin
   have hbd:l.drivers.getD i default = b:=aaf hb
   have hbdup:=afv Dr.name hb
   refine gi (aad hb) ?_
   refine gc (aft b.name (hl.dnames b (mem_of_getElem? hb))) ?_
   refine gC (fun ht25=>?_) (fun ht25=>?_)
   ·have h1:=adj ht25
    have e1:drE l i = 5:=by unfold drE; rw [hbd,if_pos h1]
    refine gE1 ?_
    rw [e0,aa5 hin hj (by rw [e1]; decide),e1]; rfl
   ·have h1:=adk ht25
    refine gs (aap (.tmp rfl) (.none _) (.some _ (.tmp rfl) (by omega)) T24 rfl T127 rfl (by omega) (by simp only [length_map]; omega) rfl) ?_
    refine ge rfl ?_
    refine gL1 [1,3,4,15,16,17] [1,4] (fun (k:Nat)=>[(30,some (.lst 2 ((l.drivers.take i).map Dr.av))),(31,some (i64 i)),(32,some (i64 k))]) (fun _=>[]) (fun k=>k <= i /\ (l.drivers.take k).any (fun y=>eqS y.name b.name) = false) (fun k=>i - k) 0 ⟨zero_le _,rfl⟩ ?_ (h1:=(.cons rfl (Sub.of (bl5 2 Dr.av l.drivers i)) (.cons rfl (Sub.int (by simp; omega)) (.k .nil))))
    rintro k ⟨hk,hd⟩ K2 hK2
    refine gC (fun ht33=>?_) (fun ht33=>?_)
    ·have hkn:=aa0 ht33
     obtain ⟨y,hy'⟩:∃ y,(l.drivers.take i)[k]? = some y:=abu (by simp; omega)
     have hy:=(ami hy').1
     refine gi (aad hy') ?_
     refine gC (fun ht40=>?_) (fun ht40=>?_)
     ·have h2:eqS y.name b.name = true:=ht40
      have e1:drE l i = 6:=by unfold drE; rw [hbd,if_neg (by rw [h1]; decide),if_pos (by rw [hbdup]; exact ahi hy hkn h2)]
      refine gE1 ?_
      rw [e0,aa5 hin hj (by rw [e1]; decide),e1]; rfl
     ·have h2:eqS y.name b.name = false:=ht40
      refine ga aan ?_
      exact gK1 hK2 (k + 1) ⟨hkn,aex hy hd h2⟩
    ·have hkn:=aai hk ht33
     subst hkn
     have hnd:¬ axt (l.drivers.map Dr.name) k = true:=by rw [hbdup,hd]; decide
     refine gl ?_
     refine gc (agf b.body l.bodies.length) ?_
     refine gC (fun ht49=>?_) (fun ht49=>?_)
     ·have h3:=adj ht49
      have e1:drE l k = 9:=by unfold drE; rw [hbd,if_neg (by rw [h1]; decide),if_neg hnd,if_pos h3]
      refine gE1 ?_
      rw [e0,aa5 hin hj (by rw [e1]; decide),e1]; rfl
     ·have h3:=adk ht49
      refine gC (fun ht53=>?_) (fun ht53=>?_)
      ·have h4:=aek ht53
       have e1:drE l k = 7:=by unfold drE; rw [hbd,if_neg (by rw [h1]; decide),if_neg hnd,if_neg (by rw [h3]; decide),if_pos h4]
       refine gE1 ?_
       rw [e0,aa5 hin hj (by rw [e1]; decide),e1]; rfl
      ·have h4:=afa ht53
       have e1:drE l k = if (l.drivers.take k).any (fun d=>decide (d.body = b.body)) = true then 6 else 0:=by unfold drE; rw [hbd,if_neg (by rw [h1]; decide),if_neg hnd,if_neg (by rw [h3]; decide),if_neg h4]
       refine gs (aap (.tmp rfl) (.none _) (.some _ (.tmp rfl) (by omega)) T24 rfl T127 rfl (by omega) (by simp only [length_map]; omega) rfl) ?_
       refine ge rfl ?_
       refine gL1 [1,4,15,16,17] [1,4] (fun (q:Nat)=>[(58,some (.lst 2 ((l.drivers.take k).map Dr.av))),(59,some (i64 k)),(60,some (i64 q))]) (fun _=>[]) (fun q=>q <= k /\ (l.drivers.take q).any (fun d=>decide (d.body = b.body)) = false) (fun q=>k - q) 0 ⟨zero_le _,rfl⟩ ?_ (h1:=(.cons rfl (Sub.of (bl5 2 Dr.av l.drivers k)) (.cons rfl (Sub.int (by simp; omega)) (.k .nil))))
       rintro q ⟨hq,hqd⟩ K3 hK3
       refine gC (fun ht61=>?_) (fun ht61=>?_)
       ·have hqn:=aa0 ht61
        obtain ⟨y,hy'⟩:∃ y,(l.drivers.take k)[q]? = some y:=abu (by simp; omega)
        have hy:=(ami hy').1
        refine gi (aad hy') ?_
        refine gC (fun ht68=>?_) (fun ht68=>?_)
        ·have h5:decide (y.body = b.body) = true:=decide_eq_true (aek ht68)
         have e2:drE l k = 6:=by rw [e1,if_pos (ahi hy hqn h5)]
         refine gE1 ?_
         rw [e0,aa5 hin hj (by rw [e2]; decide),e2]; rfl
        ·have h5:decide (y.body = b.body) = false:=decide_eq_false (afa ht68)
         refine ga aan ?_
         exact gK1 hK3 (q + 1) ⟨hqn,aex hy hqd h5⟩
       ·have hqn:=aai hq ht61
        subst hqn
        have e2:drE l q = 0:=by rw [e1,hqd]; rfl
        refine ga aan ?_
        exact gK1 hK1 (q + 1) ⟨hin,fun j h9=>by rcases lt_or_ge j q with g | g; exact hj j g; (have:j = q:=by omega); subst this; exact e2⟩
  ·have hin:=aai hi ht18
   subst hin
   refine gE1 ?_
   rw [e0,aep hj]; rfl
theorem ait (l:Li) (hl:l.ok):FnC prog 65 [l.av] (ahr (liE l)):=by
 have hlb:=hl.lb
 refine gF0 func65 ?_
 refine gc (aft l.name hl.name) ?_
 refine gC (fun ht8=>?_) (fun ht8=>?_)
 ·have h1:=adj ht8
  refine gE1 ?_
  unfold liE; rw [if_pos h1]; rfl
 ·have h1:=adk ht8
  refine gl ?_
  refine gC (fun ht13=>?_) (fun ht13=>?_)
  ·have h2:=bfy ht13
   refine gE1 ?_
   unfold liE; rw [if_neg (by rw [h1]; decide),if_pos h2]; rfl
  ·have h2:=bgd ht13
   refine gl ?_
   refine gC (fun ht18=>?_) (fun ht18=>?_)
   ·have h3:8 < l.bodies.length:=ame ht18
    refine gE1 ?_
    unfold liE; rw [if_neg (by rw [h1]; decide),if_neg h2,if_pos h3]; rfl
   ·have h3:l.bodies.length <= 8:=ams ht18
    have e0:liE l = if a0i l ≠ 0 then a0i l else if aqw l ≠ 0 then aqw l else azi l:=by unfold liE; rw [if_neg (by rw [h1]; decide),if_neg h2,if_neg (by omega)]
    refine gc (arz l.bodies hl.bodies hlb) ?_
    refine gC (fun ht24=>?_) (fun ht24=>?_)
    ·have h4:a0i l ≠ 0:=ac3 ht24
     refine gE1 ?_
     rw [e0,if_pos h4]; rfl
    ·have h4:a0i l = 0:=ac0 ht24
     refine gc (ars l hl) ?_
     refine gC (fun ht29=>?_) (fun ht29=>?_)
     ·have h5:=ac3 ht29
      refine gE1 ?_
      rw [e0,if_neg (by rw [h4]; simp),if_pos h5]
     ·have h5:=ac0 ht29
      refine gc (apa l hl) ?_
      refine gE1 ?_
      rw [e0,if_neg (by rw [h4]; simp),if_neg (by rw [h5]; simp)]
end Go.Lw
namespace Go.Lw
open Go.Proofs
theorem afk (i:Int) (n:Nat):FnC prog 149 [i64 i, i64 n] (bl (inB i n)):=by
 refine gF0 func149 ?_
 refine gE1 ?_
 exact congrArg bl (a2h i n)
theorem a21 (p q:Mk) (hp:p.ok) (hq:q.ok):FnC prog 150 [p.av, q.av] (bl (decide (p.x.q = q.x.q /\ p.y.q = q.y.q))):=by
 refine gF0 func150 ?_
 refine gc (ax2 p.x q.x hp.x hq.x ((hp.qx.sub hq.qx).qs (by omega))) ?_
 refine gcG (fun _=>(ax2 p.y q.y hp.y hq.y ((hp.qy.sub hq.qy).qs (by omega)))) ?_
 refine gE1 ?_
 exact congrArg bl bc7
theorem aw6 (b:Bd) (hbo:b.ok):FnC prog 148 [b.av] (i64 (if 8 < b.pts.length then 4 else ad4 b.pts.length (mkE b.pts):Nat)):=by
 have hll:=hbo.ll
 refine gF0 func148 ?_
 refine gl ?_
 refine gC (fun ht9=>?_) (fun ht9=>?_)
 ·have h0:8 < b.pts.length:=ame ht9
  refine gE1 ?_
  rw [if_pos h0]; rfl
 ·have h0:b.pts.length <= 8:=ams ht9
  have e0:(if 8 < b.pts.length then 4 else ad4 b.pts.length (mkE b.pts):Nat) = ad4 b.pts.length (mkE b.pts):=if_neg (by omega)
  refine gL1 [1] [1] (fun (p:Nat)=>[(3,some (i64 p))]) (fun _=>[]) (fun p=>p <= b.pts.length /\ ∀ j,j < p -> mkE b.pts j = 0) (fun p=>b.pts.length - p) 0 ⟨zero_le _,fun j h=>by omega⟩ ?_
  rintro p ⟨hp,hpj⟩ K1 hK1
  refine gl ?_
  refine gC (fun ht14=>?_) (fun ht14=>?_)
  ·have hpn:=aa0 ht14
   obtain ⟨m,hm⟩:=abu hpn
   have hmd:b.pts.getD p default = m:=aaf hm
   have hmm:=mem_of_getElem? hm
   have hmdup:=afv Mk.name hm
   have hmo:=hbo.pts m hmm
   refine gi (aad hm) ?_
   refine gc (ahs m.name (hbo.names m hmm)) ?_
   refine gC (fun ht25=>?_) (fun ht25=>?_)
   ·have h4:=adj ht25
    have e2:mkE b.pts p = 5:=by unfold mkE; rw [hmd,if_pos h4]
    refine gE1 ?_
    rw [e0,aa5 hpn hpj (by rw [e2]; decide),e2]; rfl
   ·have h4:=adk ht25
    refine gL1 [1,3,4] [1,4] (fun (q:Nat)=>[(5,some (i64 q))]) (fun _=>[]) (fun q=>q <= p /\ (b.pts.take q).any (fun y=>eqS y.name m.name) = false) (fun q=>p - q) 0 ⟨zero_le _,rfl⟩ ?_
    rintro q ⟨hq,hqd⟩ K2 hK2
    refine gC (fun ht28=>?_) (fun ht28=>?_)
    ·have hqn:=aa0 ht28
     obtain ⟨y,hy⟩:∃ y,b.pts[q]? = some y:=abu (by omega)
     refine gi (aad hy) ?_
     refine gD ?_
     refine gC (fun ht39=>?_) (fun ht39=>?_)
     ·have h5:eqS y.name m.name = true:=ht39
      have e2:mkE b.pts p = 6:=by unfold mkE; rw [hmd,if_neg (by rw [h4]; decide),if_pos (by rw [hmdup]; exact ahi hy hqn h5)]
      refine gE1 ?_
      rw [e0,aa5 hpn hpj (by rw [e2]; decide),e2]; rfl
     ·have h5:eqS y.name m.name = false:=ht39
      refine ga aan ?_
      exact gK1 hK2 (q + 1) ⟨hqn,aex hy hqd h5⟩
    ·have hqn:=aai hq ht28
     subst hqn
     have hmnd:¬ axt (b.pts.map Mk.name) q = true:=by rw [hmdup,hqd]; decide
     refine gc (agx m.x hmo.x) ?_
     refine gcG (fun _=>(agx m.y hmo.y)) ?_
     refine gC (fun ht49=>?_) (fun ht49=>?_)
     ·have h6:=be9 ht49
      have e2:mkE b.pts q = 3:=by unfold mkE; rw [hmd,if_neg (by rw [h4]; decide),if_neg hmnd,if_neg (by rintro ⟨g1,g2⟩; rcases h6 with g | g; (rw [g1] at g; cases g); (rw [g2] at g; cases g))]
      refine gE1 ?_
      rw [e0,aa5 hpn hpj (by rw [e2]; decide),e2]; rfl
     ·have h6:=bfp ht49
      have e2:mkE b.pts q = 0:=by unfold mkE; rw [hmd,if_neg (by rw [h4]; decide),if_neg hmnd,if_pos h6]
      refine ga aan ?_
      exact gK1 hK1 (q + 1) ⟨hpn,fun j h9=>by rcases lt_or_ge j q with g | g; exact hpj j g; (have:j = q:=by omega); subst this; exact e2⟩
  ·have hpn:=aai hp ht14
   subst hpn
   refine gE1 ?_
   rw [e0,aep hpj]; rfl
theorem av9 (l:Li) (hl:l.ok):FnC prog 72 [l.av] (i64 (a0i l)):=by
 have hlb:=hl.lb
 have e0:a0i l = ad4 l.bodies.length (bdE l.bodies):=rfl
 refine gF0 func72 ?_
 refine gL1 [1] [1] (fun (i:Nat)=>[(3,some (i64 i))]) (fun _=>[]) (fun i=>i <= l.bodies.length /\ ∀ j,j < i -> bdE l.bodies j = 0) (fun i=>l.bodies.length - i) 0 ⟨zero_le _,fun j h=>by omega⟩ ?_
 rintro i ⟨hi,hj⟩ K1 hK1
 refine gl ?_
 refine gC (fun ht10=>?_) (fun ht10=>?_)
 ·have hin:=aa0 ht10
  obtain ⟨b,hb⟩:=abu hin
  have hbd:l.bodies.getD i default = b:=aaf hb
  have hbo:=hl.bodies b (mem_of_getElem? hb)
  have hbdup:=afv Bd.name hb
  refine gi (aad hb) ?_
  refine gc (ahs b.name hbo.name) ?_
  refine gC (fun ht20=>?_) (fun ht20=>?_)
  ·have h1:=adj ht20
   have e1:bdE l.bodies i = 5:=by unfold bdE; rw [hbd,if_pos h1]
   refine gE1 ?_
   rw [e0,aa5 hin hj (by rw [e1]; decide),e1]; rfl
  ·have h1:=adk ht20
   refine gL1 [1,3] [1] (fun (k:Nat)=>[(4,some (i64 k))]) (fun _=>[]) (fun k=>k <= i /\ (l.bodies.take k).any (fun y=>eqS y.name b.name) = false) (fun k=>i - k) 0 ⟨zero_le _,rfl⟩ ?_
   rintro k ⟨hk,hd⟩ K2 hK2
   refine gC (fun ht23=>?_) (fun ht23=>?_)
   ·have hkn:=aa0 ht23
    obtain ⟨y,hy⟩:∃ y,l.bodies[k]? = some y:=abu (by omega)
    refine gi (aad hy) ?_
    refine gi (aad hb) ?_
    refine gD ?_
    refine gC (fun ht38=>?_) (fun ht38=>?_)
    ·have h2:eqS y.name b.name = true:=ht38
     have e1:bdE l.bodies i = 6:=by unfold bdE; rw [hbd,if_neg (by rw [h1]; decide),if_pos (by rw [hbdup]; exact ahi hy hkn h2)]
     refine gE1 ?_
     rw [e0,aa5 hin hj (by rw [e1]; decide),e1]; rfl
    ·have h2:eqS y.name b.name = false:=ht38
     refine ga aan ?_
     exact gK1 hK2 (k + 1) ⟨hkn,aex hy hd h2⟩
   ·have hkn:=aai hk ht23
    subst hkn
    have hnd:¬ axt (l.bodies.map Bd.name) k = true:=by rw [hbdup,hd]; decide
    have e1:bdE l.bodies k = if 8 < b.pts.length then 4 else ad4 b.pts.length (mkE b.pts):=by unfold bdE; rw [hbd,if_neg (by rw [h1]; decide),if_neg hnd]
    refine gi (aad hb) ?_
    refine gc (aw6 b hbo) ?_
    refine gC (fun ht46=>?_) (fun ht46=>?_)
    ·have h3:=af2 ht46
     refine gE1 ?_
     rw [e0,aa5 hin hj (by rw [e1]; exact h3),e1]
    ·have h3:=af4 ht46
     refine ga aan ?_
     exact gK1 hK1 (k + 1) ⟨hin,fun j h9=>by rcases lt_or_ge j k with g | g; exact hj j g; (have:j = k:=by omega); subst this; exact e1.trans h3⟩
 ·have hin:=aai hi ht10
  subst hin
  refine gE1 ?_
  rw [e0,aep hj]; rfl
theorem azk (l:Li) (hl:l.ok) (i:Nat) (hi:i < l.joints.length) (h16:l.joints.length <= 16):FnC prog 73 [l.av, i64 i] (i64 (jtE l i)):=by
 obtain ⟨j,hjj⟩:=abu hi
 have hbd:l.joints.getD i default = j:=aaf hjj
 have hbdup:=afv Jt.name hjj
 refine gF0 func73 ?_
 refine gi (aad hjj) ?_
 refine gc (ahs j.name (hl.jnames j (mem_of_getElem? hjj))) ?_
 refine gC (fun ht17=>?_) (fun ht17=>?_)
 ·have h0:=adj ht17
  refine gE1 ?_
  unfold jtE; rw [hbd,if_pos h0]; rfl
 ·have h0:=adk ht17
  refine gL1 [1,2,5] [2,5] (fun (k:Nat)=>[(6,some (i64 k))]) (fun _=>[]) (fun k=>k <= i /\ (l.joints.take k).any (fun y=>eqS y.name j.name) = false) (fun k=>i - k) 0 ⟨zero_le _,rfl⟩ ?_
  rintro k ⟨hk,hd⟩ K1 hK1
  refine gC (fun ht20=>?_) (fun ht20=>?_)
  ·have hkn:=aa0 ht20
   obtain ⟨y,hy⟩:∃ y,l.joints[k]? = some y:=abu (by omega)
   refine gi (aad hy) ?_
   refine gD ?_
   refine gC (fun ht31=>?_) (fun ht31=>?_)
   ·have h2:eqS y.name j.name = true:=ht31
    refine gE1 ?_
    unfold jtE; rw [hbd,if_neg (by rw [h0]; decide),if_pos (by rw [hbdup]; exact ahi hy hkn h2)]; rfl
   ·have h2:eqS y.name j.name = false:=ht31
    refine ga aan ?_
    exact gK1 hK1 (k + 1) ⟨hkn,aex hy hd h2⟩
  ·have hkn:=aai hk ht20
   subst hkn
   have hnd:¬ axt (l.joints.map Jt.name) k = true:=by rw [hbdup,hd]; decide
   have e1:jtE l k = jt0 l j:=by unfold jtE; rw [hbd,if_neg (by rw [h0]; decide),if_neg hnd]
   refine gC (fun ht39=>?_) (fun ht39=>?_)
   ·have h1:=bfg ht39
    refine gE1 ?_
    rw [e1]; unfold jt0; rw [if_pos h1]; rfl
   ·have h1:=beu ht39
    refine gl ?_
    refine gc (afk j.a l.bodies.length) ?_
    refine glG ?_
    refine gcG (fun _=>(afk j.b l.bodies.length)) ?_
    refine gC (fun ht55=>?_) (fun ht55=>?_)
    ·have h2:=be9 ht55
     refine gE1 ?_
     rw [e1]; unfold jt0; rw [if_neg h1,if_pos h2]; rfl
    ·have h2:=bfp ht55
     have h2n:¬ (inB j.a l.bodies.length = false \/ inB j.b l.bodies.length = false):=by rw [h2.1,h2.2]; simp
     obtain ⟨A,hA,pA,mA,zA0⟩:=aq8 h2.1
     obtain ⟨B,hB,pB,mB,zB0⟩:=aq8 h2.2
     refine gC (fun ht60=>?_) (fun ht60=>?_)
     ·have h3:=aek ht60
      refine gE1 ?_
      rw [e1]; unfold jt0; rw [if_neg h1,if_neg h2n,if_pos h3]; rfl
     ·have h3:=afa ht60
      refine gi (aad hA) ?_
      refine gi (aad hB) ?_
      refine gD ?_
      refine gl ?_
      refine gc (afk j.point A.pts.length) ?_
      refine glG ?_
      refine gcG (fun _=>(afk j.on B.pts.length)) ?_
      refine gC (fun ht88=>?_) (fun ht88=>?_)
      ·have h4:=be9 ht88
       refine gE1 ?_
       rw [e1]; unfold jt0; rw [if_neg h1,if_neg h2n,if_neg h3,pA,pB,if_pos h4]; rfl
      ·have h4:=bfp ht88
       have h4n:¬ (inB j.point A.pts.length = false \/ inB j.on B.pts.length = false):=by rw [h4.1,h4.2]; simp
       refine gC (fun ht91=>?_) (fun ht91=>?_)
       ·have h5:=aek ht91
        refine gC (fun ht94=>?_) (fun ht94=>?_)
        ·have h6:=an3 ht94
         refine gE1 ?_
         rw [e1]; unfold jt0; rw [if_neg h1,if_neg h2n,if_neg h3,pA,pB,if_neg h4n,if_pos h5,if_pos h6]; rfl
        ·have h6:=arn ht94
         refine gE1 ?_
         rw [e1]; unfold jt0; rw [if_neg h1,if_neg h2n,if_neg h3,pA,pB,if_neg h4n,if_pos h5,if_neg (by rw [h6]; simp)]; rfl
       ·have h5:=afa ht91
        refine gl ?_
        refine gc (afk j.to B.pts.length) ?_
        refine gC (fun ht100=>?_) (fun ht100=>?_)
        ·have h6:=adj ht100
         refine gE1 ?_
         rw [e1]; unfold jt0; rw [if_neg h1,if_neg h2n,if_neg h3,pA,pB,if_neg h4n,if_neg h5,if_pos h6]; rfl
        ·have h6:=adk ht100
         obtain ⟨m1,g1,d1,mm1,z1⟩:=asv h4.2
         obtain ⟨m2,g2,d2,mm2,z2⟩:=asv h6
         have mo1:=(hl.bodies B mB).pts m1 mm1
         have mo2:=(hl.bodies B mB).pts m2 mm2
         refine gi (aad g1) ?_
         refine gi (aad g2) ?_
         refine gc (a21 m1 m2 mo1 mo2) ?_
         refine gD ?_
         refine gC (fun ht111=>?_) (fun ht111=>?_)
         ·have h7:=of_decide_eq_true ht111
          refine gE1 ?_
          rw [e1]; unfold jt0; rw [if_neg h1,if_neg h2n,if_neg h3,pA,pB,if_neg h4n,if_neg h5,if_neg (by rw [h6]; decide),d1,d2,if_pos h7]; rfl
         ·have h7:=of_decide_eq_false ht111
          refine gE1 ?_
          rw [e1]; unfold jt0; rw [if_neg h1,if_neg h2n,if_neg h3,pA,pB,if_neg h4n,if_neg h5,if_neg (by rw [h6]; decide),d1,d2,if_neg h7]; rfl
theorem avg (l:Li) (hl:l.ok) (i:Nat) (hi:i < l.drivers.length) (h2l:l.drivers.length <= 2):FnC prog 74 [l.av, i64 i] (i64 (drE l i)):=by
 obtain ⟨b,hb⟩:=abu hi
 have hbd:l.drivers.getD i default = b:=aaf hb
 have hbdup:=afv Dr.name hb
 refine gF0 func74 ?_
 refine gi (aad hb) ?_
 refine gc (ahs b.name (hl.dnames b (mem_of_getElem? hb))) ?_
 refine gC (fun ht16=>?_) (fun ht16=>?_)
 ·have h1:=adj ht16
  refine gE1 ?_
  unfold drE; rw [hbd,if_pos h1]; rfl
 ·have h1:=adk ht16
  refine gL1 [1,2,5] [2,5] (fun (k:Nat)=>[(6,some (i64 k))]) (fun _=>[]) (fun k=>k <= i /\ (l.drivers.take k).any (fun y=>eqS y.name b.name) = false) (fun k=>i - k) 0 ⟨zero_le _,rfl⟩ ?_
  rintro k ⟨hk,hd⟩ K1 hK1
  refine gC (fun ht19=>?_) (fun ht19=>?_)
  ·have hkn:=aa0 ht19
   obtain ⟨y,hy⟩:∃ y,l.drivers[k]? = some y:=abu (by omega)
   refine gi (aad hy) ?_
   refine gD ?_
   refine gC (fun ht30=>?_) (fun ht30=>?_)
   ·have h2:eqS y.name b.name = true:=ht30
    refine gE1 ?_
    unfold drE; rw [hbd,if_neg (by rw [h1]; decide),if_pos (by rw [hbdup]; exact ahi hy hkn h2)]; rfl
   ·have h2:eqS y.name b.name = false:=ht30
    refine ga aan ?_
    exact gK1 hK1 (k + 1) ⟨hkn,aex hy hd h2⟩
  ·have hkn:=aai hk ht19
   subst hkn
   have hnd:¬ axt (l.drivers.map Dr.name) k = true:=by rw [hbdup,hd]; decide
   refine gl ?_
   refine gc (afk b.body l.bodies.length) ?_
   refine gC (fun ht37=>?_) (fun ht37=>?_)
   ·have h3:=adj ht37
    refine gE1 ?_
    unfold drE; rw [hbd,if_neg (by rw [h1]; decide),if_neg hnd,if_pos h3]; rfl
   ·have h3:=adk ht37
    refine gC (fun ht40=>?_) (fun ht40=>?_)
    ·have h4:=aek ht40
     refine gE1 ?_
     unfold drE; rw [hbd,if_neg (by rw [h1]; decide),if_neg hnd,if_neg (by rw [h3]; decide),if_pos h4]; rfl
    ·have h4:=afa ht40
     have e1:drE l k = if (l.drivers.take k).any (fun d=>decide (d.body = b.body)) = true then 6 else 0:=by unfold drE; rw [hbd,if_neg (by rw [h1]; decide),if_neg hnd,if_neg (by rw [h3]; decide),if_neg h4]
     refine gL1 [1,2,5] [2,5] (fun (q:Nat)=>[(7,some (i64 q))]) (fun _=>[]) (fun q=>q <= k /\ (l.drivers.take q).any (fun d=>decide (d.body = b.body)) = false) (fun q=>k - q) 0 ⟨zero_le _,rfl⟩ ?_
     rintro q ⟨hq,hqd⟩ K2 hK2
     refine gC (fun ht43=>?_) (fun ht43=>?_)
     ·have hqn:=aa0 ht43
      obtain ⟨y,hy⟩:∃ y,l.drivers[q]? = some y:=abu (by omega)
      refine gi (aad hy) ?_
      refine gD ?_
      refine gC (fun ht54=>?_) (fun ht54=>?_)
      ·have h5:decide (y.body = b.body) = true:=decide_eq_true (aek ht54)
       refine gE1 ?_
       rw [e1,if_pos (ahi hy hqn h5)]; rfl
      ·have h5:decide (y.body = b.body) = false:=decide_eq_false (afa ht54)
       refine ga aan ?_
       exact gK1 hK2 (q + 1) ⟨hqn,aex hy hqd h5⟩
     ·have hqn:=aai hq ht43
      subst hqn
      refine gE1 ?_
      rw [e1,hqd]; rfl
theorem ak6 (l:Li) (hl:l.ok):FnC prog 34 [l.av] (i64 (liE l)):=by
 have hlb:=hl.lb
 refine gF0 func34 ?_
 refine gc (ahs l.name hl.name) ?_
 refine gC (fun ht11=>?_) (fun ht11=>?_)
 ·have h1:=adj ht11
  refine gE1 ?_
  unfold liE; rw [if_pos h1]; rfl
 ·have h1:=adk ht11
  refine gl ?_
  refine gC (fun ht15=>?_) (fun ht15=>?_)
  ·have h2:=bfy ht15
   refine gE1 ?_
   unfold liE; rw [if_neg (by rw [h1]; decide),if_pos h2]; rfl
  ·have h2:=bgd ht15
   refine gl ?_
   refine gC (fun ht19=>?_) (fun ht19=>?_)
   ·have h3:8 < l.bodies.length:=ame ht19
    refine gE1 ?_
    unfold liE; rw [if_neg (by rw [h1]; decide),if_neg h2,if_pos h3]; rfl
   ·have h3:l.bodies.length <= 8:=ams ht19
    have e0:liE l = if a0i l ≠ 0 then a0i l else if aqw l ≠ 0 then aqw l else azi l:=by unfold liE; rw [if_neg (by rw [h1]; decide),if_neg h2,if_neg (by omega)]
    refine gc (av9 l hl) ?_
    refine gC (fun ht23=>?_) (fun ht23=>?_)
    ·have h4:a0i l ≠ 0:=af2 ht23
     refine gE1 ?_
     rw [e0,if_pos h4]
    ·have h4:a0i l = 0:=af4 ht23
     refine gl ?_
     refine gC (fun ht28=>?_) (fun ht28=>?_)
     ·have h5:16 < l.joints.length:=ame ht28
      have ej:aqw l = 4:=by unfold aqw; rw [if_pos h5]
      refine gE1 ?_
      rw [e0,if_neg (by rw [h4]; simp),if_pos (by rw [ej]; decide),ej]; rfl
     ·have h5:l.joints.length <= 16:=ams ht28
      have ej:aqw l = ad4 l.joints.length (jtE l):=by unfold aqw; rw [if_neg (by omega)]
      refine gL1 [1] [1] (fun (i:Nat)=>[(4,some (i64 i))]) (fun _=>[]) (fun i=>i <= l.joints.length /\ ∀ j,j < i -> jtE l j = 0) (fun i=>l.joints.length - i) 0 ⟨zero_le _,fun j h=>by omega⟩ ?_
      rintro i ⟨hi,hj⟩ K1 hK1
      refine gl ?_
      refine gC (fun ht33=>?_) (fun ht33=>?_)
      ·have hin:=aa0 ht33
       refine gc (azk l hl i hin h5) ?_
       refine gC (fun ht40=>?_) (fun ht40=>?_)
       ·have h6:=af2 ht40
        refine gE1 ?_
        rw [e0,if_neg (by rw [h4]; simp),if_pos (by rw [ej,aa5 hin hj h6]; exact h6),ej,aa5 hin hj h6]
       ·have h6:=af4 ht40
        refine ga aan ?_
        exact gK1 hK1 (i + 1) ⟨hin,fun j h9=>by rcases lt_or_ge j i with g | g; exact hj j g; (have:j = i:=by omega); subst this; exact h6⟩
      ·have hin:=aai hi ht33
       subst hin
       have ejz:aqw l = 0:=ej.trans (aep hj)
       have e0':liE l = azi l:=by rw [e0,if_neg (by rw [h4]; simp),if_neg (by rw [ejz]; simp)]
       refine gl ?_
       refine gC (fun ht45=>?_) (fun ht45=>?_)
       ·have h6:2 < l.drivers.length:=ame ht45
        refine gE1 ?_
        rw [e0']; unfold azi; rw [if_pos h6]; rfl
       ·have h6:l.drivers.length <= 2:=ams ht45
        have ed:azi l = ad4 l.drivers.length (drE l):=by unfold azi; rw [if_neg (by omega)]
        refine gL1 [1] [1] (fun (k:Nat)=>[(6,some (i64 k))]) (fun _=>[]) (fun k=>k <= l.drivers.length /\ ∀ j,j < k -> drE l j = 0) (fun k=>l.drivers.length - k) 0 ⟨zero_le _,fun j h=>by omega⟩ ?_
        rintro k ⟨hk,hkj⟩ K2 hK2
        refine gl ?_
        refine gC (fun ht50=>?_) (fun ht50=>?_)
        ·have hkn:=aa0 ht50
         refine gc (avg l hl k hkn h6) ?_
         refine gC (fun ht57=>?_) (fun ht57=>?_)
         ·have h7:=af2 ht57
          refine gE1 ?_
          rw [e0',ed,aa5 hkn hkj h7]
         ·have h7:=af4 ht57
          refine ga aan ?_
          exact gK1 hK2 (k + 1) ⟨hkn,fun j h9=>by rcases lt_or_ge j k with g | g; exact hkj j g; (have:j = k:=by omega); subst this; exact h7⟩
        ·have hkn:=aai hk ht50
         subst hkn
         refine gE1 ?_
         rw [e0',ed,aep hkj]; rfl
end Go.Lw
namespace Go.Lw
open Go.Proofs
theorem aip (rs xs:List (List Rt)) (w m:Nat) (hrs:amx rs) (hxs:amx xs) (hrl:rs.length <= 100) (hxl:xs.length <= 100):FnC prog 78 [ae6 rs, i64 w, i64 m, .lst 1 (xs.map nR)] (bl (akt w m (rs ++ xs))):=by
 obtain ⟨l,hl⟩:∃ l,l = rs ++ xs:=⟨_,rfl⟩
 have hlo:amx l:=by rw [hl]; exact hrs.app hxs
 have hll:l.length <= 200:=by rw [hl,length_append]; omega
 have hml:rs.map nR ++ xs.map nR = l.map nR:=by rw [hl,map_append]
 rw [<- hl]
 refine gF0 func78 ?_
 refine gs (acx T28 rfl T65 rfl rfl rfl) ?_
 refine gs (aa3 (.tmp rfl) rfl rfl (.tmp rfl) T28 rfl T65 rfl rfl (by simp only [length_map]; omega) rfl rfl) ?_
 refine gs (ago (.tmp rfl) rfl (by simp) (.tmp rfl) T28 rfl T65 rfl rfl (by simp only [length_map]; omega) rfl rfl) ?_
 refine ge rfl ?_
 refine gL1 [1,2] [] (fun (i:Nat)=>[(18,some (.lst 1 (l.map nR))),(19,some (i64 l.length)),(20,some (i64 i))]) (fun _=>[]) (fun i=>i <= l.length /\ (l.take i).all (al9 w m) = true) (fun i=>l.length - i) 0 ⟨zero_le _,rfl⟩ ?_ (h1:=(.cons rfl (Sub.of (congrArg (AV.lst 1) hml)) (.cons rfl (Sub.int (by rw [nil_append,hml,length_map])) (.k .nil))))
 rintro i ⟨hi,hj⟩ K1 hK1
 refine gC (fun ht21=>?_) (fun ht21=>?_)
 ·have hin:=aa0 ht21
  obtain ⟨x,hx⟩:=abu hin
  have hxo:=hlo x (mem_of_getElem? hx)
  have hxl:=hxo.2
  refine gi (aad hx) ?_
  refine gl ?_
  refine gC (fun ht27=>?_) (fun ht27=>?_)
  ·have h1:=ame ht27
   refine gE1 ?_
   rw [akt,adg hx (by unfold al9; rw [decide_eq_false (by omega)]; rfl)]; rfl
  ·have h1:x.length <= m:=ams ht27
   refine gl ?_
   refine gL1 [1,2,18,19,20,28,29] [] (fun (k:Nat)=>[(30,some (i64 k))]) (fun _=>[]) (fun k=>k <= x.length /\ (x.take k).all (fun r=>decide (r.num.length <= w /\ r.den.length <= w)) = true) (fun k=>x.length - k) 0 ⟨zero_le _,rfl⟩ ?_
   rintro k ⟨hk,hkj⟩ K2 hK2
   refine gC (fun ht31=>?_) (fun ht31=>?_)
   ·have hkn:=aa0 ht31
    obtain ⟨r,hr⟩:=abu hkn
    refine gi (aad hr) ?_
    refine gl ?_
    refine glG ?_
    refine gC (fun ht45=>?_) (fun ht45=>?_)
    ·have h2:¬ (r.num.length <= w /\ r.den.length <= w):=bmy ht45
     refine gE1 ?_
     rw [akt,adg hx (by unfold al9; rw [adg hr (decide_eq_false h2),Bool.and_false])]; rfl
    ·have h2:r.num.length <= w /\ r.den.length <= w:=bnu ht45
     refine ga aan ?_
     exact gK1 hK2 (k + 1) ⟨hkn,aeh hkj hr (decide_eq_true h2)⟩
   ·have hkn:=aai hk ht31
    refine ga aan ?_
    exact gK1 hK1 (i + 1) ⟨hin,aeh hj hx (by unfold al9; rw [decide_eq_true h1,af6 hkn hkj]; rfl)⟩
 ·have hin:=aai hi ht21
  refine gE1 ?_
  rw [akt,af6 hin hj]; rfl
theorem a0h (rs xs:List (List Rt)) (hrs:amx rs) (hxs:amx xs) (hrl:rs.length <= 281474976710656) (hxl:xs.length <= 100):FnC prog 79 [ae6 rs, .lst 1 (xs.map nR)] (bl (an5 rs xs)):=by
 refine gF0 func79 ?_
 refine gl ?_
 refine gC (fun ht9=>?_) (fun ht9=>?_)
 ·have h1:rs.length <= 1 \/ (5 < rs.length /\ rs.length <= 8):=bq0 ht9
  refine gc (aip rs xs 3 40 hrs hxs (by omega) hxl) ?_
  refine gE1 ?_
  unfold an5; rw [if_pos h1]
 ·have h1:¬ (rs.length <= 1 \/ (5 < rs.length /\ rs.length <= 8)):=bp5 ht9
  refine gC (fun ht23=>?_) (fun ht23=>?_)
  ·have h2 : rs.length = 2 := by have := aek ht23; omega
   refine gc (aip rs xs 1 40 hrs hxs (by omega) hxl) ?_
   refine gE1 ?_
   unfold an5; rw [if_neg h1,if_pos h2]
  ·have h2 : ¬ rs.length = 2 := by have := afa ht23; omega
   refine gC (fun ht29=>?_) (fun ht29=>?_)
   ·have h3 : rs.length = 3 := by have := aek ht29; omega
    refine gc (aip rs xs 1 4 hrs hxs (by omega) hxl) ?_
    refine gE1 ?_
    unfold an5; rw [if_neg h1,if_neg h2,if_pos h3]
   ·have h3 : ¬ rs.length = 3 := by have := afa ht29; omega
    refine gE1 ?_
    unfold an5; rw [if_neg h1,if_neg h2,if_neg h3]; rfl
theorem asl (rs xs:List (List Rt)) (hrs:amx rs) (hxs:amx xs) (hrl:rs.length <= 281474976710656) (hxl:xs.length <= 100):FnC prog 37 [ae6 rs, .lst 1 (xs.map nR)] (bl (ai1 rs xs)):=by
 refine gF0 func37 ?_
 refine gl ?_
 refine gC (fun ht8=>?_) (fun ht8=>?_)
 ·have h2 : rs.length = 2 := by have := aek ht8; omega
  refine gc (aip rs xs 2 40 hrs hxs (by omega) hxl) ?_
  refine gE1 ?_
  unfold ai1; rw [if_pos h2]
 ·have h2 : ¬ rs.length = 2 := by have := afa ht8; omega
  refine gc (a0h rs xs hrs hxs hrl hxl) ?_
  refine gE1 ?_
  unfold ai1; rw [if_neg h2]
theorem az2 (l:Li) (hl:l.okw):FnC prog 33 [l.av] (bl (liB l)):=by
 have hbl:=hl.lb
 refine gF0 func33 ?_
 refine gl ?_
 refine gL1 [1,8,9] [1] (fun (i:Nat)=>[(10,some (i64 i))]) (fun _=>[]) (fun i=>i <= l.bodies.length /\ (l.bodies.take i).all bdB = true) (fun i=>l.bodies.length - i) 0 ⟨zero_le _,rfl⟩ ?_
 rintro i ⟨hi,hj⟩ K1 hK1
 refine gC (fun ht11=>?_) (fun ht11=>?_)
 ·have hin:=aa0 ht11
  obtain ⟨b,hb⟩:=abu hin
  refine gi (aad hb) ?_
  refine gl ?_
  refine gC (fun ht17=>?_) (fun ht17=>?_)
  ·have h1:30 < b.pts.length:=ame ht17
   refine gE1 ?_
   unfold liB; rw [adg hb (by unfold bdB; rw [decide_eq_false (by omega)]; rfl)]; rfl
  ·have h1:b.pts.length <= 30:=ams ht17
   refine gl ?_
   refine gL1 [1,8,9,10,19,20] [1] (fun (k:Nat)=>[(21,some (i64 k))]) (fun _=>[]) (fun k=>k <= b.pts.length /\ (b.pts.take k).all mkB = true) (fun k=>b.pts.length - k) 0 ⟨zero_le _,rfl⟩ ?_
   rintro k ⟨hk,hkj⟩ K2 hK2
   refine gC (fun ht22=>?_) (fun ht22=>?_)
   ·have hkn:=aa0 ht22
    obtain ⟨p,hp⟩:=abu hkn
    refine gi (aad hp) ?_
    refine gl ?_
    refine glG ?_
    refine glG ?_
    refine glG ?_
    refine gC (fun ht50=>?_) (fun ht50=>?_)
    ·have h2:mkB p = false:=bni ht50
     refine gE1 ?_
     unfold liB; rw [adg hb (by unfold bdB; rw [adg hp h2,Bool.and_false])]; rfl
    ·have h2:mkB p = true:=bkn ht50
     refine ga aan ?_
     exact gK1 hK2 (k + 1) ⟨hkn,aeh hkj hp h2⟩
   ·have hkn:=aai hk ht22
    refine ga aan ?_
    exact gK1 hK1 (i + 1) ⟨hin,aeh hj hb (by unfold bdB; rw [decide_eq_true h1,af6 hkn hkj]; rfl)⟩
 ·have hin:=aai hi ht11
  refine gl ?_
  refine glG ?_
  refine glG ?_
  refine gE1 ?_
  exact congrArg bl (bgy (af6 hin hj))
end Go.Lw
namespace Go.Lw
open Go.Proofs
theorem az5:FnC prog 13 [.v .nilIface] (i64 0):=by
 refine gF0 func13 ?_
 refine gC (fun ht6=>?_) (fun ht6=>?_) (st2:=(77777,0))
 ·refine gE1 ?_
  first | rfl | (simp; done)
 ·cases ht6
theorem ayu (n:Int):FnC prog 13 [.v (.iface 103 (.int .i64 n))] (i64 n):=by
 refine gF0 func13 ?_
 refine gC (fun ht6=>?_) (fun ht6=>?_) (st1:=(2,0))
 ·cases ht6
 ·refine gs (bbm (.tmp rfl) T103 rfl rfl) ?_
  refine gC (fun ht13=>?_) (fun ht13=>?_) (st1:=(5,0))
  ·cases ht13
  ·refine gE1 ?_
   rfl
theorem amu (e:Nat):FnC prog 13 [ahr e] (i64 e):=by
 cases e with
 | zero=>exact az5
 | succ e=>exact ayu _
end Go.Lw
namespace Go.Lw
structure Gr where
  kind:Int
  bodies:List Int
  joints:List Int
  driver:Int
instance:Inhabited Gr:=⟨⟨0,[],[],0⟩⟩
def Gr.av (g:Gr):AV:=.agg [i64 g.kind,.lst 1 (g.bodies.map i64),.lst 1 (g.joints.map i64),i64 g.driver]
def kn (k:List Bool) (i:Int):Bool:=k.getD i.toNat false
def ael (n:Nat) (b:Int):List Bool:=(List.replicate n false).set b.toNat true
def akv (l:Li) (b:Int):Bool:=l.drivers.any (fun d=>decide (d.body = b))
def freeB (l:Li) (known:List Bool) (b:Int):Bool:=!kn known b && !akv l b
def bbh (kind body:Int) (oth:List Bool) (j:Jt):Bool:=decide (j.kind = kind) && (decide (j.a = body) && kn oth j.b || decide (j.b = body) && kn oth j.a)
def jointI (l:Li) (kind body:Int) (oth:List Bool):Int:=ixI (abk l.joints.length (fun i=>!bbh kind body oth (l.joints.getD i default)))
def drHit (l:Li) (known:List Bool) (i:Nat):Bool:=!kn known (l.drivers.getD i default).body && decide (0 <= jointI l 0 (l.drivers.getD i default).body known)
def driverG (l:Li) (known:List Bool):Option Gr :=
  (abk l.drivers.length (fun i=>!drHit l known i)).map fun i=>⟨0,[(l.drivers.getD i default).body],[jointI l 0 (l.drivers.getD i default).body known],i⟩
def prHit (l:Li) (known:List Bool) (i k:Nat):Bool :=
  (freeB l known i && freeB l known k) && (decide (0 <= jointI l 0 i known) && decide (0 <= jointI l 0 k known) && decide (0 <= jointI l 0 i (ael l.bodies.length k)))
def prAt (l:Li) (known:List Bool) (i:Nat):Option Nat:=(abk (l.bodies.length - (i + 1)) (fun k=>!prHit l known i (i + 1 + k))).map (· + (i + 1))
def prG (l:Li) (known:List Bool) (i k:Nat):Gr:=⟨1,[i,k],[jointI l 0 i known,jointI l 0 k known,jointI l 0 i (ael l.bodies.length k)],0⟩
def pairG (l:Li) (known:List Bool):Option Gr :=
  (abk l.bodies.length (fun i=>(prAt l known i).isNone)).map fun i=>match prAt l known i with
    | some k=>prG l known i k
    | none=>default
def sgHit (l:Li) (known:List Bool) (i:Nat):Bool:=freeB l known i && (decide (0 <= jointI l 0 i known) && decide (0 <= jointI l 1 i known))
def sgG (l:Li) (known:List Bool) (i:Nat):Gr :=
  ⟨if (l.joints.getD (jointI l 1 i known).toNat default).a = i then 2 else 3,[i],[jointI l 0 i known,jointI l 1 i known],0⟩
def singleG (l:Li) (known:List Bool):Option Gr:=(abk l.bodies.length (fun i=>!sgHit l known i)).map (sgG l known)
def nextG (l:Li) (known:List Bool):Option Gr:=(driverG l known).or ((pairG l known).or (singleG l known))
def aau (known:List Bool) (bs:List Int):List Bool:=bs.foldl (fun k b=>k.set b.toNat true) known
def findFrom (l:Li):Nat -> List Bool -> List Gr -> List Bool × List Gr
  | 0,known,out=>(known,out)
  | n + 1, known, out=>match nextG l known with
    | none=>(known,out)
    | some g=>findFrom l n (aau known g.bodies) (out ++ [g])
def findG (l:Li):List Gr:=(findFrom l l.bodies.length (ael l.bodies.length 0) []).2
def adp (l:Li):List Bool:=(findG l).foldl (fun k g=>aau k g.bodies) (ael l.bodies.length 0)
def agy (l:Li):List Bool:=(findG l).foldl (fun k g=>aau k g.joints) (List.replicate l.joints.length false)
def acg (k:List Bool):List Int:=((List.range k.length).filter (fun i=>!k.getD i false)).map (fun i:Nat=>((i:Nat):Int))
def splitE (l:Li):Nat:=if (acg (adp l)).length + (acg (agy l)).length = 0 then 0 else 7
def splitG (l:Li):List Gr:=if splitE l = 0 then findG l else []
theorem axp {kind body:Int} {oth:List Bool} {j:Jt} {va vb:Bool} (ea:kn oth j.a = va) (eb:kn oth j.b = vb) :
  cond (aaa .eql j.kind kind) (cond (cond (aaa .eql j.a body) vb false) true (cond (aaa .eql j.b body) va false)) false = bbh kind body oth j:=by
 unfold bbh
 rw [alf,alf,alf,ea,eb,adf,adf,adf,aha]
theorem ad3 (n:Nat) (b:Int):(ael n b).length = n:=by unfold ael; simp
theorem afp:∀ (bs:List Int) (k:List Bool), (aau k bs).length = k.length
 | [],k=>rfl
 | b :: bs, k=>by
  show (aau (k.set b.toNat true) bs).length = _
  rw [afp bs]; simp
theorem abt {n i:Nat} {ok:Nat -> Bool} (h:abk n ok = some i):i < n /\ ok i = false:=by
 unfold abk at h
 rw [List.find?_range_eq_some] at h
 exact ⟨by simpa using h.2.1,by simpa using h.1⟩
theorem afs {l:Li} {kind body:Int} {oth:List Bool}:-1 <= jointI l kind body oth /\ jointI l kind body oth < l.joints.length:=by
 unfold jointI
 cases h:abk l.joints.length (fun i=>!bbh kind body oth (l.joints.getD i default)) with
 | none=>exact ⟨by decide,by show (-1:Int) < _; omega⟩
 | some i=>have:=(abt h).1; exact ⟨by show (-1:Int) <= (i:Int); omega,by show (i:Int) < _; omega⟩
structure GrOk (l:Li) (g:Gr):Prop where
  b:∀ x ∈ g.bodies,0 <= x /\ x < l.bodies.length
  j:∀ x ∈ g.joints,0 <= x /\ x < l.joints.length
  lb:g.bodies.length <= 2
  lj:g.joints.length <= 3
theorem a4l {l:Li} (hl:liE l = 0) {known:List Bool} {g:Gr} (h:driverG l known = some g):GrOk l g:=by
 unfold driverG at h
 rw [map_eq_some_iff] at h
 obtain ⟨i,hi,rfl⟩:=h
 obtain ⟨h1,h2⟩:=abt hi
 obtain ⟨d,hd⟩:=abu h1
 have h3:=ahk (azc hl hd)
 unfold drHit at h2
 simp only [Bool.not_eq_false',and_eq_true,decide_eq_true_eq] at h2
 rw [aaf hd] at h2 ⊢
 have h4:=afs (l:=l) (kind:=0) (body:=d.body) (oth:=known)
 refine ⟨fun x hx=>?_,fun x hx=>?_,by simp,by simp⟩
 ·rw [List.mem_singleton.1 hx]; exact h3
 ·rw [List.mem_singleton.1 hx]; exact ⟨h2.2,h4.2⟩
theorem bcd {l:Li} {known:List Bool} {g:Gr} (h:pairG l known = some g):GrOk l g:=by
 unfold pairG at h
 rw [map_eq_some_iff] at h
 obtain ⟨i,hi,h⟩:=h
 obtain ⟨h1,h2⟩:=abt hi
 split at h
 ·rename_i k hk
  subst h
  unfold prAt at hk
  rw [map_eq_some_iff] at hk
  obtain ⟨k',hk',rfl⟩:=hk
  obtain ⟨h3,h4⟩:=abt hk'
  rw [show i + 1 + k' = k' + (i + 1) by omega] at h4
  unfold prHit at h4
  simp only [Bool.not_eq_false',and_eq_true,decide_eq_true_eq] at h4
  obtain ⟨_,⟨j1,j2⟩,j3⟩:=h4
  refine ⟨fun x hx=>?_,fun x hx=>?_,by simp [prG],by simp [prG]⟩
  ·simp only [prG, mem_cons, not_mem_nil, or_false] at hx
   rcases hx with rfl | rfl <;> constructor <;> omega
  ·simp only [prG, mem_cons, not_mem_nil, or_false] at hx
   rcases hx with rfl | rfl | rfl
   ·exact ⟨j1,afs.2⟩
   ·exact ⟨j2,afs.2⟩
   ·exact ⟨j3,afs.2⟩
 ·rename_i hk; rw [hk] at h2; cases h2
theorem a4c {l:Li} {known:List Bool} {g:Gr} (h:singleG l known = some g):GrOk l g:=by
 unfold singleG at h
 rw [map_eq_some_iff] at h
 obtain ⟨i,hi,rfl⟩:=h
 obtain ⟨h1,h2⟩:=abt hi
 unfold sgHit at h2
 simp only [Bool.not_eq_false',and_eq_true,decide_eq_true_eq] at h2
 obtain ⟨_,j1,j2⟩:=h2
 refine ⟨fun x hx=>?_,fun x hx=>?_,by simp [sgG],by simp [sgG]⟩
 ·simp only [sgG, mem_cons, not_mem_nil, or_false] at hx
  subst hx; constructor <;> omega
 ·simp only [sgG, mem_cons, not_mem_nil, or_false] at hx
  rcases hx with rfl | rfl
  ·exact ⟨j1,afs.2⟩
  ·exact ⟨j2,afs.2⟩
theorem aua {l:Li} (hl:liE l = 0) {known:List Bool} {g:Gr} (h:nextG l known = some g):GrOk l g:=by
 unfold nextG at h
 cases h1:driverG l known with
 | some g'=>rw [h1] at h; cases h; exact a4l hl h1
 | none =>
  rw [h1] at h
  cases h2:pairG l known with
  | some g'=>rw [h2] at h; cases h; exact bcd h2
  | none=>rw [h2] at h; exact a4c h
theorem apb {l:Li} (hl:liE l = 0):∀ (n:Nat) (known:List Bool) (out:List Gr), (∀ g ∈ out, GrOk l g) -> (∀ g ∈ (findFrom l n known out).2, GrOk l g) /\ (findFrom l n known out).2.length <= out.length + n
 | 0,known,out,h=>⟨h,by simp [findFrom]⟩
 | n + 1, known, out, h=>by
  unfold findFrom
  cases hg:nextG l known with
  | none=>exact ⟨h,by simp⟩
  | some g =>
   have h1:=apb hl n (aau known g.bodies) (out ++ [g]) (fun x hx=>by
    rcases List.mem_append.1 hx with hx | hx
    ·exact h x hx
    ·rw [List.mem_singleton.1 hx]; exact aua hl hg)
   refine ⟨h1.1,?_⟩
   have:=h1.2
   rw [length_append] at this
   show (findFrom l n (aau known g.bodies) (out ++ [g])).2.length <= _
   simp only [length_cons,length_nil] at this
   omega
theorem aka {l:Li} (hl:liE l = 0):(∀ g ∈ findG l, GrOk l g) /\ (findG l).length <= 8:=by
 have h:=apb hl l.bodies.length (ael l.bodies.length 0) [] (fun g hg=>by cases hg)
 have h8:=(ab1 hl).2.2.2.1
 exact ⟨h.1,by have:=h.2; simp only [length_nil] at this; unfold findG; omega⟩
end Go.Lw
namespace Go.Lw
def aiy (j:Jt) (b:Int):Int:=if b = j.a then j.b else if b = j.b then j.a else -1
def bo3 (kind body:Int) (p:Int -> Bool) (j:Jt):Bool:=decide (j.kind = kind) && (decide (0 <= aiy j body) && p (aiy j body))
def gJ (l:Li) (kind body:Int) (p:Int -> Bool):Int:=ixI (abk l.joints.length (fun i=>!bo3 kind body p (l.joints.getD i default)))
theorem br1 {b:Bool} {z:Int} (h:cond b (aaa .geq z 0) false = true):0 <= z:=by
 cases b
 ·cases h
 ·exact of_decide_eq_true h
theorem blm {a k z:Int} {q:Bool}:cond (cond (aaa .eql a k) (aaa .geq z 0) false) q false = (decide (a = k) && (decide (0 <= z) && q)):=by
 rw [alf,show aaa .geq z 0 = decide (0 <= z) from rfl,adf,adf,Bool.and_assoc]
theorem bcb {l:Li} (hli:liE l = 0) {i:Nat} {j:Jt} (hj:l.joints[i]? = some j) (b:Int):aiy j b < l.bodies.length:=by
 obtain ⟨i1,i2,_⟩:=afu hli hj
 have b1:=ahk i1
 have b2:=ahk i2
 unfold aiy
 split
 ·omega
 ·split <;> omega
theorem awx {n:Nat} {ok ok':Nat -> Bool} (h:∀ i, i < n -> ok i = ok' i):abk n ok = abk n ok':=by
 unfold abk
 have:∀ l:List Nat, (∀ i ∈ l, i < n) -> l.find? (fun i=>!ok i) = l.find? (fun i=>!ok' i):=by
  intro l
  induction l with
  | nil=>intro _; rfl
  | cons a l ih =>
   intro hl
   simp only [List.find?_cons,h a (hl a (by simp)),ih (fun i hi=>hl i (by simp [hi]))]
 exact this _ (fun i hi=>List.mem_range.1 hi)
theorem bhv {l:Li} (hli:liE l = 0) {kind body:Int} {p:Int -> Bool} {oth:List Bool} (h:∀ o:Int, 0 <= o -> o < l.bodies.length -> p o = kn oth o):gJ l kind body p = jointI l kind body oth:=by
 unfold gJ jointI
 rw [awx]
 intro i hi
 obtain ⟨j,hj⟩:=abu hi
 rw [aaf hj]
 obtain ⟨i1,i2,_⟩:=afu hli hj
 have b1:=ahk i1
 have b2:=ahk i2
 congr 1
 unfold bo3 bbh
 congr 1
 unfold aiy
 by_cases h1:body = j.a
 ·subst h1
  rw [if_pos rfl,h _ b2.1 b2.2]
  by_cases h2:j.b = j.a
  ·simp [h2,b1.1]
  ·simp [h2,b2.1]
 ·rw [if_neg h1]
  by_cases h2:body = j.b
  ·subst h2
   rw [if_pos rfl,h _ b1.1 b1.2]
   have h3:¬ j.a = j.b:=fun e=>h1 e.symm
   simp [h3,b1.1]
  ·rw [if_neg h2]
   have h3:¬ j.a = body:=fun e=>h1 e.symm
   have h4:¬ j.b = body:=fun e=>h2 e.symm
   simp [h3,h4]
theorem bfx {k:List Bool} {i:Nat} {b:Int} (h0:0 <= b) (hi:i < k.length):kn (k.set i true) b = (decide (b = i) || kn k b):=by
 unfold kn
 rw [getD_eq_getElem?_getD,List.getElem?_set,getD_eq_getElem?_getD]
 by_cases h:b = i
 ·rw [decide_eq_true h, Bool.true_or, if_pos (by omega)]
  rw [if_pos (by omega)]; rfl
 ·rw [decide_eq_false h,Bool.false_or,if_neg (by omega)]
theorem a6s:∀ {bs:List Int} {k:List Bool} {b:Int}, 0 <= b -> (∀ x ∈ bs, 0 <= x /\ x < k.length) -> kn (aau k bs) b = (bs.any (fun x=>decide (x = b)) || kn k b)
 | [],k,b,h0,h=>by simp [aau]
 | x :: bs, k, b, h0, h=>by
  show kn (aau (k.set x.toNat true) bs) b = _
  obtain ⟨hx0,hx1⟩:=h x (by simp)
  rw [a6s h0 (fun y hy=>by rw [length_set]; exact h y (by simp [hy])),bfx h0 (by omega),List.any_cons]
  have e:decide (b = (x.toNat:Int)) = decide (x = b):=decide_eq_decide.2 (by omega)
  rw [e]
  cases decide (x = b) <;> simp
theorem a1c (n:Nat) (b:Int):kn (List.replicate n false) b = false:=by
 unfold kn
 rw [getD_eq_getElem?_getD,List.getElem?_replicate]
 split <;> rfl
def aaz (l:Li):List Bool:=aau (List.replicate l.bodies.length false) (l.drivers.map Dr.body)
theorem ah0 (l:Li):(aaz l).length = l.bodies.length:=by unfold aaz; rw [afp,List.length_replicate]
theorem a9k {l:Li} (hli:liE l = 0) {b:Int} (h0:0 <= b):kn (aaz l) b = akv l b:=by
 unfold aaz akv
 rw [a6s h0,a1c,Bool.or_false,List.any_map]
 ·rfl
 ·intro x hx
  obtain ⟨d,hd,rfl⟩:=List.mem_map.1 hx
  obtain ⟨i,hi⟩:=List.mem_iff_getElem?.1 hd
  have:=ahk (azc hli hi)
  rw [List.length_replicate]; omega
theorem azf {n:Nat} {b o:Int} (h0:0 <= o) (hb0:0 <= b) (hb:b < n):kn (ael n b) o = decide (o = b):=by
 unfold ael
 rw [bfx h0 (by rw [List.length_replicate]; omega),a1c,Bool.or_false]
 exact decide_eq_decide.2 (by omega)
def unk (k:List Bool):Nat:=k.countP (fun x=>!x)
theorem bhd {k:List Bool} {i:Nat} (h:k[i]? = some false):unk (k.set i true) + 1 = unk k:=by
 unfold unk
 have hi:=(List.getElem?_eq_some_iff.1 h).1
 have he:=(List.getElem?_eq_some_iff.1 h).2
 rw [List.countP_set hi,he]
 have:0 < k.countP (fun x=>!x):=List.countP_pos_iff.2 ⟨false,mem_of_getElem? h,rfl⟩
 simp; omega
theorem a3x (k:List Bool) (i:Nat):unk (k.set i true) <= unk k:=by
 by_cases hi:i < k.length
 ·unfold unk; rw [List.countP_set hi]; simp
 ·rw [List.set_eq_of_length_le (by omega)]; exact le_refl _
theorem aqa:∀ (bs:List Int) (k:List Bool), unk (aau k bs) <= unk k
 | [],k=>le_refl _
 | x :: bs,k=>le_trans (aqa bs (k.set x.toNat true)) (a3x k _)
theorem bca {x:Int} {bs:List Int} {k:List Bool} (h:k[x.toNat]? = some false):unk (aau k (x :: bs)) < unk k:=by
 have h1:=aqa bs (k.set x.toNat true)
 have h2:=bhd h
 show unk (aau (k.set x.toNat true) bs) < _
 omega
theorem bau {k:List Bool} {b:Int} (h:kn k b = false) (h1:b.toNat < k.length):k[b.toNat]? = some false:=by
 unfold kn at h
 rw [getD_eq_getElem?_getD,getElem?_eq_getElem h1] at h
 rw [getElem?_eq_getElem h1]
 simpa using h
theorem a5v {l:Li} (hl:liE l = 0) {known:List Bool} (hk:known.length = l.bodies.length) {g:Gr} (h:nextG l known = some g):∃ x bs, g.bodies = x :: bs /\ known[x.toNat]? = some false:=by
 unfold nextG at h
 cases h1:driverG l known with
 | some g' =>
  rw [h1] at h; cases h
  unfold driverG at h1
  rw [map_eq_some_iff] at h1
  obtain ⟨i,hi,rfl⟩:=h1
  obtain ⟨h2,h3⟩:=abt hi
  obtain ⟨d,hd⟩:=abu h2
  have h4:=ahk (azc hl hd)
  rw [aaf hd] at *
  unfold drHit at h3
  rw [aaf hd] at h3
  simp only [Bool.not_eq_false',and_eq_true,Bool.not_eq_true',decide_eq_true_eq] at h3
  exact ⟨_,_,rfl,bau h3.1 (by omega)⟩
 | none =>
  rw [h1] at h
  cases h2:pairG l known with
  | some g' =>
   rw [h2] at h; cases h
   unfold pairG at h2
   rw [map_eq_some_iff] at h2
   obtain ⟨i,hi,h2⟩:=h2
   obtain ⟨h3,h4⟩:=abt hi
   split at h2
   ·rename_i k hk'
    subst h2
    unfold prAt at hk'
    rw [map_eq_some_iff] at hk'
    obtain ⟨k',hk',rfl⟩:=hk'
    obtain ⟨h5,h6⟩:=abt hk'
    unfold prHit freeB at h6
    simp only [Bool.not_eq_false',and_eq_true,Bool.not_eq_true',decide_eq_true_eq] at h6
    exact ⟨_,_,rfl,bau h6.1.1.1 (by omega)⟩
   ·rename_i hk'; rw [hk'] at h4; cases h4
  | none =>
   rw [h2] at h
   have h:singleG l known = some g:=h
   unfold singleG at h
   rw [map_eq_some_iff] at h
   obtain ⟨i,hi,rfl⟩:=h
   obtain ⟨h3,h4⟩:=abt hi
   unfold sgHit freeB at h4
   simp only [Bool.not_eq_false',and_eq_true,Bool.not_eq_true',decide_eq_true_eq] at h4
   exact ⟨_,_,rfl,bau h4.1.1 (by omega)⟩
theorem ah3 {l:Li} (hl:liE l = 0) {known:List Bool} (hk:known.length = l.bodies.length) {g:Gr} (h:nextG l known = some g):unk (aau known g.bodies) < unk known:=by
 obtain ⟨x,bs,e,h1⟩:=a5v hl hk h
 rw [e]; exact bca h1
theorem ail {l:Li} (hl:liE l = 0):∀ (n m:Nat) (known:List Bool) (out:List Gr), known.length = l.bodies.length -> unk known <= n -> unk known <= m -> findFrom l n known out = findFrom l m known out
 | 0,0,known,out,hk,h1,h2=>rfl
 | 0, m + 1, known, out, hk, h1, h2=>by
  unfold findFrom
  cases hg:nextG l known with
  | none=>rfl
  | some g=>have:=ah3 hl hk hg; omega
 | n + 1, 0, known, out, hk, h1, h2=>by
  unfold findFrom
  cases hg:nextG l known with
  | none=>rfl
  | some g=>have:=ah3 hl hk hg; omega
 | n + 1, m + 1, known, out, hk, h1, h2=>by
  unfold findFrom
  cases hg:nextG l known with
  | none=>rfl
  | some g =>
   have:=ah3 hl hk hg
   exact ail hl n m _ _ (by rw [afp]; exact hk) (by omega) (by omega)
theorem ahc {l:Li}:∀ (n:Nat) (known:List Bool) (out:List Gr), ∃ gs, findFrom l n known out = (gs.foldl (fun k g=>aau k g.bodies) known, out ++ gs)
 | 0,known,out=>⟨[],by simp [findFrom]⟩
 | n + 1, known, out=>by
  unfold findFrom
  cases hg:nextG l known with
  | none=>exact ⟨[],by simp⟩
  | some g =>
   obtain ⟨gs,e⟩:=ahc n (aau known g.bodies) (out ++ [g])
   exact ⟨g :: gs,by show findFrom l n _ _ = _; rw [e]; simp⟩
theorem a3l (l:Li):findFrom l l.bodies.length (ael l.bodies.length 0) [] = (adp l, findG l):=by
 obtain ⟨gs,e⟩:=ahc (l:=l) l.bodies.length (ael l.bodies.length 0) []
 unfold adp findG
 rw [e]; simp
theorem a2f {k:List Bool}:(acg k).length = 0 ↔ k.contains false = false:=by
 unfold acg
 rw [length_map,List.length_eq_zero_iff,List.filter_eq_nil_iff]
 constructor
 ·intro h
  rw [<- Bool.not_eq_true,List.contains_iff_mem]
  intro hm
  obtain ⟨i,hi⟩:=List.mem_iff_getElem?.1 hm
  have hlt:=(List.getElem?_eq_some_iff.1 hi).1
  have:=h i (List.mem_range.2 hlt)
  rw [getD_eq_getElem?_getD,hi] at this
  simp at this
 ·intro h i hi
  rw [<- Bool.not_eq_true,List.contains_iff_mem] at h
  intro hc
  have hlt:=List.mem_range.1 hi
  rw [getD_eq_getElem?_getD,getElem?_eq_getElem hlt] at hc
  simp at hc
  exact h (hc ▸ List.getElem_mem hlt)
theorem ank:Sub (.agg [.v (.int .i64 0),.v (.slice none 0 0),.v (.slice none 0 0),.v (.int .i64 0)]) (Gr.av default):=.agg (.cons (.refl _) (.cons (.nil _ _ _) (.cons (.nil _ _ _) (.cons (.refl _) .nil)))) rfl
theorem bmh {z:Int} (h:aaa .geq z 0 = true):0 <= z:=of_decide_eq_true h
theorem bly {z:Int} (h:aaa .geq z 0 = false):¬ 0 <= z:=of_decide_eq_false h
theorem aur {a b c:Int}:cond (cond (aaa .geq a 0) (aaa .geq b 0) false) (aaa .geq c 0) false = (decide (0 <= a) && decide (0 <= b) && decide (0 <= c)):=by
 have e:∀ z:Int,aaa .geq z 0 = decide (0 <= z):=fun z=>rfl
 rw [e,e,e,adf,adf]
theorem bmr {a b:Int}:cond (aaa .lss a 0) true (aaa .lss b 0) = !(decide (0 <= a) && decide (0 <= b)):=by
 have e:∀ z:Int,aaa .lss z 0 = !decide (0 <= z):=fun z=>by rw [<- decide_not]; exact decide_eq_decide.2 (by omega)
 rw [e,e,aha,Bool.not_and]
theorem bna {a b:Int} (h:cond (aaa .lss a 0) true (aaa .lss b 0) = true):(decide (0 <= a) && decide (0 <= b)) = false:=by rw [bmr] at h; exact adj h
theorem bok {a b:Int} (h:cond (aaa .lss a 0) true (aaa .lss b 0) = false):0 <= a /\ 0 <= b:=by
 rw [bmr] at h
 have:=adk h
 simpa using this
end Go.Lw
namespace Go.Lw
structure TieO (l:Li) (kind:Int) (bs:List Int) (z b:Int) (j:Jt):Prop where
  hz:0 <= z
  hj:l.joints[z.toNat]? = some j
  kd:j.kind = kind
  tie:(j.a = b /\ j.b ∉ bs) \/ (j.b = b /\ j.a ∉ bs)
inductive DyK (l:Li):Gr -> Prop where
  | drv {b z d:Int} {j:Jt} {x:Dr} (t:TieO l 0 [b] z b j) (d0:0 <= d) (hd:l.drivers[d.toNat]? = some x) (hb:x.body = b):DyK l ⟨0,[b],[z],d⟩
  | rrr {i k z0 z1 z2:Int} {j0 j1 j2:Jt} (ne:i ≠ k) (t0:TieO l 0 [i, k] z0 i j0) (t1:TieO l 0 [i, k] z1 k j1) (h0:0 <= z2) (h2:l.joints[z2.toNat]? = some j2) (kd:j2.kind = 0)
      (tie:(j2.a = i /\ j2.b = k) \/ (j2.b = i /\ j2.a = k)):DyK l ⟨1,[i,k],[z0,z1,z2],0⟩
  | pr {i z0 z1:Int} {j0 j1:Jt} (t0:TieO l 0 [i] z0 i j0) (t1:TieO l 1 [i] z1 i j1) (ha:j1.a = i):DyK l ⟨2,[i],[z0,z1],0⟩
  | rp {i z0 z1:Int} {j0 j1:Jt} (t0:TieO l 0 [i] z0 i j0) (t1:TieO l 1 [i] z1 i j1) (ha:j1.a ≠ i):DyK l ⟨3,[i],[z0,z1],0⟩
theorem avy {l:Li} {kind b:Int} {oth:List Bool} (h:0 <= jointI l kind b oth) :
  ∃ (i:Nat) (j:Jt),jointI l kind b oth = (i:Int) /\ l.joints[i]? = some j /\ j.kind = kind /\ ((j.a = b /\ kn oth j.b = true) \/ (j.b = b /\ kn oth j.a = true)):=by
 unfold jointI at h ⊢
 cases hf:abk l.joints.length (fun i=>!bbh kind b oth (l.joints.getD i default)) with
 | none=>rw [hf] at h; exact absurd h (by decide)
 | some i =>
  obtain ⟨h1,h2⟩:=abt hf
  obtain ⟨j,hj⟩:=abu h1
  rw [aaf hj] at h2
  unfold bbh at h2
  simp only [Bool.not_eq_false',and_eq_true,or_eq_true,decide_eq_true_eq] at h2
  exact ⟨i,j,rfl,hj,h2.1,h2.2⟩
theorem aw9 {l:Li} {kind b:Int} {known:List Bool} {bs:List Int} (hb:∀ x ∈ bs, kn known x = false) (h:0 <= jointI l kind b known):∃ j, TieO l kind bs (jointI l kind b known) b j:=by
 obtain ⟨i,j,e,hj,hk,ht⟩:=avy h
 have hn:∀ x,kn known x = true -> x ∉ bs:=fun x hx hm=>by rw [hb x hm] at hx; cases hx
 refine ⟨j,h,by rw [e,toNat_natCast]; exact hj,hk,?_⟩
 rcases ht with ⟨h1,h2⟩ | ⟨h1,h2⟩
 ·exact .inl ⟨h1,hn _ h2⟩
 ·exact .inr ⟨h1,hn _ h2⟩
theorem as2 {l:Li} {known:List Bool} {b:Int} (h:freeB l known b = true):kn known b = false:=by
 unfold freeB at h
 simp only [and_eq_true,Bool.not_eq_true'] at h
 exact h.1
theorem a6r {known:List Bool} {b:Int} (h:kn known b = false):∀ x ∈ [b],kn known x = false:=fun x hx=>by rw [List.mem_singleton.1 hx]; exact h
theorem a3z {l:Li} (hl:liE l = 0) {known:List Bool} {g:Gr} (h:driverG l known = some g):DyK l g:=by
 unfold driverG at h
 rw [map_eq_some_iff] at h
 obtain ⟨i,hi,rfl⟩:=h
 obtain ⟨h1,h2⟩:=abt hi
 obtain ⟨d,hd⟩:=abu h1
 unfold drHit at h2
 simp only [Bool.not_eq_false',and_eq_true,decide_eq_true_eq,Bool.not_eq_true'] at h2
 rw [aaf hd] at h2 ⊢
 obtain ⟨j,hj⟩:=aw9 (a6r h2.1) h2.2
 exact .drv hj (by omega) (by rw [toNat_natCast]; exact hd) rfl
theorem bbw {l:Li} (hl:liE l = 0) {known:List Bool} {g:Gr} (h:pairG l known = some g):DyK l g:=by
 unfold pairG at h
 rw [map_eq_some_iff] at h
 obtain ⟨i,hi,h⟩:=h
 obtain ⟨h1,h2⟩:=abt hi
 split at h
 ·rename_i k hk
  subst h
  unfold prAt at hk
  rw [map_eq_some_iff] at hk
  obtain ⟨k',hk',rfl⟩:=hk
  obtain ⟨h3,h4⟩:=abt hk'
  rw [show i + 1 + k' = k' + (i + 1) by omega] at h4
  unfold prHit at h4
  simp only [Bool.not_eq_false',and_eq_true,decide_eq_true_eq] at h4
  obtain ⟨⟨f1,f2⟩,⟨j1,j2⟩,j3⟩:=h4
  have hb:∀ x ∈ [(i:Int), ((k' + (i + 1):Nat):Int)], kn known x = false:=fun x hx=>by
   simp only [mem_cons,not_mem_nil,or_false] at hx
   rcases hx with rfl | rfl
   ·exact as2 f1
   ·exact as2 f2
  obtain ⟨a0,t0⟩:=aw9 hb j1
  obtain ⟨a1,t1⟩:=aw9 hb j2
  obtain ⟨n,a2,e,hj,hkd,ht⟩:=avy j3
  obtain ⟨i1,i2,_⟩:=afu hl hj
  have i1:=(ahk i1).1
  have i2:=(ahk i2).1
  refine .rrr (by omega) t0 t1 j3 (by rw [e,toNat_natCast]; exact hj) hkd ?_
  rcases ht with ⟨e1,e2⟩ | ⟨e1,e2⟩
  ·rw [azf i2 (by omega) (by omega)] at e2
   exact .inl ⟨e1,of_decide_eq_true e2⟩
  ·rw [azf i1 (by omega) (by omega)] at e2
   exact .inr ⟨e1,of_decide_eq_true e2⟩
 ·rename_i hk; rw [hk] at h2; cases h2
theorem a3c {l:Li} {known:List Bool} {g:Gr} (h:singleG l known = some g):DyK l g:=by
 unfold singleG at h
 rw [map_eq_some_iff] at h
 obtain ⟨i,hi,rfl⟩:=h
 obtain ⟨h1,h2⟩:=abt hi
 unfold sgHit at h2
 simp only [Bool.not_eq_false',and_eq_true,decide_eq_true_eq] at h2
 obtain ⟨f1,j1,j2⟩:=h2
 obtain ⟨a0,t0⟩:=aw9 (a6r (as2 f1)) j1
 obtain ⟨a1,t1⟩:=aw9 (a6r (as2 f1)) j2
 unfold sgG
 rw [aaf t1.hj]
 by_cases e:a1.a = i
 ·rw [if_pos e]; exact .pr t0 t1 e
 ·rw [if_neg e]; exact .rp t0 t1 e
theorem bc5 {l:Li} (hl:liE l = 0) {known:List Bool} {g:Gr} (h:nextG l known = some g):DyK l g:=by
 unfold nextG at h
 cases h1:driverG l known with
 | some g'=>rw [h1] at h; cases h; exact a3z hl h1
 | none =>
  rw [h1] at h
  cases h2:pairG l known with
  | some g'=>rw [h2] at h; cases h; exact bbw hl h2
  | none=>rw [h2] at h; exact a3c h
theorem ap2 {l:Li} (hl:liE l = 0):∀ (n:Nat) (known:List Bool) (out:List Gr), (∀ g ∈ out, DyK l g) -> ∀ g ∈ (findFrom l n known out).2, DyK l g
 | 0,known,out,h=>h
 | n + 1, known, out, h=>by
  unfold findFrom
  cases hg:nextG l known with
  | none=>exact h
  | some g=>exact ap2 hl n (aau known g.bodies) (out ++ [g]) (fun x hx=>by
    rcases List.mem_append.1 hx with hx | hx
    ·exact h x hx
    ·rw [List.mem_singleton.1 hx]; exact bc5 hl hg)
theorem al7 {l:Li} (hl:liE l = 0) {g:Gr} (h:g ∈ splitG l):DyK l g /\ GrOk l g:=by
 unfold splitG at h
 split at h
 ·exact ⟨ap2 hl _ _ _ (fun g hg=>by cases hg) g h,(aka hl).1 g h⟩
 ·cases h
end Go.Lw
namespace Go.Lw
def aou (xs:List Int):List Int:=xs.mergeSort (fun a b=>decide (a <= b))
theorem auz (xs:List Int):(aou xs).Perm xs:=List.mergeSort_perm _ _
theorem a42 (xs:List Int):(aou xs).Pairwise (· <= ·):=by
 have h:=List.pairwise_mergeSort (le:=fun a b:Int=>decide (a <= b)) (fun a b c h1 h2=>by simp only [decide_eq_true_eq] at *; omega) (fun a b=>by simp only [or_eq_true,decide_eq_true_eq]; omega) xs
 exact h.imp (fun h=>of_decide_eq_true h)
theorem bdq {xs ys:List Int} (hp:ys.Perm xs) (hs:ys.Pairwise (· <= ·)):ys = aou xs :=
 List.Perm.eq_of_pairwise (le:=fun a b:Int=>a <= b) (fun a b _ _ h1 h2=>by omega) hs (a42 xs) (hp.trans (auz xs).symm)
theorem a9y (xs:List Int):(aou xs).length = xs.length:=(auz xs).length_eq
theorem ay6 {xs:List Int} {b:Int}:b ∈ aou xs ↔ b ∈ xs:=(auz xs).mem_iff
theorem apo (e:Nat) (l:List Nat):aeb (e :: l) = if e ≠ 0 then e else aeb l:=rfl
theorem ala {α:Type} {f:α -> Nat} {L:List α} (h:∀ x ∈ L, f x = 0):aeb (L.map f) = 0:=by
 induction L with
 | nil=>rfl
 | cons x L ih =>
  rw [map_cons,apo,if_neg (by rw [h x (mem_cons_self ..)]; simp)]
  exact ih (fun y hy=>h y (mem_cons_of_mem _ hy))
def anc (g:Gr) (j:Jt):Int:=if g.bodies.contains j.a = true then (if g.bodies.contains j.b = true then -1 else j.b) else j.a
def at7 (l:Li) (g:Gr):List Int:=g.joints.map (fun j=>anc g (l.joints.getD j.toNat default))
theorem amz (l:Li) (g:Gr):(at7 l g).length = g.joints.length:=by unfold at7; rw [length_map]
theorem bjm {l:Li} (hl:liE l = 0) {g:Gr} (hg:GrOk l g):∀ b ∈ at7 l g, b < l.bodies.length:=by
 intro b hb
 unfold at7 at hb
 obtain ⟨z,hz,rfl⟩:=List.mem_map.1 hb
 obtain ⟨z0,z1⟩:=hg.j z hz
 obtain ⟨j,hj⟩:=abu (l:=l.joints) (i:=z.toNat) (by omega)
 rw [aaf hj]
 obtain ⟨i1,i2,_⟩:=afu hl hj
 have i1:=ahk i1
 have i2:=ahk i2
 unfold anc
 split
 ·split
  ·omega
  ·omega
 ·omega
def ndL (l:Li) (g:Gr) (own:Bool):List Int:=at7 l g ++ (if own = true then g.bodies else [])
theorem a7m {l:Li} (hl:liE l = 0) {g:Gr} (hg:GrOk l g) {own:Bool}:∀ b ∈ ndL l g own, b < l.bodies.length:=by
 intro b hb
 rcases List.mem_append.1 hb with hb | hb
 ·exact bjm hl hg b hb
 ·split at hb
  ·exact (hg.b b hb).2
  ·cases hb
theorem bk8 {l:Li} {g:Gr} (hg:GrOk l g) {own:Bool}:(ndL l g own).length <= 5:=by
 unfold ndL
 have h1:=hg.lb
 have h2:=hg.lj
 rw [length_append,amz]
 split
 ·omega
 ·simp only [length_nil]; omega
def ndE (a:As) (b:Int):Nat:=if b < 0 then 0 else aa2 a.rs (a.bs.getD b.toNat default).l
def gAt (l:Li) (k:Int):Gr:=(splitG l).getD k.toNat default
def a46 (l:Li) (k:Int) (a:As) (own:Bool):Nat :=
  if splitE l ≠ 0 then splitE l else if k < 0 \/ ((splitG l).length:Int) <= k then 9 else if a.bs.length ≠ l.bodies.length then 10 else if ad8 a.rs ≠ 0 then ad8 a.rs
  else aeb ((aou (ndL l (gAt l k) own)).map (ndE a))
def dyE (l:Li) (k:Int) (a:As) (own:Bool):Nat:=if liE l ≠ 0 then liE l else a46 l k a own
section
variable {l:Li} {k:Int} {a:As} {own:Bool}
theorem bkb (h:liE l = 0):dyE l k a own = a46 l k a own:=by unfold dyE; rw [if_neg (by omega)]
theorem br0 {e:Nat} (he:(if liE l = 0 then splitE l else liE l) = e) (h:e ≠ 0):dyE l k a own = e:=by
 by_cases h1:liE l = 0
 ·rw [if_pos h1] at he
  rw [bkb h1]; unfold a46; rw [if_pos (by omega)]; exact he
 ·rw [if_neg h1] at he
  unfold dyE; rw [if_pos h1]; exact he
theorem bpb (h:(if liE l = 0 then splitE l else liE l) = 0):liE l = 0 /\ splitE l = 0:=by
 by_cases h1:liE l = 0
 ·rw [if_pos h1] at h; exact ⟨h1,h⟩
 ·rw [if_neg h1] at h; exact absurd h h1
theorem bry (hs:splitE l = 0) (hk:k < 0 \/ ((splitG l).length:Int) <= k):a46 l k a own = 9:=by unfold a46; rw [if_neg (by omega),if_pos hk]
theorem brx (hs:splitE l = 0) (hk:¬ (k < 0 \/ ((splitG l).length:Int) <= k)) (hb:a.bs.length ≠ l.bodies.length):a46 l k a own = 10:=by
 unfold a46; rw [if_neg (by omega),if_neg hk,if_pos hb]
theorem br3 (hs:splitE l = 0) (hk:¬ (k < 0 \/ ((splitG l).length:Int) <= k)) (hb:a.bs.length = l.bodies.length) (hc:ad8 a.rs ≠ 0):a46 l k a own = ad8 a.rs:=by
 unfold a46; rw [if_neg (by omega),if_neg hk,if_neg (by omega),if_pos hc]
theorem br7 (hs:splitE l = 0) (hk:¬ (k < 0 \/ ((splitG l).length:Int) <= k)) (hb:a.bs.length = l.bodies.length) (hc:ad8 a.rs = 0):a46 l k a own = aeb ((aou (ndL l (gAt l k) own)).map (ndE a)):=by
 unfold a46; rw [if_neg (by omega),if_neg hk,if_neg (by omega),if_neg (by omega)]
end
structure DyOk (l:Li) (k:Int) (a:As) (own:Bool) (i:Nat) (g:Gr):Prop where
  li:liE l = 0
  sp:splitE l = 0
  hk:k = (i:Int)
  hg:(splitG l)[i]? = some g
  ok:GrOk l g
  dy:DyK l g
  ln:a.bs.length = l.bodies.length
  chk:ad8 a.rs = 0
  nd:∀ b ∈ ndL l g own,ndE a b = 0
theorem bhr {l:Li} {k:Int} {a:As} {own:Bool} (h:dyE l k a own = 0):∃ i g, DyOk l k a own i g:=by
 unfold dyE at h
 split at h
 ·rename_i h1; exact absurd h h1
 ·rename_i h1
  have h1:=Decidable.not_not.1 h1
  unfold a46 at h
  split at h
  ·rename_i h2; exact absurd h h2
  ·rename_i h2
   split at h
   ·cases h
   ·rename_i h3
    split at h
    ·cases h
    ·rename_i h4
     split at h
     ·rename_i h5; exact absurd h h5
     ·rename_i h5
      obtain ⟨g,hg⟩:=abu (l:=splitG l) (i:=k.toNat) (by omega)
      have e:gAt l k = g:=aaf hg
      rw [e] at h
      obtain ⟨d1,d2⟩:=al7 h1 (mem_of_getElem? hg)
      refine ⟨k.toNat,g,h1,by omega,by omega,hg,d2,d1,by omega,by omega,fun b hb=>?_⟩
      exact aej h _ (List.mem_map.2 ⟨b,ay6.2 hb,rfl⟩)
theorem DyOk.body {l:Li} {k:Int} {a:As} {own:Bool} {i:Nat} {g:Gr} (h:DyOk l k a own i g) {b:Int} (hb:b ∈ ndL l g own) (h0:0 <= b):∃ p, a.bs[b.toNat]? = some p /\ aa2 a.rs p.l = 0:=by
 have h1:=a7m h.li h.ok b hb
 obtain ⟨p,hp⟩:=abu (l:=a.bs) (i:=b.toNat) (by have:=h.ln; omega)
 have h2:=h.nd b hb
 unfold ndE at h2
 rw [if_neg (by omega),aaf hp] at h2
 exact ⟨p,hp,h2⟩
theorem bqj (n:Nat):4000 <= lm n:=by have:=aec n; omega
theorem bp1 {k:Int} {n:Nat} (h:cond (aaa .lss k 0) true (aaa .geq k (n:Int)) = true):k < 0 \/ (n:Int) <= k:=by
 by_cases h1:k < 0
 ·exact .inl h1
 ·refine .inr ?_
  have h2:aaa .lss k 0 = false:=decide_eq_false h1
  rw [h2] at h
  exact of_decide_eq_true (p:=k >= n) h
theorem bqu {k:Int} {n:Nat} (h:cond (aaa .lss k 0) true (aaa .geq k (n:Int)) = false):¬ (k < 0 \/ (n:Int) <= k):=by
 intro h1
 by_cases h2:k < 0
 ·rw [show aaa .lss k 0 = true from decide_eq_true h2] at h; cases h
 ·rw [show aaa .lss k 0 = false from decide_eq_false h2] at h
  have h3:¬ (k >= n):=of_decide_eq_false h
  omega
theorem bm1 {k:Int} {n:Nat} (h:¬ (k < 0 \/ (n:Int) <= k)):∃ i:Nat,k = i /\ i < n:=⟨k.toNat,by omega,by omega⟩
theorem bbb {a b:Nat} (h:aaa .neq (a:Int) (b:Int) = true):a ≠ b:=by
 have h1:((a:Int) != (b:Int)) = true:=h
 have h2:=bne_iff_ne.1 h1
 omega
theorem bf0 {a b:Nat} (h:aaa .neq (a:Int) (b:Int) = false):a = b:=by
 have h1:((a:Int) != (b:Int)) = false:=h
 have h2:(a:Int) = b:=by simpa only [bne_eq_false_iff_eq] using h1
 omega
end Go.Lw
namespace Go.Lw
open Go.Proofs
theorem alh (ts:List (List Rat)) (z:T ts.length):eqT ts z z = true:=by
 have h:=bcq (ts:=ts) z
 unfold eqE sgE at h
 exact h
end Go.Lw
namespace Go.Lw
open Go.Proofs
end Go.Lw
namespace Go.Lw
def mkQ (l:Li) (body pt:Int):Rat × Rat:=(((aea l body).getD pt.toNat default).x.q,((aea l body).getD pt.toNat default).y.q)
abbrev qC (p:Rat × Rat):List AV:=[bl (rt p.1).neg,ws (rt p.1).num,ws (rt p.1).den,bl (rt p.2).neg,ws (rt p.2).num,ws (rt p.2).den]
abbrev qP (p:Rat × Rat):AV:=.agg (qC p)
structure Sm (e:Nat) (p:Rat × Rat):Prop where
  x:Qb e p.1
  y:Qb e p.2
structure MkP (l:Li) (body pt:Int) (n k:Nat) (bd:Bd) (m:Mk):Prop where
  hn:body = n
  hk:pt = k
  gbd:l.bodies[n]? = some bd
  gm:bd.pts[k]? = some m
  ex:m.x = rt (mkQ l body pt).1
  ey:m.y = rt (mkQ l body pt).2
  sm:Sm 1000 (mkQ l body pt)
theorem bej {l:Li} (hl:l.ok) (hli:liE l = 0) {body pt:Int} (h1:inB body l.bodies.length = true) (h2:inB pt (aea l body).length = true):∃ n k bd m, MkP l body pt n k bd m:=by
 obtain ⟨bd,g1,g2,g3,g4⟩:=aq8 h1
 rw [g2] at h2
 obtain ⟨m,g5,g6,g7,g8⟩:=asv h2
 have hv:=a2s hli g1 g5
 have ho:=(hl.bodies bd g3).pts m g7
 have e:mkQ l body pt = (m.x.q,m.y.q):=by unfold mkQ; rw [g2,g6]
 exact ⟨body.toNat,pt.toNat,bd,m,by omega,by omega,g1,g5,by rw [e]; exact Rt.eq_rt ho.x hv.1,by rw [e]; exact Rt.eq_rt ho.y hv.2,by rw [e]; exact ⟨ho.qx.mono (by omega),ho.qy.mono (by omega)⟩⟩
theorem amp {l:Li} (hl:l.ok) (hli:liE l = 0) {body pt:Int} (h1:inB body l.bodies.length = true) (h2:inB pt (aea l body).length = true):Sm 1000 (mkQ l body pt):=by
 obtain ⟨n,k,bd,m,h⟩:=bej hl hli h1 h2
 exact h.sm
def plE (l:Li) (a:As) (body pt:Int):Et (llq a.rs) × Et (llq a.rs):=aol l a body pt
structure PlP (l:Li) (a:As) (body pt:Int) (n k:Nat) (bd:Bd) (m:Mk) (b:Pl):Prop where
  mp:MkP l body pt n k bd m
  gb:a.bs[n]? = some b
  eq:aol l a body pt = atP (llq a.rs) b m
  av:b.av = Pq.av ⟨lq b.c,lq b.s,lq b.x,lq b.y⟩
  ok:Pq.ok (llq a.rs).length 4000 ⟨lq b.c,lq b.s,lq b.x,lq b.y⟩
def Pd (a:As) (body:Int):Prop:=∃ p,a.bs[body.toNat]? = some p /\ aa2 a.rs p.l = 0
theorem bj1 {l:Li} (hl:l.ok) (hli:liE l = 0) {a:As} (al:AL a) (hc:ad8 a.rs = 0) {body pt:Int} (h1:inB body l.bodies.length = true) (h2:inB pt (aea l body).length = true) (hb:Pd a body):∃ n k bd m b, PlP l a body pt n k bd m b:=by
 obtain ⟨n,k,bd,m,h⟩:=bej hl hli h1 h2
 obtain ⟨b,gb,hb⟩:=hb
 obtain ⟨tw,_⟩:=ab4 al.tr hc
 have h5:a.rs.length <= 5:=by have:=tw.five; rwa [aja] at this
 have h9:=air hb (al.nr b (mem_of_getElem? gb)) h5
 have e:body.toNat = n:=by have:=h.hn; omega
 have e2:pt.toNat = k:=by have:=h.hk; omega
 rw [e] at gb
 obtain ⟨bd',g1,g2,_,_⟩:=aq8 h1
 rw [e] at g1
 have:bd' = bd:=Option.some.inj (g1.symm.trans h.gbd)
 subst this
 refine ⟨n,k,bd',m,b,h,gb,?_,h9.1,by rw [aja]; exact h9.2⟩
 unfold aol
 rw [e,e2,aaf gb,g2,aaf h.gm]
theorem afy {l:Li} (hl:l.ok) (hli:liE l = 0) {a:As} (al:AL a) (hc:ad8 a.rs = 0) {body pt:Int} (h1:inB body l.bodies.length = true) (h2:inB pt (aea l body).length = true) (hb:Pd a body) :
  Zu 4000 300000 (plE l a body pt).1 40 40 /\ Zu 4000 300000 (plE l a body pt).2 40 40:=by
 obtain ⟨n,k,bd,m,b,hp⟩:=bj1 hl hli al hc h1 h2 hb
 obtain ⟨tw,_⟩:=ab4 al.tr hc
 have kb:=kb4 tw.three
 have qx:Qb 4000 m.x.q:=by rw [hp.mp.ex,agb]; exact hp.mp.sm.x.mono (by omega)
 have qy:Qb 4000 m.y.q:=by rw [hp.mp.ey,agb]; exact hp.mp.sm.y.mono (by omega)
 have h:=bnb tw hp.ok qx qy
 unfold plE
 rw [hp.eq]
 exact ⟨⟨h.1.mono (by omega)⟩,⟨h.2.mono (by omega)⟩⟩
theorem awq {rs:List (List Rt)} {r:Nat} (h:TR rs r) (hc:ad8 rs = 0):aeg (llq rs) = .agg [.lst 1 (rs.map nR)]:=(ab4 h hc).2.symm
theorem bnd {x y:Option Blk} {k:Nat} {z:Blk} (h:lk [(1000, x), (1001, y)] k = some z):1000 <= k:=by
 rw [aac] at h
 split at h
 ·omega
 ·rw [aac] at h
  split at h
  ·omega
  ·cases h
theorem bqf {s:AS} {k k':Nat} {x y:Blk} (h:lk s.hp k = some x) (h':lk s.hp k' = some y):∀ q z, lk [(k, some x), (k', some y)] q = some z -> lk s.hp q = some z:=by
 intro q z hz
 rw [aac] at hz
 split at hz
 ·rename_i e; cases hz; rw [e]; exact h
 ·rw [aac] at hz
  split at hz
  ·rename_i e; cases hz; rw [e]; exact h'
  ·cases hz
def bop (p q:Rat × Rat):Rat × Rat:=(p.1 - q.1,p.2 - q.2)
def boy (p q:Rat × Rat):Rat:=p.1 * q.1 + p.2 * q.2
def a8e (p q:Rat × Rat):Rat:=p.1 * q.2 - p.2 * q.1
theorem Sm.sub {e f:Nat} {p q:Rat × Rat} (hp:Sm e p) (hq:Sm f q):Sm (e + f + 1) (bop p q):=⟨hp.x.sub hq.x,hp.y.sub hq.y⟩
theorem Sm.dot {e f:Nat} {p q:Rat × Rat} (hp:Sm e p) (hq:Sm f q):Qb (e + f + (e + f) + 1) (boy p q):=(hp.x.mul hq.x).add (hp.y.mul hq.y)
theorem Sm.cross {e f:Nat} {p q:Rat × Rat} (hp:Sm e p) (hq:Sm f q):Qb (e + f + (e + f) + 1) (a8e p q):=(hp.x.mul hq.y).sub (hp.y.mul hq.x)
theorem Sm.mono {e f:Nat} {p:Rat × Rat} (hp:Sm e p) (h:e <= f):Sm f p:=⟨hp.x.mono h,hp.y.mono h⟩
theorem bnh {q:Rat} {e w:Nat} (h:Qb e q) (he:e <= w * 4000):Qz 4000 q w:=⟨(Cb.one h).mono he⟩
end Go.Lw
namespace Go.Lw
open Go.Proofs
section
variable {rs:List (List Rt)} {r u k:Nat} {a b c d e:List Rat} {x y z s t:Et (llq rs)} {w v w' v' w2 v2 w3 v3 w4 v4:Nat}
end
end Go.Lw
namespace Go.Lw
def ag5 (l:Li) (j:Jt) (b:Int):Rat × Rat:=if j.a = b then mkQ l b j.point else mkQ l b j.on
def ae8 (l:Li) (a:As) (j:Jt) (b:Int):Et (llq a.rs) × Et (llq a.rs):=if j.a = b then plE l a j.b j.on else plE l a j.a j.point
structure PinP (l:Li) (a:As) (j:Jt) (b:Int):Prop where
  tie:(j.a = b /\ Pd a j.b) \/ (j.a ≠ b /\ j.b = b /\ Pd a j.a)
theorem PinP.or {l:Li} {a:As} {j:Jt} {b:Int} (h:PinP l a j b):j.a = b \/ j.b = b:=by
 rcases h.tie with h9 | h9
 ·exact .inl h9.1
 ·exact .inr h9.2.1
theorem af8 {l:Li} (hl:l.ok) (hli:liE l = 0) {a:As} (al:AL a) (hc:ad8 a.rs = 0) {i:Nat} {j:Jt} (hj:l.joints[i]? = some j) {b:Int} (h:PinP l a j b) :
  Zu 4000 300000 (ae8 l a j b).1 40 40 /\ Zu 4000 300000 (ae8 l a j b).2 40 40:=by
 obtain ⟨i1,i2,i3,i4,_⟩:=afu hli hj
 unfold ae8
 rcases h.tie with ⟨e,hb⟩ | ⟨e,e2,hb⟩
 ·rw [if_pos e]; exact afy hl hli al hc i2 i4 hb
 ·rw [if_neg e]; exact afy hl hli al hc i1 i3 hb
theorem akf {l:Li} (hl:l.ok) (hli:liE l = 0) {i:Nat} {j:Jt} (hj:l.joints[i]? = some j) {b:Int} (h:j.a = b \/ j.b = b):Sm 1000 (ag5 l j b):=by
 obtain ⟨i1,i2,i3,i4,_⟩:=afu hli hj
 unfold ag5
 by_cases e:j.a = b
 ·rw [if_pos e]; subst e; exact amp hl hli i1 i3
 ·rw [if_neg e]
  rcases h with h | h
  ·exact absurd h e
  ·subst h; exact amp hl hli i2 i4
theorem bp9 {bs:List Int} {b:Int} (h:b ∈ bs):bs.contains b = true:=List.contains_iff_mem.2 h
theorem bmz {bs:List Int} {b:Int} (h:b ∉ bs):bs.contains b = false:=by
 cases hc:bs.contains b with
 | false=>rfl
 | true=>exact absurd (List.contains_iff_mem.1 hc) h
theorem DyOk.ancs {l:Li} {k:Int} {a:As} {own:Bool} {n:Nat} {g:Gr} (h:DyOk l k a own n g) {z b:Int} {j:Jt} (hz:z ∈ g.joints) (hj:l.joints[z.toNat]? = some j) (hb:anc g j = b) (h0:0 <= b):Pd a b:=by
 refine h.body ?_ h0
 unfold ndL at7
 refine List.mem_append_left _ (List.mem_map.2 ⟨z,hz,?_⟩)
 rw [aaf hj]; exact hb
theorem DyOk.pin {l:Li} {k:Int} {a:As} {own:Bool} {n:Nat} {g:Gr} (h:DyOk l k a own n g) {kd z b:Int} {j:Jt} {bs:List Int} (hbs:g.bodies = bs) (t:TieO l kd bs z b j) (hz:z ∈ g.joints) (hb:b ∈ bs):PinP l a j b:=by
 subst hbs
 obtain ⟨i1,i2,_⟩:=afu h.li t.hj
 have i1:=ahk i1
 have i2:=ahk i2
 rcases t.tie with ⟨e,hn⟩ | ⟨e,hn⟩
 ·refine ⟨.inl ⟨e, h.ancs hz t.hj ?_ i2.1⟩⟩
  unfold anc
  rw [if_pos (bp9 (e ▸ hb)),if_neg (by rw [bmz hn]; simp)]
 ·refine ⟨.inr ⟨fun e2=>hn (e2 ▸ hb), e, h.ancs hz t.hj ?_ i1.1⟩⟩
  unfold anc
  rw [if_neg (by rw [bmz hn]; simp)]
theorem DyOk.own {l:Li} {k:Int} {a:As} {n:Nat} {g:Gr} (h:DyOk l k a true n g) {b:Int} (hb:b ∈ g.bodies):Pd a b:=by
 refine h.body ?_ (h.ok.b b hb).1
 unfold ndL
 rw [if_pos rfl]
 exact List.mem_append_right _ hb
structure RrrP (l:Li) (a:As) (g:Gr) (i k z0 z1 z2:Int) (j0 j1 j2:Jt):Prop where
  eq:g = ⟨1,[i,k],[z0,z1,z2],0⟩
  h0:l.joints[z0.toNat]? = some j0
  h1:l.joints[z1.toNat]? = some j1
  h2:l.joints[z2.toNat]? = some j2
  p0:PinP l a j0 i
  p1:PinP l a j1 k
  t1:j2.a = i \/ j2.b = i
  t2:j2.a = k \/ j2.b = k
structure SlP (l:Li) (a:As) (g:Gr) (kd i z0 z1:Int) (j0 j:Jt):Prop where
  eq:g = ⟨kd,[i],[z0,z1],0⟩
  h0:l.joints[z0.toNat]? = some j0
  h1:l.joints[z1.toNat]? = some j
  p0:PinP l a j0 i
  p1:PinP l a j i
  hk:j.kind ≠ 0
theorem DyOk.rrr {l:Li} {k:Int} {a:As} {own:Bool} {n:Nat} {g:Gr} (h:DyOk l k a own n g) (hk:g.kind = 1):∃ i k z0 z1 z2 j0 j1 j2, RrrP l a g i k z0 z1 z2 j0 j1 j2:=by
 have hd:=h.dy
 cases hd with
 | drv _ _ _ _=>exact absurd hk (by simp)
 | pr _ _ _=>exact absurd hk (by simp)
 | rp _ _ _=>exact absurd hk (by simp)
 | @rrr i k z0 z1 z2 j0 j1 j2 ne t0 t1 h0 h2 kd tie =>
  refine ⟨i,k,z0,z1,z2,j0,j1,j2,rfl,t0.hj,t1.hj,h2,h.pin rfl t0 (by simp) (by simp),h.pin rfl t1 (by simp) (by simp),?_,?_⟩
  ·rcases tie with h9 | h9
   ·exact .inl h9.1
   ·exact .inr h9.1
  ·rcases tie with h9 | h9
   ·exact .inr h9.2
   ·exact .inl h9.2
theorem DyOk.pr {l:Li} {k:Int} {a:As} {own:Bool} {n:Nat} {g:Gr} (h:DyOk l k a own n g) (hk:g.kind = 2):∃ i z0 z1 j0 j, SlP l a g 2 i z0 z1 j0 j /\ j.a = i /\ Pd a j.b:=by
 have hd:=h.dy
 cases hd with
 | drv _ _ _ _=>exact absurd hk (by simp)
 | rrr _ _ _ _ _ _ _=>exact absurd hk (by simp)
 | rp _ _ _=>exact absurd hk (by simp)
 | @pr i z0 z1 j0 j1 t0 t1 ha =>
  have p1:PinP l a j1 i:=h.pin rfl t1 (by simp) (by simp)
  refine ⟨i,z0,z1,j0,j1,⟨rfl,t0.hj,t1.hj,h.pin rfl t0 (by simp) (by simp),p1,by rw [t1.kd]; decide⟩,ha,?_⟩
  rcases p1.tie with h9 | h9
  ·exact h9.2
  ·exact absurd ha h9.1
theorem DyOk.rp {l:Li} {k:Int} {a:As} {own:Bool} {n:Nat} {g:Gr} (h:DyOk l k a own n g) (h0:g.kind ≠ 0) (h1:g.kind ≠ 1) (h2:g.kind ≠ 2):∃ i z0 z1 j0 j, SlP l a g 3 i z0 z1 j0 j /\ j.a ≠ i /\ j.b = i /\ Pd a j.a:=by
 have hd:=h.dy
 cases hd with
 | drv _ _ _ _=>exact absurd rfl h0
 | rrr _ _ _ _ _ _ _=>exact absurd rfl h1
 | pr _ _ _=>exact absurd rfl h2
 | @rp i z0 z1 j0 j1 t0 t1 ha =>
  have p1:PinP l a j1 i:=h.pin rfl t1 (by simp) (by simp)
  refine ⟨i,z0,z1,j0,j1,⟨rfl,t0.hj,t1.hj,h.pin rfl t0 (by simp) (by simp),p1,by rw [t1.kd]; decide⟩,ha,?_⟩
  rcases p1.tie with h9 | h9
  ·exact absurd h9.1 ha
  ·exact ⟨h9.2.1,h9.2.2⟩
def aoE (a:As) (b:Int) (q:Rat × Rat):Et (llq a.rs) × Et (llq a.rs) :=
  (atX (llq a.rs) (anb (llq a.rs) (a.bs.getD b.toNat default).c) (anb (llq a.rs) (a.bs.getD b.toNat default).s) (anb (llq a.rs) (a.bs.getD b.toNat default).x) q.1 q.2,
   atY (llq a.rs) (anb (llq a.rs) (a.bs.getD b.toNat default).c) (anb (llq a.rs) (a.bs.getD b.toNat default).s) (anb (llq a.rs) (a.bs.getD b.toNat default).y) q.1 q.2)
theorem bpt {ts:List (List Rat)} {r:Nat} (tw:Tw ts r) {b:Pl} {q:Rat × Rat} (hb:Pq.ok ts.length 4000 ⟨lq b.c, lq b.s, lq b.x, lq b.y⟩) (hq:Sm 4000 q) :
  Nm ts.length (4 * (4000 + 4000 + kB r ts.length) + 10000) (sh ts.length (atX ts (anb ts b.c) (anb ts b.s) (anb ts b.x) q.1 q.2)) /\ Nm ts.length (4 * (4000 + 4000 + kB r ts.length) + 10000) (sh ts.length (atY ts (anb ts b.c) (anb ts b.s) (anb ts b.y) q.1 q.2)):=by
 have nx:=Nm.ofQ tw.five (Cb.one hq.x)
 have ny:=Nm.ofQ tw.five (Cb.one hq.y)
 have h1:=(alt tw hb.c hb.s nx ny).add hb.x
 rw [aw0] at h1
 have h2:=(amb tw hb.c hb.s nx ny).add hb.y
 rw [avm] at h2
 exact ⟨h1.mono (by omega),h2.mono (by omega)⟩
theorem arv {a:As} (al:AL a) (hc:ad8 a.rs = 0) {b:Int} (hb:Pd a b) {q:Rat × Rat} (hq:Sm 1000 q):Zu 4000 300000 (aoE a b q).1 40 40 /\ Zu 4000 300000 (aoE a b q).2 40 40:=by
 obtain ⟨p,hp,hn⟩:=hb
 obtain ⟨tw,_⟩:=ab4 al.tr hc
 have h5:a.rs.length <= 5:=by have:=tw.five; rwa [aja] at this
 have h9:=(air hn (al.nr p (mem_of_getElem? hp)) h5).2
 rw [<- aja a.rs] at h9
 have kb:=kb4 tw.three
 have h:=bpt tw h9 (hq.mono (f:=4000) (by omega))
 unfold aoE
 rw [aaf hp]
 exact ⟨⟨h.1.mono (by omega)⟩,⟨h.2.mono (by omega)⟩⟩
def jAt (l:Li) (g:Gr) (n:Nat):Jt:=l.joints.getD (g.joints.getD n 0).toNat default
def bAt (g:Gr) (n:Nat):Int:=g.bodies.getD n 0
section
variable (l:Li) (a:As)
def rpV (i:Int) (j:Jt):Rat × Rat:=bop (mkQ l i j.to) (mkQ l i j.on)
def rpH (i:Int) (j0 j:Jt):Rat:=a8e (rpV l i j) (bop (mkQ l i j.on) (ag5 l j0 i))
def rpN (i:Int) (j:Jt):Rat:=boy (rpV l i j) (rpV l i j)
def sbE {ts:List (List Rat)} (p q:Et ts × Et ts):Et ts × Et ts:=(p.1 - q.1,p.2 - q.2)
def ba1 {ts:List (List Rat)} (p q:Et ts × Et ts):Et ts:=dotE p.1 p.2 q.1 q.2
def bkm {ts:List (List Rat)} (p q:Et ts × Et ts):Et ts:=crsE p.1 p.2 q.1 q.2
def rpW (i:Int) (j0 j:Jt):Et (llq a.rs) × Et (llq a.rs):=sbE (plE l a j.a j.point) (ae8 l a j0 i)
def rpD (i:Int) (j0 j:Jt):Et (llq a.rs):=ba1 (rpW l a i j0 j) (rpW l a i j0 j)
def ass (g:Gr):Et (llq a.rs) :=
  if g.kind = 0 then qE 1
  else if g.kind = 1 then bkm (sbE (ae8 l a (jAt l g 1) (bAt g 1)) (ae8 l a (jAt l g 0) (bAt g 0))) (sbE (aoE a (bAt g 0) (ag5 l (jAt l g 2) (bAt g 0))) (ae8 l a (jAt l g 0) (bAt g 0)))
  else if g.kind = 2 then ba1 (sbE (plE l a (jAt l g 1).b (jAt l g 1).to) (plE l a (jAt l g 1).b (jAt l g 1).on)) (sbE (aoE a (bAt g 0) (mkQ l (bAt g 0) (jAt l g 1).point)) (ae8 l a (jAt l g 0) (bAt g 0)))
  else ba1 (sbE (plE l a (jAt l g 1).b (jAt l g 1).to) (plE l a (jAt l g 1).b (jAt l g 1).on)) (rpW l a (bAt g 0) (jAt l g 0) (jAt l g 1))
end
section
variable {l:Li} {a:As} {g:Gr}
theorem RrrP.at {i k z0 z1 z2:Int} {j0 j1 j2:Jt} (h:RrrP l a g i k z0 z1 z2 j0 j1 j2):jAt l g 0 = j0 /\ jAt l g 1 = j1 /\ jAt l g 2 = j2 /\ bAt g 0 = i /\ bAt g 1 = k /\ g.kind = 1:=by
 rw [h.eq]
 exact ⟨aaf h.h0,aaf h.h1,aaf h.h2,rfl,rfl,rfl⟩
theorem SlP.at {kd i z0 z1:Int} {j0 j:Jt} (h:SlP l a g kd i z0 z1 j0 j):jAt l g 0 = j0 /\ jAt l g 1 = j /\ bAt g 0 = i /\ g.kind = kd:=by
 rw [h.eq]
 exact ⟨aaf h.h0,aaf h.h1,rfl,rfl⟩
end
end Go.Lw
namespace Go.Lw
section
variable {ts:List (List Rat)}
def qv (p:Rat × Rat):Et ts × Et ts:=(qE p.1,qE p.2)
def d2E (p q:Et ts × Et ts):Et ts:=ba1 (sbE p q) (sbE p q)
end
section
variable {l:Li} {a:As} {g:Gr}
theorem bep {i k z0 z1 z2:Int} {j0 j1 j2:Jt} (h:RrrP l a g i k z0 z1 z2 j0 j1 j2) :
  ass l a g = bkm (sbE (ae8 l a j1 k) (ae8 l a j0 i)) (sbE (aoE a i (ag5 l j2 i)) (ae8 l a j0 i)):=by
 obtain ⟨e0,e1,e2,b0,b1,hk⟩:=h.at
 unfold ass
 rw [if_neg (by omega),if_pos hk,e0,e1,e2,b0,b1]
theorem bes {i z0 z1:Int} {j0 j:Jt} (h:SlP l a g 2 i z0 z1 j0 j) :
  ass l a g = ba1 (sbE (plE l a j.b j.to) (plE l a j.b j.on)) (sbE (aoE a i (mkQ l i j.point)) (ae8 l a j0 i)):=by
 obtain ⟨e0,e1,b0,hk⟩:=h.at
 unfold ass
 rw [if_neg (by omega),if_neg (by omega),if_pos hk,e0,e1,b0]
theorem be8 {i z0 z1:Int} {j0 j:Jt} (h:SlP l a g 3 i z0 z1 j0 j) (hj:j.b = i) :
  ass l a g = ba1 (sbE (aoE a i (mkQ l i j.to)) (aoE a i (mkQ l i j.on))) (sbE (plE l a j.a j.point) (ae8 l a j0 i)):=by
 obtain ⟨e0,e1,b0,hk⟩:=h.at
 unfold ass
 rw [if_neg (by omega),if_neg (by omega),if_neg (by omega),e0,e1,b0,hj]
 rfl
end
end Go.Lw
namespace Go.Lw
structure Ld where
  body:Int
  x:Rt
  y:Rt
  fx:Rt
  fy:Rt
  m:Rt
instance:Inhabited Ld:=⟨⟨0,⟨false,[],[]⟩,⟨false,[],[]⟩,⟨false,[],[]⟩,⟨false,[],[]⟩,⟨false,[],[]⟩⟩⟩
def Ld.l (f:Ld):List Rt:=[f.x,f.y,f.fx,f.fy,f.m]
def Ld.cells (f:Ld):List AV:=[i64 f.body,bl f.x.neg,ws f.x.num,ws f.x.den,bl f.y.neg,ws f.y.num,ws f.y.den,bl f.fx.neg,ws f.fx.num,ws f.fx.den,bl f.fy.neg,ws f.fy.num,ws f.fy.den,bl f.m.neg,ws f.m.num,ws f.m.den]
def Ld.av (f:Ld):AV:=.agg f.cells
section
variable (a:As)
end
section
variable {a:As} {r:List Vr}
end
end Go.Lw
namespace Go.Lw
structure LdOk (f:Ld):Prop where
  ok:∀ x ∈ f.l,x.ok
  qb:∀ x ∈ f.l,Qb 4000 x.q
def brk (f:Ld):Prop:=∀ x ∈ f.l,x.ok /\ Qb 1000 x.q
theorem brk.o {f:Ld} (h:brk f):LdOk f:=⟨fun x hx=>(h x hx).1,fun x hx=>(h x hx).2.mono (by omega)⟩
end Go.Lw
namespace Go.Lw
structure Bulk {H:Type} (bk:DataW H -> Nat) (bka:List (DataW H) -> Nat):Prop where
  one:∀ d,1 <= bk d
  nil:bka [] = 0
  cons:∀ d l,bka (d :: l) = bk d + bka l
  slice:∀ e s,bka e + 1 <= bk (.slice e s)
  agg:∀ l,bka l <= bk (.agg l)
section
variable {P:Program} {W:World} {H:Type} {enc:TypeId × Value -> H} {bk:DataW H -> Nat} {bka:List (DataW H) -> Nat}
theorem Bulk.pick (B:Bulk bk bka) {α:Type} {m:α -> Nat}:∀ {l:List α} {xs:List (DataW H)}, l.length <= xs.length -> (∀ (i:Nat) (a:α), l[i]? = some a -> ∃ x, xs[i]? = some x /\ m a <= bk x) -> (l.map m).sum <= bka xs
 | [],xs,_,_=>by simp
 | a :: l,[],hl,_=>by simp at hl
 | a :: l, x :: xs, hl, h=>by
  obtain ⟨y,hy,h1⟩:=h 0 a rfl
  cases hy
  have h2:=B.pick (l:=l) (xs:=xs) (by simpa using hl) (fun i b hb=>h (i + 1) b hb)
  rw [B.cons,map_cons,List.sum_cons]
  omega
def avb (P:Program) (W:World) (enc:TypeId × Value -> H) (bk:DataW H -> Nat) (t:TypeId) {α:Type} (f:α -> AV) (p:α -> Prop) (m:α -> Nat):Prop :=
  ∀ (sp:Nat -> Bool) (fuel:Nat) (cs:List Value) (x:DataW H × List MemPlace),DataW.trod enc P W 0 sp true fuel t cs = some x -> (∀ n ∈ x.1.weights P t,n <= reachBytes) -> ∃ a,p a /\ CRp W cs (f a).cells /\ m a <= bk x.1
theorem ada.m {t:TypeId} {α:Type} {f:α -> AV} {p:α -> Prop} (h:ada P W enc t f p):avb P W enc bk t f p (fun _=>0):=by
 intro sp fuel cs x hx hw
 obtain ⟨a,h1,h2⟩:=h sp fuel cs x hx hw
 exact ⟨a,h1,h2,zero_le _⟩
theorem ada.m1 (B:Bulk bk bka) {t:TypeId} {α:Type} {f:α -> AV} {p:α -> Prop} (h:ada P W enc t f p):avb P W enc bk t f p (fun _=>1):=by
 intro sp fuel cs x hx hw
 obtain ⟨a,h1,h2⟩:=h sp fuel cs x hx hw
 exact ⟨a,h1,h2,B.one _⟩
theorem avb.map {α β:Type} {t:TypeId} {f:α -> AV} {p:α -> Prop} {m:α -> Nat} (h:avb P W enc bk t f p m) (g:α -> β) (f':β -> AV) (p':β -> Prop) (m':β -> Nat) (hg:∀ a, p a -> p' (g a) /\ f' (g a) = f a /\ m' (g a) <= m a):avb P W enc bk t f' p' m':=by
 intro sp fuel cs x hx hwt
 obtain ⟨a,ha,hc,hm⟩:=h sp fuel cs x hx hwt
 obtain ⟨h1,h2,h3⟩:=hg a ha
 exact ⟨g a,h1,by rw [h2]; exact hc,le_trans h3 hm⟩
end
end Go.Lw
namespace Go.Lw
open Go.Proofs
section
variable {W:World} {H:Type} {enc:TypeId × Value -> H}
theorem bl2:ada prog W enc 231 (fun n:Nat=>u32 n) (fun n=>n < 4294967296) :=
 (ax6 (k:=.u32) Tryz.underlying231).map Int.toNat _ _ (fun n h=>by
  have h1:0 <= n /\ n <= 4294967295:=by simpa [Lit.wf,IntKind.min,IntKind.max,IntKind.signed,IntKind.bits] using h
  have h2:((n.toNat:Nat):Int) = n:=by omega
  exact ⟨by omega,by unfold u32; rw [h2]⟩)
theorem bkv:ada prog W enc 68 ws (fun l=>Ws l /\ l.length <= 281474976710656) :=
 (acq Tryz.underlying68 (n:=1) (by kernel_rfl) (by omega) (by kernel_rfl) bl2 (fun _=>rfl)).map id _ _ (fun l h=>⟨⟨fun x hx=>h.1 x hx,h.2⟩,rfl⟩)
theorem a92:ada prog W enc 4 bl (fun _=>True):=a3j Tryz.underlying4
theorem aof:ada prog W enc 3 i64 (fun _=>True):=(ax6 (k:=.i64) Tryz.underlying3).map id _ _ (fun n h=>⟨trivial,rfl⟩)
theorem avw:ada prog W enc 9 (fun s:ByteArray=>AV.v (.string s)) (fun s=>s.size <= 281474976710656):=avk Tryz.underlying9
theorem a18:ada prog W enc 70 Rt.av Rt.wok :=
 (ab8 (n := 3) Tryz.underlying70 (by kernel_rfl)
  (.cons rfl (n:=1) (by kernel_rfl) a92 (fun _=>rfl) (.cons rfl (n:=1) (by kernel_rfl) bkv (fun _=>rfl) (.cons rfl (n:=1) (by kernel_rfl) bkv (fun _=>rfl) (.nil _)))) (fun _=>rfl)).map
  (fun z=>⟨z.1,z.2.1,z.2.2.1⟩) _ _ (fun z h=>⟨⟨h.2.1.1,h.2.2.1.1⟩,rfl⟩)
def bq9 (x:List Rt):Prop:=(∀ r ∈ x,r.wok) /\ x.length <= 281474976710656
theorem au7:ada prog W enc 65 nR bq9:=acq Tryz.underlying65 (n:=3) (by kernel_rfl) (by omega) (by kernel_rfl) a18 (fun _=>rfl)
theorem bis:ada prog W enc 28 (fun l:List (List Rt)=>.lst 1 (l.map nR)) (fun l=>amx l /\ l.length <= 281474976710656) :=
 acq Tryz.underlying28 (n:=1) (by kernel_rfl) (by omega) (by kernel_rfl) au7 (fun _=>rfl)
theorem bb7:ada prog W enc 30 ae6 (fun l=>amx l /\ l.length <= 281474976710656) :=
 (ab8 (n:=1) Tryz.underlying30 (by kernel_rfl) (.cons rfl (n:=1) (by kernel_rfl) bis (fun _=>rfl) (.nil _)) (fun _=>rfl)).map (fun z=>z.1) _ _ (fun z h=>⟨h.1,rfl⟩)
theorem bae:ada prog W enc 88 Pl.av (fun b=>amx b.l) :=
 (ab8 (n := 4) Tryz.underlying88 (by kernel_rfl)
  (.cons rfl (n:=1) (by kernel_rfl) au7 (fun _=>rfl) (.cons rfl (n:=1) (by kernel_rfl) au7 (fun _=>rfl) (.cons rfl (n:=1) (by kernel_rfl) au7 (fun _=>rfl) (.cons rfl (n:=1) (by kernel_rfl) au7 (fun _=>rfl) (.nil _))))) (fun _=>rfl)).map
  (fun z=>⟨z.1, z.2.1, z.2.2.1, z.2.2.2.1⟩) _ _ (fun z h=>⟨by
   intro x hx
   simp only [Pl.l,mem_cons,not_mem_nil,or_false] at hx
   rcases hx with rfl | rfl | rfl | rfl
   ·exact h.1
   ·exact h.2.1
   ·exact h.2.2.1
   ·exact h.2.2.2.1,rfl⟩)
theorem a4w:ada prog W enc 31 (fun l:List Pl=>.lst 4 (l.map Pl.av)) (fun l=>(∀ b ∈ l, amx b.l) /\ l.length <= 281474976710656) :=
 acq Tryz.underlying31 (n:=4) (by kernel_rfl) (by omega) (by kernel_rfl) bae (fun _=>rfl)
theorem bh5:ada prog W enc 32 (fun l:List Int=>.lst 1 (l.map i64)) (fun l=>(∀ b ∈ l, True) /\ l.length <= 281474976710656) :=
 acq Tryz.underlying32 (n:=1) (by kernel_rfl) (by omega) (by kernel_rfl) aof (fun _=>rfl)
abbrev asG (a:As):List AV:=[.lst 1 (a.rs.map nR),.lst 4 (a.bs.map Pl.av),.lst 1 (a.ms.map i64)]
theorem bm4:ada prog W enc 34 (fun a:As=>.agg (asG a)) As.ok :=
 (ab8 (n := 3) Tryz.underlying34 (by kernel_rfl)
  (.cons rfl (n:=1) (by kernel_rfl) bb7 (fun _=>rfl) (.cons rfl (n:=1) (by kernel_rfl) a4w (fun _=>rfl) (.cons rfl (n:=1) (by kernel_rfl) bh5 (fun _=>rfl) (.nil _)))) (fun _=>rfl)).map
  (fun z=>⟨z.1,z.2.1,z.2.2.1⟩) _ _ (fun z h=>⟨⟨h.1.1,h.1.2,h.2.1.1,h.2.1.2⟩,rfl⟩)
theorem bhf:ada prog W enc 72 Tn.av (fun x=>x.t.wok) :=
 (ab8 (n := 4) Tryz.underlying72 (by kernel_rfl) (.cons rfl (n := 3) (by kernel_rfl) a18 (fun _ => rfl) (.cons rfl (n := 1) (by kernel_rfl) a92 (fun _ => rfl) (.nil _))) (fun _ => rfl)).map
  (fun z=>⟨z.1,z.2.1⟩) _ _ (fun z h=>⟨h.1,rfl⟩)
theorem bbv:ada prog W enc 27 (fun l:List Tn=>.lst 4 (l.map Tn.av)) (fun l=>(∀ x ∈ l, x.t.wok) /\ l.length <= 281474976710656) :=
 acq Tryz.underlying27 (n:=4) (by kernel_rfl) (by omega) (by kernel_rfl) bhf (fun _=>rfl)
theorem bg6:ada prog W enc 82 Mk.av (fun m=>m.name.size <= 281474976710656 /\ m.x.wok /\ m.y.wok) :=
 (ab8 (n := 7) Tryz.underlying82 (by kernel_rfl)
  (.cons rfl (n:=1) (by kernel_rfl) avw (fun _=>rfl) (.cons rfl (n:=3) (by kernel_rfl) a18 (fun _=>rfl) (.cons rfl (n:=3) (by kernel_rfl) a18 (fun _=>rfl) (.nil _)))) (fun _=>rfl)).map
  (fun z=>⟨z.1,z.2.1,z.2.2.1⟩) _ _ (fun z h=>⟨⟨h.1,h.2.1,h.2.2.1⟩,rfl⟩)
theorem bhj:ada prog W enc 80 Bd.av (fun b=>b.name.size <= 281474976710656 /\ b.pts.length <= 281474976710656 /\ ∀ m ∈ b.pts, m.name.size <= 281474976710656 /\ m.x.wok /\ m.y.wok) :=
 (ab8 (n := 2) Tryz.underlying80 (by kernel_rfl)
  (.cons rfl (n:=1) (by kernel_rfl) avw (fun _=>rfl) (.cons rfl (n:=1) (by kernel_rfl) (acq Tryz.underlying78 (n:=7) (by kernel_rfl) (by omega) (by kernel_rfl) bg6 (fun _=>rfl)) (fun _=>rfl) (.nil _))) (fun _=>rfl)).map
  (fun z=>⟨z.1,z.2.1⟩) _ _ (fun z h=>⟨⟨h.1,h.2.1.2,h.2.1.1⟩,rfl⟩)
theorem bei:ada prog W enc 125 Jt.av (fun j=>j.name.size <= 281474976710656) :=
 (ab8 (n := 7) Tryz.underlying125 (by kernel_rfl)
  (.cons rfl (n := 1) (by kernel_rfl) avw (fun _ => rfl) (.cons rfl (n := 1) (by kernel_rfl) aof (fun _ => rfl) (.cons rfl (n := 1) (by kernel_rfl) aof (fun _ => rfl) (.cons rfl (n := 1) (by kernel_rfl) aof (fun _ => rfl)
   (.cons rfl (n:=1) (by kernel_rfl) aof (fun _=>rfl) (.cons rfl (n:=1) (by kernel_rfl) aof (fun _=>rfl) (.cons rfl (n:=1) (by kernel_rfl) aof (fun _=>rfl) (.nil _)))))))) (fun _=>rfl)).map
  (fun z=>⟨z.1,z.2.1,z.2.2.1,z.2.2.2.1,z.2.2.2.2.1,z.2.2.2.2.2.1,z.2.2.2.2.2.2.1⟩) _ _ (fun z h=>⟨h.1,rfl⟩)
theorem a81:ada prog W enc 127 Dr.av (fun d=>d.name.size <= 281474976710656) :=
 (ab8 (n := 2) Tryz.underlying127 (by kernel_rfl) (.cons rfl (n := 1) (by kernel_rfl) avw (fun _ => rfl) (.cons rfl (n := 1) (by kernel_rfl) aof (fun _ => rfl) (.nil _))) (fun _ => rfl)).map
  (fun z=>⟨z.1,z.2.1⟩) _ _ (fun z h=>⟨h.1,rfl⟩)
abbrev liG (l:Li):List AV:=[.v (.string l.name),.lst 2 (l.bodies.map Bd.av),.lst 7 (l.joints.map Jt.av),.lst 2 (l.drivers.map Dr.av)]
theorem bg2:ada prog W enc 26 (fun l:Li=>.agg (liG l)) Li.okw :=
 (ab8 (n := 4) Tryz.underlying26 (by kernel_rfl)
  (.cons rfl (n := 1) (by kernel_rfl) avw (fun _ => rfl)
   (.cons rfl (n := 1) (by kernel_rfl) (acq Tryz.underlying22 (n := 2) (by kernel_rfl) (by omega) (by kernel_rfl) bhj (fun _ => rfl)) (fun _ => rfl)
    (.cons rfl (n := 1) (by kernel_rfl) (acq Tryz.underlying23 (n := 7) (by kernel_rfl) (by omega) (by kernel_rfl) bei (fun _ => rfl)) (fun _ => rfl)
     (.cons rfl (n:=1) (by kernel_rfl) (acq Tryz.underlying24 (n:=2) (by kernel_rfl) (by omega) (by kernel_rfl) a81 (fun _=>rfl)) (fun _=>rfl) (.nil _))))) (fun _=>rfl)).map
  (fun z=>⟨z.1,z.2.1,z.2.2.1,z.2.2.2.1⟩) _ _ (fun z h=>⟨⟨h.1,h.2.1.1,h.2.2.1.1,h.2.2.2.1.1,h.2.1.2,h.2.2.1.2,h.2.2.2.1.2⟩,rfl⟩)
end
end Go.Lw
namespace Go.Lw
open Go.Proofs Go.Proofs.YtkmgmddcmmadjaaGreat
open Go.ChangeShapes Go.WideShapes Go.ChangeAt Go.RowKit
theorem own:ownKnob prog.godebug = none:=by kernel_rfl
theorem a7v:laidOutB prog = true:=by kernel_rfl
theorem bd3:prog.stopsHeard = true:=by kernel_rfl
theorem bco:prog.plainKeys = true:=by kernel_rfl
theorem biv:mapsRowed prog = true:=by kernel_rfl
theorem bcj:prog.mayEnter = true:=by kernel_rfl
theorem bbs:prog.liftsFinal = false:=by kernel_rfl
theorem av8 {v:Value} (h:∀ cs, v ≠ .agg cs):v.cells = #[v]:=by
 cases v <;> first | rfl | exact absurd rfl (h _)
theorem av6 {P:Program} {W:World} {r:Reach} {b0:Nat} {t e:TypeId} {v:Value} (ht:P.underlying t = some (.slice e)) (hval:Value.okWide P W r b0 t v):v.cells = #[v]:=by
 refine av8 (fun cs h=>?_)
 subst h
 unfold Value.okWide at hval
 rw [ht] at hval
 unfold Cell.okWide at hval
 rw [ht] at hval
 unfold Cell.ok at hval
 rw [ht] at hval
 exact hval
theorem at6 {H:Type} {enc:TypeId × Value -> H} {W W':World} {t:TypeId} {v:Value} {d:DataW H} {ps:List MemPlace} {sp':Nat -> Bool} (hr:prog.readableRec t = true) (ht:t < prog.types.size)
  (h:DataW.Trod enc prog W 0 (fun _=>true) true t v d ps) (hb:Below W.heap.size W W') (hlt:∀ x ∈ ps,x.block < W.heap.size) (hs:∀ p ∈ ps,sp' p.block = true):DataW.Trod enc prog W' 0 sp' true t v d ps :=
 WideElems.Trod_stays a7v hr ht h (fun x hx=>hb.same (hlt x hx)) hs
end Go.Lw
namespace Go.Lw
open Go.Proofs
abbrev fdC (l:Li) (known driven:List Bool) (r:List AV):List AV:=l.av.cells ++ (.lst 1 (known.map bl) :: .lst 1 (driven.map bl) :: r)
theorem a6c (j:Jt) (b:Int):FnC prog 393 [j.av, i64 b] (i64 (aiy j b)):=by
 refine gF0 func393 ?_
 refine gC (fun ht6=>?_) (fun ht6=>?_)
 ·have h1:b = j.a:=aek ht6
  refine gE1 ?_
  unfold aiy; rw [if_pos h1]
 ·have h1:b ≠ j.a:=afa ht6
  refine gC (fun ht12=>?_) (fun ht12=>?_)
  ·have h2:b = j.b:=aek ht12
   refine gE1 ?_
   unfold aiy; rw [if_neg h1,if_pos h2]
  ·have h2:b ≠ j.b:=afa ht12
   refine gE1 ?_
   unfold aiy; rw [if_neg h1,if_neg h2]; rfl
theorem a3f (j:Jt) (kind body:Int) (f:FuncId) (pre caps:List AV) (p:Int -> Bool) (hp:0 <= aiy j body -> FnC prog f (pre ++ [i64 (aiy j body)] ++ caps) (bl (p (aiy j body)))) :
  FnC prog 392 [j.av,.iptr [i64 body],.iptr [i64 kind],.iptr [.cl f pre caps]] (bl (bo3 kind body p j)):=by
 refine gF0 func392 ?_
 refine gc (a6c j body) ?_
 refine gcG (fun h=>(hp (br1 h))) ?_
 refine gE1 ?_
 exact congrArg bl blm
theorem amt (bs:List Jt) (hl:bs.length <= 281474976710656) (f:FuncId) (pre caps:List AV) (ok:Nat -> Bool)
  (hf:∀ (i:Nat) (b:Jt),bs[i]? = some b -> (∀ j,j < i -> ok j = true) -> FnC prog f (pre ++ [b.av] ++ caps) (bl (!ok i))) :
  FnC prog 391 [.lst 7 (bs.map Jt.av),.cl f pre caps] (i64 (ixI (abk bs.length ok))):=by
 refine gF0 func391 ?_
 refine gl ?_
 refine gL1 [0,1,7] [] (fun (i:Nat)=>[(8,some (i64 i))]) (fun _=>[]) (fun i=>i <= bs.length /\ ∀ j,j < i -> ok j = true) (fun i=>bs.length - i) 0 ⟨zero_le _,fun j h=>by omega⟩ ?_
 rintro i ⟨hi,hj⟩ K1 hK1
 refine gC (fun ht9=>?_) (fun ht9=>?_)
 ·have hin:=aa0 ht9
  obtain ⟨b,hb⟩:=abu hin
  refine gi (aad hb) ?_
  refine gc (hf i b hb hj) ?_
  refine gC (fun ht16=>?_) (fun ht16=>?_)
  ·have h2:=adj ht16
   refine gE1 ?_
   rw [ab0 hin hj h2]; rfl
  ·have h2:=adk ht16
   refine ga aan ?_
   exact gK1 hK1 (i + 1) ⟨hin,fun j h9=>by rcases lt_or_ge j i with g | g; exact hj j g; (have:j = i:=by omega); subst this; exact h2⟩
 ·have hin:=aai hi ht9
  subst hin
  refine gE1 ?_
  rw [abm hj]; rfl
theorem awr (l:Li) (hl:l.ok) (hli:liE l = 0) (Fd:List AV) (kind body:Int) (f:FuncId) (pre caps:List AV) (p:Int -> Bool)
  (hp:∀ o:Int,0 <= o -> o < l.bodies.length -> FnC prog f (pre ++ [i64 o] ++ caps) (bl (p o))) :
  FnC prog 368 [.iptr (l.av.cells ++ Fd),i64 kind,i64 body,.cl f pre caps] (i64 (gJ l kind body p)):=by
 refine gF0 func368 ?_ (1,0)
 refine gW ((Wk.freezeB (k:=7) rfl rfl).trans <| (Wk.freezeB (k:=5) rfl rfl).trans <| (Wk.freezeB (k:=6) rfl rfl).trans <| Wk.o (sl:=[(0,some (.iptr (l.av.cells ++ Fd))),(5,some (.iptr [i64 kind])),(6,some (.iptr [i64 body])),(7,some (.iptr [.cl f pre caps]))]) (hp:=[])) ?_
 refine gc (Con.subA (.cons (.refl _) (.cons (bfd rfl) .nil)) (amt l.joints hl.lj 392 [] [.iptr [i64 body],.iptr [i64 kind],.iptr [.cl f pre caps]] (fun i=>!bo3 kind body p (l.joints.getD i default)) (fun i b hb hj=>by rw [Bool.not_not,aaf hb]; exact a3f b kind body f pre caps p (fun h=>hp _ h (bcb hli hb body))))) ?_
 refine gE1 ?_
 rfl
theorem az3 (l:Li) (known driven:List Bool) (r:List AV) (b:Int) (h0:0 <= b) (h1:b < known.length):FnC prog 389 [.iptr (fdC l known driven r), i64 b] (bl (kn known b)):=by
 obtain ⟨v,hv⟩:∃ v,known[b.toNat]? = some v:=abu (by omega)
 have ev:kn known b = v:=aaf hv
 refine gF0 func389 ?_
 refine gi (ad5 (n:=b.toNat) (by omega) hv) ?_
 refine gE1 ?_
 rw [ev]
theorem an9 (l:Li) (hl:l.ok) (hli:liE l = 0) (known driven:List Bool) (hk:known.length = l.bodies.length) (r:List AV) (kind body:Int) :
  FnC prog 366 [.iptr (fdC l known driven r),i64 kind,i64 body] (i64 (gJ l kind body (kn known))):=by
 refine gF0 func366 ?_
 refine gc (awr l hl hli _ kind body 389 [.iptr (fdC l known driven r)] [] (kn known) (fun o h0 h1=>az3 l known driven r o h0 (by omega))) ?_
 refine gE1 ?_
 rfl
theorem a94 (o j:Int):FnC prog 369 [i64 o, .iptr [i64 j]] (bl (decide (o = j))):=by
 refine gF0 func369 ?_
 refine gE1 ?_
 exact congrArg bl alf
theorem bdf (l:Li) (known driven:List Bool) (hd:driven.length = known.length) (r:List AV) (b:Int) (h0:0 <= b) (h1:b < known.length) :
  FnC prog 370 [.iptr (fdC l known driven r),i64 b] (bl (!kn known b && !kn driven b)):=by
 obtain ⟨v,hv⟩:∃ v,known[b.toNat]? = some v:=abu (by omega)
 have ev:kn known b = v:=aaf hv
 obtain ⟨u,hu⟩:∃ u,driven[b.toNat]? = some u:=abu (by omega)
 have eu:kn driven b = u:=aaf hu
 refine gF0 func370 ?_
 refine gi (ad5 (n:=b.toNat) (by omega) hv) ?_
 refine giG (fun _=>(ad5 (n:=b.toNat) (by omega) hu)) ?_
 refine gE1 ?_
 rw [ev,eu]; exact congrArg bl (adf _ _)
end Go.Lw
namespace Go.Lw
open Go.Proofs
theorem a3g (l:Li) (hl:l.ok) (hli:liE l = 0) (known driven:List Bool) (hk:known.length = l.bodies.length) (r:List AV) :
  FnC prog 300 [.iptr (fdC l known driven r)] (.tup [((driverG l known).getD default).av,bl (driverG l known).isSome]):=by
 have hld:=hl.ld
 refine gF0 func300 ?_
 refine gl ?_
 refine gL1 [0,2,11,12] [2] (fun (i:Nat)=>[(13,some (i64 i))]) (fun _=>[]) (fun i=>i <= l.drivers.length /\ ∀ j,j < i -> (!drHit l known j) = true) (fun i=>l.drivers.length - i) 0 ⟨zero_le _,fun j h=>by omega⟩ ?_
 rintro i ⟨hi,hj⟩ K1 hK1
 refine gC (fun ht14=>?_) (fun ht14=>?_)
 ·have hin:=aa0 ht14
  obtain ⟨d,hd⟩:=abu hin
  have hdd:l.drivers.getD i default = d:=aaf hd
  have hb:=ahk (azc hli hd)
  obtain ⟨v,hv⟩:∃ v,known[d.body.toNat]? = some v:=abu (by omega)
  have ev:kn known d.body = v:=aaf hv
  have ej:gJ l 0 d.body (kn known) = jointI l 0 d.body known:=bhv hli (fun o _ _=>rfl)
  refine gi (aad hd) ?_
  refine gi (ad5 (n:=d.body.toNat) (by omega) hv) ?_
  refine gD ?_
  refine gC (fun ht25=>?_) (fun ht25=>?_)
  ·have h2 : drHit l known i = false := by unfold drHit; rw [hdd, ev, ht25]; rfl
   refine ga aan ?_
   exact gK1 hK1 (i + 1) ⟨hin,fun k h9=>by rcases lt_or_ge k i with g | g; exact hj k g; (have:k = i:=by omega); subst this; rw [h2]; rfl⟩
  ·have hv0:v = false:=ht25
   refine gc (show FnC _ _ _ (i64 (jointI l 0 d.body known)) by rw [<- ej]; exact an9 l hl hli known driven hk r 0 d.body) ?_
   refine gC (fun ht31=>?_) (fun ht31=>?_)
   ·have h2 : drHit l known i = true := by unfold drHit; rw [hdd, ev, hv0, decide_eq_true (bmh ht31)]; rfl
    have hg:driverG l known = some ⟨0,[d.body],[jointI l 0 d.body known],i⟩:=by unfold driverG; rw [ab0 hin hj (by rw [h2]; rfl),<- hdd]; rfl
    refine gE2 ?_
    rw [hg]; rfl
   ·have h2 : drHit l known i = false := by unfold drHit; rw [hdd, decide_eq_false (bly ht31), Bool.and_false]
    refine ga aan ?_
    exact gK1 hK1 (i + 1) ⟨hin,fun k h9=>by rcases lt_or_ge k i with g | g; exact hj k g; (have:k = i:=by omega); subst this; rw [h2]; rfl⟩
 ·have hin:=aai hi ht14
  subst hin
  have hg:driverG l known = none:=by unfold driverG; rw [abm hj]; rfl
  refine gR ?_
  exact Fin.sub Fin.pure (by rw [hg]; exact Sub.tup (.cons ank (.cons (.refl _) .nil)))
theorem a84 (l:Li) (hli:liE l = 0) (known:List Bool) (hk:known.length = l.bodies.length) (r:List AV) (b:Nat) (h1:b < l.bodies.length) :
  FnC prog 370 [.iptr (fdC l known (aaz l) r),i64 b] (bl (freeB l known b)):=by
 have h:=bdf l known (aaz l) (by rw [ah0,hk]) r b (by omega) (by omega)
 rw [a9k hli (by omega)] at h
 exact h
theorem a2g (l:Li) (hl:l.ok) (hli:liE l = 0) (known:List Bool) (hk:known.length = l.bodies.length) (r:List AV) (kind body:Int) :
  FnC prog 366 [.iptr (fdC l known (aaz l) r),i64 kind,i64 body] (i64 (jointI l kind body known)):=by
 have h:=an9 l hl hli known (aaz l) hk r kind body
 rw [bhv hli (fun o _ _=>rfl)] at h
 exact h
theorem a41 (l:Li) (hl:l.ok) (hli:liE l = 0) (known:List Bool) (hk:known.length = l.bodies.length) (r:List AV) :
  FnC prog 302 [.iptr (fdC l known (aaz l) r)] (.tup [((singleG l known).getD default).av,bl (singleG l known).isSome]):=by
 have h8:=(ab1 hli).2.2.2.1
 refine gF0 func302 ?_
 refine gl ?_
 refine gL1 [0,2,12,13] [2] (fun (i:Nat)=>[(14,some (i64 i))]) (fun _=>[]) (fun i=>i <= l.bodies.length /\ ∀ j,j < i -> (!sgHit l known j) = true) (fun i=>l.bodies.length - i) 0 ⟨zero_le _,fun j h=>by omega⟩ ?_
 rintro i ⟨hi,hj⟩ K1 hK1
 refine gC (fun ht15=>?_) (fun ht15=>?_)
 ·have hin:=aa0 ht15
  refine gc (a84 l hli known hk r i hin) ?_
  refine gC (fun ht20=>?_) (fun ht20=>?_)
  ·have h2 : sgHit l known i = false := by unfold sgHit; rw [adj ht20]; rfl
   refine ga aan ?_
   exact gK1 hK1 (i + 1) ⟨hin,fun k h9=>by rcases lt_or_ge k i with g | g; exact hj k g; (have:k = i:=by omega); subst this; rw [h2]; rfl⟩
  ·have hf:=adk ht20
   refine gc (a2g l hl hli known hk r 0 i) ?_
   refine gc (a2g l hl hli known hk r 1 i) ?_
   refine gC (fun ht32=>?_) (fun ht32=>?_)
   ·have h2 : sgHit l known i = false := by unfold sgHit; rw [bna ht32, Bool.and_false]
    refine ga aan ?_
    exact gK1 hK1 (i + 1) ⟨hin,fun k h9=>by rcases lt_or_ge k i with g | g; exact hj k g; (have:k = i:=by omega); subst this; rw [h2]; rfl⟩
   ·obtain ⟨p0, s0⟩:=bok ht32
    have s1:=(afs (l:=l) (kind:=1) (body:=i) (oth:=known)).2
    have h2:sgHit l known i = true:=by unfold sgHit; rw [hf,decide_eq_true p0,decide_eq_true s0]; rfl
    obtain ⟨j,hjt⟩:∃ j,l.joints[(jointI l 1 i known).toNat]? = some j:=abu (by omega)
    have hjd:l.joints.getD (jointI l 1 i known).toNat default = j:=aaf hjt
    have hg:singleG l known = some (sgG l known i):=by unfold singleG; rw [ab0 hin hj (by rw [h2]; rfl),Option.map_some]
    refine gi (ad5 (n:=(jointI l 1 i known).toNat) (by omega) hjt) ?_
    refine gC (fun ht43=>?_) (fun ht43=>?_)
    ·have hji:j.a = i:=aek ht43
     refine gE2 ?_
     rw [hg]; unfold sgG; rw [hjd]; simp only [Option.getD_some,if_pos hji]; rfl
    ·have hji:j.a ≠ i:=afa ht43
     refine gE2 ?_
     rw [hg]; unfold sgG; rw [hjd]; simp only [Option.getD_some,if_neg hji]; rfl
 ·have hin:=aai hi ht15
  subst hin
  have hg:singleG l known = none:=by unfold singleG; rw [abm hj]; rfl
  refine gR ?_
  exact Fin.sub Fin.pure (by rw [hg]; exact Sub.tup (.cons ank (.cons (.refl _) .nil)))
theorem a64 (Fd:List AV):FnC prog 367 [.iptr Fd] (.fn 390 [.iptr [.iptr Fd]]):=by
 refine gF0 func367 ?_ (1,0)
 refine gW ((Wk.freezeB (k:=1) rfl rfl).trans <| Wk.o (sl:=[(1,some (.iptr [.iptr Fd]))]) (hp:=[])) ?_
 refine gE1 ?_
 rfl
end Go.Lw
namespace Go.Lw
open Go.Proofs
def bo4:Code -> Option (Array Tmp × Code × Code)
  | .rangeFunc _ ps x y=>some (ps,x,y)
  | .seq a b=>match bo4 a with
    | some r=>some r
    | none=>bo4 b
  | .block _ c=>bo4 c
  | _=>none
def rgD (n:Nat) (o:Option Code):LpD:=match o with
  | some c=>match bo4 c with
    | some (ps,x,y)=>⟨ps,x,y,n⟩
    | none=>⟨#[],.skip,.skip,0⟩
  | none=>⟨#[],.skip,.skip,0⟩
def pb0 (D:LpD) (Fd:List AV) (h:Bool):Blk:=.loop D (match h with | true=>.done | false=>.ready) (match h with | true=>some .ret | false=>none) [(1,some (.iptr [.iptr Fd])),(2,some (.ptr 1001 0)),(3,some (.ptr 1002 0))]
def pb1 (g:Gr):Blk:=.box [i64 g.kind,.lst 1 (g.bodies.map i64),.lst 1 (g.joints.map i64),i64 g.driver]
def pb2 (h:Bool):Blk:=.box [bl h]
def ahx (D:LpD) (Fd:List AV) (h:Bool) (g:Gr):Hp:=[(1000,some (pb0 D Fd h)),(1001,some (pb1 g)),(1002,some (pb2 h))]
theorem bf2 {D:LpD} {Fd:List AV} {h:Bool} {g:Gr} {k:Nat} {z:Blk} (hz:lk (ahx D Fd h g) k = some z):1000 <= k:=by
 unfold ahx at hz
 simp only [aac] at hz
 split at hz
 ·omega
 ·split at hz
  ·omega
  ·split at hz
   ·omega
   ·cases hz
theorem bea {D:LpD} {Fd:List AV} {s:AS} (hs:∀ k z, lk (ahx D Fd false default) k = some z -> s.blk k = some z) :
  ∀ k ∈ (ahx D Fd false default ++ ajt (ahx D Fd false default)).map (·.1),k ∈ (ahx D Fd false default).map (·.1) /\ lk (ahx D Fd false default ++ ajt (ahx D Fd false default)) k = s.blk k:=by
 intro k hk
 have hk':k = 1000 \/ k = 1001 \/ k = 1002:=by
  simp [ahx,ajt] at hk
  omega
 rcases hk' with rfl | rfl | rfl
 ·exact ⟨by simp [ahx],(hs _ _ rfl).symm⟩
 ·exact ⟨by simp [ahx],(hs _ _ rfl).symm⟩
 ·exact ⟨by simp [ahx],(hs _ _ rfl).symm⟩
theorem bap {l:Li} {known:List Bool} {i k:Nat} (h:cond (freeB l known i) (freeB l known k) false = false):prHit l known i k = false:=by
 rw [adf] at h
 unfold prHit
 rw [h]; rfl
theorem bqq {H R:Hp} {k:Nat} {z:Blk} (h:lk H k = some z):lk (H ++ R) k = some z:=by rw [ac9,if_pos (aa9 h)]; exact h
theorem fr1 {a b:Bool} (h:cond a b false = true):a = true:=by cases a <;> simp_all
theorem fr2 {a b:Bool} (h:cond a b false = true):b = true:=by cases a <;> simp_all
theorem a4v (D:LpD) (l:Li) (hl:l.ok) (hli:liE l = 0) (known:List Bool) (hk:known.length = l.bodies.length) (r:List AV)
  (hy:∀ i k:Nat, i < k -> k < l.bodies.length -> freeB l known i = true -> freeB l known k = true ->
   bow prog 1000 [i64 i,i64 k] (ahx D (fdC l known (aaz l) r) false default) (bl (!prHit l known i k)) (ahx D (fdC l known (aaz l) r) (prHit l known i k) (cond (prHit l known i k) (prG l known i k) default))) :
  Con prog 390 [.yl 1000,.iptr [.iptr (fdC l known (aaz l) r)]] (ahx D (fdC l known (aaz l) r) false default) (.tup []) (ahx D (fdC l known (aaz l) r) (pairG l known).isSome ((pairG l known).getD default)):=by
 have h8:=(ab1 hli).2.2.2.1
 refine gF func390 (fun k z h=>bf2 h) ?_
 refine gl ?_
 refine gL1 [0,1,10] [1000,1001,1002] (fun (i:Nat)=>[(11,some (i64 i))]) (fun _=>[]) (fun i=>i <= l.bodies.length /\ ∀ j,j < i -> (prAt l known j).isNone = true) (fun i=>l.bodies.length - i) 0 ⟨zero_le _,fun j h=>by omega⟩ ?_
 rintro i ⟨hi,hj⟩ K1 hK1
 refine gC (fun ht12=>?_) (fun ht12=>?_)
 ·have hin:=aa0 ht12
  refine ga aan ?_
  refine gL1 [0,1,3,10,11] [] (fun (k:Nat)=>[(4,some (i64 (i + 1 + k:Nat)))]) (fun _=>[(1000,some (pb0 D (fdC l known (aaz l) r) false)),(1001,some (pb1 default)),(1002,some (pb2 false))]) (fun k=>i + 1 + k <= l.bodies.length /\ ∀ j,j < k -> (!prHit l known i (i + 1 + j)) = true) (fun k=>l.bodies.length - k) 0 ⟨by omega,fun j h=>by omega⟩ ?_
  rintro k ⟨hkl,hkj⟩ K2 hK2
  refine gl ?_
  refine gC (fun ht23=>?_) (fun ht23=>?_)
  ·have hkn:i + 1 + k < l.bodies.length:=aa0 ht23
   refine gc (a84 l hli known hk r i hin) ?_
   refine gcG (fun _=>(a84 l hli known hk r (i + 1 + k) hkn)) ?_
   refine gs (a1w rfl rfl rfl (by intro hb; have h0:prHit l known i (i + 1 + k) = false:=bap (by simpa using hb); simp only [h0,cond_false]; exact bea (by intro k z h; exact h)) (fun hb=>bg8 (k:=1000) (.opt rfl (by rw [hb]; rfl)) (hy i (i + 1 + k) (by omega) hkn (fr1 hb) (fr2 hb)) (.cons (.opt rfl (by rw [hb]; rfl)) (.cons (.opt rfl (by rw [hb]; rfl)) .nil)) (by intro k z h; exact h) rfl rfl)) ?_
   refine gC (fun ht40=>?_) (fun ht40=>?_)
   ·have h2 : prHit l known i (i + 1 + k) = true := by have h9 := fr2 ht40; rw [Bool.not_not] at h9; exact h9
    have hat:prAt l known i = some (i + 1 + k):=by unfold prAt; rw [ab0 (by omega) hkj (by rw [h2]; rfl),Option.map_some]; congr 1; omega
    have hg:pairG l known = some (prG l known i (i + 1 + k)):=by unfold pairG; rw [ab0 hin hj (by rw [hat]; rfl),Option.map_some,hat]
    refine gR ?_
    simp only [hg,h2,Option.isSome_some,Option.getD_some,cond_true]
    exact Fin.keep (fun k z h=>bqq h)
   ·have h2 : prHit l known i (i + 1 + k) = false := by cases hc : cond (freeB l known i) (freeB l known ((i + 1 + k : Nat) : Int)) false with | false => exact bap hc | true => rw [hc, Bool.not_not] at ht40; exact ht40
    refine ga aan ?_
    exact gK1 hK2 (k + 1) ⟨by omega,fun j h9=>by rcases lt_or_ge j k with g | g; exact hkj j g; (have:j = k:=by omega); subst this; rw [h2]; rfl⟩ (hw:=Wk.of abl (.cons rfl (BlkSub.of (by rw [h2])) (.cons rfl (BlkSub.of (by rw [h2]; rfl)) (.cons rfl (BlkSub.of (by rw [h2])) .nil))))
  ·have hkn : ¬ i + 1 + k < l.bodies.length := fun h => by have h1 := a7l ht23; omega
   have hat:prAt l known i = none:=by unfold prAt; rw [show l.bodies.length - (i + 1) = k by omega,abm hkj]; rfl
   refine ga aan ?_
   exact gK1 hK1 (i + 1) ⟨hin,fun j h9=>by rcases lt_or_ge j i with g | g; exact hj j g; (have:j = i:=by omega); subst this; rw [hat]; rfl⟩
 ·have hin:=aai hi ht12
  have hg:pairG l known = none:=by unfold pairG; rw [<- hin,abm hj]; rfl
  refine gR ?_
  simp only [hg,Option.isSome_none,Option.getD_none]
  exact Fin.keep (fun k z h=>h)
end Go.Lw
namespace Go.Lw
variable {P:Program}
mutual
def AV.pm (σ:Nat -> Nat):AV -> AV
  | .ms k sz off len=>.ms (σ k) sz off len
  | .ptr k off=>.ptr (σ k) off
  | .eptr k sz i off=>.eptr (σ k) sz i off
  | .yl k=>.yl (σ k)
  | .agg cs=>.agg (AV.pms σ cs)
  | .tup cs=>.tup (AV.pms σ cs)
  | .fn f cs=>.fn f (AV.pms σ cs)
  | .opt b x=>.opt b (AV.pm σ x)
  | .v x=>.v x
  | .lst sz l=>.lst sz l
  | .iptr l=>.iptr l
  | .cl f cs ds=>.cl f cs ds
def AV.pms (σ:Nat -> Nat):List AV -> List AV
  | []=>[]
  | x :: l=>AV.pm σ x :: AV.pms σ l
end
theorem AV.pms_eq (σ:Nat -> Nat):∀ l, AV.pms σ l = l.map (AV.pm σ)
 | []=>rfl
 | x :: l=>by simp only [AV.pms,map_cons,AV.pms_eq σ l]
theorem AV.pm_one (σ:Nat -> Nat) (x:AV) (h:x.one = true):(x.pm σ).one = true:=by
 cases x <;> simp only [AV.pm] <;> exact h
mutual
theorem AV.pm_pm {σ:Nat -> Nat} (hσ:∀ k, σ (σ k) = k):∀ x:AV, (x.pm σ).pm σ = x
 | .ms k sz off len=>by simp only [AV.pm,hσ]
 | .ptr k off=>by simp only [AV.pm,hσ]
 | .eptr k sz i off=>by simp only [AV.pm,hσ]
 | .yl k=>by simp only [AV.pm,hσ]
 | .agg cs=>by simp only [AV.pm]; rw [AV.pms_pms hσ cs]
 | .tup cs=>by simp only [AV.pm]; rw [AV.pms_pms hσ cs]
 | .fn f cs=>by simp only [AV.pm]; rw [AV.pms_pms hσ cs]
 | .opt b x=>by simp only [AV.pm]; rw [AV.pm_pm hσ x]
 | .v x=>by simp only [AV.pm]
 | .lst sz l=>by simp only [AV.pm]
 | .iptr l=>by simp only [AV.pm]
 | .cl f cs ds=>by simp only [AV.pm]
theorem AV.pms_pms {σ:Nat -> Nat} (hσ:∀ k, σ (σ k) = k):∀ l:List AV, AV.pms σ (AV.pms σ l) = l
 | []=>by simp only [AV.pms]
 | x :: l=>by simp only [AV.pms]; rw [AV.pm_pm hσ x,AV.pms_pms hσ l]
end
theorem a1h {g:Nat -> Array Value -> Prop} {S:Nat -> Nat -> Prop} {σ:Nat -> Nat} (hσ:∀ k, σ (σ k) = k) {m:Nat -> Option Nat} {v:Value} {x:AV} (h:Rep g S m v x):Rep g S (fun k=>m (σ k)) v (x.pm σ):=by
 induction h with
 | v x=>exact .v x
 | lst0 a cap sz'=>exact .lst0 a cap sz'
 | lst u hb hc hl hs ho hu hr _=>exact .lst u hb hc hl hs ho hu hr
 | iptr u hb ho hu hr _=>exact .iptr u hb ho hu hr
 | cl a b c d _ _=>exact .cl a b c d
 | ptr hm=>exact .ptr (by simp only [hσ]; exact hm)
 | eptr hm=>exact .eptr (by simp only [hσ]; exact hm)
 | yl hm=>exact .yl (by simp only [hσ]; exact hm)
 | ms0 a k sz off=>exact .ms0 _ _ _ _
 | ms hm hc hS=>exact .ms (by simp only [hσ]; exact hm) hc hS
 | opt h h' ih=>exact .opt ih h'
 | agg hn h1 hr ih =>
  simp only [AV.pm,AV.pms_eq]
  refine .agg (by simpa using hn) ?_ ?_
  ·intro j c hc
   simp only [getElem?_map,map_eq_some_iff] at hc
   obtain ⟨y,hy,rfl⟩:=hc
   exact AV.pm_one _ _ (h1 j y hy)
  ·intro j u c hu hc
   simp only [getElem?_map,map_eq_some_iff] at hc
   obtain ⟨y,hy,rfl⟩:=hc
   exact ih j u y hu hy
 | tup hn hr ih =>
  simp only [AV.pm,AV.pms_eq]
  refine .tup (by simpa using hn) ?_
  intro j u c hu hc
  simp only [getElem?_map,map_eq_some_iff] at hc
  obtain ⟨y,hy,rfl⟩:=hc
  exact ih j u y hu hy
 | fn hn hr ih =>
  simp only [AV.pm,AV.pms_eq]
  refine .fn (by simpa using hn) ?_
  intro j u c hu hc
  simp only [getElem?_map,map_eq_some_iff] at hc
  obtain ⟨y,hy,rfl⟩:=hc
  exact ih j u y hu hy
theorem bk2 {g:Nat -> Array Value -> Prop} {S:Nat -> Nat -> Prop} {σ:Nat -> Nat} (hσ:∀ k, σ (σ k) = k) {m:Nat -> Option Nat} {w:World} {o:Option Nat} {x:Blk} (h:BlkRep g S m w o x) :
  BlkRep g S (fun k=>m (σ k)) w o (x.map (AV.pm σ)):=by
 cases x with
 | row sz es=>exact h.mono (fun _ _ h=>h) (fun _ _ h=>h) (fun _ _ hk=>hk.elim) rfl (fun _ _=>rfl)
 | vec vs=>exact h.mono (fun _ _ h=>h) (fun _ _ h=>h) (fun _ _ hk=>hk.elim) rfl (fun _ _=>rfl)
 | loop=>exact h.mapLoop _ (fun _ _ _ _ h=>a1h hσ h)
 | box cs =>
  cases h with
  | box hw hn h1 hrr =>
   refine .box hw (by simpa using hn) ?_ ?_
   ·intro j x hx
    simp only [getElem?_map,map_eq_some_iff] at hx
    obtain ⟨y,hy,rfl⟩:=hx
    exact AV.pm_one _ _ (h1 j y hy)
   ·intro j u x hu hx
    simp only [getElem?_map,map_eq_some_iff] at hx
    obtain ⟨y,hy,rfl⟩:=hx
    exact a1h hσ (hrr j u y hu hy)
theorem bg5 {σ:Nat -> Nat} (hσ:∀ k, σ (σ k) = k):∀ sl:abv, ald (AV.pm σ) (ald (AV.pm σ) sl) = sl
 | []=>rfl
 | (t,none) :: l=>by simp only [ald,bg5 hσ l]
 | (t,some x) :: l=>by simp only [ald,bg5 hσ l,AV.pm_pm hσ x]
theorem Blk.pm_pm {σ:Nat -> Nat} (hσ:∀ k, σ (σ k) = k) (x:Blk):(x.map (AV.pm σ)).map (AV.pm σ) = x:=by
 cases x with
 | row sz es=>rfl
 | vec vs=>rfl
 | loop d st pe sl=>simp only [Blk.map,bg5 hσ]
 | box cs =>
  simp only [Blk.map]
  rw [<- AV.pms_eq,<- AV.pms_eq,AV.pms_pms hσ]
def pmH (σ:Nat -> Nat):Hp -> Hp
  | []=>[]
  | (k,x) :: l=>(σ k,match x with | some b=>some (b.map (AV.pm σ)) | none=>none) :: pmH σ l
theorem ako {σ:Nat -> Nat} (hσ:∀ k, σ (σ k) = k):∀ (H:Hp) (k:Nat), lk (pmH σ H) k = (lk H (σ k)).map (Blk.map (AV.pm σ))
 | [],k=>rfl
 | (k', x) :: l, k=>by
  simp only [pmH,aac,ako hσ l k]
  by_cases h:k = σ k'
  ·rw [if_pos h, if_pos (by rw [h, hσ])]
   cases x <;> rfl
  ·rw [if_neg h,if_neg (fun e=>h (by rw [<- e,hσ]))]
theorem a8s {σ:Nat -> Nat} (hσ:∀ k, σ (σ k) = k) (H:Hp) (m:Nat -> Option Nat):Own (pmH σ H) (fun k=>m (σ k)) = Own H m:=by
 funext b
 apply propext
 constructor
 ·rintro ⟨k, z, hz, hb⟩
  rw [ako hσ,map_eq_some_iff] at hz
  obtain ⟨y,hy,rfl⟩:=hz
  exact ⟨σ k,y,hy,hb⟩
 ·rintro ⟨k, y, hy, hb⟩
  exact ⟨σ k,y.map (AV.pm σ),by rw [ako hσ,hσ,hy]; rfl,by simp only [hσ]; exact hb⟩
theorem a77 {σ:Nat -> Nat} (hσ:∀ k, σ (σ k) = k) {ext:Nat -> Prop} {H:Hp} {m:Nat -> Option Nat} {w:World} (h:HeapRel ext H m w):HeapRel ext (pmH σ H) (fun k=>m (σ k)) w:=by
 have e:Im ext (pmH σ H) (fun k=>m (σ k)) w = Im ext H m w:=by funext b cs; simp only [Im,a8s hσ]
 refine ⟨?_,?_,?_⟩
 ·intro k z hz
  rw [ako hσ,map_eq_some_iff] at hz
  obtain ⟨y,hy,rfl⟩:=hz
  rw [e]
  exact bk2 hσ (h.blk _ y hy)
 ·intro k k' z z' b hz hz' hb hb'
  rw [ako hσ,map_eq_some_iff] at hz hz'
  obtain ⟨y,hy,_⟩:=hz
  obtain ⟨y',hy',_⟩:=hz'
  have:=h.inj _ _ y y' b hy hy' hb hb'
  rw [<- hσ k,this,hσ]
 ·intro k z b hz hb
  rw [ako hσ,map_eq_some_iff] at hz
  obtain ⟨y,hy,_⟩:=hz
  exact h.sep _ y b hy hb
theorem Con.pm {σ:Nat -> Nat} (hσ:∀ k, σ (σ k) = k) {f:FuncId} {args:List AV} {H H':Hp} {r:AV} (h:Con P f args H r H'):Con P f (args.map (AV.pm σ)) (pmH σ H) (r.pm σ) (pmH σ H'):=by
 refine ⟨h.ok,?_⟩
 intro ext m w vs hext hheap hvs hrep
 have hlk:∀ k, lk (pmH σ (pmH σ H)) k = lk H k:=by
  intro k
  rw [ako hσ,ako hσ,hσ]
  cases lk H k with
  | none=>rfl
  | some y=>simp only [Option.map_some,Blk.pm_pm hσ]
 have hh:=HeapRel.congr hlk (a77 hσ hheap)
 have em:(fun k=>(fun k=>m (σ k)) (σ k)) = m:=by funext k; simp only [hσ]
 have eo:Own (pmH σ H) m = Own H (fun k=>m (σ k)):=by
  have:=a8s hσ H (fun k=>m (σ k))
  rw [em] at this; exact this
 have ei:Im ext (pmH σ H) m w = Im ext H (fun k=>m (σ k)) w:=by funext b cs; simp only [Im,eo]
 refine Calls.mono (h.ret ext (fun k=>m (σ k)) w vs hext hh (by simpa using hvs) (fun j v x hv hx=>?_)) ?_
 ·have h1 := hrep j v (x.pm σ) hv (by simp [hx])
  have h2:=a1h hσ h1
  rw [AV.pm_pm hσ,ei] at h2
  exact h2
 ·rintro e w' ⟨v, m', rfl, hf, hh', hn, hk, hrr⟩
  refine ⟨v,fun k=>m' (σ k),rfl,eo ▸ hf,a77 hσ hh',?_,?_,?_⟩
  ·intro k x b hx hb
   rw [ako hσ,map_eq_some_iff] at hx
   obtain ⟨y,hy,_⟩:=hx
   rw [eo]
   exact hn _ y b hy hb
  ·intro k x y hx hy
   rw [ako hσ,map_eq_some_iff] at hx hy
   obtain ⟨x',hx',_⟩:=hx
   obtain ⟨y',hy',_⟩:=hy
   have:=hk _ x' y' hx' hy'
   simpa only [hσ] using this
  ·have e2 : Im ext (pmH σ H') (fun k => m' (σ k)) w' = Im ext H' m' w' := by funext b cs; simp only [Im, a8s hσ]
   rw [e2]
   exact a1h hσ hrr
end Go.Lw
