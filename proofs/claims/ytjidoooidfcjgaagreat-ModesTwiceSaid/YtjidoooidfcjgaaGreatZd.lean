/- ModesMirrors: for any linkage and any turns the law returns true and leaves its arguments as they were; ModesTwice: for any linkage and any turns the law returns true and leaves its arguments as they were. No other condition. Part 4 of 6: what the later parts need -/
import Derived.Test.YtjidoooidfcjgaaGreatZc
set_option linter.unusedVariables false
open List (mem_of_getElem? mem_append mem_cons getD_eq_getElem?_getD getElem?_eq_none all_eq_true getElem?_take getElem?_eq_getElem drop_eq_nil_of_le nil_append map_append length_take take_of_length_le drop_zero take_length not_mem_nil length_map drop_drop map_take all_append map_replicate map_set)
open Nat (le_refl lt_of_lt_of_le lt_or_ge le_trans mul_le_mul_right mul_le_mul_left zero_le pow_add lt_of_le_of_lt)
open Bool (and_eq_true)
open Int (natAbs_natCast)
open Go.Proofs.Tryz
namespace Go.Lw
open Go.Proofs
theorem aha (a b : List Nat) (ha : Ws a) (hb : Ws b) (na : Nz a) (nb : Nz b) (hb0 : b ≠ []) (la : a.length < big) (lb : b.length < big) :
  FnC prog 380 [ws a,ws b] (.tup [ws (ofNat (val a / val b)),ws (ofNat (val a % val b))]) := by
 have la' := la
 unfold big at la lb
 refine gF0 func380 ?_
 refine gc (aem a b ha hb na nb) ?_
 refine gC (fun ht22 => ?_) (fun ht22 => ?_)
 ·have h1 : val a < val b := by
   simp only [aaa] at ht22
   split at ht22
   ·assumption
   ·split at ht22 <;> simp at ht22
  refine gc (aj8 a ha (by omega)) ?_
  refine gR ?_
  exact aju (by rw [Nat.div_eq_of_lt h1]; exact Sub.nil _ _ _) (by rw [Nat.mod_eq_of_lt h1]; exact Sub.refl _)
 ·have h1 : val b <= val a := by
   simp only [aaa] at ht22
   split at ht22
   ·simp at ht22
   ·omega
  refine gl ?_
  refine gC (fun ht27 => ?_) (fun ht27 => ?_)
  ·have hl : b.length = 1 := by have := ht27; simp [aaa] at this; omega
   obtain ⟨x,rfl⟩ : ∃ x,b = [x] := List.length_eq_one_iff.1 hl
   have hx : x ≠ 0 := nb x rfl
   have hxB : x < 4294967296 := hb x (by simp)
   have hv : val [x] = x:=by simp [val]
   have hm := Nat.mod_lt (val a) (show 0 < x by omega)
   refine gi (show _ = some (u32 x) from rfl) ?_
   refine gc (anx a x ha (by omega) (by omega) hxB) ?_
   refine gc (aj8 [val a % x] (ar3 (by omega)) (by simp [big])) ?_
   refine gE2 ?_
   rw [hv]; simp [val]
  ·have hl : b.length ≠ 1 := by have := ht27; simp [aaa] at this; omega
   obtain ⟨n,hn⟩ : ∃ n,b.length = n + 2 := ⟨b.length - 2,by have := List.length_pos_iff.2 hb0; omega⟩
   obtain ⟨sh,v,hsh,hsh2,hv,wv,lv,vv,hvt,htop,hlo⟩ := bdo hb nb hn
   have hab : b.length <= a.length := by
    rcases lt_or_ge a.length b.length with h2 | h2
    ·have := afm ha nb h2; omega
    ·exact h2
   obtain ⟨lq,hlq⟩ : ∃ lq,a.length + 1 = lq + (n + 2) := ⟨a.length + 1 - (n + 2),by omega⟩
   have hbt := aak hb (n + 1)
   refine gl ?_
   refine ga (show _ = ((n + 1 : Nat) : Int) by rw [abd (by omega)]; omega) ?_
   refine gi (atg (n := n + 1) (by omega) (by first | omega | (simp; omega))) ?_
   refine gc (show FnC _ _ _ (i64 (sh : Nat)) by rw [hsh]; exact al4 _ hbt) ?_
   refine gt (aa9 (alp 900 rfl b sh hb (by unfold big; omega) hsh2) (.cons (.tmp rfl) (.cons (.tmp rfl) .nil)) (by first | exact hH0 | exact hH1 rfl | exact hH2 rfl rfl) rfl rfl) ?_
   refine gl ?_
   refine gs (ah3 (.tmp rfl) (.none _) (.some _ (.tmp rfl) (by omega)) T80 rfl T271 rfl (by omega) (by omega) rfl) ?_
   refine gt (aa9 (alp 901 rfl a sh ha (by unfold big; omega) hsh2) (.cons (.tmp rfl) (.cons (.tmp rfl) .nil)) (by first | exact hH0 | exact hH1 rfl | exact hH2 rfl rfl) rfl rfl) ?_
   refine gD ?_ (8,0)
   refine gW ((Wk.freeze (k := 900) rfl).trans <| Wk.of (sl := [(0,some (ws a)),(1,some (ws b)),(8,some (i64 sh)),(9,some (ws v)),(10,some (.ms 901 1 0 (a.length + 1)))]) (hp := [(901,some (.row 1 ((ac8 (a.length + 1) (2 ^ sh * val a)).map u32)))]) (.k (.k (.k (.cons rfl (Sub.of (bex hn hv)) (.k .nil))))) (.cons rfl (.refl _) .nil)) ?_
   refine gl ?_
   refine ga (show _ = (lq : Int) by rw [lv,abd (by omega)]; omega) ?_
   refine gs (afh (.tmp rfl) T80 rfl T271 rfl rfl (by omega) (by dsimp only; omega) rfl) ?_
   refine gl ?_
   refine ga (show _ = ((n + 1 : Nat) : Int) by rw [lv,abd (by omega)]; omega) ?_
   refine gi (atg (n := n + 1) (by omega) (by first | omega | (simp; omega))) ?_
   refine gv (u64_in (by have := aak wv (n + 1); omega)) ?_
   refine gl ?_
   refine ga (show _ = (n : Int) by rw [lv,abd (by omega)]; omega) ?_
   refine gi (atg (n := n) (by omega) (by first | omega | (simp; omega))) ?_
   refine gv (u64_in (by have := aak wv n; omega)) ?_
   refine gD ?_
   refine ga (abd (by omega)) ?_
   refine gL3 [8,9,12,13] [] (fun (q u : List Nat) (j : Nat) => [(10,some (.ms 901 1 0 (a.length + 1))),(11,some (.ms 61 1 0 lq)),(14,some (i64 ((j : Int) - 1)))]) (fun q u _ => [(901,some (.row 1 (u.map u32))),(61,some (.row 1 (q.map u32)))]) (fun q u j => q.length = lq /\ u.length = a.length + 1 /\ Ws q /\ Ws u /\ j <= lq /\ val (u.drop j) < val v /\ 2 ^ sh * val a = val v * (4294967296 ^ j * val (q.drop j)) + val u) (fun _ _ j => j) (List.replicate lq 0) (ac8 (a.length + 1) (2 ^ sh * val a)) lq ⟨by simp,abt _ _,ait _,ae4 _ _,le_refl _,by rw [vv]; exact (a8e ha hsh2 hlq hlo).2,by rw [(a8e ha hsh2 hlq hlo).1]; simp [val]⟩ ?_ (h2 := (.cons rfl (.refl _) (.cons rfl (BlkSub.of (by rw [map_replicate]; rfl)) .nil)))
   rintro q u j ⟨hql,hul,wq,wu,hj,hlt,hU⟩ K1 hK1
   refine gC (fun ht80 => ?_) (fun ht80 => ?_) (st2 := (23,0))
   ·have hj0 : 1 <= j := by have := ht80; simp [aaa] at this; omega
    obtain ⟨k,rfl⟩ : ∃ k,j = k + 1 := ⟨j - 1,by omega⟩
    obtain ⟨W,hW⟩ : ∃ W,W = val (win u k (n + 3)) := ⟨_,rfl⟩
    have hVl : val v < 4294967296 ^ (n + 2):=by have := abg v wv; rwa [lv] at this
    obtain ⟨e1,e2,e3⟩ := a6e (u := u) (q := q) (k := k) (lv := n + 2) wu (by omega) (by omega) hVl hlt hU
    simp only [show n + 2 + 1 = n + 3 from rfl] at e1 e2 e3
    have hdig := be0 wv (alw wu k (n + 3)) lv (ajk (by omega)) hvt e1
    rw [<- hW] at e1 e2 e3 hdig
    have wp := alw wu k (n + 3)
    have b1 := aak wp n
    have b2 := aak wp (n + 1)
    have b3 := aak wp (n + 2)
    have b4 := hdig.htop
    have b5 := hdig.htopB
    have b6 := hdig.hnext
    obtain ⟨top,htop'⟩ : ∃ top,top = aab v (n + 1) := ⟨_,rfl⟩
    obtain ⟨nx,hnx⟩ : ∃ nx,nx = aab v n := ⟨_,rfl⟩
    obtain ⟨hd,hhd⟩ : ∃ hd,hd = aab (win u k (n + 3)) (n + 2) * 4294967296 + aab (win u k (n + 3)) (n + 1) := ⟨_,rfl⟩
    obtain ⟨th,hth⟩ : ∃ th,th = aab (win u k (n + 3)) n := ⟨_,rfl⟩
    rw [<- htop',<- hnx,<- hhd,<- hth] at hdig
    rw [<- htop'] at b4 b5 ⊢
    rw [<- hnx] at b6 ⊢
    rw [<- hth] at b1
    have hdB : hd < 18446744073709551616:=by omega
    refine gl ?_
    refine ga (show _ = ((k + n + 2 : Nat) : Int) by rw [lv,aa2 (by omega)]; omega) ?_
    refine ga (show _ = ((k + n + 3 : Nat) : Int) by rw [aa2 (by omega)]; omega) ?_
    refine gs (ah3 (.tmp rfl) (.some _ (.tmp rfl) (by omega)) (.some _ (.tmp rfl) (by omega)) T80 rfl T271 rfl (by omega) (by omega) rfl) ?_ (14,0)
    refine gW (Wk.of (sl := [(8,some (i64 sh)),(9,some (ws v)),(10,some (.ms 901 1 0 (a.length + 1))),(11,some (.ms 61 1 0 lq)),(12,some (u64 top)),(13,some (u64 nx)),(14,some (i64 k)),(15,some (.ms 901 1 k (n + 3)))]) (hp := [(901,some (.row 1 (u.map u32))),(61,some (.row 1 (q.map u32)))]) (.k (.k (.k (.k (.k (.k (.cons rfl (Sub.int (by omega)) (.cons rfl (Sub.of (by congr 1 <;> omega)) .nil)))))))) (.cons rfl (.refl _) (.cons rfl (.refl _) .nil))) ?_
    refine gl ?_
    refine gs (afq (n := n + 2) (.tmp rfl) (.tmp rfl) T80 rfl T271 rfl (by omega) (by omega) rfl) ?_
    refine gs (aay (.tmp rfl) rfl (a3e (n := n + 3) (i := n + 2) (by omega) (by omega)) T271 rfl rfl rfl) ?_
    refine gv (u64_in (by omega)) ?_
    refine gs (aga (.tmp rfl) (.const _) (by omega) (ald (n := 32) (by omega) (by omega)) rfl) ?_
    refine gl ?_
    refine ga (show _ = ((n + 1 : Nat) : Int) by rw [lv,abd (by omega)]; omega) ?_
    refine gs (afq (n := n + 1) (.tmp rfl) (.tmp rfl) T80 rfl T271 rfl (by omega) (by omega) rfl) ?_
    refine gs (aay (.tmp rfl) rfl (a3e (n := n + 3) (i := n + 1) (by omega) (by omega)) T271 rfl rfl rfl) ?_
    refine gv (u64_in (by omega)) ?_
    refine gs (aep (.tmp rfl) (.tmp rfl) rfl ((af5 (by omega) (by omega)).trans (show _ = (hd : Int) by rw [ast (by omega),hhd])) rfl) ?_
    refine gD ?_
    refine gs (adl (.tmp rfl) (.tmp rfl) (by omega) (a44 hdB) rfl) ?_
    refine gs (awd (.tmp rfl) (.tmp rfl) (by omega) a31 rfl) ?_
    refine gD ?_
    refine gL2 [8,9,12,13,14] [901,61] (fun (g r : Nat) => [(10,some (.ms 901 1 0 (a.length + 1))),(11,some (.ms 61 1 0 lq)),(15,some (.ms 901 1 k (n + 3))),(17,some (u64 g)),(18,some (u64 r))]) (fun _ _ => []) (fun g r => W / val v <= g /\ g * top + r = hd /\ g < 18446744073709551616 /\ r < 8589934592) (fun g _ => g) (hd / top) (hd % top) ⟨hdig.first,by rw [Nat.mul_comm]; exact Nat.div_add_mod _ _,by have := Nat.div_le_self hd top; omega,by have := Nat.mod_lt hd (show 0 < top by omega); omega⟩ ?_
    rintro g r ⟨hg,hgr,hgB,hrB⟩ K2 hK2
    refine gaG (fun ⟨h,h2⟩ => (are (by simp [aaa] at h2; have := al9 (x := g) (y := nx) (by omega) b6; omega))) ?_
    refine gs (ago rfl rfl rfl (fun h h2 => aga (.opt rfl (o2 h h2)) (.const _) (by omega) (ald (n := 32) (by omega) (by simp [aaa] at h; omega)) rfl)) ?_
    refine glG ?_
    refine gaG (fun _ => (show _ = (n : Int) by rw [lv,abd (by omega)]; omega)) ?_
    refine gs (ago rfl rfl rfl (fun h h2 => afq (n := n) (.opt rfl (o2 h h2)) (.opt rfl (o2 h h2)) T80 rfl T271 rfl (by omega) (by omega) rfl)) ?_
    refine gs (ago rfl rfl rfl (fun h h2 => aay (.opt rfl (o2 h h2)) rfl (a3e (n := n + 3) (i := n) (by omega) (by omega)) T271 rfl rfl rfl)) ?_
    refine gvG (fun _ => (u64_in (by omega))) ?_
    refine gs (ago rfl rfl rfl (fun h h2 => aep (.opt rfl (o2 h h2)) (.opt rfl (o2 h h2)) rfl ((af5 (by simp [aaa] at h; omega) (by omega)).trans (by rw [ast (by omega)])) rfl)) ?_
    refine gC (fun ht133 => ?_) (fun ht133 => ?_)
    ·have hc : r < 4294967296 /\ (4294967296 <= g \/ r * 4294967296 + th < g * nx) := by
      rw [hth]
      have h9 := axq.1 ht133
      rwa [show r * 2 ^ 32 = r * 4294967296 from rfl] at h9
     have hg1 := hdig.step hg hgr hc.2
     have hg0 : 1 <= g := Nat.succ_le_of_lt (lt_of_le_of_lt (zero_le _) hg1)
     refine ga (aww (by omega) (by omega)) ?_
     refine ga (ad3 (by omega)) ?_
     exact gK2 hK2 (g - 1) (r + top) ⟨Nat.le_sub_one_of_lt hg1,by rw [Nat.sub_mul]; have := mul_le_mul_right top (show 1 <= g by omega); omega,by omega,by omega⟩
    ·have hc : ¬ (r < 4294967296 /\ (4294967296 <= g \/ r * 4294967296 + th < g * nx)) := by
      rw [hth]
      intro hh
      rw [show r * 4294967296 = r * 2 ^ 32 from rfl] at hh
      exact Bool.eq_false_iff.1 ht133 (axq.2 hh)
     obtain ⟨hgB2,hgq⟩ := hdig.last hgr hc
     have hVp := hdig.vpos
     have hWl : val (win u k (n + 3)) < 4294967296 ^ (n + 3):=by have := abg _ wp; rwa [ajk (by omega)] at this
     obtain ⟨p1,p2⟩ := a69 hVp (show val v <= 4294967296 ^ (n + 3) by have := Nat.pow_le_pow_right (show 0 < 4294967296 by omega) (show n + 2 <= n + 3 by omega); omega) (hW ▸ hWl) hg hgq
     have hwul : k + (n + 3) <= u.length:=by omega
     have hwr : (wr u k (ac8 (n + 3) (az0 g (val v) W (n + 3)))).length = a.length + 1:=by rw [akf (by rw [abt]; omega),hul]
     refine gt (aa9 (Con.rekey 901 rfl rfl (al3 u v k (n + 3) g wu wv (by omega) hwul hgB2 (by unfold ack; omega))) (.cons (.tmp rfl) (.cons (.tmp rfl) (.cons (.tmp rfl) .nil))) (by first | exact hH0 | exact hH1 rfl | exact hH2 rfl rfl) rfl rfl) ?_
     refine gC (fun ht142 => ?_) (fun ht142 => ?_)
     ·have hlt2 : W < g * val v := by rw [hW]; simpa using ht142
      obtain ⟨q1,q2,q3⟩ := p1 hlt2
      have hrl : az0 g (val v) W (n + 3) < 4294967296 ^ (n + 3):=by unfold az0; rw [if_neg (by omega)]; rw [<- hW] at hWl; omega
      refine ga (aww (by omega) (by omega)) ?_
      refine gt (aa9 (Con.rekey 901 rfl rfl (ao5 (wr u k (ac8 (n + 3) (az0 g (val v) (val (win u k (n + 3))) (n + 3)))) v k (n + 3) (azq wu (ae4 _ _)) wv (by omega) (by rw [<- hW,hwr]; omega) (by rw [<- hW,hwr]; unfold ack; omega))) (.cons (.tmp rfl) (.cons (.tmp rfl) .nil)) (by first | exact hH0 | exact hH1 rfl | exact hH2 rfl rfl) rfl rfl) ?_
      refine gv ((aa6 _).trans (by rw [Nat.mod_eq_of_lt (by omega)])) ?_
      refine gs (aaq (n := k) (.tmp rfl) (.tmp rfl) T80 rfl T271 rfl (by omega) (by omega) rfl) ?_
      refine gs (abk (.tmp rfl) rfl (af3 (i := k) (by omega)) rfl (.tmp rfl) rfl rfl T271 rfl rfl) ?_
      refine ga (abd (by omega)) ?_
      exact gK3 hK1 (q.set k (W / val v)) (wr u k (ac8 (n + 3) (W % val v))) k ⟨by simp [hql],by rw [akf (by rw [abt]; omega),hul],aed wq hdig.q_lt,azq wu (ae4 _ _),by omega,e2,e3⟩ (hw := Wk.of abq (.cons rfl (BlkSub.of (by rw [<- hW]; first | (rw [q1]; done) | (rw [a4y (r := W % val v) hwul (abt _ _) (by rw [aev _ _ hrl]; exact q1)]; done))) (.cons rfl (BlkSub.of (by rw [map_set,q2]; rfl)) .nil)))
     ·have hlt2 : ¬ W < g * val v := by rw [hW]; simpa using ht142
      obtain ⟨q1,q2⟩ := p2 hlt2
      refine gv ((aa6 _).trans (by rw [Nat.mod_eq_of_lt (by omega)])) ?_
      refine gs (aaq (n := k) (.tmp rfl) (.tmp rfl) T80 rfl T271 rfl (by omega) (by omega) rfl) ?_
      refine gs (abk (.tmp rfl) rfl (af3 (i := k) (by omega)) rfl (.tmp rfl) rfl rfl T271 rfl rfl) ?_
      refine ga (abd (by omega)) ?_
      exact gK3 hK1 (q.set k (W / val v)) (wr u k (ac8 (n + 3) (W % val v))) k ⟨by simp [hql],by rw [akf (by rw [abt]; omega),hul],aed wq hdig.q_lt,azq wu (ae4 _ _),by omega,e2,e3⟩ (hw := Wk.of abq (.cons rfl (BlkSub.of (by rw [<- hW]; first | (rw [q1]; done) | (rw [a4y (r := W % val v) hwul (abt _ _) (by rw [aev _ _ hrl]; exact q1)]; done))) (.cons rfl (BlkSub.of (by rw [map_set,q2]; rfl)) .nil)))
   ·have hj0 : j = 0 := by have := ht80; simp [aaa] at this; omega
    subst hj0
    have hU' : 2 ^ sh * val a = 2 ^ sh * val b * val q + val u:=by rw [<- vv]; simpa using hU
    obtain ⟨hQ,hR⟩ := bat hU' (by rw [<- vv]; simpa using hlt)
    refine gW ((Wk.freeze (k := 61) rfl).trans <| (Wk.freeze (k := 901) rfl).trans <| Wk.of (sl := [(8,some (i64 sh)),(10,some (ws u)),(11,some (ws q))]) (hp := []) (.k (.cons rfl (Sub.of (abw (by simp [hul]))) (.cons rfl (Sub.of (by rw [show AV.fz 61 1 (q.map u32) (.ms 61 1 0 lq) = ws q from abw (by simp [hql])]; rfl)) .nil))) .nil) ?_
    refine gc (aj8 q wq (by unfold big; omega)) ?_
    refine gc (ao2 u sh wu (by unfold big; omega) hsh2) ?_
    refine gE2 ?_
    rw [<- hQ,<- hR]
end Go.Lw
namespace Go.Lw
open Go.Proofs
theorem amf {b : Bool} {n : Nat} : (cond b (aaa .gtr ((ofNat n).length : Int) 0) false) = true ↔ (b = true /\ 0 < n) := by
 have h : aaa .gtr ((ofNat n).length : Int) 0 = true ↔ 0 < n := by
  simp only [aaa,decide_eq_true_eq]
  constructor
  ·intro h; rcases Nat.eq_zero_or_pos n with h1 | h1; (subst h1; simp [azr] at h); exact h1
  ·intro h
   have : ofNat n ≠ []:=by intro h1; have := aah n; rw [h1] at this; simp [val] at this; omega
   have := List.length_pos_iff.2 this
   omega
 cases b with
 | false => simp
 | true => exact ⟨fun h1 => ⟨rfl,h.1 h1⟩,fun h1 => h.2 h1.2⟩
theorem afu (a : Wh) (ha : a.ok) : FnC prog 307 [a.av] (i64 a.z.sign) := by
 obtain ⟨e1,e2,e3⟩ := axi ha
 refine gF0 func307 ?_
 refine gc (abi a ha) ?_
 refine gl ?_
 refine gC (fun ht3 => ?_) (fun ht3 => ?_)
 ·have h0 : a.m.length = 0 := by simpa [aaa] using ht3
  refine gE1 ?_
  rw [e1 h0]; rfl
 ·have h0 : a.m.length ≠ 0 := by simpa [aaa] using ht3
  refine gC (fun ht8 => ?_) (fun ht8 => ?_)
  ·refine gE1 ?_
   rw [e2 h0 ht8]; rfl
  ·refine gE1 ?_
   rw [e3 h0 ht8]; rfl
theorem aq5 (a b : Wh) (ha : a.ok) (hb : b.ok) : FnC prog 327 [a.av, b.av] (i64 (asm a.z b.z)) := by
 refine gF0 func327 ?_
 refine gc (afu a ha) ?_
 refine gc (afu b hb) ?_
 refine gD ?_
 refine gC (fun ht14 => ?_) (fun ht14 => ?_)
 ·have h0 : a.z.sign ≠ b.z.sign := by simpa [aaa] using ht14
  obtain ⟨e1,e2⟩ := a6r h0
  refine gC (fun ht17 => ?_) (fun ht17 => ?_)
  ·have h1 : a.z.sign < b.z.sign := by simpa [aaa] using ht17
   refine gE1 ?_
   rw [e1 h1]; rfl
  ·have h1 : ¬ a.z.sign < b.z.sign := by simpa [aaa] using ht17
   refine gE1 ?_
   rw [e2 h1]; rfl
 ·have h0 : a.z.sign = b.z.sign := by simpa [aaa] using ht14
  have e1 := a5n h0
  refine gc (abi a ha) ?_
  refine gc (abi b hb) ?_
  refine gc (aem a.m b.m (Wh.ws ha) (Wh.ws hb) a.nz b.nz) ?_
  refine gD ?_
  refine gc (aa8 a ha) ?_
  refine gC (fun ht24 => ?_) (fun ht24 => ?_)
  ·rw [ht24, if_pos rfl] at e1
   refine gs (a7p (.tmp rfl) rfl) ?_
   refine gE1 ?_
   rw [e1]
   split
   ·rfl
   ·split <;> rfl
  ·rw [ht24, if_neg Bool.false_ne_true] at e1
   refine gE1 ?_
   first | (rw [e1]; done) | (rw [e1]; rfl)
theorem aqu (a : Wh) (ha : a.ok) (la : a.mag.length < big) : FnC prog 209 [a.av] (zA (-a.z)) := by
 refine gF0 func209 ?_
 refine gc (aa8 a ha) ?_
 refine gc (abi a ha) ?_
 refine gc (aa3 _ a.m (Wh.ws ha) (Nat.le_of_lt (Wh.small ha la))) ?_
 refine gD ?_
 refine gE1 ?_
 rw [Wh.z_eq,<- a4z]; rfl
theorem arn (a b : Wh) (ha : a.ok) (hb : b.ok) (la : a.mag.length + b.mag.length <= big) : FnC prog 306 [a.av, b.av] (zA (a.z * b.z)) := by
 have h1 := Wh.m_le (w := a)
 have h2 := Wh.m_le (w := b)
 have h3 : (ofNat (val a.m * val b.m)).length <= a.m.length + b.m.length := aag (by rw [pow_add]; exact Nat.mul_lt_mul'' (abg _ (Wh.ws ha)) (abg _ (Wh.ws hb)))
 refine gF0 func306 ?_
 refine gc (aa8 a ha) ?_
 refine gc (aa8 b hb) ?_
 refine gc (abi a ha) ?_
 refine gc (abi b hb) ?_
 refine gc (ank a.m b.m (Wh.ws ha) (Wh.ws hb) (by omega)) ?_
 refine gc (aa3 _ _ (aa1 _) (by omega)) ?_
 refine gD ?_
 refine gE1 ?_
 rw [aah,a0a]; rfl
theorem aqx (a b : Wh) (ha : a.ok) (hb : b.ok) (la : a.mag.length < big) (lb : b.mag.length < big) : FnC prog 305 [a.av, b.av] (zA (a.z + b.z)) := by
 have h1 := Wh.m_le (w := a)
 have h2 := Wh.m_le (w := b)
 have hla : val a.m < 4294967296 ^ (max a.m.length b.m.length) := lt_of_lt_of_le (abg _ (Wh.ws ha)) (Nat.pow_le_pow_right (by omega) (by omega))
 have hlb : val b.m < 4294967296 ^ (max a.m.length b.m.length) := lt_of_lt_of_le (abg _ (Wh.ws hb)) (Nat.pow_le_pow_right (by omega) (by omega))
 have h3 : (ofNat (val a.m + val b.m)).length <= max a.m.length b.m.length + 1 := aag (by rw [Nat.pow_succ]; omega)
 have h4 : (ofNat (val a.m - val b.m)).length <= max a.m.length b.m.length := aag (by omega)
 have h5 : (ofNat (val b.m - val a.m)).length <= max a.m.length b.m.length := aag (by omega)
 refine gF0 func305 ?_
 refine gc (abi a ha) ?_
 refine gc (abi b hb) ?_
 refine gD ?_
 refine gc (aa8 a ha) ?_
 refine gc (aa8 b hb) ?_
 refine gD ?_
 refine gC (fun ht11 => ?_) (fun ht11 => ?_)
 ·have h0 : a.n = b.n := by simpa using ht11
  refine gc (aa8 a ha) ?_
  refine gc (aiq a.m b.m (Wh.ws ha) (Wh.ws hb) (by omega) (by omega)) ?_
  refine gc (aa3 _ _ (aa1 _) (by omega)) ?_
  refine gE1 ?_
  rw [aah,awr h0]; rfl
 ·have h0 : a.n ≠ b.n := by simpa using ht11
  refine gc (aem a.m b.m (Wh.ws ha) (Wh.ws hb) a.nz b.nz) ?_
  refine gC (fun ht23 => ?_) (fun ht23 => ?_)
  ·have h6 : val b.m <= val a.m := by
    rcases lt_or_ge (val a.m) (val b.m) with h | h
    ·rw [if_pos h] at ht23; cases ht23
    ·exact h
   refine gc (aa8 a ha) ?_
   refine gc (af1 a.m b.m (Wh.ws ha) (Wh.ws hb) (by omega) (by rcases lt_or_ge a.m.length b.m.length with h | h; (have := afm (Wh.ws ha) b.nz h; omega); exact h) h6) ?_
   refine gc (aa3 _ _ (aa1 _) (by omega)) ?_
   refine gE1 ?_
   rw [aah,aqk h0 h6]; rfl
  ·have h6 : val a.m < val b.m := by
    rcases lt_or_ge (val a.m) (val b.m) with h | h
    ·exact h
    ·rw [if_neg (by omega)] at ht23; split at ht23 <;> cases ht23
   refine gc (aa8 b hb) ?_
   refine gc (af1 b.m a.m (Wh.ws hb) (Wh.ws ha) (by omega) (by rcases lt_or_ge b.m.length a.m.length with h | h; (have := afm (Wh.ws hb) a.nz h; omega); exact h) (by omega)) ?_
   refine gc (aa3 _ _ (aa1 _) (by omega)) ?_
   refine gE1 ?_
   rw [aah,at5 h0 (by omega)]; rfl
theorem aj2 (a b : Wh) (ha : a.ok) (hb : b.ok) (la : a.mag.length < big) (lb : b.mag.length < big) : FnC prog 308 [a.av, b.av] (zA (Int.gcd a.z b.z)) := by
 refine gF0 func308 ?_
 refine gc (abi a ha) ?_
 refine gc (abi b hb) ?_
 refine gD ?_
 refine gL2 [4] [4] (fun (x y : List Nat) => [(5,some (ws x)),(6,some (ws y))]) (fun _ _ => []) (fun x y => Ws x /\ Ws y /\ Nz x /\ Nz y /\ x.length < big /\ y.length < big /\ Nat.gcd (val x) (val y) = Int.gcd a.z b.z) (fun _ y => val y) a.m b.m ⟨Wh.ws ha,Wh.ws hb,a.nz,b.nz,Wh.small ha la,Wh.small hb lb,by rw [Int.gcd,Wh.abs,Wh.abs]⟩ ?_
 rintro x y ⟨wx,wy,nx,ny,lx,ly,hg⟩ K1 hK1
 refine gl ?_
 refine gC (fun ht15 => ?_) (fun ht15 => ?_)
 ·have hy : y ≠ [] := by intro h; subst h; simp [aaa] at ht15
  have hy0 := ajh ny hy
  have hm := Nat.mod_lt (val x) hy0
  refine gc (aha x y wx wy nx ny hy lx ly) ?_
  exact gK2 hK1 y (ofNat (val x % val y)) ⟨wy,aa1 _,ny,aij _,ly,lt_of_le_of_lt (aag (Nat.lt_trans hm (abg y wy))) ly,by rw [aah,<- hg,Nat.gcd_comm (val x) (val y),Nat.gcd_comm (val y) (val x % val y)]; exact (Nat.gcd_rec _ _).symm⟩ (by show val (ofNat _) < val y; rw [aah]; exact hm)
 ·have hy : y = [] := by
   cases y with
   | nil => rfl
   | cons c l => simp [aaa] at ht15
  subst hy
  have hg' : val x = Int.gcd a.z b.z:=by rw [<- hg]; simp [val]
  refine gc (aa3 false x wx (Nat.le_of_lt lx)) ?_
  refine gE1 ?_
  rw [hg']; rfl
theorem aq7 (a b : Wh) (ha : a.ok) (hb : b.ok) (la : a.mag.length + 1 < big) (lb : b.mag.length < big) (h0 : b.z ≠ 0) : FnC prog 309 [a.av, b.av] (.tup [zA (a.z / b.z), zA (a.z % b.z), .v .nilIface]) := by
 have hm1 := Wh.m_le (w := a)
 have hm2 := Wh.m_le (w := b)
 have hb1 : val b.m ≠ 0:=by have := Wh.abs (w := b); omega
 have hb2 : b.m ≠ [] := fun h => hb1 (by rw [h]; rfl)
 have hl1 : (ofNat (val a.m / val b.m)).length <= a.m.length := aag (lt_of_le_of_lt (Nat.div_le_self _ _) (abg _ (Wh.ws ha)))
 have hmod := Nat.mod_lt (val a.m) (show 0 < val b.m by omega)
 have hl2 : (ofNat (val a.m % val b.m)).length <= b.m.length := aag (Nat.lt_trans hmod (abg _ (Wh.ws hb)))
 have hl3 : (ofNat (val a.m / val b.m + 1)).length <= a.m.length + 1 := aag (by have h7 := lt_of_le_of_lt (Nat.div_le_self (val a.m) (val b.m)) (abg _ (Wh.ws ha)); rw [Nat.pow_succ]; generalize val a.m / val b.m = m at *; omega)
 have hl4 : (ofNat (val b.m - val a.m % val b.m)).length <= b.m.length := aag (by have := abg _ (Wh.ws hb); omega)
 have hv1 : val [1] = 1 := rfl
 refine gF0 func309 ?_
 refine gc (abi b hb) ?_
 refine gl ?_
 refine gC (fun ht14 => ?_) (fun ht14 => ?_) (st1 := (3,0))
 ·exact absurd (List.length_eq_zero_iff.1 (by simpa [aaa] using ht14)) hb2
 ·refine gc (abi a ha) ?_
  refine gc (aha a.m b.m (Wh.ws ha) (Wh.ws hb) a.nz b.nz hb2 (by omega) (by omega)) ?_
  refine gc (aa8 a ha) ?_
  refine glG ?_
  refine gC (fun ht31 => ?_) (fun ht31 => ?_)
  ·have h1 : a.n = true /\ 0 < val a.m % val b.m := amf.1 ht31
   obtain ⟨e1,e2⟩ := axg hb1 h1.1 h1.2
   refine gc (aiq (ofNat (val a.m / val b.m)) [1] (aa1 _) (ar3 (by omega)) (by omega) (by unfold big; simp)) ?_
   refine gc (af1 b.m (ofNat (val a.m % val b.m)) (Wh.ws hb) (aa1 _) (by omega) hl2 (by rw [aah]; omega)) ?_ (7,0)
   refine gW (Wk.of (sl := [(2,some (.ptr 2 0)),(3,some (.ptr 3 0)),(4,some (.ptr 4 0)),(5,some (.ptr 5 0)),(8,some (ws (ofNat (val a.m / val b.m + 1)))),(9,some (ws (ofNat (val b.m - val a.m % val b.m))))]) (hp := [(2,some (.box [bl a.neg,ws a.mag])),(3,some (.box [bl b.neg,ws b.mag])),(4,some (.box [.v (.bool false),.v (.slice none 0 0)])),(5,some (.box [.v (.bool false),.v (.slice none 0 0)]))]) (.k (.k (.k (.k (.cons rfl (Sub.of (by rw [aah,hv1])) (.cons rfl (Sub.of (by rw [aah])) .nil)))))) (.cons rfl (.refl _) (.cons rfl (.refl _) (.cons rfl (.refl _) (.cons rfl (.refl _) .nil))))) ?_
   refine gc (aa8 a ha) ?_
   refine gc (aa8 b hb) ?_
   refine gc (by apply aa3 _ _ (aa1 _) (by omega)) ?_
   refine gc (by apply aa3 _ _ (aa1 _) (by omega)) ?_
   refine gD ?_
   refine gR ?_
   exact ap2 (by rw [aah,aah,e1,show sgn false _ = _ from e2]; rfl)
  ·have h1 : ¬ (a.n = true /\ 0 < val a.m % val b.m) := fun h => Bool.eq_false_iff.1 ht31 (amf.2 h)
   obtain ⟨e1,e2⟩ := a4l hb1 h1
   refine gc (aa8 a ha) ?_
   refine gc (aa8 b hb) ?_
   refine gc (by apply aa3 _ _ (aa1 _) (by omega)) ?_
   refine gc (by apply aa3 _ _ (aa1 _) (by omega)) ?_
   refine gD ?_
   refine gR ?_
   exact ap2 (by rw [aah,aah,e1,show sgn false _ = _ from e2]; rfl)
end Go.Lw
namespace Go.Lw
open Go.Proofs
theorem awi {N : Nat} (h : N < 18446744073709551616) : val [N % 4294967296, N / 2 ^ 32] = N := by
 simp only [val]; omega
theorem a5u {N : Nat} (h : N < 18446744073709551616) : Ws [N % 4294967296, N / 2 ^ 32] := by
 intro x hx
 simp only [mem_cons,not_mem_nil,or_false] at hx
 rcases hx with rfl | rfl <;> omega
theorem alq (n : Int) (h : -9223372036854775808 <= n /\ n <= 9223372036854775807) : FnC prog 270 [i64 n] (zA n) := by
 obtain ⟨N,hN⟩ : ∃ N,N = n.natAbs := ⟨_,rfl⟩
 have hNB : N < 18446744073709551616:=by omega
 refine gF0 func270 ?_
 refine gv (show IntKind.u64.wrap n = ((n % 18446744073709551616 : Int)) by simp only [IntKind.wrap,IntKind.signed,IntKind.bits,Bool.false_and,if_false,Bool.false_eq_true]; omega) ?_
 refine gC (fun ht7 => ?_) (fun ht7 => ?_) (st2 := (77777,0))
 ·have hn : n < 0 := by simpa [aaa] using ht7
  refine gs (a7p (.tmp rfl) rfl) ?_ (4,0)
  refine gW (Wk.of (sl := [(0,some (i64 n)),(2,some (.ptr 2 0)),(3,some (u64 N))]) (hp := [(2,some (.box [.v (.bool false),.v (.slice none 0 0)]))]) (.k (.k (.cons rfl (Sub.int (by simp only [IntKind.wrap,IntKind.signed,IntKind.bits,Bool.false_and,if_false,Bool.false_eq_true]; omega)) .nil))) (.cons rfl (.refl _) .nil)) ?_
  refine gv (aa6 _) ?_
  refine gs (ac4 (.tmp rfl) (.const _) (by omega) (ac5 _ 32 (by omega)) rfl) ?_
  refine gv ((aa6 _).trans (by rw [Nat.mod_eq_of_lt (show N / 2 ^ 32 < 4294967296 by omega)])) ?_
  refine gc (aa3 (aaa .lss n 0) [N % 4294967296,N / 2 ^ 32] (a5u hNB) (by unfold big; simp)) ?_
  refine gE1 ?_
  rw [awi hNB,show sgn (aaa .lss n 0) N = n by simp only [sgn,aaa,decide_eq_true_eq]; split <;> omega]; rfl
 ·have hn : ¬ n < 0 := by simpa [aaa] using ht7
  refine gW (Wk.of (sl := [(0,some (i64 n)),(2,some (.ptr 2 0)),(3,some (u64 N))]) (hp := [(2,some (.box [.v (.bool false),.v (.slice none 0 0)]))]) (.k (.k (.cons rfl (Sub.int (by omega)) .nil))) (.cons rfl (.refl _) .nil)) ?_
  refine gv (aa6 _) ?_
  refine gs (ac4 (.tmp rfl) (.const _) (by omega) (ac5 _ 32 (by omega)) rfl) ?_
  refine gv ((aa6 _).trans (by rw [Nat.mod_eq_of_lt (show N / 2 ^ 32 < 4294967296 by omega)])) ?_
  refine gc (aa3 (aaa .lss n 0) [N % 4294967296,N / 2 ^ 32] (a5u hNB) (by unfold big; simp)) ?_
  refine gE1 ?_
  rw [awi hNB,show sgn (aaa .lss n 0) N = n by simp only [sgn,aaa,decide_eq_true_eq]; split <;> omega]; rfl
end Go.Lw
namespace Go.Lw
theorem ak9 : ∀ (j k v : Nat), j <= k -> (ac8 k v).take j = ac8 j v
 | 0,_,_,_ => by simp [ac8]
 | j + 1,0,_,h => by omega
 | j + 1, k + 1, v, h => by
  rw [ac8,ac8,List.take_succ_cons,ak9 j k _ (by omega)]
theorem axk {m : List Nat} (h : Ws m) : (ofNat (val m)).length <= m.length := aag (abg m h)
theorem atd {m : List Nat} (h : Ws m) : m.take (ofNat (val m)).length = ofNat (val m) := by
 have h1 := am3 m h
 have h2 := am3 (ofNat (val m)) (aa1 _)
 rw [aah] at h2
 have h3 := ak9 _ _ (val m) (axk h)
 rw [<- h1,<- h2] at h3
 exact h3
theorem a0o {m : List Nat} {n : Nat} (h : Ws m) (hn : n <= m.length) (hv : val (m.take n) = val m) (h0 : n = 0 \/ aab m (n - 1) ≠ 0) : n = (ofNat (val m)).length := by
 have h1 : m.take n = ofNat (val m) := by
  refine av7 (acy h n) ?_ hv
  intro x hx
  rcases h0 with h0 | h0
  ·subst h0; simp at hx
  ·have hn0 : n ≠ 0 := by intro h3; subst h3; simp at hx
   rw [List.getLast?_eq_getElem?,length_take,Nat.min_eq_left hn,getElem?_take,if_pos (by omega),adb (by omega)] at hx
   cases hx; exact h0
 rw [<- h1,length_take,Nat.min_eq_left hn]
theorem a3t (l : List Nat) (i : Nat) : val l = val (l.take i) + 4294967296 ^ i * val (l.drop i) := by
 rcases lt_or_ge i l.length with h | h
 ·exact agu (by omega)
 ·rw [aap h,drop_eq_nil_of_le h]; simp [val]
theorem aho (l : List Nat) (i : Nat) : val (l.drop i) = aab l i + 4294967296 * val (l.drop (i + 1)) := by
 rcases lt_or_ge i l.length with h | h
 ·exact aii h
 ·rw [ah8 h,drop_eq_nil_of_le h,drop_eq_nil_of_le (by omega)]; rfl
theorem awu {a b : List Nat} {i : Nat} (ha : Ws a) (he : val (a.drop (i + 1)) = val (b.drop (i + 1))) (hx : aab a i < aab b i) : val a < val b := by
 rw [a3t a (i + 1),a3t b (i + 1),he]
 have := amo ha hx
 omega
theorem bas {xs ys : List AV} (hl : xs.length = ys.length) (h1 : ∀ (j : Nat) (y : AV), ys[j]? = some y -> y.one = true) (h : ∀ (j : Nat) (x y : AV), xs[j]? = some x -> ys[j]? = some y -> Sub x y) : Sub (.agg xs) (.agg ys) := by
 intro g S m v hr
 cases hr with
 | agg hn h2 hr =>
  refine .agg (hn.trans hl) h1 ?_
  intro j u c hu hc
  have hj : j < xs.length := by
   rw [hl]
   rcases lt_or_ge j ys.length with h | h
   ·exact h
   ·rw [getElem?_eq_none h] at hc; cases hc
  exact h j _ c (getElem?_eq_getElem hj) hc _ _ _ _ (hr j u _ hu (getElem?_eq_getElem hj))
theorem be1 : Sub (.agg [.v (.bool false), .v (.slice none 0 0)]) (zA 0) := by
 show Sub (.agg [.v (.bool false),.v (.slice none 0 0)]) (.agg [bl false,ws []])
 refine bas rfl ?_ ?_
 ·intro j y hy
  match j,hy with
  | 0,hy => cases hy; rfl
  | 1,hy => cases hy; rfl
 ·intro j x y hx hy
  match j,hx,hy with
  | 0,hx,hy => cases hx; cases hy; exact Sub.refl _
  | 1,hx,hy => cases hx; cases hy; exact Sub.nil _ _ _
theorem axo {out : List Nat} {i x : Nat} (h : out.length = i) : val (out ++ [x]) = val out + 4294967296 ^ i * x := by
 rw [afc,h]; simp [val]
theorem apn {o c P x y u w : Nat} (hu : u < 4294967296) (hw : w < 4294967296) (hc : c <= 1) (h : o + y = x + c * P) :
  (o + P * ((4294967296 + u - w - c) % 4294967296)) + (y + P * w) = (x + P * u) + (1 - (4294967296 + u - w - c) / 2 ^ 32) * (P * 4294967296) := by
 have h0 : (4294967296 + u - w - c) % 4294967296 + w + c = u + (1 - (4294967296 + u - w - c) / 2 ^ 32) * 4294967296:=by omega
 generalize (1 - (4294967296 + u - w - c) / 2 ^ 32) = q at *
 generalize (4294967296 + u - w - c) % 4294967296 = r at *
 grind
theorem asu {a b out : List Nat} {c : Nat} (ha : Ws a) (hw : Ws out) (ho : out.length = a.length) (hle : val b <= val a)
  (h : val out + val (b.take a.length) = val (a.take a.length) + c * 4294967296 ^ a.length) : val out = val a - val b := by
 have hb := a3t b a.length
 have h2 := abg a ha
 have h3 : val (b.drop a.length) = 0 := by
  rcases Nat.eq_zero_or_pos (val (b.drop a.length)) with h4 | h4
  ·exact h4
  ·have := mul_le_mul_left (4294967296 ^ a.length) h4; omega
 rw [h3,Nat.mul_zero,Nat.add_zero] at hb
 rw [<- hb,take_length] at h
 have h1 := abg out hw
 rw [ho] at h1
 cases c with
 | zero => omega
 | succ c => rw [Nat.succ_mul] at h; omega
theorem ax5 {z : Int} {k : Nat} (h : Lz k z) (hk : k <= ack) : (ofInt z).ok := ⟨aa1 _,le_trans h.len hk⟩
theorem arx {z : Int} {k : Nat} (h : Lz k z) : (ofInt z).mag.length <= k := h.len
theorem a7g (x y : Int) : (x - y).sign = asm x y := by
 unfold asm
 have h := akq (x - y)
 (repeat' split) <;> omega
end Go.Lw
namespace Go.Lw
open Go.Proofs
theorem aet (m : List Nat) (i : Nat) (hm : Ws m) : FnC prog 334 [ws m, i64 i] (u64 (aab m i)) := by
 refine gF0 func334 ?_
 refine gl ?_
 refine gC (fun ht8 => ?_) (fun ht8 => ?_)
 ·simp [aaa] at ht8
  have := aak hm i
  refine gi (af3 (i := i) ht8) ?_
  refine gv (u64_in (by omega)) ?_
  refine gE1 ?_
  rfl
 ·simp [aaa] at ht8
  refine gE1 ?_
  simp [u64,ah8 ht8]
theorem ano (w : Wh) (h : w.ok) : FnC prog 332 [w.av] (bl w.valid) := by
 have hl : w.mag.length <= ack := h.2
 refine gF0 func332 ?_
 refine gl ?_
 refine gC (fun ht6 => ?_) (fun ht6 => ?_)
 ·have h0 : w.mag = [] := by simpa [aaa] using ht6
  refine gE1 ?_
  simp [bl,Wh.valid,h0]
 ·have h0 : w.mag.length ≠ 0 := by simpa [aaa] using ht6
  refine gl ?_
  refine ga (ae6 (by omega) (by omega)) ?_
  refine gi (af3 (i := w.mag.length - 1) (by omega)) ?_
  refine gE1 ?_
  have h1 : w.mag ≠ [] := fun h => h0 (by rw [h]; rfl)
  simp only [bl,Wh.valid,if_neg h1,List.getLast?_eq_getElem?,adb (show w.mag.length - 1 < w.mag.length by omega),aaa]
  congr 2
  generalize aab w.mag _ = x
  rw [Bool.eq_iff_iff]; simp
theorem ac3 (w : Wh) (h : w.ok) : FnC prog 239 [w.av] (ws w.m) := by
 refine gF0 func239 ?_
 refine gc (ano w h) ?_
 refine gC (fun ht5 => ?_) (fun ht5 => ?_)
 ·have h0 : w.valid = false := by simpa [aaa] using ht5
  refine gR ?_
  exact ad9 (by rw [show w.m = [] by simp [Wh.m,h0]]; exact Sub.nil _ _ _)
 ·have h0 : w.valid = true := by simpa [aaa] using ht5
  refine gE1 ?_
  simp only [Wh.m,h0]; rfl
theorem aca (w : Wh) (h : w.ok) : FnC prog 240 [w.av] (bl w.n) := by
 refine gF0 func240 ?_
 refine gc (ano w h) ?_
 refine gE1 ?_
 simp only [Wh.n,bl]; cases w.valid <;> rfl
theorem ajc (d : Nat) (hd : Nat.blt d 1000 = true) (m : List Nat) (hm : Ws m) (hb : m.length <= big) :
  Con prog 333 [ws m] [] (.ms d 1 0 (ofNat (val m)).length) [(d,some (.row 1 (m.map u32)))] := by
 have hb' := hb
 unfold big at hb
 refine gF func333 (fun k z h => by cases h) ?_
 refine gs (aby T80 rfl T271 rfl rfl rfl) ?_
 refine gs (abh (.tmp rfl) rfl rfl (.tmp rfl) T80 rfl T271 rfl rfl (by simp only [length_map]; omega) rfl rfl) ?_
 refine gL1 [] [6] (fun (n : Nat) => [(3,some (.ms 6 1 0 n))]) (fun _ => []) (fun n => n <= m.length /\ val (m.take n) = val m) (fun n => n) m.length ⟨le_refl _,by rw [take_length]⟩ ?_ (h1 := (.cons rfl (Sub.of (by rw [length_map,Nat.zero_add])) .nil))
 rintro n ⟨hn,hv⟩ K1 hK1
 refine gaG (fun h => (ae6 (by simp [aaa] at h; omega) (by unfold ack; omega))) ?_
 refine gs (aco rfl rfl rfl (fun h => aaq (n := n - 1) (.opt rfl (o1 h)) (.opt rfl (o1 h)) T80 rfl T271 rfl (by omega) (by simp [aaa] at h; omega) rfl)) ?_
 refine gs (aco rfl rfl rfl (fun h => aay (.opt rfl (o1 h)) rfl (af3 (i := n - 1) (by simp [aaa] at h; omega)) T271 rfl rfl rfl)) ?_
 refine gC (fun ht18 => ?_) (fun ht18 => ?_)
 ·have ht18 : 0 < n /\ aab m (n - 1) = 0 := by simpa [aaa] using ht18
  refine ga (ae6 (by omega) (by unfold ack; omega)) ?_
  refine gs (ah3 (.tmp rfl) (.none _) (.some _ (.tmp rfl) (by omega)) T80 rfl T271 rfl (by omega) (by omega) rfl) ?_
  exact gK1 hK1 (n - 1) ⟨by omega,by have h := @aad m (n - 1); rw [show n - 1 + 1 = n by omega,ht18.2] at h; simp at h; omega⟩ (hw := Wk.of (.cons rfl (Sub.of (by congr 1)) .nil) (.cons rfl (.refl _) .nil))
 ·have ht18 : 0 < n -> aab m (n - 1) ≠ 0 := by simpa [aaa] using ht18
  have hn1 := a0o hm hn hv (by rcases Nat.eq_zero_or_pos n with h | h; (exact .inl h); exact .inr (ht18 h))
  subst hn1
  refine gR ?_
  exact Fin.own1 rfl hd rfl
theorem afb (m : List Nat) (hm : Ws m) (hb : m.length <= big) : FnC prog 333 [ws m] (ws (ofNat (val m))) := by
 have h := Con.freeze (by rw [length_map,Nat.zero_add]; exact axk hm) (ajc 0 rfl m hm hb)
 rwa [drop_zero,<- map_take,atd hm] at h
theorem ab9 (b : Bool) (m : List Nat) (hm : Ws m) (hb : m.length <= big) : FnC prog 241 [bl b, ws m] (zA (sgn b (val m))) := by
 refine gF0 func241 ?_
 refine gc (afb m hm hb) ?_
 refine gl ?_
 refine gC (fun ht9 => ?_) (fun ht9 => ?_)
 ·have h0 : val m = 0 := by
   have := aah (val m)
   have h9 : ofNat (val m) = [] := List.length_eq_zero_iff.1 (by simpa [aaa] using ht9)
   rw [h9] at this
   exact this.symm
  refine gR ?_
  exact ad9 (by rw [h0,show sgn b 0 = 0 by cases b <;> rfl]; exact be1)
 ·have h0 : val m ≠ 0 := by
   intro h
   rw [h] at ht9
   cases ht9
  refine gE1 ?_
  rw [show zA (sgn b (val m)) = .agg [bl b, ws (ofNat (val m))] by
   unfold zA ofInt Wh.av
   rw [show (sgn b (val m)).natAbs = val m by unfold sgn; split <;> omega,show decide (sgn b (val m) < 0) = b by cases b <;> simp [sgn] <;> omega]]
theorem agq (a b : List Nat) (ha : Ws a) (hb : Ws b) : FnC prog 243 [ws a, ws b] (i64 (if val a < val b then -1 else if val b < val a then 1 else 0)) := by
 refine gF0 func243 ?_ (0,0)
 refine bd7 (t := 0) rfl (fun hla => ?_)
 refine bd7 (t := 1) rfl (fun hlb => ?_)
 unfold ack at hla hlb
 refine go ?_
 refine gl ?_
 refine gl ?_
 refine gs (ayi (.tmp rfl) (.tmp rfl) rfl) ?_
 refine ga (abd (by omega)) ?_
 refine gL1 [0,1] [] (fun (n : Nat) => [(5,some (i64 ((n : Int) - 1)))]) (fun _ => []) (fun n => n <= 281474976710656 /\ val (a.drop n) = val (b.drop n)) (fun n => n) (max a.length b.length) ⟨by omega,by rw [drop_eq_nil_of_le (by omega),drop_eq_nil_of_le (by omega)]⟩ ?_ (h1 := (.cons rfl (Sub.int (by omega)) .nil))
 rintro n ⟨hn,hd⟩ K1 hK1
 refine gC (fun ht13 => ?_) (fun ht13 => ?_)
 ·have hn0 : 1 <= n := by have := ht13; simp [aaa] at this; omega
  obtain ⟨k,rfl⟩ : ∃ k,n = k + 1 := ⟨n - 1,by omega⟩
  have hk : ((k + 1 : Nat) : Int) - 1 = (k : Int):=by omega
  rw [hk]
  refine gc (aet a k ha) ?_
  refine gc (aet b k hb) ?_
  refine gC (fun ht22 => ?_) (fun ht22 => ?_)
  ·have h3 : aab a k ≠ aab b k := by simpa [aaa, Int.ofNat_inj] using ht22
   refine gc (aet a k ha) ?_
   refine gc (aet b k hb) ?_
   refine gC (fun ht29 => ?_) (fun ht29 => ?_)
   ·have h4 : aab a k < aab b k := by simpa [aaa] using ht29
    have h5 := awu ha hd h4
    refine gE1 ?_
    simp [i64,h5]
   ·have h4 : aab b k < aab a k := by have : aab b k <= aab a k := (by simpa [aaa] using ht29); omega
    have h5 := awu hb hd.symm h4
    refine gE1 ?_
    simp [i64,h5,Nat.lt_asymm h5]
  ·have h3 : aab a k = aab b k := by simpa [aaa, Int.ofNat_inj] using ht22
   refine ga (abd (by omega)) ?_
   exact gK1 hK1 k ⟨by omega,by rw [aho a,aho b,hd,h3]⟩
 ·have hn0 : n = 0 := by have := ht13; simp [aaa] at this; omega
  subst hn0
  refine gE1 ?_
  simp at hd; simp [i64,hd]
end Go.Lw
namespace Go.Lw
open Go.Proofs
theorem ale (a b : List Nat) (ha : Ws a) (hb : Ws b) (la : a.length < big) (lb : b.length < big) : FnC prog 242 [ws a, ws b] (ws (ofNat (val a + val b))) := by
 unfold big at la lb
 obtain ⟨n,hn⟩ : ∃ n,n = max a.length b.length + 1 := ⟨_,rfl⟩
 refine gF0 func242 ?_
 refine gl ?_
 refine gl ?_
 refine gs (ayi (.tmp rfl) (.tmp rfl) rfl) ?_
 refine ga (show _ = (n : Int) by rw [aa2 (by omega)]; omega) ?_
 refine gW (Wk.virt 900 1 rfl) ?_
 refine gL3 [0,1,14] [] (fun (out : List Nat) (c i : Nat) => [(5,some (.ms 900 1 0 i)),(6,some (u64 c)),(15,some (i64 i))]) (fun out _ _ => [(900,some (.row 1 (out.map u32)))]) (fun out c i => out.length = i /\ i <= n /\ Ws out /\ c <= 1 /\ val out + c * 4294967296 ^ i = val (a.take i) + val (b.take i)) (fun _ _ i => n - i) ([]) 0 0 ⟨rfl,by omega,atz,by omega,by simp [val]⟩ ?_
 rintro out c i ⟨ho,hi,hw,hc,hv⟩ K1 hK1
 refine gC (fun ht16 => ?_) (fun ht16 => ?_) (st2 := (9,0))
 ·have hin : i < n := by simpa [aaa] using ht16
  have h1 := aak ha i
  have h2 := aak hb i
  obtain ⟨s,hs⟩ : ∃ s,s = c + (aab a i + aab b i) := ⟨_,rfl⟩
  have h3 := an0 (u := aab a i) (w := aab b i) hv
  rw [<- hs] at h3
  refine gc (by apply aet <;> assumption) ?_
  refine gc (by apply aet <;> assumption) ?_
  refine ga (ad3 (by omega)) ?_
  refine ga ((ad3 (by omega)).trans (show _ = (s : Int) by congr 1; omega)) ?_
  refine gv (aa6 _) ?_
  refine gs (abh (.tmp rfl) rfl (by rw [length_map,ho]) (.tmp rfl) T80 rfl T271 rfl rfl (by simp; omega) rfl rfl) ?_
  refine gs (ac4 (.tmp rfl) (.const _) (by omega) (ac5 _ 32 (by omega)) rfl) ?_ (8,0)
  refine gW (Wk.of (sl := [(0,some (ws a)),(1,some (ws b)),(5,some (.ms 31 1 0 (i + 1))),(6,some (u64 (s / 2 ^ 32))),(14,some (i64 n)),(15,some (i64 i))]) (hp := [(31,some (.row 1 ((out ++ [s % 4294967296]).map u32)))]) abq (.cons rfl (BlkSub.of (by rw [map_append]; rfl)) .nil)) ?_ (8,0)
  refine gW (Wk.rekey (k := 31) (d := 900) rfl rfl) ?_
  refine ga (aa2 (by omega)) ?_
  exact gK3 hK1 (out ++ [s % 4294967296]) (s / 2 ^ 32) (i + 1) ⟨by simp [ho],by omega,aws hw (ar3 (by omega)),by omega,by rw [axo ho,aad,aad,Nat.pow_succ]; exact h3⟩
 ·have hin : i = n := by have : n <= i := (by simpa [aaa] using ht16); omega
  refine gW ((Wk.freeze (k := 900) rfl).trans <| Wk.of (sl := [(5,some (ws out))]) (hp := []) (.cons rfl (Sub.of (abw (by simp [ho]))) .nil) .nil) ?_
  refine gc (afb out hw (by unfold big; omega)) ?_
  refine gE1 ?_
  subst hin
  rw [axc ha hb hn ho (by rw [aap (l := out) (by omega)]; exact hv)]
theorem ajf (a b : List Nat) (ha : Ws a) (hb : Ws b) (la : a.length < big) (hle : val b <= val a) : FnC prog 244 [ws a, ws b] (ws (ofNat (val a - val b))) := by
 unfold big at la
 obtain ⟨n,hn⟩ : ∃ n,n = a.length := ⟨_,rfl⟩
 refine gF0 func244 ?_
 refine gl ?_
 refine gW (Wk.virt 900 1 rfl) ?_
 refine gL3 [0,1] [] (fun (out : List Nat) (c i : Nat) => [(5,some (.ms 900 1 0 i)),(6,some (u64 c)),(10,some (i64 n)),(11,some (i64 i))]) (fun out _ _ => [(900,some (.row 1 (out.map u32)))]) (fun out c i => out.length = i /\ i <= n /\ Ws out /\ c <= 1 /\ val out + val (b.take i) = val (a.take i) + c * 4294967296 ^ i) (fun _ _ i => n - i) ([]) 0 0 ⟨rfl,by omega,atz,by omega,by simp [val]⟩ ?_ (h1 := (.k (.k (.cons rfl (Sub.int (by rw [hn])) (.k .nil)))))
 rintro out c i ⟨ho,hi,hw,hc,hv⟩ K1 hK1
 refine gC (fun ht12 => ?_) (fun ht12 => ?_) (st2 := (9,0))
 ·have hin : i < n := by simpa [aaa] using ht12
  have h1 := aak ha i
  have h2 := aak hb i
  obtain ⟨s,hs⟩ : ∃ s,s = 4294967296 + aab a i - aab b i - c := ⟨_,rfl⟩
  have h3 := apn h1 h2 hc hv
  rw [<- hs] at h3
  refine gc (by apply aet <;> assumption) ?_
  refine ga ((ad3 (x := 4294967296) (by omega))) ?_
  refine gc (by apply aet <;> assumption) ?_
  refine ga ((afl (by omega) (by omega)).trans (by rw [if_pos (by omega)])) ?_
  refine ga ((afl (by omega) (by omega)).trans (show _ = (s : Int) by rw [if_pos (by omega)]; congr 1; omega)) ?_
  refine gv (aa6 _) ?_
  refine gs (abh (.tmp rfl) rfl (by rw [length_map,ho]) (.tmp rfl) T80 rfl T271 rfl rfl (by simp; omega) rfl rfl) ?_
  refine gs (ac4 (.tmp rfl) (.const _) (by omega) (ac5 _ 32 (by omega)) rfl) ?_
  refine ga ((afl (x := 1) (by omega) (by omega)).trans (by rw [if_pos (by omega)])) ?_ (8,0)
  refine gW (Wk.of (sl := [(0,some (ws a)),(1,some (ws b)),(5,some (.ms 28 1 0 (i + 1))),(6,some (u64 (1 - s / 2 ^ 32 : Nat))),(10,some (i64 n)),(11,some (i64 i))]) (hp := [(28,some (.row 1 ((out ++ [s % 4294967296]).map u32)))]) abq (.cons rfl (BlkSub.of (by rw [map_append]; rfl)) .nil)) ?_ (8,0)
  refine gW (Wk.rekey (k := 28) (d := 900) rfl rfl) ?_
  refine ga (aa2 (by omega)) ?_
  exact gK3 hK1 (out ++ [s % 4294967296]) (1 - s / 2 ^ 32) (i + 1) ⟨by simp [ho],by omega,aws hw (ar3 (by omega)),by omega,by rw [axo ho,aad,aad,Nat.pow_succ]; exact h3⟩
 ·have hin : i = n := by have : n <= i := (by simpa [aaa] using ht12); omega
  refine gW ((Wk.freeze (k := 900) rfl).trans <| Wk.of (sl := [(5,some (ws out))]) (hp := []) (.cons rfl (Sub.of (abw (by simp [ho]))) .nil) .nil) ?_
  refine gc (afb out hw (by unfold big; omega)) ?_
  refine gE1 ?_
  subst hin
  subst hn
  rw [asu ha hw ho hle hv]
theorem av3 (a b : List Nat) (ha : Ws a) (hb : Ws b) (la : a.length + b.length <= big) : FnC prog 245 [ws a, ws b] (ws (ofNat (val a * val b))) := by
 have la' := la
 unfold big at la
 refine gF0 func245 ?_
 refine gl ?_
 refine gl ?_
 refine ga (adf (by unfold ack; omega) (by unfold ack; omega)) ?_
 refine gs (afh (.tmp rfl) T80 rfl T271 rfl rfl (by omega) (by dsimp only; omega) rfl) ?_
 refine gl ?_
 refine gL2 [0,1,17] [] (fun (out : List Nat) (i : Nat) => [(5,some (.ms 15 1 0 (a.length + b.length))),(18,some (i64 i))]) (fun out _ => [(15,some (.row 1 (out.map u32)))]) (fun out i => out.length = a.length + b.length /\ i <= a.length /\ Ws out /\ val (out.take (i + b.length)) = val (a.take i) * val b) (fun _ i => a.length - i) (List.replicate (a.length + b.length) 0) 0 ⟨by simp,by omega,ait _,by simp [val,akd]⟩ ?_ (h2 := (.cons rfl (BlkSub.of (by rw [map_replicate]; rfl)) .nil))
 rintro out i ⟨ho,hi,hw,hv⟩ K1 hK1
 refine gC (fun ht19 => ?_) (fun ht19 => ?_) (st2 := (14,0))
 ·have hin : i < a.length := by simpa [aaa] using ht19
  have h1 := aak ha i
  refine gl ?_
  refine gL3 [0,1,17,18,6,22] [] (fun (o : List Nat) (c k : Nat) => [(5,some (.ms 15 1 0 (a.length + b.length))),(7,some (u64 c)),(23,some (i64 k))]) (fun o _ _ => [(15,some (.row 1 (o.map u32)))]) (fun o c k => o.length = a.length + b.length /\ k <= b.length /\ Ws o /\ c < 4294967296 /\ val (o.take (i + b.length)) + c * 4294967296 ^ (i + k) = val (out.take (i + b.length)) + 4294967296 ^ i * (aab a i * val (b.take k))) (fun _ _ k => b.length - k) out 0 0 ⟨ho,by omega,hw,by omega,by simp [val]⟩ ?_
  rintro o c k ⟨ho2,hk,hw2,hc,hv2⟩ K2 hK2
  refine gC (fun ht24 => ?_) (fun ht24 => ?_)
  ·have hkn : k < b.length := by simpa [aaa] using ht24
   have h2 := aak hb k
   have h3 := aak hw2 (i + k)
   have h4 := al9 h1 h2
   obtain ⟨s,hs⟩ : ∃ s,s = c + (aab a i * aab b k + aab o (i + k)) := ⟨_,rfl⟩
   have h5 := apy (x := s % 4294967296) (show i + k < o.length by omega) (show i + k < i + b.length by omega)
   have h6 := av4 h5 hs hv2
   refine gi (atg (n := i) (by omega) (by first | omega | (simp; omega))) ?_
   refine gv (u64_in (by omega)) ?_
   refine gi (atg (n := k) (by omega) (by first | omega | (simp; omega))) ?_
   refine gv (u64_in (by omega)) ?_
   refine ga (are (by omega)) ?_
   refine ga (adf (by unfold ack; omega) (by unfold ack; omega)) ?_
   refine gs (aaq (n := i + k) (.tmp rfl) (.tmp rfl) T80 rfl T271 rfl (by omega) (by first | omega | (simp; omega)) rfl) ?_
   refine gs (aay (.tmp rfl) rfl (af3 (i := i + k) (by omega)) T271 rfl rfl rfl) ?_
   refine gv (u64_in (by omega)) ?_
   refine ga (ad3 (by omega)) ?_
   refine ga ((ad3 (by omega)).trans (show _ = (s : Int) by congr 1; omega)) ?_
   refine gD ?_
   refine ga (adf (by unfold ack; omega) (by unfold ack; omega)) ?_
   refine gv (aa6 _) ?_
   refine gs (ac4 (.tmp rfl) (.const _) (by omega) (ac5 _ 32 (by omega)) rfl) ?_
   refine gs (aaq (n := i + k) (.tmp rfl) (.tmp rfl) T80 rfl T271 rfl (by omega) (by first | omega | (simp; omega)) rfl) ?_
   refine gs (abk (.tmp rfl) rfl (af3 (i := i + k) (by omega)) rfl (.tmp rfl) rfl rfl T271 rfl rfl) ?_
   refine ga (aa2 (by omega)) ?_
   exact gK3 hK2 (o.set (i + k) (s % 4294967296)) (s / 2 ^ 32) (k + 1) ⟨by simp [ho2],by omega,aed hw2 (by omega),by omega,by rw [show i + (k + 1) = (i + k) + 1 from rfl,show s / 2 ^ 32 = s / 4294967296 from rfl,Nat.pow_succ,h6,aad]; simp only [pow_add]; grind⟩ (hw := Wk.of abq (.cons rfl (BlkSub.of (by rw [map_set]; rfl)) .nil))
  ·have hkn : k = b.length := by have : b.length <= k := (by simpa [aaa] using ht24); omega
   subst hkn
   have h5 := ab1 (x := c) (show i + b.length < o.length by omega)
   rw [take_length] at hv2
   refine gl ?_
   refine ga (adf (by unfold ack; omega) (by unfold ack; omega)) ?_
   refine gv ((aa6 c).trans (by rw [Nat.mod_eq_of_lt hc])) ?_
   refine gs (aaq (n := i + b.length) (.tmp rfl) (.tmp rfl) T80 rfl T271 rfl (by omega) (by first | omega | (simp; omega)) rfl) ?_
   refine gs (abk (.tmp rfl) rfl (af3 (i := i + b.length) (by omega)) rfl (.tmp rfl) rfl rfl T271 rfl rfl) ?_
   refine ga (aa2 (by omega)) ?_
   exact gK2 hK1 (o.set (i + b.length) c) (i + 1) ⟨by simp [ho2],by omega,aed hw2 hc,by rw [show i + 1 + b.length = i + b.length + 1 by omega,h5,aad]; simp only [pow_add] at *; grind⟩ (hw := Wk.of abq (.cons rfl (BlkSub.of (by rw [map_set]; rfl)) .nil))
 ·have hin : i = a.length := by have : a.length <= i := (by simpa [aaa] using ht19); omega
  subst hin
  rw [take_length,aap (by omega)] at hv
  refine gW ((Wk.freeze (k := 15) rfl).trans <| Wk.of (sl := [(5,some (ws out))]) (hp := []) (.cons rfl (Sub.of (abw (by simp [ho]))) .nil) .nil) ?_
  refine gc (afb out hw (by omega)) ?_
  refine gE1 ?_
  rw [hv]
end Go.Lw
namespace Go.Lw
open Go.Proofs
theorem akv (a : Wh) (ha : a.ok) : FnC prog 236 [a.av] (i64 a.z.sign) := by
 obtain ⟨e1,e2,e3⟩ := axi ha
 refine gF0 func236 ?_
 refine gc (ac3 a ha) ?_
 refine gl ?_
 refine gC (fun ht6 => ?_) (fun ht6 => ?_)
 ·have h0 : a.m.length = 0 := by simpa [aaa] using ht6
  refine gE1 ?_
  rw [e1 h0]; rfl
 ·have h0 : a.m.length ≠ 0 := by simpa [aaa] using ht6
  have hval : a.valid = true := by
   unfold Wh.m at h0
   split at h0
   ·assumption
   ·exact absurd rfl h0
  refine gc (aca a ha) ?_
  refine gC (fun ht8 => ?_) (fun ht8 => ?_)
  ·have h1 : a.neg = true := by unfold Wh.n at ht8; rw [hval] at ht8; simpa using ht8
   refine gE1 ?_
   rw [e2 h0 h1]; rfl
  ·have h1 : a.neg = false := by unfold Wh.n at ht8; rw [hval] at ht8; simpa using ht8
   refine gE1 ?_
   rw [e3 h0 h1]; rfl
theorem atw (a : Wh) (ha : a.ok) (la : a.mag.length < big) : FnC prog 215 [a.av] (zA (-a.z)) := by
 refine gF0 func215 ?_
 refine gc (aca a ha) ?_
 refine gc (ac3 a ha) ?_
 refine gc (ab9 _ a.m (Wh.ws ha) (Nat.le_of_lt (Wh.small ha la))) ?_
 refine gD ?_
 refine gE1 ?_
 rw [Wh.z_eq,<- a4z]; rfl
theorem a3r (a b : Wh) (ha : a.ok) (hb : b.ok) (la : a.mag.length + b.mag.length <= big) : FnC prog 135 [a.av, b.av] (zA (a.z * b.z)) := by
 have h1 := Wh.m_le (w := a)
 have h2 := Wh.m_le (w := b)
 have h3 : (ofNat (val a.m * val b.m)).length <= a.m.length + b.m.length := aag (by rw [pow_add]; exact Nat.mul_lt_mul'' (abg _ (Wh.ws ha)) (abg _ (Wh.ws hb)))
 refine gF0 func135 ?_
 refine gc (aca a ha) ?_
 refine gc (aca b hb) ?_
 refine gc (ac3 a ha) ?_
 refine gc (ac3 b hb) ?_
 refine gc (av3 a.m b.m (Wh.ws ha) (Wh.ws hb) (by omega)) ?_
 refine gc (ab9 _ _ (aa1 _) (by omega)) ?_
 refine gD ?_
 refine gE1 ?_
 rw [aah,a0a]; rfl
theorem at0 (a b : Wh) (ha : a.ok) (hb : b.ok) (la : a.mag.length < big) (lb : b.mag.length < big) : FnC prog 134 [a.av, b.av] (zA (a.z + b.z)) := by
 have h1 := Wh.m_le (w := a)
 have h2 := Wh.m_le (w := b)
 have hla : val a.m < 4294967296 ^ (max a.m.length b.m.length) := lt_of_lt_of_le (abg _ (Wh.ws ha)) (Nat.pow_le_pow_right (by omega) (by omega))
 have hlb : val b.m < 4294967296 ^ (max a.m.length b.m.length) := lt_of_lt_of_le (abg _ (Wh.ws hb)) (Nat.pow_le_pow_right (by omega) (by omega))
 have h3 : (ofNat (val a.m + val b.m)).length <= max a.m.length b.m.length + 1 := aag (by rw [Nat.pow_succ]; omega)
 have h4 : (ofNat (val a.m - val b.m)).length <= max a.m.length b.m.length := aag (by omega)
 have h5 : (ofNat (val b.m - val a.m)).length <= max a.m.length b.m.length := aag (by omega)
 refine gF0 func134 ?_
 refine gc (ac3 a ha) ?_
 refine gc (ac3 b hb) ?_
 refine gD ?_
 refine gc (aca a ha) ?_
 refine gc (aca b hb) ?_
 refine gD ?_
 refine gC (fun ht15 => ?_) (fun ht15 => ?_)
 ·have h0 : a.n = b.n := by simpa using ht15
  refine gc (aca a ha) ?_
  refine gc (ale a.m b.m (Wh.ws ha) (Wh.ws hb) (by omega) (by omega)) ?_
  refine gc (ab9 _ _ (aa1 _) (by omega)) ?_
  refine gE1 ?_
  rw [aah,awr h0]; rfl
 ·have h0 : a.n ≠ b.n := by simpa using ht15
  refine gc (agq a.m b.m (Wh.ws ha) (Wh.ws hb)) ?_
  refine gC (fun ht25 => ?_) (fun ht25 => ?_)
  ·have h6 : val b.m <= val a.m := by
    rcases lt_or_ge (val a.m) (val b.m) with h | h
    ·rw [if_pos h] at ht25; cases ht25
    ·exact h
   refine gc (aca a ha) ?_
   refine gc (ajf a.m b.m (Wh.ws ha) (Wh.ws hb) (by omega) (by omega)) ?_
   refine gc (ab9 _ _ (aa1 _) (by omega)) ?_
   refine gE1 ?_
   rw [aah,aqk h0 h6]; rfl
  ·have h6 : val a.m < val b.m := by
    rcases lt_or_ge (val a.m) (val b.m) with h | h
    ·exact h
    ·rw [if_neg (by omega)] at ht25; split at ht25 <;> cases ht25
   refine gc (aca b hb) ?_
   refine gc (ajf b.m a.m (Wh.ws hb) (Wh.ws ha) (by omega) (by omega)) ?_
   refine gc (ab9 _ _ (aa1 _) (by omega)) ?_
   refine gE1 ?_
   rw [aah,at5 h0 (by omega)]; rfl
theorem awl (n : Int) (h : -9223372036854775808 <= n /\ n <= 9223372036854775807) : FnC prog 221 [i64 n] (zA n) := by
 obtain ⟨N,hN⟩ : ∃ N,N = n.natAbs := ⟨_,rfl⟩
 have hNB : N < 18446744073709551616:=by omega
 refine gF0 func221 ?_
 refine gv (show IntKind.u64.wrap n = ((n % 18446744073709551616 : Int)) by simp only [IntKind.wrap,IntKind.signed,IntKind.bits,Bool.false_and,if_false,Bool.false_eq_true]; omega) ?_
 refine gC (fun ht7 => ?_) (fun ht7 => ?_) (st2 := (77777,0))
 ·have hn : n < 0 := by simpa [aaa] using ht7
  refine gs (a7p (.tmp rfl) rfl) ?_ (4,0)
  refine gW (Wk.of (sl := [(0,some (i64 n)),(2,some (.ptr 2 0)),(3,some (u64 N))]) (hp := [(2,some (.box [.v (.bool false),.v (.slice none 0 0)]))]) (.k (.k (.cons rfl (Sub.int (by simp only [IntKind.wrap,IntKind.signed,IntKind.bits,Bool.false_and,if_false,Bool.false_eq_true]; omega)) .nil))) (.cons rfl (.refl _) .nil)) ?_
  refine gv (aa6 _) ?_
  refine gs (ac4 (.tmp rfl) (.const _) (by omega) (ac5 _ 32 (by omega)) rfl) ?_
  refine gv ((aa6 _).trans (by rw [Nat.mod_eq_of_lt (show N / 2 ^ 32 < 4294967296 by omega)])) ?_
  refine gc (ab9 (aaa .lss n 0) [N % 4294967296,N / 2 ^ 32] (a5u hNB) (by unfold big; simp)) ?_
  refine gE1 ?_
  rw [awi hNB,show sgn (aaa .lss n 0) N = n by simp only [sgn,aaa,decide_eq_true_eq]; split <;> omega]; rfl
 ·have hn : ¬ n < 0 := by simpa [aaa] using ht7
  refine gW (Wk.of (sl := [(0,some (i64 n)),(2,some (.ptr 2 0)),(3,some (u64 N))]) (hp := [(2,some (.box [.v (.bool false),.v (.slice none 0 0)]))]) (.k (.k (.cons rfl (Sub.int (by omega)) .nil))) (.cons rfl (.refl _) .nil)) ?_
  refine gv (aa6 _) ?_
  refine gs (ac4 (.tmp rfl) (.const _) (by omega) (ac5 _ 32 (by omega)) rfl) ?_
  refine gv ((aa6 _).trans (by rw [Nat.mod_eq_of_lt (show N / 2 ^ 32 < 4294967296 by omega)])) ?_
  refine gc (ab9 (aaa .lss n 0) [N % 4294967296,N / 2 ^ 32] (a5u hNB) (by unfold big; simp)) ?_
  refine gE1 ?_
  rw [awi hNB,show sgn (aaa .lss n 0) N = n by simp only [sgn,aaa,decide_eq_true_eq]; split <;> omega]; rfl
theorem a2p (a b : Wh) (ha : a.ok) (hb : b.ok) (la : a.mag.length < big) (lb : b.mag.length < big) : FnC prog 382 [a.av, b.av] (zA (a.z - b.z)) := by
 have h1 := (Wh.lz hb).neg
 have h2 := arx h1
 refine gF0 func382 ?_
 refine gc (atw b hb lb) ?_
 refine gc (at0 a (ofInt (-b.z)) ha (ax5 h1 hb.2) la (by omega)) ?_
 refine gD ?_
 refine gE1 ?_
 rw [abp,<- Int.sub_eq_add_neg]; rfl
theorem az8 (a b : Wh) (ha : a.ok) (hb : b.ok) (la : a.mag.length < big) (lb : b.mag.length < big) : FnC prog 315 [a.av, b.av] (i64 (asm a.z b.z)) := by
 have h1 := (Wh.lz ha).sub (Wh.lz hb)
 have h2 := arx h1
 refine gF0 func315 ?_
 refine gc (a2p a b ha hb la lb) ?_
 refine gc (akv (ofInt (a.z - b.z)) (ax5 h1 (by unfold ack; unfold big at la lb; omega))) ?_
 refine gE1 ?_
 rw [abp,a7g]
end Go.Lw
namespace Go.Lw
theorem ah6 {A : List Nat} {n : Nat} : AV.lst 1 (((A.map u32).drop 0).take n) = ws (A.take n) := by
 rw [drop_zero,<- map_take]; rfl
theorem a87 (A : List Nat) : (Blk.row 1 (A.map u32)).sc = true := by
 simp only [Blk.sc,List.all_map]
 rw [all_eq_true]
 intro x _
 rfl
theorem ael {A : List Nat} {n i : Nat} (h : i < n) : aab (A.take n) i = aab A i := by
 simp [aab,h]
theorem aj4 {A : List Nat} {n i : Nat} (h : n <= i) : aab (A.take n) i = 0 := ah8 (by simp; omega)
theorem a19 {x : Nat} (h : 0 < x) : acq x = acq (x / 2) + 1 := by
 rcases lt_or_ge x 2 with h1 | h1
 ·have : x = 1 := by omega
  subst this; decide
 ·have := aj6 (x := x) (k := 1) (by omega)
  rw [show x / 2 ^ 1 = x / 2 from rfl] at this
  omega
theorem a5p {a : List Nat} {n : Nat} (ha : Ws a) (na : Nz a) (hl : a.length = n + 1) : acq (val a) = 32 * n + acq (aab a n) := by
 have ht : aab a n ≠ 0 := by
  refine na _ ?_
  rw [List.getLast?_eq_getElem?,hl]
  exact adb (by omega)
 have hv : val a = val (a.take n) + 4294967296 ^ n * aab a n:=by rw [<- aad,aap (by omega)]
 have hlt := adu ha n
 have hp : (4294967296 : Nat) ^ n = 2 ^ (32 * n):=by rw [Nat.pow_mul]
 rw [hp] at hv hlt
 have h1 : val a / 2 ^ (32 * n) = aab a n := by
  rw [hv,Nat.add_mul_div_left _ _ (Nat.pow_pos (by omega)),Nat.div_eq_of_lt hlt,Nat.zero_add]
 have h2 : 2 ^ (32 * n) <= val a := by
  have := mul_le_mul_left (2 ^ (32 * n)) (show 1 <= aab a n by omega)
  omega
 rw [aj6 h2,h1]
theorem wr0 {o A : List Nat} {n v : Nat} (ho : Ws o) (hl : o.length = A.length) (hn : n <= A.length) (hd : o.drop n = A.drop n) (hv : val (o.take n) = v) : o = wr A 0 (ac8 n v) := by
 have h1 : win o 0 n = ac8 n v := aqz (alw ho _ _) (ajk (by omega)) (by rw [win,drop_zero,hv])
 rw [<- h1]
 exact bbl (by simp) (by rw [Nat.zero_add]; exact hd) (by omega)
end Go.Lw
namespace Go.Lw
open Go.Proofs
theorem anh (k : Nat) (A : List Nat) (n i : Nat) (hA : Ws A) (hn : n <= A.length) :
  Con prog 334 [.ms k 1 0 n,i64 i] [(k,some (.row 1 (A.map u32)))] (u64 (aab (A.take n) i)) [(k,some (.row 1 (A.map u32)))] := by
 refine Con.borrow (args := [ws (A.take n),i64 i]) k 1 (A.map u32) rfl rfl rfl ?_ rfl (fun k' x h => by cases h) (aet (A.take n) i (acy hA n))
 intro j x' hj
 match j,hj with
 | 0,hj => cases hj; exact .inr ⟨0,n,rfl,by simpa using hn,by rw [ah6]; rfl⟩
 | 1,hj => cases hj; exact .inl rfl
theorem ao7 (k1 k2 : Nat) (hk : k1 ≠ k2) (A D : List Nat) (n p : Nat) (hA : Ws A) (hD : Ws D) (hn : n <= A.length) (hp : p <= D.length) :
  Con prog 243 [.ms k1 1 0 n, .ms k2 1 0 p] [(k1, some (.row 1 (A.map u32))), (k2, some (.row 1 (D.map u32)))]
   (i64 (if val (A.take n) < val (D.take p) then -1 else if val (D.take p) < val (A.take n) then 1 else 0)) [(k1,some (.row 1 (A.map u32))),(k2,some (.row 1 (D.map u32)))] := by
 have h1 : Con prog 243 [ws (A.take n), .ms k2 1 0 p] [(k2, some (.row 1 (D.map u32)))]
   (i64 (if val (A.take n) < val (D.take p) then -1 else if val (D.take p) < val (A.take n) then 1 else 0)) [(k2,some (.row 1 (D.map u32)))] := by
  refine Con.borrow (args := [ws (A.take n),ws (D.take p)]) k2 1 (D.map u32) rfl rfl rfl ?_ rfl (fun k' x h => by cases h) (agq (A.take n) (D.take p) (acy hA n) (acy hD p))
  intro j x' hj
  match j,hj with
  | 0,hj => cases hj; exact .inl rfl
  | 1,hj => cases hj; exact .inr ⟨0,p,rfl,by simpa using hp,by rw [ah6]; rfl⟩
 refine Con.borrow (args := [ws (A.take n),.ms k2 1 0 p]) k1 1 (A.map u32) ?_ ?_ rfl ?_ rfl ?_ h1
 ·rw [aac,if_neg hk]; rfl
 ·rw [aac,if_neg hk]; rfl
 ·intro j x' hj
  match j,hj with
  | 0,hj => cases hj; exact .inr ⟨0,n,rfl,by simpa using hn,by rw [ah6]; rfl⟩
  | 1,hj => cases hj; exact .inl rfl
 ·intro k' x h
  obtain ⟨_,h⟩ := ah1 h
  cases h; exact a87 D
theorem aoz (k : Nat) (A b : List Nat) (n : Nat) (hA : Ws A) (hb : Ws b) (hn : n <= A.length) :
  Con prog 243 [.ms k 1 0 n, ws b] [(k, some (.row 1 (A.map u32)))]
   (i64 (if val (A.take n) < val b then -1 else if val b < val (A.take n) then 1 else 0)) [(k,some (.row 1 (A.map u32)))] := by
 refine Con.borrow (args := [ws (A.take n),ws b]) k 1 (A.map u32) rfl rfl rfl ?_ rfl (fun k' x h => by cases h) (agq (A.take n) b (acy hA n) hb)
 intro j x' hj
 match j,hj with
 | 0,hj => cases hj; exact .inr ⟨0,n,rfl,by simpa using hn,by rw [ah6]; rfl⟩
 | 1,hj => cases hj; exact .inl rfl
theorem aze (a : List Nat) (ha : Ws a) (na : Nz a) (la : a.length <= big) : FnC prog 396 [ws a] (i64 (acq (val a))) := by
 unfold big at la
 refine gF0 func396 ?_
 refine gl ?_
 refine gC (fun ht7 => ?_) (fun ht7 => ?_)
 ·have h0 : a = [] := List.length_eq_zero_iff.1 (by simpa [aaa] using ht7)
  refine gE1 ?_
  subst h0; rfl
 ·have h0 : a.length ≠ 0 := by simpa [aaa] using ht7
  obtain ⟨n,hn⟩ : ∃ n,a.length = n + 1 := ⟨a.length - 1,by omega⟩
  have hB := a5p ha na hn
  have ht := aak ha n
  refine gl ?_
  refine ga (show _ = (n : Int) by rw [abd (by omega)]; omega) ?_
  refine ga (show _ = ((32 * n : Nat) : Int) by rw [awc (by omega)]; omega) ?_
  refine gl ?_
  refine ga (show _ = (n : Int) by rw [abd (by omega)]; omega) ?_
  refine gi (atg (n := n) (by omega) (by first | omega | (simp; omega))) ?_
  refine gL2 [] [] (fun (x c : Nat) => [(3,some (i64 c)),(4,some (u32 x))]) (fun _ _ => []) (fun x c => x < 4294967296 /\ c <= 281474976710656 /\ c + acq x = acq (val a)) (fun x _ => x) (aab a n) (32 * n) ⟨ht,by omega,hB.symm⟩ ?_
  rintro x c ⟨hx,hc,hv⟩ K1 hK1
  refine gC (fun ht19 => ?_) (fun ht19 => ?_)
  ·have hx0 : 0 < x := by simpa [aaa] using ht19
   have h2 := a19 hx0
   have h3 : acq (val a) <= 32 * n + 32 := by
    have := (avj (x := aab a n)  (by
     refine na _ ?_
     rw [List.getLast?_eq_getElem?,hn]
     exact adb (by omega)) ht).1
    omega
   refine ga (show _ = ((c + 1 : Nat) : Int) by rw [aa2 (by omega)]; omega) ?_
   refine gs (ac4 (.tmp rfl) (.const _) (by omega) (akp x 1 (by omega)) rfl) ?_
   exact gK2 hK1 (x / 2 ^ 1) (c + 1) ⟨by omega,by omega,by rw [show x / 2 ^ 1 = x / 2 from rfl]; omega⟩
  ·have hx0 : x = 0 := by have : x <= 0 := (by simpa [aaa] using ht19); omega
   subst hx0
   refine gE1 ?_
   rw [<- hv]; rfl
theorem amp (A : List Nat) (n : Nat) (hA : Ws A) (hn : n <= A.length) (la : A.length <= big) :
  Con prog 395 [.ms 1000 1 0 n] [(1000,some (.row 1 (A.map u32)))] (.ms 1000 1 0 (ofNat (val (A.take n))).length) [(1000,some (.row 1 (A.map u32)))] := by
 unfold big at la
 refine gF func395 (fun k z h => alt h) ?_
 refine gL1 [] [1000] (fun (j : Nat) => [(0,some (.ms 1000 1 0 j))]) (fun _ => []) (fun j => j <= n /\ val (A.take j) = val (A.take n)) (fun j => j) n ⟨le_refl _,rfl⟩ ?_
 rintro j ⟨hj,hv⟩ K1 hK1
 refine gaG (fun h => (ae6 (by simp [aaa] at h; omega) (by unfold ack; omega))) ?_
 refine gs (aco rfl rfl rfl (fun h => aaq (n := j - 1) (.opt rfl (o1 h)) (.opt rfl (o1 h)) T80 rfl T271 rfl (by omega) (by simp [aaa] at h; omega) rfl)) ?_
 refine gs (aco rfl rfl rfl (fun h => aay (.opt rfl (o1 h)) rfl (af3 (i := j - 1) (by simp [aaa] at h; omega)) T271 rfl rfl rfl)) ?_
 refine gC (fun ht14 => ?_) (fun ht14 => ?_)
 ·have ht14 : 0 < j /\ aab A (j - 1) = 0 := by simpa [aaa] using ht14
  refine ga (ae6 (by omega) (by unfold ack; omega)) ?_
  refine gs (ah3 (.tmp rfl) (.none _) (.some _ (.tmp rfl) (by omega)) T80 rfl T271 rfl (by omega) (by omega) rfl) ?_
  exact gK1 hK1 (j - 1) ⟨by omega,by have h := @aad A (j - 1); rw [show j - 1 + 1 = j by omega,ht14.2] at h; simp at h; omega⟩ (hw := Wk.of (.cons rfl (Sub.of (by congr 1)) .nil) (.cons rfl (.refl _) .nil))
 ·have ht14 : 0 < j -> aab A (j - 1) ≠ 0 := by simpa [aaa] using ht14
  have hn1 := a0o (m := A.take n) (n := j) (acy hA n) (by simp; omega) (by rw [List.take_take, Nat.min_eq_left hj]; exact hv) (by
   rcases Nat.eq_zero_or_pos j with h | h
   ·exact .inl h
   ·exact .inr (by rw [ael (by omega)]; exact ht14 h))
  subst hn1
  refine gR ?_
  exact Fin.own2 rfl rfl rfl
theorem agy (A : List Nat) (n : Nat) (hA : Ws A) (hn : n <= A.length) (la : A.length <= big) :
  Con prog 393 [.ms 1000 1 0 n] [(1000,some (.row 1 (A.map u32)))] (.ms 1000 1 0 (ofNat (val (A.take n) / 2)).length) [(1000,some (.row 1 ((wr A 0 (ac8 n (val (A.take n) / 2))).map u32)))] := by
 have la' := la
 unfold big at la
 refine gF func393 (fun k z h => alt h) ?_
 refine gL2 [5] [] (fun (o : List Nat) (i : Nat) => [(0,some (.ms 1000 1 0 n)),(6,some (i64 i))]) (fun o _ => [(1000,some (.row 1 (o.map u32)))]) (fun o i => o.length = A.length /\ i <= n /\ Ws o /\ o.drop i = A.drop i /\ val (o.take i) = val (A.take n) / 2 ^ 1 % 4294967296 ^ i) (fun _ i => n - i) A 0 ⟨rfl,by omega,hA,rfl,by simp [val,Nat.mod_one]⟩ ?_
 rintro o i ⟨ho,hi,hw,hd,hv⟩ K1 hK1
 refine gC (fun ht7 => ?_) (fun ht7 => ?_)
 ·have hin : i < n := by simpa [aaa] using ht7
  have e1 : aab (o.take n) i = aab (A.take n) i:=by rw [ael hin,ael hin]; exact ady hd
  have hd2 : o.drop (i + 1) = A.drop (i + 1) := by
   have h1 : (o.drop i).drop 1 = (A.drop i).drop 1:=by rw [hd]
   rwa [drop_drop,drop_drop] at h1
  have e2 : aab (o.take n) (i + 1) = aab (A.take n) (i + 1) := by
   rcases lt_or_ge (i + 1) n with h | h
   ·rw [ael h,ael h]; exact ady hd2
   ·rw [aj4 h,aj4 h]
  have b1 := aak (acy hA n) i
  have b2 := aak (acy hA n) (i + 1)
  have h3 := atu (n := 1) (acy hA n) (show i < (A.take n).length by simp; omega) (show i < o.length by omega) (by omega) hv
  refine gt (aa9 (anh 1000 o n i hw (by omega)) (.cons (.tmp rfl) (.cons (.tmp rfl) .nil)) (by first | exact hH0 | exact hH1 rfl | exact hH2 rfl rfl) rfl rfl) ?_
  refine gs (ac4 (.tmp rfl) (.const _) (by omega) ((ac5 _ 1 (by omega)).trans (by rw [e1])) rfl) ?_
  refine ga (adf (y := 1) (by unfold ack; omega) (by unfold ack; omega)) ?_
  refine gt (aa9 (anh 1000 o n (i + 1) hw (by omega)) (.cons (.tmp rfl) (.cons (.tmp rfl) .nil)) (by first | exact hH0 | exact hH1 rfl | exact hH2 rfl rfl) rfl rfl) ?_
  refine gs (aga (.tmp rfl) (.const _) (by omega) ((ald (n := 31) (by omega) (by omega)).trans (by rw [e2])) rfl) ?_
  refine gs (aep (.tmp rfl) (.tmp rfl) rfl ((af5 (by omega) (by omega)).trans (by rw [avg (by omega)])) rfl) ?_
  refine gv ((aa6 _).trans (show _ = (((aab (A.take n) i + aab (A.take n) (i + 1) * 2 ^ 32) / 2 ^ 1 % 4294967296 : Nat) : Int) by congr 1; omega)) ?_
  refine gs (aaq (n := i) (.tmp rfl) (.tmp rfl) T80 rfl T271 rfl (by omega) (by first | omega | (simp; omega)) rfl) ?_
  refine gs (abk (.tmp rfl) rfl (af3 (i := i) (by omega)) rfl (.tmp rfl) rfl rfl T271 rfl rfl) ?_
  refine ga (aa2 (by omega)) ?_
  exact gK2 hK1 (o.set i ((aab (A.take n) i + aab (A.take n) (i + 1) * 2 ^ 32) / 2 ^ 1 % 4294967296)) (i + 1) ⟨by simp [ho],by omega,aed hw (by omega),ad7 hd,h3⟩ (hw := Wk.of abq (.cons rfl (BlkSub.of (by rw [map_set]; rfl)) .nil))
 ·have hin : i = n := by have : n <= i := (by simpa [aaa] using ht7); omega
  subst hin
  have hlt := adu hA i
  have hv' : val (o.take i) = val (A.take i) / 2:=by rw [hv,Nat.mod_eq_of_lt (by omega)]
  have h9 := wr0 hw ho hn hd hv'
  refine gt (aa9 (amp o i hw (by omega) (by omega)) (.cons (.tmp rfl) .nil) (by first | exact hH0 | exact hH1 rfl | exact hH2 rfl rfl) rfl rfl) ?_
  refine gR ?_
  exact Fin.own2 rfl (by rw [<- h9]) (by rw [hv']; rfl)
theorem apw (A b : List Nat) (n : Nat) (hA : Ws A) (hb : Ws b) (hn : n <= A.length) (la : A.length <= big) (hle : val b <= val (A.take n)) :
  Con prog 394 [.ms 1000 1 0 n,ws b] [(1000,some (.row 1 (A.map u32)))] (.tup []) [(1000,some (.row 1 ((wr A 0 (ac8 n (val (A.take n) - val b))).map u32)))] := by
 unfold big at la
 refine gF func394 (fun k z h => alt h) ?_
 refine gL3 [1,8] [] (fun (o : List Nat) (c i : Nat) => [(0,some (.ms 1000 1 0 n)),(4,some (u64 c)),(9,some (i64 i))]) (fun o _ _ => [(1000,some (.row 1 (o.map u32)))]) (fun o c i => o.length = A.length /\ i <= n /\ Ws o /\ c <= 1 /\ o.drop i = A.drop i /\ val (o.take i) + val (b.take i) = val (A.take i) + c * 4294967296 ^ i) (fun _ _ i => n - i) A 0 0 ⟨rfl,by omega,hA,by omega,rfl,by simp [val]⟩ ?_
 rintro o c i ⟨ho,hi,hw,hc,hd,hv⟩ K1 hK1
 refine gC (fun ht10 => ?_) (fun ht10 => ?_)
 ·have hin : i < n := by simpa [aaa] using ht10
  have e1 : aab (o.take n) i = aab A i:=by rw [ael hin]; exact ady hd
  have h1 := aak hA i
  have h2 := aak hb i
  obtain ⟨s,hs⟩ : ∃ s,s = 4294967296 + aab A i - aab b i - c := ⟨_,rfl⟩
  have h3 := apn h1 h2 hc hv
  rw [<- hs] at h3
  refine gt (aa9 (anh 1000 o n i hw (by omega)) (.cons (.tmp rfl) (.cons (.tmp rfl) .nil)) (by first | exact hH0 | exact hH1 rfl | exact hH2 rfl rfl) rfl rfl) ?_
  refine ga ((ad3 (x := 4294967296) (by omega)).trans (by rw [e1])) ?_
  refine gc (aet b i hb) ?_
  refine ga ((afl (by omega) (by omega)).trans (by rw [if_pos (by omega)])) ?_
  refine ga ((afl (by omega) (by omega)).trans (show _ = (s : Int) by rw [if_pos (by omega)]; congr 1; omega)) ?_
  refine gv (aa6 _) ?_
  refine gs (ac4 (.tmp rfl) (.const _) (by omega) (ac5 _ 32 (by omega)) rfl) ?_
  refine ga ((afl (x := 1) (by omega) (by omega)).trans (by rw [if_pos (by omega)])) ?_
  refine gs (aaq (n := i) (.tmp rfl) (.tmp rfl) T80 rfl T271 rfl (by omega) (by first | omega | (simp; omega)) rfl) ?_
  refine gs (abk (.tmp rfl) rfl (af3 (i := i) (by omega)) rfl (.tmp rfl) rfl rfl T271 rfl rfl) ?_
  refine ga (aa2 (by omega)) ?_
  exact gK3 hK1 (o.set i (s % 4294967296)) (1 - s / 2 ^ 32) (i + 1) ⟨by simp [ho],by omega,aed hw (by omega),by omega,ad7 hd,by rw [ab1 (by omega),aad,aad,Nat.pow_succ]; exact h3⟩ (hw := Wk.of abq (.cons rfl (BlkSub.of (by rw [map_set]; rfl)) .nil))
 ·have hin : i = n := by have : n <= i := (by simpa [aaa] using ht10); omega
  subst hin
  have hl : (A.take i).length = i:=by simp; omega
  have h4 := asu (a := A.take i) (b := b) (out := o.take i) (acy hA i) (acy hw i) (by simp; omega) hle (by rw [hl,take_of_length_le (show (A.take i).length <= i by omega)]; exact hv)
  have h9 := wr0 hw ho hn hd h4
  refine gR ?_
  exact Fin.own2 rfl (by rw [<- h9]) rfl
end Go.Lw
namespace Go.Lw
theorem atl {x : Nat} (h : x <= 9223372036854775807) : IntKind.i64.wrap ((x : Int).tdiv 32) = ((x / 32 : Nat) : Int) := by
 rw [show (32 : Int) = ((32 : Nat) : Int) from rfl,<- Int.ofNat_tdiv]
 exact i64_in (by omega)
theorem be9 {x : Nat} : (x : Int).tmod 32 = ((x % 32 : Nat) : Int) := (Int.ofNat_tmod _ _).symm
theorem a47 (i : Nat) : (4294967296 : Nat) ^ i = 2 ^ (32 * i):=by rw [Nat.pow_mul]
theorem bfs {a : List Nat} (ha : Ws a) {k : Nat} (hk : k / 32 < a.length) : aab a (k / 32) / 2 ^ (k % 32) % 2 = val a / 2 ^ k % 2 := by
 have h1 : val a / 2 ^ k = (val a / 4294967296 ^ (k / 32)) / 2 ^ (k % 32) := by
  rw [a47,Nat.div_div_eq_div_mul,<- pow_add]; congr 2; omega
 rw [h1,aqi ha _ (by omega),aho]
 generalize val (a.drop (k / 32 + 1)) = R
 have h2 : 4294967296 * R = 2 ^ (k % 32) * (2 * (2 ^ (31 - k % 32) * R)) := by
  have : (4294967296 : Nat) = 2 ^ (k % 32) * (2 * 2 ^ (31 - k % 32)) := by
   rw [<- Nat.pow_succ',<- pow_add,show k % 32 + (31 - k % 32).succ = 32 by omega]
  conv => lhs; rw [this]
  grind
 rw [h2,Nat.add_mul_div_left _ _ (Nat.pow_pos (by omega)),Nat.add_mul_mod_self_left]
theorem bf2 {w c : Nat} (hc : c <= 1) : w * 2 ^ 1 % 4294967296 ||| c = w * 2 ^ 1 % 4294967296 + c := by
 have h : w * 2 ^ 1 % 4294967296 = (w % 2147483648) * 2 ^ 1:=by omega
 rw [h]; exact ast (by omega)
theorem a60 {o c P rt w bit : Nat} (hw : w < 4294967296) (h : o + c * P = 2 * rt + bit) :
  (o + P * (w * 2 ^ 1 % 4294967296 + c)) + (w / 2 ^ 31) * (P * 4294967296) = 2 * (rt + P * w) + bit := by
 have h0 : w * 2 ^ 1 % 4294967296 + (w / 2 ^ 31) * 4294967296 = 2 * w:=by omega
 generalize w * 2 ^ 1 % 4294967296 = r at *
 generalize w / 2 ^ 31 = q at *
 grind
theorem a7j {q : List Nat} (hq : Ws q) {k Y : Nat} (hk : k / 32 < q.length) (h : val q = 2 ^ (k + 1) * Y) :
  aab q (k / 32) ||| 2 ^ (k % 32) = aab q (k / 32) + 2 ^ (k % 32) /\ aab q (k / 32) + 2 ^ (k % 32) < 4294967296 := by
 have h1 := aqi hq (k / 32) (by omega)
 rw [aho,h,a47,show k + 1 = 32 * (k / 32) + (k % 32 + 1) by omega,pow_add,Nat.mul_assoc,Nat.mul_div_cancel_left _ (Nat.pow_pos (by omega))] at h1
 have hw := aak hq (k / 32)
 generalize aab q (k / 32) = w at *
 generalize val (q.drop (k / 32 + 1)) = R at *
 have hB : (4294967296 : Nat) = 2 ^ (k % 32 + 1) * 2 ^ (31 - k % 32) := by
  rw [<- pow_add,show k % 32 + 1 + (31 - k % 32) = 32 by omega]
 have h2 : w % 2 ^ (k % 32 + 1) = 0 := by
  have h3 : (w + 4294967296 * R) % 2 ^ (k % 32 + 1) = 0:=by rw [<- h1]; exact Nat.mul_mod_right _ _
  rw [hB,Nat.mul_assoc,Nat.add_mul_mod_self_left] at h3
  exact h3
 have h4 : w = 2 ^ (k % 32 + 1) * (w / 2 ^ (k % 32 + 1)) := by
  have := Nat.div_add_mod w (2 ^ (k % 32 + 1)); omega
 have h5 : 2 ^ (k % 32) < 2 ^ (k % 32 + 1):=by rw [Nat.pow_succ]; have := Nat.pow_pos (n := k % 32) (show 0 < 2 by omega); omega
 constructor
 ·rw [h4]; exact (Nat.two_pow_add_eq_or_of_lt h5 _).symm
 ·have h6 : w / 2 ^ (k % 32 + 1) < 2 ^ (31 - k % 32) := by
   rw [Nat.div_lt_iff_lt_mul (Nat.pow_pos (by omega)),Nat.mul_comm,<- hB]; exact hw
  have h7 := mul_le_mul_left (2 ^ (k % 32 + 1)) (show w / 2 ^ (k % 32 + 1) + 1 <= 2 ^ (31 - k % 32) from h6)
  rw [<- hB,Nat.mul_add,<- h4] at h7
  omega
theorem a94 {q : List Nat} (hq : Ws q) {k Y : Nat} (hk : k / 32 < q.length) (h : val q = 2 ^ (k + 1) * Y) :
  val (q.set (k / 32) (aab q (k / 32) + 2 ^ (k % 32))) = 2 ^ k * (2 * Y + 1) := by
 have h1 := aup (x := aab q (k / 32) + 2 ^ (k % 32)) hk
 rw [Nat.mul_add] at h1
 have h2 : 4294967296 ^ (k / 32) * 2 ^ (k % 32) = 2 ^ k:=by rw [a47,<- pow_add]; congr 1; omega
 rw [h2,h,Nat.pow_succ] at h1
 grind
theorem bck {V Bv k : Nat} (hB : 0 < Bv) :
  (Bv <= 2 * (V / 2 ^ (k + 1) % Bv) + V / 2 ^ k % 2 -> V / 2 ^ k % Bv = 2 * (V / 2 ^ (k + 1) % Bv) + V / 2 ^ k % 2 - Bv /\ V / 2 ^ k / Bv = 2 * (V / 2 ^ (k + 1) / Bv) + 1) /\
  (2 * (V / 2 ^ (k + 1) % Bv) + V / 2 ^ k % 2 < Bv -> V / 2 ^ k % Bv = 2 * (V / 2 ^ (k + 1) % Bv) + V / 2 ^ k % 2 /\ V / 2 ^ k / Bv = 2 * (V / 2 ^ (k + 1) / Bv)) := by
 have h1 : V / 2 ^ (k + 1) = V / 2 ^ k / 2:=by rw [Nat.pow_succ,Nat.div_div_eq_div_mul]
 rw [h1]
 generalize V / 2 ^ k = X
 have h2 := Nat.div_add_mod X 2
 have h3 := Nat.div_add_mod (X / 2) Bv
 have h4 := Nat.mod_lt (X / 2) hB
 have h5 := Nat.mod_lt X (show 0 < 2 by omega)
 generalize X / 2 % Bv = r at *
 generalize X / 2 / Bv = q at *
 generalize X % 2 = b at *
 generalize X / 2 = Y at *
 constructor
 ·intro h
  have := aic (a := X) (w := Bv) (q := 2 * q + 1) (r := 2 * r + b - Bv) (by rw [Nat.mul_add,Nat.mul_one,show Bv * (2 * q) = 2 * (Bv * q) by grind]; omega) (by omega)
  exact ⟨this.2,this.1⟩
 ·intro h
  have := aic (a := X) (w := Bv) (q := 2 * q) (r := 2 * r + b) (by rw [show Bv * (2 * q) = 2 * (Bv * q) by grind]; omega) (by omega)
  exact ⟨this.2,this.1⟩
theorem bf1 {A l : List Nat} (h : l.length = A.length) : wr A 0 l = l := by
 unfold wr
 rw [drop_eq_nil_of_le (by omega)]; simp
theorem axx {V : Nat} : V / 2 ^ acq V = 0 := Nat.div_eq_of_lt aqh
theorem a85 {a : List Nat} (ha : Ws a) {k : Nat} (h : k < acq (val a)) : k / 32 < a.length := by
 rcases lt_or_ge (k / 32) a.length with h1 | h1
 ·exact h1
 ·exfalso
  have h2 := abg a ha
  rw [a47] at h2
  have h3 : val a ≠ 0:=by intro h0; rw [h0] at h; simp [acq] at h
  have h4 := aqq h3
  have h5 : 2 ^ (32 * a.length) <= 2 ^ (acq (val a) - 1) := aeg (by omega)
  omega
end Go.Lw
namespace Go.Lw
open Go.Proofs
theorem ass (a b : List Nat) (ha : Ws a) (hb : Ws b) (na : Nz a) (hb0 : val b ≠ 0) (la : a.length < big) (lb : b.length < big) :
  FnC prog 331 [ws a,ws b] (.tup [ws (ofNat (val a / val b)),ws (ofNat (val a % val b))]) := by
 have la' := la
 have lb' := lb
 unfold big at la lb
 obtain ⟨V,hV⟩ : ∃ V,V = val a := ⟨_,rfl⟩
 obtain ⟨Bv,hBv⟩ : ∃ Bv,Bv = val b := ⟨_,rfl⟩
 have hBp : 0 < Bv:=by omega
 have hBl : 2 * Bv <= 4294967296 ^ (b.length + 1):=by have := abg b hb; rw [Nat.pow_succ]; omega
 have hbl : acq V <= 32 * a.length := by
  rcases Nat.eq_zero_or_pos (acq V) with h | h
  ·omega
  ·have := a85 ha (k := acq V - 1) (by rw [<- hV]; omega)
   omega
 rw [<- hV,<- hBv]
 refine gF0 func331 ?_
 refine gl ?_
 refine gs (afh (.tmp rfl) T80 rfl T271 rfl rfl (by omega) (by dsimp only; omega) rfl) ?_
 refine gl ?_
 refine ga (adf (y := 1) (by unfold ack; omega) (by unfold ack; omega)) ?_
 refine gs (afh (.tmp rfl) T80 rfl T271 rfl rfl (by omega) (by dsimp only; omega) rfl) ?_
 refine gc (hV ▸ aze a ha na (by omega)) ?_
 refine ga (abd (by omega)) ?_
 refine gL3 [0,1] [] (fun (q r : List Nat) (i : Nat) => [(6,some (.ms 13 1 0 a.length)),(7,some (.ms 17 1 0 (b.length + 1))),(8,some (i64 ((i : Int) - 1)))]) (fun q r _ => [(13,some (.row 1 (q.map u32))),(17,some (.row 1 (r.map u32)))]) (fun q r i => q.length = a.length /\ r.length = b.length + 1 /\ Ws q /\ Ws r /\ i <= acq V /\ val r = V / 2 ^ i % Bv /\ val q = 2 ^ i * (V / 2 ^ i / Bv)) (fun _ _ i => i) (List.replicate a.length 0) (List.replicate (b.length + 1) 0) (acq V) ⟨by simp,by simp,ait _,ait _,le_refl _,by rw [akd,axx,Nat.zero_mod],by rw [akd,axx,Nat.zero_div,Nat.mul_zero]⟩ ?_ (h2 := (.cons rfl (BlkSub.of (by rw [map_replicate]; rfl)) (.cons rfl (BlkSub.of (by rw [map_replicate]; rfl)) .nil)))
 rintro q r i ⟨hql,hrl,wq,wr',hi,hr,hq⟩ K1 hK1
 refine gC (fun ht22 => ?_) (fun ht22 => ?_) (st2 := (15,0))
 ·have hi0 : 1 <= i := by have := ht22; simp [aaa] at this; omega
  obtain ⟨k,rfl⟩ : ∃ k,i = k + 1 := ⟨i - 1,by omega⟩
  rw [show ((k + 1 : Nat) : Int) - 1 = (k : Int) by omega]
  have hka := a85 ha (k := k) (by rw [<- hV]; omega)
  have hbit := bfs ha hka
  have hwB := aak ha (k / 32)
  rw [<- hV] at hbit
  obtain ⟨bit,hbt⟩ : ∃ bit,bit = V / 2 ^ k % 2 := ⟨_,rfl⟩
  have hb1 : bit <= 1:=by omega
  have hrlt := Nat.mod_lt (V / 2 ^ (k + 1)) hBp
  have hdw : aab a (k / 32) / 2 ^ (k % 32) <= aab a (k / 32) := Nat.div_le_self _ _
  refine gs (adl (.tmp rfl) (.const _) (by omega) (atl (by omega)) rfl) ?_
  refine gi (atg (n := k / 32) (by omega) (by first | omega | (simp; omega))) ?_
  refine gs (awd (.tmp rfl) (.const _) (by omega) be9 rfl) ?_
  refine gs (ac4 (.tmp rfl) (.tmp rfl) (by omega) (akp _ (k % 32) (by omega)) rfl) ?_
  refine gs (aep (.tmp rfl) (.const _) rfl ((aoh (y := 1) (by omega) (by omega)).trans (show _ = (bit : Int) by rw [Nat.and_one_is_mod,hbit,hbt])) rfl) ?_
  refine gL3 [0,1,8,35] [13] (fun (o : List Nat) (c j : Nat) => [(6,some (.ms 13 1 0 a.length)),(7,some (.ms 17 1 0 (b.length + 1))),(9,some (u32 c)),(36,some (i64 j))]) (fun o _ _ => [(17,some (.row 1 (o.map u32)))]) (fun o c j => o.length = b.length + 1 /\ Ws o /\ j <= b.length + 1 /\ c <= 1 /\ o.drop j = r.drop j /\ val (o.take j) + c * 4294967296 ^ j = 2 * val (r.take j) + bit) (fun _ _ j => b.length + 1 - j) r bit 0 ⟨hrl,wr',by omega,hb1,rfl,by simp [val]⟩ ?_
  rintro o c j ⟨hol,wo,hj,hc,hd,hv⟩ K2 hK2
  refine gC (fun ht37 => ?_) (fun ht37 => ?_)
  ·have hjn : j < b.length + 1 := by have := ht37; simp [aaa] at this; omega
   have e1 : aab o j = aab r j := ady hd
   have h1 := aak wr' j
   have h3 := a60 (w := aab r j) h1 hv
   refine gs (aaq (n := j) (.tmp rfl) (.tmp rfl) T80 rfl T271 rfl (by omega) (by first | omega | (simp; omega)) rfl) ?_
   refine gs (aay (.tmp rfl) rfl (by rw [af3 (show j < o.length by omega),e1]) T271 rfl rfl rfl) ?_
   refine gs (aga (.tmp rfl) (.const _) (by omega) (a48 (n := 1) (by omega)) rfl) ?_
   refine gs (aep (.tmp rfl) (.tmp rfl) rfl ((aku (by omega) (by omega)).trans (by rw [bf2 hc])) rfl) ?_
   refine gs (aaq (n := j) (.tmp rfl) (.tmp rfl) T80 rfl T271 rfl (by omega) (by first | omega | (simp; omega)) rfl) ?_
   refine gs (aay (.tmp rfl) rfl (by rw [af3 (show j < o.length by omega),e1]) T271 rfl rfl rfl) ?_
   refine gs (ac4 (.tmp rfl) (.const _) (by omega) (akp _ 31 (by omega)) rfl) ?_
   refine gs (aaq (n := j) (.tmp rfl) (.tmp rfl) T80 rfl T271 rfl (by omega) (by first | omega | (simp; omega)) rfl) ?_
   refine gs (abk (.tmp rfl) rfl (af3 (i := j) (by omega)) rfl (.tmp rfl) rfl rfl T271 rfl rfl) ?_
   refine gD ?_
   refine ga (aa2 (by omega)) ?_
   exact gK3 hK2 (o.set j (aab r j * 2 ^ 1 % 4294967296 + c)) (aab r j / 2 ^ 31) (j + 1) ⟨by simp [hol],aed wo (by omega),by omega,by omega,ad7 hd,by rw [ab1 (by omega),aad]; rw [show 4294967296 ^ (j + 1) = 4294967296 ^ j * 4294967296 from Nat.pow_succ _ _]; exact h3⟩ (hw := Wk.of abq (.cons rfl (BlkSub.of (by rw [map_set]; rfl)) (.cons rfl (.refl _) .nil)))
  ·have hjn : j = b.length + 1 := by have : b.length + 1 <= j := (by have := ht37; simp [aaa] at this; omega); omega
   subst hjn
   rw [aap (l := r) (by omega),aap (l := o) (by omega),hr] at hv
   have hc0 : c = 0 := by
    cases c with
    | zero => rfl
    | succ c => rw [Nat.succ_mul] at hv; omega
   subst hc0
   rw [Nat.zero_mul,Nat.add_zero] at hv
   have hot : o.take (b.length + 1) = o := take_of_length_le (by omega)
   obtain ⟨d1,d2⟩ := bck (V := V) (k := k) hBp
   rw [<- hbt] at d1 d2
   have hcmp := aoz 17 o b (b.length + 1) wo hb (by omega)
   rw [hot,<- hBv,hv] at hcmp
   have hqk : k / 32 < q.length:=by omega
   obtain ⟨w1,w2⟩ := a7j wq hqk hq
   have w3 := a94 wq hqk hq
   refine gt (aa9 hcmp (.cons (.tmp rfl) (.cons (.tmp rfl) .nil)) (by first | exact hH0 | exact hH1 rfl | exact hH2 rfl rfl) rfl rfl) ?_
   refine gC (fun ht58 => ?_) (fun ht58 => ?_)
   ·have hge : Bv <= 2 * (V / 2 ^ (k + 1) % Bv) + bit := by
     rcases lt_or_ge (2 * (V / 2 ^ (k + 1) % Bv) + bit) Bv with h | h
     ·rw [if_pos h] at ht58; cases ht58
     ·exact h
    obtain ⟨d3,d4⟩ := d1 hge
    have htk := apw o b (b.length + 1) wo hb (by omega) (by unfold big; omega) (by rw [hot,<- hBv,hv]; exact hge)
    rw [hot,<- hBv,hv,<- d3,bf1 (by rw [abt,hol])] at htk
    have hx2 : V / 2 ^ k % Bv < 4294967296 ^ (b.length + 1):=by have := Nat.mod_lt (V / 2 ^ k) hBp; omega
    refine gt (aa9 (Con.rekey 17 rfl rfl htk) (.cons (.tmp rfl) (.cons (.tmp rfl) .nil)) (by first | exact hH0 | exact hH1 rfl | exact hH2 rfl rfl) rfl rfl) ?_
    refine gs (adl (.tmp rfl) (.const _) (by omega) (atl (by omega)) rfl) ?_
    refine gs (aaq (n := k / 32) (.tmp rfl) (.tmp rfl) T80 rfl T271 rfl (by omega) (by omega) rfl) ?_
    refine gs (aay (.tmp rfl) rfl (af3 (i := k / 32) hqk) T271 rfl rfl rfl) ?_
    refine gs (awd (.tmp rfl) (.const _) (by omega) be9 rfl) ?_
    refine gs (aga (.const _) (.tmp rfl) (by omega) ((a48 (x := 1) (n := k % 32) (by omega)).trans (show _ = ((2 ^ (k % 32) : Nat) : Int) by rw [Nat.one_mul,Nat.mod_eq_of_lt (lt_of_le_of_lt (Nat.le_add_left _ _) w2)])) rfl) ?_
    refine gs (aep (.tmp rfl) (.tmp rfl) rfl ((aku (aak wq _) (lt_of_le_of_lt (Nat.le_add_left _ _) w2)).trans (by rw [w1])) rfl) ?_
    refine gs (aaq (n := k / 32) (.tmp rfl) (.tmp rfl) T80 rfl T271 rfl (by omega) (by omega) rfl) ?_
    refine gs (abk (.tmp rfl) rfl (af3 (i := k / 32) hqk) rfl (.tmp rfl) rfl rfl T271 rfl rfl) ?_
    refine gD ?_
    refine ga (abd (by omega)) ?_
    exact gK3 hK1 (q.set (k / 32) (aab q (k / 32) + 2 ^ (k % 32))) (ac8 (b.length + 1) (V / 2 ^ k % Bv)) k ⟨by simp [hql],abt _ _,aed wq w2,ae4 _ _,by omega,aev _ _ hx2,by rw [w3,d4]⟩ (hw := Wk.of abq (.cons rfl (BlkSub.of (by first | rfl | (rw [map_set]; rfl))) (.cons rfl (.refl _) .nil)))
   ·have hge : 2 * (V / 2 ^ (k + 1) % Bv) + bit < Bv := by
     rcases lt_or_ge (2 * (V / 2 ^ (k + 1) % Bv) + bit) Bv with h | h
     ·exact h
     ·rw [if_neg (by omega)] at ht58; split at ht58 <;> cases ht58
    obtain ⟨d3,d4⟩ := d2 hge
    refine ga (abd (by omega)) ?_
    exact gK3 hK1 q o k ⟨hql,hol,wq,wo,by omega,by rw [hv,d3],by rw [hq,d4,Nat.pow_succ,Nat.mul_assoc]⟩ (hw := Wk.of abq (.cons rfl (BlkSub.of (by first | rfl | (rw [map_set]; rfl))) (.cons rfl (.refl _) .nil)))
 ·have hi0 : i = 0 := by have := ht22; simp [aaa] at this; omega
  subst hi0
  refine gW ((Wk.freeze (k := 13) rfl).trans <| (Wk.freeze (k := 17) rfl).trans <| Wk.of (sl := [(6,some (ws q)),(7,some (ws r))]) (hp := []) (.cons rfl (Sub.of (by rw [show AV.fz 13 1 (q.map u32) (.ms 13 1 0 a.length) = ws q from abw (by simp [hql])]; rfl)) (.cons rfl (Sub.of (abw (by simp [hrl]))) .nil)) .nil) ?_
  refine gc (afb q wq (by omega)) ?_
  refine gc (afb r wr' (by unfold big; omega)) ?_
  refine gE2 ?_
  rw [hr,hq]; simp []
end Go.Lw
namespace Go.Lw
def GOk (L : Nat) (A : List Nat) (n : Nat) : Prop := Ws A /\ n <= A.length /\ A.length <= L /\ n = (ofNat (val (A.take n))).length
theorem azt (v : Nat) : ofNat v = ac8 (ofNat v).length v := by
 have h := am3 (ofNat v) (aa1 _)
 rwa [aah] at h
theorem aeo {L : Nat} {A : List Nat} {n v : Nat} (h : GOk L A n) (hv : v <= val (A.take n)) :
  GOk L (wr A 0 (ac8 n v)) (ofNat v).length /\ val ((wr A 0 (ac8 n v)).take (ofNat v).length) = v /\ val ((wr A 0 (ac8 n v)).take n) = v := by
 obtain ⟨hw,hn,hl,hN⟩ := h
 have hlt := adu hw n
 have hvl : v < 4294967296 ^ n:=by omega
 have hle : (ofNat v).length <= n := aag hvl
 have ht : (wr A 0 (ac8 n v)).take n = ac8 n v := by
  unfold wr
  rw [List.take_zero,nil_append,List.take_append_of_le_length (by rw [abt]; omega),take_of_length_le (by rw [abt]; omega)]
 have ht2 : (wr A 0 (ac8 n v)).take (ofNat v).length = ofNat v := by
  have h1 : ((wr A 0 (ac8 n v)).take n).take (ofNat v).length = (wr A 0 (ac8 n v)).take (ofNat v).length:=by rw [List.take_take,Nat.min_eq_left hle]
  rw [<- h1,ht,ak9 _ _ _ hle,<- azt]
 have hlen : (wr A 0 (ac8 n v)).length = A.length := akf (by rw [abt]; omega)
 refine ⟨⟨azq hw (ae4 _ _),by omega,by omega,by rw [ht2,aah]⟩,by rw [ht2,aah],by rw [ht,aev _ _ hvl]⟩
theorem adj {L : Nat} {A : List Nat} {n : Nat} (h : GOk L A n) (hx : 0 < val (A.take n)) : 0 < n /\ val (A.take n) % 2 = aab A 0 % 2 := by
 have hn : 0 < n := by
  rcases Nat.eq_zero_or_pos n with h0 | h0
  ·subst h0; simp [val] at hx
  ·exact h0
 refine ⟨hn,?_⟩
 have := aho (A.take n) 0
 rw [drop_zero,ael hn] at this
 omega
theorem a5g {L : Nat} {A : List Nat} {n : Nat} (h : GOk L A n) : A.take n = ofNat (val (A.take n)) := by
 obtain ⟨hw,hn,hl,hN⟩ := h
 have h1 := atd (acy hw n)
 rw [<- hN,List.take_take,Nat.min_self] at h1
 exact h1
theorem ax9 {L : Nat} {A : List Nat} {n : Nat} (h : GOk L A n) : n = 0 ↔ val (A.take n) = 0 := by
 constructor
 ·intro h0; subst h0; rfl
 ·intro h0
  have h1 := h.2.2.2
  rw [h0] at h1
  exact h1
theorem a0q {x y : Nat} (hx : x % 2 = 0) (hy : y % 2 = 0) : Nat.gcd x y = 2 * Nat.gcd (x / 2) (y / 2) := by
 rw [<- Nat.gcd_mul_left,Nat.mul_div_cancel' (Nat.dvd_of_mod_eq_zero hx),Nat.mul_div_cancel' (Nat.dvd_of_mod_eq_zero hy)]
theorem ary {x y : Nat} (hx : x % 2 = 0) (hy : y % 2 = 1) : Nat.gcd (x / 2) y = Nat.gcd x y := by
 have h1 : x = 2 * (x / 2):=by omega
 have h2 : Nat.Coprime 2 y := by
  rw [Nat.Coprime,Nat.gcd_rec,hy]; rfl
 conv => rhs; rw [h1]
 exact (Nat.Coprime.gcd_mul_left_cancel _ h2).symm
theorem a0f {x y : Nat} (h : y <= x) : Nat.gcd (x - y) y = Nat.gcd x y := Nat.gcd_sub_self_left h
theorem axf {t L g V : Nat} (hg : 0 < g) (h : 2 ^ t * g <= V) (hV : V < 4294967296 ^ L) : t < 32 * L := by
 rw [a47] at hV
 have h1 := mul_le_mul_left (2 ^ t) (show 1 <= g from hg)
 rcases lt_or_ge t (32 * L) with h2 | h2
 ·exact h2
 ·have := aeg h2; omega
end Go.Lw
namespace Go.Lw
open Go.Proofs
theorem an7 (A D : List Nat) (n p : Nat) (hA : Ws A) (hD : Ws D) (hn : n <= A.length) (hp : p <= D.length) (la : A.length <= big) (hle : val (D.take p) <= val (A.take n)) :
  Con prog 394 [.ms 901 1 0 n, .ms 902 1 0 p] [(902, some (.row 1 (D.map u32))), (901, some (.row 1 (A.map u32)))] (.tup [])
   [(902,some (.row 1 (D.map u32))),(901,some (.row 1 ((wr A 0 (ac8 n (val (A.take n) - val (D.take p)))).map u32)))] := by
 have h1 := Con.rekey 901 rfl rfl (apw A (D.take p) n hA (acy hD p) hn la hle)
 refine Con.borrow (args := [.ms 901 1 0 n,ws (D.take p)]) 902 1 (D.map u32) rfl rfl rfl ?_ rfl ?_ h1
 ·intro j x' hj
  match j,hj with
  | 0,hj => cases hj; exact .inl rfl
  | 1,hj => cases hj; exact .inr ⟨0,p,rfl,by simpa using hp,by rw [ah6]; rfl⟩
 ·intro k' x h
  obtain ⟨_,h⟩ := ah1 h
  cases h; exact a87 _
theorem bgr {A : List Nat} (hA : Ws A) {i : Nat} : aqy .and .u32 (aab A i : Int) 1 = ((aab A i % 2 : Nat) : Int) :=
 (aoh (y := 1) (aak hA i) (by omega)).trans (by rw [Nat.and_one_is_mod])
theorem a35 (a b : List Nat) (ha : Ws a) (hb : Ws b) (na : Nz a) (nb : Nz b) (la : a.length + b.length < big) : FnC prog 330 [ws a, ws b] (ws (ofNat (Nat.gcd (val a) (val b)))) := by
 have la' := la
 unfold big at la
 have ea := af9 ha na
 have eb := af9 hb nb
 obtain ⟨L,hL⟩ : ∃ L,L = a.length + b.length := ⟨_,rfl⟩
 obtain ⟨G,hG⟩ : ∃ G,G = Nat.gcd (val a) (val b) := ⟨_,rfl⟩
 rw [<- hG]
 refine gF0 func330 ?_
 refine gt (aa9 (ajc 901 rfl a ha (by unfold big; omega)) (.cons (.tmp rfl) .nil) (by first | exact hH0 | exact hH1 rfl | exact hH2 rfl rfl) rfl rfl) ?_
 refine gt (aa9 (ajc 902 rfl b hb (by unfold big; omega)) (.cons (.tmp rfl) .nil) (by first | exact hH0 | exact hH1 rfl | exact hH2 rfl rfl) rfl rfl) ?_ (2,0)
 refine gW (Wk.of (sl := [(0,some (.ms 901 1 0 a.length)),(1,some (.ms 902 1 0 b.length))]) (hp := [(901,some (.row 1 (a.map u32))),(902,some (.row 1 (b.map u32)))]) (.cons rfl (Sub.of (by rw [ea])) (.cons rfl (Sub.of (by rw [eb])) .nil)) (.cons rfl (.refl _) (.cons rfl (.refl _) .nil))) ?_
 refine gC (fun ht12 => ?_) (fun ht12 => ?_) (st1 := (3,0))
 ·have h0 : a = [] := List.length_eq_zero_iff.1 (by simpa [aaa] using ht12)
  refine gW ((Wk.freeze (k := 902) rfl).trans <| Wk.of (sl := [(1,some (ws b))]) (hp := []) (.cons rfl (Sub.of (abw (by simp))) .nil) .nil) ?_
  refine gE1 ?_
  rw [hG,h0]; simp [val,eb]
 ·have h0 : a ≠ [] := fun h => by rw [h] at ht12; simp [aaa] at ht12
  refine gC (fun ht16 => ?_) (fun ht16 => ?_) (st1 := (5,0))
  ·have h1 : b = [] := List.length_eq_zero_iff.1 (by simpa [aaa] using ht16)
   refine gW ((Wk.freeze (k := 901) rfl).trans <| Wk.of (sl := [(0,some (ws a))]) (hp := []) (.cons rfl (Sub.of (abw (by simp))) .nil) .nil) ?_
   refine gE1 ?_
   rw [hG,h1]; simp [val,ea]
  ·have h1 : b ≠ [] := fun h => by rw [h] at ht16; simp [aaa] at ht16
   have va := ajh na h0
   have vb := ajh nb h1
   have hGp : 0 < G:=by rw [hG]; exact Nat.gcd_pos_of_pos_left _ va
   have hGa : G <= val a:=by rw [hG]; exact Nat.gcd_le_left _ va
   have vla := abg a ha
   refine gL5 [] [] (fun (A D : List Nat) (n p t : Nat) => [(0,some (.ms 901 1 0 n)),(1,some (.ms 902 1 0 p)),(5,some (i64 t))]) (fun A D _ _ _ => [(901,some (.row 1 (A.map u32))),(902,some (.row 1 (D.map u32)))]) (fun A D n p t => GOk L A n /\ GOk L D p /\ 0 < val (A.take n) /\ 0 < val (D.take p) /\ G = 2 ^ t * Nat.gcd (val (A.take n)) (val (D.take p))) (fun A _ n _ _ => val (A.take n)) a b a.length b.length 0 ⟨⟨ha,le_refl _,by omega,by rw [take_length,ea]⟩,⟨hb,le_refl _,by omega,by rw [take_length,eb]⟩,by rw [take_length]; exact va,by rw [take_length]; exact vb,by rw [take_length,take_length,hG]; simp⟩ ?_
   rintro A D n p t ⟨gA,gD,pA,pD,hg⟩ K1 hK1
   refine gs (aaq (n := 0) (.tmp rfl) (.const _) T80 rfl T271 rfl (by omega) (by have := (adj gA pA).1; omega) rfl) ?_
   refine gs (aay (.tmp rfl) rfl (af3 (i := 0) (by have := (adj gA pA).1; have := gA.2.1; omega)) T271 rfl rfl rfl) ?_
   refine gs (aep (.tmp rfl) (.const _) rfl (bgr gA.1) rfl) ?_
   refine gs (aco rfl rfl rfl (fun h => aaq (n := 0) (.opt rfl (o1 h)) (.const _) T80 rfl T271 rfl (by omega) (by have := (adj gD pD).1; omega) rfl)) ?_
   refine gs (aco rfl rfl rfl (fun h => aay (.opt rfl (o1 h)) rfl (af3 (i := 0) (by have := (adj gD pD).1; have := gD.2.1; omega)) T271 rfl rfl rfl)) ?_
   refine gs (aco rfl rfl rfl (fun h => aep (.opt rfl (o1 h)) (.const _) rfl (bgr gD.1) rfl)) ?_
   refine gC (fun ht29 => ?_) (fun ht29 => ?_)
   ·have hev : aab A 0 % 2 = 0 /\ aab D 0 % 2 = 0 := by
     have := ht29
     simp [aaa] at this
     omega
    have xA : val (A.take n) % 2 = 0:=by rw [(adj gA pA).2]; exact hev.1
    have xD : val (D.take p) % 2 = 0:=by rw [(adj gD pD).2]; exact hev.2
    obtain ⟨k1,k2,k3⟩ := aeo gA (v := val (A.take n) / 2) (by omega)
    obtain ⟨m1,m2,m3⟩ := aeo gD (v := val (D.take p) / 2) (by omega)
    have ht : t < 32 * a.length := axf (Nat.gcd_pos_of_pos_left _ pA) (by rw [<- hg]; exact hGa) vla
    refine gt (aa9 (Con.rekeyR 901 rfl (agy A n gA.1 gA.2.1 (by have := gA.2.2.1; unfold big; omega))) (.cons (.tmp rfl) .nil) (by first | exact hH0 | exact hH1 rfl | exact hH2 rfl rfl) rfl rfl) ?_
    refine gt (aa9 (Con.rekeyR 902 rfl (agy D p gD.1 gD.2.1 (by have := gD.2.2.1; unfold big; omega))) (.cons (.tmp rfl) .nil) (by first | exact hH0 | exact hH1 rfl | exact hH2 rfl rfl) rfl rfl) ?_
    refine ga (show _ = ((t + 1 : Nat) : Int) by rw [aa2 (by omega)]; omega) ?_
    exact gK5 hK1 (wr A 0 (ac8 n (val (A.take n) / 2))) (wr D 0 (ac8 p (val (D.take p) / 2))) ((ofNat (val (A.take n) / 2)).length) ((ofNat (val (D.take p) / 2)).length) (t + 1) ⟨k1,m1,by rw [k2]; omega,by rw [m2]; omega,by rw [k2,m2,hg,a0q xA xD,Nat.pow_succ]; grind⟩ (by rw [k2]; omega)
   ·have hod : val (A.take n) % 2 = 1 \/ val (D.take p) % 2 = 1 := by
     rw [(adj gA pA).2,(adj gD pD).2]
     have := ht29
     simp [aaa] at this
     omega
    refine gL4 [5] [] (fun (A1 D1 : List Nat) (n1 p1 : Nat) => [(0,some (.ms 901 1 0 n1)),(1,some (.ms 902 1 0 p1))]) (fun A1 D1 _ _ => [(901,some (.row 1 (A1.map u32))),(902,some (.row 1 (D1.map u32)))]) (fun A1 D1 n1 p1 => GOk L A1 n1 /\ GOk L D1 p1 /\ 0 < val (D1.take p1) /\ (val (A1.take n1) % 2 = 1 \/ val (D1.take p1) % 2 = 1) /\ G = 2 ^ t * Nat.gcd (val (A1.take n1)) (val (D1.take p1))) (fun A1 D1 n1 p1 => val (A1.take n1) + val (D1.take p1)) A D n p ⟨gA,gD,pD,hod,hg⟩ ?_
    rintro A1 D1 n1 p1 ⟨gA1,gD1,pD1,hod1,hg1⟩ K2 hK2
    refine gC (fun ht38 => ?_) (fun ht38 => ?_) (st2 := (19,0))
    ·have pA1 : 0 < val (A1.take n1) := by
      have h3 : n1 ≠ 0:=by have := ht38; simp [aaa] at this; omega
      exact Nat.pos_of_ne_zero (fun h => h3 ((ax9 gA1).2 h))
     refine gL2 [5] [902] (fun (A2 : List Nat) (n2 : Nat) => [(0,some (.ms 901 1 0 n2)),(1,some (.ms 902 1 0 p1))]) (fun A2 _ => [(901,some (.row 1 (A2.map u32)))]) (fun A2 n2 => GOk L A2 n2 /\ 0 < val (A2.take n2) /\ val (A2.take n2) <= val (A1.take n1) /\ (val (A2.take n2) % 2 = 1 \/ val (D1.take p1) % 2 = 1) /\ Nat.gcd (val (A2.take n2)) (val (D1.take p1)) = Nat.gcd (val (A1.take n1)) (val (D1.take p1))) (fun A2 n2 => val (A2.take n2)) A1 n1 ⟨gA1,pA1,le_refl _,hod1,rfl⟩ ?_
     rintro A2 n2 ⟨gA2,pA2,lA2,hod2,hg2⟩ K3 hK3
     refine gs (aaq (n := 0) (.tmp rfl) (.const _) T80 rfl T271 rfl (by omega) (by have := (adj gA2 pA2).1; omega) rfl) ?_
     refine gs (aay (.tmp rfl) rfl (af3 (i := 0) (by have := (adj gA2 pA2).1; have := gA2.2.1; omega)) T271 rfl rfl rfl) ?_
     refine gs (aep (.tmp rfl) (.const _) rfl (bgr gA2.1) rfl) ?_
     refine gC (fun ht43 => ?_) (fun ht43 => ?_)
     ·have xA2 : val (A2.take n2) % 2 = 0 := by
       rw [(adj gA2 pA2).2]
       have := ht43
       simp [aaa] at this
       omega
      obtain ⟨k1,k2,k3⟩ := aeo gA2 (v := val (A2.take n2) / 2) (by omega)
      refine gt (aa9 (Con.rekeyR 901 rfl (agy A2 n2 gA2.1 gA2.2.1 (by have := gA2.2.2.1; unfold big; omega))) (.cons (.tmp rfl) .nil) (by first | exact hH0 | exact hH1 rfl | exact hH2 rfl rfl) rfl rfl) ?_
      exact gK2 hK3 (wr A2 0 (ac8 n2 (val (A2.take n2) / 2))) ((ofNat (val (A2.take n2) / 2)).length) ⟨k1,by rw [k2]; omega,by rw [k2]; omega,.inr (by omega),by rw [k2,ary xA2 (by omega),hg2]⟩ (by rw [k2]; omega)
     ·have xA2 : val (A2.take n2) % 2 = 1 := by
       rw [(adj gA2 pA2).2]
       have := ht43
       simp [aaa] at this
       omega
      refine gL2 [5] [901] (fun (D2 : List Nat) (p2 : Nat) => [(0,some (.ms 901 1 0 n2)),(1,some (.ms 902 1 0 p2))]) (fun D2 _ => [(902,some (.row 1 (D2.map u32)))]) (fun D2 p2 => GOk L D2 p2 /\ 0 < val (D2.take p2) /\ val (D2.take p2) <= val (D1.take p1) /\ Nat.gcd (val (A2.take n2)) (val (D2.take p2)) = Nat.gcd (val (A2.take n2)) (val (D1.take p1))) (fun D2 p2 => val (D2.take p2)) D1 p1 ⟨gD1,pD1,le_refl _,rfl⟩ ?_
      rintro D2 p2 ⟨gD2,pD2,lD2,hg3⟩ K4 hK4
      refine gs (aaq (n := 0) (.tmp rfl) (.const _) T80 rfl T271 rfl (by omega) (by have := (adj gD2 pD2).1; omega) rfl) ?_
      refine gs (aay (.tmp rfl) rfl (af3 (i := 0) (by have := (adj gD2 pD2).1; have := gD2.2.1; omega)) T271 rfl rfl rfl) ?_
      refine gs (aep (.tmp rfl) (.const _) rfl (bgr gD2.1) rfl) ?_
      refine gC (fun ht50 => ?_) (fun ht50 => ?_)
      ·have xD2 : val (D2.take p2) % 2 = 0 := by
        rw [(adj gD2 pD2).2]
        have := ht50
        simp [aaa] at this
        omega
       obtain ⟨k1,k2,k3⟩ := aeo gD2 (v := val (D2.take p2) / 2) (by omega)
       refine gt (aa9 (Con.rekeyR 902 rfl (agy D2 p2 gD2.1 gD2.2.1 (by have := gD2.2.2.1; unfold big; omega))) (.cons (.tmp rfl) .nil) (by first | exact hH0 | exact hH1 rfl | exact hH2 rfl rfl) rfl rfl) ?_
       exact gK2 hK4 (wr D2 0 (ac8 p2 (val (D2.take p2) / 2))) ((ofNat (val (D2.take p2) / 2)).length) ⟨k1,by rw [k2]; omega,by rw [k2]; omega,by rw [k2,Nat.gcd_comm,ary xD2 xA2,Nat.gcd_comm,hg3]⟩ (by rw [k2]; omega)
      ·have xD2 : val (D2.take p2) % 2 = 1 := by
        rw [(adj gD2 pD2).2]
        have := ht50
        simp [aaa] at this
        omega
       refine gt (aa9 (ao7 901 902 (by omega) A2 D2 n2 p2 gA2.1 gD2.1 gA2.2.1 gD2.2.1) (.cons (.tmp rfl) (.cons (.tmp rfl) .nil)) (by first | exact hH0 | exact hH1 rfl | exact hH2 rfl rfl) rfl rfl) ?_
       refine gC (fun ht56 => ?_) (fun ht56 => ?_) (st1 := (17,0)) (st2 := (77777,0))
       ·have hlt : val (A2.take n2) < val (D2.take p2) := by
         rcases lt_or_ge (val (A2.take n2)) (val (D2.take p2)) with h | h
         ·exact h
         ·rw [if_neg (by omega)] at ht56; split at ht56 <;> cases ht56
        refine gW (Wk.o (sl := [(0,some (.ms 902 1 0 p2)),(1,some (.ms 901 1 0 n2)),(5,some (i64 t))]) (hp := [(901,some (.row 1 (A2.map u32))),(902,some (.row 1 (D2.map u32)))])) ?_ (17,0)
        refine gW (Wk.rekey (k := 901) (d := 903) rfl rfl) ?_ (17,0)
        refine gW (Wk.rekey (k := 902) (d := 901) rfl rfl) ?_ (17,0)
        refine gW (Wk.rekey (k := 903) (d := 902) rfl rfl) ?_ (17,0)
        refine gW (Wk.of (sl := [(0,some (.ms 901 1 0 p2)),(1,some (.ms 902 1 0 n2)),(5,some (i64 t))]) (hp := [(901,some (.row 1 (D2.map u32))),(902,some (.row 1 (A2.map u32)))]) (.cons rfl (Sub.refl _) (.cons rfl (Sub.refl _) (.cons rfl (Sub.refl _) .nil))) (.cons rfl (.refl _) (.cons rfl (.refl _) .nil))) ?_ (17,0)
        obtain ⟨A3,D3,n3,p3,gA3,gD3,xA3,xD3,hle3,hg4,hs3,e1,e2,e3,e4⟩ : ∃ A3 D3 n3 p3,GOk L A3 n3 /\ GOk L D3 p3 /\ val (A3.take n3) % 2 = 1 /\ val (D3.take p3) % 2 = 1 /\ val (D3.take p3) <= val (A3.take n3) /\ Nat.gcd (val (A3.take n3)) (val (D3.take p3)) = Nat.gcd (val (A2.take n2)) (val (D2.take p2)) /\ val (A3.take n3) + val (D3.take p3) = val (A2.take n2) + val (D2.take p2) /\ A3 = D2 /\ n3 = p2 /\ D3 = A2 /\ p3 = n2 := ⟨D2,A2,p2,n2,gD2,gA2,xD2,xA2,by omega,Nat.gcd_comm _ _,Nat.add_comm _ _,rfl,rfl,rfl,rfl⟩
        rw [<- e1,<- e2,<- e3,<- e4]
        refine go ?_
        refine gt (aa9 (an7 A3 D3 n3 p3 gA3.1 gD3.1 gA3.2.1 gD3.2.1 (by have := gA3.2.2.1; unfold big; omega) hle3) (.cons (.tmp rfl) (.cons (.tmp rfl) .nil)) (by first | exact hH0 | exact hH1 rfl | exact hH2 rfl rfl) rfl rfl) ?_
        refine gt (aa9 (Con.rekeyR 901 rfl (amp (wr A3 0 (ac8 n3 (val (A3.take n3) - val (D3.take p3)))) n3 (azq gA3.1 (ae4 _ _)) (by rw [akf (by rw [abt]; have := gA3.2.1; omega)]; exact gA3.2.1) (by rw [akf (by rw [abt]; have := gA3.2.1; omega)]; have := gA3.2.2.1; unfold big; omega))) (.cons (.tmp rfl) .nil) (by first | exact hH0 | exact hH1 rfl | exact hH2 rfl rfl) rfl rfl) ?_
        exact gK4 hK2 (wr A3 0 (ac8 n3 (val (A3.take n3) - val (D3.take p3)))) D3 ((ofNat (val (A3.take n3) - val (D3.take p3))).length) p3 ⟨(aeo gA3 (by omega)).1,gD3,by omega,.inr xD3,by rw [(aeo gA3 (v := val (A3.take n3) - val (D3.take p3)) (by omega)).2.1,a0f hle3,hg4,hg3,hg2,hg1]⟩ (by rw [(aeo gA3 (v := val (A3.take n3) - val (D3.take p3)) (by omega)).2.1]; omega) (hw := Wk.of (.cons rfl (Sub.of (by rw [(aeo gA3 (v := val (A3.take n3) - val (D3.take p3)) (by omega)).2.2])) (.k (.k .nil))) (.cons rfl (.refl _) (.cons rfl (.refl _) .nil)))
       ·have hlt : val (D2.take p2) <= val (A2.take n2) := by
         rcases lt_or_ge (val (A2.take n2)) (val (D2.take p2)) with h | h
         ·rw [if_pos h] at ht56; cases ht56
         ·exact h
        refine gW (Wk.o (sl := [(0,some (.ms 901 1 0 n2)),(1,some (.ms 902 1 0 p2)),(5,some (i64 t))]) (hp := [(901,some (.row 1 (A2.map u32))),(902,some (.row 1 (D2.map u32)))])) ?_ (77777,0)
        obtain ⟨A3,D3,n3,p3,gA3,gD3,xA3,xD3,hle3,hg4,hs3,e1,e2,e3,e4⟩ : ∃ A3 D3 n3 p3,GOk L A3 n3 /\ GOk L D3 p3 /\ val (A3.take n3) % 2 = 1 /\ val (D3.take p3) % 2 = 1 /\ val (D3.take p3) <= val (A3.take n3) /\ Nat.gcd (val (A3.take n3)) (val (D3.take p3)) = Nat.gcd (val (A2.take n2)) (val (D2.take p2)) /\ val (A3.take n3) + val (D3.take p3) = val (A2.take n2) + val (D2.take p2) /\ A3 = A2 /\ n3 = n2 /\ D3 = D2 /\ p3 = p2 := ⟨A2,D2,n2,p2,gA2,gD2,xA2,xD2,hlt,rfl,rfl,rfl,rfl,rfl,rfl⟩
        rw [<- e1,<- e2,<- e3,<- e4]
        obtain ⟨k1,k2,k3⟩ := aeo gA3 (v := val (A3.take n3) - val (D3.take p3)) (by omega)
        refine go ?_
        refine gt (aa9 (an7 A3 D3 n3 p3 gA3.1 gD3.1 gA3.2.1 gD3.2.1 (by have := gA3.2.2.1; unfold big; omega) hle3) (.cons (.tmp rfl) (.cons (.tmp rfl) .nil)) (by first | exact hH0 | exact hH1 rfl | exact hH2 rfl rfl) rfl rfl) ?_
        refine gt (aa9 (Con.rekeyR 901 rfl (amp (wr A3 0 (ac8 n3 (val (A3.take n3) - val (D3.take p3)))) n3 (azq gA3.1 (ae4 _ _)) (by rw [akf (by rw [abt]; have := gA3.2.1; omega)]; exact gA3.2.1) (by rw [akf (by rw [abt]; have := gA3.2.1; omega)]; have := gA3.2.2.1; unfold big; omega))) (.cons (.tmp rfl) .nil) (by first | exact hH0 | exact hH1 rfl | exact hH2 rfl rfl) rfl rfl) ?_
        exact gK4 hK2 (wr A3 0 (ac8 n3 (val (A3.take n3) - val (D3.take p3)))) D3 ((ofNat (val (A3.take n3) - val (D3.take p3))).length) p3 ⟨(aeo gA3 (by omega)).1,gD3,by omega,.inr xD3,by rw [(aeo gA3 (v := val (A3.take n3) - val (D3.take p3)) (by omega)).2.1,a0f hle3,hg4,hg3,hg2,hg1]⟩ (by rw [(aeo gA3 (v := val (A3.take n3) - val (D3.take p3)) (by omega)).2.1]; omega) (hw := Wk.of (.cons rfl (Sub.of (by rw [(aeo gA3 (v := val (A3.take n3) - val (D3.take p3)) (by omega)).2.2])) (.k (.k .nil))) (.cons rfl (.refl _) (.cons rfl (.refl _) .nil)))
    ·have zA1 : val (A1.take n1) = 0 := by
      have h3 : n1 = 0:=by have := ht38; simp [aaa] at this; omega
      exact (ax9 gA1).1 h3
     rw [zA1,Nat.gcd_zero_left] at hg1
     refine gW ((Wk.freeze (k := 902) rfl).trans <| Wk.of (sl := [(1,some (ws (ofNat (val (D1.take p1))))),(5,some (i64 t))]) (hp := []) (.cons rfl (Sub.of (by rw [a7e (by rw [length_map]; have := gD1.2.1; omega),ah6,<- a5g gD1])) (.k .nil)) .nil) ?_
     refine gL1 [64] [] (fun (i : Nat) => [(1,some (ws (ofNat (2 ^ i * val (D1.take p1))))),(65,some (i64 i))]) (fun _ => []) (fun i => i <= t) (fun i => t - i) 0 (zero_le _) ?_ (h1 := (.cons rfl (Sub.of (by rw [Nat.pow_zero,Nat.one_mul])) (.k .nil)))
     rintro i hit K5 hK5
     refine gC (fun ht66 => ?_) (fun ht66 => ?_)
     ·have hin : i < t := by simpa [aaa] using ht66
      have h3 : 2 ^ i * val (D1.take p1) <= G:=by rw [hg1]; exact mul_le_mul_right _ (aeg (by omega))
      have h4 : (ofNat (2 ^ i * val (D1.take p1))).length <= a.length := aag (by omega)
      have ht : t < 32 * a.length := axf pD1 (by rw [<- hg1]; exact hGa) vla
      refine gc (ale _ _ (aa1 _) (aa1 _) (by unfold big; omega) (by unfold big; omega)) ?_
      refine ga (aa2 (by omega)) ?_
      exact gK1 hK5 (i + 1) hin (hw := Wk.of (.cons rfl (Sub.of (by rw [aah,Nat.pow_succ]; congr 2; grind)) (.k (.k .nil))) .nil)
     ·have hin : i = t := by have : t <= i := (by simpa [aaa] using ht66); omega
      subst hin
      refine gE1 ?_
      rw [hg1]
end Go.Lw
namespace Go.Lw
open Go.Proofs
theorem asb (a b : Wh) (ha : a.ok) (hb : b.ok) (la : a.mag.length + b.mag.length < big) : FnC prog 237 [a.av, b.av] (zA (Int.gcd a.z b.z)) := by
 have h1 := Wh.m_le (w := a)
 have h2 := Wh.m_le (w := b)
 have h3 : Int.gcd a.z b.z = Nat.gcd (val a.m) (val b.m):=by rw [Int.gcd,Wh.abs,Wh.abs]
 have h4 : (ofNat (Nat.gcd (val a.m) (val b.m))).length <= a.m.length + b.m.length := by
  rcases Nat.eq_zero_or_pos (val a.m) with h | h
  ·rw [h,Nat.gcd_zero_left,Wh.ofNat_m hb]; omega
  ·exact le_trans (aag (lt_of_le_of_lt (Nat.gcd_le_left _ h) (abg _ (Wh.ws ha)))) (by omega)
 refine gF0 func237 ?_
 refine gc (ac3 a ha) ?_
 refine gc (ac3 b hb) ?_
 refine gc (a35 a.m b.m (Wh.ws ha) (Wh.ws hb) a.nz b.nz (by omega)) ?_
 refine gc (ab9 false _ (aa1 _) (by omega)) ?_
 refine gD ?_
 refine gE1 ?_
 rw [aah,h3]; rfl
theorem a01 (a b : Wh) (ha : a.ok) (hb : b.ok) (la : a.mag.length + 1 < big) (lb : b.mag.length < big) (h0 : b.z ≠ 0) : FnC prog 238 [a.av, b.av] (.tup [zA (a.z / b.z), zA (a.z % b.z), i64 0]) := by
 have hm1 := Wh.m_le (w := a)
 have hm2 := Wh.m_le (w := b)
 have hb1 : val b.m ≠ 0:=by have := Wh.abs (w := b); omega
 have hl1 : (ofNat (val a.m / val b.m)).length <= a.m.length := aag (lt_of_le_of_lt (Nat.div_le_self _ _) (abg _ (Wh.ws ha)))
 have hmod := Nat.mod_lt (val a.m) (show 0 < val b.m by omega)
 have hl2 : (ofNat (val a.m % val b.m)).length <= b.m.length := aag (Nat.lt_trans hmod (abg _ (Wh.ws hb)))
 have hl3 : (ofNat (val a.m / val b.m + 1)).length <= a.m.length + 1 := aag (by have h7 := lt_of_le_of_lt (Nat.div_le_self (val a.m) (val b.m)) (abg _ (Wh.ws ha)); rw [Nat.pow_succ]; generalize val a.m / val b.m = m at *; omega)
 have hl4 : (ofNat (val b.m - val a.m % val b.m)).length <= b.m.length := aag (by have := abg _ (Wh.ws hb); omega)
 have hv1 : val [1] = 1 := rfl
 refine gF0 func238 ?_
 refine gc (akv b hb) ?_
 refine gC (fun ht11 => ?_) (fun ht11 => ?_) (st1 := (2,0))
 ·exact absurd (Int.sign_eq_zero_iff_zero.1 (by simpa [aaa] using ht11)) h0
 ·refine gc (ac3 a ha) ?_
  refine gc (ac3 b hb) ?_
  refine gc (ass a.m b.m (Wh.ws ha) (Wh.ws hb) a.nz hb1 (by omega) (by omega)) ?_
  refine gD ?_
  refine gc (aca a ha) ?_
  refine glG ?_
  refine gC (fun ht28 => ?_) (fun ht28 => ?_)
  ·have h1 : a.n = true /\ 0 < val a.m % val b.m := amf.1 ht28
   obtain ⟨e1,e2⟩ := axg hb1 h1.1 h1.2
   refine gc (ale (ofNat (val a.m / val b.m)) [1] (aa1 _) (ar3 (by omega)) (by omega) (by unfold big; simp)) ?_
   refine gc (ac3 b hb) ?_
   refine gc (ajf b.m (ofNat (val a.m % val b.m)) (Wh.ws hb) (aa1 _) (by omega) (by rw [aah]; omega)) ?_
   refine gD ?_ (6,0)
   refine gW (Wk.of (sl := [(2,some (.ptr 2 0)),(3,some (.ptr 3 0)),(4,some (.ptr 4 0)),(5,some (.ptr 5 0)),(7,some (ws (ofNat (val a.m / val b.m + 1)))),(8,some (ws (ofNat (val b.m - val a.m % val b.m))))]) (hp := [(2,some (.box [bl a.neg,ws a.mag])),(3,some (.box [bl b.neg,ws b.mag])),(4,some (.box [.v (.bool false),.v (.slice none 0 0)])),(5,some (.box [.v (.bool false),.v (.slice none 0 0)]))]) (.k (.k (.k (.k (.cons rfl (Sub.of (by rw [aah,hv1])) (.cons rfl (Sub.of (by rw [aah])) .nil)))))) (.cons rfl (.refl _) (.cons rfl (.refl _) (.cons rfl (.refl _) (.cons rfl (.refl _) .nil))))) ?_
   refine gc (aca a ha) ?_
   refine gc (aca b hb) ?_
   refine gc (by apply ab9 _ _ (aa1 _) (by omega)) ?_
   refine gc (by apply ab9 _ _ (aa1 _) (by omega)) ?_
   refine gD ?_
   refine gR ?_
   exact ap2 (by rw [aah,aah,e1,show sgn false _ = _ from e2]; rfl)
  ·have h1 : ¬ (a.n = true /\ 0 < val a.m % val b.m) := fun h => Bool.eq_false_iff.1 ht28 (amf.2 h)
   obtain ⟨e1,e2⟩ := a4l hb1 h1
   refine gc (aca a ha) ?_
   refine gc (aca b hb) ?_
   refine gc (by apply ab9 _ _ (aa1 _) (by omega)) ?_
   refine gc (by apply ab9 _ _ (aa1 _) (by omega)) ?_
   refine gD ?_
   refine gR ?_
   exact ap2 (by rw [aah,aah,e1,show sgn false _ = _ from e2]; rfl)
end Go.Lw
namespace Go.Lw
open Go.Proofs
theorem arz {x : Int} (hx : Zs x) : FnC prog 307 [zA x] (i64 x.sign) := by
 have h := afu (ofInt x) hx.ok
 rw [abp] at h
 exact h
theorem a7c {x : Int} (hx : Zs x) : FnC prog 209 [zA x] (zA (-x)) := by
 have h := aqu (ofInt x) hx.ok (by have := hx.len; unfold big; omega)
 rw [abp] at h
 exact h
theorem bet {x y : Int} (hx : Zs x) (hy : Zs y) : FnC prog 327 [zA x, zA y] (i64 (asm x y)) := by
 have h := aq5 (ofInt x) (ofInt y) hx.ok hy.ok
 rw [abp,abp] at h
 exact h
theorem bil {x y : Int} (hx : Zs x) (hy : Zs y) : FnC prog 305 [zA x, zA y] (zA (x + y)) := by
 have h := aqx (ofInt x) (ofInt y) hx.ok hy.ok (by have := hx.len; unfold big; omega) (by have := hy.len; unfold big; omega)
 rw [abp,abp] at h
 exact h
theorem aqv {x y : Int} (hx : Zs x) (hy : Zs y) : FnC prog 306 [zA x, zA y] (zA (x * y)) := by
 have h := arn (ofInt x) (ofInt y) hx.ok hy.ok (by have := hx.len; have := hy.len; unfold big; omega)
 rw [abp,abp] at h
 exact h
theorem bg0 {x y : Int} (hx : Zs x) (hy : Zs y) : FnC prog 308 [zA x, zA y] (zA (Int.gcd x y)) := by
 have h := aj2 (ofInt x) (ofInt y) hx.ok hy.ok (by have := hx.len; unfold big; omega) (by have := hy.len; unfold big; omega)
 rw [abp,abp] at h
 exact h
theorem bed {x y : Int} (hx : Zs x) (hy : Zs y) (h0 : y ≠ 0) : FnC prog 309 [zA x, zA y] (.tup [zA (x / y), zA (x % y), .v .nilIface]) := by
 have h := aq7 (ofInt x) (ofInt y) hx.ok hy.ok (by have := hx.len; unfold big; omega) (by have := hy.len; unfold big; omega) (by rw [abp]; exact h0)
 rw [abp,abp] at h
 exact h
theorem avi {x : Int} (hx : Zs x) : FnC prog 236 [zA x] (i64 x.sign) := by
 have h := akv (ofInt x) hx.ok
 rw [abp] at h
 exact h
theorem a2q {x : Int} (hx : Zs x) : FnC prog 215 [zA x] (zA (-x)) := by
 have h := atw (ofInt x) hx.ok (by have := hx.len; unfold big; omega)
 rw [abp] at h
 exact h
theorem bd4 {x y : Int} (hx : Zs x) (hy : Zs y) : FnC prog 315 [zA x, zA y] (i64 (asm x y)) := by
 have h := az8 (ofInt x) (ofInt y) hx.ok hy.ok (by have := hx.len; unfold big; omega) (by have := hy.len; unfold big; omega)
 rw [abp,abp] at h
 exact h
theorem bdt {x y : Int} (hx : Zs x) (hy : Zs y) : FnC prog 134 [zA x, zA y] (zA (x + y)) := by
 have h := at0 (ofInt x) (ofInt y) hx.ok hy.ok (by have := hx.len; unfold big; omega) (by have := hy.len; unfold big; omega)
 rw [abp,abp] at h
 exact h
theorem as9 {x y : Int} (hx : Zs x) (hy : Zs y) : FnC prog 135 [zA x, zA y] (zA (x * y)) := by
 have h := a3r (ofInt x) (ofInt y) hx.ok hy.ok (by have := hx.len; have := hy.len; unfold big; omega)
 rw [abp,abp] at h
 exact h
theorem bfq {x y : Int} (hx : Zs x) (hy : Zs y) : FnC prog 237 [zA x, zA y] (zA (Int.gcd x y)) := by
 have h := asb (ofInt x) (ofInt y) hx.ok hy.ok (by have := hx.len; have := hy.len; unfold big; omega)
 rw [abp,abp] at h
 exact h
theorem a9f {x y : Int} (hx : Zs x) (hy : Zs y) (h0 : y ≠ 0) : FnC prog 238 [zA x, zA y] (.tup [zA (x / y), zA (x % y), i64 0]) := by
 have h := a01 (ofInt x) (ofInt y) hx.ok hy.ok (by have := hx.len; unfold big; omega) (by have := hy.len; unfold big; omega) (by rw [abp]; exact h0)
 rw [abp,abp] at h
 exact h
end Go.Lw
namespace Go.Lw
open Go.Proofs
def az2 (e : Nat) : Value := match e with | 0 => .nilIface | e + 1 => .iface 66 (.int .i64 ((e + 1 : Nat) : Int))
def ain (e : Nat) : AV := .v (az2 e)
theorem bch (e : Nat) : az2 e = .nilIface \/ ∃ T u,az2 e = .iface T u:=by cases e; exact .inl rfl; exact .inr ⟨_,_,rfl⟩
theorem atk (e : Nat) : ag8 (az2 e) = decide (e = 0):=by cases e <;> simp [az2,ag8]
theorem baw {e : Nat} (h : ag8 (az2 e) = true) : e = 0:=by rw [atk] at h; exact of_decide_eq_true h
theorem a9q {e : Nat} (h : ag8 (az2 e) = false) : e ≠ 0:=by rw [atk] at h; exact of_decide_eq_false h
theorem aec {e : Nat} (h : (!ag8 (az2 e)) = true) : e ≠ 0 := a9q (by cases h' : ag8 (az2 e) <;> simp_all)
theorem aee {e : Nat} (h : (!ag8 (az2 e)) = false) : e = 0 := baw (by cases h' : ag8 (az2 e) <;> simp_all)
theorem afv : FnC prog 271 [] (zA 1) := by
 refine gF0 func271 ?_
 refine gc (alq 1 (by omega)) ?_
 refine gE1 ?_
 first | rfl | (simp; done)
theorem ab8 (r : Rt) (h : r.ok) : FnC prog 229 [r.av] (bl r.valid) := by
 have hn := h.n0
 have hd := h.d0
 refine gF0 func229 ?_
 refine gl ?_
 refine glG ?_
 refine gC (fun ht14 => ?_) (fun ht14 => ?_)
 ·have h0 : r.num = [] /\ r.den = [] := by simpa [aaa] using ht14
  refine gE1 ?_
  unfold Rt.valid; rw [if_pos h0]; rfl
 ·have h0 : ¬ (r.num = [] /\ r.den = []) := by
   have := ht14
   simp [aaa] at this
   exact fun h => this h.1 h.2
  refine gD ?_
  refine gl ?_
  refine glG ?_
  refine gcG (fun _ => (ad1 r.n0 hn)) ?_
  refine gcG (fun _ => (ad1 r.d0 hd)) ?_
  refine gC (fun ht43 => ?_) (fun ht43 => ?_)
  ·have h1 : r.valid = false := aqd h0 ht43
   refine gE1 ?_
   rw [h1]; rfl
  ·have h1 := atv h0 ht43
   refine gc (aj2 r.n0 r.d0 hn hd h.n0l h.d0l) ?_
   refine gc (by apply afv) ?_
   refine gc (bet (Rt.gcd_zs h) zs1) ?_
   refine gE1 ?_
   rw [h1]; rfl
theorem aba (r : Rt) (h : r.ok) : FnC prog 207 [r.av] (.tup [zA r.q.num, zA r.q.den]) := by
 have hl1 : r.num.length <= 137438953472 := h.2.2.1
 have hl2 : r.den.length <= 137438953472 := h.2.2.2
 refine gF0 func207 ?_
 refine gc (ab8 r h) ?_
 refine glG ?_
 refine gC (fun ht12 => ?_) (fun ht12 => ?_)
 ·have h0 : ¬ (r.valid = true /\ r.num ≠ []) := by
   have := ht12
   intro h'
   simp [aaa,h'.1,h'.2] at this
  refine gc afv ?_
  refine gR ?_
  exact ae5 (by rw [Rt.zero h0]; exact Sub.tup (.cons a8z (.cons (.refl _) .nil)))
 ·have h0 : r.valid = true /\ r.num ≠ [] := by
   have := ht12
   cases hv : r.valid
   ·rw [hv] at this; cases this
   ·rw [hv] at this; exact ⟨rfl,by simpa [aaa] using this⟩
  obtain ⟨e1,e2,e3,e4,e5,e6⟩ := Rt.parts h h0.1 h0.2
  refine gs (aby T80 rfl T271 rfl rfl rfl) ?_
  refine gs (abh (.tmp rfl) rfl rfl (.tmp rfl) T80 rfl T271 rfl rfl (by simp only [length_map]; omega) rfl rfl) ?_
  refine gD ?_ (4,0)
  refine gW ((Wk.freeze (k := 20) rfl).trans <| Wk.of (sl := [(1,some (.ptr 1 0)),(2,some (.ptr 2 0)),(3,some (.ptr 3 0))]) (hp := [(1,some (.box [bl r.neg,ws r.num,ws r.den])),(2,some (.box [bl r.neg,ws r.num])),(3,some (.box [bl false,.v (.slice none 0 0)]))]) abq (.cons rfl (.refl _) (.cons rfl (BlkSub.boxL (.cons (.refl _) (.cons (.of (abw (by simp))) .nil)) rfl) (.cons rfl (.refl _) .nil)))) ?_
  refine gs (aby T80 rfl T271 rfl rfl rfl) ?_
  refine gs (abh (.tmp rfl) rfl rfl (.tmp rfl) T80 rfl T271 rfl rfl (by simp only [length_map]; omega) rfl rfl) ?_
  refine gD ?_ (77777,0)
  refine gW ((Wk.freeze (k := 26) rfl).trans <| Wk.of (sl := [(2,some (.ptr 2 0)),(3,some (.ptr 3 0))]) (hp := [(2,some (.box [bl r.neg,ws r.num])),(3,some (.box [bl false,ws r.den]))]) abq (.cons rfl (.refl _) (.cons rfl (BlkSub.boxL (.cons (.refl _) (.cons (.of (abw (by simp))) .nil)) rfl) .nil))) ?_
  refine gE2 ?_
  rw [e1,e2]; exact awo e3 e4 e5
theorem ac0 {n d : Int} (hn : Zs n) (hd : Zs d) (h0 : d ≠ 0) : FnC prog 208 [zA n, zA d] (qA (Rat.divInt n d)) := by
 refine gF0 func208 ?_
 refine gc (arz hn) ?_
 refine gC (fun ht9 => ?_) (fun ht9 => ?_)
 ·have e0 : n = 0 := Int.sign_eq_zero_iff_zero.1 (by simpa [aaa] using ht9)
  refine gR ?_
  exact ad9 (by rw [e0,Rat.zero_divInt]; exact ao9)
 ·have e0 : n ≠ 0 := fun h => by rw [h] at ht9; cases ht9
  refine gc (arz hd) ?_
  refine gJ2 [2,3,4] [4] (fun (n1 d1 : Int) => []) (fun n1 d1 => [(2,some (.box (zA n1).cells)),(3,some (.box (zA d1).cells))]) (fun n1 d1 => 0 < d1 /\ n1 ≠ 0 /\ Zs n1 /\ Zs d1 /\ Rat.divInt n1 d1 = Rat.divInt n d) ?_ ?_
  ·intro K1 hK1
   refine gC (fun ht13 => ?_) (fun ht13 => ?_)
   ·have e1 : d < 0 := Int.sign_eq_neg_one_iff_neg.1 (by have := Int.sign_trichotomy d; have h9 : d.sign < 0 := (by simpa [aaa] using ht13); omega)
    refine gc (a7c hn) ?_
    refine gc (a7c hd) ?_
    refine gD ?_
    exact jK2 hK1 (-n) (-d) ⟨by omega,by omega,hn.neg,hd.neg,ana n d⟩
   ·have e1 : 0 < d := by
     have h9 : 0 <= d.sign:=by simpa [aaa] using ht13
     have := Int.sign_nonneg_iff.1 h9
     omega
    exact jK2 hK1 n d ⟨e1,e0,hn,hd,rfl⟩
  ·rintro n1 d1 ⟨f1, f2, f3, f4, f5⟩
   refine gc (bg0 f3 f4) ?_
   refine gc (arz f3) ?_
   refine gJ1 [2,3,4,5] [3,4,5] (fun (n2 : Int) => [(6,some (bl (decide (n1 < 0))))]) (fun n2 => [(2,some (.box (zA n2).cells))]) (fun n2 => n2 = (n1.natAbs : Int)) ?_ ?_
   ·intro K2 hK2
    refine gC (fun ht24 => ?_) (fun ht24 => ?_)
    ·have e2 : n1 < 0 := Int.sign_eq_neg_one_iff_neg.1 (by have := Int.sign_trichotomy n1; have h9 : n1.sign < 0 := (by simpa [aaa] using ht24); omega)
     refine gc (a7c f3) ?_
     exact jK1 hK2 (-n1) (by omega) (hw := Wk.of (.cons rfl (Sub.of (by rw [show aaa .lss n1.sign 0 = true from ht24,decide_eq_true e2]; rfl)) (.k (.k (.k (.k .nil))))) (.cons rfl (.refl _) (.cons rfl (.refl _) (.cons rfl (.refl _) (.cons rfl (.refl _) .nil)))))
    ·have e2 : 0 < n1 := by
      have h9 : 0 <= n1.sign:=by simpa [aaa] using ht24
      have := Int.sign_nonneg_iff.1 h9
      omega
     exact jK1 hK2 n1 (by omega) (hw := Wk.of (.cons rfl (Sub.of (by rw [show aaa .lss n1.sign 0 = false from ht24,decide_eq_false (by omega)]; rfl)) (.k (.k (.k (.k .nil))))) (.cons rfl (.refl _) (.cons rfl (.refl _) (.cons rfl (.refl _) (.cons rfl (.refl _) .nil)))))
   ·rintro n2 g1
    have g2 : Zs (Int.gcd n1 d1 : Int) := f3.of_le (by rw [natAbs_natCast]; exact Nat.le_of_dvd (by omega) (Int.gcd_dvd_natAbs_left _ _))
    have g3 : (Int.gcd n1 d1 : Int) ≠ 0:=by have := Int.gcd_pos_of_ne_zero_left d1 f2; omega
    have g4 : Zs n2 := f3.of_le (by omega)
    refine gc (bed g4 g2 g3) ?_
    refine gc (bed f4 g2 g3) ?_
    refine gE1 ?_
    rw [<- f5,<- a97 f1 f2,<- g1]; rfl
theorem ans {n d : Int} (hn : Zs n) (hd : Zs d) : FnC prog 443 [zA n, zA d] (.tup [qA (Rat.divInt n d), ain (if d = 0 then 8 else 0)]) := by
 refine gF0 func443 ?_
 refine gc (arz hd) ?_
 refine gC (fun ht8 => ?_) (fun ht8 => ?_)
 ·have h0 : d = 0 := Int.sign_eq_zero_iff_zero.1 (by simpa [aaa] using ht8)
  refine gR ?_
  exact ae5 (by rw [if_pos h0,h0,Rat.divInt_zero]; exact Sub.tup (.cons ao9 (.cons (.refl _) .nil)))
 ·have h0 : d ≠ 0 := fun h => by rw [h] at ht8; cases ht8
  refine gc (ac0 hn hd h0) ?_
  refine gE2 ?_
  rw [if_neg h0]; rfl
theorem aq0 (n : Int) (h : -9223372036854775808 <= n /\ n <= 9223372036854775807) : FnC prog 150 [i64 n] (qA n) := by
 have hz : Zs n := ⟨2,by omega,by unfold Lz; simp only [Nat.reducePow]; omega⟩
 refine gF0 func150 ?_
 refine gc (alq n h) ?_
 refine gc afv ?_
 refine gc (ac0 hz zs1 (by omega)) ?_
 refine gE1 ?_
 exact congrArg qA (Rat.num_divInt_den (n : Rat))
theorem adn (a : Rt) (ha : a.ok) : FnC prog 111 [a.av] (qA (-a.q)) := by
 have za := ha.qs
 refine gF0 func111 ?_
 refine gc (aba a ha) ?_
 refine gc (a7c za.num) ?_
 refine gc (ac0 za.num.neg za.den (by have := a.q.den_nz; omega)) ?_
 refine gD ?_
 refine gE1 ?_
 rw [a4m]; rfl
theorem ad6 (a : Rt) (ha : a.ok) : FnC prog 313 [a.av] (i64 (ahh a.q)) := by
 refine gF0 func313 ?_
 refine gc (aba a ha) ?_
 refine gc (arz ha.qs.num) ?_
 refine gE1 ?_
 rw [aw3]
theorem ai3 (a b : Rt) (ha : a.ok) (hb : b.ok) : FnC prog 374 [a.av, b.av] (i64 (ahh (a.q - b.q))) := by
 have za := ha.qs
 have zb := hb.qs
 have m1 := za.mul zb
 have m2 := zb.mul za
 refine gF0 func374 ?_
 refine gc (aba a ha) ?_
 refine gc (aba b hb) ?_
 refine gc (aqv za.num zb.den) ?_
 refine gc (aqv zb.num za.den) ?_
 refine gc (bet m1.1 m2.1) ?_
 refine gD ?_
 refine gE1 ?_
 rw [bby]
theorem adp (a b : Rt) (ha : a.ok) (hb : b.ok) : FnC prog 206 [a.av, b.av] (qA (a.q + b.q)) := by
 have za := ha.qs
 have zb := hb.qs
 have m1 := za.mul zb
 have m2 := zb.mul za
 refine gF0 func206 ?_
 refine gc (aba a ha) ?_
 refine gc (aba b hb) ?_
 refine gc (aqv za.num zb.den) ?_
 refine gc (aqv zb.num za.den) ?_
 refine gc (bil m1.1 m2.1) ?_
 refine gc (aqv za.den zb.den) ?_
 refine gc (ac0 (za.cross zb) m1.2.2.1 (Int.mul_ne_zero (by have := a.q.den_nz; omega) (by have := b.q.den_nz; omega))) ?_
 refine gD ?_
 refine gE1 ?_
 rw [av0]; rfl
theorem aow (a b : Rt) (ha : a.ok) (hb : b.ok) : FnC prog 281 [a.av, b.av] (qA (a.q - b.q)) := by
 refine gF0 func281 ?_
 refine gc (adn b hb) ?_
 refine gc (adp a (rt (-b.q)) ha hb.qs.neg.ok) ?_
 refine gD ?_
 refine gE1 ?_
 rw [agh,<- Rat.sub_eq_add_neg]; rfl
theorem ai1 (a b : Rt) (ha : a.ok) (hb : b.ok) : FnC prog 288 [a.av, b.av] (qA (a.q * b.q)) := by
 have za := ha.qs
 have zb := hb.qs
 have m1 := za.mul zb
 refine gF0 func288 ?_
 refine gc (aba a ha) ?_
 refine gc (aba b hb) ?_
 refine gc (aqv za.num zb.num) ?_
 refine gc (aqv za.den zb.den) ?_
 refine gc (ac0 m1.2.1 m1.2.2.1 (Int.mul_ne_zero (by have := a.q.den_nz; omega) (by have := b.q.den_nz; omega))) ?_
 refine gD ?_
 refine gE1 ?_
 rw [avb]; rfl
theorem ao8 (a b : Rt) (ha : a.ok) (hb : b.ok) : FnC prog 431 [a.av, b.av] (.tup [qA (a.q / b.q), ain (if b.q = 0 then 8 else 0)]) := by
 have za := ha.qs
 have zb := hb.qs
 have m1 := za.mul zb
 refine gF0 func431 ?_
 refine gc (aba a ha) ?_
 refine gc (aba b hb) ?_
 refine gc (aqv za.num zb.den) ?_
 refine gc (aqv za.den zb.num) ?_
 refine gc (ans m1.1 m1.2.2.2) ?_
 refine gD ?_
 refine gE2 ?_
 have e1 : ((a.q.den : Int) * b.q.num = 0) = (b.q = 0) := by
  apply propext
  rw [<- Rat.num_eq_zero,Int.mul_eq_zero]
  exact ⟨fun h => h.resolve_left (by have := a.q.den_nz; omega),.inr⟩
 simp only [ba4,e1]
 rfl
end Go.Lw
namespace Go.Lw
structure Pq where
  c : List Rat
  s : List Rat
  x : List Rat
  y : List Rat
def Pq.av (p : Pq) : AV := .agg [nA p.c,nA p.s,nA p.x,nA p.y]
structure Pq.ok (n e : Nat) (p : Pq) : Prop where
  c : Nm n e p.c
  s : Nm n e p.s
  x : Nm n e p.x
  y : Nm n e p.y
def bh8 (p : Pse) : Pq := ⟨sh 0 (bi2 p.turn.half p.turn.t.q : Rat),sh 0 (bjb p.turn.half p.turn.t.q : Rat),sh 0 (p.at_.x.q : Rat),sh 0 (p.at_.y.q : Rat)⟩
def ofE (ps : List Pse) : Nat := if ps.all Pse.ok = true then 0 else 2
def bgx (ts : List (List Rat)) (b : Pl) (w : Pq) : Bool :=
  eqT ts (dec ts.length (lq b.c)) (dec ts.length w.c) && eqT ts (dec ts.length (lq b.s)) (dec ts.length w.s) && eqT ts (dec ts.length (lq b.x)) (dec ts.length w.x) && eqT ts (dec ts.length (lq b.y)) (dec ts.length w.y)
def mE (a : As) (ps : List Pse) : Nat :=
  if anl a.rs ≠ 0 then anl a.rs else if ofE ps ≠ 0 then ofE ps else if a.bs.length ≠ ps.length then 10 else ae3 (a.bs.map (fun b => acj a.rs b.l))
def mB (a : As) (ps : List Pse) : Bool := decide (mE a ps = 0) && (a.bs.zip ps).all (fun z => bgx (llq a.rs) z.1 (bh8 z.2))
end Go.Lw
namespace Go.Lw
instance : Inhabited Tn := ⟨⟨⟨false,[],[]⟩,false⟩⟩
def ac1 (n : Nat) (ok : Nat -> Bool) : Option Nat := (List.range n).find? (fun i => !ok i)
theorem acu {n i : Nat} {ok : Nat -> Bool} (hi : i < n) (h : ∀ j, j < i -> ok j = true) (he : ok i = false) : ac1 n ok = some i := by
 unfold ac1
 rw [List.find?_range_eq_some]
 exact ⟨by rw [he]; rfl,by simpa using hi,fun j hj => by rw [h j hj]; rfl⟩
theorem ab7 {n : Nat} {ok : Nat -> Bool} (h : ∀ j, j < n -> ok j = true) : ac1 n ok = none := by
 unfold ac1
 rw [List.find?_range_eq_none]
 exact fun j hj => by rw [h j hj]; rfl
def ixI : Option Nat -> Int
  | none => -1
  | some i => i
theorem abr {l : Li} (h : liE l = 0) : apj l = 0 /\ akr l = 0 /\ aqr l = 0 /\ l.bodies.length <= 8 /\ l.bodies.length ≠ 0 := by
 unfold liE at h
 split at h
 ·cases h
 ·split at h
  ·cases h
  ·split at h
   ·cases h
   ·split at h
    ·rename_i h1; exact absurd h h1
    ·rename_i g1 _ h1
     split at h
     ·rename_i h2; exact absurd h h2
     ·rename_i h2; exact ⟨Decidable.not_not.1 h1,Decidable.not_not.1 h2,h,by omega,by omega⟩
theorem bin {l : Li} (h : liE l = 0) {i : Nat} {j : Jt} (hj : l.joints[i]? = some j) : jt0 l j = 0 := by
 have h1 := (abr h).2.1
 unfold akr at h1
 split at h1
 ·cases h1
 ·have h2 := adw h1 i (List.getElem?_eq_some_iff.1 hj).1
  unfold jtE at h2
  rw [aar hj] at h2
  split at h2
  ·cases h2
  ·split at h2
   ·cases h2
   ·exact h2
theorem a6y {l : Li} (h : liE l = 0) {i : Nat} {j : Jt} (hj : l.joints[i]? = some j) :
  inB j.a l.bodies.length = true /\ inB j.b l.bodies.length = true /\ inB j.point (af8 l j.a).length = true /\ inB j.on (af8 l j.b).length = true /\ (j.kind ≠ 0 -> inB j.to (af8 l j.b).length = true) := by
 have h1 := bin h hj
 unfold jt0 at h1
 split at h1
 ·cases h1
 ·split at h1
  ·cases h1
  ·rename_i h2
   split at h1
   ·cases h1
   ·split at h1
    ·cases h1
    ·rename_i h3
     have a1 : inB j.a l.bodies.length = true:=by cases h : inB j.a l.bodies.length <;> simp_all
     have a2 : inB j.b l.bodies.length = true:=by cases h : inB j.b l.bodies.length <;> simp_all
     have a3 : inB j.point (af8 l j.a).length = true:=by cases h : inB j.point (af8 l j.a).length <;> simp_all
     have a4 : inB j.on (af8 l j.b).length = true:=by cases h : inB j.on (af8 l j.b).length <;> simp_all
     refine ⟨a1,a2,a3,a4,fun hk => ?_⟩
     rw [if_neg hk] at h1
     split at h1
     ·cases h1
     ·rename_i h4; cases h : inB j.to (af8 l j.b).length <;> simp_all
theorem ayo {l : Li} (h : liE l = 0) {i : Nat} {d : Dr} (hd : l.drivers[i]? = some d) : inB d.body l.bodies.length = true := by
 have h1 := (abr h).2.2.1
 unfold aqr at h1
 split at h1
 ·cases h1
 ·have h2 := adw h1 i (List.getElem?_eq_some_iff.1 hd).1
  unfold drE at h2
  rw [aar hd] at h2
  split at h2
  ·cases h2
  ·split at h2
   ·cases h2
   ·split at h2
    ·cases h2
    ·rename_i h3; cases h : inB d.body l.bodies.length <;> simp_all
end Go.Lw
namespace Go.Lw
abbrev Et (ts : List (List Rat)) : Type := E (aaz ts) ts.length
def dE (ts : List (List Rat)) (a : List Rat) : Et ts := dec ts.length a
def sX {ts : List (List Rat)} (x : Et ts) : List Rat := sh ts.length x
class Ct (ts : List (List Rat)) (u k : outParam Nat) : Prop where
  ex : ∃ R,Tw ts R /\ eB R ts.length <= k
  k1 : 1 <= k
  u3 : 3 <= u
  ub : u <= 1000000
  kb : k <= 1000000
instance Ct.cx {ts : List (List Rat)} {u k : Nat} [c : Ct ts u k] : Cx (aaz ts) ts.length u k := by
  obtain ⟨R,tw,h⟩ := c.ex
  exact ⟨⟨R,bge tw ▸ tw,h⟩,c.k1,c.u3⟩
class Zl (ts : List (List Rat)) (u k : Nat) (a : List Rat) (x : outParam (Et ts)) (w v : outParam Nat) : Prop where
  eq : dec ts.length a = x
  nm : Nm ts.length (w * u + v * k) a
section
variable {ts : List (List Rat)} {u k : Nat}
instance Zl.sX {x : Et ts} {w v : Nat} [h : Zu u k x w v] : Zl ts u k (sX x) x w v := ⟨ag9 _ _,h.nm⟩
instance Zl.q [c : Ct ts u k] {q : Rat} {w : Nat} [h : Qz u q w] : Zl ts u k (sh 0 (q : Rat)) (qE q : Et ts) w 0 := ⟨a13 _ q, by
  obtain ⟨R,tw,_⟩ := c.ex
  exact (Nm.ofQ tw.five h.cb).eq (by omega)⟩
instance Zl.nil [c : Ct ts u k] : Zl ts u k [] (0 : Et ts) 0 0 := ⟨by rw [afe]; exact E.zero_def.symm, by
  obtain ⟨R,tw,_⟩ := c.ex
  exact ⟨tw.five,.inl rfl,Cb.nil.mono (zero_le _)⟩⟩
theorem Zl.at {a : List Rat} {e : Nat} (h : Nm ts.length e a) (he : e <= u) : Zl ts u k a (dE ts a) 1 0 := ⟨rfl,h.mono (by omega)⟩
theorem bgu (c : Ct ts u k) {w v m : Nat} (h : w + v <= m) : w * u + v * k <= m * 1000000 := by
 have h1 : w * u <= w * 1000000 := mul_le_mul_left _ c.ub
 have h2 : v * k <= v * 1000000 := mul_le_mul_left _ c.kb
 omega
theorem Zl.up (c : Ct ts u k) {a : List Rat} {x : Et ts} {w v m : Nat} (h : Zl ts u k a x w v) (hm : w + v <= m) : Nm ts.length (m * 1000000) a := h.nm.mono (bgu c hm)
theorem Ct.kk (c : Ct ts u k) {R : Nat} (h : eB R ts.length <= k) : kB R ts.length <= 1000000 := le_trans h c.kb
def dotE (x y z t : Et ts) : Et ts := x * z + y * t
def crsE (x y z t : Et ts) : Et ts := x * t - y * z
instance Zu.dotE [c : Ct ts u k] {x y z t : Et ts} {w1 v1 w2 v2 w3 v3 w4 v4 : Nat} [Zu u k x w1 v1] [Zu u k y w2 v2] [Zu u k z w3 v3] [Zu u k t w4 v4] : Zu u k (dotE x y z t) (w1 + w3 + (w2 + w4)) (v1 + v3 + 1 + (v2 + v4 + 1) + 1) :=
  (inferInstance : Zu u k (x * z + y * t) _ _)
instance Zu.crsE [c : Ct ts u k] {x y z t : Et ts} {w1 v1 w2 v2 w3 v3 w4 v4 : Nat} [Zu u k x w1 v1] [Zu u k y w2 v2] [Zu u k z w3 v3] [Zu u k t w4 v4] : Zu u k (crsE x y z t) (w1 + w4 + (w2 + w3)) (v1 + v4 + 1 + (v2 + v3 + 1) + 1) :=
  (inferInstance : Zu u k (x * t - y * z) _ _)
end
end Go.Lw
namespace Go.Lw
structure Vr where
  w : List Rt
  x : List Rt
  y : List Rt
instance : Inhabited Vr := ⟨⟨[],[],[]⟩⟩
def Vr.av (v : Vr) : AV := .agg [nR v.w,nR v.x,nR v.y]
def Vr.l (v : Vr) : List (List Rt) := [v.w,v.x,v.y]
end Go.Lw
namespace Go.Lw
open Go.Proofs
theorem am0 (m : List Nat) (hm : Ws m) (hl : m.length <= lim) : FnC prog 314 [ws m] (bl (!decide (m = []) && (⟨false, m⟩ : Wh).valid)) := by
 refine gF0 func314 ?_
 refine gl ?_
 refine glG ?_
 refine gaG (fun h => (ae6 (by simp [aaa] at h; omega) (by unfold lim at hl; unfold ack; exact le_trans hl (by omega)))) ?_
 refine giG (fun h => (af3 (i := m.length - 1) (by simp [aaa] at h; omega))) ?_
 refine gE1 ?_
 by_cases h : m = []
 ·subst h; rfl
 ·have h1 : 0 < m.length := List.length_pos_iff.2 h
  have h2 : aaa .gtr (m.length : Int) 0 = true:=by simp [aaa,h1]
  simp only [bl,h,decide_false,Bool.not_false,Bool.true_and,Wh.valid,List.getLast?_eq_getElem?,adb (show m.length - 1 < m.length by omega),aaa]
  congr 2
  generalize aab m _ = x
  rw [Bool.eq_iff_iff]; simp [h1]
theorem an5 : FnC prog 222 [] (zA 1) := by
 refine gF0 func222 ?_
 refine gc (awl 1 (by omega)) ?_
 refine gE1 ?_
 first | rfl | (simp; done)
theorem afj (r : Rt) (h : r.ok) : FnC prog 212 [r.av] (bl r.valid) := by
 have hr := h
 have hn := h.n0
 have hd := h.d0
 have hl1 : r.num.length <= 137438953472 := h.2.2.1
 have hl2 : r.den.length <= 137438953472 := h.2.2.2
 refine gF0 func212 ?_
 refine gl ?_
 refine glG ?_
 refine gC (fun ht12 => ?_) (fun ht12 => ?_)
 ·have h0 : r.num = [] /\ r.den = [] := by simpa [aaa] using ht12
  refine gE1 ?_
  unfold Rt.valid; rw [if_pos h0]; rfl
 ·have h0 : ¬ (r.num = [] /\ r.den = []) := by
   have := ht12
   simp [aaa] at this
   exact fun h => this h.1 h.2
  refine gc (am0 r.num hr.1 hr.2.2.1) ?_
  refine gcG (fun _ => (am0 r.den hr.2.1 hr.2.2.2)) ?_
  refine gcG (fun _ => (asb r.n0 r.d0 hn hd (by show r.num.length + r.den.length < _; unfold big; omega))) ?_
  refine gcG (fun _ => an5) ?_
  refine gcG (fun _ => (bd4 (Rt.gcd_zs hr) zs1)) ?_
  refine gE1 ?_
  exact congrArg bl (a2e h0).symm
theorem aei (r : Rt) (h : r.ok) : FnC prog 132 [r.av] (.tup [zA r.q.num, zA r.q.den]) := by
 have hl1 : r.num.length <= 137438953472 := h.2.2.1
 have hl2 : r.den.length <= 137438953472 := h.2.2.2
 refine gF0 func132 ?_
 refine gc (afj r h) ?_
 refine glG ?_
 refine gC (fun ht12 => ?_) (fun ht12 => ?_)
 ·have h0 : ¬ (r.valid = true /\ r.num ≠ []) := by
   have := ht12
   intro h'
   simp [aaa,h'.1,h'.2] at this
  refine gc an5 ?_
  refine gR ?_
  exact ae5 (by rw [Rt.zero h0]; exact Sub.tup (.cons a8z (.cons (.refl _) .nil)))
 ·have h0 : r.valid = true /\ r.num ≠ [] := by
   have := ht12
   cases hv : r.valid
   ·rw [hv] at this; cases this
   ·rw [hv] at this; exact ⟨rfl,by simpa [aaa] using this⟩
  obtain ⟨e1,e2,e3,e4,e5,e6⟩ := Rt.parts h h0.1 h0.2
  refine gD ?_
  refine gE2 ?_
  rw [e1,e2]; exact awo e3 e4 e5
theorem aid {n d : Int} (hn : Zs n) (hd : Zs d) (h0 : d ≠ 0) : FnC prog 133 [zA n, zA d] (qA (Rat.divInt n d)) := by
 refine gF0 func133 ?_
 refine gc (avi hn) ?_
 refine gC (fun ht14 => ?_) (fun ht14 => ?_)
 ·have e0 : n = 0 := Int.sign_eq_zero_iff_zero.1 (by simpa [aaa] using ht14)
  refine gR ?_
  exact ad9 (by rw [e0,Rat.zero_divInt]; exact ao9)
 ·have e0 : n ≠ 0 := fun h => by rw [h] at ht14; cases ht14
  refine gc (avi hd) ?_
  refine gJ2 [2,3,4] [4] (fun (n1 d1 : Int) => []) (fun n1 d1 => [(2,some (.box (zA n1).cells)),(3,some (.box (zA d1).cells))]) (fun n1 d1 => 0 < d1 /\ n1 ≠ 0 /\ Zs n1 /\ Zs d1 /\ Rat.divInt n1 d1 = Rat.divInt n d) ?_ ?_
  ·intro K1 hK1
   refine gC (fun ht18 => ?_) (fun ht18 => ?_)
   ·have e1 : d < 0 := Int.sign_eq_neg_one_iff_neg.1 (by have := Int.sign_trichotomy d; have h9 : d.sign < 0 := (by simpa [aaa] using ht18); omega)
    refine gc (a2q hn) ?_
    refine gc (a2q hd) ?_
    refine gD ?_
    exact jK2 hK1 (-n) (-d) ⟨by omega,by omega,hn.neg,hd.neg,ana n d⟩
   ·have e1 : 0 < d := by
     have h9 : 0 <= d.sign:=by simpa [aaa] using ht18
     have := Int.sign_nonneg_iff.1 h9
     omega
    exact jK2 hK1 n d ⟨e1,e0,hn,hd,rfl⟩
  ·rintro n1 d1 ⟨f1, f2, f3, f4, f5⟩
   have g2 : Zs (Int.gcd n1 d1 : Int) := f3.of_le (by rw [natAbs_natCast]; exact Nat.le_of_dvd (by omega) (Int.gcd_dvd_natAbs_left _ _))
   have g3 : (Int.gcd n1 d1 : Int) ≠ 0:=by have := Int.gcd_pos_of_ne_zero_left d1 f2; omega
   refine gc (bfq f3 f4) ?_
   refine gc (a9f f3 g2 g3) ?_
   refine gc (a9f f4 g2 g3) ?_
   refine gE1 ?_
   rw [<- f5,<- a59 f1 f2]; rfl
theorem a7i (n : Int) (h : -9223372036854775808 <= n /\ n <= 9223372036854775807) : FnC prog 120 [i64 n] (qA n) := by
 have hz : Zs n := ⟨2,by omega,by unfold Lz; simp only [Nat.reducePow]; omega⟩
 refine gF0 func120 ?_
 refine gc (awl n h) ?_
 refine gc an5 ?_
 refine gc (aid hz zs1 (by omega)) ?_
 refine gE1 ?_
 exact congrArg qA (Rat.num_divInt_den (n : Rat))
theorem ajw (a : Rt) (ha : a.ok) : FnC prog 116 [a.av] (qA (-a.q)) := by
 have za := ha.qs
 refine gF0 func116 ?_
 refine gc (aei a ha) ?_
 refine gc (a2q za.num) ?_
 refine gc (aid za.num.neg za.den (by have := a.q.den_nz; omega)) ?_
 refine gD ?_
 refine gE1 ?_
 rw [a4m]; rfl
theorem aib (a : Rt) (ha : a.ok) : FnC prog 213 [a.av] (i64 (ahh a.q)) := by
 refine gF0 func213 ?_
 refine gc (aei a ha) ?_
 refine gc (avi ha.qs.num) ?_
 refine gE1 ?_
 rw [aw3]
theorem anf (a b : Rt) (ha : a.ok) (hb : b.ok) : FnC prog 49 [a.av, b.av] (qA (a.q + b.q)) := by
 have za := ha.qs
 have zb := hb.qs
 have m1 := za.mul zb
 have m2 := zb.mul za
 refine gF0 func49 ?_
 refine gc (aei a ha) ?_
 refine gc (aei b hb) ?_
 refine gc (as9 za.num zb.den) ?_
 refine gc (as9 zb.num za.den) ?_
 refine gc (bdt m1.1 m2.1) ?_
 refine gc (as9 za.den zb.den) ?_
 refine gc (aid (za.cross zb) m1.2.2.1 (Int.mul_ne_zero (by have := a.q.den_nz; omega) (by have := b.q.den_nz; omega))) ?_
 refine gD ?_
 refine gE1 ?_
 rw [av0]; rfl
theorem a2n (a b : Rt) (ha : a.ok) (hb : b.ok) : FnC prog 214 [a.av, b.av] (qA (a.q - b.q)) := by
 refine gF0 func214 ?_
 refine gc (ajw b hb) ?_
 refine gc (anf a (rt (-b.q)) ha hb.qs.neg.ok) ?_
 refine gD ?_
 refine gE1 ?_
 rw [agh,<- Rat.sub_eq_add_neg]; rfl
theorem a1v (a b : Rt) (ha : a.ok) (hb : b.ok) : FnC prog 369 [a.av, b.av] (qA (a.q * b.q)) := by
 have za := ha.qs
 have zb := hb.qs
 have m1 := za.mul zb
 refine gF0 func369 ?_
 refine gc (aei a ha) ?_
 refine gc (aei b hb) ?_
 refine gc (as9 za.num zb.num) ?_
 refine gc (as9 za.den zb.den) ?_
 refine gc (aid m1.2.1 m1.2.2.1 (Int.mul_ne_zero (by have := a.q.den_nz; omega) (by have := b.q.den_nz; omega))) ?_
 refine gD ?_
 refine gE1 ?_
 rw [avb]; rfl
theorem amm (a b : Rt) (ha : a.ok) (hb : b.ok) (hs : Qs (a.q - b.q)) : FnC prog 115 [a.av, b.av] (i64 (ahh (a.q - b.q))) := by
 refine gF0 func115 ?_
 refine gc (a2n a b ha hb) ?_
 refine gc (aib (rt (a.q - b.q)) hs.ok) ?_
 refine gE1 ?_
 rw [agh]
end Go.Lw
namespace Go.Lw
open Go.Proofs
theorem ad8 {α : Type} (f : α -> AV) (l : List α) (hl : l.length <= 281474976710656) : FnC prog 350 [.lst 3 (l.map f)] (i64 (lvl l.length)) := by
 refine gF0 func350 ?_
 refine gL1 [0] [] (fun (k : Nat) => [(3,some (i64 k))]) (fun _ => []) (fun k => k <= 48 /\ ∀ j,j < k -> 2 ^ j < l.length) (fun k => 48 - k) 0 ⟨by omega,fun j h => by omega⟩ ?_
 rintro k ⟨hk,hj⟩ K1 hK1
 refine gs (aga (.const _) (.tmp rfl) (by omega) (akn (by omega)) rfl) ?_
 refine gl ?_
 refine gC (fun ht8 => ?_) (fun ht8 => ?_)
 ·have h1 : 2 ^ k < l.length := by have := ht8; simp only [aaa, decide_eq_true_eq] at this; omega
  have h2 : k < 48 := by
   rcases lt_or_ge k 48 with h | h
   ·exact h
   ·have : 2 ^ 48 <= 2 ^ k := abv h
    have : (2 : Nat) ^ 48 = 281474976710656:=by decide
    omega
  refine ga (aa2 (by omega)) ?_
  exact gK1 hK1 (k + 1) ⟨by omega,fun j h => by rcases lt_or_ge j k with h3 | h3; exact hj j h3; (have : j = k:=by omega); subst this; exact h1⟩
 ·have h1 : l.length <= 2 ^ k := by have := ht8; simp only [aaa, decide_eq_false_iff_not] at this; omega
  have h2 := a4q hj h1
  refine gs (aga (.const _) (.tmp rfl) (by omega) (akn (by omega)) rfl) ?_
  refine gl ?_
  refine gC (fun ht15 => ?_) (fun ht15 => ?_)
  ·have h3 : 2 ^ k ≠ l.length := by have := ht15; simp only [aaa, bne_iff_ne, ne_eq] at this; omega
   refine gE1 ?_
   unfold lvl; rw [h2,if_neg h3]; rfl
  ·have h3 : 2 ^ k = l.length := by have := ht15; simp only [aaa, bne_eq_false_iff_eq] at this; omega
   refine gE1 ?_
   unfold lvl; rw [h2,if_pos h3]
theorem ai2 (ts : List (List Rt)) (a : List Rt) (ha : ∀ r ∈ a, r.ok) (hl : a.length <= 281474976710656) (ht : ts.length <= 281474976710656) : FnC prog 262 [aor ts, nR a] (ain (ais ts.length a)) := by
 refine gF0 func262 ?_
 refine gl ?_
 refine gJ0 [1,4] [] [] [] (¬ (a ≠ [] /\ (lvl a.length < 0 \/ (ts.length : Int) < lvl a.length))) ?_ ?_
 ·intro K1 hK1
  refine gC (fun ht10 => ?_) (fun ht10 => ?_)
  ·have h0 : a ≠ [] := fun h => by rw [h] at ht10; simp [aaa] at ht10
   refine gc (ad8 Rt.av a hl) ?_
   refine glG ?_
   refine gC (fun ht21 => ?_) (fun ht21 => ?_)
   ·have h1 : lvl a.length < 0 \/ (ts.length : Int) < lvl a.length := by
     have h9 := ht21
     by_cases h : lvl a.length < 0
     ·exact .inl h
     ·simp only [aaa,decide_eq_false h,cond_false,decide_eq_true_eq] at h9; exact .inr h9
    refine gE1 ?_
    unfold ais; rw [if_pos ⟨h0,h1⟩]; rfl
   ·have h1 : ¬ (lvl a.length < 0 \/ (ts.length : Int) < lvl a.length) := by
     have h9 := ht21
     by_cases h : lvl a.length < 0
     ·simp only [aaa,decide_eq_true h,cond_true] at h9; cases h9
     ·simp only [aaa, decide_eq_false h, cond_false, decide_eq_false_iff_not] at h9
      exact fun h' => h'.elim h h9
    exact jK0 hK1 (fun h => h1 h.2)
  ·have h0 : a = [] := by
    cases a with
    | nil => rfl
    | cons c l => simp [aaa] at ht10
   exact jK0 hK1 (fun h => h.1 h0)
 ·rintro hn
  refine gl ?_
  refine gL1 [23,24] [] (fun (i : Nat) => [(25,some (i64 i))]) (fun _ => []) (fun i => i <= a.length /\ (a.take i).all Rt.valid = true) (fun i => a.length - i) 0 ⟨zero_le _,by simp⟩ ?_
  rintro i ⟨hi,hv⟩ K2 hK2
  refine gC (fun ht26 => ?_) (fun ht26 => ?_)
  ·have hin : i < a.length := by simpa [aaa] using ht26
   obtain ⟨r,hr⟩ := ab6 hin
   have hrok := ha r (mem_of_getElem? hr)
   refine gi (aae hr) ?_
   refine gc (ab8 r hrok) ?_
   refine gC (fun ht31 => ?_) (fun ht31 => ?_)
   ·have hrv : r.valid = false := by simpa using ht31
    refine gE1 ?_
    unfold ais
    rw [if_neg hn,if_neg]
    ·rfl
    ·rw [all_eq_true]
     intro h
     rw [h r (mem_of_getElem? hr)] at hrv; cases hrv
   ·have hrv : r.valid = true := by simpa using ht31
    refine ga aas ?_
    exact gK1 hK2 (i + 1) ⟨by omega,by rw [aax hr,all_append,hv]; simp [hrv]⟩
  ·have hin : i = a.length := by have : a.length <= i := (by simpa [aaa] using ht26); omega
   subst hin
   rw [take_length] at hv
   refine gE1 ?_
   unfold ais; rw [if_neg hn,if_pos hv]; rfl
theorem alj (a : List Rat) (ha : ∀ q ∈ a, Qs q) (hl : a.length <= 281474976710656) : FnC prog 367 [nA a] (bl (abl a)) := by
 refine gF0 func367 ?_
 refine gl ?_
 refine gL1 [5,6] [] (fun (i : Nat) => [(7,some (i64 i))]) (fun _ => []) (fun i => i <= a.length /\ abl (a.take i) = true) (fun i => a.length - i) 0 ⟨zero_le _,by simp [abl]⟩ ?_
 rintro i ⟨hi,hv⟩ K1 hK1
 refine gC (fun ht8 => ?_) (fun ht8 => ?_)
 ·have hin : i < a.length := by simpa [aaa] using ht8
  obtain ⟨q,hq⟩ := ab6 hin
  have hqs := ha q (mem_of_getElem? hq)
  refine gi (aae hq) ?_
  refine gc (ad6 (rt q) hqs.ok) ?_
  refine gC (fun ht13 => ?_) (fun ht13 => ?_)
  ·have h0 : q ≠ 0 := by
    intro h
    have h9 := ht13
    rw [agh,h] at h9
    cases h9
   refine gE1 ?_
   have : abl a = false := by
    rw [Bool.eq_false_iff]
    intro h
    exact h0 (by simpa using List.all_eq_true.1 h q (mem_of_getElem? hq))
   rw [this]; rfl
  ·have h0 : q = 0 := by
    have h9 : ahh q = 0:=by have := ht13; rw [agh] at this; simpa [aaa] using this
    exact ahv h9
   refine ga aas ?_
   exact gK1 hK1 (i + 1) ⟨by omega,by rw [aax hq]; simp only [abl,all_append,and_eq_true]; exact ⟨hv,by simp [h0]⟩⟩
 ·have hin : i = a.length := by have : a.length <= i := (by simpa [aaa] using ht8); omega
  subst hin
  rw [take_length] at hv
  refine gE1 ?_
  rw [hv]; rfl
theorem ajt (a : List Rat) (hl : a.length <= 281474976710656) : FnC prog 364 [nA a] (bl (abl a)) := by
 refine gF0 func364 ?_
 refine gl ?_
 refine gL1 [5,6] [] (fun (i : Nat) => [(7,some (i64 i))]) (fun _ => []) (fun i => i <= a.length /\ abl (a.take i) = true) (fun i => a.length - i) 0 ⟨zero_le _,by simp [abl]⟩ ?_
 rintro i ⟨hi,hv⟩ K1 hK1
 refine gC (fun ht8 => ?_) (fun ht8 => ?_)
 ·have hin : i < a.length := by simpa [aaa] using ht8
  obtain ⟨q,hq⟩ := ab6 hin
  refine gi (aae hq) ?_
  refine glG ?_
  refine glG ?_
  refine gC (fun ht24 => ?_) (fun ht24 => ?_)
  ·have h0 : q ≠ 0 := aw7 ht24
   refine gE1 ?_
   have : abl a = false := by
    rw [Bool.eq_false_iff]
    intro h
    exact h0 (by simpa using List.all_eq_true.1 h q (mem_of_getElem? hq))
   rw [this]; rfl
  ·have h0 : q = 0 := asd ht24
   refine ga aas ?_
   exact gK1 hK1 (i + 1) ⟨by omega,by rw [aax hq]; simp only [abl,all_append,and_eq_true]; exact ⟨hv,by simp [h0]⟩⟩
 ·have hin : i = a.length := by have : a.length <= i := (by simpa [aaa] using ht8); omega
  subst hin
  rw [take_length] at hv
  refine gE1 ?_
  rw [hv]; rfl
theorem ao6 (a : List Rat) (ha : ∀ q ∈ a, Qs q) (hl : a.length <= 1099511627776) : FnC prog 345 [nA a] (nA a) := by
 refine gF0 func345 ?_
 refine gl ?_
 refine gW (Wk.virt 900 3 rfl) ?_
 refine gL1 [6,7] [] (fun (i : Nat) => [(3,some (.ms 900 3 0 i)),(8,some (i64 i))]) (fun i => [(900,some (.row 3 ((a.take i).map qA)))]) (fun i => i <= a.length) (fun i => a.length - i) 0 (zero_le _) ?_
 rintro i hi K1 hK1
 refine gC (fun ht9 => ?_) (fun ht9 => ?_) (st2 := (7,0))
 ·have hin : i < a.length := by simpa [aaa] using ht9
  obtain ⟨q,hq⟩ := ab6 hin
  have hqs := (ha q (mem_of_getElem? hq)).ok
  have hl1 : (rt q).num.length <= 137438953472 := hqs.2.2.1
  have hl2 : (rt q).den.length <= 137438953472 := hqs.2.2.2
  refine gi (aae hq) ?_
  refine gs (aby T80 rfl T271 rfl rfl rfl) ?_
  refine gs (ado (.tmp rfl) rfl rfl (.tmp rfl) T80 rfl T271 rfl rfl (by simp only [length_map]; omega) rfl rfl) ?_
  refine gs (aby T80 rfl T271 rfl rfl rfl) ?_
  refine gs (ado (.tmp rfl) rfl rfl (.tmp rfl) T80 rfl T271 rfl rfl (by simp only [length_map]; omega) rfl rfl) ?_
  refine gs (abh (.tmp rfl) rfl (by simp; omega) (.tmp rfl) T38 rfl T82 rfl rfl (by simp; omega) rfl rfl) ?_
  refine gD ?_ (6,0)
  refine gW (Wk.of (sl := [(3,some (.ms 25 3 0 (i + 1))),(6,some (nA a)),(7,some (i64 a.length)),(8,some (i64 i))]) (hp := [(25,some (.row 3 ((a.take (i + 1)).map qA)))]) abq (.cons rfl (BlkSub.of (by rw [aax hq,map_append]; rfl)) .nil)) ?_ (6,0)
  refine gW (Wk.rekey (k := 25) (d := 900) rfl rfl) ?_
  refine ga aas ?_
  exact gK1 hK1 (i + 1) hin
 ·have hin : i = a.length := by have : a.length <= i := (by simpa [aaa] using ht9); omega
  subst hin
  refine gW ((Wk.freeze (k := 900) rfl).trans <| Wk.of (sl := [(3,some (nA a))]) (hp := []) (.cons rfl (Sub.of (by rw [abw (by simp),take_length]; rfl)) .nil) .nil) ?_
  refine gE1 ?_
  rfl
end Go.Lw
namespace Go.Lw
open Go.Proofs
theorem ade {n : Nat} (a : List Rat) (hn : n <= 5) (ha : Nl n a) (hs : ∀ q ∈ a, Qs q) : FnC prog 268 [nA a] (nA (sh n (dec n a))) := by
 have hl := ha.len5 hn
 rw [<- ahi ha hn]
 refine gF0 func268 ?_
 refine gc (ad8 qA a (by omega)) ?_
 refine gl ?_
 refine gC (fun ht17 => ?_) (fun ht17 => ?_) (st1 := (3,0))
 ·exact absurd ht17 (by rcases ha with rfl | ⟨j,hj,h⟩; (simp [aaa]); (rw [h,akz]; simp [aaa]; omega))
 ·refine gl ?_
  refine gL1 [0] [] (fun (m : Nat) => [(4,some (i64 m))]) (fun _ => []) (fun m => a52 a m) (fun m => m) a.length (a4u (ha.mono hn)) ?_
  rintro m hm K1 hK1
  refine gs (aco rfl rfl rfl (fun h => adl (.opt rfl (o1 h)) (.const _) (by omega) (acd (by have := hm.le; omega)) rfl)) ?_
  refine gs (aco rfl rfl rfl (fun h => aam (.opt rfl (o1 h)) (.some _ (.opt rfl (o1 h)) (by omega)) (.some _ (.opt rfl (o1 h)) (by omega)) T38 rfl T82 rfl (by omega) (by have := hm.le; simp; omega) rfl)) ?_
  refine gcG (fun _ => (by have h9 := ajt ((a.drop (m / 2)).take (m - m / 2)) (by simp; omega); rw [<- as8] at h9; exact h9)) ?_
  refine gC (fun ht31 => ?_) (fun ht31 => ?_)
  ·have h1 : 1 < m /\ abl ((a.drop (m / 2)).take (m - m / 2)) = true := by
    have h9 := ht31
    by_cases h : (m : Int) > 1
    ·simp only [aaa,decide_eq_true h,cond_true] at h9; exact ⟨by omega,h9⟩
    ·simp only [aaa,decide_eq_false h,cond_false] at h9; cases h9
   refine gs (adl (.tmp rfl) (.const _) (by omega) (acd (by have := hm.le; omega)) rfl) ?_
   exact gK1 hK1 (m / 2) (a45 hm h1.1 h1.2)
  ·have h1 : 1 < m -> abl ((a.drop (m / 2)).take (m - m / 2)) = false := by
    intro h
    have h9 := ht31
    simp only [aaa,decide_eq_true (show (m : Int) > 1 by omega),cond_true] at h9
    exact h9
   refine gs (aco rfl rfl rfl (fun h => aam (.opt rfl (o1 h)) (.none _) (.some _ (.const _) (by omega)) T38 rfl T82 rfl (by omega) (by have h8 : (m : Int) = 1 := (by simpa [aaa] using h); have := hm.le; simp only [length_map]; omega) rfl)) ?_
   refine gcG (fun _ => (by have h9 := ajt ((a.drop 0).take 1) (by simp; omega); rw [<- as8] at h9; exact h9)) ?_
   refine gC (fun ht40 => ?_) (fun ht40 => ?_)
   ·have h2 : m = 1 /\ abl (a.take 1) = true := by
     have h9 := ht40
     by_cases h : m = 1
     ·rw [h] at h9; exact ⟨h,h9⟩
     ·rw [show aaa .eql (m : Int) 1 = false by simp [aaa]; omega] at h9; cases h9
    obtain ⟨rfl,h3⟩ := h2
    refine gR ?_
    exact ad9 (by rw [a0g hm h3]; exact Sub.nil _ _ _)
   ·have h2 : m = 1 -> abl (a.take 1) = false := by
     intro h
     have h9 := ht40
     rw [h] at h9; exact h9
    have h3 := a26 hm h1 h2
    refine gs (aam (.tmp rfl) (.none _) (.some _ (.tmp rfl) (by omega)) T38 rfl T82 rfl (by omega) (by have := hm.le; simp; omega) rfl) ?_
    refine gc (by have h9 := ao6 ((a.drop 0).take m) (fun q hq => hs q (List.mem_of_mem_drop (List.mem_of_mem_take hq))) (by simp; omega); have h8 := h9; rw [<- as8] at h9; exact h9) ?_
    refine gE1 ?_
    rw [h3]
    simp [nA,map_take]
theorem agw (d : Nat) (hd : Nat.blt d 1000 = true) (a : List Rat) (n : Nat) (hl : a.length <= n) (hn : n <= 1099511627776) :
  Con prog 366 [nA a,i64 n] [] (.ms d 3 0 n) [(d,some (.row 3 ((aau a n).map qA)))] := by
 refine gF func366 (fun k z h => by cases h) ?_
 refine gs (afh (.tmp rfl) T38 rfl T82 rfl rfl (by omega) (by dsimp only; omega) rfl) ?_
 refine gs (bfv (.tmp rfl) rfl (by simp) (.tmp rfl) T38 rfl T82 rfl rfl (by simp; omega) rfl) ?_ (3,0)
 refine gW (Wk.of (sl := [(5,some (.ms 7 3 0 n))]) (hp := [(7,some (.row 3 ((aau a n).map qA)))]) (.cons rfl (Sub.of (by simp)) .nil) (.cons rfl (axe a n hl) .nil)) ?_
 refine gR ?_
 exact Fin.own1 rfl hd rfl
theorem alv (a : List Rat) (n : Nat) (hl : a.length <= n) (hn : n <= 1099511627776) : FnC prog 366 [nA a, i64 n] (nA (aau a n)) := by
 have h := Con.freeze (by rw [length_map,abc hl]; omega) (agw 0 rfl a n hl hn)
 rw [drop_zero,take_of_length_le (by rw [length_map,abc hl]; exact le_refl _)] at h
 exact h
theorem adx (a b : List Rat) (ha : ∀ q ∈ a, Qs q) (hb : ∀ q ∈ b, Qs q) (la : a.length <= 1099511627776) (lb : b.length <= 1099511627776) : FnC prog 285 [nA a, nA b] (nA (acr a b)) := by
 obtain ⟨n,hn⟩ : ∃ n,n = max a.length b.length := ⟨_,rfl⟩
 have hwa := abc (show a.length <= n by omega)
 have hwb := abc (show b.length <= n by omega)
 have hp := abj (a := a) (b := b)
 rw [<- hn] at hp
 have qa : ∀ q ∈ aau a n,Qs q := fun q hq => by rcases List.mem_append.1 hq with h | h; exact ha q h; (rw [(List.mem_replicate.1 h).2]; exact Qs.zero)
 have qb : ∀ q ∈ aau b n,Qs q := fun q hq => by rcases List.mem_append.1 hq with h | h; exact hb q h; (rw [(List.mem_replicate.1 h).2]; exact Qs.zero)
 refine gF0 func285 ?_
 refine gl ?_
 refine gl ?_
 refine gs (ayi (.tmp rfl) (.tmp rfl) rfl) ?_ (2,0)
 refine gW (Wk.of (sl := [(0,some (nA a)),(1,some (nA b)),(5,some (i64 n))]) (hp := []) (.cons rfl (.refl _) (.cons rfl (.refl _) (.cons rfl (Sub.int (by omega)) .nil))) .nil) ?_
 refine go ?_
 refine gt (aa9 (agw 900 rfl a n (by omega) (by omega)) (.cons (.tmp rfl) (.cons (.tmp rfl) .nil)) (by first | exact hH0 | exact hH1 rfl | exact hH2 rfl rfl) rfl rfl) ?_
 refine gc (alv b n (by omega) (by omega)) ?_
 refine gL1 [1,19] [] (fun (i : Nat) => [(0,some (.ms 900 3 0 n)),(20,some (i64 i))]) (fun i => [(900,some (.row 3 (((acr a b).take i ++ (aau a n).drop i).map qA)))]) (fun i => i <= n) (fun i => n - i) 0 (zero_le _) ?_
 rintro i hi K1 hK1
 refine gC (fun ht21 => ?_) (fun ht21 => ?_) (st2 := (8,0))
 ·have hin : i < n := by simpa [aaa] using ht21
  have hmx := avr (p := acr a b) (w := aau a n) (i := i) (by omega) (by omega)
  have hqa := (qa _ (aka (i := i) (by omega))).ok
  have hqb := (qb _ (aka (i := i) (by omega))).ok
  refine gs (aaq (n := i) (.tmp rfl) (.tmp rfl) T38 rfl T82 rfl (by omega) (by omega) rfl) ?_
  refine gs (aay (.tmp rfl) rfl (aae hmx) T82 rfl rfl rfl) ?_
  refine gi (aae (getD_some (i := i) (l := aau b n) (by omega))) ?_
  refine gc (adp (rt ((aau a n).getD i 0)) (rt ((aau b n).getD i 0)) hqa hqb) ?_
  refine gs (aaq (n := i) (.tmp rfl) (.tmp rfl) T38 rfl T82 rfl (by omega) (by omega) rfl) ?_
  refine gs (abk (.tmp rfl) rfl (aae hmx) rfl (.tmp rfl) rfl rfl T82 rfl rfl) ?_
  refine gD ?_ (7,0)
  refine gW (Wk.of (sl := [(0,some (.ms 900 3 0 n)),(1,some (nA (aau b n))),(19,some (i64 n)),(20,some (i64 i))]) (hp := [(900,some (.row 3 (((acr a b).take (i + 1) ++ (aau a n).drop (i + 1)).map qA)))]) abq (.cons rfl (BlkSub.of (by rw [ap9 (by omega) (by omega) (by rw [ax8,<- hn,agh,agh])])) .nil)) ?_
  refine ga aas ?_
  exact gK1 hK1 (i + 1) hin
 ·have hin : i = n := by have : n <= i := (by simpa [aaa] using ht21); omega
  refine gW ((Wk.freeze (k := 900) rfl).trans <| Wk.of (sl := [(0,some (nA (acr a b)))]) (hp := []) (.cons rfl (Sub.of (by rw [abw (by simp; omega),hin,List.drop_of_length_le (by omega),take_of_length_le (by omega),List.append_nil]; rfl)) .nil) .nil) ?_
  refine gE1 ?_
  rfl
theorem ae9 (a : List Rat) (ha : ∀ q ∈ a, Qs q) (la : a.length <= 1099511627776) : FnC prog 269 [nA a] (nA (acf a)) := by
 obtain ⟨n,hn⟩ : ∃ n,n = a.length := ⟨_,rfl⟩
 refine gF0 func269 ?_
 refine gl ?_
 refine gs (afh (.tmp rfl) T38 rfl T82 rfl rfl (by omega) (by dsimp only; omega) rfl) ?_ (2,0)
 refine gW (Wk.of (sl := [(0,some (nA a)),(3,some (.ms 7 3 0 n))]) (hp := [(7,some (.row 3 ((aau [] n).map qA)))]) (.k (.cons rfl (Sub.of (by simp [hn])) .nil)) (.cons rfl (BlkSub.of_ (axe [] n (by simp)) (by rw [hn]; rfl)) .nil)) ?_
 refine gl ?_
 refine gL1 [0] [] (fun (i : Nat) => [(3,some (.ms 7 3 0 n)),(9,some (i64 n)),(10,some (i64 i))]) (fun i => [(7,some (.row 3 (((acf a).take i ++ (aau [] n).drop i).map qA)))]) (fun i => i <= n) (fun i => n - i) 0 (zero_le _) ?_ (h1 := (.k (.cons rfl (Sub.int (by omega)) (.k .nil))))
 rintro i hi K1 hK1
 refine gC (fun ht11 => ?_) (fun ht11 => ?_) (st2 := (7,0))
 ·have hin : i < n := by simpa [aaa] using ht11
  have hm1 := act (a := a)
  have hm2 := abc (a := []) (n := n) (by simp)
  have hmx := avr (p := acf a) (w := aau [] n) (i := i) (by omega) (by omega)
  have hqa := (ha _ (aka (i := i) (by omega))).ok
  refine gi (aae (getD_some (i := i) (by omega))) ?_
  refine gc (adn (rt (a.getD i 0)) hqa) ?_
  refine gs (aaq (n := i) (.tmp rfl) (.tmp rfl) T38 rfl T82 rfl (by omega) (by omega) rfl) ?_
  refine gs (abk (.tmp rfl) rfl (aae hmx) rfl (.tmp rfl) rfl rfl T82 rfl rfl) ?_ (6,0)
  refine gW (Wk.of (sl := [(0,some (nA a)),(3,some (.ms 7 3 0 n)),(9,some (i64 n)),(10,some (i64 i))]) (hp := [(7,some (.row 3 (((acf a).take (i + 1) ++ (aau [] n).drop (i + 1)).map qA)))]) abq (.cons rfl (BlkSub.of (by rw [ap9 (by omega) (by omega) (by rw [a4w,agh])])) .nil)) ?_
  refine ga aas ?_
  exact gK1 hK1 (i + 1) hin
 ·have hin : i = n := by have : n <= i := (by simpa [aaa] using ht11); omega
  have hm1 := act (a := a)
  have hm2 := abc (a := []) (n := n) (by simp)
  refine gW ((Wk.freeze (k := 7) rfl).trans <| Wk.of (sl := [(3,some (nA (acf a)))]) (hp := []) (.cons rfl (Sub.of (by rw [abw (by simp; omega),hin,List.drop_of_length_le (by omega),take_of_length_le (by omega),List.append_nil]; rfl)) .nil) .nil) ?_
  refine gE1 ?_
  rfl
theorem alr (a b : List Rat) (n : Nat) (la : a.length <= n) (lb : b.length <= n) (hn : n <= 274877906944) : FnC prog 368 [nA a, nA b, i64 n] (nA (ahg a b n)) := by
 refine gF0 func368 ?_
 refine gt (aa9 (agw 900 rfl a n la (by omega)) (.cons (.tmp rfl) (.cons (.tmp rfl) .nil)) (by first | exact hH0 | exact hH1 rfl | exact hH2 rfl rfl) rfl rfl) ?_
 refine gc (alv b n lb (by omega)) ?_
 refine gs (ado (.tmp rfl) rfl (by simp [abc la]) (.tmp rfl) T38 rfl T82 rfl rfl (by simp [abc lb]; omega) rfl rfl) ?_
 refine gE1 ?_
 rw [<- map_append]; rfl
end Go.Lw
namespace Go.Lw
open Go.Proofs
theorem ae8 (ts : List (List Rat)) (m r : Nat) (ht : az3 ts m r) (hm : m <= 5) (hml : m <= ts.length) (k : Nat) : ∀ (j : Nat) (a b : List Rat) (e f : Nat), j <= m -> j <= k -> Nl j a -> Nl j b -> Cb e a -> Cb f b -> e + f + eB r j < 4398046511104 ->
  FnC prog 286 [ao0 ts,nA a,nA b] (nA (pT ts k a b)) := by
 induction k using Nat.strongRecOn
 rename_i k ih
 intro j a b e f hj hjk ha hb ca cb hs
 have hla := ha.len5 (by omega)
 have hlb := hb.len5 (by omega)
 refine gF0 func286 ?_
 refine gl ?_
 refine gl ?_
 refine gJ4 [3] [3] (fun (x y : List Rat) (e1 f1 : Nat) => [(1,some (nA x)),(2,some (nA y))]) (fun _ _ _ _ => []) (fun x y e1 f1 => y.length <= x.length /\ Nl j x /\ Nl j y /\ Cb e1 x /\ Cb f1 y /\ e1 + f1 = e + f /\ pT ts k a b = pT ts k x y) ?_ ?_
 ·intro K1 hK1
  refine gC (fun ht18 => ?_) (fun ht18 => ?_)
  ·have h1 : a.length < b.length := by have := ht18; simp only [aaa, decide_eq_true_eq] at this; omega
   exact jK4 hK1 b a f e ⟨by omega,hb,ha,cb,ca,by omega,auy ts k a b h1⟩
  ·have h1 : b.length <= a.length := by have := ht18; simp only [aaa, decide_eq_false_iff_not] at this; omega
   exact jK4 hK1 a b e f ⟨h1,ha,hb,ca,cb,rfl,rfl⟩
 ·rintro x y e1 f1 ⟨hyx, hx, hy, cx, cy, hef, hp⟩
  have hlx := hx.len5 (by omega)
  have hly := hy.len5 (by omega)
  have qx : ∀ q ∈ x,Qs q := fun q hq => cx.qs (by omega) hq
  have qy : ∀ q ∈ y,Qs q := fun q hq => cy.qs (by omega) hq
  rw [hp]
  refine gc (alj x qx (by omega)) ?_
  refine gcG (fun _ => (alj y qy (by omega))) ?_
  refine gC (fun ht21 => ?_) (fun ht21 => ?_)
  ·have h1 : abl x = true \/ abl y = true := by
    have := ht21
    cases hz : abl x
    ·rw [hz] at this; exact .inr this
    ·exact .inl rfl
   refine gR ?_
   exact ad9 (by rw [a9s hyx h1]; exact Sub.nil _ _ _)
  ·have h1 : ¬ (abl x = true \/ abl y = true) := by
    have := ht21
    cases hz : abl x
    ·rw [hz] at this; intro h; rcases h with h | h; cases h; (rw [show abl y = false from this] at h; cases h)
    ·rw [hz] at this; cases this
   refine gl ?_
   refine gC (fun ht28 => ?_) (fun ht28 => ?_)
   ·have h2 : x.length = 1 := by have := ht28; simp only [aaa, beq_iff_eq] at this; omega
    obtain ⟨p,rfl⟩ := List.length_eq_one_iff.1 h2
    have h3 : y ≠ [] := fun h => h1 (.inr (by rw [h]; rfl))
    obtain ⟨q,rfl⟩ : ∃ q,y = [q] := List.length_eq_one_iff.1 (by have := List.length_pos_iff.2 h3; simp at hyx; omega)
    refine gi rfl ?_
    refine gi rfl ?_
    refine gc (ai1 (rt p) (rt q) (qx p (by simp)).ok (qy q (by simp)).ok) ?_
    refine gD ?_
    refine gE1 ?_
    rw [bd2 h1,agh,agh]; rfl
   ·have h2 : x.length ≠ 1 := by have := ht28; simp only [aaa, beq_eq_false_iff_ne, ne_eq] at this; omega
    have h3 : x ≠ [] := fun h => h1 (.inl (by rw [h]; rfl))
    obtain ⟨i, hij, hxl⟩ : ∃ i, i + 1 <= j /\ x.length = 2 ^ (i + 1) := by
     rcases ah9 hx with h | h | h
     ·exact absurd (List.length_eq_zero_iff.1 h) h3
     ·exact absurd h h2
     ·exact h
    obtain ⟨k',rfl⟩ : ∃ k',k = k' + 1 := ⟨k - 1,by omega⟩
    have hp2 := Nat.two_pow_pos i
    have hpi : 2 ^ i <= 32 := abv (b := 5) (by omega)
    have hps : 2 ^ (i + 1) = 2 * 2 ^ i:=by rw [Nat.pow_succ]; omega
    have hes : eB r (i + 1) <= eB r j := a71 r hij
    have hee : eB r (i + 1) = 2 * eB r i + r + 2 := rfl
    have n1 : Nl i (x.take (2 ^ i)) := .inr ⟨i,le_refl _,ac7 hxl⟩
    have n2 : Nl i (x.drop (2 ^ i)) := .inr ⟨i,le_refl _,adk hxl⟩
    refine gl ?_
    refine gs (adl (.tmp rfl) (.const _) (by omega) (show _ = ((2 ^ i : Nat) : Int) by rw [acd (by omega),hxl,ab0]) rfl) ?_
    refine gs (aam (.tmp rfl) (.none _) (.some _ (.tmp rfl) (by omega)) T38 rfl T82 rfl (by omega) (by simp only [length_map]; omega) rfl) ?_
    refine gs (aam (.tmp rfl) (.some _ (.tmp rfl) (by omega)) (.none _) T38 rfl T82 rfl (by simp only [length_map]; omega) (by omega) rfl) ?_
    refine gD ?_ (9,0)
    refine gW (Wk.of (sl := [(1,some (nA x)),(2,some (nA y)),(3,some (.ptr 3 0)),(7,some (i64 ((2 ^ i : Nat) : Int))),(8,some (nA (x.take (2 ^ i)))),(9,some (nA (x.drop (2 ^ i))))]) (hp := [(3,some (.box [.lst 1 (ts.map nA)]))]) (.k (.k (.k (.k (.cons rfl (Sub.of (ahu x (2 ^ i))) (.cons rfl (Sub.of (aft x (2 ^ i))) .nil)))))) (.cons rfl (.refl _) .nil)) ?_
    refine gl ?_
    refine gC (fun ht52 => ?_) (fun ht52 => ?_)
    ·have h4 : y.length <= 2 ^ i := by have := ht52; simp only [aaa, decide_eq_true_eq] at this; omega
     have n3 : Nl i y := a3m hy h4
     have s1 := adt ts m ht.1 i k' _ _ (by omega) (by omega) n1 n3
     have s2 := adt ts m ht.1 i k' _ _ (by omega) (by omega) n2 n3
     refine gc (ih k' (by omega) i _ _ e1 f1 (by omega) (by omega) n1 n3 cx.take cy (by omega)) ?_
     refine gc (ih k' (by omega) i _ _ e1 f1 (by omega) (by omega) n2 n3 cx.drop cy (by omega)) ?_
     refine gc (alr _ _ (2 ^ i) s1.1.le s2.1.le (by omega)) ?_
     refine gD ?_
     refine gE1 ?_
     rw [bb7 hxl h4 h1]
    ·have h4 : ¬ y.length <= 2 ^ i := by have := ht52; simp only [aaa, decide_eq_false_iff_not] at this; omega
     have hyl := bbv hy h4 (by omega)
     have n3 : Nl i (y.take (2 ^ i)) := .inr ⟨i,le_refl _,ac7 hyl⟩
     have n4 : Nl i (y.drop (2 ^ i)) := .inr ⟨i,le_refl _,adk hyl⟩
     have nd := ht.1 i (by omega)
     have cd := ht.2.cb i
     have s1 := adt ts m ht.1 i k' _ _ (by omega) (by omega) n1 n3
     have s2 := adt ts m ht.1 i k' _ _ (by omega) (by omega) n2 n4
     have s3 := adt ts m ht.1 i k' _ _ (by omega) (by omega) s2.1 nd
     have s4 := adt ts m ht.1 i k' _ _ (by omega) (by omega) n1 n4
     have s5 := adt ts m ht.1 i k' _ _ (by omega) (by omega) n2 n3
     have c1 := Cb.mul ht (k := k') (show i <= m by omega) (by omega) n1 n3 cx.take cy.take
     have c2 := Cb.mul ht (k := k') (show i <= m by omega) (by omega) n2 n4 cx.drop cy.drop
     have c3 := Cb.mul ht (k := k') (show i <= m by omega) (by omega) s2.1 nd c2 cd
     have c4 := Cb.mul ht (k := k') (show i <= m by omega) (by omega) n1 n4 cx.take cy.drop
     have c5 := Cb.mul ht (k := k') (show i <= m by omega) (by omega) n2 n3 cx.drop cy.take
     have hpT := a9r (ts := ts) (k := k') hxl h4 hyx h1
     refine gs (aam (.tmp rfl) (.none _) (.some _ (.tmp rfl) (by omega)) T38 rfl T82 rfl (by omega) (by simp only [length_map]; omega) rfl) ?_
     refine gs (aam (.tmp rfl) (.some _ (.tmp rfl) (by omega)) (.none _) T38 rfl T82 rfl (by simp only [length_map]; omega) (by omega) rfl) ?_
     refine gD ?_ (12,0)
     refine gW (Wk.of (sl := [(1,some (nA x)),(3,some (.ptr 3 0)),(7,some (i64 ((2 ^ i : Nat) : Int))),(8,some (nA (x.take (2 ^ i)))),(9,some (nA (x.drop (2 ^ i)))),(10,some (nA (y.take (2 ^ i)))),(11,some (nA (y.drop (2 ^ i))))]) (hp := [(3,some (.box [.lst 1 (ts.map nA)]))]) (.k (.k (.k (.k (.k (.cons rfl (Sub.of (ahu y (2 ^ i))) (.cons rfl (Sub.of (aft y (2 ^ i))) .nil))))))) (.cons rfl (.refl _) .nil)) ?_
     refine gc (ad8 qA x (by omega)) ?_
     refine ga (show _ = (i : Int) by rw [hxl,akz,abd (by omega)]; omega) ?_
     refine gi (axd (j := i) (by omega)) ?_
     refine gD ?_
     refine gc (ih k' (by omega) i _ _ e1 f1 (by omega) (by omega) n1 n3 cx.take cy.take (by omega)) ?_
     refine gc (ih k' (by omega) i _ _ e1 f1 (by omega) (by omega) n2 n4 cx.drop cy.drop (by omega)) ?_
     refine gc (ih k' (by omega) i _ _ _ _ (by omega) (by omega) s2.1 nd c2 cd (by omega)) ?_
     refine gc (adx _ _ (fun q hq => c1.qs (by omega) hq) (fun q hq => c3.qs (by omega) hq) (by have := s1.1.le; omega) (by have := s3.1.le; omega)) ?_
     refine gD ?_
     refine gc (ih k' (by omega) i _ _ e1 f1 (by omega) (by omega) n1 n4 cx.take cy.drop (by omega)) ?_
     refine gc (ih k' (by omega) i _ _ e1 f1 (by omega) (by omega) n2 n3 cx.drop cy.take (by omega)) ?_
     refine gc (adx _ _ (fun q hq => c4.qs (by omega) hq) (fun q hq => c5.qs (by omega) hq) (by have := s4.1.le; omega) (by have := s5.1.le; omega)) ?_
     refine gc (alr _ _ (2 ^ i) (by have := s1.1.le; have := s3.1.le; rw [abj]; omega) (by have := s4.1.le; have := s5.1.le; rw [abj]; omega) (by omega)) ?_
     refine gD ?_
     refine gE1 ?_
     rw [hpT]
theorem as0 (ts : List (List Rat)) (m r : Nat) (ht : az3 ts m r) (hm : m <= 5) (hml : m <= ts.length) (i : Nat) (a : List Rat) (e : Nat) (hi : i + 1 <= m) (hal : a.length = 2 ^ (i + 1)) (ca : Cb e a) (hs : 4 * e + 3 * eB r i + r + 1 < 4398046511104) :
  FnC prog 351 [ao0 ts,nA a] (nA (amv ts i a)) := by
 have hp2 := Nat.two_pow_pos i
 have hpi : 2 ^ i <= 32 := abv (b := 5) (by omega)
 have hps : 2 ^ (i + 1) = 2 * 2 ^ i:=by rw [Nat.pow_succ]; omega
 have n1 : Nl i (a.take (2 ^ i)) := .inr ⟨i,le_refl _,ac7 hal⟩
 have n2 : Nl i (a.drop (2 ^ i)) := .inr ⟨i,le_refl _,adk hal⟩
 have nd := ht.1 i (by omega)
 have cd := ht.2.cb i
 have s1 := adt ts m ht.1 i i _ _ (by omega) (by omega) n1 n1
 have s2 := adt ts m ht.1 i i _ _ (by omega) (by omega) n2 n2
 have s3 := adt ts m ht.1 i i _ _ (by omega) (by omega) s2.1 nd
 have c1 := Cb.mul ht (k := i) (show i <= m by omega) (by omega) n1 n1 ca.take ca.take
 have c2 := Cb.mul ht (k := i) (show i <= m by omega) (by omega) n2 n2 ca.drop ca.drop
 have c3 := Cb.mul ht (k := i) (show i <= m by omega) (by omega) s2.1 nd c2 cd
 refine gF0 func351 ?_
 refine gl ?_
 refine gs (adl (.tmp rfl) (.const _) (by omega) (show _ = ((2 ^ i : Nat) : Int) by rw [acd (by omega),hal,ab0]) rfl) ?_
 refine gs (aam (.tmp rfl) (.none _) (.some _ (.tmp rfl) (by omega)) T38 rfl T82 rfl (by omega) (by simp only [length_map]; omega) rfl) ?_
 refine gs (aam (.tmp rfl) (.some _ (.tmp rfl) (by omega)) (.none _) T38 rfl T82 rfl (by simp only [length_map]; omega) (by omega) rfl) ?_
 refine gD ?_ (3,0)
 refine gW (Wk.of (sl := [(1,some (nA a)),(2,some (.ptr 2 0)),(6,some (nA (a.take (2 ^ i)))),(7,some (nA (a.drop (2 ^ i))))]) (hp := [(2,some (.box [.lst 1 (ts.map nA)]))]) (.k (.k (.cons rfl (Sub.of (ahu a (2 ^ i))) (.cons rfl (Sub.of (aft a (2 ^ i))) .nil)))) (.cons rfl (.refl _) .nil)) ?_
 refine gc (ae8 ts m r ht hm hml i i _ _ e e (by omega) (by omega) n1 n1 ca.take ca.take (by omega)) ?_
 refine gc (ae8 ts m r ht hm hml i i _ _ e e (by omega) (by omega) n2 n2 ca.drop ca.drop (by omega)) ?_
 refine gc (ad8 qA a (by omega)) ?_
 refine ga (show _ = (i : Int) by rw [hal,akz,abd (by omega)]; omega) ?_
 refine gi (axd (j := i) (by omega)) ?_
 refine gc (ae8 ts m r ht hm hml i i _ _ _ _ (by omega) (by omega) s2.1 nd c2 cd (by omega)) ?_
 refine gc (ae9 _ (fun q hq => c3.qs (by omega) hq) (by have := s3.1.le; omega)) ?_
 refine gc (adx _ _ (fun q hq => c1.qs (by omega) hq) (fun q hq => c3.minus.qs (by omega) hq) (by have := s1.1.le; omega) (by have := s3.1.le; rw [act]; omega)) ?_
 refine gD ?_
 refine gE1 ?_
 rfl
theorem ahz (ts : List (List Rat)) (m r : Nat) (ht : az3 ts m r) (hm : m <= 5) (hml : m <= ts.length) (j : Nat) : ∀ (a : List Rat) (e : Nat), j <= m -> Nl j a -> Cb e a -> sB r j e < 4398046511104 ->
  FnC prog 263 [ao0 ts,nA a] (i64 (T.sgn (aaz ts) j (dec j a))) := by
 induction j using Nat.strongRecOn
 rename_i j ih
 intro a e hj ha ca hs
 have hse := a1w r j e
 have qa : ∀ q ∈ a,Qs q := fun q hq => ca.qs (by omega) hq
 obtain ⟨s,hsa⟩ : ∃ s,s = sh j (dec j a) := ⟨_,rfl⟩
 have hsd : dec j s = dec j a:=by rw [hsa,ag9]
 have hsn : Nl j s:=by rw [hsa]; exact aox j _
 have cs : Cb e s:=by rw [hsa]; exact ca.sh ha
 have hls := hsn.len5 (by omega)
 rw [<- hsd]
 refine gF0 func263 ?_
 refine gc (hsa ▸ ade a (by omega) ha qa) ?_
 refine gl ?_
 refine gC (fun ht12 => ?_) (fun ht12 => ?_)
 ·have h1 : s = [] := List.length_eq_zero_iff.1 (by have := ht12; simp only [aaa, beq_iff_eq] at this; omega)
  refine gE1 ?_
  rw [h1,afe,T.sgn_zero]; rfl
 ·have h1 : s.length ≠ 0 := by have := ht12; simp only [aaa, beq_eq_false_iff_ne, ne_eq] at this; omega
  refine gl ?_
  refine gC (fun ht15 => ?_) (fun ht15 => ?_)
  ·have h2 : s.length = 1 := by have := ht15; simp only [aaa, beq_iff_eq] at this; omega
   obtain ⟨q,rfl⟩ := List.length_eq_one_iff.1 h2
   refine gi rfl ?_
   refine gc (ad6 (rt q) (cs.qs (by omega) (by simp : q ∈ [q])).ok) ?_
   refine gE1 ?_
   rw [akw,T.sgn_ofQ,agh]
  ·have h2 : s.length ≠ 1 := by have := ht15; simp only [aaa, beq_eq_false_iff_ne, ne_eq] at this; omega
   obtain ⟨i, hij, hsl⟩ : ∃ i, i + 1 <= j /\ s.length = 2 ^ (i + 1) := by
    rcases ah9 hsn with h | h | h
    ·exact absurd h h1
    ·exact absurd h h2
    ·exact h
   have hp2 := Nat.two_pow_pos i
   have hpi : 2 ^ i <= 32 := abv (b := 5) (by omega)
   have hps : 2 ^ (i + 1) = 2 * 2 ^ i:=by rw [Nat.pow_succ]; omega
   have n1 : Nl i (s.take (2 ^ i)) := .inr ⟨i,le_refl _,ac7 hsl⟩
   have n2 : Nl i (s.drop (2 ^ i)) := .inr ⟨i,le_refl _,adk hsl⟩
   have nd := ht.1 i (by omega)
   have cd := ht.2.cb i
   obtain ⟨nn,dn,cn⟩ := ayz ht (by omega) hsl cs
   have b1 : sB r i (4 * e + 3 * eB r i + r + 1) <= sB r j e := axb r e hij
   have b2 : sB r i e <= sB r i (4 * e + 3 * eB r i + r + 1) := aks r i (by omega)
   have b3 : sB r i r <= sB r i (4 * e + 3 * eB r i + r + 1) := aks r i (by omega)
   have b4 := a1w r i (4 * e + 3 * eB r i + r + 1)
   have k1 := ih i (by omega) (s.take (2 ^ i)) e (by omega) n1 cs.take (by omega)
   have k2 := ih i (by omega) (s.drop (2 ^ i)) e (by omega) n2 cs.drop (by omega)
   have k3 := ih i (by omega) _ r (by omega) nd cd (by omega)
   have k4 := ih i (by omega) _ _ (by omega) nn cn (by omega)
   have hres : T.sgn (aaz ts) j (dec j s) = T.sgn3 (T.sgn (aaz ts) i (dec i (s.take (2 ^ i)))) (T.sgn (aaz ts) i (dec i (s.drop (2 ^ i)))) (T.sgn (aaz ts) i (dec i (ts.getD i []))) (T.sgn (aaz ts) i (dec i (amv ts i s))) := by
    rw [a2i _ (by omega) hij,dn]; rfl
   have v1 := T.sgn_cases (aaz ts) i (dec i (s.take (2 ^ i)))
   have v4 := T.sgn_cases (aaz ts) i (dec i (amv ts i s))
   refine gl ?_
   refine gs (adl (.tmp rfl) (.const _) (by omega) (show _ = ((2 ^ i : Nat) : Int) by rw [acd (by omega),hsl,ab0]) rfl) ?_
   refine gs (aam (.tmp rfl) (.none _) (.some _ (.tmp rfl) (by omega)) T38 rfl T82 rfl (by omega) (by simp only [length_map]; omega) rfl) ?_
   refine gc (by have h9 := k1; rw [<- ahu] at h9; exact h9) ?_
   refine gs (aam (.tmp rfl) (.some _ (.tmp rfl) (by omega)) (.none _) T38 rfl T82 rfl (by simp only [length_map]; omega) (by omega) rfl) ?_
   refine gc (by have h9 := k2; rw [<- aft] at h9; exact h9) ?_
   refine gD ?_
   refine gc (ad8 qA s (by omega)) ?_
   refine ga (show _ = (i : Int) by rw [hsl,akz,abd (by omega)]; omega) ?_
   refine gi (axd (j := i) (by omega)) ?_
   refine gc k3 ?_
   refine gD ?_
   refine gC (fun ht42 => ?_) (fun ht42 => ?_)
   ·have e1 : T.sgn (aaz ts) i (dec i (ts.getD i [])) = 0 := by simpa [aaa] using ht42
    refine gE1 ?_
    rw [hres]; unfold T.sgn3; rw [if_pos e1]
   ·have e1 : ¬ T.sgn (aaz ts) i (dec i (ts.getD i [])) = 0 := by simpa [aaa] using ht42
    refine gC (fun ht44 => ?_) (fun ht44 => ?_)
    ·have e2 : T.sgn (aaz ts) i (dec i (s.take (2 ^ i))) = T.sgn (aaz ts) i (dec i (s.drop (2 ^ i))) \/ T.sgn (aaz ts) i (dec i (s.drop (2 ^ i))) = 0 := au3 ht44
     refine gE1 ?_
     rw [hres]; unfold T.sgn3; rw [if_neg e1,if_pos e2]
    ·have e2 : ¬ (T.sgn (aaz ts) i (dec i (s.take (2 ^ i))) = T.sgn (aaz ts) i (dec i (s.drop (2 ^ i))) \/ T.sgn (aaz ts) i (dec i (s.drop (2 ^ i))) = 0) := ap1 ht44
     refine gC (fun ht53 => ?_) (fun ht53 => ?_)
     ·have e3 : T.sgn (aaz ts) i (dec i (s.take (2 ^ i))) = 0 := by simpa [aaa] using ht53
      refine gE1 ?_
      rw [hres]; unfold T.sgn3; rw [if_neg e1,if_neg e2,if_pos e3]
     ·have e3 : ¬ T.sgn (aaz ts) i (dec i (s.take (2 ^ i))) = 0 := by simpa [aaa] using ht53
      refine gc (as0 ts m r ht hm hml i s e (by omega) hsl cs (by omega)) ?_
      refine gc k4 ?_
      refine ga (am6 v1 v4) ?_
      refine gD ?_
      refine gE1 ?_
      rw [hres]; unfold T.sgn3; rw [if_neg e1,if_neg e2,if_neg e3]; rfl
end Go.Lw
namespace Go.Lw
open Go.Proofs
theorem ajx (rs : List (List Rt)) (r : Nat) (h : TR rs r) : FnC prog 145 [aor rs] (ain (anl rs)) := by
 have hll := h.ll
 have hr := h.le
 refine gF0 func145 ?_
 refine gl ?_
 refine gC (fun ht10 => ?_) (fun ht10 => ?_)
 ·have h5 : 5 < rs.length := by have := ht10; simp only [aaa, decide_eq_true_eq] at this; omega
  refine gE1 ?_
  rw [aw9 h5]; rfl
 ·have h5 : rs.length <= 5 := by have := ht10; simp only [aaa, decide_eq_false_iff_not] at this; omega
  refine gl ?_
  refine gL1 [1,13,14] [1] (fun (k : Nat) => [(15,some (i64 k))]) (fun _ => []) (fun k => k <= rs.length /\ ∀ j,j < k -> avc rs j) (fun k => rs.length - k) 0 ⟨zero_le _,fun j hj => by omega⟩ ?_
  rintro k ⟨hk,hj⟩ K1 hK1
  refine gC (fun ht16 => ?_) (fun ht16 => ?_)
  ·have hin : k < rs.length := by simpa [aaa] using ht16
   obtain ⟨d,hd⟩ := ab6 hin
   have hdm := mem_of_getElem? hd
   have hdl := h.len d hdm
   refine gi (aae hd) ?_
   refine gl ?_
   refine gs (aga (.const _) (.tmp rfl) (by omega) (akn (by omega)) rfl) ?_
   refine gC (fun ht24 => ?_) (fun ht24 => ?_)
   ·have h1 : d.length ≠ 2 ^ k := by have := ht24; simp only [aaa, bne_iff_ne, ne_eq] at this; omega
    refine gE1 ?_
    rw [axz h5 hd hj h1]; rfl
   ·have h1 : d.length = 2 ^ k := by have := ht24; simp only [aaa, bne_eq_false_iff_eq] at this; omega
    have htl : (rs.take k).length = k:=by simp; omega
    have hnu := ai2 (rs.take k) d (h.ok d hdm) hdl (by omega)
    rw [htl] at hnu
    refine gs (aam (.tmp rfl) (.none _) (.some _ (.tmp rfl) (by omega)) T27 rfl T38 rfl (by omega) (by simp only [length_map]; omega) rfl) ?_ (9,0)
    refine gW (Wk.of (sl := [(1,some (.ptr 1 0)),(3,some (i64 k)),(4,some (nR d)),(5,some (.ptr 5 0)),(13,some (.lst 1 (rs.map nR))),(14,some (i64 rs.length)),(15,some (i64 k))]) (hp := [(1,some (.box [.lst 1 (rs.map nR)])),(5,some (.box [.lst 1 ((rs.take k).map nR)]))]) abq (.cons rfl (.refl _) (.cons rfl (BlkSub.boxL (.cons (.of (a7q nR rs k)) .nil) rfl) .nil))) ?_
    refine gc hnu ?_
    refine gC (fun ht35 => ?_) (fun ht35 => ?_)
    ·have h2 := aec ht35
     refine gE1 ?_
     rw [awv h5 hd hj h1 h2]
    ·have h2 := aee ht35
     have hts := arv (ts := llq rs) (fun j hjk => (hj j hjk).nl) h.rb
     have hq := arg h2 (h.ok d hdm)
     have hcb : Cb r (lq d):=by have := h.rb.cb k; rw [ajv,getD_eq_getElem?_getD,hd] at this; exact this
     have hsg : FnC prog 263 [aor (rs.take k), nR d] (i64 (T.sgn (aaz (llq rs)) k (dec k (lq d)))) := by
      have h9 := ahz ((llq rs).take k) k r hts (by omega) (by simp; omega) k (lq d) r (le_refl _) hq.2 hcb (a2u (le_refl k) (by have := h.three; omega) hr (by have := bfr k; omega))
      rw [T.sgn_congr k (fun j hjk => aig hjk)] at h9
      rw [a0v h.ok (by omega) hj,hq.1,ahs]
      rw [<- hq.1]; exact h9
     refine gc hsg ?_
     refine gC (fun ht40 => ?_) (fun ht40 => ?_)
     ·have h3 : T.sgn (aaz (llq rs)) k (dec k (lq d)) < 0 := by simpa [aaa] using ht40
      refine gE1 ?_
      rw [av9 h5 hd hj h1 h2 h3]; rfl
     ·have h3 : ¬ T.sgn (aaz (llq rs)) k (dec k (lq d)) < 0 := by simpa [aaa] using ht40
      refine ga aas ?_
      exact gK1 hK1 (k + 1) ⟨hin,fun j hjk => by rcases lt_or_ge j k with h9 | h9; exact hj j h9; (have : j = k:=by omega); subst this; exact a4v hd h1 h2 h3⟩
  ·have hin : k = rs.length := by have : rs.length <= k := (by simpa [aaa] using ht16); omega
   subst hin
   refine gE1 ?_
   rw [axp h5 hj]; rfl
theorem acw (rs : List (List Rt)) (r : Nat) (h : TR rs r) (xs : List (List Rt)) (hx : ∀ a ∈ xs, (∀ x ∈ a, x.ok) /\ a.length <= 281474976710656) (hl : xs.length <= 281474976710656) : FnC prog 267 [aor rs, .lst 1 (xs.map nR)] (ain (acj rs xs)) := by
 refine gF0 func267 ?_
 refine gc (ajx rs r h) ?_
 refine gC (fun ht12 => ?_) (fun ht12 => ?_)
 ·have h1 := aec ht12
  refine gE1 ?_
  rw [ayf h1]
 ·have h1 := aee ht12
  refine gl ?_
  refine gL1 [2,14,15] [2] (fun (i : Nat) => [(16,some (i64 i))]) (fun _ => []) (fun i => i <= xs.length /\ ∀ x ∈ xs.take i,ais rs.length x = 0) (fun i => xs.length - i) 0 ⟨zero_le _,fun x hx => by simp at hx⟩ ?_
  rintro i ⟨hi,hj⟩ K1 hK1
  refine gC (fun ht17 => ?_) (fun ht17 => ?_)
  ·have hin : i < xs.length := by simpa [aaa] using ht17
   obtain ⟨a,ha⟩ := ab6 hin
   have hok := hx a (mem_of_getElem? ha)
   refine gi (aae ha) ?_
   refine gc (ai2 rs a hok.1 hok.2 h.ll) ?_
   refine gC (fun ht24 => ?_) (fun ht24 => ?_)
   ·have h2 := aec ht24
    refine gE1 ?_
    rw [a2x h1 ha hj h2]
   ·have h2 := aee ht24
    refine ga aas ?_
    exact gK1 hK1 (i + 1) ⟨hin,fun x hx => by rw [aax ha] at hx; rcases List.mem_append.1 hx with h9 | h9; exact hj x h9; (rw [List.mem_singleton.1 h9]; exact h2)⟩
  ·have hin : i = xs.length := by have : xs.length <= i := (by simpa [aaa] using ht17); omega
   subst hin
   rw [take_length] at hj
   refine gE1 ?_
   rw [aq3 h1 hj]; rfl
theorem au7 (rs : List (List Rt)) (r : Nat) (h : TR rs r) (a : List Rt) (e : Nat) (ha : NR a e) (he : e <= lm rs.length) :
  FnC prog 148 [aor rs,nR a] (.tup [nA (if acj rs [a] = 0 then sh rs.length (T.neg rs.length (dec rs.length (lq a))) else []),ain (acj rs [a])]) := by
 have hlm := aty rs.length
 refine gF0 func148 ?_
 refine gc (acw rs r h [a] (fun x hx => by rw [List.mem_singleton.1 hx]; exact ⟨ha.ok,ha.len⟩) (by simp)) ?_
 refine gC (fun ht12 => ?_) (fun ht12 => ?_) (st2 := (77777,0))
 ·have h1 := aec ht12
  refine gR ?_
  exact ae5 (by rw [if_neg h1]; exact Sub.tup (.cons (.nil _ _ _) (.cons (.refl _) .nil)))
 ·have h1 := aee ht12
  obtain ⟨h2,h3⟩ := ai6 h1
  obtain ⟨tw,_⟩ := alg h h2
  obtain ⟨e1,na⟩ := ha.num (h3 a (by simp))
  have h5 : rs.length <= 5:=by have := tw.five; rwa [length_map] at this
  have hl := na.len5 h5
  have qa : ∀ q ∈ lq a,Qs q := fun q hq => ha.cb.qs (by omega) hq
  have qm : ∀ q ∈ acf (lq a),Qs q := fun q hq => ha.cb.minus.qs (by omega) hq
  have nm := agt na
  refine gW (Wk.of (sl := [(1,some (nA (lq a))),(2,some (.ptr 2 0)),(6,some (ain (acj rs [a])))]) (hp := [(2,some (.box [.lst 1 (rs.map nR)]))]) (.cons rfl (Sub.of e1) (.k (.k .nil))) (.cons rfl (.refl _) .nil)) ?_
  refine gc (ae9 _ qa (by omega)) ?_
  refine gc (ade _ h5 nm qm) ?_
  refine gE2 ?_
  rw [if_pos h1,h1,aey]; rfl
theorem aud (rs : List (List Rt)) (r : Nat) (h : TR rs r) (a b : List Rt) (e f : Nat) (ha : NR a e) (hb : NR b f) (he : e + f <= lm rs.length) :
  FnC prog 231 [aor rs,nR a,nR b] (.tup [nA (if acj rs [a,b] = 0 then sh rs.length (T.add rs.length (dec rs.length (lq a)) (dec rs.length (lq b))) else []),ain (acj rs [a,b])]) := by
 have hlm := aty rs.length
 refine gF0 func231 ?_
 refine gc (acw rs r h [a,b] (aso ha hb) (by simp)) ?_
 refine gC (fun ht15 => ?_) (fun ht15 => ?_) (st2 := (77777,0))
 ·have h1 := aec ht15
  refine gR ?_
  exact ae5 (by rw [if_neg h1]; exact Sub.tup (.cons (.nil _ _ _) (.cons (.refl _) .nil)))
 ·have h1 := aee ht15
  obtain ⟨h2,h3⟩ := ai6 h1
  obtain ⟨tw,e0⟩ := alg h h2
  obtain ⟨e1,na⟩ := ha.num (h3 a (by simp))
  obtain ⟨e2,nb⟩ := hb.num (h3 b (by simp))
  have h5 : rs.length <= 5:=by have := tw.five; rwa [length_map] at this
  have hla := na.len5 h5
  have hlb := nb.len5 h5
  have qa : ∀ q ∈ lq a,Qs q := fun q hq => ha.cb.qs (by omega) hq
  have qb : ∀ q ∈ lq b,Qs q := fun q hq => hb.cb.qs (by omega) hq
  have qp : ∀ q ∈ acr (lq a) (lq b),Qs q := fun q hq => (ha.cb.plus hb.cb).qs (by omega) hq
  have np := ajm na nb
  refine gW (Wk.of (sl := [(1,some (nA (lq a))),(2,some (nA (lq b))),(3,some (.ptr 3 0)),(8,some (ain (acj rs [a,b])))]) (hp := [(3,some (.box [.lst 1 (rs.map nR)]))]) (.cons rfl (Sub.of e1) (.cons rfl (Sub.of e2) (.k (.k .nil)))) (.cons rfl (.refl _) .nil)) ?_
  refine gc (adx _ _ qa qb (by omega) (by omega)) ?_
  refine gc (ade _ h5 np qp) ?_
  refine gE2 ?_
  rw [if_pos h1,h1,adq]; rfl
theorem aux (rs : List (List Rt)) (r : Nat) (h : TR rs r) (a b : List Rt) (e f : Nat) (ha : NR a e) (hb : NR b f) (he : e + f <= lm rs.length) :
  FnC prog 163 [aor rs,nR a,nR b] (.tup [nA (if acj rs [a,b] = 0 then sh rs.length (T.add rs.length (dec rs.length (lq a)) (T.neg rs.length (dec rs.length (lq b)))) else []),ain (acj rs [a,b])]) := by
 have hlm := aty rs.length
 refine gF0 func163 ?_
 refine gc (acw rs r h [a,b] (aso ha hb) (by simp)) ?_
 refine gC (fun ht15 => ?_) (fun ht15 => ?_) (st2 := (77777,0))
 ·have h1 := aec ht15
  refine gR ?_
  exact ae5 (by rw [if_neg h1]; exact Sub.tup (.cons (.nil _ _ _) (.cons (.refl _) .nil)))
 ·have h1 := aee ht15
  obtain ⟨h2,h3⟩ := ai6 h1
  obtain ⟨tw,e0⟩ := alg h h2
  obtain ⟨e1,na⟩ := ha.num (h3 a (by simp))
  obtain ⟨e2,nb⟩ := hb.num (h3 b (by simp))
  have h5 : rs.length <= 5:=by have := tw.five; rwa [length_map] at this
  have hla := na.len5 h5
  have hlb := nb.len5 h5
  have qa : ∀ q ∈ lq a,Qs q := fun q hq => ha.cb.qs (by omega) hq
  have qb : ∀ q ∈ lq b,Qs q := fun q hq => hb.cb.qs (by omega) hq
  have qm : ∀ q ∈ acf (lq b),Qs q := fun q hq => hb.cb.minus.qs (by omega) hq
  have qp : ∀ q ∈ acr (lq a) (acf (lq b)),Qs q := fun q hq => (ha.cb.plus hb.cb.minus).qs (by omega) hq
  have np := ajm na (agt nb)
  refine gW (Wk.of (sl := [(1,some (nA (lq a))),(2,some (nA (lq b))),(3,some (.ptr 3 0)),(8,some (ain (acj rs [a,b])))]) (hp := [(3,some (.box [.lst 1 (rs.map nR)]))]) (.cons rfl (Sub.of e1) (.cons rfl (Sub.of e2) (.k (.k .nil)))) (.cons rfl (.refl _) .nil)) ?_
  refine gc (ae9 _ qb (by omega)) ?_
  refine gc (adx _ _ qa qm (by omega) (by rw [act]; omega)) ?_
  refine gc (ade _ h5 np qp) ?_
  refine gE2 ?_
  rw [if_pos h1,h1,adq,aey]; rfl
theorem aut (rs : List (List Rt)) (r : Nat) (h : TR rs r) (a b : List Rt) (e f : Nat) (ha : NR a e) (hb : NR b f) (he : e + f <= lm rs.length) :
  FnC prog 164 [aor rs,nR a,nR b] (.tup [nA (if acj rs [a,b] = 0 then sh rs.length (T.mul (aaz (llq rs)) rs.length (dec rs.length (lq a)) (dec rs.length (lq b))) else []),ain (acj rs [a,b])]) := by
 have hr := h.le
 have hlm := aty rs.length
 refine gF0 func164 ?_
 refine gc (acw rs r h [a,b] (aso ha hb) (by simp)) ?_
 refine gC (fun ht15 => ?_) (fun ht15 => ?_) (st2 := (77777,0))
 ·have h1 := aec ht15
  refine gR ?_
  exact ae5 (by rw [if_neg h1]; exact Sub.tup (.cons (.nil _ _ _) (.cons (.refl _) .nil)))
 ·have h1 := aee ht15
  obtain ⟨h2,h3⟩ := ai6 h1
  obtain ⟨tw,e0⟩ := alg h h2
  obtain ⟨e1,na⟩ := ha.num (h3 a (by simp))
  obtain ⟨e2,nb⟩ := hb.num (h3 b (by simp))
  have hlen : (llq rs).length = rs.length := length_map _
  have h5 : rs.length <= 5:=by have := tw.five; omega
  have hla := na.len5 h5
  have hlb := nb.len5 h5
  have htw := tw.ok
  rw [hlen] at htw
  have hE := bar r h5
  have np := adt (llq rs) rs.length htw.1 rs.length rs.length _ _ (le_refl _) (le_refl _) na nb
  have cp := Cb.mul htw (k := rs.length) (le_refl rs.length) (le_refl _) na nb ha.cb hb.cb
  have hti := ae8 (llq rs) rs.length r htw h5 (by omega) rs.length rs.length _ _ e f (le_refl _) (le_refl _) na nb ha.cb hb.cb (by omega)
  refine gW (Wk.of (sl := [(1,some (nA (lq a))),(2,some (nA (lq b))),(3,some (.ptr 3 0)),(8,some (ain (acj rs [a,b])))]) (hp := [(3,some (.box [.lst 1 ((llq rs).map nA)]))]) (.cons rfl (Sub.of e1) (.cons rfl (Sub.of e2) (.k (.k .nil)))) (.cons rfl (BlkSub.boxL (.cons (.of (aq1 e0)) .nil) rfl) .nil)) ?_
  refine gc hti ?_
  refine gc (ade _ h5 np.1 (fun q hq => cp.qs (by omega) hq)) ?_
  refine gE2 ?_
  rw [if_pos h1,h1,np.2]; rfl
theorem auc (rs : List (List Rt)) (r : Nat) (h : TR rs r) (a b : List Rt) (e f : Nat) (ha : NR a e) (hb : NR b f) (he : e + f + 1 <= lm rs.length) :
  FnC prog 449 [aor rs,nR a,nR b] (.tup [i64 (if acj rs [a,b] = 0 then T.sgn (aaz (llq rs)) rs.length (T.add rs.length (dec rs.length (lq a)) (T.neg rs.length (dec rs.length (lq b)))) else 0),ain (acj rs [a,b])]) := by
 have hr := h.le
 have hlm := aty rs.length
 refine gF0 func449 ?_
 refine gc (acw rs r h [a,b] (aso ha hb) (by simp)) ?_
 refine gC (fun ht15 => ?_) (fun ht15 => ?_) (st2 := (77777,0))
 ·have h1 := aec ht15
  refine gE2 ?_
  rw [if_neg h1]; rfl
 ·have h1 := aee ht15
  obtain ⟨h2,h3⟩ := ai6 h1
  obtain ⟨tw,e0⟩ := alg h h2
  obtain ⟨e1,na⟩ := ha.num (h3 a (by simp))
  obtain ⟨e2,nb⟩ := hb.num (h3 b (by simp))
  have hlen : (llq rs).length = rs.length := length_map _
  have h5 : rs.length <= 5:=by have := tw.five; omega
  have hla := na.len5 h5
  have hlb := nb.len5 h5
  have htw := tw.ok
  rw [hlen] at htw
  have qa : ∀ q ∈ lq a,Qs q := fun q hq => ha.cb.qs (by omega) hq
  have qb : ∀ q ∈ lq b,Qs q := fun q hq => hb.cb.qs (by omega) hq
  have qm : ∀ q ∈ acf (lq b),Qs q := fun q hq => hb.cb.minus.qs (by omega) hq
  have np := ajm na (agt nb)
  have hsg := ahz (llq rs) rs.length r htw h5 (by omega) rs.length _ _ (le_refl _) np (ha.cb.plus hb.cb.minus) (a2u (le_refl rs.length) (by have := tw.three; omega) hr (by omega))
  refine gW (Wk.of (sl := [(1,some (nA (lq a))),(2,some (nA (lq b))),(3,some (.ptr 3 0)),(8,some (ain (acj rs [a,b])))]) (hp := [(3,some (.box [.lst 1 ((llq rs).map nA)]))]) (.cons rfl (Sub.of e1) (.cons rfl (Sub.of e2) (.k (.k .nil)))) (.cons rfl (BlkSub.boxL (.cons (.of (aq1 e0)) .nil) rfl) .nil)) ?_
  refine gc (ae9 _ qb (by omega)) ?_
  refine gc (adx _ _ qa qm (by omega) (by rw [act]; omega)) ?_
  refine gc hsg ?_
  refine gD ?_
  refine gE2 ?_
  rw [if_pos h1,h1,adq,aey]; rfl
theorem ase (rs : List (List Rt)) (r : Nat) (h : TR rs r) (a : List Rt) (e : Nat) (ha : NR a e) (he : e <= lm rs.length) :
  FnC prog 205 [aor rs,nR a] (.tup [i64 (if acj rs [a] = 0 then T.sgn (aaz (llq rs)) rs.length (dec rs.length (lq a)) else 0),ain (acj rs [a])]) := by
 have hr := h.le
 have hlm := aty rs.length
 refine gF0 func205 ?_
 refine gc (acw rs r h [a] (fun x hx => by rw [List.mem_singleton.1 hx]; exact ⟨ha.ok,ha.len⟩) (by simp)) ?_
 refine gC (fun ht12 => ?_) (fun ht12 => ?_) (st2 := (77777,0))
 ·have h1 := aec ht12
  refine gE2 ?_
  rw [if_neg h1]; rfl
 ·have h1 := aee ht12
  obtain ⟨h2,h3⟩ := ai6 h1
  obtain ⟨tw,e0⟩ := alg h h2
  obtain ⟨e1,na⟩ := ha.num (h3 a (by simp))
  have hlen : (llq rs).length = rs.length := length_map _
  have h5 : rs.length <= 5:=by have := tw.five; omega
  have htw := tw.ok
  rw [hlen] at htw
  have hsg := ahz (llq rs) rs.length r htw h5 (by omega) rs.length _ _ (le_refl _) na ha.cb (a2u (le_refl rs.length) (by have := tw.three; omega) hr (by omega))
  refine gW (Wk.of (sl := [(1,some (nA (lq a))),(2,some (.ptr 2 0)),(6,some (ain (acj rs [a])))]) (hp := [(2,some (.box [.lst 1 ((llq rs).map nA)]))]) (.cons rfl (Sub.of e1) (.k (.k .nil))) (.cons rfl (BlkSub.boxL (.cons (.of (aq1 e0)) .nil) rfl) .nil)) ?_
  refine gc hsg ?_
  refine gE2 ?_
  rw [if_pos h1,h1]; rfl
theorem ayw (x : Rt) (hx : x.ok) (hs : Qs x.q) : FnC prog 149 [x.av] (nA (sh 0 (x.q : Rat))) := by
 have hadd := adp x (rt 0) hx Qs.zero.ok
 rw [bbp] at hadd
 refine gF0 func149 ?_
 refine gc (Con.subA (.cons (.refl _) (.cons ao9 .nil)) hadd) ?_
 refine gc (ade (n := 0) [x.q] (by omega) (.inr ⟨0,le_refl _,rfl⟩) (fun q hq => by rw [List.mem_singleton.1 hq]; exact hs)) ?_
 refine gE1 ?_
 rfl
end Go.Lw
namespace Go.Lw
open Go.Proofs
theorem afi (n : Nat) (hn : n <= 281474976710656) : FnC prog 292 [i64 n] (.tup [i64 (pwk n), bl (pwb n)]) := by
 refine gF0 func292 ?_
 refine gL1 [0] [] (fun (k : Nat) => [(5,some (i64 k))]) (fun _ => []) (fun k => k <= 6 /\ ∀ j,j < k -> n ≠ 2 ^ j) (fun k => 6 - k) 0 ⟨by omega,fun j h => by omega⟩ ?_
 rintro k ⟨hk,hj⟩ K1 hK1
 refine gC (fun ht6 => ?_) (fun ht6 => ?_)
 ·have h1 : k < 6 := by have := ht6; simp only [aaa, decide_eq_true_eq] at this; omega
  refine gs (aga (.const _) (.tmp rfl) (by omega) (akn (by omega)) rfl) ?_
  refine gC (fun ht11 => ?_) (fun ht11 => ?_)
  ·have h2 : n = 2 ^ k := by have := ht11; simp only [aaa, beq_iff_eq] at this; omega
   refine gE2 ?_
   rw [h2,(aro (by omega)).1,(aro (by omega)).2]; rfl
  ·have h2 : n ≠ 2 ^ k := by have := ht11; simp only [aaa, beq_eq_false_iff_ne, ne_eq] at this; omega
   refine ga (aa2 (by omega)) ?_
   exact gK1 hK1 (k + 1) ⟨by omega,fun j h => by rcases lt_or_ge j k with h3 | h3; exact hj j h3; (have : j = k:=by omega); subst this; exact h2⟩
 ·have h1 : k = 6 := by have := ht6; simp only [aaa, decide_eq_false_iff_not] at this; omega
  subst h1
  refine gE2 ?_
  rw [(a3i hj).1,(a3i hj).2]; rfl
theorem alx (m : Nat) (hm : m <= 5) (a : List Rt) (ha : ∀ r ∈ a, r.ok) (hl : a.length <= 281474976710656) : FnC prog 233 [i64 m, nR a] (i64 (ais m a)) := by
 refine gF0 func233 ?_
 refine gl ?_
 refine gc (afi a.length hl) ?_
 refine gl ?_
 refine gC (fun ht26 => ?_) (fun ht26 => ?_)
 ·have h1 : a ≠ [] /\ (lvl a.length < 0 \/ (m : Int) < lvl a.length) := (axn hm a).2 (ba5 ht26)
  refine gE1 ?_
  unfold ais; rw [if_pos h1]; rfl
 ·have hn : ¬ (a ≠ [] /\ (lvl a.length < 0 \/ (m : Int) < lvl a.length)) := fun h => bfj ht26 ((axn hm a).1 h)
  refine gl ?_
  refine gL1 [27,28] [] (fun (i : Nat) => [(29,some (i64 i))]) (fun _ => []) (fun i => i <= a.length /\ (a.take i).all Rt.valid = true) (fun i => a.length - i) 0 ⟨zero_le _,by simp⟩ ?_
  rintro i ⟨hi,hv⟩ K1 hK1
  refine gC (fun ht30 => ?_) (fun ht30 => ?_)
  ·have hin : i < a.length := by simpa [aaa] using ht30
   obtain ⟨r,hr⟩ := ab6 hin
   have hrok := ha r (mem_of_getElem? hr)
   refine gi (aae hr) ?_
   refine gc (afj r hrok) ?_
   refine gC (fun ht35 => ?_) (fun ht35 => ?_)
   ·have hrv : r.valid = false := by simpa using ht35
    refine gE1 ?_
    unfold ais
    rw [if_neg hn,if_neg]
    ·rfl
    ·rw [all_eq_true]
     intro h
     rw [h r (mem_of_getElem? hr)] at hrv; cases hrv
   ·have hrv : r.valid = true := by simpa using ht35
    refine ga aas ?_
    exact gK1 hK1 (i + 1) ⟨by omega,by rw [aax hr,all_append,hv]; simp [hrv]⟩
  ·have hin : i = a.length := by have : a.length <= i := (by simpa [aaa] using ht30); omega
   subst hin
   rw [take_length] at hv
   refine gE1 ?_
   unfold ais; rw [if_neg hn,if_pos hv]; rfl
theorem aoc (a : List Rat) (hl : a.length <= 281474976710656) : FnC prog 329 [nA a] (bl (abl a)) := by
 refine gF0 func329 ?_
 refine gl ?_
 refine gL1 [5,6] [] (fun (i : Nat) => [(7,some (i64 i))]) (fun _ => []) (fun i => i <= a.length /\ abl (a.take i) = true) (fun i => a.length - i) 0 ⟨zero_le _,by simp [abl]⟩ ?_
 rintro i ⟨hi,hv⟩ K1 hK1
 refine gC (fun ht8 => ?_) (fun ht8 => ?_)
 ·have hin : i < a.length := by simpa [aaa] using ht8
  obtain ⟨q,hq⟩ := ab6 hin
  refine gi (aae hq) ?_
  refine glG ?_
  refine glG ?_
  refine gC (fun ht24 => ?_) (fun ht24 => ?_)
  ·have h0 : q ≠ 0 := a7v ht24
   refine gE1 ?_
   have : abl a = false := by
    rw [Bool.eq_false_iff]
    intro h
    exact h0 (by simpa using List.all_eq_true.1 h q (mem_of_getElem? hq))
   rw [this]; rfl
  ·have h0 : q = 0 := a1k ht24
   refine ga aas ?_
   exact gK1 hK1 (i + 1) ⟨by omega,by rw [aax hq]; simp only [abl,all_append,and_eq_true]; exact ⟨hv,by simp [h0]⟩⟩
 ·have hin : i = a.length := by have : a.length <= i := (by simpa [aaa] using ht8); omega
  subst hin
  rw [take_length] at hv
  refine gE1 ?_
  rw [hv]; rfl
theorem ajj {n : Nat} (a : List Rat) (hn : n <= 5) (ha : Nl n a) : FnC prog 235 [nA a] (nA (sh n (dec n a))) := by
 have hl := ha.len5 hn
 rw [<- ahi ha hn]
 refine gF0 func235 ?_
 refine gl ?_
 refine gc (afi a.length (by omega)) ?_
 refine gC (fun ht13 => ?_) (fun ht13 => ?_)
 ·have h0 : a = [] := by
   rcases ha with h | ⟨j,hj,h⟩
   ·exact h
   ·have h9 := ht13
    rw [h,(aro (by omega)).2] at h9; cases h9
  refine gs (aby T38 rfl T82 rfl rfl rfl) ?_
  refine gs (ado (.tmp rfl) rfl rfl (.tmp rfl) T38 rfl T82 rfl rfl (by simp [h0]) rfl rfl) ?_
  refine gE1 ?_
  subst h0; rfl
 ·refine gl ?_
  refine gL1 [0] [] (fun (m : Nat) => [(5,some (i64 m))]) (fun _ => []) (fun m => a52 a m) (fun m => m) a.length (a4u (ha.mono hn)) ?_
  rintro m hm K1 hK1
  refine gs (aco rfl rfl rfl (fun h => adl (.opt rfl (o1 h)) (.const _) (by omega) (acd (by have := hm.le; omega)) rfl)) ?_
  refine gs (aco rfl rfl rfl (fun h => aam (.opt rfl (o1 h)) (.some _ (.opt rfl (o1 h)) (by omega)) (.some _ (.opt rfl (o1 h)) (by omega)) T38 rfl T82 rfl (by omega) (by have := hm.le; simp; omega) rfl)) ?_
  refine gcG (fun _ => (by have h9 := aoc ((a.drop (m / 2)).take (m - m / 2)) (by simp; omega); rw [<- as8] at h9; exact h9)) ?_
  refine gC (fun ht28 => ?_) (fun ht28 => ?_)
  ·have h1 : 1 < m /\ abl ((a.drop (m / 2)).take (m - m / 2)) = true := by
    have h9 := ht28
    by_cases h : (m : Int) > 1
    ·simp only [aaa,decide_eq_true h,cond_true] at h9; exact ⟨by omega,h9⟩
    ·simp only [aaa,decide_eq_false h,cond_false] at h9; cases h9
   refine gs (adl (.tmp rfl) (.const _) (by omega) (acd (by have := hm.le; omega)) rfl) ?_
   exact gK1 hK1 (m / 2) (a45 hm h1.1 h1.2)
  ·have h1 : 1 < m -> abl ((a.drop (m / 2)).take (m - m / 2)) = false := by
    intro h
    have h9 := ht28
    simp only [aaa,decide_eq_true (show (m : Int) > 1 by omega),cond_true] at h9
    exact h9
   refine gs (aco rfl rfl rfl (fun h => aam (.opt rfl (o1 h)) (.none _) (.some _ (.const _) (by omega)) T38 rfl T82 rfl (by omega) (by have h8 : (m : Int) = 1 := (by simpa [aaa] using h); have := hm.le; simp only [length_map]; omega) rfl)) ?_
   refine gcG (fun _ => (by have h9 := aoc ((a.drop 0).take 1) (by simp; omega); rw [<- as8] at h9; exact h9)) ?_
   refine gC (fun ht37 => ?_) (fun ht37 => ?_)
   ·have h2 : m = 1 /\ abl (a.take 1) = true := by
     have h9 := ht37
     by_cases h : m = 1
     ·rw [h] at h9; exact ⟨h,h9⟩
     ·rw [show aaa .eql (m : Int) 1 = false by simp [aaa]; omega] at h9; cases h9
    obtain ⟨rfl,h3⟩ := h2
    refine gR ?_
    exact ad9 (by rw [a0g hm h3]; exact Sub.nil _ _ _)
   ·have h2 : m = 1 -> abl (a.take 1) = false := by
     intro h
     have h9 := ht37
     rw [h] at h9; exact h9
    have h3 := a26 hm h1 h2
    refine gs (aby T38 rfl T82 rfl rfl rfl) ?_
    refine gs (aam (.tmp rfl) (.none _) (.some _ (.tmp rfl) (by omega)) T38 rfl T82 rfl (by omega) (by have := hm.le; simp; omega) rfl) ?_
    refine gs (ado (.tmp rfl) rfl rfl (.tmp rfl) T38 rfl T82 rfl rfl (by simp only [length_take,List.length_drop,length_map]; omega) rfl rfl) ?_
    refine gE1 ?_
    rw [h3]
    simp [nA,map_take]
theorem ajg (d : Nat) (hd : Nat.blt d 1000 = true) (a : List Rat) (n : Nat) (hl : a.length <= n) (hn : n <= 1099511627776) :
  Con prog 234 [nA a,i64 n] [] (.ms d 3 0 n) [(d,some (.row 3 ((aau a n).map qA)))] := by
 refine gF func234 (fun k z h => by cases h) ?_
 refine gs (aby T38 rfl T82 rfl rfl rfl) ?_
 refine gs (abh (.tmp rfl) rfl rfl (.tmp rfl) T38 rfl T82 rfl rfl (by simp only [length_map]; omega) rfl rfl) ?_
 refine gW (Wk.of (sl := [(1,some (i64 n)),(5,some (.ms 8 3 0 a.length))]) (hp := [(8,some (.row 3 ((aau a a.length).map qA)))]) (.k (.cons rfl (Sub.of (by simp)) .nil)) (.cons rfl (BlkSub.of (by simp [aau])) .nil)) ?_ (99999,0)
 refine gW (Wk.rekey (k := 8) (d := 900) rfl rfl) ?_
 refine gL1 [1] [] (fun (i : Nat) => [(5,some (.ms 900 3 0 i))]) (fun i => [(900,some (.row 3 ((aau a i).map qA)))]) (fun i => a.length <= i /\ i <= n) (fun i => n - i) a.length ⟨le_refl _,hl⟩ ?_
 rintro i ⟨hi,hin⟩ K1 hK1
 refine gC (fun ht12 => ?_) (fun ht12 => ?_)
 ·have h1 : i < n := by have := ht12; simp only [aaa, decide_eq_true_eq] at this; omega
  refine gs (abh (.tmp rfl) rfl (by rw [length_map,abc hi]) (.tmp rfl) T38 rfl T82 rfl rfl (by simp; omega) rfl rfl) ?_
  exact gK1 hK1 (i + 1) ⟨by omega,h1⟩ (hw := (Wk.of (sl := [(1,some (i64 n)),(5,some (.ms 16 3 0 (i + 1)))]) (hp := [(16,some (.row 3 ((aau a (i + 1)).map qA)))]) abq (.cons rfl (a5i a i hi) .nil)).trans <| (Wk.rekey (k := 16) (d := 900) rfl rfl).trans <| Wk.o)
 ·have h1 : i = n := by have := ht12; simp only [aaa, decide_eq_false_iff_not] at this; omega
  subst h1
  refine gR ?_
  exact Fin.own1 rfl hd rfl
theorem agf (a : List Rat) (n : Nat) (hl : a.length <= n) (hn : n <= 1099511627776) : FnC prog 234 [nA a, i64 n] (nA (aau a n)) := by
 have h := Con.freeze (by rw [length_map,abc hl]; omega) (ajg 0 rfl a n hl hn)
 rw [drop_zero,take_of_length_le (by rw [length_map,abc hl]; exact le_refl _)] at h
 exact h
theorem aih (a b : List Rat) (ha : ∀ q ∈ a, Qs q) (hb : ∀ q ∈ b, Qs q) (la : a.length <= 1099511627776) (lb : b.length <= 1099511627776) : FnC prog 177 [nA a, nA b] (nA (acr a b)) := by
 obtain ⟨n,hn⟩ : ∃ n,n = max a.length b.length := ⟨_,rfl⟩
 have hwa := abc (show a.length <= n by omega)
 have hwb := abc (show b.length <= n by omega)
 have hp := abj (a := a) (b := b)
 rw [<- hn] at hp
 have qa : ∀ q ∈ aau a n,Qs q := fun q hq => by rcases List.mem_append.1 hq with h | h; exact ha q h; (rw [(List.mem_replicate.1 h).2]; exact Qs.zero)
 have qb : ∀ q ∈ aau b n,Qs q := fun q hq => by rcases List.mem_append.1 hq with h | h; exact hb q h; (rw [(List.mem_replicate.1 h).2]; exact Qs.zero)
 refine gF0 func177 ?_
 refine gl ?_
 refine gl ?_
 refine gs (ayi (.tmp rfl) (.tmp rfl) rfl) ?_ (2,0)
 refine gW (Wk.of (sl := [(0,some (nA a)),(1,some (nA b)),(5,some (i64 n))]) (hp := []) (.cons rfl (.refl _) (.cons rfl (.refl _) (.cons rfl (Sub.int (by omega)) .nil))) .nil) ?_
 refine go ?_
 refine gt (aa9 (ajg 900 rfl a n (by omega) (by omega)) (.cons (.tmp rfl) (.cons (.tmp rfl) .nil)) (by first | exact hH0 | exact hH1 rfl | exact hH2 rfl rfl) rfl rfl) ?_
 refine gc (agf b n (by omega) (by omega)) ?_
 refine gL1 [1,19] [] (fun (i : Nat) => [(0,some (.ms 900 3 0 n)),(20,some (i64 i))]) (fun i => [(900,some (.row 3 (((acr a b).take i ++ (aau a n).drop i).map qA)))]) (fun i => i <= n) (fun i => n - i) 0 (zero_le _) ?_
 rintro i hi K1 hK1
 refine gC (fun ht21 => ?_) (fun ht21 => ?_) (st2 := (8,0))
 ·have hin : i < n := by simpa [aaa] using ht21
  have hmx := avr (p := acr a b) (w := aau a n) (i := i) (by omega) (by omega)
  have hqa := (qa _ (aka (i := i) (by omega))).ok
  have hqb := (qb _ (aka (i := i) (by omega))).ok
  refine gs (aaq (n := i) (.tmp rfl) (.tmp rfl) T38 rfl T82 rfl (by omega) (by omega) rfl) ?_
  refine gs (aay (.tmp rfl) rfl (aae hmx) T82 rfl rfl rfl) ?_
  refine gi (aae (getD_some (i := i) (l := aau b n) (by omega))) ?_
  refine gc (anf (rt ((aau a n).getD i 0)) (rt ((aau b n).getD i 0)) hqa hqb) ?_
  refine gs (aaq (n := i) (.tmp rfl) (.tmp rfl) T38 rfl T82 rfl (by omega) (by omega) rfl) ?_
  refine gs (abk (.tmp rfl) rfl (aae hmx) rfl (.tmp rfl) rfl rfl T82 rfl rfl) ?_
  refine gD ?_ (7,0)
  refine gW (Wk.of (sl := [(0,some (.ms 900 3 0 n)),(1,some (nA (aau b n))),(19,some (i64 n)),(20,some (i64 i))]) (hp := [(900,some (.row 3 (((acr a b).take (i + 1) ++ (aau a n).drop (i + 1)).map qA)))]) abq (.cons rfl (BlkSub.of (by rw [ap9 (by omega) (by omega) (by rw [ax8,<- hn,agh,agh])])) .nil)) ?_
  refine ga aas ?_
  exact gK1 hK1 (i + 1) hin
 ·have hin : i = n := by have : n <= i := (by simpa [aaa] using ht21); omega
  refine gW ((Wk.freeze (k := 900) rfl).trans <| Wk.of (sl := [(0,some (nA (acr a b)))]) (hp := []) (.cons rfl (Sub.of (by rw [abw (by simp; omega),hin,List.drop_of_length_le (by omega),take_of_length_le (by omega),List.append_nil]; rfl)) .nil) .nil) ?_
  refine gE1 ?_
  rfl
theorem aph (a : List Rat) (ha : ∀ q ∈ a, Qs q) (hl : a.length <= 1099511627776) : FnC prog 178 [nA a] (nA (acf a)) := by
 refine gF0 func178 ?_
 refine gl ?_
 refine gW (Wk.virt 900 3 rfl) ?_
 refine gL1 [6,7] [] (fun (i : Nat) => [(3,some (.ms 900 3 0 i)),(8,some (i64 i))]) (fun i => [(900,some (.row 3 ((acf (a.take i)).map qA)))]) (fun i => i <= a.length) (fun i => a.length - i) 0 (zero_le _) ?_
 rintro i hi K1 hK1
 refine gC (fun ht9 => ?_) (fun ht9 => ?_) (st2 := (7,0))
 ·have hin : i < a.length := by simpa [aaa] using ht9
  obtain ⟨q,hq⟩ := ab6 hin
  have hqs := (ha q (mem_of_getElem? hq)).ok
  refine gi (aae hq) ?_
  refine gc (ajw (rt q) hqs) ?_
  refine gs (abh (.tmp rfl) rfl (by simp [acf]; omega) (.tmp rfl) T38 rfl T82 rfl rfl (by simp; omega) rfl rfl) ?_ (6,0)
  refine gW (Wk.of (sl := [(3,some (.ms 16 3 0 (i + 1))),(6,some (nA a)),(7,some (i64 a.length)),(8,some (i64 i))]) (hp := [(16,some (.row 3 ((acf (a.take (i + 1))).map qA)))]) abq (.cons rfl (BlkSub.of (by rw [aax hq]; simp only [acf,map_append,agh]; rfl)) .nil)) ?_ (6,0)
  refine gW (Wk.rekey (k := 16) (d := 900) rfl rfl) ?_
  refine ga aas ?_
  exact gK1 hK1 (i + 1) hin
 ·have hin : i = a.length := by have : a.length <= i := (by simpa [aaa] using ht9); omega
  subst hin
  refine gW ((Wk.freeze (k := 900) rfl).trans <| Wk.of (sl := [(3,some (nA (acf a)))]) (hp := []) (.cons rfl (Sub.of (by rw [abw (by simp [acf]),take_length]; rfl)) .nil) .nil) ?_
  refine gE1 ?_
  rfl
end Go.Lw
namespace Go.Lw
open Go.Proofs
theorem ai9 (ts : List (List Rat)) (m r : Nat) (ht : az3 ts m r) (hm : m <= 5) (R : List AV) (hR : ∀ j, j < m -> R[j]? = some (nA (ts.getD j []))) (k : Nat) : ∀ (j : Nat) (a b : List Rat) (e f : Nat), j <= m -> j <= k -> Nl j a -> Nl j b -> Cb e a -> Cb f b -> e + f + eB r j < 4398046511104 ->
  FnC prog 294 [.agg [.lst 1 R],nA a,nA b] (nA (rT ts k a b)) := by
 induction k using Nat.strongRecOn
 rename_i k ih
 intro j a b e f hj hjk ha hb ca cb hs
 obtain ⟨nx,dx⟩ := al7 ha (by omega)
 obtain ⟨ny,dy⟩ := al7 hb (by omega)
 have cx : Cb e (aan 5 a) := ca.sub (fun q hq => agk 5 hq)
 have cy : Cb f (aan 5 b) := cb.sub (fun q hq => agk 5 hq)
 have k1 := ajj a (by omega) ha
 have k2 := ajj b (by omega) hb
 rw [<- ahi ha (by omega)] at k1
 rw [<- ahi hb (by omega)] at k2
 obtain ⟨x,hx⟩ : ∃ x,x = aan 5 a := ⟨_,rfl⟩
 obtain ⟨y,hy⟩ : ∃ y,y = aan 5 b := ⟨_,rfl⟩
 rw [<- hx] at k1 nx dx cx
 rw [<- hy] at k2 ny dy cy
 have hlx := nx.len5 (by omega)
 have hly := ny.len5 (by omega)
 obtain ⟨n,hn⟩ : ∃ n,n = max x.length y.length := ⟨_,rfl⟩
 refine gF0 func294 ?_
 refine gc k1 ?_
 refine gc k2 ?_
 refine gl ?_
 refine gl ?_
 refine gs (ayi (.tmp rfl) (.tmp rfl) rfl) ?_ (3,0)
 refine gW (Wk.of (sl := [(1,some (nA x)),(2,some (nA y)),(3,some (.ptr 3 0)),(7,some (i64 n))]) (hp := [(3,some (.box [.lst 1 R]))]) (.k (.k (.k (.cons rfl (Sub.int (by omega)) .nil)))) (.cons rfl (.refl _) .nil)) ?_
 refine gl ?_
 refine glG ?_
 refine gC (fun ht32 => ?_) (fun ht32 => ?_)
 ·have h0 : x.length = 0 \/ y.length = 0 := by have := au3 ht32; omega
  refine gR ?_
  exact ad9 (by rw [a1p (by rw [<- hx,<- hy]; exact h0)]; exact Sub.nil _ _ _)
 ·have h0 : ¬ (x.length = 0 \/ y.length = 0) := by have := ap1 ht32; omega
  refine gC (fun ht34 => ?_) (fun ht34 => ?_)
  ·have h1 : max x.length y.length = 1 := by have := ht34; simp only [aaa, beq_iff_eq] at this; omega
   have e1 := a81 (ts := ts) (k := k) (a := a) (b := b) (by rw [<- hx,<- hy]; exact h0) (by rw [<- hx,<- hy]; exact h1)
   rw [<- hx,<- hy] at e1
   clear hx hy
   have lx1 : x.length = 1:=by omega
   have ly1 : y.length = 1:=by omega
   clear hn
   obtain ⟨p,rfl⟩ : ∃ p,x = [p] := List.length_eq_one_iff.1 lx1
   obtain ⟨q,rfl⟩ : ∃ q,y = [q] := List.length_eq_one_iff.1 ly1
   refine gi rfl ?_
   refine gi rfl ?_
   refine gc (a1v (rt p) (rt q) (cx.qs (by omega) (by simp : p ∈ [p])).ok (cy.qs (by omega) (by simp : q ∈ [q])).ok) ?_
   refine gD ?_
   refine gE1 ?_
   rw [e1,agh,agh]; rfl
  ·have h1 : n ≠ 1 := by have := ht34; simp only [aaa, beq_eq_false_iff_ne, ne_eq] at this; omega
   obtain ⟨i,hij,hmax⟩ := (a8u nx ny h0).resolve_left (by omega)
   obtain ⟨k',rfl⟩ : ∃ k',k = k' + 1 := ⟨k - 1,by omega⟩
   have hp2 := Nat.two_pow_pos i
   have hpi : 2 ^ i <= 32 := abv (b := 5) (by omega)
   have hps : 2 ^ (i + 1) = 2 * 2 ^ i:=by rw [Nat.pow_succ]; omega
   have hnn : n = 2 ^ (i + 1):=by omega
   have hes : eB r (i + 1) <= eB r j := a71 r hij
   have hee : eB r (i + 1) = 2 * eB r i + r + 2 := rfl
   have lx : (aau x (2 ^ (i + 1))).length = 2 ^ (i + 1) := abc (by omega)
   have ly : (aau y (2 ^ (i + 1))).length = 2 ^ (i + 1) := abc (by omega)
   obtain ⟨X,hX⟩ : ∃ X,X = aau x (2 ^ (i + 1)) := ⟨_,rfl⟩
   obtain ⟨Y,hY⟩ : ∃ Y,Y = aau y (2 ^ (i + 1)) := ⟨_,rfl⟩
   have cX : Cb e X:=by rw [hX]; exact cx.wide
   have cY : Cb f Y:=by rw [hY]; exact cy.wide
   rw [<- hX] at lx
   rw [<- hY] at ly
   have n1 : Nl i (X.take (2 ^ i)) := .inr ⟨i,le_refl _,ac7 lx⟩
   have n2 : Nl i (X.drop (2 ^ i)) := .inr ⟨i,le_refl _,adk lx⟩
   have n3 : Nl i (Y.take (2 ^ i)) := .inr ⟨i,le_refl _,ac7 ly⟩
   have n4 : Nl i (Y.drop (2 ^ i)) := .inr ⟨i,le_refl _,adk ly⟩
   have nd := ht.1 i (by omega)
   have cd := ht.2.cb i
   have s1 := afg hm ht (k := k') (show i <= m by omega) (by omega) n1 n3 cX.take cY.take
   have s2 := afg hm ht (k := k') (show i <= m by omega) (by omega) n2 n4 cX.drop cY.drop
   have s3 := afg hm ht (k := k') (show i <= m by omega) (by omega) s2.1 nd s2.2.2 cd
   have s4 := afg hm ht (k := k') (show i <= m by omega) (by omega) n1 n4 cX.take cY.drop
   have s5 := afg hm ht (k := k') (show i <= m by omega) (by omega) n2 n3 cX.drop cY.take
   have hrt := a20 (ts := ts) (k := k') (a := a) (b := b) rfl (by rw [<- hx,<- hy]; exact h0) (by rw [<- hx,<- hy]; exact hmax)
   rw [<- hx,<- hy,<- hX,<- hY] at hrt
   have w1 := agf x n (by omega) (by omega)
   have w2 := agf y n (by omega) (by omega)
   rw [hnn,<- hX] at w1
   rw [hnn,<- hY] at w2
   rw [<- hnn] at w1 w2
   have pw := afi n (by omega)
   rw [show pwk n = i + 1 by rw [hnn]; exact (aro (by omega)).1,show pwb n = true by rw [hnn]; exact (aro (by omega)).2] at pw
   refine gc w1 ?_
   refine gc w2 ?_
   refine gc pw ?_
   refine gs (adl (.tmp rfl) (.const _) (by omega) (show _ = ((2 ^ i : Nat) : Int) by rw [acd (by omega),hnn,ab0]) rfl) ?_
   refine gs (aam (.tmp rfl) (.none _) (.some _ (.tmp rfl) (by omega)) T38 rfl T82 rfl (by omega) (by simp only [length_map]; omega) rfl) ?_
   refine gs (adl (.tmp rfl) (.const _) (by omega) (show _ = ((2 ^ i : Nat) : Int) by rw [acd (by omega),hnn,ab0]) rfl) ?_
   refine gs (aam (.tmp rfl) (.some _ (.tmp rfl) (by omega)) (.none _) T38 rfl T82 rfl (by simp only [length_map]; omega) (by omega) rfl) ?_
   refine gs (adl (.tmp rfl) (.const _) (by omega) (show _ = ((2 ^ i : Nat) : Int) by rw [acd (by omega),hnn,ab0]) rfl) ?_
   refine gs (aam (.tmp rfl) (.none _) (.some _ (.tmp rfl) (by omega)) T38 rfl T82 rfl (by omega) (by simp only [length_map]; omega) rfl) ?_
   refine gs (adl (.tmp rfl) (.const _) (by omega) (show _ = ((2 ^ i : Nat) : Int) by rw [acd (by omega),hnn,ab0]) rfl) ?_
   refine gs (aam (.tmp rfl) (.some _ (.tmp rfl) (by omega)) (.none _) T38 rfl T82 rfl (by simp only [length_map]; omega) (by omega) rfl) ?_
   refine gD ?_ (10,0)
   refine gW (Wk.of (sl := [(3,some (.ptr 3 0)),(7,some (i64 n)),(8,some (i64 ((i + 1 : Nat) : Int))),(10,some (nA (X.take (2 ^ i)))),(11,some (nA (X.drop (2 ^ i)))),(12,some (nA (Y.take (2 ^ i)))),(13,some (nA (Y.drop (2 ^ i))))]) (hp := [(3,some (.box [.lst 1 R]))]) (.k (.k (.k (.cons rfl (Sub.of (ahu X (2 ^ i))) (.cons rfl (Sub.of (aft X (2 ^ i))) (.cons rfl (Sub.of (ahu Y (2 ^ i))) (.cons rfl (Sub.of (aft Y (2 ^ i))) .nil))))))) (.cons rfl (.refl _) .nil)) ?_
   refine gc (ih k' (by omega) i _ _ e f (by omega) (by omega) n1 n3 cX.take cY.take (by omega)) ?_
   refine gc (ih k' (by omega) i _ _ e f (by omega) (by omega) n2 n4 cX.drop cY.drop (by omega)) ?_
   refine ga (show _ = (i : Int) by rw [abd (by omega)]; omega) ?_
   refine gi (hR i (by omega)) ?_
   refine gc (ih k' (by omega) i _ _ _ _ (by omega) (by omega) s2.1 nd s2.2.2 cd (by omega)) ?_
   refine gc (aih _ _ (fun q hq => s1.2.2.qs (by omega) hq) (fun q hq => s3.2.2.qs (by omega) hq) (by have := s1.1.le; omega) (by have := s3.1.le; omega)) ?_
   refine gD ?_
   refine gc (ih k' (by omega) i _ _ e f (by omega) (by omega) n1 n4 cX.take cY.drop (by omega)) ?_
   refine gc (ih k' (by omega) i _ _ e f (by omega) (by omega) n2 n3 cX.drop cY.take (by omega)) ?_
   refine gc (aih _ _ (fun q hq => s4.2.2.qs (by omega) hq) (fun q hq => s5.2.2.qs (by omega) hq) (by have := s4.1.le; omega) (by have := s5.1.le; omega)) ?_
   refine gD ?_
   refine gs (adl (.tmp rfl) (.const _) (by omega) (show _ = ((2 ^ i : Nat) : Int) by rw [acd (by omega),hnn,ab0]) rfl) ?_
   refine gt (aa9 (ajg 900 rfl _ (2 ^ i) (by have := s1.1.le; have := s3.1.le; rw [abj]; omega) (by omega)) (.cons (.tmp rfl) (.cons (.tmp rfl) .nil)) (by first | exact hH0 | exact hH1 rfl | exact hH2 rfl rfl) rfl rfl) ?_
   refine gs (adl (.tmp rfl) (.const _) (by omega) (show _ = ((2 ^ i : Nat) : Int) by rw [acd (by omega),hnn,ab0]) rfl) ?_
   refine gc (agf _ (2 ^ i) (by have := s4.1.le; have := s5.1.le; rw [abj]; omega) (by omega)) ?_
   refine gs (ado (.tmp rfl) rfl (by have := s1.1.le; have := s3.1.le; rw [length_map,abc (by rw [abj]; omega)]) (.tmp rfl) T38 rfl T82 rfl rfl (by have := s4.1.le; have := s5.1.le; rw [length_map,abc (by rw [abj]; omega)]; show (2 ^ i + 2 ^ i) * 56 <= 140737488355328; omega) rfl rfl) ?_
   refine gE1 ?_
   rw [hrt,<- map_append]; rfl
theorem ay3 (ts : List (List Rat)) (m r : Nat) (ht : az3 ts m r) (hm : m <= 5) (R : List AV) (hR : ∀ j, j < m -> R[j]? = some (nA (ts.getD j []))) (i n : Nat) (a : List Rat) (e : Nat) (hi : i + 1 <= m) (hnn : n = 2 ^ (i + 1)) (hal : a.length = 2 ^ (i + 1)) (ca : Cb e a) (hs : 4 * e + 3 * eB r i + r + 1 < 4398046511104) :
  FnC prog 293 [.agg [.lst 1 R],nA a,i64 n] (nA (an9 ts i a)) := by
 have hp2 := Nat.two_pow_pos i
 have hpi : 2 ^ i <= 32 := abv (b := 5) (by omega)
 have hps : 2 ^ (i + 1) = 2 * 2 ^ i:=by rw [Nat.pow_succ]; omega
 have n1 : Nl i (a.take (2 ^ i)) := .inr ⟨i,le_refl _,ac7 hal⟩
 have n2 : Nl i (a.drop (2 ^ i)) := .inr ⟨i,le_refl _,adk hal⟩
 have nd := ht.1 i (by omega)
 have cd := ht.2.cb i
 have s1 := afg hm ht (k := i) (show i <= m by omega) (by omega) n1 n1 ca.take ca.take
 have s2 := afg hm ht (k := i) (show i <= m by omega) (by omega) n2 n2 ca.drop ca.drop
 have s3 := afg hm ht (k := i) (show i <= m by omega) (by omega) s2.1 nd s2.2.2 cd
 have w1 := agf a n (by omega) (by omega)
 rw [show aau a n = a by unfold aau; rw [hnn,hal]; simp] at w1
 have pw := afi n (by omega)
 rw [show pwk n = i + 1 by rw [hnn]; exact (aro (by omega)).1,show pwb n = true by rw [hnn]; exact (aro (by omega)).2] at pw
 refine gF0 func293 ?_
 refine gc w1 ?_
 refine gc pw ?_
 refine gs (adl (.tmp rfl) (.const _) (by omega) (show _ = ((2 ^ i : Nat) : Int) by rw [acd (by omega),hnn,ab0]) rfl) ?_
 refine gs (aam (.tmp rfl) (.none _) (.some _ (.tmp rfl) (by omega)) T38 rfl T82 rfl (by omega) (by simp only [length_map]; omega) rfl) ?_
 refine gs (adl (.tmp rfl) (.const _) (by omega) (show _ = ((2 ^ i : Nat) : Int) by rw [acd (by omega),hnn,ab0]) rfl) ?_
 refine gs (aam (.tmp rfl) (.some _ (.tmp rfl) (by omega)) (.none _) T38 rfl T82 rfl (by simp only [length_map]; omega) (by omega) rfl) ?_
 refine gD ?_ (4,0)
 refine gW (Wk.of (sl := [(3,some (.ptr 3 0)),(7,some (i64 ((i + 1 : Nat) : Int))),(9,some (nA (a.take (2 ^ i)))),(10,some (nA (a.drop (2 ^ i))))]) (hp := [(3,some (.box [.lst 1 R]))]) (.k (.k (.cons rfl (Sub.of (ahu a (2 ^ i))) (.cons rfl (Sub.of (aft a (2 ^ i))) .nil)))) (.cons rfl (.refl _) .nil)) ?_
 refine gc (ai9 ts m r ht hm R hR i i _ _ e e (by omega) (by omega) n1 n1 ca.take ca.take (by omega)) ?_
 refine gc (ai9 ts m r ht hm R hR i i _ _ e e (by omega) (by omega) n2 n2 ca.drop ca.drop (by omega)) ?_
 refine ga (show _ = (i : Int) by rw [abd (by omega)]; omega) ?_
 refine gi (hR i (by omega)) ?_
 refine gc (ai9 ts m r ht hm R hR i i _ _ _ _ (by omega) (by omega) s2.1 nd s2.2.2 cd (by omega)) ?_
 refine gc (aph _ (fun q hq => s3.2.2.qs (by omega) hq) (by have := s3.1.le; omega)) ?_
 refine gc (aih _ _ (fun q hq => s1.2.2.qs (by omega) hq) (fun q hq => s3.2.2.minus.qs (by omega) hq) (by have := s1.1.le; omega) (by have := s3.1.le; rw [act]; omega)) ?_
 refine gD ?_
 refine gE1 ?_
 rfl
theorem apt (ts : List (List Rat)) (m r : Nat) (ht : az3 ts m r) (hm : m <= 5) (hpos : ∀ j, j < m -> 0 <= T.sgn (aaz ts) j (aaz ts j)) (R : List AV) (hR : ∀ j, j < m -> R[j]? = some (nA (ts.getD j []))) (j : Nat) : ∀ (a : List Rat) (e : Nat), j <= m -> Nl j a -> Cb e a -> sB r j e < 4398046511104 ->
  FnC prog 176 [.agg [.lst 1 R],nA a] (i64 (T.sgn (aaz ts) j (dec j a))) := by
 induction j using Nat.strongRecOn
 rename_i j ih
 intro a e hj ha ca hs
 have hse := a1w r j e
 obtain ⟨s,hsa⟩ : ∃ s,s = sh j (dec j a) := ⟨_,rfl⟩
 have hsd : dec j s = dec j a:=by rw [hsa,ag9]
 have hsn : Nl j s:=by rw [hsa]; exact aox j _
 have cs : Cb e s:=by rw [hsa]; exact ca.sh ha
 have hls := hsn.len5 (by omega)
 rw [<- hsd]
 refine gF0 func176 ?_
 refine gc (hsa ▸ ajj a (by omega) ha) ?_
 refine gl ?_
 refine gC (fun ht15 => ?_) (fun ht15 => ?_)
 ·have h1 : s = [] := List.length_eq_zero_iff.1 (by have := ht15; simp only [aaa, beq_iff_eq] at this; omega)
  refine gE1 ?_
  rw [h1,afe,T.sgn_zero]; rfl
 ·have h1 : s.length ≠ 0 := by have := ht15; simp only [aaa, beq_eq_false_iff_ne, ne_eq] at this; omega
  refine gl ?_
  refine gC (fun ht19 => ?_) (fun ht19 => ?_)
  ·have h2 : s.length = 1 := by have := ht19; simp only [aaa, beq_iff_eq] at this; omega
   obtain ⟨q,rfl⟩ := List.length_eq_one_iff.1 h2
   refine gi rfl ?_
   refine gc (aib (rt q) (cs.qs (by omega) (by simp : q ∈ [q])).ok) ?_
   refine gE1 ?_
   rw [akw,T.sgn_ofQ,agh]
  ·have h2 : s.length ≠ 1 := by have := ht19; simp only [aaa, beq_eq_false_iff_ne, ne_eq] at this; omega
   obtain ⟨i, hij, hsl⟩ : ∃ i, i + 1 <= j /\ s.length = 2 ^ (i + 1) := by
    rcases ah9 hsn with h | h | h
    ·exact absurd h h1
    ·exact absurd h h2
    ·exact h
   have hp2 := Nat.two_pow_pos i
   have hpi : 2 ^ i <= 32 := abv (b := 5) (by omega)
   have hps : 2 ^ (i + 1) = 2 * 2 ^ i:=by rw [Nat.pow_succ]; omega
   have n1 : Nl i (s.take (2 ^ i)) := .inr ⟨i,le_refl _,ac7 hsl⟩
   have n2 : Nl i (s.drop (2 ^ i)) := .inr ⟨i,le_refl _,adk hsl⟩
   have nd := ht.1 i (by omega)
   have cd := ht.2.cb i
   obtain ⟨nn,dn,cn⟩ := aui hm ht (by omega) hsl cs
   have b1 : sB r i (4 * e + 3 * eB r i + r + 1) <= sB r j e := axb r e hij
   have b2 : sB r i e <= sB r i (4 * e + 3 * eB r i + r + 1) := aks r i (by omega)
   have b3 : sB r i r <= sB r i (4 * e + 3 * eB r i + r + 1) := aks r i (by omega)
   have b4 := a1w r i (4 * e + 3 * eB r i + r + 1)
   have k1 := ih i (by omega) (s.take (2 ^ i)) e (by omega) n1 cs.take (by omega)
   have k2 := ih i (by omega) (s.drop (2 ^ i)) e (by omega) n2 cs.drop (by omega)
   have k3 := ih i (by omega) _ r (by omega) nd cd (by omega)
   have k4 := ih i (by omega) _ _ (by omega) nn cn (by omega)
   have v3 : T.sgn (aaz ts) i (dec i (ts.getD i [])) = 0 \/ T.sgn (aaz ts) i (dec i (ts.getD i [])) = 1 := by
    have h9 : 0 <= T.sgn (aaz ts) i (dec i (ts.getD i [])) := hpos i (by omega)
    have := T.sgn_cases (aaz ts) i (dec i (ts.getD i []))
    omega
   have hres : T.sgn (aaz ts) j (dec j s) = T.sgn3 (T.sgn (aaz ts) i (dec i (s.take (2 ^ i)))) (T.sgn (aaz ts) i (dec i (s.drop (2 ^ i)))) (T.sgn (aaz ts) i (dec i (ts.getD i []))) (T.sgn (aaz ts) i (dec i (an9 ts i s))) := by
    rw [a2i _ (by omega) hij,dn]; rfl
   rw [a6b v3] at hres
   have v1 := T.sgn_cases (aaz ts) i (dec i (s.take (2 ^ i)))
   have v2 := T.sgn_cases (aaz ts) i (dec i (s.drop (2 ^ i)))
   have v4 := T.sgn_cases (aaz ts) i (dec i (an9 ts i s))
   have pw := afi s.length (by omega)
   rw [show pwk s.length = i + 1 by rw [hsl]; exact (aro (by omega)).1,show pwb s.length = true by rw [hsl]; exact (aro (by omega)).2] at pw
   refine gc pw ?_
   refine ga (show _ = (i : Int) by rw [abd (by omega)]; omega) ?_
   refine gi (hR i (by omega)) ?_
   refine gs (adl (.tmp rfl) (.const _) (by omega) (show _ = ((2 ^ i : Nat) : Int) by rw [acd (by omega),hsl,ab0]) rfl) ?_
   refine gs (aam (.tmp rfl) (.none _) (.some _ (.tmp rfl) (by omega)) T38 rfl T82 rfl (by omega) (by simp only [length_map]; omega) rfl) ?_
   refine gc (by have h9 := k1; rw [<- ahu] at h9; exact h9) ?_
   refine gs (adl (.tmp rfl) (.const _) (by omega) (show _ = ((2 ^ i : Nat) : Int) by rw [acd (by omega),hsl,ab0]) rfl) ?_
   refine gs (aam (.tmp rfl) (.some _ (.tmp rfl) (by omega)) (.none _) T38 rfl T82 rfl (by simp only [length_map]; omega) (by omega) rfl) ?_
   refine gc (by have h9 := k2; rw [<- aft] at h9; exact h9) ?_
   refine gc k3 ?_
   refine ga (am6 v2 (.inr v3)) ?_
   refine gD ?_
   refine gC (fun ht57 => ?_) (fun ht57 => ?_)
   ·have e2 := au3 ht57
    refine gE1 ?_
    rw [hres,if_pos e2]
   ·have e2 := ap1 ht57
    refine gC (fun ht60 => ?_) (fun ht60 => ?_)
    ·have e3 : T.sgn (aaz ts) i (dec i (s.take (2 ^ i))) = 0 := by simpa [aaa] using ht60
     refine gE1 ?_
     rw [hres,if_neg e2,if_pos e3]; rfl
    ·have e3 : ¬ T.sgn (aaz ts) i (dec i (s.take (2 ^ i))) = 0 := by simpa [aaa] using ht60
     refine gc (ay3 ts m r ht hm R hR i s.length s e (by omega) hsl hsl cs (by omega)) ?_
     refine gc k4 ?_
     refine ga (am6 v1 v4) ?_
     refine gD ?_
     refine gE1 ?_
     rw [hres,if_neg e2,if_neg e3]; rfl
theorem avl (rs : List (List Rt)) (r : Nat) (h : TR rs r) : FnC prog 129 [aor rs] (i64 (anl rs)) := by
 have hll := h.ll
 have hr := h.le
 refine gF0 func129 ?_
 refine gl ?_
 refine gC (fun ht9 => ?_) (fun ht9 => ?_)
 ·have h5 : 5 < rs.length := by have := ht9; simp only [aaa, decide_eq_true_eq] at this; omega
  refine gE1 ?_
  rw [aw9 h5]; rfl
 ·have h5 : rs.length <= 5 := by have := ht9; simp only [aaa, decide_eq_false_iff_not] at this; omega
  refine gl ?_
  refine gL1 [1,11,12] [1] (fun (k : Nat) => [(13,some (i64 k))]) (fun _ => []) (fun k => k <= rs.length /\ ∀ j,j < k -> avc rs j) (fun k => rs.length - k) 0 ⟨zero_le _,fun j hj => by omega⟩ ?_
  rintro k ⟨hk,hj⟩ K1 hK1
  refine gC (fun ht14 => ?_) (fun ht14 => ?_)
  ·have hin : k < rs.length := by simpa [aaa] using ht14
   obtain ⟨d,hd⟩ := ab6 hin
   have hdm := mem_of_getElem? hd
   have hdl := h.len d hdm
   refine gi (aae hd) ?_
   refine gl ?_
   refine gs (aga (.const _) (.tmp rfl) (by omega) (akn (by omega)) rfl) ?_
   refine gC (fun ht22 => ?_) (fun ht22 => ?_)
   ·have h1 : d.length ≠ 2 ^ k := by have := ht22; simp only [aaa, bne_iff_ne, ne_eq] at this; omega
    refine gE1 ?_
    rw [axz h5 hd hj h1]; rfl
   ·have h1 : d.length = 2 ^ k := by have := ht22; simp only [aaa, bne_eq_false_iff_eq] at this; omega
    have hnu := alx k (by omega) d (h.ok d hdm) hdl
    refine gc hnu ?_
    refine gC (fun ht27 => ?_) (fun ht27 => ?_)
    ·have h2 := anb ht27
     refine gE1 ?_
     rw [awv h5 hd hj h1 h2]
    ·have h2 := alz ht27
     have hts := arv (ts := llq rs) (fun j hjk => (hj j hjk).nl) h.rb
     have hq := arg h2 (h.ok d hdm)
     have hcb : Cb r (lq d):=by have := h.rb.cb k; rw [ajv,getD_eq_getElem?_getD,hd] at this; exact this
     have hsg : FnC prog 176 [aor rs, nR d] (i64 (T.sgn (aaz (llq rs)) k (dec k (lq d)))) := by
      have h9 := apt ((llq rs).take k) k r hts (by omega) (fun j hjk => by rw [T.sgn_congr j (fun i hi => aig (show i < k by omega)),aig hjk]; exact (hj j hjk).2.2) (rs.map nR) (fun j hjk => bb5 h.ok (show k <= rs.length by omega) hj hjk) k (lq d) r (le_refl _) hq.2 hcb (a2u (le_refl k) (by have := h.three; omega) hr (by have := bfr k; omega))
      rw [T.sgn_congr k (fun j hjk => aig hjk)] at h9
      rw [hq.1,ahs]
      rw [<- hq.1]; exact h9
     refine gc hsg ?_
     refine gC (fun ht32 => ?_) (fun ht32 => ?_)
     ·have h3 : T.sgn (aaz (llq rs)) k (dec k (lq d)) < 0 := by simpa [aaa] using ht32
      refine gE1 ?_
      rw [av9 h5 hd hj h1 h2 h3]; rfl
     ·have h3 : ¬ T.sgn (aaz (llq rs)) k (dec k (lq d)) < 0 := by simpa [aaa] using ht32
      refine ga aas ?_
      exact gK1 hK1 (k + 1) ⟨hin,fun j hjk => by rcases lt_or_ge j k with h9 | h9; exact hj j h9; (have : j = k:=by omega); subst this; exact a4v hd h1 h2 h3⟩
  ·have hin : k = rs.length := by have : rs.length <= k := (by simpa [aaa] using ht14); omega
   subst hin
   refine gE1 ?_
   rw [axp h5 hj]; rfl
theorem as3 (rs : List (List Rt)) (r : Nat) (h : TR rs r) (xs : List (List Rt)) (hx : ∀ a ∈ xs, (∀ x ∈ a, x.ok) /\ a.length <= 281474976710656) (hl : xs.length <= 281474976710656) : FnC prog 175 [aor rs, .lst 1 (xs.map nR)] (i64 (acj rs xs)) := by
 refine gF0 func175 ?_
 refine gc (avl rs r h) ?_
 refine gC (fun ht12 => ?_) (fun ht12 => ?_)
 ·have h1 := anb ht12
  refine gE1 ?_
  rw [ayf h1]
 ·have h1 := alz ht12
  have h5 : rs.length <= 5:=by have := (alg h h1).1.five; rwa [length_map] at this
  refine gl ?_
  refine gL1 [2,14,15] [2] (fun (i : Nat) => [(16,some (i64 i))]) (fun _ => []) (fun i => i <= xs.length /\ ∀ x ∈ xs.take i,ais rs.length x = 0) (fun i => xs.length - i) 0 ⟨zero_le _,fun x hx => by simp at hx⟩ ?_
  rintro i ⟨hi,hj⟩ K1 hK1
  refine gC (fun ht17 => ?_) (fun ht17 => ?_)
  ·have hin : i < xs.length := by simpa [aaa] using ht17
   obtain ⟨a,ha⟩ := ab6 hin
   have hok := hx a (mem_of_getElem? ha)
   refine gi (aae ha) ?_
   refine gl ?_
   refine gc (alx rs.length h5 a hok.1 hok.2) ?_
   refine gC (fun ht26 => ?_) (fun ht26 => ?_)
   ·have h2 := anb ht26
    refine gE1 ?_
    rw [a2x h1 ha hj h2]
   ·have h2 := alz ht26
    refine ga aas ?_
    exact gK1 hK1 (i + 1) ⟨hin,fun x hx => by rw [aax ha] at hx; rcases List.mem_append.1 hx with h9 | h9; exact hj x h9; (rw [List.mem_singleton.1 h9]; exact h2)⟩
  ·have hin : i = xs.length := by have : xs.length <= i := (by simpa [aaa] using ht17); omega
   subst hin
   rw [take_length] at hj
   refine gE1 ?_
   rw [aq3 h1 hj]; rfl
theorem a4f (rs : List (List Rt)) (r : Nat) (h : TR rs r) (a b : List Rt) (e f : Nat) (ha : NR a e) (hb : NR b f) (he : e + f + 1 <= lm rs.length) :
  FnC prog 79 [aor rs,nR a,nR b] (.tup [i64 (if acj rs [a,b] = 0 then T.sgn (aaz (llq rs)) rs.length (T.add rs.length (dec rs.length (lq a)) (T.neg rs.length (dec rs.length (lq b)))) else 0),i64 (acj rs [a,b])]) := by
 have hr := h.le
 have hlm := aty rs.length
 refine gF0 func79 ?_
 refine gc (as3 rs r h [a,b] (aso ha hb) (by simp)) ?_
 refine gC (fun ht15 => ?_) (fun ht15 => ?_) (st2 := (77777,0))
 ·have h1 := anb ht15
  refine gE2 ?_
  rw [if_neg h1]; rfl
 ·have h1 := alz ht15
  obtain ⟨h2,h3⟩ := ai6 h1
  obtain ⟨tw,e0⟩ := alg h h2
  obtain ⟨e1,na⟩ := ha.num (h3 a (by simp))
  obtain ⟨e2,nb⟩ := hb.num (h3 b (by simp))
  have hlen : (llq rs).length = rs.length := length_map _
  have h5 : rs.length <= 5:=by have := tw.five; omega
  have hla := na.len5 h5
  have hlb := nb.len5 h5
  have htw := tw.ok
  rw [hlen] at htw
  have qa : ∀ q ∈ lq a,Qs q := fun q hq => ha.cb.qs (by omega) hq
  have qb : ∀ q ∈ lq b,Qs q := fun q hq => hb.cb.qs (by omega) hq
  have qm : ∀ q ∈ acf (lq b),Qs q := fun q hq => hb.cb.minus.qs (by omega) hq
  have np := ajm na (agt nb)
  have hsg := apt (llq rs) rs.length r htw h5 (fun j hj => tw.pos j (by omega)) ((llq rs).map nA) (fun j hj => axd (by omega)) rs.length _ _ (le_refl _) np (ha.cb.plus hb.cb.minus) (a2u (le_refl rs.length) (by have := tw.three; omega) hr (by omega))
  refine gW (Wk.of (sl := [(1,some (nA (lq a))),(2,some (nA (lq b))),(3,some (.ptr 3 0)),(8,some (i64 (acj rs [a,b])))]) (hp := [(3,some (.box [.lst 1 ((llq rs).map nA)]))]) (.cons rfl (Sub.of e1) (.cons rfl (Sub.of e2) (.k (.k .nil)))) (.cons rfl (BlkSub.boxL (.cons (.of (aq1 e0)) .nil) rfl) .nil)) ?_
  refine gc (aph _ qb (by omega)) ?_
  refine gc (aih _ _ qa qm (by omega) (by rw [act]; omega)) ?_
  refine gc hsg ?_
  refine gD ?_
  refine gE2 ?_
  rw [if_pos h1,h1,adq,aey]; rfl
theorem a54 (x : Rt) (hx : x.ok) (hs : Qs x.q) : FnC prog 137 [x.av] (nA (sh 0 (x.q : Rat))) := by
 have hadd := anf x (rt 0) hx Qs.zero.ok
 rw [bbp] at hadd
 refine gF0 func137 ?_
 refine gc (aib x hx) ?_
 refine gC (fun ht5 => ?_) (fun ht5 => ?_)
 ·have h0 : x.q = 0 := ahv (by simpa [aaa] using ht5)
  refine gR ?_
  exact ad9 (by rw [h0]; exact Sub.nil _ _ _)
 ·have h0 : x.q ≠ 0 := fun h => by rw [h] at ht5; cases ht5
  refine gc (Con.subA (.cons (.refl _) (.cons ao9 .nil)) hadd) ?_
  refine gE1 ?_
  have : sh 0 (x.q : Rat) = [x.q] := if_neg h0
  rw [this]; rfl
end Go.Lw
namespace Go.Lw
open Go.Proofs
theorem bh6 {p q : Rat} (hp : Qs p) (hq : Qs q) : FnC prog 206 [qA p, qA q] (qA (p + q)) := by
 have h := adp (rt p) (rt q) hp.ok hq.ok
 rw [agh,agh] at h
 exact h
theorem bhv {p q : Rat} (hp : Qs p) (hq : Qs q) : FnC prog 281 [qA p, qA q] (qA (p - q)) := by
 have h := aow (rt p) (rt q) hp.ok hq.ok
 rw [agh,agh] at h
 exact h
theorem bg7 {p q : Rat} (hp : Qs p) (hq : Qs q) : FnC prog 288 [qA p, qA q] (qA (p * q)) := by
 have h := ai1 (rt p) (rt q) hp.ok hq.ok
 rw [agh,agh] at h
 exact h
theorem bhe {p q : Rat} (hp : Qs p) (hq : Qs q) : FnC prog 431 [qA p, qA q] (.tup [qA (p / q), ain (if q = 0 then 8 else 0)]) := by
 have h := ao8 (rt p) (rt q) hp.ok hq.ok
 rw [agh,agh] at h
 exact h
theorem bh7 {p : Rat} (hp : Qs p) : FnC prog 111 [qA p] (qA (-p)) := by
 have h := adn (rt p) hp.ok
 rw [agh] at h
 exact h
theorem bfn {p : Rat} (hp : Qs p) : FnC prog 313 [qA p] (i64 (ahh p)) := by
 have h := ad6 (rt p) hp.ok
 rw [agh] at h
 exact h
theorem ars (x : Tn) (hx : x.t.ok) : FnC prog 210 [x.av] (ain x.err) := by
 refine gF0 func210 ?_
 refine gc (ab8 x.t hx) ?_
 refine gcG (fun _ => (ad6 x.t hx)) ?_
 refine gC (fun ht16 => ?_) (fun ht16 => ?_)
 ·have h0 := Tn.err_yes ht16
  refine gE1 ?_
  rw [h0]; rfl
 ·have h0 := Tn.err_no ht16
  refine gE1 ?_
  rw [h0]; rfl
theorem auh (x : Tn) (hx : x.t.ok) : FnC prog 113 [x.av] (i64 x.err) := by
 refine gF0 func113 ?_
 refine gc (afj x.t hx) ?_
 refine gcG (fun _ => (aib x.t hx)) ?_
 refine gC (fun ht16 => ?_) (fun ht16 => ?_)
 ·have h0 := Tn.err_yes ht16
  refine gE1 ?_
  rw [h0]; rfl
 ·have h0 := Tn.err_no ht16
  refine gE1 ?_
  rw [h0]; rfl
end Go.Lw
namespace Go.Lw
open Go.Proofs
theorem bea {ts : List (List Rat)} {r e f : Nat} (tw : Tw ts r) {a b : List Rat} (ha : Nm ts.length e a) (hb : Nm ts.length f b) (he : e + f <= lm ts.length) :
  FnC prog 231 [ao0 ts,nA a,nA b] (.tup [nA (sh ts.length (T.add ts.length (dec ts.length a) (dec ts.length b))),.v .nilIface]) := by
 have h := aud (ts.map (List.map rt)) r tw.tr (a.map rt) (b.map rt) e f (ha.rt (by omega)) (hb.rt (by omega)) (by rw [length_map]; exact he)
 have h0 : acj (ts.map (List.map rt)) [a.map rt,b.map rt] = 0 := anv tw ha hb
 rw [h0,if_pos rfl,aht,ahs,ahs,ajs,ajs,length_map] at h
 exact h
theorem bf4 {ts : List (List Rat)} {r e f : Nat} (tw : Tw ts r) {a b : List Rat} (ha : Nm ts.length e a) (hb : Nm ts.length f b) (he : e + f <= lm ts.length) :
  FnC prog 163 [ao0 ts,nA a,nA b] (.tup [nA (sh ts.length (T.add ts.length (dec ts.length a) (T.neg ts.length (dec ts.length b)))),.v .nilIface]) := by
 have h := aux (ts.map (List.map rt)) r tw.tr (a.map rt) (b.map rt) e f (ha.rt (by omega)) (hb.rt (by omega)) (by rw [length_map]; exact he)
 have h0 : acj (ts.map (List.map rt)) [a.map rt,b.map rt] = 0 := anv tw ha hb
 rw [h0,if_pos rfl,aht,ahs,ahs,ajs,ajs,length_map] at h
 exact h
theorem bek {ts : List (List Rat)} {r e f : Nat} (tw : Tw ts r) {a b : List Rat} (ha : Nm ts.length e a) (hb : Nm ts.length f b) (he : e + f <= lm ts.length) :
  FnC prog 164 [ao0 ts,nA a,nA b] (.tup [nA (sh ts.length (T.mul (aaz ts) ts.length (dec ts.length a) (dec ts.length b))),.v .nilIface]) := by
 have h := aut (ts.map (List.map rt)) r tw.tr (a.map rt) (b.map rt) e f (ha.rt (by omega)) (hb.rt (by omega)) (by rw [length_map]; exact he)
 have h0 : acj (ts.map (List.map rt)) [a.map rt,b.map rt] = 0 := anv tw ha hb
 rw [h0,if_pos rfl,aht,ahs,ahs,apv,ajs,ajs,length_map] at h
 exact h
theorem bdb {ts : List (List Rat)} {r e f : Nat} (tw : Tw ts r) {a b : List Rat} (ha : Nm ts.length e a) (hb : Nm ts.length f b) (he : e + f + 1 <= lm ts.length) :
  FnC prog 449 [ao0 ts,nA a,nA b] (.tup [i64 (T.sgn (aaz ts) ts.length (T.add ts.length (dec ts.length a) (T.neg ts.length (dec ts.length b)))),.v .nilIface]) := by
 have h := auc (ts.map (List.map rt)) r tw.tr (a.map rt) (b.map rt) e f (ha.rt (by omega)) (hb.rt (by omega)) (by rw [length_map]; exact he)
 have h0 : acj (ts.map (List.map rt)) [a.map rt,b.map rt] = 0 := anv tw ha hb
 rw [h0,if_pos rfl,aht,ahs,ahs,apv,ajs,ajs,length_map] at h
 exact h
theorem bbk {ts : List (List Rat)} {r e : Nat} (tw : Tw ts r) {a : List Rat} (ha : Nm ts.length e a) (he : e <= lm ts.length) :
  FnC prog 205 [ao0 ts,nA a] (.tup [i64 (T.sgn (aaz ts) ts.length (dec ts.length a)),.v .nilIface]) := by
 have h := ase (ts.map (List.map rt)) r tw.tr (a.map rt) e (ha.rt he) (by rw [length_map]; exact he)
 have h0 : acj (ts.map (List.map rt)) [a.map rt] = 0 := a2f tw ha
 rw [h0,if_pos rfl,aht,ahs,apv,ajs,length_map] at h
 exact h
theorem ben {ts : List (List Rat)} {r e f : Nat} (tw : Tw ts r) {a b : List Rat} (ha : Nm ts.length e a) (hb : Nm ts.length f b) (he : e + f + 1 <= lm ts.length) :
  FnC prog 79 [ao0 ts,nA a,nA b] (.tup [i64 (T.sgn (aaz ts) ts.length (T.add ts.length (dec ts.length a) (T.neg ts.length (dec ts.length b)))),i64 0]) := by
 have h := a4f (ts.map (List.map rt)) r tw.tr (a.map rt) (b.map rt) e f (ha.rt (by omega)) (hb.rt (by omega)) (by rw [length_map]; exact he)
 have h0 : acj (ts.map (List.map rt)) [a.map rt,b.map rt] = 0 := anv tw ha hb
 rw [h0,if_pos rfl,aht,ahs,ahs,apv,ajs,ajs,length_map] at h
 exact h
theorem bdh {ts : List (List Rat)} {r e : Nat} (tw : Tw ts r) {a : List Rat} (ha : Nm ts.length e a) (he : e <= lm ts.length) :
  FnC prog 148 [ao0 ts,nA a] (.tup [nA (sh ts.length (T.neg ts.length (dec ts.length a))),.v .nilIface]) := by
 have h := au7 (ts.map (List.map rt)) r tw.tr (a.map rt) e (ha.rt he) (by rw [length_map]; exact he)
 have h0 : acj (ts.map (List.map rt)) [a.map rt] = 0 := a2f tw ha
 rw [h0,if_pos rfl,aht,ahs,ajs,length_map] at h
 exact h
theorem a7l {ts : List (List Rat)} {r : Nat} (tw : Tw ts r) : FnC prog 145 [ao0 ts] (.v .nilIface) := by
 have h := ajx (ts.map (List.map rt)) r tw.tr
 rw [tw.chk,aht] at h
 exact h
theorem bg4 {q : Rat} (h : Qs q) : FnC prog 149 [qA q] (nA (sh 0 (q : Rat))) := by
 have h1 := ayw (rt q) h.ok (by rw [agh]; exact h)
 rw [agh] at h1
 exact h1
theorem bg3 {q : Rat} (h : Qs q) : FnC prog 137 [qA q] (nA (sh 0 (q : Rat))) := by
 have h1 := a54 (rt q) h.ok (by rw [agh]; exact h)
 rw [agh] at h1
 exact h1
end Go.Lw
namespace Go.Lw
open Go.Proofs
end Go.Lw
namespace Go.Lw
open Go.Proofs
theorem avo {ts : List (List Rat)} {r e f : Nat} (tw : Tw ts r) {a b : List Rat} (ha : Nm ts.length e a) (hb : Nm ts.length f b) (he : e + f + 1 <= lm ts.length) : FnC prog 17 [ao0 ts, nA a, nA b] (bl (eqT ts (dec ts.length a) (dec ts.length b))) := by
 refine gF0 func17 ?_
 refine gc (ben tw ha hb he) ?_
 refine gE1 ?_
 exact congrArg bl (bbx _)
end Go.Lw
namespace Go.Lw
open Go.Proofs
end Go.Lw
namespace Go.Lw
open Go.Proofs
section
variable {ts : List (List Rat)} {u k : Nat} {a b a2 b2 : List Rat} {x y x2 y2 : Et ts} {w v w' v' w2 v2 w3 v3 : Nat}
def atXE (c s X : Et ts) (p q : Rat) : Et ts := (c * qE p - s * qE q) + X
def atYE (c s Y : Et ts) (p q : Rat) : Et ts := (s * qE p + c * qE q) + Y
instance Zu.atXE [c : Ct ts u k] {x y z : Et ts} {p q : Rat} {w1 v1 w2 v2 w3 v3 w4 w5 : Nat} [Zu u k x w1 v1] [Zu u k y w2 v2] [Zu u k z w3 v3] [Qz u p w4] [Qz u q w5] : Zu u k (atXE x y z p q) (w1 + w4 + (w2 + w5) + w3) (v1 + 0 + 1 + (v2 + 0 + 1) + 1 + v3 + 1) :=
  (inferInstance : Zu u k ((x * Lw.qE p - y * Lw.qE q) + z) _ _)
instance Zu.atYE [c : Ct ts u k] {x y z : Et ts} {p q : Rat} {w1 v1 w2 v2 w3 v3 w4 w5 : Nat} [Zu u k x w1 v1] [Zu u k y w2 v2] [Zu u k z w3 v3] [Qz u p w4] [Qz u q w5] : Zu u k (atYE x y z p q) (w2 + w4 + (w1 + w5) + w3) (v2 + 0 + 1 + (v1 + 0 + 1) + 1 + v3 + 1) :=
  (inferInstance : Zu u k ((y * Lw.qE p + x * Lw.qE q) + z) _ _)
end
end Go.Lw
