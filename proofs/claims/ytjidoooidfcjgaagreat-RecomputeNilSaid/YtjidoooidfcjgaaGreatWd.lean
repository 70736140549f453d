/- RecomputeNil: for any linkage and any turns the law returns true and leaves its arguments as they were. No other condition. Part 4 of 6: what the later parts need -/
import Derived.Test.YtjidoooidfcjgaaGreatWc
set_option linter.unusedVariables false
open List (mem_of_getElem? mem_cons getD_eq_getElem?_getD getElem?_eq_none all_eq_true getElem?_take getElem?_eq_getElem drop_eq_nil_of_le map_append length_take take_of_length_le length_map drop_zero take_length drop_drop map_take all_append map_replicate map_set not_mem_nil)
open Nat (le_refl lt_of_lt_of_le lt_or_ge le_trans mul_le_mul_right mul_le_mul_left zero_le pow_add lt_of_le_of_lt)
open Bool (and_eq_true)
open Int (natAbs_natCast)
open Go.Proofs.Tryz
namespace Go.Lw
open Go.Proofs
theorem agd (a b : List Nat) (ha : Ws a) (hb : Ws b) (na : Nz a) (nb : Nz b) (hb0 : b ≠ []) (la : a.length < big) (lb : b.length < big) :
  FnC prog 380 [ws a,ws b] (.tup [ws (ofNat (val a / val b)),ws (ofNat (val a % val b))]) := by
 have la' := la
 unfold big at la lb
 refine gF0 func380 ?_
 refine gc (ady a b ha hb na nb) ?_
 refine gC (fun ht22 => ?_) (fun ht22 => ?_)
 ·have h1 : val a < val b := by
   simp only [aab] at ht22
   split at ht22
   ·assumption
   ·split at ht22 <;> simp at ht22
  refine gc (aiu a ha (by omega)) ?_
  refine gR ?_
  exact a19 (by rw [Nat.div_eq_of_lt h1]; exact Sub.nil _ _ _) (by rw [Nat.mod_eq_of_lt h1]; exact Sub.refl _)
 ·have h1 : val b <= val a := by
   simp only [aab] at ht22
   split at ht22
   ·simp at ht22
   ·omega
  refine gl ?_
  refine gC (fun ht27 => ?_) (fun ht27 => ?_)
  ·have hl : b.length = 1 := by have := ht27; simp [aab] at this; omega
   obtain ⟨x,rfl⟩ : ∃ x,b = [x] := List.length_eq_one_iff.1 hl
   have hx : x ≠ 0 := nb x rfl
   have hxB : x < 4294967296 := hb x (by simp)
   have hv : val [x] = x:=by simp [val]
   have hm := Nat.mod_lt (val a) (show 0 < x by omega)
   refine gi (show _ = some (u32 x) from rfl) ?_
   refine gc (alh a x ha (by omega) (by omega) hxB) ?_
   refine gc (aiu [val a % x] (aqv (by omega)) (by simp [big])) ?_
   refine gE2 ?_
   rw [hv]; simp [val]
  ·have hl : b.length ≠ 1 := by have := ht27; simp [aab] at this; omega
   obtain ⟨n,hn⟩ : ∃ n,b.length = n + 2 := ⟨b.length - 2,by have := List.length_pos_iff.2 hb0; omega⟩
   obtain ⟨sh,v,hsh,hsh2,hv,wv,lv,vv,hvt,htop,hlo⟩ := a84 hb nb hn
   have hab : b.length <= a.length := by
    rcases lt_or_ge a.length b.length with h2 | h2
    ·have := aem ha nb h2; omega
    ·exact h2
   obtain ⟨lq,hlq⟩ : ∃ lq,a.length + 1 = lq + (n + 2) := ⟨a.length + 1 - (n + 2),by omega⟩
   have hbt := aai hb (n + 1)
   refine gl ?_
   refine ga (show _ = ((n + 1 : Nat) : Int) by rw [aa8 (by omega)]; omega) ?_
   refine gi (are (n := n + 1) (by omega) (by first | omega | (simp; omega))) ?_
   refine gc (show FnC _ _ _ (i64 (sh : Nat)) by rw [hsh]; exact akl _ hbt) ?_
   refine gt (abe (aj4 900 rfl b sh hb (by unfold big; omega) hsh2) (.cons (.tmp rfl) (.cons (.tmp rfl) .nil)) (by first | exact hH0 | exact hH1 rfl | exact hH2 rfl rfl) rfl rfl) ?_
   refine gl ?_
   refine gs (ago (.tmp rfl) (.none _) (.some _ (.tmp rfl) (by omega)) T80 rfl T271 rfl (by omega) (by omega) rfl) ?_
   refine gt (abe (aj4 901 rfl a sh ha (by unfold big; omega) hsh2) (.cons (.tmp rfl) (.cons (.tmp rfl) .nil)) (by first | exact hH0 | exact hH1 rfl | exact hH2 rfl rfl) rfl rfl) ?_
   refine gD ?_ (8,0)
   refine gW ((Wk.freeze (k := 900) rfl).trans <| Wk.of (sl := [(0,some (ws a)),(1,some (ws b)),(8,some (i64 sh)),(9,some (ws v)),(10,some (.ms 901 1 0 (a.length + 1)))]) (hp := [(901,some (.row 1 ((acv (a.length + 1) (2 ^ sh * val a)).map u32)))]) (.k (.k (.k (.cons rfl (Sub.of (bbf hn hv)) (.k .nil))))) (.cons rfl (.refl _) .nil)) ?_
   refine gl ?_
   refine ga (show _ = (lq : Int) by rw [lv,aa8 (by omega)]; omega) ?_
   refine gs (afj (.tmp rfl) T80 rfl T271 rfl rfl (by omega) (by dsimp only; omega) rfl) ?_
   refine gl ?_
   refine ga (show _ = ((n + 1 : Nat) : Int) by rw [lv,aa8 (by omega)]; omega) ?_
   refine gi (are (n := n + 1) (by omega) (by first | omega | (simp; omega))) ?_
   refine gv (u64_in (by have := aai wv (n + 1); omega)) ?_
   refine gl ?_
   refine ga (show _ = (n : Int) by rw [lv,aa8 (by omega)]; omega) ?_
   refine gi (are (n := n) (by omega) (by first | omega | (simp; omega))) ?_
   refine gv (u64_in (by have := aai wv n; omega)) ?_
   refine gD ?_
   refine ga (aa8 (by omega)) ?_
   refine gL3 [8,9,12,13] [] (fun (q u : List Nat) (j : Nat) => [(10,some (.ms 901 1 0 (a.length + 1))),(11,some (.ms 61 1 0 lq)),(14,some (i64 ((j : Int) - 1)))]) (fun q u _ => [(901,some (.row 1 (u.map u32))),(61,some (.row 1 (q.map u32)))]) (fun q u j => q.length = lq /\ u.length = a.length + 1 /\ Ws q /\ Ws u /\ j <= lq /\ val (u.drop j) < val v /\ 2 ^ sh * val a = val v * (4294967296 ^ j * val (q.drop j)) + val u) (fun _ _ j => j) (List.replicate lq 0) (acv (a.length + 1) (2 ^ sh * val a)) lq ⟨by simp,abh _ _,ahu _,aec _ _,le_refl _,by rw [vv]; exact (a48 ha hsh2 hlq hlo).2,by rw [(a48 ha hsh2 hlq hlo).1]; simp [val]⟩ ?_ (h2 := (.cons rfl (.refl _) (.cons rfl (BlkSub.of (by rw [map_replicate]; rfl)) .nil)))
   rintro q u j ⟨hql,hul,wq,wu,hj,hlt,hU⟩ K1 hK1
   refine gC (fun ht80 => ?_) (fun ht80 => ?_) (st2 := (23,0))
   ·have hj0 : 1 <= j := by have := ht80; simp [aab] at this; omega
    obtain ⟨k,rfl⟩ : ∃ k,j = k + 1 := ⟨j - 1,by omega⟩
    obtain ⟨W,hW⟩ : ∃ W,W = val (win u k (n + 3)) := ⟨_,rfl⟩
    have hVl : val v < 4294967296 ^ (n + 2):=by have := aa9 v wv; rwa [lv] at this
    obtain ⟨e1,e2,e3⟩ := a2u (u := u) (q := q) (k := k) (lv := n + 2) wu (by omega) (by omega) hVl hlt hU
    simp only [show n + 2 + 1 = n + 3 from rfl] at e1 e2 e3
    have hdig := ba2 wv (aj2 wu k (n + 3)) lv (ah0 (by omega)) hvt e1
    rw [<- hW] at e1 e2 e3 hdig
    have wp := aj2 wu k (n + 3)
    have b1 := aai wp n
    have b2 := aai wp (n + 1)
    have b3 := aai wp (n + 2)
    have b4 := hdig.htop
    have b5 := hdig.htopB
    have b6 := hdig.hnext
    obtain ⟨top,htop'⟩ : ∃ top,top = aaa v (n + 1) := ⟨_,rfl⟩
    obtain ⟨nx,hnx⟩ : ∃ nx,nx = aaa v n := ⟨_,rfl⟩
    obtain ⟨hd,hhd⟩ : ∃ hd,hd = aaa (win u k (n + 3)) (n + 2) * 4294967296 + aaa (win u k (n + 3)) (n + 1) := ⟨_,rfl⟩
    obtain ⟨th,hth⟩ : ∃ th,th = aaa (win u k (n + 3)) n := ⟨_,rfl⟩
    rw [<- htop',<- hnx,<- hhd,<- hth] at hdig
    rw [<- htop'] at b4 b5 ⊢
    rw [<- hnx] at b6 ⊢
    rw [<- hth] at b1
    have hdB : hd < 18446744073709551616:=by omega
    refine gl ?_
    refine ga (show _ = ((k + n + 2 : Nat) : Int) by rw [lv,aax (by omega)]; omega) ?_
    refine ga (show _ = ((k + n + 3 : Nat) : Int) by rw [aax (by omega)]; omega) ?_
    refine gs (ago (.tmp rfl) (.some _ (.tmp rfl) (by omega)) (.some _ (.tmp rfl) (by omega)) T80 rfl T271 rfl (by omega) (by omega) rfl) ?_ (14,0)
    refine gW (Wk.of (sl := [(8,some (i64 sh)),(9,some (ws v)),(10,some (.ms 901 1 0 (a.length + 1))),(11,some (.ms 61 1 0 lq)),(12,some (u64 top)),(13,some (u64 nx)),(14,some (i64 k)),(15,some (.ms 901 1 k (n + 3)))]) (hp := [(901,some (.row 1 (u.map u32))),(61,some (.row 1 (q.map u32)))]) (.k (.k (.k (.k (.k (.k (.cons rfl (Sub.int (by omega)) (.cons rfl (Sub.of (by congr 1 <;> omega)) .nil)))))))) (.cons rfl (.refl _) (.cons rfl (.refl _) .nil))) ?_
    refine gl ?_
    refine gs (ae4 (n := n + 2) (.tmp rfl) (.tmp rfl) T80 rfl T271 rfl (by omega) (by omega) rfl) ?_
    refine gs (aar (.tmp rfl) rfl (a0a (n := n + 3) (i := n + 2) (by omega) (by omega)) T271 rfl rfl rfl) ?_
    refine gv (u64_in (by omega)) ?_
    refine gs (afg (.tmp rfl) (.const _) (by omega) (ajg (n := 32) (by omega) (by omega)) rfl) ?_
    refine gl ?_
    refine ga (show _ = ((n + 1 : Nat) : Int) by rw [lv,aa8 (by omega)]; omega) ?_
    refine gs (ae4 (n := n + 1) (.tmp rfl) (.tmp rfl) T80 rfl T271 rfl (by omega) (by omega) rfl) ?_
    refine gs (aar (.tmp rfl) rfl (a0a (n := n + 3) (i := n + 1) (by omega) (by omega)) T271 rfl rfl rfl) ?_
    refine gv (u64_in (by omega)) ?_
    refine gs (ads (.tmp rfl) (.tmp rfl) rfl ((afp (by omega) (by omega)).trans (show _ = (hd : Int) by rw [aqj (by omega),hhd])) rfl) ?_
    refine gD ?_
    refine gs (ac6 (.tmp rfl) (.tmp rfl) (by omega) (axl hdB) rfl) ?_
    refine gs (atv (.tmp rfl) (.tmp rfl) (by omega) axt rfl) ?_
    refine gD ?_
    refine gL2 [8,9,12,13,14] [901,61] (fun (g r : Nat) => [(10,some (.ms 901 1 0 (a.length + 1))),(11,some (.ms 61 1 0 lq)),(15,some (.ms 901 1 k (n + 3))),(17,some (u64 g)),(18,some (u64 r))]) (fun _ _ => []) (fun g r => W / val v <= g /\ g * top + r = hd /\ g < 18446744073709551616 /\ r < 8589934592) (fun g _ => g) (hd / top) (hd % top) ⟨hdig.first,by rw [Nat.mul_comm]; exact Nat.div_add_mod _ _,by have := Nat.div_le_self hd top; omega,by have := Nat.mod_lt hd (show 0 < top by omega); omega⟩ ?_
    rintro g r ⟨hg,hgr,hgB,hrB⟩ K2 hK2
    refine gaG (fun ⟨h,h2⟩ => (aoo (by simp [aab] at h2; have := akr (x := g) (y := nx) (by omega) b6; omega))) ?_
    refine gs (aft rfl rfl rfl (fun h h2 => afg (.opt rfl (o2 h h2)) (.const _) (by omega) (ajg (n := 32) (by omega) (by simp [aab] at h; omega)) rfl)) ?_
    refine glG ?_
    refine gaG (fun _ => (show _ = (n : Int) by rw [lv,aa8 (by omega)]; omega)) ?_
    refine gs (aft rfl rfl rfl (fun h h2 => ae4 (n := n) (.opt rfl (o2 h h2)) (.opt rfl (o2 h h2)) T80 rfl T271 rfl (by omega) (by omega) rfl)) ?_
    refine gs (aft rfl rfl rfl (fun h h2 => aar (.opt rfl (o2 h h2)) rfl (a0a (n := n + 3) (i := n) (by omega) (by omega)) T271 rfl rfl rfl)) ?_
    refine gvG (fun _ => (u64_in (by omega))) ?_
    refine gs (aft rfl rfl rfl (fun h h2 => ads (.opt rfl (o2 h h2)) (.opt rfl (o2 h h2)) rfl ((afp (by simp [aab] at h; omega) (by omega)).trans (by rw [aqj (by omega)])) rfl)) ?_
    refine gC (fun ht133 => ?_) (fun ht133 => ?_)
    ·have hc : r < 4294967296 /\ (4294967296 <= g \/ r * 4294967296 + th < g * nx) := by
      rw [hth]
      have h9 := auo.1 ht133
      rwa [show r * 2 ^ 32 = r * 4294967296 from rfl] at h9
     have hg1 := hdig.step hg hgr hc.2
     have hg0 : 1 <= g := Nat.succ_le_of_lt (lt_of_le_of_lt (zero_le _) hg1)
     refine ga (at0 (by omega) (by omega)) ?_
     refine ga (adn (by omega)) ?_
     exact gK2 hK2 (g - 1) (r + top) ⟨Nat.le_sub_one_of_lt hg1,by rw [Nat.sub_mul]; have := mul_le_mul_right top (show 1 <= g by omega); omega,by omega,by omega⟩
    ·have hc : ¬ (r < 4294967296 /\ (4294967296 <= g \/ r * 4294967296 + th < g * nx)) := by
      rw [hth]
      intro hh
      rw [show r * 4294967296 = r * 2 ^ 32 from rfl] at hh
      exact Bool.eq_false_iff.1 ht133 (auo.2 hh)
     obtain ⟨hgB2,hgq⟩ := hdig.last hgr hc
     have hVp := hdig.vpos
     have hWl : val (win u k (n + 3)) < 4294967296 ^ (n + 3):=by have := aa9 _ wp; rwa [ah0 (by omega)] at this
     obtain ⟨p1,p2⟩ := a2q hVp (show val v <= 4294967296 ^ (n + 3) by have := Nat.pow_le_pow_right (show 0 < 4294967296 by omega) (show n + 2 <= n + 3 by omega); omega) (hW ▸ hWl) hg hgq
     have hwul : k + (n + 3) <= u.length:=by omega
     have hwr : (wr u k (acv (n + 3) (aw2 g (val v) W (n + 3)))).length = a.length + 1:=by rw [ajc (by rw [abh]; omega),hul]
     refine gt (abe (Con.rekey 901 rfl rfl (akm u v k (n + 3) g wu wv (by omega) hwul hgB2 (by unfold ab9; omega))) (.cons (.tmp rfl) (.cons (.tmp rfl) (.cons (.tmp rfl) .nil))) (by first | exact hH0 | exact hH1 rfl | exact hH2 rfl rfl) rfl rfl) ?_
     refine gC (fun ht142 => ?_) (fun ht142 => ?_)
     ·have hlt2 : W < g * val v := by rw [hW]; simpa using ht142
      obtain ⟨q1,q2,q3⟩ := p1 hlt2
      have hrl : aw2 g (val v) W (n + 3) < 4294967296 ^ (n + 3):=by unfold aw2; rw [if_neg (by omega)]; rw [<- hW] at hWl; omega
      refine ga (at0 (by omega) (by omega)) ?_
      refine gt (abe (Con.rekey 901 rfl rfl (am5 (wr u k (acv (n + 3) (aw2 g (val v) (val (win u k (n + 3))) (n + 3)))) v k (n + 3) (aww wu (aec _ _)) wv (by omega) (by rw [<- hW,hwr]; omega) (by rw [<- hW,hwr]; unfold ab9; omega))) (.cons (.tmp rfl) (.cons (.tmp rfl) .nil)) (by first | exact hH0 | exact hH1 rfl | exact hH2 rfl rfl) rfl rfl) ?_
      refine gv ((aaz _).trans (by rw [Nat.mod_eq_of_lt (by omega)])) ?_
      refine gs (aam (n := k) (.tmp rfl) (.tmp rfl) T80 rfl T271 rfl (by omega) (by omega) rfl) ?_
      refine gs (abj (.tmp rfl) rfl (afc (i := k) (by omega)) rfl (.tmp rfl) rfl rfl T271 rfl rfl) ?_
      refine ga (aa8 (by omega)) ?_
      exact gK3 hK1 (q.set k (W / val v)) (wr u k (acv (n + 3) (W % val v))) k ⟨by simp [hql],by rw [ajc (by rw [abh]; omega),hul],ado wq hdig.q_lt,aww wu (aec _ _),by omega,e2,e3⟩ (hw := Wk.of abv (.cons rfl (BlkSub.of (by rw [<- hW]; first | (rw [q1]; done) | (rw [azu (r := W % val v) hwul (abh _ _) (by rw [ad1 _ _ hrl]; exact q1)]; done))) (.cons rfl (BlkSub.of (by rw [map_set,q2]; rfl)) .nil)))
     ·have hlt2 : ¬ W < g * val v := by rw [hW]; simpa using ht142
      obtain ⟨q1,q2⟩ := p2 hlt2
      refine gv ((aaz _).trans (by rw [Nat.mod_eq_of_lt (by omega)])) ?_
      refine gs (aam (n := k) (.tmp rfl) (.tmp rfl) T80 rfl T271 rfl (by omega) (by omega) rfl) ?_
      refine gs (abj (.tmp rfl) rfl (afc (i := k) (by omega)) rfl (.tmp rfl) rfl rfl T271 rfl rfl) ?_
      refine ga (aa8 (by omega)) ?_
      exact gK3 hK1 (q.set k (W / val v)) (wr u k (acv (n + 3) (W % val v))) k ⟨by simp [hql],by rw [ajc (by rw [abh]; omega),hul],ado wq hdig.q_lt,aww wu (aec _ _),by omega,e2,e3⟩ (hw := Wk.of abv (.cons rfl (BlkSub.of (by rw [<- hW]; first | (rw [q1]; done) | (rw [azu (r := W % val v) hwul (abh _ _) (by rw [ad1 _ _ hrl]; exact q1)]; done))) (.cons rfl (BlkSub.of (by rw [map_set,q2]; rfl)) .nil)))
   ·have hj0 : j = 0 := by have := ht80; simp [aab] at this; omega
    subst hj0
    have hU' : 2 ^ sh * val a = 2 ^ sh * val b * val q + val u:=by rw [<- vv]; simpa using hU
    obtain ⟨hQ,hR⟩ := a6f hU' (by rw [<- vv]; simpa using hlt)
    refine gW ((Wk.freeze (k := 61) rfl).trans <| (Wk.freeze (k := 901) rfl).trans <| Wk.of (sl := [(8,some (i64 sh)),(10,some (ws u)),(11,some (ws q))]) (hp := []) (.k (.cons rfl (Sub.of (ace (by simp [hul]))) (.cons rfl (Sub.of (by rw [show AV.fz 61 1 (q.map u32) (.ms 61 1 0 lq) = ws q from ace (by simp [hql])]; rfl)) .nil))) .nil) ?_
    refine gc (aiu q wq (by unfold big; omega)) ?_
    refine gc (am4 u sh wu (by unfold big; omega) hsh2) ?_
    refine gE2 ?_
    rw [<- hQ,<- hR]
end Go.Lw
namespace Go.Lw
open Go.Proofs
theorem ak6 {b : Bool} {n : Nat} : (cond b (aab .gtr ((ofNat n).length : Int) 0) false) = true ↔ (b = true /\ 0 < n) := by
 have h : aab .gtr ((ofNat n).length : Int) 0 = true ↔ 0 < n := by
  simp only [aab,decide_eq_true_eq]
  constructor
  ·intro h; rcases Nat.eq_zero_or_pos n with h1 | h1; (subst h1; simp [av9] at h); exact h1
  ·intro h
   have : ofNat n ≠ []:=by intro h1; have := aag n; rw [h1] at this; simp [val] at this; omega
   have := List.length_pos_iff.2 this
   omega
 cases b with
 | false => simp
 | true => exact ⟨fun h1 => ⟨rfl,h.1 h1⟩,fun h1 => h.2 h1.2⟩
theorem afb (a : Wh) (ha : a.ok) : FnC prog 307 [a.av] (i64 a.z.sign) := by
 obtain ⟨e1,e2,e3⟩ := avj ha
 refine gF0 func307 ?_
 refine gc (aba a ha) ?_
 refine gl ?_
 refine gC (fun ht3 => ?_) (fun ht3 => ?_)
 ·have h0 : a.m.length = 0 := by simpa [aab] using ht3
  refine gE1 ?_
  rw [e1 h0]; rfl
 ·have h0 : a.m.length ≠ 0 := by simpa [aab] using ht3
  refine gC (fun ht8 => ?_) (fun ht8 => ?_)
  ·refine gE1 ?_
   rw [e2 h0 ht8]; rfl
  ·refine gE1 ?_
   rw [e3 h0 ht8]; rfl
theorem apb (a b : Wh) (ha : a.ok) (hb : b.ok) : FnC prog 327 [a.av, b.av] (i64 (aqd a.z b.z)) := by
 refine gF0 func327 ?_
 refine gc (afb a ha) ?_
 refine gc (afb b hb) ?_
 refine gD ?_
 refine gC (fun ht14 => ?_) (fun ht14 => ?_)
 ·have h0 : a.z.sign ≠ b.z.sign := by simpa [aab] using ht14
  obtain ⟨e1,e2⟩ := a27 h0
  refine gC (fun ht17 => ?_) (fun ht17 => ?_)
  ·have h1 : a.z.sign < b.z.sign := by simpa [aab] using ht17
   refine gE1 ?_
   rw [e1 h1]; rfl
  ·have h1 : ¬ a.z.sign < b.z.sign := by simpa [aab] using ht17
   refine gE1 ?_
   rw [e2 h1]; rfl
 ·have h0 : a.z.sign = b.z.sign := by simpa [aab] using ht14
  have e1 := a4c h0
  refine gc (aba a ha) ?_
  refine gc (aba b hb) ?_
  refine gc (ady a.m b.m (Wh.ws ha) (Wh.ws hb) a.nz b.nz) ?_
  refine gD ?_
  refine gc (aa1 a ha) ?_
  refine gC (fun ht24 => ?_) (fun ht24 => ?_)
  ·rw [ht24, if_pos rfl] at e1
   refine gs (a3m (.tmp rfl) rfl) ?_
   refine gE1 ?_
   rw [e1]
   split
   ·rfl
   ·split <;> rfl
  ·rw [ht24, if_neg Bool.false_ne_true] at e1
   refine gE1 ?_
   first | (rw [e1]; done) | (rw [e1]; rfl)
theorem an4 (a : Wh) (ha : a.ok) (la : a.mag.length < big) : FnC prog 209 [a.av] (zA (-a.z)) := by
 refine gF0 func209 ?_
 refine gc (aa1 a ha) ?_
 refine gc (aba a ha) ?_
 refine gc (aav _ a.m (Wh.ws ha) (Nat.le_of_lt (Wh.small ha la))) ?_
 refine gD ?_
 refine gE1 ?_
 rw [Wh.z_eq,<- a0d]; rfl
theorem apd (a b : Wh) (ha : a.ok) (hb : b.ok) (la : a.mag.length + b.mag.length <= big) : FnC prog 306 [a.av, b.av] (zA (a.z * b.z)) := by
 have h1 := Wh.m_le (w := a)
 have h2 := Wh.m_le (w := b)
 have h3 : (ofNat (val a.m * val b.m)).length <= a.m.length + b.m.length := aaf (by rw [pow_add]; exact Nat.mul_lt_mul'' (aa9 _ (Wh.ws ha)) (aa9 _ (Wh.ws hb)))
 refine gF0 func306 ?_
 refine gc (aa1 a ha) ?_
 refine gc (aa1 b hb) ?_
 refine gc (aba a ha) ?_
 refine gc (aba b hb) ?_
 refine gc (amx a.m b.m (Wh.ws ha) (Wh.ws hb) (by omega)) ?_
 refine gc (aav _ _ (aau _) (by omega)) ?_
 refine gD ?_
 refine gE1 ?_
 rw [aag,a04]; rfl
theorem apk (a b : Wh) (ha : a.ok) (hb : b.ok) (la : a.mag.length < big) (lb : b.mag.length < big) : FnC prog 305 [a.av, b.av] (zA (a.z + b.z)) := by
 have h1 := Wh.m_le (w := a)
 have h2 := Wh.m_le (w := b)
 have hla : val a.m < 4294967296 ^ (max a.m.length b.m.length) := lt_of_lt_of_le (aa9 _ (Wh.ws ha)) (Nat.pow_le_pow_right (by omega) (by omega))
 have hlb : val b.m < 4294967296 ^ (max a.m.length b.m.length) := lt_of_lt_of_le (aa9 _ (Wh.ws hb)) (Nat.pow_le_pow_right (by omega) (by omega))
 have h3 : (ofNat (val a.m + val b.m)).length <= max a.m.length b.m.length + 1 := aaf (by rw [Nat.pow_succ]; omega)
 have h4 : (ofNat (val a.m - val b.m)).length <= max a.m.length b.m.length := aaf (by omega)
 have h5 : (ofNat (val b.m - val a.m)).length <= max a.m.length b.m.length := aaf (by omega)
 refine gF0 func305 ?_
 refine gc (aba a ha) ?_
 refine gc (aba b hb) ?_
 refine gD ?_
 refine gc (aa1 a ha) ?_
 refine gc (aa1 b hb) ?_
 refine gD ?_
 refine gC (fun ht11 => ?_) (fun ht11 => ?_)
 ·have h0 : a.n = b.n := by simpa using ht11
  refine gc (aa1 a ha) ?_
  refine gc (ahm a.m b.m (Wh.ws ha) (Wh.ws hb) (by omega) (by omega)) ?_
  refine gc (aav _ _ (aau _) (by omega)) ?_
  refine gE1 ?_
  rw [aag,auc h0]; rfl
 ·have h0 : a.n ≠ b.n := by simpa using ht11
  refine gc (ady a.m b.m (Wh.ws ha) (Wh.ws hb) a.nz b.nz) ?_
  refine gC (fun ht23 => ?_) (fun ht23 => ?_)
  ·have h6 : val b.m <= val a.m := by
    rcases lt_or_ge (val a.m) (val b.m) with h | h
    ·rw [if_pos h] at ht23; cases ht23
    ·exact h
   refine gc (aa1 a ha) ?_
   refine gc (ae8 a.m b.m (Wh.ws ha) (Wh.ws hb) (by omega) (by rcases lt_or_ge a.m.length b.m.length with h | h; (have := aem (Wh.ws ha) b.nz h; omega); exact h) h6) ?_
   refine gc (aav _ _ (aau _) (by omega)) ?_
   refine gE1 ?_
   rw [aag,an7 h0 h6]; rfl
  ·have h6 : val a.m < val b.m := by
    rcases lt_or_ge (val a.m) (val b.m) with h | h
    ·exact h
    ·rw [if_neg (by omega)] at ht23; split at ht23 <;> cases ht23
   refine gc (aa1 b hb) ?_
   refine gc (ae8 b.m a.m (Wh.ws hb) (Wh.ws ha) (by omega) (by rcases lt_or_ge b.m.length a.m.length with h | h; (have := aem (Wh.ws hb) a.nz h; omega); exact h) (by omega)) ?_
   refine gc (aav _ _ (aau _) (by omega)) ?_
   refine gE1 ?_
   rw [aag,aro h0 (by omega)]; rfl
theorem ai2 (a b : Wh) (ha : a.ok) (hb : b.ok) (la : a.mag.length < big) (lb : b.mag.length < big) : FnC prog 308 [a.av, b.av] (zA (Int.gcd a.z b.z)) := by
 refine gF0 func308 ?_
 refine gc (aba a ha) ?_
 refine gc (aba b hb) ?_
 refine gD ?_
 refine gL2 [4] [4] (fun (x y : List Nat) => [(5,some (ws x)),(6,some (ws y))]) (fun _ _ => []) (fun x y => Ws x /\ Ws y /\ Nz x /\ Nz y /\ x.length < big /\ y.length < big /\ Nat.gcd (val x) (val y) = Int.gcd a.z b.z) (fun _ y => val y) a.m b.m ⟨Wh.ws ha,Wh.ws hb,a.nz,b.nz,Wh.small ha la,Wh.small hb lb,by rw [Int.gcd,Wh.abs,Wh.abs]⟩ ?_
 rintro x y ⟨wx,wy,nx,ny,lx,ly,hg⟩ K1 hK1
 refine gl ?_
 refine gC (fun ht15 => ?_) (fun ht15 => ?_)
 ·have hy : y ≠ [] := by intro h; subst h; simp [aab] at ht15
  have hy0 := ah2 ny hy
  have hm := Nat.mod_lt (val x) hy0
  refine gc (agd x y wx wy nx ny hy lx ly) ?_
  exact gK2 hK1 y (ofNat (val x % val y)) ⟨wy,aau _,ny,ag3 _,ly,lt_of_le_of_lt (aaf (Nat.lt_trans hm (aa9 y wy))) ly,by rw [aag,<- hg,Nat.gcd_comm (val x) (val y),Nat.gcd_comm (val y) (val x % val y)]; exact (Nat.gcd_rec _ _).symm⟩ (by show val (ofNat _) < val y; rw [aag]; exact hm)
 ·have hy : y = [] := by
   cases y with
   | nil => rfl
   | cons c l => simp [aab] at ht15
  subst hy
  have hg' : val x = Int.gcd a.z b.z:=by rw [<- hg]; simp [val]
  refine gc (aav false x wx (Nat.le_of_lt lx)) ?_
  refine gE1 ?_
  rw [hg']; rfl
theorem ao0 (a b : Wh) (ha : a.ok) (hb : b.ok) (la : a.mag.length + 1 < big) (lb : b.mag.length < big) (h0 : b.z ≠ 0) : FnC prog 309 [a.av, b.av] (.tup [zA (a.z / b.z), zA (a.z % b.z), .v .nilIface]) := by
 have hm1 := Wh.m_le (w := a)
 have hm2 := Wh.m_le (w := b)
 have hb1 : val b.m ≠ 0:=by have := Wh.abs (w := b); omega
 have hb2 : b.m ≠ [] := fun h => hb1 (by rw [h]; rfl)
 have hl1 : (ofNat (val a.m / val b.m)).length <= a.m.length := aaf (lt_of_le_of_lt (Nat.div_le_self _ _) (aa9 _ (Wh.ws ha)))
 have hmod := Nat.mod_lt (val a.m) (show 0 < val b.m by omega)
 have hl2 : (ofNat (val a.m % val b.m)).length <= b.m.length := aaf (Nat.lt_trans hmod (aa9 _ (Wh.ws hb)))
 have hl3 : (ofNat (val a.m / val b.m + 1)).length <= a.m.length + 1 := aaf (by have h7 := lt_of_le_of_lt (Nat.div_le_self (val a.m) (val b.m)) (aa9 _ (Wh.ws ha)); rw [Nat.pow_succ]; generalize val a.m / val b.m = m at *; omega)
 have hl4 : (ofNat (val b.m - val a.m % val b.m)).length <= b.m.length := aaf (by have := aa9 _ (Wh.ws hb); omega)
 have hv1 : val [1] = 1 := rfl
 refine gF0 func309 ?_
 refine gc (aba b hb) ?_
 refine gl ?_
 refine gC (fun ht14 => ?_) (fun ht14 => ?_) (st1 := (3,0))
 ·exact absurd (List.length_eq_zero_iff.1 (by simpa [aab] using ht14)) hb2
 ·refine gc (aba a ha) ?_
  refine gc (agd a.m b.m (Wh.ws ha) (Wh.ws hb) a.nz b.nz hb2 (by omega) (by omega)) ?_
  refine gc (aa1 a ha) ?_
  refine glG ?_
  refine gC (fun ht31 => ?_) (fun ht31 => ?_)
  ·have h1 : a.n = true /\ 0 < val a.m % val b.m := ak6.1 ht31
   obtain ⟨e1,e2⟩ := auh hb1 h1.1 h1.2
   refine gc (ahm (ofNat (val a.m / val b.m)) [1] (aau _) (aqv (by omega)) (by omega) (by unfold big; simp)) ?_
   refine gc (ae8 b.m (ofNat (val a.m % val b.m)) (Wh.ws hb) (aau _) (by omega) hl2 (by rw [aag]; omega)) ?_ (7,0)
   refine gW (Wk.of (sl := [(2,some (.ptr 2 0)),(3,some (.ptr 3 0)),(4,some (.ptr 4 0)),(5,some (.ptr 5 0)),(8,some (ws (ofNat (val a.m / val b.m + 1)))),(9,some (ws (ofNat (val b.m - val a.m % val b.m))))]) (hp := [(2,some (.box [bl a.neg,ws a.mag])),(3,some (.box [bl b.neg,ws b.mag])),(4,some (.box [.v (.bool false),.v (.slice none 0 0)])),(5,some (.box [.v (.bool false),.v (.slice none 0 0)]))]) (.k (.k (.k (.k (.cons rfl (Sub.of (by rw [aag,hv1])) (.cons rfl (Sub.of (by rw [aag])) .nil)))))) (.cons rfl (.refl _) (.cons rfl (.refl _) (.cons rfl (.refl _) (.cons rfl (.refl _) .nil))))) ?_
   refine gc (aa1 a ha) ?_
   refine gc (aa1 b hb) ?_
   refine gc (by apply aav _ _ (aau _) (by omega)) ?_
   refine gc (by apply aav _ _ (aau _) (by omega)) ?_
   refine gD ?_
   refine gR ?_
   exact aot (by rw [aag,aag,e1,show sgn false _ = _ from e2]; rfl)
  ·have h1 : ¬ (a.n = true /\ 0 < val a.m % val b.m) := fun h => Bool.eq_false_iff.1 ht31 (ak6.2 h)
   obtain ⟨e1,e2⟩ := azg hb1 h1
   refine gc (aa1 a ha) ?_
   refine gc (aa1 b hb) ?_
   refine gc (by apply aav _ _ (aau _) (by omega)) ?_
   refine gc (by apply aav _ _ (aau _) (by omega)) ?_
   refine gD ?_
   refine gR ?_
   exact aot (by rw [aag,aag,e1,show sgn false _ = _ from e2]; rfl)
end Go.Lw
namespace Go.Lw
open Go.Proofs
theorem atx {N : Nat} (h : N < 18446744073709551616) : val [N % 4294967296, N / 2 ^ 32] = N := by
 simp only [val]; omega
theorem a38 {N : Nat} (h : N < 18446744073709551616) : Ws [N % 4294967296, N / 2 ^ 32] := by
 intro x hx
 simp only [mem_cons,not_mem_nil,or_false] at hx
 rcases hx with rfl | rfl <;> omega
theorem ake (n : Int) (h : -9223372036854775808 <= n /\ n <= 9223372036854775807) : FnC prog 270 [i64 n] (zA n) := by
 obtain ⟨N,hN⟩ : ∃ N,N = n.natAbs := ⟨_,rfl⟩
 have hNB : N < 18446744073709551616:=by omega
 refine gF0 func270 ?_
 refine gv (show IntKind.u64.wrap n = ((n % 18446744073709551616 : Int)) by simp only [IntKind.wrap,IntKind.signed,IntKind.bits,Bool.false_and,if_false,Bool.false_eq_true]; omega) ?_
 refine gC (fun ht7 => ?_) (fun ht7 => ?_) (st2 := (77777,0))
 ·have hn : n < 0 := by simpa [aab] using ht7
  refine gs (a3m (.tmp rfl) rfl) ?_ (4,0)
  refine gW (Wk.of (sl := [(0,some (i64 n)),(2,some (.ptr 2 0)),(3,some (u64 N))]) (hp := [(2,some (.box [.v (.bool false),.v (.slice none 0 0)]))]) (.k (.k (.cons rfl (Sub.int (by simp only [IntKind.wrap,IntKind.signed,IntKind.bits,Bool.false_and,if_false,Bool.false_eq_true]; omega)) .nil))) (.cons rfl (.refl _) .nil)) ?_
  refine gv (aaz _) ?_
  refine gs (acu (.tmp rfl) (.const _) (by omega) (acr _ 32 (by omega)) rfl) ?_
  refine gv ((aaz _).trans (by rw [Nat.mod_eq_of_lt (show N / 2 ^ 32 < 4294967296 by omega)])) ?_
  refine gc (aav (aab .lss n 0) [N % 4294967296,N / 2 ^ 32] (a38 hNB) (by unfold big; simp)) ?_
  refine gE1 ?_
  rw [atx hNB,show sgn (aab .lss n 0) N = n by simp only [sgn,aab,decide_eq_true_eq]; split <;> omega]; rfl
 ·have hn : ¬ n < 0 := by simpa [aab] using ht7
  refine gW (Wk.of (sl := [(0,some (i64 n)),(2,some (.ptr 2 0)),(3,some (u64 N))]) (hp := [(2,some (.box [.v (.bool false),.v (.slice none 0 0)]))]) (.k (.k (.cons rfl (Sub.int (by omega)) .nil))) (.cons rfl (.refl _) .nil)) ?_
  refine gv (aaz _) ?_
  refine gs (acu (.tmp rfl) (.const _) (by omega) (acr _ 32 (by omega)) rfl) ?_
  refine gv ((aaz _).trans (by rw [Nat.mod_eq_of_lt (show N / 2 ^ 32 < 4294967296 by omega)])) ?_
  refine gc (aav (aab .lss n 0) [N % 4294967296,N / 2 ^ 32] (a38 hNB) (by unfold big; simp)) ?_
  refine gE1 ?_
  rw [atx hNB,show sgn (aab .lss n 0) N = n by simp only [sgn,aab,decide_eq_true_eq]; split <;> omega]; rfl
end Go.Lw
namespace Go.Lw
theorem aju : ∀ (j k v : Nat), j <= k -> (acv k v).take j = acv j v
 | 0,_,_,_ => by simp [acv]
 | j + 1,0,_,h => by omega
 | j + 1, k + 1, v, h => by
  rw [acv,acv,List.take_succ_cons,aju j k _ (by omega)]
theorem atw {m : List Nat} (h : Ws m) : (ofNat (val m)).length <= m.length := aaf (aa9 m h)
theorem apy {m : List Nat} (h : Ws m) : m.take (ofNat (val m)).length = ofNat (val m) := by
 have h1 := ali m h
 have h2 := ali (ofNat (val m)) (aau _)
 rw [aag] at h2
 have h3 := aju _ _ (val m) (atw h)
 rw [<- h1,<- h2] at h3
 exact h3
theorem azc {m : List Nat} {n : Nat} (h : Ws m) (hn : n <= m.length) (hv : val (m.take n) = val m) (h0 : n = 0 \/ aaa m (n - 1) ≠ 0) : n = (ofNat (val m)).length := by
 have h1 : m.take n = ofNat (val m) := by
  refine auy (acl h n) ?_ hv
  intro x hx
  rcases h0 with h0 | h0
  ·subst h0; simp at hx
  ·have hn0 : n ≠ 0 := by intro h3; subst h3; simp at hx
   rw [List.getLast?_eq_getElem?,length_take,Nat.min_eq_left hn,getElem?_take,if_pos (by omega),acw (by omega)] at hx
   cases hx; exact h0
 rw [<- h1,length_take,Nat.min_eq_left hn]
theorem ayq (l : List Nat) (i : Nat) : val l = val (l.take i) + 4294967296 ^ i * val (l.drop i) := by
 rcases lt_or_ge i l.length with h | h
 ·exact afy (by omega)
 ·rw [aal h,drop_eq_nil_of_le h]; simp [val]
theorem agp (l : List Nat) (i : Nat) : val (l.drop i) = aaa l i + 4294967296 * val (l.drop (i + 1)) := by
 rcases lt_or_ge i l.length with h | h
 ·exact ag5 h
 ·rw [ag0 h,drop_eq_nil_of_le h,drop_eq_nil_of_le (by omega)]; rfl
theorem aut {a b : List Nat} {i : Nat} (ha : Ws a) (he : val (a.drop (i + 1)) = val (b.drop (i + 1))) (hx : aaa a i < aaa b i) : val a < val b := by
 rw [ayq a (i + 1),ayq b (i + 1),he]
 have := amp ha hx
 omega
theorem a7p {xs ys : List AV} (hl : xs.length = ys.length) (h1 : ∀ (j : Nat) (y : AV), ys[j]? = some y -> y.one = true) (h : ∀ (j : Nat) (x y : AV), xs[j]? = some x -> ys[j]? = some y -> Sub x y) : Sub (.agg xs) (.agg ys) := by
 intro g S m v hr
 cases hr with
 | agg hn h2 hr =>
  refine .agg (hn.trans hl) h1 ?_
  intro j u c hu hc
  have hj : j < xs.length := by
   rw [hl]
   rcases lt_or_ge j ys.length with h | h
   ·exact h
   ·rw [getElem?_eq_none h] at hc; cases hc
  exact h j _ c (getElem?_eq_getElem hj) hc _ _ _ _ (hr j u _ hu (getElem?_eq_getElem hj))
theorem bav : Sub (.agg [.v (.bool false), .v (.slice none 0 0)]) (zA 0) := by
 show Sub (.agg [.v (.bool false),.v (.slice none 0 0)]) (.agg [bl false,ws []])
 refine a7p rfl ?_ ?_
 ·intro j y hy
  match j,hy with
  | 0,hy => cases hy; rfl
  | 1,hy => cases hy; rfl
 ·intro j x y hx hy
  match j,hx,hy with
  | 0,hx,hy => cases hx; cases hy; exact Sub.refl _
  | 1,hx,hy => cases hx; cases hy; exact Sub.nil _ _ _
theorem aud {out : List Nat} {i x : Nat} (h : out.length = i) : val (out ++ [x]) = val out + 4294967296 ^ i * x := by
 rw [aei,h]; simp [val]
theorem ang {o c P x y u w : Nat} (hu : u < 4294967296) (hw : w < 4294967296) (hc : c <= 1) (h : o + y = x + c * P) :
  (o + P * ((4294967296 + u - w - c) % 4294967296)) + (y + P * w) = (x + P * u) + (1 - (4294967296 + u - w - c) / 2 ^ 32) * (P * 4294967296) := by
 have h0 : (4294967296 + u - w - c) % 4294967296 + w + c = u + (1 - (4294967296 + u - w - c) / 2 ^ 32) * 4294967296:=by omega
 generalize (1 - (4294967296 + u - w - c) / 2 ^ 32) = q at *
 generalize (4294967296 + u - w - c) % 4294967296 = r at *
 grind
theorem art {a b out : List Nat} {c : Nat} (ha : Ws a) (hw : Ws out) (ho : out.length = a.length) (hle : val b <= val a)
  (h : val out + val (b.take a.length) = val (a.take a.length) + c * 4294967296 ^ a.length) : val out = val a - val b := by
 have hb := ayq b a.length
 have h2 := aa9 a ha
 have h3 : val (b.drop a.length) = 0 := by
  rcases Nat.eq_zero_or_pos (val (b.drop a.length)) with h4 | h4
  ·exact h4
  ·have := mul_le_mul_left (4294967296 ^ a.length) h4; omega
 rw [h3,Nat.mul_zero,Nat.add_zero] at hb
 rw [<- hb,take_length] at h
 have h1 := aa9 out hw
 rw [ho] at h1
 cases c with
 | zero => omega
 | succ c => rw [Nat.succ_mul] at h; omega
theorem at5 {z : Int} {k : Nat} (h : Lz k z) (hk : k <= ab9) : (ofInt z).ok := ⟨aau _,le_trans h.len hk⟩
theorem arq {z : Int} {k : Nat} (h : Lz k z) : (ofInt z).mag.length <= k := h.len
theorem a3e (x y : Int) : (x - y).sign = aqd x y := by
 unfold aqd
 have h := ajo (x - y)
 (repeat' split) <;> omega
end Go.Lw
namespace Go.Lw
open Go.Proofs
theorem ad2 (m : List Nat) (i : Nat) (hm : Ws m) : FnC prog 334 [ws m, i64 i] (u64 (aaa m i)) := by
 refine gF0 func334 ?_
 refine gl ?_
 refine gC (fun ht8 => ?_) (fun ht8 => ?_)
 ·simp [aab] at ht8
  have := aai hm i
  refine gi (afc (i := i) ht8) ?_
  refine gv (u64_in (by omega)) ?_
  refine gE1 ?_
  rfl
 ·simp [aab] at ht8
  refine gE1 ?_
  simp [u64,ag0 ht8]
theorem amb (w : Wh) (h : w.ok) : FnC prog 332 [w.av] (bl w.valid) := by
 have hl : w.mag.length <= ab9 := h.2
 refine gF0 func332 ?_
 refine gl ?_
 refine gC (fun ht6 => ?_) (fun ht6 => ?_)
 ·have h0 : w.mag = [] := by simpa [aab] using ht6
  refine gE1 ?_
  simp [bl,Wh.valid,h0]
 ·have h0 : w.mag.length ≠ 0 := by simpa [aab] using ht6
  refine gl ?_
  refine ga (aef (by omega) (by omega)) ?_
  refine gi (afc (i := w.mag.length - 1) (by omega)) ?_
  refine gE1 ?_
  have h1 : w.mag ≠ [] := fun h => h0 (by rw [h]; rfl)
  simp only [bl,Wh.valid,if_neg h1,List.getLast?_eq_getElem?,acw (show w.mag.length - 1 < w.mag.length by omega),aab]
  congr 2
  generalize aaa w.mag _ = x
  rw [Bool.eq_iff_iff]; simp
theorem act (w : Wh) (h : w.ok) : FnC prog 239 [w.av] (ws w.m) := by
 refine gF0 func239 ?_
 refine gc (amb w h) ?_
 refine gC (fun ht5 => ?_) (fun ht5 => ?_)
 ·have h0 : w.valid = false := by simpa [aab] using ht5
  refine gR ?_
  exact adj (by rw [show w.m = [] by simp [Wh.m,h0]]; exact Sub.nil _ _ _)
 ·have h0 : w.valid = true := by simpa [aab] using ht5
  refine gE1 ?_
  simp only [Wh.m,h0]; rfl
theorem ab1 (w : Wh) (h : w.ok) : FnC prog 240 [w.av] (bl w.n) := by
 refine gF0 func240 ?_
 refine gc (amb w h) ?_
 refine gE1 ?_
 simp only [Wh.n,bl]; cases w.valid <;> rfl
theorem ah9 (d : Nat) (hd : Nat.blt d 1000 = true) (m : List Nat) (hm : Ws m) (hb : m.length <= big) :
  Con prog 333 [ws m] [] (.ms d 1 0 (ofNat (val m)).length) [(d,some (.row 1 (m.map u32)))] := by
 have hb' := hb
 unfold big at hb
 refine gF func333 (fun k z h => by cases h) ?_
 refine gs (ack T80 rfl T271 rfl rfl rfl) ?_
 refine gs (ab5 (.tmp rfl) rfl rfl (.tmp rfl) T80 rfl T271 rfl rfl (by simp only [length_map]; omega) rfl rfl) ?_
 refine gL1 [] [6] (fun (n : Nat) => [(3,some (.ms 6 1 0 n))]) (fun _ => []) (fun n => n <= m.length /\ val (m.take n) = val m) (fun n => n) m.length ⟨le_refl _,by rw [take_length]⟩ ?_ (h1 := (.cons rfl (Sub.of (by rw [length_map,Nat.zero_add])) .nil))
 rintro n ⟨hn,hv⟩ K1 hK1
 refine gaG (fun h => (aef (by simp [aab] at h; omega) (by unfold ab9; omega))) ?_
 refine gs (ab6 rfl rfl rfl (fun h => aam (n := n - 1) (.opt rfl (o1 h)) (.opt rfl (o1 h)) T80 rfl T271 rfl (by omega) (by simp [aab] at h; omega) rfl)) ?_
 refine gs (ab6 rfl rfl rfl (fun h => aar (.opt rfl (o1 h)) rfl (afc (i := n - 1) (by simp [aab] at h; omega)) T271 rfl rfl rfl)) ?_
 refine gC (fun ht18 => ?_) (fun ht18 => ?_)
 ·have ht18 : 0 < n /\ aaa m (n - 1) = 0 := by simpa [aab] using ht18
  refine ga (aef (by omega) (by unfold ab9; omega)) ?_
  refine gs (ago (.tmp rfl) (.none _) (.some _ (.tmp rfl) (by omega)) T80 rfl T271 rfl (by omega) (by omega) rfl) ?_
  exact gK1 hK1 (n - 1) ⟨by omega,by have h := @aad m (n - 1); rw [show n - 1 + 1 = n by omega,ht18.2] at h; simp at h; omega⟩ (hw := Wk.of (.cons rfl (Sub.of (by congr 1)) .nil) (.cons rfl (.refl _) .nil))
 ·have ht18 : 0 < n -> aaa m (n - 1) ≠ 0 := by simpa [aab] using ht18
  have hn1 := azc hm hn hv (by rcases Nat.eq_zero_or_pos n with h | h; (exact .inl h); exact .inr (ht18 h))
  subst hn1
  refine gR ?_
  exact Fin.own1 rfl hd rfl
theorem aej (m : List Nat) (hm : Ws m) (hb : m.length <= big) : FnC prog 333 [ws m] (ws (ofNat (val m))) := by
 have h := Con.freeze (by rw [length_map,Nat.zero_add]; exact atw hm) (ah9 0 rfl m hm hb)
 rwa [drop_zero,<- map_take,apy hm] at h
theorem abx (b : Bool) (m : List Nat) (hm : Ws m) (hb : m.length <= big) : FnC prog 241 [bl b, ws m] (zA (sgn b (val m))) := by
 refine gF0 func241 ?_
 refine gc (aej m hm hb) ?_
 refine gl ?_
 refine gC (fun ht9 => ?_) (fun ht9 => ?_)
 ·have h0 : val m = 0 := by
   have := aag (val m)
   have h9 : ofNat (val m) = [] := List.length_eq_zero_iff.1 (by simpa [aab] using ht9)
   rw [h9] at this
   exact this.symm
  refine gR ?_
  exact adj (by rw [h0,show sgn b 0 = 0 by cases b <;> rfl]; exact bav)
 ·have h0 : val m ≠ 0 := by
   intro h
   rw [h] at ht9
   cases ht9
  refine gE1 ?_
  rw [show zA (sgn b (val m)) = .agg [bl b, ws (ofNat (val m))] by
   unfold zA ofInt Wh.av
   rw [show (sgn b (val m)).natAbs = val m by unfold sgn; split <;> omega,show decide (sgn b (val m) < 0) = b by cases b <;> simp [sgn] <;> omega]]
theorem af0 (a b : List Nat) (ha : Ws a) (hb : Ws b) : FnC prog 243 [ws a, ws b] (i64 (if val a < val b then -1 else if val b < val a then 1 else 0)) := by
 refine gF0 func243 ?_ (0,0)
 refine bbl (t := 0) rfl (fun hla => ?_)
 refine bbl (t := 1) rfl (fun hlb => ?_)
 unfold ab9 at hla hlb
 refine go ?_
 refine gl ?_
 refine gl ?_
 refine gs (avv (.tmp rfl) (.tmp rfl) rfl) ?_
 refine ga (aa8 (by omega)) ?_
 refine gL1 [0,1] [] (fun (n : Nat) => [(5,some (i64 ((n : Int) - 1)))]) (fun _ => []) (fun n => n <= 281474976710656 /\ val (a.drop n) = val (b.drop n)) (fun n => n) (max a.length b.length) ⟨by omega,by rw [drop_eq_nil_of_le (by omega),drop_eq_nil_of_le (by omega)]⟩ ?_ (h1 := (.cons rfl (Sub.int (by omega)) .nil))
 rintro n ⟨hn,hd⟩ K1 hK1
 refine gC (fun ht13 => ?_) (fun ht13 => ?_)
 ·have hn0 : 1 <= n := by have := ht13; simp [aab] at this; omega
  obtain ⟨k,rfl⟩ : ∃ k,n = k + 1 := ⟨n - 1,by omega⟩
  have hk : ((k + 1 : Nat) : Int) - 1 = (k : Int):=by omega
  rw [hk]
  refine gc (ad2 a k ha) ?_
  refine gc (ad2 b k hb) ?_
  refine gC (fun ht22 => ?_) (fun ht22 => ?_)
  ·have h3 : aaa a k ≠ aaa b k := by simpa [aab, Int.ofNat_inj] using ht22
   refine gc (ad2 a k ha) ?_
   refine gc (ad2 b k hb) ?_
   refine gC (fun ht29 => ?_) (fun ht29 => ?_)
   ·have h4 : aaa a k < aaa b k := by simpa [aab] using ht29
    have h5 := aut ha hd h4
    refine gE1 ?_
    simp [i64,h5]
   ·have h4 : aaa b k < aaa a k := by have : aaa b k <= aaa a k := (by simpa [aab] using ht29); omega
    have h5 := aut hb hd.symm h4
    refine gE1 ?_
    simp [i64,h5,Nat.lt_asymm h5]
  ·have h3 : aaa a k = aaa b k := by simpa [aab, Int.ofNat_inj] using ht22
   refine ga (aa8 (by omega)) ?_
   exact gK1 hK1 k ⟨by omega,by rw [agp a,agp b,hd,h3]⟩
 ·have hn0 : n = 0 := by have := ht13; simp [aab] at this; omega
  subst hn0
  refine gE1 ?_
  simp at hd; simp [i64,hd]
end Go.Lw
namespace Go.Lw
open Go.Proofs
theorem ajr (a b : List Nat) (ha : Ws a) (hb : Ws b) (la : a.length < big) (lb : b.length < big) : FnC prog 242 [ws a, ws b] (ws (ofNat (val a + val b))) := by
 unfold big at la lb
 obtain ⟨n,hn⟩ : ∃ n,n = max a.length b.length + 1 := ⟨_,rfl⟩
 refine gF0 func242 ?_
 refine gl ?_
 refine gl ?_
 refine gs (avv (.tmp rfl) (.tmp rfl) rfl) ?_
 refine ga (show _ = (n : Int) by rw [aax (by omega)]; omega) ?_
 refine gW (Wk.virt 900 1 rfl) ?_
 refine gL3 [0,1,14] [] (fun (out : List Nat) (c i : Nat) => [(5,some (.ms 900 1 0 i)),(6,some (u64 c)),(15,some (i64 i))]) (fun out _ _ => [(900,some (.row 1 (out.map u32)))]) (fun out c i => out.length = i /\ i <= n /\ Ws out /\ c <= 1 /\ val out + c * 4294967296 ^ i = val (a.take i) + val (b.take i)) (fun _ _ i => n - i) ([]) 0 0 ⟨rfl,by omega,arp,by omega,by simp [val]⟩ ?_
 rintro out c i ⟨ho,hi,hw,hc,hv⟩ K1 hK1
 refine gC (fun ht16 => ?_) (fun ht16 => ?_) (st2 := (9,0))
 ·have hin : i < n := by simpa [aab] using ht16
  have h1 := aai ha i
  have h2 := aai hb i
  obtain ⟨s,hs⟩ : ∃ s,s = c + (aaa a i + aaa b i) := ⟨_,rfl⟩
  have h3 := ald (u := aaa a i) (w := aaa b i) hv
  rw [<- hs] at h3
  refine gc (by apply ad2 <;> assumption) ?_
  refine gc (by apply ad2 <;> assumption) ?_
  refine ga (adn (by omega)) ?_
  refine ga ((adn (by omega)).trans (show _ = (s : Int) by congr 1; omega)) ?_
  refine gv (aaz _) ?_
  refine gs (ab5 (.tmp rfl) rfl (by rw [length_map,ho]) (.tmp rfl) T80 rfl T271 rfl rfl (by simp; omega) rfl rfl) ?_
  refine gs (acu (.tmp rfl) (.const _) (by omega) (acr _ 32 (by omega)) rfl) ?_ (8,0)
  refine gW (Wk.of (sl := [(0,some (ws a)),(1,some (ws b)),(5,some (.ms 31 1 0 (i + 1))),(6,some (u64 (s / 2 ^ 32))),(14,some (i64 n)),(15,some (i64 i))]) (hp := [(31,some (.row 1 ((out ++ [s % 4294967296]).map u32)))]) abv (.cons rfl (BlkSub.of (by rw [map_append]; rfl)) .nil)) ?_ (8,0)
  refine gW (Wk.rekey (k := 31) (d := 900) rfl rfl) ?_
  refine ga (aax (by omega)) ?_
  exact gK3 hK1 (out ++ [s % 4294967296]) (s / 2 ^ 32) (i + 1) ⟨by simp [ho],by omega,auu hw (aqv (by omega)),by omega,by rw [aud ho,aad,aad,Nat.pow_succ]; exact h3⟩
 ·have hin : i = n := by have : n <= i := (by simpa [aab] using ht16); omega
  refine gW ((Wk.freeze (k := 900) rfl).trans <| Wk.of (sl := [(5,some (ws out))]) (hp := []) (.cons rfl (Sub.of (ace (by simp [ho]))) .nil) .nil) ?_
  refine gc (aej out hw (by unfold big; omega)) ?_
  refine gE1 ?_
  subst hin
  rw [aup ha hb hn ho (by rw [aal (l := out) (by omega)]; exact hv)]
theorem ah7 (a b : List Nat) (ha : Ws a) (hb : Ws b) (la : a.length < big) (hle : val b <= val a) : FnC prog 244 [ws a, ws b] (ws (ofNat (val a - val b))) := by
 unfold big at la
 obtain ⟨n,hn⟩ : ∃ n,n = a.length := ⟨_,rfl⟩
 refine gF0 func244 ?_
 refine gl ?_
 refine gW (Wk.virt 900 1 rfl) ?_
 refine gL3 [0,1] [] (fun (out : List Nat) (c i : Nat) => [(5,some (.ms 900 1 0 i)),(6,some (u64 c)),(10,some (i64 n)),(11,some (i64 i))]) (fun out _ _ => [(900,some (.row 1 (out.map u32)))]) (fun out c i => out.length = i /\ i <= n /\ Ws out /\ c <= 1 /\ val out + val (b.take i) = val (a.take i) + c * 4294967296 ^ i) (fun _ _ i => n - i) ([]) 0 0 ⟨rfl,by omega,arp,by omega,by simp [val]⟩ ?_ (h1 := (.k (.k (.cons rfl (Sub.int (by rw [hn])) (.k .nil)))))
 rintro out c i ⟨ho,hi,hw,hc,hv⟩ K1 hK1
 refine gC (fun ht12 => ?_) (fun ht12 => ?_) (st2 := (9,0))
 ·have hin : i < n := by simpa [aab] using ht12
  have h1 := aai ha i
  have h2 := aai hb i
  obtain ⟨s,hs⟩ : ∃ s,s = 4294967296 + aaa a i - aaa b i - c := ⟨_,rfl⟩
  have h3 := ang h1 h2 hc hv
  rw [<- hs] at h3
  refine gc (by apply ad2 <;> assumption) ?_
  refine ga ((adn (x := 4294967296) (by omega))) ?_
  refine gc (by apply ad2 <;> assumption) ?_
  refine ga ((aev (by omega) (by omega)).trans (by rw [if_pos (by omega)])) ?_
  refine ga ((aev (by omega) (by omega)).trans (show _ = (s : Int) by rw [if_pos (by omega)]; congr 1; omega)) ?_
  refine gv (aaz _) ?_
  refine gs (ab5 (.tmp rfl) rfl (by rw [length_map,ho]) (.tmp rfl) T80 rfl T271 rfl rfl (by simp; omega) rfl rfl) ?_
  refine gs (acu (.tmp rfl) (.const _) (by omega) (acr _ 32 (by omega)) rfl) ?_
  refine ga ((aev (x := 1) (by omega) (by omega)).trans (by rw [if_pos (by omega)])) ?_ (8,0)
  refine gW (Wk.of (sl := [(0,some (ws a)),(1,some (ws b)),(5,some (.ms 28 1 0 (i + 1))),(6,some (u64 (1 - s / 2 ^ 32 : Nat))),(10,some (i64 n)),(11,some (i64 i))]) (hp := [(28,some (.row 1 ((out ++ [s % 4294967296]).map u32)))]) abv (.cons rfl (BlkSub.of (by rw [map_append]; rfl)) .nil)) ?_ (8,0)
  refine gW (Wk.rekey (k := 28) (d := 900) rfl rfl) ?_
  refine ga (aax (by omega)) ?_
  exact gK3 hK1 (out ++ [s % 4294967296]) (1 - s / 2 ^ 32) (i + 1) ⟨by simp [ho],by omega,auu hw (aqv (by omega)),by omega,by rw [aud ho,aad,aad,Nat.pow_succ]; exact h3⟩
 ·have hin : i = n := by have : n <= i := (by simpa [aab] using ht12); omega
  refine gW ((Wk.freeze (k := 900) rfl).trans <| Wk.of (sl := [(5,some (ws out))]) (hp := []) (.cons rfl (Sub.of (ace (by simp [ho]))) .nil) .nil) ?_
  refine gc (aej out hw (by unfold big; omega)) ?_
  refine gE1 ?_
  subst hin
  subst hn
  rw [art ha hw ho hle hv]
theorem asn (a b : List Nat) (ha : Ws a) (hb : Ws b) (la : a.length + b.length <= big) : FnC prog 245 [ws a, ws b] (ws (ofNat (val a * val b))) := by
 have la' := la
 unfold big at la
 refine gF0 func245 ?_
 refine gl ?_
 refine gl ?_
 refine ga (acy (by unfold ab9; omega) (by unfold ab9; omega)) ?_
 refine gs (afj (.tmp rfl) T80 rfl T271 rfl rfl (by omega) (by dsimp only; omega) rfl) ?_
 refine gl ?_
 refine gL2 [0,1,17] [] (fun (out : List Nat) (i : Nat) => [(5,some (.ms 15 1 0 (a.length + b.length))),(18,some (i64 i))]) (fun out _ => [(15,some (.row 1 (out.map u32)))]) (fun out i => out.length = a.length + b.length /\ i <= a.length /\ Ws out /\ val (out.take (i + b.length)) = val (a.take i) * val b) (fun _ i => a.length - i) (List.replicate (a.length + b.length) 0) 0 ⟨by simp,by omega,ahu _,by simp [val,aii]⟩ ?_ (h2 := (.cons rfl (BlkSub.of (by rw [map_replicate]; rfl)) .nil))
 rintro out i ⟨ho,hi,hw,hv⟩ K1 hK1
 refine gC (fun ht19 => ?_) (fun ht19 => ?_) (st2 := (14,0))
 ·have hin : i < a.length := by simpa [aab] using ht19
  have h1 := aai ha i
  refine gl ?_
  refine gL3 [0,1,17,18,6,22] [] (fun (o : List Nat) (c k : Nat) => [(5,some (.ms 15 1 0 (a.length + b.length))),(7,some (u64 c)),(23,some (i64 k))]) (fun o _ _ => [(15,some (.row 1 (o.map u32)))]) (fun o c k => o.length = a.length + b.length /\ k <= b.length /\ Ws o /\ c < 4294967296 /\ val (o.take (i + b.length)) + c * 4294967296 ^ (i + k) = val (out.take (i + b.length)) + 4294967296 ^ i * (aaa a i * val (b.take k))) (fun _ _ k => b.length - k) out 0 0 ⟨ho,by omega,hw,by omega,by simp [val]⟩ ?_
  rintro o c k ⟨ho2,hk,hw2,hc,hv2⟩ K2 hK2
  refine gC (fun ht24 => ?_) (fun ht24 => ?_)
  ·have hkn : k < b.length := by simpa [aab] using ht24
   have h2 := aai hb k
   have h3 := aai hw2 (i + k)
   have h4 := akr h1 h2
   obtain ⟨s,hs⟩ : ∃ s,s = c + (aaa a i * aaa b k + aaa o (i + k)) := ⟨_,rfl⟩
   have h5 := ant (x := s % 4294967296) (show i + k < o.length by omega) (show i + k < i + b.length by omega)
   have h6 := auk h5 hs hv2
   refine gi (are (n := i) (by omega) (by first | omega | (simp; omega))) ?_
   refine gv (u64_in (by omega)) ?_
   refine gi (are (n := k) (by omega) (by first | omega | (simp; omega))) ?_
   refine gv (u64_in (by omega)) ?_
   refine ga (aoo (by omega)) ?_
   refine ga (acy (by unfold ab9; omega) (by unfold ab9; omega)) ?_
   refine gs (aam (n := i + k) (.tmp rfl) (.tmp rfl) T80 rfl T271 rfl (by omega) (by first | omega | (simp; omega)) rfl) ?_
   refine gs (aar (.tmp rfl) rfl (afc (i := i + k) (by omega)) T271 rfl rfl rfl) ?_
   refine gv (u64_in (by omega)) ?_
   refine ga (adn (by omega)) ?_
   refine ga ((adn (by omega)).trans (show _ = (s : Int) by congr 1; omega)) ?_
   refine gD ?_
   refine ga (acy (by unfold ab9; omega) (by unfold ab9; omega)) ?_
   refine gv (aaz _) ?_
   refine gs (acu (.tmp rfl) (.const _) (by omega) (acr _ 32 (by omega)) rfl) ?_
   refine gs (aam (n := i + k) (.tmp rfl) (.tmp rfl) T80 rfl T271 rfl (by omega) (by first | omega | (simp; omega)) rfl) ?_
   refine gs (abj (.tmp rfl) rfl (afc (i := i + k) (by omega)) rfl (.tmp rfl) rfl rfl T271 rfl rfl) ?_
   refine ga (aax (by omega)) ?_
   exact gK3 hK2 (o.set (i + k) (s % 4294967296)) (s / 2 ^ 32) (k + 1) ⟨by simp [ho2],by omega,ado hw2 (by omega),by omega,by rw [show i + (k + 1) = (i + k) + 1 from rfl,show s / 2 ^ 32 = s / 4294967296 from rfl,Nat.pow_succ,h6,aad]; simp only [pow_add]; grind⟩ (hw := Wk.of abv (.cons rfl (BlkSub.of (by rw [map_set]; rfl)) .nil))
  ·have hkn : k = b.length := by have : b.length <= k := (by simpa [aab] using ht24); omega
   subst hkn
   have h5 := abt (x := c) (show i + b.length < o.length by omega)
   rw [take_length] at hv2
   refine gl ?_
   refine ga (acy (by unfold ab9; omega) (by unfold ab9; omega)) ?_
   refine gv ((aaz c).trans (by rw [Nat.mod_eq_of_lt hc])) ?_
   refine gs (aam (n := i + b.length) (.tmp rfl) (.tmp rfl) T80 rfl T271 rfl (by omega) (by first | omega | (simp; omega)) rfl) ?_
   refine gs (abj (.tmp rfl) rfl (afc (i := i + b.length) (by omega)) rfl (.tmp rfl) rfl rfl T271 rfl rfl) ?_
   refine ga (aax (by omega)) ?_
   exact gK2 hK1 (o.set (i + b.length) c) (i + 1) ⟨by simp [ho2],by omega,ado hw2 hc,by rw [show i + 1 + b.length = i + b.length + 1 by omega,h5,aad]; simp only [pow_add] at *; grind⟩ (hw := Wk.of abv (.cons rfl (BlkSub.of (by rw [map_set]; rfl)) .nil))
 ·have hin : i = a.length := by have : a.length <= i := (by simpa [aab] using ht19); omega
  subst hin
  rw [take_length,aal (by omega)] at hv
  refine gW ((Wk.freeze (k := 15) rfl).trans <| Wk.of (sl := [(5,some (ws out))]) (hp := []) (.cons rfl (Sub.of (ace (by simp [ho]))) .nil) .nil) ?_
  refine gc (aej out hw (by omega)) ?_
  refine gE1 ?_
  rw [hv]
end Go.Lw
namespace Go.Lw
open Go.Proofs
theorem ajh (a : Wh) (ha : a.ok) : FnC prog 236 [a.av] (i64 a.z.sign) := by
 obtain ⟨e1,e2,e3⟩ := avj ha
 refine gF0 func236 ?_
 refine gc (act a ha) ?_
 refine gl ?_
 refine gC (fun ht6 => ?_) (fun ht6 => ?_)
 ·have h0 : a.m.length = 0 := by simpa [aab] using ht6
  refine gE1 ?_
  rw [e1 h0]; rfl
 ·have h0 : a.m.length ≠ 0 := by simpa [aab] using ht6
  have hval : a.valid = true := by
   unfold Wh.m at h0
   split at h0
   ·assumption
   ·exact absurd rfl h0
  refine gc (ab1 a ha) ?_
  refine gC (fun ht8 => ?_) (fun ht8 => ?_)
  ·have h1 : a.neg = true := by unfold Wh.n at ht8; rw [hval] at ht8; simpa using ht8
   refine gE1 ?_
   rw [e2 h0 h1]; rfl
  ·have h1 : a.neg = false := by unfold Wh.n at ht8; rw [hval] at ht8; simpa using ht8
   refine gE1 ?_
   rw [e3 h0 h1]; rfl
theorem arm (a : Wh) (ha : a.ok) (la : a.mag.length < big) : FnC prog 215 [a.av] (zA (-a.z)) := by
 refine gF0 func215 ?_
 refine gc (ab1 a ha) ?_
 refine gc (act a ha) ?_
 refine gc (abx _ a.m (Wh.ws ha) (Nat.le_of_lt (Wh.small ha la))) ?_
 refine gD ?_
 refine gE1 ?_
 rw [Wh.z_eq,<- a0d]; rfl
theorem axa (a b : Wh) (ha : a.ok) (hb : b.ok) (la : a.mag.length + b.mag.length <= big) : FnC prog 135 [a.av, b.av] (zA (a.z * b.z)) := by
 have h1 := Wh.m_le (w := a)
 have h2 := Wh.m_le (w := b)
 have h3 : (ofNat (val a.m * val b.m)).length <= a.m.length + b.m.length := aaf (by rw [pow_add]; exact Nat.mul_lt_mul'' (aa9 _ (Wh.ws ha)) (aa9 _ (Wh.ws hb)))
 refine gF0 func135 ?_
 refine gc (ab1 a ha) ?_
 refine gc (ab1 b hb) ?_
 refine gc (act a ha) ?_
 refine gc (act b hb) ?_
 refine gc (asn a.m b.m (Wh.ws ha) (Wh.ws hb) (by omega)) ?_
 refine gc (abx _ _ (aau _) (by omega)) ?_
 refine gD ?_
 refine gE1 ?_
 rw [aag,a04]; rfl
theorem aqm (a b : Wh) (ha : a.ok) (hb : b.ok) (la : a.mag.length < big) (lb : b.mag.length < big) : FnC prog 134 [a.av, b.av] (zA (a.z + b.z)) := by
 have h1 := Wh.m_le (w := a)
 have h2 := Wh.m_le (w := b)
 have hla : val a.m < 4294967296 ^ (max a.m.length b.m.length) := lt_of_lt_of_le (aa9 _ (Wh.ws ha)) (Nat.pow_le_pow_right (by omega) (by omega))
 have hlb : val b.m < 4294967296 ^ (max a.m.length b.m.length) := lt_of_lt_of_le (aa9 _ (Wh.ws hb)) (Nat.pow_le_pow_right (by omega) (by omega))
 have h3 : (ofNat (val a.m + val b.m)).length <= max a.m.length b.m.length + 1 := aaf (by rw [Nat.pow_succ]; omega)
 have h4 : (ofNat (val a.m - val b.m)).length <= max a.m.length b.m.length := aaf (by omega)
 have h5 : (ofNat (val b.m - val a.m)).length <= max a.m.length b.m.length := aaf (by omega)
 refine gF0 func134 ?_
 refine gc (act a ha) ?_
 refine gc (act b hb) ?_
 refine gD ?_
 refine gc (ab1 a ha) ?_
 refine gc (ab1 b hb) ?_
 refine gD ?_
 refine gC (fun ht15 => ?_) (fun ht15 => ?_)
 ·have h0 : a.n = b.n := by simpa using ht15
  refine gc (ab1 a ha) ?_
  refine gc (ajr a.m b.m (Wh.ws ha) (Wh.ws hb) (by omega) (by omega)) ?_
  refine gc (abx _ _ (aau _) (by omega)) ?_
  refine gE1 ?_
  rw [aag,auc h0]; rfl
 ·have h0 : a.n ≠ b.n := by simpa using ht15
  refine gc (af0 a.m b.m (Wh.ws ha) (Wh.ws hb)) ?_
  refine gC (fun ht25 => ?_) (fun ht25 => ?_)
  ·have h6 : val b.m <= val a.m := by
    rcases lt_or_ge (val a.m) (val b.m) with h | h
    ·rw [if_pos h] at ht25; cases ht25
    ·exact h
   refine gc (ab1 a ha) ?_
   refine gc (ah7 a.m b.m (Wh.ws ha) (Wh.ws hb) (by omega) (by omega)) ?_
   refine gc (abx _ _ (aau _) (by omega)) ?_
   refine gE1 ?_
   rw [aag,an7 h0 h6]; rfl
  ·have h6 : val a.m < val b.m := by
    rcases lt_or_ge (val a.m) (val b.m) with h | h
    ·exact h
    ·rw [if_neg (by omega)] at ht25; split at ht25 <;> cases ht25
   refine gc (ab1 b hb) ?_
   refine gc (ah7 b.m a.m (Wh.ws hb) (Wh.ws ha) (by omega) (by omega)) ?_
   refine gc (abx _ _ (aau _) (by omega)) ?_
   refine gE1 ?_
   rw [aag,aro h0 (by omega)]; rfl
theorem au2 (n : Int) (h : -9223372036854775808 <= n /\ n <= 9223372036854775807) : FnC prog 221 [i64 n] (zA n) := by
 obtain ⟨N,hN⟩ : ∃ N,N = n.natAbs := ⟨_,rfl⟩
 have hNB : N < 18446744073709551616:=by omega
 refine gF0 func221 ?_
 refine gv (show IntKind.u64.wrap n = ((n % 18446744073709551616 : Int)) by simp only [IntKind.wrap,IntKind.signed,IntKind.bits,Bool.false_and,if_false,Bool.false_eq_true]; omega) ?_
 refine gC (fun ht7 => ?_) (fun ht7 => ?_) (st2 := (77777,0))
 ·have hn : n < 0 := by simpa [aab] using ht7
  refine gs (a3m (.tmp rfl) rfl) ?_ (4,0)
  refine gW (Wk.of (sl := [(0,some (i64 n)),(2,some (.ptr 2 0)),(3,some (u64 N))]) (hp := [(2,some (.box [.v (.bool false),.v (.slice none 0 0)]))]) (.k (.k (.cons rfl (Sub.int (by simp only [IntKind.wrap,IntKind.signed,IntKind.bits,Bool.false_and,if_false,Bool.false_eq_true]; omega)) .nil))) (.cons rfl (.refl _) .nil)) ?_
  refine gv (aaz _) ?_
  refine gs (acu (.tmp rfl) (.const _) (by omega) (acr _ 32 (by omega)) rfl) ?_
  refine gv ((aaz _).trans (by rw [Nat.mod_eq_of_lt (show N / 2 ^ 32 < 4294967296 by omega)])) ?_
  refine gc (abx (aab .lss n 0) [N % 4294967296,N / 2 ^ 32] (a38 hNB) (by unfold big; simp)) ?_
  refine gE1 ?_
  rw [atx hNB,show sgn (aab .lss n 0) N = n by simp only [sgn,aab,decide_eq_true_eq]; split <;> omega]; rfl
 ·have hn : ¬ n < 0 := by simpa [aab] using ht7
  refine gW (Wk.of (sl := [(0,some (i64 n)),(2,some (.ptr 2 0)),(3,some (u64 N))]) (hp := [(2,some (.box [.v (.bool false),.v (.slice none 0 0)]))]) (.k (.k (.cons rfl (Sub.int (by omega)) .nil))) (.cons rfl (.refl _) .nil)) ?_
  refine gv (aaz _) ?_
  refine gs (acu (.tmp rfl) (.const _) (by omega) (acr _ 32 (by omega)) rfl) ?_
  refine gv ((aaz _).trans (by rw [Nat.mod_eq_of_lt (show N / 2 ^ 32 < 4294967296 by omega)])) ?_
  refine gc (abx (aab .lss n 0) [N % 4294967296,N / 2 ^ 32] (a38 hNB) (by unfold big; simp)) ?_
  refine gE1 ?_
  rw [atx hNB,show sgn (aab .lss n 0) N = n by simp only [sgn,aab,decide_eq_true_eq]; split <;> omega]; rfl
theorem ayj (a b : Wh) (ha : a.ok) (hb : b.ok) (la : a.mag.length < big) (lb : b.mag.length < big) : FnC prog 382 [a.av, b.av] (zA (a.z - b.z)) := by
 have h1 := (Wh.lz hb).neg
 have h2 := arq h1
 refine gF0 func382 ?_
 refine gc (arm b hb lb) ?_
 refine gc (aqm a (ofInt (-b.z)) ha (at5 h1 hb.2) la (by omega)) ?_
 refine gD ?_
 refine gE1 ?_
 rw [abg,<- Int.sub_eq_add_neg]; rfl
theorem ay2 (a b : Wh) (ha : a.ok) (hb : b.ok) (la : a.mag.length < big) (lb : b.mag.length < big) : FnC prog 315 [a.av, b.av] (i64 (aqd a.z b.z)) := by
 have h1 := (Wh.lz ha).sub (Wh.lz hb)
 have h2 := arq h1
 refine gF0 func315 ?_
 refine gc (ayj a b ha hb la lb) ?_
 refine gc (ajh (ofInt (a.z - b.z)) (at5 h1 (by unfold ab9; unfold big at la lb; omega))) ?_
 refine gE1 ?_
 rw [abg,a3e]
end Go.Lw
namespace Go.Lw
theorem ag4 {A : List Nat} {n : Nat} : AV.lst 1 (((A.map u32).drop 0).take n) = ws (A.take n) := by
 rw [drop_zero,<- map_take]; rfl
theorem a4v (A : List Nat) : (Blk.row 1 (A.map u32)).sc = true := by
 simp only [Blk.sc,List.all_map]
 rw [all_eq_true]
 intro x _
 rfl
theorem adu {A : List Nat} {n i : Nat} (h : i < n) : aaa (A.take n) i = aaa A i := by
 simp [aaa,h]
theorem aij {A : List Nat} {n i : Nat} (h : n <= i) : aaa (A.take n) i = 0 := ag0 (by simp; omega)
theorem axr {x : Nat} (h : 0 < x) : acd x = acd (x / 2) + 1 := by
 rcases lt_or_ge x 2 with h1 | h1
 ·have : x = 1 := by omega
  subst this; decide
 ·have := aip (x := x) (k := 1) (by omega)
  rw [show x / 2 ^ 1 = x / 2 from rfl] at this
  omega
theorem a20 {a : List Nat} {n : Nat} (ha : Ws a) (na : Nz a) (hl : a.length = n + 1) : acd (val a) = 32 * n + acd (aaa a n) := by
 have ht : aaa a n ≠ 0 := by
  refine na _ ?_
  rw [List.getLast?_eq_getElem?,hl]
  exact acw (by omega)
 have hv : val a = val (a.take n) + 4294967296 ^ n * aaa a n:=by rw [<- aad,aal (by omega)]
 have hlt := ac9 ha n
 have hp : (4294967296 : Nat) ^ n = 2 ^ (32 * n):=by rw [Nat.pow_mul]
 rw [hp] at hv hlt
 have h1 : val a / 2 ^ (32 * n) = aaa a n := by
  rw [hv,Nat.add_mul_div_left _ _ (Nat.pow_pos (by omega)),Nat.div_eq_of_lt hlt,Nat.zero_add]
 have h2 : 2 ^ (32 * n) <= val a := by
  have := mul_le_mul_left (2 ^ (32 * n)) (show 1 <= aaa a n by omega)
  omega
 rw [aip h2,h1]
theorem wr0 {o A : List Nat} {n v : Nat} (ho : Ws o) (hl : o.length = A.length) (hn : n <= A.length) (hd : o.drop n = A.drop n) (hv : val (o.take n) = v) : o = wr A 0 (acv n v) := by
 have h1 : win o 0 n = acv n v := aoy (aj2 ho _ _) (ah0 (by omega)) (by rw [win,drop_zero,hv])
 rw [<- h1]
 exact a6s (by simp) (by rw [Nat.zero_add]; exact hd) (by omega)
end Go.Lw
namespace Go.Lw
open Go.Proofs
theorem amc (k : Nat) (A : List Nat) (n i : Nat) (hA : Ws A) (hn : n <= A.length) :
  Con prog 334 [.ms k 1 0 n,i64 i] [(k,some (.row 1 (A.map u32)))] (u64 (aaa (A.take n) i)) [(k,some (.row 1 (A.map u32)))] := by
 refine Con.borrow (args := [ws (A.take n),i64 i]) k 1 (A.map u32) rfl rfl rfl ?_ rfl (fun k' x h => by cases h) (ad2 (A.take n) i (acl hA n))
 intro j x' hj
 match j,hj with
 | 0,hj => cases hj; exact .inr ⟨0,n,rfl,by simpa using hn,by rw [ag4]; rfl⟩
 | 1,hj => cases hj; exact .inl rfl
theorem am6 (k1 k2 : Nat) (hk : k1 ≠ k2) (A D : List Nat) (n p : Nat) (hA : Ws A) (hD : Ws D) (hn : n <= A.length) (hp : p <= D.length) :
  Con prog 243 [.ms k1 1 0 n, .ms k2 1 0 p] [(k1, some (.row 1 (A.map u32))), (k2, some (.row 1 (D.map u32)))]
   (i64 (if val (A.take n) < val (D.take p) then -1 else if val (D.take p) < val (A.take n) then 1 else 0)) [(k1,some (.row 1 (A.map u32))),(k2,some (.row 1 (D.map u32)))] := by
 have h1 : Con prog 243 [ws (A.take n), .ms k2 1 0 p] [(k2, some (.row 1 (D.map u32)))]
   (i64 (if val (A.take n) < val (D.take p) then -1 else if val (D.take p) < val (A.take n) then 1 else 0)) [(k2,some (.row 1 (D.map u32)))] := by
  refine Con.borrow (args := [ws (A.take n),ws (D.take p)]) k2 1 (D.map u32) rfl rfl rfl ?_ rfl (fun k' x h => by cases h) (af0 (A.take n) (D.take p) (acl hA n) (acl hD p))
  intro j x' hj
  match j,hj with
  | 0,hj => cases hj; exact .inl rfl
  | 1,hj => cases hj; exact .inr ⟨0,p,rfl,by simpa using hp,by rw [ag4]; rfl⟩
 refine Con.borrow (args := [ws (A.take n),.ms k2 1 0 p]) k1 1 (A.map u32) ?_ ?_ rfl ?_ rfl ?_ h1
 ·rw [aac,if_neg hk]; rfl
 ·rw [aac,if_neg hk]; rfl
 ·intro j x' hj
  match j,hj with
  | 0,hj => cases hj; exact .inr ⟨0,n,rfl,by simpa using hn,by rw [ag4]; rfl⟩
  | 1,hj => cases hj; exact .inl rfl
 ·intro k' x h
  obtain ⟨_,h⟩ := aiq h
  cases h; exact a4v D
theorem anf (k : Nat) (A b : List Nat) (n : Nat) (hA : Ws A) (hb : Ws b) (hn : n <= A.length) :
  Con prog 243 [.ms k 1 0 n, ws b] [(k, some (.row 1 (A.map u32)))]
   (i64 (if val (A.take n) < val b then -1 else if val b < val (A.take n) then 1 else 0)) [(k,some (.row 1 (A.map u32)))] := by
 refine Con.borrow (args := [ws (A.take n),ws b]) k 1 (A.map u32) rfl rfl rfl ?_ rfl (fun k' x h => by cases h) (af0 (A.take n) b (acl hA n) hb)
 intro j x' hj
 match j,hj with
 | 0,hj => cases hj; exact .inr ⟨0,n,rfl,by simpa using hn,by rw [ag4]; rfl⟩
 | 1,hj => cases hj; exact .inl rfl
theorem awd (a : List Nat) (ha : Ws a) (na : Nz a) (la : a.length <= big) : FnC prog 396 [ws a] (i64 (acd (val a))) := by
 unfold big at la
 refine gF0 func396 ?_
 refine gl ?_
 refine gC (fun ht7 => ?_) (fun ht7 => ?_)
 ·have h0 : a = [] := List.length_eq_zero_iff.1 (by simpa [aab] using ht7)
  refine gE1 ?_
  subst h0; rfl
 ·have h0 : a.length ≠ 0 := by simpa [aab] using ht7
  obtain ⟨n,hn⟩ : ∃ n,a.length = n + 1 := ⟨a.length - 1,by omega⟩
  have hB := a20 ha na hn
  have ht := aai ha n
  refine gl ?_
  refine ga (show _ = (n : Int) by rw [aa8 (by omega)]; omega) ?_
  refine ga (show _ = ((32 * n : Nat) : Int) by rw [au4 (by omega)]; omega) ?_
  refine gl ?_
  refine ga (show _ = (n : Int) by rw [aa8 (by omega)]; omega) ?_
  refine gi (are (n := n) (by omega) (by first | omega | (simp; omega))) ?_
  refine gL2 [] [] (fun (x c : Nat) => [(3,some (i64 c)),(4,some (u32 x))]) (fun _ _ => []) (fun x c => x < 4294967296 /\ c <= 281474976710656 /\ c + acd x = acd (val a)) (fun x _ => x) (aaa a n) (32 * n) ⟨ht,by omega,hB.symm⟩ ?_
  rintro x c ⟨hx,hc,hv⟩ K1 hK1
  refine gC (fun ht19 => ?_) (fun ht19 => ?_)
  ·have hx0 : 0 < x := by simpa [aab] using ht19
   have h2 := axr hx0
   have h3 : acd (val a) <= 32 * n + 32 := by
    have := (ash (x := aaa a n)  (by
     refine na _ ?_
     rw [List.getLast?_eq_getElem?,hn]
     exact acw (by omega)) ht).1
    omega
   refine ga (show _ = ((c + 1 : Nat) : Int) by rw [aax (by omega)]; omega) ?_
   refine gs (acu (.tmp rfl) (.const _) (by omega) (ajl x 1 (by omega)) rfl) ?_
   exact gK2 hK1 (x / 2 ^ 1) (c + 1) ⟨by omega,by omega,by rw [show x / 2 ^ 1 = x / 2 from rfl]; omega⟩
  ·have hx0 : x = 0 := by have : x <= 0 := (by simpa [aab] using ht19); omega
   subst hx0
   refine gE1 ?_
   rw [<- hv]; rfl
theorem als (A : List Nat) (n : Nat) (hA : Ws A) (hn : n <= A.length) (la : A.length <= big) :
  Con prog 395 [.ms 1000 1 0 n] [(1000,some (.row 1 (A.map u32)))] (.ms 1000 1 0 (ofNat (val (A.take n))).length) [(1000,some (.row 1 (A.map u32)))] := by
 unfold big at la
 refine gF func395 (fun k z h => aqz h) ?_
 refine gL1 [] [1000] (fun (j : Nat) => [(0,some (.ms 1000 1 0 j))]) (fun _ => []) (fun j => j <= n /\ val (A.take j) = val (A.take n)) (fun j => j) n ⟨le_refl _,rfl⟩ ?_
 rintro j ⟨hj,hv⟩ K1 hK1
 refine gaG (fun h => (aef (by simp [aab] at h; omega) (by unfold ab9; omega))) ?_
 refine gs (ab6 rfl rfl rfl (fun h => aam (n := j - 1) (.opt rfl (o1 h)) (.opt rfl (o1 h)) T80 rfl T271 rfl (by omega) (by simp [aab] at h; omega) rfl)) ?_
 refine gs (ab6 rfl rfl rfl (fun h => aar (.opt rfl (o1 h)) rfl (afc (i := j - 1) (by simp [aab] at h; omega)) T271 rfl rfl rfl)) ?_
 refine gC (fun ht14 => ?_) (fun ht14 => ?_)
 ·have ht14 : 0 < j /\ aaa A (j - 1) = 0 := by simpa [aab] using ht14
  refine ga (aef (by omega) (by unfold ab9; omega)) ?_
  refine gs (ago (.tmp rfl) (.none _) (.some _ (.tmp rfl) (by omega)) T80 rfl T271 rfl (by omega) (by omega) rfl) ?_
  exact gK1 hK1 (j - 1) ⟨by omega,by have h := @aad A (j - 1); rw [show j - 1 + 1 = j by omega,ht14.2] at h; simp at h; omega⟩ (hw := Wk.of (.cons rfl (Sub.of (by congr 1)) .nil) (.cons rfl (.refl _) .nil))
 ·have ht14 : 0 < j -> aaa A (j - 1) ≠ 0 := by simpa [aab] using ht14
  have hn1 := azc (m := A.take n) (n := j) (acl hA n) (by simp; omega) (by rw [List.take_take, Nat.min_eq_left hj]; exact hv) (by
   rcases Nat.eq_zero_or_pos j with h | h
   ·exact .inl h
   ·exact .inr (by rw [adu (by omega)]; exact ht14 h))
  subst hn1
  refine gR ?_
  exact Fin.own2 rfl rfl rfl
theorem af5 (A : List Nat) (n : Nat) (hA : Ws A) (hn : n <= A.length) (la : A.length <= big) :
  Con prog 393 [.ms 1000 1 0 n] [(1000,some (.row 1 (A.map u32)))] (.ms 1000 1 0 (ofNat (val (A.take n) / 2)).length) [(1000,some (.row 1 ((wr A 0 (acv n (val (A.take n) / 2))).map u32)))] := by
 have la' := la
 unfold big at la
 refine gF func393 (fun k z h => aqz h) ?_
 refine gL2 [5] [] (fun (o : List Nat) (i : Nat) => [(0,some (.ms 1000 1 0 n)),(6,some (i64 i))]) (fun o _ => [(1000,some (.row 1 (o.map u32)))]) (fun o i => o.length = A.length /\ i <= n /\ Ws o /\ o.drop i = A.drop i /\ val (o.take i) = val (A.take n) / 2 ^ 1 % 4294967296 ^ i) (fun _ i => n - i) A 0 ⟨rfl,by omega,hA,rfl,by simp [val,Nat.mod_one]⟩ ?_
 rintro o i ⟨ho,hi,hw,hd,hv⟩ K1 hK1
 refine gC (fun ht7 => ?_) (fun ht7 => ?_)
 ·have hin : i < n := by simpa [aab] using ht7
  have e1 : aaa (o.take n) i = aaa (A.take n) i:=by rw [adu hin,adu hin]; exact ade hd
  have hd2 : o.drop (i + 1) = A.drop (i + 1) := by
   have h1 : (o.drop i).drop 1 = (A.drop i).drop 1:=by rw [hd]
   rwa [drop_drop,drop_drop] at h1
  have e2 : aaa (o.take n) (i + 1) = aaa (A.take n) (i + 1) := by
   rcases lt_or_ge (i + 1) n with h | h
   ·rw [adu h,adu h]; exact ade hd2
   ·rw [aij h,aij h]
  have b1 := aai (acl hA n) i
  have b2 := aai (acl hA n) (i + 1)
  have h3 := ap0 (n := 1) (acl hA n) (show i < (A.take n).length by simp; omega) (show i < o.length by omega) (by omega) hv
  refine gt (abe (amc 1000 o n i hw (by omega)) (.cons (.tmp rfl) (.cons (.tmp rfl) .nil)) (by first | exact hH0 | exact hH1 rfl | exact hH2 rfl rfl) rfl rfl) ?_
  refine gs (acu (.tmp rfl) (.const _) (by omega) ((acr _ 1 (by omega)).trans (by rw [e1])) rfl) ?_
  refine ga (acy (y := 1) (by unfold ab9; omega) (by unfold ab9; omega)) ?_
  refine gt (abe (amc 1000 o n (i + 1) hw (by omega)) (.cons (.tmp rfl) (.cons (.tmp rfl) .nil)) (by first | exact hH0 | exact hH1 rfl | exact hH2 rfl rfl) rfl rfl) ?_
  refine gs (afg (.tmp rfl) (.const _) (by omega) ((ajg (n := 31) (by omega) (by omega)).trans (by rw [e2])) rfl) ?_
  refine gs (ads (.tmp rfl) (.tmp rfl) rfl ((afp (by omega) (by omega)).trans (by rw [atb (by omega)])) rfl) ?_
  refine gv ((aaz _).trans (show _ = (((aaa (A.take n) i + aaa (A.take n) (i + 1) * 2 ^ 32) / 2 ^ 1 % 4294967296 : Nat) : Int) by congr 1; omega)) ?_
  refine gs (aam (n := i) (.tmp rfl) (.tmp rfl) T80 rfl T271 rfl (by omega) (by first | omega | (simp; omega)) rfl) ?_
  refine gs (abj (.tmp rfl) rfl (afc (i := i) (by omega)) rfl (.tmp rfl) rfl rfl T271 rfl rfl) ?_
  refine ga (aax (by omega)) ?_
  exact gK2 hK1 (o.set i ((aaa (A.take n) i + aaa (A.take n) (i + 1) * 2 ^ 32) / 2 ^ 1 % 4294967296)) (i + 1) ⟨by simp [ho],by omega,ado hw (by omega),adh hd,h3⟩ (hw := Wk.of abv (.cons rfl (BlkSub.of (by rw [map_set]; rfl)) .nil))
 ·have hin : i = n := by have : n <= i := (by simpa [aab] using ht7); omega
  subst hin
  have hlt := ac9 hA i
  have hv' : val (o.take i) = val (A.take i) / 2:=by rw [hv,Nat.mod_eq_of_lt (by omega)]
  have h9 := wr0 hw ho hn hd hv'
  refine gt (abe (als o i hw (by omega) (by omega)) (.cons (.tmp rfl) .nil) (by first | exact hH0 | exact hH1 rfl | exact hH2 rfl rfl) rfl rfl) ?_
  refine gR ?_
  exact Fin.own2 rfl (by rw [<- h9]) (by rw [hv']; rfl)
theorem anh (A b : List Nat) (n : Nat) (hA : Ws A) (hb : Ws b) (hn : n <= A.length) (la : A.length <= big) (hle : val b <= val (A.take n)) :
  Con prog 394 [.ms 1000 1 0 n,ws b] [(1000,some (.row 1 (A.map u32)))] (.tup []) [(1000,some (.row 1 ((wr A 0 (acv n (val (A.take n) - val b))).map u32)))] := by
 unfold big at la
 refine gF func394 (fun k z h => aqz h) ?_
 refine gL3 [1,8] [] (fun (o : List Nat) (c i : Nat) => [(0,some (.ms 1000 1 0 n)),(4,some (u64 c)),(9,some (i64 i))]) (fun o _ _ => [(1000,some (.row 1 (o.map u32)))]) (fun o c i => o.length = A.length /\ i <= n /\ Ws o /\ c <= 1 /\ o.drop i = A.drop i /\ val (o.take i) + val (b.take i) = val (A.take i) + c * 4294967296 ^ i) (fun _ _ i => n - i) A 0 0 ⟨rfl,by omega,hA,by omega,rfl,by simp [val]⟩ ?_
 rintro o c i ⟨ho,hi,hw,hc,hd,hv⟩ K1 hK1
 refine gC (fun ht10 => ?_) (fun ht10 => ?_)
 ·have hin : i < n := by simpa [aab] using ht10
  have e1 : aaa (o.take n) i = aaa A i:=by rw [adu hin]; exact ade hd
  have h1 := aai hA i
  have h2 := aai hb i
  obtain ⟨s,hs⟩ : ∃ s,s = 4294967296 + aaa A i - aaa b i - c := ⟨_,rfl⟩
  have h3 := ang h1 h2 hc hv
  rw [<- hs] at h3
  refine gt (abe (amc 1000 o n i hw (by omega)) (.cons (.tmp rfl) (.cons (.tmp rfl) .nil)) (by first | exact hH0 | exact hH1 rfl | exact hH2 rfl rfl) rfl rfl) ?_
  refine ga ((adn (x := 4294967296) (by omega)).trans (by rw [e1])) ?_
  refine gc (ad2 b i hb) ?_
  refine ga ((aev (by omega) (by omega)).trans (by rw [if_pos (by omega)])) ?_
  refine ga ((aev (by omega) (by omega)).trans (show _ = (s : Int) by rw [if_pos (by omega)]; congr 1; omega)) ?_
  refine gv (aaz _) ?_
  refine gs (acu (.tmp rfl) (.const _) (by omega) (acr _ 32 (by omega)) rfl) ?_
  refine ga ((aev (x := 1) (by omega) (by omega)).trans (by rw [if_pos (by omega)])) ?_
  refine gs (aam (n := i) (.tmp rfl) (.tmp rfl) T80 rfl T271 rfl (by omega) (by first | omega | (simp; omega)) rfl) ?_
  refine gs (abj (.tmp rfl) rfl (afc (i := i) (by omega)) rfl (.tmp rfl) rfl rfl T271 rfl rfl) ?_
  refine ga (aax (by omega)) ?_
  exact gK3 hK1 (o.set i (s % 4294967296)) (1 - s / 2 ^ 32) (i + 1) ⟨by simp [ho],by omega,ado hw (by omega),by omega,adh hd,by rw [abt (by omega),aad,aad,Nat.pow_succ]; exact h3⟩ (hw := Wk.of abv (.cons rfl (BlkSub.of (by rw [map_set]; rfl)) .nil))
 ·have hin : i = n := by have : n <= i := (by simpa [aab] using ht10); omega
  subst hin
  have hl : (A.take i).length = i:=by simp; omega
  have h4 := art (a := A.take i) (b := b) (out := o.take i) (acl hA i) (acl hw i) (by simp; omega) hle (by rw [hl,take_of_length_le (show (A.take i).length <= i by omega)]; exact hv)
  have h9 := wr0 hw ho hn hd h4
  refine gR ?_
  exact Fin.own2 rfl (by rw [<- h9]) rfl
end Go.Lw
namespace Go.Lw
theorem apq {x : Nat} (h : x <= 9223372036854775807) : IntKind.i64.wrap ((x : Int).tdiv 32) = ((x / 32 : Nat) : Int) := by
 rw [show (32 : Int) = ((32 : Nat) : Int) from rfl,<- Int.ofNat_tdiv]
 exact i64_in (by omega)
theorem bbc {x : Nat} : (x : Int).tmod 32 = ((x % 32 : Nat) : Int) := (Int.ofNat_tmod _ _).symm
theorem azq (i : Nat) : (4294967296 : Nat) ^ i = 2 ^ (32 * i):=by rw [Nat.pow_mul]
theorem a9z {a : List Nat} (ha : Ws a) {k : Nat} (hk : k / 32 < a.length) : aaa a (k / 32) / 2 ^ (k % 32) % 2 = val a / 2 ^ k % 2 := by
 have h1 : val a / 2 ^ k = (val a / 4294967296 ^ (k / 32)) / 2 ^ (k % 32) := by
  rw [azq,Nat.div_div_eq_div_mul,<- pow_add]; congr 2; omega
 rw [h1,aph ha _ (by omega),agp]
 generalize val (a.drop (k / 32 + 1)) = R
 have h2 : 4294967296 * R = 2 ^ (k % 32) * (2 * (2 ^ (31 - k % 32) * R)) := by
  have : (4294967296 : Nat) = 2 ^ (k % 32) * (2 * 2 ^ (31 - k % 32)) := by
   rw [<- Nat.pow_succ',<- pow_add,show k % 32 + (31 - k % 32).succ = 32 by omega]
  conv => lhs; rw [this]
  grind
 rw [h2,Nat.add_mul_div_left _ _ (Nat.pow_pos (by omega)),Nat.add_mul_mod_self_left]
theorem a9b {w c : Nat} (hc : c <= 1) : w * 2 ^ 1 % 4294967296 ||| c = w * 2 ^ 1 % 4294967296 + c := by
 have h : w * 2 ^ 1 % 4294967296 = (w % 2147483648) * 2 ^ 1:=by omega
 rw [h]; exact aqj (by omega)
theorem a2m {o c P rt w bit : Nat} (hw : w < 4294967296) (h : o + c * P = 2 * rt + bit) :
  (o + P * (w * 2 ^ 1 % 4294967296 + c)) + (w / 2 ^ 31) * (P * 4294967296) = 2 * (rt + P * w) + bit := by
 have h0 : w * 2 ^ 1 % 4294967296 + (w / 2 ^ 31) * 4294967296 = 2 * w:=by omega
 generalize w * 2 ^ 1 % 4294967296 = r at *
 generalize w / 2 ^ 31 = q at *
 grind
theorem a2n {q : List Nat} (hq : Ws q) {k Y : Nat} (hk : k / 32 < q.length) (h : val q = 2 ^ (k + 1) * Y) :
  aaa q (k / 32) ||| 2 ^ (k % 32) = aaa q (k / 32) + 2 ^ (k % 32) /\ aaa q (k / 32) + 2 ^ (k % 32) < 4294967296 := by
 have h1 := aph hq (k / 32) (by omega)
 rw [agp,h,azq,show k + 1 = 32 * (k / 32) + (k % 32 + 1) by omega,pow_add,Nat.mul_assoc,Nat.mul_div_cancel_left _ (Nat.pow_pos (by omega))] at h1
 have hw := aai hq (k / 32)
 generalize aaa q (k / 32) = w at *
 generalize val (q.drop (k / 32 + 1)) = R at *
 have hB : (4294967296 : Nat) = 2 ^ (k % 32 + 1) * 2 ^ (31 - k % 32) := by
  rw [<- pow_add,show k % 32 + 1 + (31 - k % 32) = 32 by omega]
 have h2 : w % 2 ^ (k % 32 + 1) = 0 := by
  have h3 : (w + 4294967296 * R) % 2 ^ (k % 32 + 1) = 0:=by rw [<- h1]; exact Nat.mul_mod_right _ _
  rw [hB,Nat.mul_assoc,Nat.add_mul_mod_self_left] at h3
  exact h3
 have h4 : w = 2 ^ (k % 32 + 1) * (w / 2 ^ (k % 32 + 1)) := by
  have := Nat.div_add_mod w (2 ^ (k % 32 + 1)); omega
 have h5 : 2 ^ (k % 32) < 2 ^ (k % 32 + 1):=by rw [Nat.pow_succ]; have := Nat.pow_pos (n := k % 32) (show 0 < 2 by omega); omega
 constructor
 ·rw [h4]; exact (Nat.two_pow_add_eq_or_of_lt h5 _).symm
 ·have h6 : w / 2 ^ (k % 32 + 1) < 2 ^ (31 - k % 32) := by
   rw [Nat.div_lt_iff_lt_mul (Nat.pow_pos (by omega)),Nat.mul_comm,<- hB]; exact hw
  have h7 := mul_le_mul_left (2 ^ (k % 32 + 1)) (show w / 2 ^ (k % 32 + 1) + 1 <= 2 ^ (31 - k % 32) from h6)
  rw [<- hB,Nat.mul_add,<- h4] at h7
  omega
theorem a7v {q : List Nat} (hq : Ws q) {k Y : Nat} (hk : k / 32 < q.length) (h : val q = 2 ^ (k + 1) * Y) :
  val (q.set (k / 32) (aaa q (k / 32) + 2 ^ (k % 32))) = 2 ^ k * (2 * Y + 1) := by
 have h1 := atf (x := aaa q (k / 32) + 2 ^ (k % 32)) hk
 rw [Nat.mul_add] at h1
 have h2 : 4294967296 ^ (k / 32) * 2 ^ (k % 32) = 2 ^ k:=by rw [azq,<- pow_add]; congr 1; omega
 rw [h2,h,Nat.pow_succ] at h1
 grind
theorem a5n {V Bv k : Nat} (hB : 0 < Bv) :
  (Bv <= 2 * (V / 2 ^ (k + 1) % Bv) + V / 2 ^ k % 2 -> V / 2 ^ k % Bv = 2 * (V / 2 ^ (k + 1) % Bv) + V / 2 ^ k % 2 - Bv /\ V / 2 ^ k / Bv = 2 * (V / 2 ^ (k + 1) / Bv) + 1) /\
  (2 * (V / 2 ^ (k + 1) % Bv) + V / 2 ^ k % 2 < Bv -> V / 2 ^ k % Bv = 2 * (V / 2 ^ (k + 1) % Bv) + V / 2 ^ k % 2 /\ V / 2 ^ k / Bv = 2 * (V / 2 ^ (k + 1) / Bv)) := by
 have h1 : V / 2 ^ (k + 1) = V / 2 ^ k / 2:=by rw [Nat.pow_succ,Nat.div_div_eq_div_mul]
 rw [h1]
 generalize V / 2 ^ k = X
 have h2 := Nat.div_add_mod X 2
 have h3 := Nat.div_add_mod (X / 2) Bv
 have h4 := Nat.mod_lt (X / 2) hB
 have h5 := Nat.mod_lt X (show 0 < 2 by omega)
 generalize X / 2 % Bv = r at *
 generalize X / 2 / Bv = q at *
 generalize X % 2 = b at *
 generalize X / 2 = Y at *
 constructor
 ·intro h
  have := ag6 (a := X) (w := Bv) (q := 2 * q + 1) (r := 2 * r + b - Bv) (by rw [Nat.mul_add,Nat.mul_one,show Bv * (2 * q) = 2 * (Bv * q) by grind]; omega) (by omega)
  exact ⟨this.2,this.1⟩
 ·intro h
  have := ag6 (a := X) (w := Bv) (q := 2 * q) (r := 2 * r + b) (by rw [show Bv * (2 * q) = 2 * (Bv * q) by grind]; omega) (by omega)
  exact ⟨this.2,this.1⟩
theorem bat {A l : List Nat} (h : l.length = A.length) : wr A 0 l = l := by
 unfold wr
 rw [drop_eq_nil_of_le (by omega)]; simp
theorem aub {V : Nat} : V / 2 ^ acd V = 0 := Nat.div_eq_of_lt apn
theorem a44 {a : List Nat} (ha : Ws a) {k : Nat} (h : k < acd (val a)) : k / 32 < a.length := by
 rcases lt_or_ge (k / 32) a.length with h1 | h1
 ·exact h1
 ·exfalso
  have h2 := aa9 a ha
  rw [azq] at h2
  have h3 : val a ≠ 0:=by intro h0; rw [h0] at h; simp [acd] at h
  have h4 := aos h3
  have h5 : 2 ^ (32 * a.length) <= 2 ^ (acd (val a) - 1) := adv (by omega)
  omega
end Go.Lw
namespace Go.Lw
open Go.Proofs
theorem aqs (a b : List Nat) (ha : Ws a) (hb : Ws b) (na : Nz a) (hb0 : val b ≠ 0) (la : a.length < big) (lb : b.length < big) :
  FnC prog 331 [ws a,ws b] (.tup [ws (ofNat (val a / val b)),ws (ofNat (val a % val b))]) := by
 have la' := la
 have lb' := lb
 unfold big at la lb
 obtain ⟨V,hV⟩ : ∃ V,V = val a := ⟨_,rfl⟩
 obtain ⟨Bv,hBv⟩ : ∃ Bv,Bv = val b := ⟨_,rfl⟩
 have hBp : 0 < Bv:=by omega
 have hBl : 2 * Bv <= 4294967296 ^ (b.length + 1):=by have := aa9 b hb; rw [Nat.pow_succ]; omega
 have hbl : acd V <= 32 * a.length := by
  rcases Nat.eq_zero_or_pos (acd V) with h | h
  ·omega
  ·have := a44 ha (k := acd V - 1) (by rw [<- hV]; omega)
   omega
 rw [<- hV,<- hBv]
 refine gF0 func331 ?_
 refine gl ?_
 refine gs (afj (.tmp rfl) T80 rfl T271 rfl rfl (by omega) (by dsimp only; omega) rfl) ?_
 refine gl ?_
 refine ga (acy (y := 1) (by unfold ab9; omega) (by unfold ab9; omega)) ?_
 refine gs (afj (.tmp rfl) T80 rfl T271 rfl rfl (by omega) (by dsimp only; omega) rfl) ?_
 refine gc (hV ▸ awd a ha na (by omega)) ?_
 refine ga (aa8 (by omega)) ?_
 refine gL3 [0,1] [] (fun (q r : List Nat) (i : Nat) => [(6,some (.ms 13 1 0 a.length)),(7,some (.ms 17 1 0 (b.length + 1))),(8,some (i64 ((i : Int) - 1)))]) (fun q r _ => [(13,some (.row 1 (q.map u32))),(17,some (.row 1 (r.map u32)))]) (fun q r i => q.length = a.length /\ r.length = b.length + 1 /\ Ws q /\ Ws r /\ i <= acd V /\ val r = V / 2 ^ i % Bv /\ val q = 2 ^ i * (V / 2 ^ i / Bv)) (fun _ _ i => i) (List.replicate a.length 0) (List.replicate (b.length + 1) 0) (acd V) ⟨by simp,by simp,ahu _,ahu _,le_refl _,by rw [aii,aub,Nat.zero_mod],by rw [aii,aub,Nat.zero_div,Nat.mul_zero]⟩ ?_ (h2 := (.cons rfl (BlkSub.of (by rw [map_replicate]; rfl)) (.cons rfl (BlkSub.of (by rw [map_replicate]; rfl)) .nil)))
 rintro q r i ⟨hql,hrl,wq,wr',hi,hr,hq⟩ K1 hK1
 refine gC (fun ht22 => ?_) (fun ht22 => ?_) (st2 := (15,0))
 ·have hi0 : 1 <= i := by have := ht22; simp [aab] at this; omega
  obtain ⟨k,rfl⟩ : ∃ k,i = k + 1 := ⟨i - 1,by omega⟩
  rw [show ((k + 1 : Nat) : Int) - 1 = (k : Int) by omega]
  have hka := a44 ha (k := k) (by rw [<- hV]; omega)
  have hbit := a9z ha hka
  have hwB := aai ha (k / 32)
  rw [<- hV] at hbit
  obtain ⟨bit,hbt⟩ : ∃ bit,bit = V / 2 ^ k % 2 := ⟨_,rfl⟩
  have hb1 : bit <= 1:=by omega
  have hrlt := Nat.mod_lt (V / 2 ^ (k + 1)) hBp
  have hdw : aaa a (k / 32) / 2 ^ (k % 32) <= aaa a (k / 32) := Nat.div_le_self _ _
  refine gs (ac6 (.tmp rfl) (.const _) (by omega) (apq (by omega)) rfl) ?_
  refine gi (are (n := k / 32) (by omega) (by first | omega | (simp; omega))) ?_
  refine gs (atv (.tmp rfl) (.const _) (by omega) bbc rfl) ?_
  refine gs (acu (.tmp rfl) (.tmp rfl) (by omega) (ajl _ (k % 32) (by omega)) rfl) ?_
  refine gs (ads (.tmp rfl) (.const _) rfl ((ame (y := 1) (by omega) (by omega)).trans (show _ = (bit : Int) by rw [Nat.and_one_is_mod,hbit,hbt])) rfl) ?_
  refine gL3 [0,1,8,35] [13] (fun (o : List Nat) (c j : Nat) => [(6,some (.ms 13 1 0 a.length)),(7,some (.ms 17 1 0 (b.length + 1))),(9,some (u32 c)),(36,some (i64 j))]) (fun o _ _ => [(17,some (.row 1 (o.map u32)))]) (fun o c j => o.length = b.length + 1 /\ Ws o /\ j <= b.length + 1 /\ c <= 1 /\ o.drop j = r.drop j /\ val (o.take j) + c * 4294967296 ^ j = 2 * val (r.take j) + bit) (fun _ _ j => b.length + 1 - j) r bit 0 ⟨hrl,wr',by omega,hb1,rfl,by simp [val]⟩ ?_
  rintro o c j ⟨hol,wo,hj,hc,hd,hv⟩ K2 hK2
  refine gC (fun ht37 => ?_) (fun ht37 => ?_)
  ·have hjn : j < b.length + 1 := by have := ht37; simp [aab] at this; omega
   have e1 : aaa o j = aaa r j := ade hd
   have h1 := aai wr' j
   have h3 := a2m (w := aaa r j) h1 hv
   refine gs (aam (n := j) (.tmp rfl) (.tmp rfl) T80 rfl T271 rfl (by omega) (by first | omega | (simp; omega)) rfl) ?_
   refine gs (aar (.tmp rfl) rfl (by rw [afc (show j < o.length by omega),e1]) T271 rfl rfl rfl) ?_
   refine gs (afg (.tmp rfl) (.const _) (by omega) (ayo (n := 1) (by omega)) rfl) ?_
   refine gs (ads (.tmp rfl) (.tmp rfl) rfl ((ajd (by omega) (by omega)).trans (by rw [a9b hc])) rfl) ?_
   refine gs (aam (n := j) (.tmp rfl) (.tmp rfl) T80 rfl T271 rfl (by omega) (by first | omega | (simp; omega)) rfl) ?_
   refine gs (aar (.tmp rfl) rfl (by rw [afc (show j < o.length by omega),e1]) T271 rfl rfl rfl) ?_
   refine gs (acu (.tmp rfl) (.const _) (by omega) (ajl _ 31 (by omega)) rfl) ?_
   refine gs (aam (n := j) (.tmp rfl) (.tmp rfl) T80 rfl T271 rfl (by omega) (by first | omega | (simp; omega)) rfl) ?_
   refine gs (abj (.tmp rfl) rfl (afc (i := j) (by omega)) rfl (.tmp rfl) rfl rfl T271 rfl rfl) ?_
   refine gD ?_
   refine ga (aax (by omega)) ?_
   exact gK3 hK2 (o.set j (aaa r j * 2 ^ 1 % 4294967296 + c)) (aaa r j / 2 ^ 31) (j + 1) ⟨by simp [hol],ado wo (by omega),by omega,by omega,adh hd,by rw [abt (by omega),aad]; rw [show 4294967296 ^ (j + 1) = 4294967296 ^ j * 4294967296 from Nat.pow_succ _ _]; exact h3⟩ (hw := Wk.of abv (.cons rfl (BlkSub.of (by rw [map_set]; rfl)) (.cons rfl (.refl _) .nil)))
  ·have hjn : j = b.length + 1 := by have : b.length + 1 <= j := (by have := ht37; simp [aab] at this; omega); omega
   subst hjn
   rw [aal (l := r) (by omega),aal (l := o) (by omega),hr] at hv
   have hc0 : c = 0 := by
    cases c with
    | zero => rfl
    | succ c => rw [Nat.succ_mul] at hv; omega
   subst hc0
   rw [Nat.zero_mul,Nat.add_zero] at hv
   have hot : o.take (b.length + 1) = o := take_of_length_le (by omega)
   obtain ⟨d1,d2⟩ := a5n (V := V) (k := k) hBp
   rw [<- hbt] at d1 d2
   have hcmp := anf 17 o b (b.length + 1) wo hb (by omega)
   rw [hot,<- hBv,hv] at hcmp
   have hqk : k / 32 < q.length:=by omega
   obtain ⟨w1,w2⟩ := a2n wq hqk hq
   have w3 := a7v wq hqk hq
   refine gt (abe hcmp (.cons (.tmp rfl) (.cons (.tmp rfl) .nil)) (by first | exact hH0 | exact hH1 rfl | exact hH2 rfl rfl) rfl rfl) ?_
   refine gC (fun ht58 => ?_) (fun ht58 => ?_)
   ·have hge : Bv <= 2 * (V / 2 ^ (k + 1) % Bv) + bit := by
     rcases lt_or_ge (2 * (V / 2 ^ (k + 1) % Bv) + bit) Bv with h | h
     ·rw [if_pos h] at ht58; cases ht58
     ·exact h
    obtain ⟨d3,d4⟩ := d1 hge
    have htk := anh o b (b.length + 1) wo hb (by omega) (by unfold big; omega) (by rw [hot,<- hBv,hv]; exact hge)
    rw [hot,<- hBv,hv,<- d3,bat (by rw [abh,hol])] at htk
    have hx2 : V / 2 ^ k % Bv < 4294967296 ^ (b.length + 1):=by have := Nat.mod_lt (V / 2 ^ k) hBp; omega
    refine gt (abe (Con.rekey 17 rfl rfl htk) (.cons (.tmp rfl) (.cons (.tmp rfl) .nil)) (by first | exact hH0 | exact hH1 rfl | exact hH2 rfl rfl) rfl rfl) ?_
    refine gs (ac6 (.tmp rfl) (.const _) (by omega) (apq (by omega)) rfl) ?_
    refine gs (aam (n := k / 32) (.tmp rfl) (.tmp rfl) T80 rfl T271 rfl (by omega) (by omega) rfl) ?_
    refine gs (aar (.tmp rfl) rfl (afc (i := k / 32) hqk) T271 rfl rfl rfl) ?_
    refine gs (atv (.tmp rfl) (.const _) (by omega) bbc rfl) ?_
    refine gs (afg (.const _) (.tmp rfl) (by omega) ((ayo (x := 1) (n := k % 32) (by omega)).trans (show _ = ((2 ^ (k % 32) : Nat) : Int) by rw [Nat.one_mul,Nat.mod_eq_of_lt (lt_of_le_of_lt (Nat.le_add_left _ _) w2)])) rfl) ?_
    refine gs (ads (.tmp rfl) (.tmp rfl) rfl ((ajd (aai wq _) (lt_of_le_of_lt (Nat.le_add_left _ _) w2)).trans (by rw [w1])) rfl) ?_
    refine gs (aam (n := k / 32) (.tmp rfl) (.tmp rfl) T80 rfl T271 rfl (by omega) (by omega) rfl) ?_
    refine gs (abj (.tmp rfl) rfl (afc (i := k / 32) hqk) rfl (.tmp rfl) rfl rfl T271 rfl rfl) ?_
    refine gD ?_
    refine ga (aa8 (by omega)) ?_
    exact gK3 hK1 (q.set (k / 32) (aaa q (k / 32) + 2 ^ (k % 32))) (acv (b.length + 1) (V / 2 ^ k % Bv)) k ⟨by simp [hql],abh _ _,ado wq w2,aec _ _,by omega,ad1 _ _ hx2,by rw [w3,d4]⟩ (hw := Wk.of abv (.cons rfl (BlkSub.of (by first | rfl | (rw [map_set]; rfl))) (.cons rfl (.refl _) .nil)))
   ·have hge : 2 * (V / 2 ^ (k + 1) % Bv) + bit < Bv := by
     rcases lt_or_ge (2 * (V / 2 ^ (k + 1) % Bv) + bit) Bv with h | h
     ·exact h
     ·rw [if_neg (by omega)] at ht58; split at ht58 <;> cases ht58
    obtain ⟨d3,d4⟩ := d2 hge
    refine ga (aa8 (by omega)) ?_
    exact gK3 hK1 q o k ⟨hql,hol,wq,wo,by omega,by rw [hv,d3],by rw [hq,d4,Nat.pow_succ,Nat.mul_assoc]⟩ (hw := Wk.of abv (.cons rfl (BlkSub.of (by first | rfl | (rw [map_set]; rfl))) (.cons rfl (.refl _) .nil)))
 ·have hi0 : i = 0 := by have := ht22; simp [aab] at this; omega
  subst hi0
  refine gW ((Wk.freeze (k := 13) rfl).trans <| (Wk.freeze (k := 17) rfl).trans <| Wk.of (sl := [(6,some (ws q)),(7,some (ws r))]) (hp := []) (.cons rfl (Sub.of (by rw [show AV.fz 13 1 (q.map u32) (.ms 13 1 0 a.length) = ws q from ace (by simp [hql])]; rfl)) (.cons rfl (Sub.of (ace (by simp [hrl]))) .nil)) .nil) ?_
  refine gc (aej q wq (by omega)) ?_
  refine gc (aej r wr' (by unfold big; omega)) ?_
  refine gE2 ?_
  rw [hr,hq]; simp []
end Go.Lw
namespace Go.Lw
def GOk (L : Nat) (A : List Nat) (n : Nat) : Prop := Ws A /\ n <= A.length /\ A.length <= L /\ n = (ofNat (val (A.take n))).length
theorem awl (v : Nat) : ofNat v = acv (ofNat v).length v := by
 have h := ali (ofNat v) (aau _)
 rwa [aag] at h
theorem adt {L : Nat} {A : List Nat} {n v : Nat} (h : GOk L A n) (hv : v <= val (A.take n)) :
  GOk L (wr A 0 (acv n v)) (ofNat v).length /\ val ((wr A 0 (acv n v)).take (ofNat v).length) = v /\ val ((wr A 0 (acv n v)).take n) = v := by
 obtain ⟨hw,hn,hl,hN⟩ := h
 have hlt := ac9 hw n
 have hvl : v < 4294967296 ^ n:=by omega
 have hle : (ofNat v).length <= n := aaf hvl
 have ht : (wr A 0 (acv n v)).take n = acv n v := by
  unfold wr
  rw [List.take_zero,List.nil_append,List.take_append_of_le_length (by rw [abh]; omega),take_of_length_le (by rw [abh]; omega)]
 have ht2 : (wr A 0 (acv n v)).take (ofNat v).length = ofNat v := by
  have h1 : ((wr A 0 (acv n v)).take n).take (ofNat v).length = (wr A 0 (acv n v)).take (ofNat v).length:=by rw [List.take_take,Nat.min_eq_left hle]
  rw [<- h1,ht,aju _ _ _ hle,<- awl]
 have hlen : (wr A 0 (acv n v)).length = A.length := ajc (by rw [abh]; omega)
 refine ⟨⟨aww hw (aec _ _),by omega,by omega,by rw [ht2,aag]⟩,by rw [ht2,aag],by rw [ht,ad1 _ _ hvl]⟩
theorem ac2 {L : Nat} {A : List Nat} {n : Nat} (h : GOk L A n) (hx : 0 < val (A.take n)) : 0 < n /\ val (A.take n) % 2 = aaa A 0 % 2 := by
 have hn : 0 < n := by
  rcases Nat.eq_zero_or_pos n with h0 | h0
  ·subst h0; simp [val] at hx
  ·exact h0
 refine ⟨hn,?_⟩
 have := agp (A.take n) 0
 rw [drop_zero,adu hn] at this
 omega
theorem a35 {L : Nat} {A : List Nat} {n : Nat} (h : GOk L A n) : A.take n = ofNat (val (A.take n)) := by
 obtain ⟨hw,hn,hl,hN⟩ := h
 have h1 := apy (acl hw n)
 rw [<- hN,List.take_take,Nat.min_self] at h1
 exact h1
theorem aue {L : Nat} {A : List Nat} {n : Nat} (h : GOk L A n) : n = 0 ↔ val (A.take n) = 0 := by
 constructor
 ·intro h0; subst h0; rfl
 ·intro h0
  have h1 := h.2.2.2
  rw [h0] at h1
  exact h1
theorem ayv {x y : Nat} (hx : x % 2 = 0) (hy : y % 2 = 0) : Nat.gcd x y = 2 * Nat.gcd (x / 2) (y / 2) := by
 rw [<- Nat.gcd_mul_left,Nat.mul_div_cancel' (Nat.dvd_of_mod_eq_zero hx),Nat.mul_div_cancel' (Nat.dvd_of_mod_eq_zero hy)]
theorem aqh {x y : Nat} (hx : x % 2 = 0) (hy : y % 2 = 1) : Nat.gcd (x / 2) y = Nat.gcd x y := by
 have h1 : x = 2 * (x / 2):=by omega
 have h2 : Nat.Coprime 2 y := by
  rw [Nat.Coprime,Nat.gcd_rec,hy]; rfl
 conv => rhs; rw [h1]
 exact (Nat.Coprime.gcd_mul_left_cancel _ h2).symm
theorem az4 {x y : Nat} (h : y <= x) : Nat.gcd (x - y) y = Nat.gcd x y := Nat.gcd_sub_self_left h
theorem at3 {t L g V : Nat} (hg : 0 < g) (h : 2 ^ t * g <= V) (hV : V < 4294967296 ^ L) : t < 32 * L := by
 rw [azq] at hV
 have h1 := mul_le_mul_left (2 ^ t) (show 1 <= g from hg)
 rcases lt_or_ge t (32 * L) with h2 | h2
 ·exact h2
 ·have := adv h2; omega
end Go.Lw
namespace Go.Lw
open Go.Proofs
theorem alp (A D : List Nat) (n p : Nat) (hA : Ws A) (hD : Ws D) (hn : n <= A.length) (hp : p <= D.length) (la : A.length <= big) (hle : val (D.take p) <= val (A.take n)) :
  Con prog 394 [.ms 901 1 0 n, .ms 902 1 0 p] [(902, some (.row 1 (D.map u32))), (901, some (.row 1 (A.map u32)))] (.tup [])
   [(902,some (.row 1 (D.map u32))),(901,some (.row 1 ((wr A 0 (acv n (val (A.take n) - val (D.take p)))).map u32)))] := by
 have h1 := Con.rekey 901 rfl rfl (anh A (D.take p) n hA (acl hD p) hn la hle)
 refine Con.borrow (args := [.ms 901 1 0 n,ws (D.take p)]) 902 1 (D.map u32) rfl rfl rfl ?_ rfl ?_ h1
 ·intro j x' hj
  match j,hj with
  | 0,hj => cases hj; exact .inl rfl
  | 1,hj => cases hj; exact .inr ⟨0,p,rfl,by simpa using hp,by rw [ag4]; rfl⟩
 ·intro k' x h
  obtain ⟨_,h⟩ := aiq h
  cases h; exact a4v _
theorem bb1 {A : List Nat} (hA : Ws A) {i : Nat} : apj .and .u32 (aaa A i : Int) 1 = ((aaa A i % 2 : Nat) : Int) :=
 (ame (y := 1) (aai hA i) (by omega)).trans (by rw [Nat.and_one_is_mod])
theorem ayy (a b : List Nat) (ha : Ws a) (hb : Ws b) (na : Nz a) (nb : Nz b) (la : a.length + b.length < big) : FnC prog 330 [ws a, ws b] (ws (ofNat (Nat.gcd (val a) (val b)))) := by
 have la' := la
 unfold big at la
 have ea := afq ha na
 have eb := afq hb nb
 obtain ⟨L,hL⟩ : ∃ L,L = a.length + b.length := ⟨_,rfl⟩
 obtain ⟨G,hG⟩ : ∃ G,G = Nat.gcd (val a) (val b) := ⟨_,rfl⟩
 rw [<- hG]
 refine gF0 func330 ?_
 refine gt (abe (ah9 901 rfl a ha (by unfold big; omega)) (.cons (.tmp rfl) .nil) (by first | exact hH0 | exact hH1 rfl | exact hH2 rfl rfl) rfl rfl) ?_
 refine gt (abe (ah9 902 rfl b hb (by unfold big; omega)) (.cons (.tmp rfl) .nil) (by first | exact hH0 | exact hH1 rfl | exact hH2 rfl rfl) rfl rfl) ?_ (2,0)
 refine gW (Wk.of (sl := [(0,some (.ms 901 1 0 a.length)),(1,some (.ms 902 1 0 b.length))]) (hp := [(901,some (.row 1 (a.map u32))),(902,some (.row 1 (b.map u32)))]) (.cons rfl (Sub.of (by rw [ea])) (.cons rfl (Sub.of (by rw [eb])) .nil)) (.cons rfl (.refl _) (.cons rfl (.refl _) .nil))) ?_
 refine gC (fun ht12 => ?_) (fun ht12 => ?_) (st1 := (3,0))
 ·have h0 : a = [] := List.length_eq_zero_iff.1 (by simpa [aab] using ht12)
  refine gW ((Wk.freeze (k := 902) rfl).trans <| Wk.of (sl := [(1,some (ws b))]) (hp := []) (.cons rfl (Sub.of (ace (by simp))) .nil) .nil) ?_
  refine gE1 ?_
  rw [hG,h0]; simp [val,eb]
 ·have h0 : a ≠ [] := fun h => by rw [h] at ht12; simp [aab] at ht12
  refine gC (fun ht16 => ?_) (fun ht16 => ?_) (st1 := (5,0))
  ·have h1 : b = [] := List.length_eq_zero_iff.1 (by simpa [aab] using ht16)
   refine gW ((Wk.freeze (k := 901) rfl).trans <| Wk.of (sl := [(0,some (ws a))]) (hp := []) (.cons rfl (Sub.of (ace (by simp))) .nil) .nil) ?_
   refine gE1 ?_
   rw [hG,h1]; simp [val,ea]
  ·have h1 : b ≠ [] := fun h => by rw [h] at ht16; simp [aab] at ht16
   have va := ah2 na h0
   have vb := ah2 nb h1
   have hGp : 0 < G:=by rw [hG]; exact Nat.gcd_pos_of_pos_left _ va
   have hGa : G <= val a:=by rw [hG]; exact Nat.gcd_le_left _ va
   have vla := aa9 a ha
   refine gL5 [] [] (fun (A D : List Nat) (n p t : Nat) => [(0,some (.ms 901 1 0 n)),(1,some (.ms 902 1 0 p)),(5,some (i64 t))]) (fun A D _ _ _ => [(901,some (.row 1 (A.map u32))),(902,some (.row 1 (D.map u32)))]) (fun A D n p t => GOk L A n /\ GOk L D p /\ 0 < val (A.take n) /\ 0 < val (D.take p) /\ G = 2 ^ t * Nat.gcd (val (A.take n)) (val (D.take p))) (fun A _ n _ _ => val (A.take n)) a b a.length b.length 0 ⟨⟨ha,le_refl _,by omega,by rw [take_length,ea]⟩,⟨hb,le_refl _,by omega,by rw [take_length,eb]⟩,by rw [take_length]; exact va,by rw [take_length]; exact vb,by rw [take_length,take_length,hG]; simp⟩ ?_
   rintro A D n p t ⟨gA,gD,pA,pD,hg⟩ K1 hK1
   refine gs (aam (n := 0) (.tmp rfl) (.const _) T80 rfl T271 rfl (by omega) (by have := (ac2 gA pA).1; omega) rfl) ?_
   refine gs (aar (.tmp rfl) rfl (afc (i := 0) (by have := (ac2 gA pA).1; have := gA.2.1; omega)) T271 rfl rfl rfl) ?_
   refine gs (ads (.tmp rfl) (.const _) rfl (bb1 gA.1) rfl) ?_
   refine gs (ab6 rfl rfl rfl (fun h => aam (n := 0) (.opt rfl (o1 h)) (.const _) T80 rfl T271 rfl (by omega) (by have := (ac2 gD pD).1; omega) rfl)) ?_
   refine gs (ab6 rfl rfl rfl (fun h => aar (.opt rfl (o1 h)) rfl (afc (i := 0) (by have := (ac2 gD pD).1; have := gD.2.1; omega)) T271 rfl rfl rfl)) ?_
   refine gs (ab6 rfl rfl rfl (fun h => ads (.opt rfl (o1 h)) (.const _) rfl (bb1 gD.1) rfl)) ?_
   refine gC (fun ht29 => ?_) (fun ht29 => ?_)
   ·have hev : aaa A 0 % 2 = 0 /\ aaa D 0 % 2 = 0 := by
     have := ht29
     simp [aab] at this
     omega
    have xA : val (A.take n) % 2 = 0:=by rw [(ac2 gA pA).2]; exact hev.1
    have xD : val (D.take p) % 2 = 0:=by rw [(ac2 gD pD).2]; exact hev.2
    obtain ⟨k1,k2,k3⟩ := adt gA (v := val (A.take n) / 2) (by omega)
    obtain ⟨m1,m2,m3⟩ := adt gD (v := val (D.take p) / 2) (by omega)
    have ht : t < 32 * a.length := at3 (Nat.gcd_pos_of_pos_left _ pA) (by rw [<- hg]; exact hGa) vla
    refine gt (abe (Con.rekeyR 901 rfl (af5 A n gA.1 gA.2.1 (by have := gA.2.2.1; unfold big; omega))) (.cons (.tmp rfl) .nil) (by first | exact hH0 | exact hH1 rfl | exact hH2 rfl rfl) rfl rfl) ?_
    refine gt (abe (Con.rekeyR 902 rfl (af5 D p gD.1 gD.2.1 (by have := gD.2.2.1; unfold big; omega))) (.cons (.tmp rfl) .nil) (by first | exact hH0 | exact hH1 rfl | exact hH2 rfl rfl) rfl rfl) ?_
    refine ga (show _ = ((t + 1 : Nat) : Int) by rw [aax (by omega)]; omega) ?_
    exact gK5 hK1 (wr A 0 (acv n (val (A.take n) / 2))) (wr D 0 (acv p (val (D.take p) / 2))) ((ofNat (val (A.take n) / 2)).length) ((ofNat (val (D.take p) / 2)).length) (t + 1) ⟨k1,m1,by rw [k2]; omega,by rw [m2]; omega,by rw [k2,m2,hg,ayv xA xD,Nat.pow_succ]; grind⟩ (by rw [k2]; omega)
   ·have hod : val (A.take n) % 2 = 1 \/ val (D.take p) % 2 = 1 := by
     rw [(ac2 gA pA).2,(ac2 gD pD).2]
     have := ht29
     simp [aab] at this
     omega
    refine gL4 [5] [] (fun (A1 D1 : List Nat) (n1 p1 : Nat) => [(0,some (.ms 901 1 0 n1)),(1,some (.ms 902 1 0 p1))]) (fun A1 D1 _ _ => [(901,some (.row 1 (A1.map u32))),(902,some (.row 1 (D1.map u32)))]) (fun A1 D1 n1 p1 => GOk L A1 n1 /\ GOk L D1 p1 /\ 0 < val (D1.take p1) /\ (val (A1.take n1) % 2 = 1 \/ val (D1.take p1) % 2 = 1) /\ G = 2 ^ t * Nat.gcd (val (A1.take n1)) (val (D1.take p1))) (fun A1 D1 n1 p1 => val (A1.take n1) + val (D1.take p1)) A D n p ⟨gA,gD,pD,hod,hg⟩ ?_
    rintro A1 D1 n1 p1 ⟨gA1,gD1,pD1,hod1,hg1⟩ K2 hK2
    refine gC (fun ht38 => ?_) (fun ht38 => ?_) (st2 := (19,0))
    ·have pA1 : 0 < val (A1.take n1) := by
      have h3 : n1 ≠ 0:=by have := ht38; simp [aab] at this; omega
      exact Nat.pos_of_ne_zero (fun h => h3 ((aue gA1).2 h))
     refine gL2 [5] [902] (fun (A2 : List Nat) (n2 : Nat) => [(0,some (.ms 901 1 0 n2)),(1,some (.ms 902 1 0 p1))]) (fun A2 _ => [(901,some (.row 1 (A2.map u32)))]) (fun A2 n2 => GOk L A2 n2 /\ 0 < val (A2.take n2) /\ val (A2.take n2) <= val (A1.take n1) /\ (val (A2.take n2) % 2 = 1 \/ val (D1.take p1) % 2 = 1) /\ Nat.gcd (val (A2.take n2)) (val (D1.take p1)) = Nat.gcd (val (A1.take n1)) (val (D1.take p1))) (fun A2 n2 => val (A2.take n2)) A1 n1 ⟨gA1,pA1,le_refl _,hod1,rfl⟩ ?_
     rintro A2 n2 ⟨gA2,pA2,lA2,hod2,hg2⟩ K3 hK3
     refine gs (aam (n := 0) (.tmp rfl) (.const _) T80 rfl T271 rfl (by omega) (by have := (ac2 gA2 pA2).1; omega) rfl) ?_
     refine gs (aar (.tmp rfl) rfl (afc (i := 0) (by have := (ac2 gA2 pA2).1; have := gA2.2.1; omega)) T271 rfl rfl rfl) ?_
     refine gs (ads (.tmp rfl) (.const _) rfl (bb1 gA2.1) rfl) ?_
     refine gC (fun ht43 => ?_) (fun ht43 => ?_)
     ·have xA2 : val (A2.take n2) % 2 = 0 := by
       rw [(ac2 gA2 pA2).2]
       have := ht43
       simp [aab] at this
       omega
      obtain ⟨k1,k2,k3⟩ := adt gA2 (v := val (A2.take n2) / 2) (by omega)
      refine gt (abe (Con.rekeyR 901 rfl (af5 A2 n2 gA2.1 gA2.2.1 (by have := gA2.2.2.1; unfold big; omega))) (.cons (.tmp rfl) .nil) (by first | exact hH0 | exact hH1 rfl | exact hH2 rfl rfl) rfl rfl) ?_
      exact gK2 hK3 (wr A2 0 (acv n2 (val (A2.take n2) / 2))) ((ofNat (val (A2.take n2) / 2)).length) ⟨k1,by rw [k2]; omega,by rw [k2]; omega,.inr (by omega),by rw [k2,aqh xA2 (by omega),hg2]⟩ (by rw [k2]; omega)
     ·have xA2 : val (A2.take n2) % 2 = 1 := by
       rw [(ac2 gA2 pA2).2]
       have := ht43
       simp [aab] at this
       omega
      refine gL2 [5] [901] (fun (D2 : List Nat) (p2 : Nat) => [(0,some (.ms 901 1 0 n2)),(1,some (.ms 902 1 0 p2))]) (fun D2 _ => [(902,some (.row 1 (D2.map u32)))]) (fun D2 p2 => GOk L D2 p2 /\ 0 < val (D2.take p2) /\ val (D2.take p2) <= val (D1.take p1) /\ Nat.gcd (val (A2.take n2)) (val (D2.take p2)) = Nat.gcd (val (A2.take n2)) (val (D1.take p1))) (fun D2 p2 => val (D2.take p2)) D1 p1 ⟨gD1,pD1,le_refl _,rfl⟩ ?_
      rintro D2 p2 ⟨gD2,pD2,lD2,hg3⟩ K4 hK4
      refine gs (aam (n := 0) (.tmp rfl) (.const _) T80 rfl T271 rfl (by omega) (by have := (ac2 gD2 pD2).1; omega) rfl) ?_
      refine gs (aar (.tmp rfl) rfl (afc (i := 0) (by have := (ac2 gD2 pD2).1; have := gD2.2.1; omega)) T271 rfl rfl rfl) ?_
      refine gs (ads (.tmp rfl) (.const _) rfl (bb1 gD2.1) rfl) ?_
      refine gC (fun ht50 => ?_) (fun ht50 => ?_)
      ·have xD2 : val (D2.take p2) % 2 = 0 := by
        rw [(ac2 gD2 pD2).2]
        have := ht50
        simp [aab] at this
        omega
       obtain ⟨k1,k2,k3⟩ := adt gD2 (v := val (D2.take p2) / 2) (by omega)
       refine gt (abe (Con.rekeyR 902 rfl (af5 D2 p2 gD2.1 gD2.2.1 (by have := gD2.2.2.1; unfold big; omega))) (.cons (.tmp rfl) .nil) (by first | exact hH0 | exact hH1 rfl | exact hH2 rfl rfl) rfl rfl) ?_
       exact gK2 hK4 (wr D2 0 (acv p2 (val (D2.take p2) / 2))) ((ofNat (val (D2.take p2) / 2)).length) ⟨k1,by rw [k2]; omega,by rw [k2]; omega,by rw [k2,Nat.gcd_comm,aqh xD2 xA2,Nat.gcd_comm,hg3]⟩ (by rw [k2]; omega)
      ·have xD2 : val (D2.take p2) % 2 = 1 := by
        rw [(ac2 gD2 pD2).2]
        have := ht50
        simp [aab] at this
        omega
       refine gt (abe (am6 901 902 (by omega) A2 D2 n2 p2 gA2.1 gD2.1 gA2.2.1 gD2.2.1) (.cons (.tmp rfl) (.cons (.tmp rfl) .nil)) (by first | exact hH0 | exact hH1 rfl | exact hH2 rfl rfl) rfl rfl) ?_
       refine gC (fun ht56 => ?_) (fun ht56 => ?_) (st1 := (17,0)) (st2 := (77777,0))
       ·have hlt : val (A2.take n2) < val (D2.take p2) := by
         rcases lt_or_ge (val (A2.take n2)) (val (D2.take p2)) with h | h
         ·exact h
         ·rw [if_neg (by omega)] at ht56; split at ht56 <;> cases ht56
        refine gW (Wk.o (sl := [(0,some (.ms 902 1 0 p2)),(1,some (.ms 901 1 0 n2)),(5,some (i64 t))]) (hp := [(901,some (.row 1 (A2.map u32))),(902,some (.row 1 (D2.map u32)))])) ?_ (17,0)
        refine gW (Wk.rekey (k := 901) (d := 903) rfl rfl) ?_ (17,0)
        refine gW (Wk.rekey (k := 902) (d := 901) rfl rfl) ?_ (17,0)
        refine gW (Wk.rekey (k := 903) (d := 902) rfl rfl) ?_ (17,0)
        refine gW (Wk.of (sl := [(0,some (.ms 901 1 0 p2)),(1,some (.ms 902 1 0 n2)),(5,some (i64 t))]) (hp := [(901,some (.row 1 (D2.map u32))),(902,some (.row 1 (A2.map u32)))]) (.cons rfl (Sub.refl _) (.cons rfl (Sub.refl _) (.cons rfl (Sub.refl _) .nil))) (.cons rfl (.refl _) (.cons rfl (.refl _) .nil))) ?_ (17,0)
        obtain ⟨A3,D3,n3,p3,gA3,gD3,xA3,xD3,hle3,hg4,hs3,e1,e2,e3,e4⟩ : ∃ A3 D3 n3 p3,GOk L A3 n3 /\ GOk L D3 p3 /\ val (A3.take n3) % 2 = 1 /\ val (D3.take p3) % 2 = 1 /\ val (D3.take p3) <= val (A3.take n3) /\ Nat.gcd (val (A3.take n3)) (val (D3.take p3)) = Nat.gcd (val (A2.take n2)) (val (D2.take p2)) /\ val (A3.take n3) + val (D3.take p3) = val (A2.take n2) + val (D2.take p2) /\ A3 = D2 /\ n3 = p2 /\ D3 = A2 /\ p3 = n2 := ⟨D2,A2,p2,n2,gD2,gA2,xD2,xA2,by omega,Nat.gcd_comm _ _,Nat.add_comm _ _,rfl,rfl,rfl,rfl⟩
        rw [<- e1,<- e2,<- e3,<- e4]
        refine go ?_
        refine gt (abe (alp A3 D3 n3 p3 gA3.1 gD3.1 gA3.2.1 gD3.2.1 (by have := gA3.2.2.1; unfold big; omega) hle3) (.cons (.tmp rfl) (.cons (.tmp rfl) .nil)) (by first | exact hH0 | exact hH1 rfl | exact hH2 rfl rfl) rfl rfl) ?_
        refine gt (abe (Con.rekeyR 901 rfl (als (wr A3 0 (acv n3 (val (A3.take n3) - val (D3.take p3)))) n3 (aww gA3.1 (aec _ _)) (by rw [ajc (by rw [abh]; have := gA3.2.1; omega)]; exact gA3.2.1) (by rw [ajc (by rw [abh]; have := gA3.2.1; omega)]; have := gA3.2.2.1; unfold big; omega))) (.cons (.tmp rfl) .nil) (by first | exact hH0 | exact hH1 rfl | exact hH2 rfl rfl) rfl rfl) ?_
        exact gK4 hK2 (wr A3 0 (acv n3 (val (A3.take n3) - val (D3.take p3)))) D3 ((ofNat (val (A3.take n3) - val (D3.take p3))).length) p3 ⟨(adt gA3 (by omega)).1,gD3,by omega,.inr xD3,by rw [(adt gA3 (v := val (A3.take n3) - val (D3.take p3)) (by omega)).2.1,az4 hle3,hg4,hg3,hg2,hg1]⟩ (by rw [(adt gA3 (v := val (A3.take n3) - val (D3.take p3)) (by omega)).2.1]; omega) (hw := Wk.of (.cons rfl (Sub.of (by rw [(adt gA3 (v := val (A3.take n3) - val (D3.take p3)) (by omega)).2.2])) (.k (.k .nil))) (.cons rfl (.refl _) (.cons rfl (.refl _) .nil)))
       ·have hlt : val (D2.take p2) <= val (A2.take n2) := by
         rcases lt_or_ge (val (A2.take n2)) (val (D2.take p2)) with h | h
         ·rw [if_pos h] at ht56; cases ht56
         ·exact h
        refine gW (Wk.o (sl := [(0,some (.ms 901 1 0 n2)),(1,some (.ms 902 1 0 p2)),(5,some (i64 t))]) (hp := [(901,some (.row 1 (A2.map u32))),(902,some (.row 1 (D2.map u32)))])) ?_ (77777,0)
        obtain ⟨A3,D3,n3,p3,gA3,gD3,xA3,xD3,hle3,hg4,hs3,e1,e2,e3,e4⟩ : ∃ A3 D3 n3 p3,GOk L A3 n3 /\ GOk L D3 p3 /\ val (A3.take n3) % 2 = 1 /\ val (D3.take p3) % 2 = 1 /\ val (D3.take p3) <= val (A3.take n3) /\ Nat.gcd (val (A3.take n3)) (val (D3.take p3)) = Nat.gcd (val (A2.take n2)) (val (D2.take p2)) /\ val (A3.take n3) + val (D3.take p3) = val (A2.take n2) + val (D2.take p2) /\ A3 = A2 /\ n3 = n2 /\ D3 = D2 /\ p3 = p2 := ⟨A2,D2,n2,p2,gA2,gD2,xA2,xD2,hlt,rfl,rfl,rfl,rfl,rfl,rfl⟩
        rw [<- e1,<- e2,<- e3,<- e4]
        obtain ⟨k1,k2,k3⟩ := adt gA3 (v := val (A3.take n3) - val (D3.take p3)) (by omega)
        refine go ?_
        refine gt (abe (alp A3 D3 n3 p3 gA3.1 gD3.1 gA3.2.1 gD3.2.1 (by have := gA3.2.2.1; unfold big; omega) hle3) (.cons (.tmp rfl) (.cons (.tmp rfl) .nil)) (by first | exact hH0 | exact hH1 rfl | exact hH2 rfl rfl) rfl rfl) ?_
        refine gt (abe (Con.rekeyR 901 rfl (als (wr A3 0 (acv n3 (val (A3.take n3) - val (D3.take p3)))) n3 (aww gA3.1 (aec _ _)) (by rw [ajc (by rw [abh]; have := gA3.2.1; omega)]; exact gA3.2.1) (by rw [ajc (by rw [abh]; have := gA3.2.1; omega)]; have := gA3.2.2.1; unfold big; omega))) (.cons (.tmp rfl) .nil) (by first | exact hH0 | exact hH1 rfl | exact hH2 rfl rfl) rfl rfl) ?_
        exact gK4 hK2 (wr A3 0 (acv n3 (val (A3.take n3) - val (D3.take p3)))) D3 ((ofNat (val (A3.take n3) - val (D3.take p3))).length) p3 ⟨(adt gA3 (by omega)).1,gD3,by omega,.inr xD3,by rw [(adt gA3 (v := val (A3.take n3) - val (D3.take p3)) (by omega)).2.1,az4 hle3,hg4,hg3,hg2,hg1]⟩ (by rw [(adt gA3 (v := val (A3.take n3) - val (D3.take p3)) (by omega)).2.1]; omega) (hw := Wk.of (.cons rfl (Sub.of (by rw [(adt gA3 (v := val (A3.take n3) - val (D3.take p3)) (by omega)).2.2])) (.k (.k .nil))) (.cons rfl (.refl _) (.cons rfl (.refl _) .nil)))
    ·have zA1 : val (A1.take n1) = 0 := by
      have h3 : n1 = 0:=by have := ht38; simp [aab] at this; omega
      exact (aue gA1).1 h3
     rw [zA1,Nat.gcd_zero_left] at hg1
     refine gW ((Wk.freeze (k := 902) rfl).trans <| Wk.of (sl := [(1,some (ws (ofNat (val (D1.take p1))))),(5,some (i64 t))]) (hp := []) (.cons rfl (Sub.of (by rw [a3j (by rw [length_map]; have := gD1.2.1; omega),ag4,<- a35 gD1])) (.k .nil)) .nil) ?_
     refine gL1 [64] [] (fun (i : Nat) => [(1,some (ws (ofNat (2 ^ i * val (D1.take p1))))),(65,some (i64 i))]) (fun _ => []) (fun i => i <= t) (fun i => t - i) 0 (zero_le _) ?_ (h1 := (.cons rfl (Sub.of (by rw [Nat.pow_zero,Nat.one_mul])) (.k .nil)))
     rintro i hit K5 hK5
     refine gC (fun ht66 => ?_) (fun ht66 => ?_)
     ·have hin : i < t := by simpa [aab] using ht66
      have h3 : 2 ^ i * val (D1.take p1) <= G:=by rw [hg1]; exact mul_le_mul_right _ (adv (by omega))
      have h4 : (ofNat (2 ^ i * val (D1.take p1))).length <= a.length := aaf (by omega)
      have ht : t < 32 * a.length := at3 pD1 (by rw [<- hg1]; exact hGa) vla
      refine gc (ajr _ _ (aau _) (aau _) (by unfold big; omega) (by unfold big; omega)) ?_
      refine ga (aax (by omega)) ?_
      exact gK1 hK5 (i + 1) hin (hw := Wk.of (.cons rfl (Sub.of (by rw [aag,Nat.pow_succ]; congr 2; grind)) (.k (.k .nil))) .nil)
     ·have hin : i = t := by have : t <= i := (by simpa [aab] using ht66); omega
      subst hin
      refine gE1 ?_
      rw [hg1]
end Go.Lw
namespace Go.Lw
open Go.Proofs
theorem ard (a b : Wh) (ha : a.ok) (hb : b.ok) (la : a.mag.length + b.mag.length < big) : FnC prog 237 [a.av, b.av] (zA (Int.gcd a.z b.z)) := by
 have h1 := Wh.m_le (w := a)
 have h2 := Wh.m_le (w := b)
 have h3 : Int.gcd a.z b.z = Nat.gcd (val a.m) (val b.m):=by rw [Int.gcd,Wh.abs,Wh.abs]
 have h4 : (ofNat (Nat.gcd (val a.m) (val b.m))).length <= a.m.length + b.m.length := by
  rcases Nat.eq_zero_or_pos (val a.m) with h | h
  ·rw [h,Nat.gcd_zero_left,Wh.ofNat_m hb]; omega
  ·exact le_trans (aaf (lt_of_le_of_lt (Nat.gcd_le_left _ h) (aa9 _ (Wh.ws ha)))) (by omega)
 refine gF0 func237 ?_
 refine gc (act a ha) ?_
 refine gc (act b hb) ?_
 refine gc (ayy a.m b.m (Wh.ws ha) (Wh.ws hb) a.nz b.nz (by omega)) ?_
 refine gc (abx false _ (aau _) (by omega)) ?_
 refine gD ?_
 refine gE1 ?_
 rw [aag,h3]; rfl
theorem a09 (a b : Wh) (ha : a.ok) (hb : b.ok) (la : a.mag.length + 1 < big) (lb : b.mag.length < big) (h0 : b.z ≠ 0) : FnC prog 238 [a.av, b.av] (.tup [zA (a.z / b.z), zA (a.z % b.z), i64 0]) := by
 have hm1 := Wh.m_le (w := a)
 have hm2 := Wh.m_le (w := b)
 have hb1 : val b.m ≠ 0:=by have := Wh.abs (w := b); omega
 have hl1 : (ofNat (val a.m / val b.m)).length <= a.m.length := aaf (lt_of_le_of_lt (Nat.div_le_self _ _) (aa9 _ (Wh.ws ha)))
 have hmod := Nat.mod_lt (val a.m) (show 0 < val b.m by omega)
 have hl2 : (ofNat (val a.m % val b.m)).length <= b.m.length := aaf (Nat.lt_trans hmod (aa9 _ (Wh.ws hb)))
 have hl3 : (ofNat (val a.m / val b.m + 1)).length <= a.m.length + 1 := aaf (by have h7 := lt_of_le_of_lt (Nat.div_le_self (val a.m) (val b.m)) (aa9 _ (Wh.ws ha)); rw [Nat.pow_succ]; generalize val a.m / val b.m = m at *; omega)
 have hl4 : (ofNat (val b.m - val a.m % val b.m)).length <= b.m.length := aaf (by have := aa9 _ (Wh.ws hb); omega)
 have hv1 : val [1] = 1 := rfl
 refine gF0 func238 ?_
 refine gc (ajh b hb) ?_
 refine gC (fun ht11 => ?_) (fun ht11 => ?_) (st1 := (2,0))
 ·exact absurd (Int.sign_eq_zero_iff_zero.1 (by simpa [aab] using ht11)) h0
 ·refine gc (act a ha) ?_
  refine gc (act b hb) ?_
  refine gc (aqs a.m b.m (Wh.ws ha) (Wh.ws hb) a.nz hb1 (by omega) (by omega)) ?_
  refine gD ?_
  refine gc (ab1 a ha) ?_
  refine glG ?_
  refine gC (fun ht28 => ?_) (fun ht28 => ?_)
  ·have h1 : a.n = true /\ 0 < val a.m % val b.m := ak6.1 ht28
   obtain ⟨e1,e2⟩ := auh hb1 h1.1 h1.2
   refine gc (ajr (ofNat (val a.m / val b.m)) [1] (aau _) (aqv (by omega)) (by omega) (by unfold big; simp)) ?_
   refine gc (act b hb) ?_
   refine gc (ah7 b.m (ofNat (val a.m % val b.m)) (Wh.ws hb) (aau _) (by omega) (by rw [aag]; omega)) ?_
   refine gD ?_ (6,0)
   refine gW (Wk.of (sl := [(2,some (.ptr 2 0)),(3,some (.ptr 3 0)),(4,some (.ptr 4 0)),(5,some (.ptr 5 0)),(7,some (ws (ofNat (val a.m / val b.m + 1)))),(8,some (ws (ofNat (val b.m - val a.m % val b.m))))]) (hp := [(2,some (.box [bl a.neg,ws a.mag])),(3,some (.box [bl b.neg,ws b.mag])),(4,some (.box [.v (.bool false),.v (.slice none 0 0)])),(5,some (.box [.v (.bool false),.v (.slice none 0 0)]))]) (.k (.k (.k (.k (.cons rfl (Sub.of (by rw [aag,hv1])) (.cons rfl (Sub.of (by rw [aag])) .nil)))))) (.cons rfl (.refl _) (.cons rfl (.refl _) (.cons rfl (.refl _) (.cons rfl (.refl _) .nil))))) ?_
   refine gc (ab1 a ha) ?_
   refine gc (ab1 b hb) ?_
   refine gc (by apply abx _ _ (aau _) (by omega)) ?_
   refine gc (by apply abx _ _ (aau _) (by omega)) ?_
   refine gD ?_
   refine gR ?_
   exact aot (by rw [aag,aag,e1,show sgn false _ = _ from e2]; rfl)
  ·have h1 : ¬ (a.n = true /\ 0 < val a.m % val b.m) := fun h => Bool.eq_false_iff.1 ht28 (ak6.2 h)
   obtain ⟨e1,e2⟩ := azg hb1 h1
   refine gc (ab1 a ha) ?_
   refine gc (ab1 b hb) ?_
   refine gc (by apply abx _ _ (aau _) (by omega)) ?_
   refine gc (by apply abx _ _ (aau _) (by omega)) ?_
   refine gD ?_
   refine gR ?_
   exact aot (by rw [aag,aag,e1,show sgn false _ = _ from e2]; rfl)
end Go.Lw
namespace Go.Lw
open Go.Proofs
theorem apu {x : Int} (hx : Zs x) : FnC prog 307 [zA x] (i64 x.sign) := by
 have h := afb (ofInt x) hx.ok
 rw [abg] at h
 exact h
theorem a23 {x : Int} (hx : Zs x) : FnC prog 209 [zA x] (zA (-x)) := by
 have h := an4 (ofInt x) hx.ok (by have := hx.len; unfold big; omega)
 rw [abg] at h
 exact h
theorem bbn {x y : Int} (hx : Zs x) (hy : Zs y) : FnC prog 327 [zA x, zA y] (i64 (aqd x y)) := by
 have h := apb (ofInt x) (ofInt y) hx.ok hy.ok
 rw [abg,abg] at h
 exact h
theorem bcm {x y : Int} (hx : Zs x) (hy : Zs y) : FnC prog 305 [zA x, zA y] (zA (x + y)) := by
 have h := apk (ofInt x) (ofInt y) hx.ok hy.ok (by have := hx.len; unfold big; omega) (by have := hy.len; unfold big; omega)
 rw [abg,abg] at h
 exact h
theorem ape {x y : Int} (hx : Zs x) (hy : Zs y) : FnC prog 306 [zA x, zA y] (zA (x * y)) := by
 have h := apd (ofInt x) (ofInt y) hx.ok hy.ok (by have := hx.len; have := hy.len; unfold big; omega)
 rw [abg,abg] at h
 exact h
theorem bdq {x y : Int} (hx : Zs x) (hy : Zs y) : FnC prog 308 [zA x, zA y] (zA (Int.gcd x y)) := by
 have h := ai2 (ofInt x) (ofInt y) hx.ok hy.ok (by have := hx.len; unfold big; omega) (by have := hy.len; unfold big; omega)
 rw [abg,abg] at h
 exact h
theorem a8z {x y : Int} (hx : Zs x) (hy : Zs y) (h0 : y ≠ 0) : FnC prog 309 [zA x, zA y] (.tup [zA (x / y), zA (x % y), .v .nilIface]) := by
 have h := ao0 (ofInt x) (ofInt y) hx.ok hy.ok (by have := hx.len; unfold big; omega) (by have := hy.len; unfold big; omega) (by rw [abg]; exact h0)
 rw [abg,abg] at h
 exact h
theorem asp {x : Int} (hx : Zs x) : FnC prog 236 [zA x] (i64 x.sign) := by
 have h := ajh (ofInt x) hx.ok
 rw [abg] at h
 exact h
theorem ay5 {x : Int} (hx : Zs x) : FnC prog 215 [zA x] (zA (-x)) := by
 have h := arm (ofInt x) hx.ok (by have := hx.len; unfold big; omega)
 rw [abg] at h
 exact h
theorem bai {x y : Int} (hx : Zs x) (hy : Zs y) : FnC prog 315 [zA x, zA y] (i64 (aqd x y)) := by
 have h := ay2 (ofInt x) (ofInt y) hx.ok hy.ok (by have := hx.len; unfold big; omega) (by have := hy.len; unfold big; omega)
 rw [abg,abg] at h
 exact h
theorem a9u {x y : Int} (hx : Zs x) (hy : Zs y) : FnC prog 134 [zA x, zA y] (zA (x + y)) := by
 have h := aqm (ofInt x) (ofInt y) hx.ok hy.ok (by have := hx.len; unfold big; omega) (by have := hy.len; unfold big; omega)
 rw [abg,abg] at h
 exact h
theorem aq5 {x y : Int} (hx : Zs x) (hy : Zs y) : FnC prog 135 [zA x, zA y] (zA (x * y)) := by
 have h := axa (ofInt x) (ofInt y) hx.ok hy.ok (by have := hx.len; have := hy.len; unfold big; omega)
 rw [abg,abg] at h
 exact h
theorem a9l {x y : Int} (hx : Zs x) (hy : Zs y) : FnC prog 237 [zA x, zA y] (zA (Int.gcd x y)) := by
 have h := ard (ofInt x) (ofInt y) hx.ok hy.ok (by have := hx.len; have := hy.len; unfold big; omega)
 rw [abg,abg] at h
 exact h
theorem a4h {x y : Int} (hx : Zs x) (hy : Zs y) (h0 : y ≠ 0) : FnC prog 238 [zA x, zA y] (.tup [zA (x / y), zA (x % y), i64 0]) := by
 have h := a09 (ofInt x) (ofInt y) hx.ok hy.ok (by have := hx.len; unfold big; omega) (by have := hy.len; unfold big; omega) (by rw [abg]; exact h0)
 rw [abg,abg] at h
 exact h
end Go.Lw
namespace Go.Lw
open Go.Proofs
def azs (e : Nat) : Value := match e with | 0 => .nilIface | e + 1 => .iface 66 (.int .i64 ((e + 1 : Nat) : Int))
def ahg (e : Nat) : AV := .v (azs e)
theorem a6c (e : Nat) : azs e = .nilIface \/ ∃ T u,azs e = .iface T u:=by cases e; exact .inl rfl; exact .inr ⟨_,_,rfl⟩
theorem ap9 (e : Nat) : agf (azs e) = decide (e = 0):=by cases e <;> simp [azs,agf]
theorem a5k {e : Nat} (h : agf (azs e) = true) : e = 0:=by rw [ap9] at h; exact of_decide_eq_true h
theorem a7s {e : Nat} (h : agf (azs e) = false) : e ≠ 0:=by rw [ap9] at h; exact of_decide_eq_false h
theorem ae2 {e : Nat} (h : (!agf (azs e)) = true) : e ≠ 0 := a7s (by cases h' : agf (azs e) <;> simp_all)
theorem ae0 {e : Nat} (h : (!agf (azs e)) = false) : e = 0 := a5k (by cases h' : agf (azs e) <;> simp_all)
theorem afa : FnC prog 271 [] (zA 1) := by
 refine gF0 func271 ?_
 refine gc (ake 1 (by omega)) ?_
 refine gE1 ?_
 first | rfl | (simp; done)
theorem ach (r : Rt) (h : r.ok) : FnC prog 229 [r.av] (bl r.valid) := by
 have hn := h.n0
 have hd := h.d0
 refine gF0 func229 ?_
 refine gl ?_
 refine glG ?_
 refine gC (fun ht14 => ?_) (fun ht14 => ?_)
 ·have h0 : r.num = [] /\ r.den = [] := by simpa [aab] using ht14
  refine gE1 ?_
  unfold Rt.valid; rw [if_pos h0]; rfl
 ·have h0 : ¬ (r.num = [] /\ r.den = []) := by
   have := ht14
   simp [aab] at this
   exact fun h => this h.1 h.2
  refine gD ?_
  refine gl ?_
  refine glG ?_
  refine gcG (fun _ => (adl r.n0 hn)) ?_
  refine gcG (fun _ => (adl r.d0 hd)) ?_
  refine gC (fun ht43 => ?_) (fun ht43 => ?_)
  ·have h1 : r.valid = false := aol h0 ht43
   refine gE1 ?_
   rw [h1]; rfl
  ·have h1 := arf h0 ht43
   refine gc (ai2 r.n0 r.d0 hn hd h.n0l h.d0l) ?_
   refine gc (by apply afa) ?_
   refine gc (bbn (Rt.gcd_zs h) zs1) ?_
   refine gE1 ?_
   rw [h1]; rfl
theorem aa2 (r : Rt) (h : r.ok) : FnC prog 207 [r.av] (.tup [zA r.q.num, zA r.q.den]) := by
 have hl1 : r.num.length <= 137438953472 := h.2.2.1
 have hl2 : r.den.length <= 137438953472 := h.2.2.2
 refine gF0 func207 ?_
 refine gc (ach r h) ?_
 refine glG ?_
 refine gC (fun ht12 => ?_) (fun ht12 => ?_)
 ·have h0 : ¬ (r.valid = true /\ r.num ≠ []) := by
   have := ht12
   intro h'
   simp [aab,h'.1,h'.2] at this
  refine gc afa ?_
  refine gR ?_
  exact af1 (by rw [Rt.zero h0]; exact Sub.tup (.cons a4u (.cons (.refl _) .nil)))
 ·have h0 : r.valid = true /\ r.num ≠ [] := by
   have := ht12
   cases hv : r.valid
   ·rw [hv] at this; cases this
   ·rw [hv] at this; exact ⟨rfl,by simpa [aab] using this⟩
  obtain ⟨e1,e2,e3,e4,e5,e6⟩ := Rt.parts h h0.1 h0.2
  refine gs (ack T80 rfl T271 rfl rfl rfl) ?_
  refine gs (ab5 (.tmp rfl) rfl rfl (.tmp rfl) T80 rfl T271 rfl rfl (by simp only [length_map]; omega) rfl rfl) ?_
  refine gD ?_ (4,0)
  refine gW ((Wk.freeze (k := 20) rfl).trans <| Wk.of (sl := [(1,some (.ptr 1 0)),(2,some (.ptr 2 0)),(3,some (.ptr 3 0))]) (hp := [(1,some (.box [bl r.neg,ws r.num,ws r.den])),(2,some (.box [bl r.neg,ws r.num])),(3,some (.box [bl false,.v (.slice none 0 0)]))]) abv (.cons rfl (.refl _) (.cons rfl (BlkSub.boxL (.cons (.refl _) (.cons (.of (ace (by simp))) .nil)) rfl) (.cons rfl (.refl _) .nil)))) ?_
  refine gs (ack T80 rfl T271 rfl rfl rfl) ?_
  refine gs (ab5 (.tmp rfl) rfl rfl (.tmp rfl) T80 rfl T271 rfl rfl (by simp only [length_map]; omega) rfl rfl) ?_
  refine gD ?_ (77777,0)
  refine gW ((Wk.freeze (k := 26) rfl).trans <| Wk.of (sl := [(2,some (.ptr 2 0)),(3,some (.ptr 3 0))]) (hp := [(2,some (.box [bl r.neg,ws r.num])),(3,some (.box [bl false,ws r.den]))]) abv (.cons rfl (.refl _) (.cons rfl (BlkSub.boxL (.cons (.refl _) (.cons (.of (ace (by simp))) .nil)) rfl) .nil))) ?_
  refine gE2 ?_
  rw [e1,e2]; exact avi e3 e4 e5
theorem aco {n d : Int} (hn : Zs n) (hd : Zs d) (h0 : d ≠ 0) : FnC prog 208 [zA n, zA d] (qA (Rat.divInt n d)) := by
 refine gF0 func208 ?_
 refine gc (apu hn) ?_
 refine gC (fun ht9 => ?_) (fun ht9 => ?_)
 ·have e0 : n = 0 := Int.sign_eq_zero_iff_zero.1 (by simpa [aab] using ht9)
  refine gR ?_
  exact adj (by rw [e0,Rat.zero_divInt]; exact apr)
 ·have e0 : n ≠ 0 := fun h => by rw [h] at ht9; cases ht9
  refine gc (apu hd) ?_
  refine gJ2 [2,3,4] [4] (fun (n1 d1 : Int) => []) (fun n1 d1 => [(2,some (.box (zA n1).cells)),(3,some (.box (zA d1).cells))]) (fun n1 d1 => 0 < d1 /\ n1 ≠ 0 /\ Zs n1 /\ Zs d1 /\ Rat.divInt n1 d1 = Rat.divInt n d) ?_ ?_
  ·intro K1 hK1
   refine gC (fun ht13 => ?_) (fun ht13 => ?_)
   ·have e1 : d < 0 := Int.sign_eq_neg_one_iff_neg.1 (by have := Int.sign_trichotomy d; have h9 : d.sign < 0 := (by simpa [aab] using ht13); omega)
    refine gc (a23 hn) ?_
    refine gc (a23 hd) ?_
    refine gD ?_
    exact jK2 hK1 (-n) (-d) ⟨by omega,by omega,hn.neg,hd.neg,alt n d⟩
   ·have e1 : 0 < d := by
     have h9 : 0 <= d.sign:=by simpa [aab] using ht13
     have := Int.sign_nonneg_iff.1 h9
     omega
    exact jK2 hK1 n d ⟨e1,e0,hn,hd,rfl⟩
  ·rintro n1 d1 ⟨f1, f2, f3, f4, f5⟩
   refine gc (bdq f3 f4) ?_
   refine gc (apu f3) ?_
   refine gJ1 [2,3,4,5] [3,4,5] (fun (n2 : Int) => [(6,some (bl (decide (n1 < 0))))]) (fun n2 => [(2,some (.box (zA n2).cells))]) (fun n2 => n2 = (n1.natAbs : Int)) ?_ ?_
   ·intro K2 hK2
    refine gC (fun ht24 => ?_) (fun ht24 => ?_)
    ·have e2 : n1 < 0 := Int.sign_eq_neg_one_iff_neg.1 (by have := Int.sign_trichotomy n1; have h9 : n1.sign < 0 := (by simpa [aab] using ht24); omega)
     refine gc (a23 f3) ?_
     exact jK1 hK2 (-n1) (by omega) (hw := Wk.of (.cons rfl (Sub.of (by rw [show aab .lss n1.sign 0 = true from ht24,decide_eq_true e2]; rfl)) (.k (.k (.k (.k .nil))))) (.cons rfl (.refl _) (.cons rfl (.refl _) (.cons rfl (.refl _) (.cons rfl (.refl _) .nil)))))
    ·have e2 : 0 < n1 := by
      have h9 : 0 <= n1.sign:=by simpa [aab] using ht24
      have := Int.sign_nonneg_iff.1 h9
      omega
     exact jK1 hK2 n1 (by omega) (hw := Wk.of (.cons rfl (Sub.of (by rw [show aab .lss n1.sign 0 = false from ht24,decide_eq_false (by omega)]; rfl)) (.k (.k (.k (.k .nil))))) (.cons rfl (.refl _) (.cons rfl (.refl _) (.cons rfl (.refl _) (.cons rfl (.refl _) .nil)))))
   ·rintro n2 g1
    have g2 : Zs (Int.gcd n1 d1 : Int) := f3.of_le (by rw [natAbs_natCast]; exact Nat.le_of_dvd (by omega) (Int.gcd_dvd_natAbs_left _ _))
    have g3 : (Int.gcd n1 d1 : Int) ≠ 0:=by have := Int.gcd_pos_of_ne_zero_left d1 f2; omega
    have g4 : Zs n2 := f3.of_le (by omega)
    refine gc (a8z g4 g2 g3) ?_
    refine gc (a8z f4 g2 g3) ?_
    refine gE1 ?_
    rw [<- f5,<- a77 f1 f2,<- g1]; rfl
theorem alu {n d : Int} (hn : Zs n) (hd : Zs d) : FnC prog 443 [zA n, zA d] (.tup [qA (Rat.divInt n d), ahg (if d = 0 then 8 else 0)]) := by
 refine gF0 func443 ?_
 refine gc (apu hd) ?_
 refine gC (fun ht8 => ?_) (fun ht8 => ?_)
 ·have h0 : d = 0 := Int.sign_eq_zero_iff_zero.1 (by simpa [aab] using ht8)
  refine gR ?_
  exact af1 (by rw [if_pos h0,h0,Rat.divInt_zero]; exact Sub.tup (.cons apr (.cons (.refl _) .nil)))
 ·have h0 : d ≠ 0 := fun h => by rw [h] at ht8; cases ht8
  refine gc (aco hn hd h0) ?_
  refine gE2 ?_
  rw [if_neg h0]; rfl
theorem aow (n : Int) (h : -9223372036854775808 <= n /\ n <= 9223372036854775807) : FnC prog 150 [i64 n] (qA n) := by
 have hz : Zs n := ⟨2,by omega,by unfold Lz; simp only [Nat.reducePow]; omega⟩
 refine gF0 func150 ?_
 refine gc (ake n h) ?_
 refine gc afa ?_
 refine gc (aco hz zs1 (by omega)) ?_
 refine gE1 ?_
 exact congrArg qA (Rat.num_divInt_den (n : Rat))
theorem ae9 (a : Rt) (ha : a.ok) : FnC prog 111 [a.av] (qA (-a.q)) := by
 have za := ha.qs
 refine gF0 func111 ?_
 refine gc (aa2 a ha) ?_
 refine gc (a23 za.num) ?_
 refine gc (aco za.num.neg za.den (by have := a.q.den_nz; omega)) ?_
 refine gD ?_
 refine gE1 ?_
 rw [a0q]; rfl
theorem ael (a : Rt) (ha : a.ok) : FnC prog 313 [a.av] (i64 (ajn a.q)) := by
 refine gF0 func313 ?_
 refine gc (aa2 a ha) ?_
 refine gc (apu ha.qs.num) ?_
 refine gE1 ?_
 rw [aul]
theorem aht (a b : Rt) (ha : a.ok) (hb : b.ok) : FnC prog 374 [a.av, b.av] (i64 (ajn (a.q - b.q))) := by
 have za := ha.qs
 have zb := hb.qs
 have m1 := za.mul zb
 have m2 := zb.mul za
 refine gF0 func374 ?_
 refine gc (aa2 a ha) ?_
 refine gc (aa2 b hb) ?_
 refine gc (ape za.num zb.den) ?_
 refine gc (ape zb.num za.den) ?_
 refine gc (bbn m1.1 m2.1) ?_
 refine gD ?_
 refine gE1 ?_
 rw [a5j]
theorem ad5 (a b : Rt) (ha : a.ok) (hb : b.ok) : FnC prog 206 [a.av, b.av] (qA (a.q + b.q)) := by
 have za := ha.qs
 have zb := hb.qs
 have m1 := za.mul zb
 have m2 := zb.mul za
 refine gF0 func206 ?_
 refine gc (aa2 a ha) ?_
 refine gc (aa2 b hb) ?_
 refine gc (ape za.num zb.den) ?_
 refine gc (ape zb.num za.den) ?_
 refine gc (bcm m1.1 m2.1) ?_
 refine gc (ape za.den zb.den) ?_
 refine gc (aco (za.cross zb) m1.2.2.1 (Int.mul_ne_zero (by have := a.q.den_nz; omega) (by have := b.q.den_nz; omega))) ?_
 refine gD ?_
 refine gE1 ?_
 rw [as9]; rfl
theorem ane (a b : Rt) (ha : a.ok) (hb : b.ok) : FnC prog 281 [a.av, b.av] (qA (a.q - b.q)) := by
 refine gF0 func281 ?_
 refine gc (ae9 b hb) ?_
 refine gc (ad5 a (rt (-b.q)) ha hb.qs.neg.ok) ?_
 refine gD ?_
 refine gE1 ?_
 rw [ahi,<- Rat.sub_eq_add_neg]; rfl
theorem ahj (a b : Rt) (ha : a.ok) (hb : b.ok) : FnC prog 288 [a.av, b.av] (qA (a.q * b.q)) := by
 have za := ha.qs
 have zb := hb.qs
 have m1 := za.mul zb
 refine gF0 func288 ?_
 refine gc (aa2 a ha) ?_
 refine gc (aa2 b hb) ?_
 refine gc (ape za.num zb.num) ?_
 refine gc (ape za.den zb.den) ?_
 refine gc (aco m1.2.1 m1.2.2.1 (Int.mul_ne_zero (by have := a.q.den_nz; omega) (by have := b.q.den_nz; omega))) ?_
 refine gD ?_
 refine gE1 ?_
 rw [as5]; rfl
theorem am7 (a b : Rt) (ha : a.ok) (hb : b.ok) : FnC prog 431 [a.av, b.av] (.tup [qA (a.q / b.q), ahg (if b.q = 0 then 8 else 0)]) := by
 have za := ha.qs
 have zb := hb.qs
 have m1 := za.mul zb
 refine gF0 func431 ?_
 refine gc (aa2 a ha) ?_
 refine gc (aa2 b hb) ?_
 refine gc (ape za.num zb.den) ?_
 refine gc (ape za.den zb.num) ?_
 refine gc (alu m1.1 m1.2.2.2) ?_
 refine gD ?_
 refine gE2 ?_
 have e1 : ((a.q.den : Int) * b.q.num = 0) = (b.q = 0) := by
  apply propext
  rw [<- Rat.num_eq_zero,Int.mul_eq_zero]
  exact ⟨fun h => h.resolve_left (by have := a.q.den_nz; omega),.inr⟩
 simp only [a76,e1]
 rfl
end Go.Lw
namespace Go.Lw
structure Pq where
  c : List Rat
  s : List Rat
  x : List Rat
  y : List Rat
def Pq.av (p : Pq) : AV := .agg [nA p.c,nA p.s,nA p.x,nA p.y]
structure Pq.ok (n e : Nat) (p : Pq) : Prop where
  c : Nm n e p.c
  s : Nm n e p.s
  x : Nm n e p.x
  y : Nm n e p.y
def bb7 (p : Pse) : Pq := ⟨sh 0 (bef p.turn.half p.turn.t.q : Rat),sh 0 (beh p.turn.half p.turn.t.q : Rat),sh 0 (p.at_.x.q : Rat),sh 0 (p.at_.y.q : Rat)⟩
def ofE (ps : List Pse) : Nat := if ps.all Pse.ok = true then 0 else 2
def bc3 (ts : List (List Rat)) (b : Pl) (w : Pq) : Bool :=
  eqT ts (dec ts.length (lq b.c)) (dec ts.length w.c) && eqT ts (dec ts.length (lq b.s)) (dec ts.length w.s) && eqT ts (dec ts.length (lq b.x)) (dec ts.length w.x) && eqT ts (dec ts.length (lq b.y)) (dec ts.length w.y)
def mE (a : As) (ps : List Pse) : Nat :=
  if amq a.rs ≠ 0 then amq a.rs else if ofE ps ≠ 0 then ofE ps else if a.bs.length ≠ ps.length then 10 else af9 (a.bs.map (fun b => ab7 a.rs b.l))
def mB (a : As) (ps : List Pse) : Bool := decide (mE a ps = 0) && (a.bs.zip ps).all (fun z => bc3 (llq a.rs) z.1 (bb7 z.2))
end Go.Lw
namespace Go.Lw
instance : Inhabited Tn := ⟨⟨⟨false,[],[]⟩,false⟩⟩
def ac1 (n : Nat) (ok : Nat -> Bool) : Option Nat := (List.range n).find? (fun i => !ok i)
theorem aer {n i : Nat} {ok : Nat -> Bool} (hi : i < n) (h : ∀ j, j < i -> ok j = true) (he : ok i = false) : ac1 n ok = some i := by
 unfold ac1
 rw [List.find?_range_eq_some]
 exact ⟨by rw [he]; rfl,by simpa using hi,fun j hj => by rw [h j hj]; rfl⟩
theorem adx {n : Nat} {ok : Nat -> Bool} (h : ∀ j, j < n -> ok j = true) : ac1 n ok = none := by
 unfold ac1
 rw [List.find?_range_eq_none]
 exact fun j hj => by rw [h j hj]; rfl
def ixI : Option Nat -> Int
  | none => -1
  | some i => i
theorem ad6 {l : Li} (h : liE l = 0) : a30 l = 0 /\ aui l = 0 /\ a1r l = 0 /\ l.bodies.length <= 8 /\ l.bodies.length ≠ 0 := by
 unfold liE at h
 split at h
 ·cases h
 ·split at h
  ·cases h
  ·split at h
   ·cases h
   ·split at h
    ·rename_i h1; exact absurd h h1
    ·rename_i g1 _ h1
     split at h
     ·rename_i h2; exact absurd h h2
     ·rename_i h2; exact ⟨Decidable.not_not.1 h1,Decidable.not_not.1 h2,h,by omega,by omega⟩
theorem bcu {l : Li} (h : liE l = 0) {i : Nat} {j : Jt} (hj : l.joints[i]? = some j) : jt0 l j = 0 := by
 have h1 := (ad6 h).2.1
 unfold aui at h1
 split at h1
 ·cases h1
 ·have h2 := alz h1 i (List.getElem?_eq_some_iff.1 hj).1
  unfold jtE at h2
  rw [abp hj] at h2
  split at h2
  ·cases h2
  ·split at h2
   ·cases h2
   ·exact h2
theorem ba9 {l : Li} (h : liE l = 0) {i : Nat} {j : Jt} (hj : l.joints[i]? = some j) :
  inB j.a l.bodies.length = true /\ inB j.b l.bodies.length = true /\ inB j.point (agl l j.a).length = true /\ inB j.on (agl l j.b).length = true /\ (j.kind ≠ 0 -> inB j.to (agl l j.b).length = true) := by
 have h1 := bcu h hj
 unfold jt0 at h1
 split at h1
 ·cases h1
 ·split at h1
  ·cases h1
  ·rename_i h2
   split at h1
   ·cases h1
   ·split at h1
    ·cases h1
    ·rename_i h3
     have a1 : inB j.a l.bodies.length = true:=by cases h : inB j.a l.bodies.length <;> simp_all
     have a2 : inB j.b l.bodies.length = true:=by cases h : inB j.b l.bodies.length <;> simp_all
     have a3 : inB j.point (agl l j.a).length = true:=by cases h : inB j.point (agl l j.a).length <;> simp_all
     have a4 : inB j.on (agl l j.b).length = true:=by cases h : inB j.on (agl l j.b).length <;> simp_all
     refine ⟨a1,a2,a3,a4,fun hk => ?_⟩
     rw [if_neg hk] at h1
     split at h1
     ·cases h1
     ·rename_i h4; cases h : inB j.to (agl l j.b).length <;> simp_all
theorem ax0 {l : Li} (h : liE l = 0) {i : Nat} {d : Dr} (hd : l.drivers[i]? = some d) : inB d.body l.bodies.length = true := by
 have h1 := (ad6 h).2.2.1
 unfold a1r at h1
 split at h1
 ·cases h1
 ·have h2 := alz h1 i (List.getElem?_eq_some_iff.1 hd).1
  unfold drE at h2
  rw [abp hd] at h2
  split at h2
  ·cases h2
  ·split at h2
   ·cases h2
   ·split at h2
    ·cases h2
    ·rename_i h3; cases h : inB d.body l.bodies.length <;> simp_all
end Go.Lw
namespace Go.Lw
abbrev Et (ts : List (List Rat)) : Type := E (aat ts) ts.length
def dE (ts : List (List Rat)) (a : List Rat) : Et ts := dec ts.length a
def sX {ts : List (List Rat)} (x : Et ts) : List Rat := sh ts.length x
class Ct (ts : List (List Rat)) (u k : outParam Nat) : Prop where
  ex : ∃ R,Tw ts R /\ eB R ts.length <= k
  k1 : 1 <= k
  u3 : 3 <= u
  ub : u <= 1000000
  kb : k <= 1000000
instance Ct.cx {ts : List (List Rat)} {u k : Nat} [c : Ct ts u k] : Cx (aat ts) ts.length u k := by
  obtain ⟨R,tw,h⟩ := c.ex
  exact ⟨⟨R,a9v tw ▸ tw,h⟩,c.k1,c.u3⟩
class Zl (ts : List (List Rat)) (u k : Nat) (a : List Rat) (x : outParam (Et ts)) (w v : outParam Nat) : Prop where
  eq : dec ts.length a = x
  nm : Nm ts.length (w * u + v * k) a
section
variable {ts : List (List Rat)} {u k : Nat}
instance Zl.sX {x : Et ts} {w v : Nat} [h : Zu u k x w v] : Zl ts u k (sX x) x w v := ⟨aga _ _,h.nm⟩
instance Zl.q [c : Ct ts u k] {q : Rat} {w : Nat} [h : Qz u q w] : Zl ts u k (sh 0 (q : Rat)) (qE q : Et ts) w 0 := ⟨a1p _ q, by
  obtain ⟨R,tw,_⟩ := c.ex
  exact (Nm.ofQ tw.five h.cb).eq (by omega)⟩
instance Zl.nil [c : Ct ts u k] : Zl ts u k [] (0 : Et ts) 0 0 := ⟨by rw [aeu]; exact E.zero_def.symm, by
  obtain ⟨R,tw,_⟩ := c.ex
  exact ⟨tw.five,.inl rfl,Cb.nil.mono (zero_le _)⟩⟩
theorem Zl.at {a : List Rat} {e : Nat} (h : Nm ts.length e a) (he : e <= u) : Zl ts u k a (dE ts a) 1 0 := ⟨rfl,h.mono (by omega)⟩
theorem bc7 (c : Ct ts u k) {w v m : Nat} (h : w + v <= m) : w * u + v * k <= m * 1000000 := by
 have h1 : w * u <= w * 1000000 := mul_le_mul_left _ c.ub
 have h2 : v * k <= v * 1000000 := mul_le_mul_left _ c.kb
 omega
theorem Zl.up (c : Ct ts u k) {a : List Rat} {x : Et ts} {w v m : Nat} (h : Zl ts u k a x w v) (hm : w + v <= m) : Nm ts.length (m * 1000000) a := h.nm.mono (bc7 c hm)
theorem Ct.kk (c : Ct ts u k) {R : Nat} (h : eB R ts.length <= k) : kB R ts.length <= 1000000 := le_trans h c.kb
def dotE (x y z t : Et ts) : Et ts := x * z + y * t
def crsE (x y z t : Et ts) : Et ts := x * t - y * z
instance Zu.dotE [c : Ct ts u k] {x y z t : Et ts} {w1 v1 w2 v2 w3 v3 w4 v4 : Nat} [Zu u k x w1 v1] [Zu u k y w2 v2] [Zu u k z w3 v3] [Zu u k t w4 v4] : Zu u k (dotE x y z t) (w1 + w3 + (w2 + w4)) (v1 + v3 + 1 + (v2 + v4 + 1) + 1) :=
  (inferInstance : Zu u k (x * z + y * t) _ _)
instance Zu.crsE [c : Ct ts u k] {x y z t : Et ts} {w1 v1 w2 v2 w3 v3 w4 v4 : Nat} [Zu u k x w1 v1] [Zu u k y w2 v2] [Zu u k z w3 v3] [Zu u k t w4 v4] : Zu u k (crsE x y z t) (w1 + w4 + (w2 + w3)) (v1 + v4 + 1 + (v2 + v3 + 1) + 1) :=
  (inferInstance : Zu u k (x * t - y * z) _ _)
end
end Go.Lw
namespace Go.Lw
structure Vr where
  w : List Rt
  x : List Rt
  y : List Rt
instance : Inhabited Vr := ⟨⟨[],[],[]⟩⟩
def Vr.av (v : Vr) : AV := .agg [nR v.w,nR v.x,nR v.y]
def Vr.l (v : Vr) : List (List Rt) := [v.w,v.x,v.y]
end Go.Lw
namespace Go.Lw
open Go.Proofs
theorem alk (m : List Nat) (hm : Ws m) (hl : m.length <= lim) : FnC prog 314 [ws m] (bl (!decide (m = []) && (⟨false, m⟩ : Wh).valid)) := by
 refine gF0 func314 ?_
 refine gl ?_
 refine glG ?_
 refine gaG (fun h => (aef (by simp [aab] at h; omega) (by unfold lim at hl; unfold ab9; exact le_trans hl (by omega)))) ?_
 refine giG (fun h => (afc (i := m.length - 1) (by simp [aab] at h; omega))) ?_
 refine gE1 ?_
 by_cases h : m = []
 ·subst h; rfl
 ·have h1 : 0 < m.length := List.length_pos_iff.2 h
  have h2 : aab .gtr (m.length : Int) 0 = true:=by simp [aab,h1]
  simp only [bl,h,decide_false,Bool.not_false,Bool.true_and,Wh.valid,List.getLast?_eq_getElem?,acw (show m.length - 1 < m.length by omega),aab]
  congr 2
  generalize aaa m _ = x
  rw [Bool.eq_iff_iff]; simp [h1]
theorem al1 : FnC prog 222 [] (zA 1) := by
 refine gF0 func222 ?_
 refine gc (au2 1 (by omega)) ?_
 refine gE1 ?_
 first | rfl | (simp; done)
theorem alf (r : Rt) (h : r.ok) : FnC prog 212 [r.av] (bl r.valid) := by
 have hr := h
 have hn := h.n0
 have hd := h.d0
 have hl1 : r.num.length <= 137438953472 := h.2.2.1
 have hl2 : r.den.length <= 137438953472 := h.2.2.2
 refine gF0 func212 ?_
 refine gl ?_
 refine glG ?_
 refine gC (fun ht12 => ?_) (fun ht12 => ?_)
 ·have h0 : r.num = [] /\ r.den = [] := by simpa [aab] using ht12
  refine gE1 ?_
  unfold Rt.valid; rw [if_pos h0]; rfl
 ·have h0 : ¬ (r.num = [] /\ r.den = []) := by
   have := ht12
   simp [aab] at this
   exact fun h => this h.1 h.2
  refine gc (alk r.num hr.1 hr.2.2.1) ?_
  refine gcG (fun _ => (alk r.den hr.2.1 hr.2.2.2)) ?_
  refine gcG (fun _ => (ard r.n0 r.d0 hn hd (by show r.num.length + r.den.length < _; unfold big; omega))) ?_
  refine gcG (fun _ => al1) ?_
  refine gcG (fun _ => (bai (Rt.gcd_zs hr) zs1)) ?_
  refine gE1 ?_
  exact congrArg bl (aya h0).symm
theorem adp (r : Rt) (h : r.ok) : FnC prog 132 [r.av] (.tup [zA r.q.num, zA r.q.den]) := by
 have hl1 : r.num.length <= 137438953472 := h.2.2.1
 have hl2 : r.den.length <= 137438953472 := h.2.2.2
 refine gF0 func132 ?_
 refine gc (alf r h) ?_
 refine glG ?_
 refine gC (fun ht12 => ?_) (fun ht12 => ?_)
 ·have h0 : ¬ (r.valid = true /\ r.num ≠ []) := by
   have := ht12
   intro h'
   simp [aab,h'.1,h'.2] at this
  refine gc al1 ?_
  refine gR ?_
  exact af1 (by rw [Rt.zero h0]; exact Sub.tup (.cons a4u (.cons (.refl _) .nil)))
 ·have h0 : r.valid = true /\ r.num ≠ [] := by
   have := ht12
   cases hv : r.valid
   ·rw [hv] at this; cases this
   ·rw [hv] at this; exact ⟨rfl,by simpa [aab] using this⟩
  obtain ⟨e1,e2,e3,e4,e5,e6⟩ := Rt.parts h h0.1 h0.2
  refine gD ?_
  refine gE2 ?_
  rw [e1,e2]; exact avi e3 e4 e5
theorem ahb {n d : Int} (hn : Zs n) (hd : Zs d) (h0 : d ≠ 0) : FnC prog 133 [zA n, zA d] (qA (Rat.divInt n d)) := by
 refine gF0 func133 ?_
 refine gc (asp hn) ?_
 refine gC (fun ht14 => ?_) (fun ht14 => ?_)
 ·have e0 : n = 0 := Int.sign_eq_zero_iff_zero.1 (by simpa [aab] using ht14)
  refine gR ?_
  exact adj (by rw [e0,Rat.zero_divInt]; exact apr)
 ·have e0 : n ≠ 0 := fun h => by rw [h] at ht14; cases ht14
  refine gc (asp hd) ?_
  refine gJ2 [2,3,4] [4] (fun (n1 d1 : Int) => []) (fun n1 d1 => [(2,some (.box (zA n1).cells)),(3,some (.box (zA d1).cells))]) (fun n1 d1 => 0 < d1 /\ n1 ≠ 0 /\ Zs n1 /\ Zs d1 /\ Rat.divInt n1 d1 = Rat.divInt n d) ?_ ?_
  ·intro K1 hK1
   refine gC (fun ht18 => ?_) (fun ht18 => ?_)
   ·have e1 : d < 0 := Int.sign_eq_neg_one_iff_neg.1 (by have := Int.sign_trichotomy d; have h9 : d.sign < 0 := (by simpa [aab] using ht18); omega)
    refine gc (ay5 hn) ?_
    refine gc (ay5 hd) ?_
    refine gD ?_
    exact jK2 hK1 (-n) (-d) ⟨by omega,by omega,hn.neg,hd.neg,alt n d⟩
   ·have e1 : 0 < d := by
     have h9 : 0 <= d.sign:=by simpa [aab] using ht18
     have := Int.sign_nonneg_iff.1 h9
     omega
    exact jK2 hK1 n d ⟨e1,e0,hn,hd,rfl⟩
  ·rintro n1 d1 ⟨f1, f2, f3, f4, f5⟩
   have g2 : Zs (Int.gcd n1 d1 : Int) := f3.of_le (by rw [natAbs_natCast]; exact Nat.le_of_dvd (by omega) (Int.gcd_dvd_natAbs_left _ _))
   have g3 : (Int.gcd n1 d1 : Int) ≠ 0:=by have := Int.gcd_pos_of_ne_zero_left d1 f2; omega
   refine gc (a9l f3 f4) ?_
   refine gc (a4h f3 g2 g3) ?_
   refine gc (a4h f4 g2 g3) ?_
   refine gE1 ?_
   rw [<- f5,<- a17 f1 f2]; rfl
theorem a2v (n : Int) (h : -9223372036854775808 <= n /\ n <= 9223372036854775807) : FnC prog 120 [i64 n] (qA n) := by
 have hz : Zs n := ⟨2,by omega,by unfold Lz; simp only [Nat.reducePow]; omega⟩
 refine gF0 func120 ?_
 refine gc (au2 n h) ?_
 refine gc al1 ?_
 refine gc (ahb hz zs1 (by omega)) ?_
 refine gE1 ?_
 exact congrArg qA (Rat.num_divInt_den (n : Rat))
theorem a02 (a : Rt) (ha : a.ok) : FnC prog 116 [a.av] (qA (-a.q)) := by
 have za := ha.qs
 refine gF0 func116 ?_
 refine gc (adp a ha) ?_
 refine gc (ay5 za.num) ?_
 refine gc (ahb za.num.neg za.den (by have := a.q.den_nz; omega)) ?_
 refine gD ?_
 refine gE1 ?_
 rw [a0q]; rfl
theorem anv (a : Rt) (ha : a.ok) : FnC prog 213 [a.av] (i64 (ajn a.q)) := by
 refine gF0 func213 ?_
 refine gc (adp a ha) ?_
 refine gc (asp ha.qs.num) ?_
 refine gE1 ?_
 rw [aul]
theorem arx (a b : Rt) (ha : a.ok) (hb : b.ok) : FnC prog 49 [a.av, b.av] (qA (a.q + b.q)) := by
 have za := ha.qs
 have zb := hb.qs
 have m1 := za.mul zb
 have m2 := zb.mul za
 refine gF0 func49 ?_
 refine gc (adp a ha) ?_
 refine gc (adp b hb) ?_
 refine gc (aq5 za.num zb.den) ?_
 refine gc (aq5 zb.num za.den) ?_
 refine gc (a9u m1.1 m2.1) ?_
 refine gc (aq5 za.den zb.den) ?_
 refine gc (ahb (za.cross zb) m1.2.2.1 (Int.mul_ne_zero (by have := a.q.den_nz; omega) (by have := b.q.den_nz; omega))) ?_
 refine gD ?_
 refine gE1 ?_
 rw [as9]; rfl
theorem azm (a b : Rt) (ha : a.ok) (hb : b.ok) : FnC prog 369 [a.av, b.av] (qA (a.q * b.q)) := by
 have za := ha.qs
 have zb := hb.qs
 have m1 := za.mul zb
 refine gF0 func369 ?_
 refine gc (adp a ha) ?_
 refine gc (adp b hb) ?_
 refine gc (aq5 za.num zb.num) ?_
 refine gc (aq5 za.den zb.den) ?_
 refine gc (ahb m1.2.1 m1.2.2.1 (Int.mul_ne_zero (by have := a.q.den_nz; omega) (by have := b.q.den_nz; omega))) ?_
 refine gD ?_
 refine gE1 ?_
 rw [as5]; rfl
end Go.Lw
namespace Go.Lw
open Go.Proofs
theorem adk {α : Type} (f : α -> AV) (l : List α) (hl : l.length <= 281474976710656) : FnC prog 350 [.lst 3 (l.map f)] (i64 (lvl l.length)) := by
 refine gF0 func350 ?_
 refine gL1 [0] [] (fun (k : Nat) => [(3,some (i64 k))]) (fun _ => []) (fun k => k <= 48 /\ ∀ j,j < k -> 2 ^ j < l.length) (fun k => 48 - k) 0 ⟨by omega,fun j h => by omega⟩ ?_
 rintro k ⟨hk,hj⟩ K1 hK1
 refine gs (afg (.const _) (.tmp rfl) (by omega) (aix (by omega)) rfl) ?_
 refine gl ?_
 refine gC (fun ht8 => ?_) (fun ht8 => ?_)
 ·have h1 : 2 ^ k < l.length := by have := ht8; simp only [aab, decide_eq_true_eq] at this; omega
  have h2 : k < 48 := by
   rcases lt_or_ge k 48 with h | h
   ·exact h
   ·have : 2 ^ 48 <= 2 ^ k := abk h
    have : (2 : Nat) ^ 48 = 281474976710656:=by decide
    omega
  refine ga (aax (by omega)) ?_
  exact gK1 hK1 (k + 1) ⟨by omega,fun j h => by rcases lt_or_ge j k with h3 | h3; exact hj j h3; (have : j = k:=by omega); subst this; exact h1⟩
 ·have h1 : l.length <= 2 ^ k := by have := ht8; simp only [aab, decide_eq_false_iff_not] at this; omega
  have h2 := axb hj h1
  refine gs (afg (.const _) (.tmp rfl) (by omega) (aix (by omega)) rfl) ?_
  refine gl ?_
  refine gC (fun ht15 => ?_) (fun ht15 => ?_)
  ·have h3 : 2 ^ k ≠ l.length := by have := ht15; simp only [aab, bne_iff_ne, ne_eq] at this; omega
   refine gE1 ?_
   unfold lvl; rw [h2,if_neg h3]; rfl
  ·have h3 : 2 ^ k = l.length := by have := ht15; simp only [aab, bne_eq_false_iff_eq] at this; omega
   refine gE1 ?_
   unfold lvl; rw [h2,if_pos h3]
theorem ahs (ts : List (List Rt)) (a : List Rt) (ha : ∀ r ∈ a, r.ok) (hl : a.length <= 281474976710656) (ht : ts.length <= 281474976710656) : FnC prog 262 [am1 ts, nR a] (ahg (ahk ts.length a)) := by
 refine gF0 func262 ?_
 refine gl ?_
 refine gJ0 [1,4] [] [] [] (¬ (a ≠ [] /\ (lvl a.length < 0 \/ (ts.length : Int) < lvl a.length))) ?_ ?_
 ·intro K1 hK1
  refine gC (fun ht10 => ?_) (fun ht10 => ?_)
  ·have h0 : a ≠ [] := fun h => by rw [h] at ht10; simp [aab] at ht10
   refine gc (adk Rt.av a hl) ?_
   refine glG ?_
   refine gC (fun ht21 => ?_) (fun ht21 => ?_)
   ·have h1 : lvl a.length < 0 \/ (ts.length : Int) < lvl a.length := by
     have h9 := ht21
     by_cases h : lvl a.length < 0
     ·exact .inl h
     ·simp only [aab,decide_eq_false h,cond_false,decide_eq_true_eq] at h9; exact .inr h9
    refine gE1 ?_
    unfold ahk; rw [if_pos ⟨h0,h1⟩]; rfl
   ·have h1 : ¬ (lvl a.length < 0 \/ (ts.length : Int) < lvl a.length) := by
     have h9 := ht21
     by_cases h : lvl a.length < 0
     ·simp only [aab,decide_eq_true h,cond_true] at h9; cases h9
     ·simp only [aab, decide_eq_false h, cond_false, decide_eq_false_iff_not] at h9
      exact fun h' => h'.elim h h9
    exact jK0 hK1 (fun h => h1 h.2)
  ·have h0 : a = [] := by
    cases a with
    | nil => rfl
    | cons c l => simp [aab] at ht10
   exact jK0 hK1 (fun h => h.1 h0)
 ·rintro hn
  refine gl ?_
  refine gL1 [23,24] [] (fun (i : Nat) => [(25,some (i64 i))]) (fun _ => []) (fun i => i <= a.length /\ (a.take i).all Rt.valid = true) (fun i => a.length - i) 0 ⟨zero_le _,by simp⟩ ?_
  rintro i ⟨hi,hv⟩ K2 hK2
  refine gC (fun ht26 => ?_) (fun ht26 => ?_)
  ·have hin : i < a.length := by simpa [aab] using ht26
   obtain ⟨r,hr⟩ := aeg hin
   have hrok := ha r (mem_of_getElem? hr)
   refine gi (aaq hr) ?_
   refine gc (ach r hrok) ?_
   refine gC (fun ht31 => ?_) (fun ht31 => ?_)
   ·have hrv : r.valid = false := by simpa using ht31
    refine gE1 ?_
    unfold ahk
    rw [if_neg hn,if_neg]
    ·rfl
    ·rw [all_eq_true]
     intro h
     rw [h r (mem_of_getElem? hr)] at hrv; cases hrv
   ·have hrv : r.valid = true := by simpa using ht31
    refine ga abn ?_
    exact gK1 hK2 (i + 1) ⟨by omega,by rw [aa4 hr,all_append,hv]; simp [hrv]⟩
  ·have hin : i = a.length := by have : a.length <= i := (by simpa [aab] using ht26); omega
   subst hin
   rw [take_length] at hv
   refine gE1 ?_
   unfold ahk; rw [if_neg hn,if_pos hv]; rfl
theorem aj3 (a : List Rat) (ha : ∀ q ∈ a, Qs q) (hl : a.length <= 281474976710656) : FnC prog 367 [nA a] (bl (abc a)) := by
 refine gF0 func367 ?_
 refine gl ?_
 refine gL1 [5,6] [] (fun (i : Nat) => [(7,some (i64 i))]) (fun _ => []) (fun i => i <= a.length /\ abc (a.take i) = true) (fun i => a.length - i) 0 ⟨zero_le _,by simp [abc]⟩ ?_
 rintro i ⟨hi,hv⟩ K1 hK1
 refine gC (fun ht8 => ?_) (fun ht8 => ?_)
 ·have hin : i < a.length := by simpa [aab] using ht8
  obtain ⟨q,hq⟩ := aeg hin
  have hqs := ha q (mem_of_getElem? hq)
  refine gi (aaq hq) ?_
  refine gc (ael (rt q) hqs.ok) ?_
  refine gC (fun ht13 => ?_) (fun ht13 => ?_)
  ·have h0 : q ≠ 0 := by
    intro h
    have h9 := ht13
    rw [ahi,h] at h9
    cases h9
   refine gE1 ?_
   have : abc a = false := by
    rw [Bool.eq_false_iff]
    intro h
    exact h0 (by simpa using List.all_eq_true.1 h q (mem_of_getElem? hq))
   rw [this]; rfl
  ·have h0 : q = 0 := by
    have h9 : ajn q = 0:=by have := ht13; rw [ahi] at this; simpa [aab] using this
    exact aiw h9
   refine ga abn ?_
   exact gK1 hK1 (i + 1) ⟨by omega,by rw [aa4 hq]; simp only [abc,all_append,and_eq_true]; exact ⟨hv,by simp [h0]⟩⟩
 ·have hin : i = a.length := by have : a.length <= i := (by simpa [aab] using ht8); omega
  subst hin
  rw [take_length] at hv
  refine gE1 ?_
  rw [hv]; rfl
theorem ai7 (a : List Rat) (hl : a.length <= 281474976710656) : FnC prog 364 [nA a] (bl (abc a)) := by
 refine gF0 func364 ?_
 refine gl ?_
 refine gL1 [5,6] [] (fun (i : Nat) => [(7,some (i64 i))]) (fun _ => []) (fun i => i <= a.length /\ abc (a.take i) = true) (fun i => a.length - i) 0 ⟨zero_le _,by simp [abc]⟩ ?_
 rintro i ⟨hi,hv⟩ K1 hK1
 refine gC (fun ht8 => ?_) (fun ht8 => ?_)
 ·have hin : i < a.length := by simpa [aab] using ht8
  obtain ⟨q,hq⟩ := aeg hin
  refine gi (aaq hq) ?_
  refine glG ?_
  refine glG ?_
  refine gC (fun ht24 => ?_) (fun ht24 => ?_)
  ·have h0 : q ≠ 0 := avl ht24
   refine gE1 ?_
   have : abc a = false := by
    rw [Bool.eq_false_iff]
    intro h
    exact h0 (by simpa using List.all_eq_true.1 h q (mem_of_getElem? hq))
   rw [this]; rfl
  ·have h0 : q = 0 := aru ht24
   refine ga abn ?_
   exact gK1 hK1 (i + 1) ⟨by omega,by rw [aa4 hq]; simp only [abc,all_append,and_eq_true]; exact ⟨hv,by simp [h0]⟩⟩
 ·have hin : i = a.length := by have : a.length <= i := (by simpa [aab] using ht8); omega
  subst hin
  rw [take_length] at hv
  refine gE1 ?_
  rw [hv]; rfl
theorem ana (a : List Rat) (ha : ∀ q ∈ a, Qs q) (hl : a.length <= 1099511627776) : FnC prog 345 [nA a] (nA a) := by
 refine gF0 func345 ?_
 refine gl ?_
 refine gW (Wk.virt 900 3 rfl) ?_
 refine gL1 [6,7] [] (fun (i : Nat) => [(3,some (.ms 900 3 0 i)),(8,some (i64 i))]) (fun i => [(900,some (.row 3 ((a.take i).map qA)))]) (fun i => i <= a.length) (fun i => a.length - i) 0 (zero_le _) ?_
 rintro i hi K1 hK1
 refine gC (fun ht9 => ?_) (fun ht9 => ?_) (st2 := (7,0))
 ·have hin : i < a.length := by simpa [aab] using ht9
  obtain ⟨q,hq⟩ := aeg hin
  have hqs := (ha q (mem_of_getElem? hq)).ok
  have hl1 : (rt q).num.length <= 137438953472 := hqs.2.2.1
  have hl2 : (rt q).den.length <= 137438953472 := hqs.2.2.2
  refine gi (aaq hq) ?_
  refine gs (ack T80 rfl T271 rfl rfl rfl) ?_
  refine gs (afl (.tmp rfl) rfl rfl (.tmp rfl) T80 rfl T271 rfl rfl (by simp only [length_map]; omega) rfl rfl) ?_
  refine gs (ack T80 rfl T271 rfl rfl rfl) ?_
  refine gs (afl (.tmp rfl) rfl rfl (.tmp rfl) T80 rfl T271 rfl rfl (by simp only [length_map]; omega) rfl rfl) ?_
  refine gs (ab5 (.tmp rfl) rfl (by simp; omega) (.tmp rfl) T38 rfl T82 rfl rfl (by simp; omega) rfl rfl) ?_
  refine gD ?_ (6,0)
  refine gW (Wk.of (sl := [(3,some (.ms 25 3 0 (i + 1))),(6,some (nA a)),(7,some (i64 a.length)),(8,some (i64 i))]) (hp := [(25,some (.row 3 ((a.take (i + 1)).map qA)))]) abv (.cons rfl (BlkSub.of (by rw [aa4 hq,map_append]; rfl)) .nil)) ?_ (6,0)
  refine gW (Wk.rekey (k := 25) (d := 900) rfl rfl) ?_
  refine ga abn ?_
  exact gK1 hK1 (i + 1) hin
 ·have hin : i = a.length := by have : a.length <= i := (by simpa [aab] using ht9); omega
  subst hin
  refine gW ((Wk.freeze (k := 900) rfl).trans <| Wk.of (sl := [(3,some (nA a))]) (hp := []) (.cons rfl (Sub.of (by rw [ace (by simp),take_length]; rfl)) .nil) .nil) ?_
  refine gE1 ?_
  rfl
end Go.Lw
namespace Go.Lw
open Go.Proofs
theorem acx {n : Nat} (a : List Rat) (hn : n <= 5) (ha : Nl n a) (hs : ∀ q ∈ a, Qs q) : FnC prog 268 [nA a] (nA (sh n (dec n a))) := by
 have hl := ha.len5 hn
 rw [<- agv ha hn]
 refine gF0 func268 ?_
 refine gc (adk qA a (by omega)) ?_
 refine gl ?_
 refine gC (fun ht17 => ?_) (fun ht17 => ?_) (st1 := (3,0))
 ·exact absurd ht17 (by rcases ha with rfl | ⟨j,hj,h⟩; (simp [aab]); (rw [h,ajm]; simp [aab]; omega))
 ·refine gl ?_
  refine gL1 [0] [] (fun (m : Nat) => [(4,some (i64 m))]) (fun _ => []) (fun m => a11 a m) (fun m => m) a.length (ay9 (ha.mono hn)) ?_
  rintro m hm K1 hK1
  refine gs (ab6 rfl rfl rfl (fun h => ac6 (.opt rfl (o1 h)) (.const _) (by omega) (aby (by have := hm.le; omega)) rfl)) ?_
  refine gs (ab6 rfl rfl rfl (fun h => aaj (.opt rfl (o1 h)) (.some _ (.opt rfl (o1 h)) (by omega)) (.some _ (.opt rfl (o1 h)) (by omega)) T38 rfl T82 rfl (by omega) (by have := hm.le; simp; omega) rfl)) ?_
  refine gcG (fun _ => (by have h9 := ai7 ((a.drop (m / 2)).take (m - m / 2)) (by simp; omega); rw [<- ark] at h9; exact h9)) ?_
  refine gC (fun ht31 => ?_) (fun ht31 => ?_)
  ·have h1 : 1 < m /\ abc ((a.drop (m / 2)).take (m - m / 2)) = true := by
    have h9 := ht31
    by_cases h : (m : Int) > 1
    ·simp only [aab,decide_eq_true h,cond_true] at h9; exact ⟨by omega,h9⟩
    ·simp only [aab,decide_eq_false h,cond_false] at h9; cases h9
   refine gs (ac6 (.tmp rfl) (.const _) (by omega) (aby (by have := hm.le; omega)) rfl) ?_
   exact gK1 hK1 (m / 2) (ax4 hm h1.1 h1.2)
  ·have h1 : 1 < m -> abc ((a.drop (m / 2)).take (m - m / 2)) = false := by
    intro h
    have h9 := ht31
    simp only [aab,decide_eq_true (show (m : Int) > 1 by omega),cond_true] at h9
    exact h9
   refine gs (ab6 rfl rfl rfl (fun h => aaj (.opt rfl (o1 h)) (.none _) (.some _ (.const _) (by omega)) T38 rfl T82 rfl (by omega) (by have h8 : (m : Int) = 1 := (by simpa [aab] using h); have := hm.le; simp only [length_map]; omega) rfl)) ?_
   refine gcG (fun _ => (by have h9 := ai7 ((a.drop 0).take 1) (by simp; omega); rw [<- ark] at h9; exact h9)) ?_
   refine gC (fun ht40 => ?_) (fun ht40 => ?_)
   ·have h2 : m = 1 /\ abc (a.take 1) = true := by
     have h9 := ht40
     by_cases h : m = 1
     ·rw [h] at h9; exact ⟨h,h9⟩
     ·rw [show aab .eql (m : Int) 1 = false by simp [aab]; omega] at h9; cases h9
    obtain ⟨rfl,h3⟩ := h2
    refine gR ?_
    exact adj (by rw [axi hm h3]; exact Sub.nil _ _ _)
   ·have h2 : m = 1 -> abc (a.take 1) = false := by
     intro h
     have h9 := ht40
     rw [h] at h9; exact h9
    have h3 := aze hm h1 h2
    refine gs (aaj (.tmp rfl) (.none _) (.some _ (.tmp rfl) (by omega)) T38 rfl T82 rfl (by omega) (by have := hm.le; simp; omega) rfl) ?_
    refine gc (by have h9 := ana ((a.drop 0).take m) (fun q hq => hs q (List.mem_of_mem_drop (List.mem_of_mem_take hq))) (by simp; omega); have h8 := h9; rw [<- ark] at h9; exact h9) ?_
    refine gE1 ?_
    rw [h3]
    simp [nA,map_take]
theorem af8 (d : Nat) (hd : Nat.blt d 1000 = true) (a : List Rat) (n : Nat) (hl : a.length <= n) (hn : n <= 1099511627776) :
  Con prog 366 [nA a,i64 n] [] (.ms d 3 0 n) [(d,some (.row 3 ((aap a n).map qA)))] := by
 refine gF func366 (fun k z h => by cases h) ?_
 refine gs (afj (.tmp rfl) T38 rfl T82 rfl rfl (by omega) (by dsimp only; omega) rfl) ?_
 refine gs (a97 (.tmp rfl) rfl (by simp) (.tmp rfl) T38 rfl T82 rfl rfl (by simp; omega) rfl) ?_ (3,0)
 refine gW (Wk.of (sl := [(5,some (.ms 7 3 0 n))]) (hp := [(7,some (.row 3 ((aap a n).map qA)))]) (.cons rfl (Sub.of (by simp)) .nil) (.cons rfl (avf a n hl) .nil)) ?_
 refine gR ?_
 exact Fin.own1 rfl hd rfl
theorem akf (a : List Rat) (n : Nat) (hl : a.length <= n) (hn : n <= 1099511627776) : FnC prog 366 [nA a, i64 n] (nA (aap a n)) := by
 have h := Con.freeze (by rw [length_map,aa6 hl]; omega) (af8 0 rfl a n hl hn)
 rw [drop_zero,take_of_length_le (by rw [length_map,aa6 hl]; exact le_refl _)] at h
 exact h
theorem adc (a b : List Rat) (ha : ∀ q ∈ a, Qs q) (hb : ∀ q ∈ b, Qs q) (la : a.length <= 1099511627776) (lb : b.length <= 1099511627776) : FnC prog 285 [nA a, nA b] (nA (acf a b)) := by
 obtain ⟨n,hn⟩ : ∃ n,n = max a.length b.length := ⟨_,rfl⟩
 have hwa := aa6 (show a.length <= n by omega)
 have hwb := aa6 (show b.length <= n by omega)
 have hp := abb (a := a) (b := b)
 rw [<- hn] at hp
 have qa : ∀ q ∈ aap a n,Qs q := fun q hq => by rcases List.mem_append.1 hq with h | h; exact ha q h; (rw [(List.mem_replicate.1 h).2]; exact Qs.zero)
 have qb : ∀ q ∈ aap b n,Qs q := fun q hq => by rcases List.mem_append.1 hq with h | h; exact hb q h; (rw [(List.mem_replicate.1 h).2]; exact Qs.zero)
 refine gF0 func285 ?_
 refine gl ?_
 refine gl ?_
 refine gs (avv (.tmp rfl) (.tmp rfl) rfl) ?_ (2,0)
 refine gW (Wk.of (sl := [(0,some (nA a)),(1,some (nA b)),(5,some (i64 n))]) (hp := []) (.cons rfl (.refl _) (.cons rfl (.refl _) (.cons rfl (Sub.int (by omega)) .nil))) .nil) ?_
 refine go ?_
 refine gt (abe (af8 900 rfl a n (by omega) (by omega)) (.cons (.tmp rfl) (.cons (.tmp rfl) .nil)) (by first | exact hH0 | exact hH1 rfl | exact hH2 rfl rfl) rfl rfl) ?_
 refine gc (akf b n (by omega) (by omega)) ?_
 refine gL1 [1,19] [] (fun (i : Nat) => [(0,some (.ms 900 3 0 n)),(20,some (i64 i))]) (fun i => [(900,some (.row 3 (((acf a b).take i ++ (aap a n).drop i).map qA)))]) (fun i => i <= n) (fun i => n - i) 0 (zero_le _) ?_
 rintro i hi K1 hK1
 refine gC (fun ht21 => ?_) (fun ht21 => ?_) (st2 := (8,0))
 ·have hin : i < n := by simpa [aab] using ht21
  have hmx := ass (p := acf a b) (w := aap a n) (i := i) (by omega) (by omega)
  have hqa := (qa _ (aif (i := i) (by omega))).ok
  have hqb := (qb _ (aif (i := i) (by omega))).ok
  refine gs (aam (n := i) (.tmp rfl) (.tmp rfl) T38 rfl T82 rfl (by omega) (by omega) rfl) ?_
  refine gs (aar (.tmp rfl) rfl (aaq hmx) T82 rfl rfl rfl) ?_
  refine gi (aaq (getD_some (i := i) (l := aap b n) (by omega))) ?_
  refine gc (ad5 (rt ((aap a n).getD i 0)) (rt ((aap b n).getD i 0)) hqa hqb) ?_
  refine gs (aam (n := i) (.tmp rfl) (.tmp rfl) T38 rfl T82 rfl (by omega) (by omega) rfl) ?_
  refine gs (abj (.tmp rfl) rfl (aaq hmx) rfl (.tmp rfl) rfl rfl T82 rfl rfl) ?_
  refine gD ?_ (7,0)
  refine gW (Wk.of (sl := [(0,some (.ms 900 3 0 n)),(1,some (nA (aap b n))),(19,some (i64 n)),(20,some (i64 i))]) (hp := [(900,some (.row 3 (((acf a b).take (i + 1) ++ (aap a n).drop (i + 1)).map qA)))]) abv (.cons rfl (BlkSub.of (by rw [an3 (by omega) (by omega) (by rw [avb,<- hn,ahi,ahi])])) .nil)) ?_
  refine ga abn ?_
  exact gK1 hK1 (i + 1) hin
 ·have hin : i = n := by have : n <= i := (by simpa [aab] using ht21); omega
  refine gW ((Wk.freeze (k := 900) rfl).trans <| Wk.of (sl := [(0,some (nA (acf a b)))]) (hp := []) (.cons rfl (Sub.of (by rw [ace (by simp; omega),hin,List.drop_of_length_le (by omega),take_of_length_le (by omega),List.append_nil]; rfl)) .nil) .nil) ?_
  refine gE1 ?_
  rfl
theorem aed (a : List Rat) (ha : ∀ q ∈ a, Qs q) (la : a.length <= 1099511627776) : FnC prog 269 [nA a] (nA (abz a)) := by
 obtain ⟨n,hn⟩ : ∃ n,n = a.length := ⟨_,rfl⟩
 refine gF0 func269 ?_
 refine gl ?_
 refine gs (afj (.tmp rfl) T38 rfl T82 rfl rfl (by omega) (by dsimp only; omega) rfl) ?_ (2,0)
 refine gW (Wk.of (sl := [(0,some (nA a)),(3,some (.ms 7 3 0 n))]) (hp := [(7,some (.row 3 ((aap [] n).map qA)))]) (.k (.cons rfl (Sub.of (by simp [hn])) .nil)) (.cons rfl (BlkSub.of_ (avf [] n (by simp)) (by rw [hn]; rfl)) .nil)) ?_
 refine gl ?_
 refine gL1 [0] [] (fun (i : Nat) => [(3,some (.ms 7 3 0 n)),(9,some (i64 n)),(10,some (i64 i))]) (fun i => [(7,some (.row 3 (((abz a).take i ++ (aap [] n).drop i).map qA)))]) (fun i => i <= n) (fun i => n - i) 0 (zero_le _) ?_ (h1 := (.k (.cons rfl (Sub.int (by omega)) (.k .nil))))
 rintro i hi K1 hK1
 refine gC (fun ht11 => ?_) (fun ht11 => ?_) (st2 := (7,0))
 ·have hin : i < n := by simpa [aab] using ht11
  have hm1 := aci (a := a)
  have hm2 := aa6 (a := []) (n := n) (by simp)
  have hmx := ass (p := abz a) (w := aap [] n) (i := i) (by omega) (by omega)
  have hqa := (ha _ (aif (i := i) (by omega))).ok
  refine gi (aaq (getD_some (i := i) (by omega))) ?_
  refine gc (ae9 (rt (a.getD i 0)) hqa) ?_
  refine gs (aam (n := i) (.tmp rfl) (.tmp rfl) T38 rfl T82 rfl (by omega) (by omega) rfl) ?_
  refine gs (abj (.tmp rfl) rfl (aaq hmx) rfl (.tmp rfl) rfl rfl T82 rfl rfl) ?_ (6,0)
  refine gW (Wk.of (sl := [(0,some (nA a)),(3,some (.ms 7 3 0 n)),(9,some (i64 n)),(10,some (i64 i))]) (hp := [(7,some (.row 3 (((abz a).take (i + 1) ++ (aap [] n).drop (i + 1)).map qA)))]) abv (.cons rfl (BlkSub.of (by rw [an3 (by omega) (by omega) (by rw [axm,ahi])])) .nil)) ?_
  refine ga abn ?_
  exact gK1 hK1 (i + 1) hin
 ·have hin : i = n := by have : n <= i := (by simpa [aab] using ht11); omega
  have hm1 := aci (a := a)
  have hm2 := aa6 (a := []) (n := n) (by simp)
  refine gW ((Wk.freeze (k := 7) rfl).trans <| Wk.of (sl := [(3,some (nA (abz a)))]) (hp := []) (.cons rfl (Sub.of (by rw [ace (by simp; omega),hin,List.drop_of_length_le (by omega),take_of_length_le (by omega),List.append_nil]; rfl)) .nil) .nil) ?_
  refine gE1 ?_
  rfl
theorem aj8 (a b : List Rat) (n : Nat) (la : a.length <= n) (lb : b.length <= n) (hn : n <= 274877906944) : FnC prog 368 [nA a, nA b, i64 n] (nA (agh a b n)) := by
 refine gF0 func368 ?_
 refine gt (abe (af8 900 rfl a n la (by omega)) (.cons (.tmp rfl) (.cons (.tmp rfl) .nil)) (by first | exact hH0 | exact hH1 rfl | exact hH2 rfl rfl) rfl rfl) ?_
 refine gc (akf b n lb (by omega)) ?_
 refine gs (afl (.tmp rfl) rfl (by simp [aa6 la]) (.tmp rfl) T38 rfl T82 rfl rfl (by simp [aa6 lb]; omega) rfl rfl) ?_
 refine gE1 ?_
 rw [<- map_append]; rfl
end Go.Lw
namespace Go.Lw
open Go.Proofs
theorem aee (ts : List (List Rat)) (m r : Nat) (ht : aw5 ts m r) (hm : m <= 5) (hml : m <= ts.length) (k : Nat) : ∀ (j : Nat) (a b : List Rat) (e f : Nat), j <= m -> j <= k -> Nl j a -> Nl j b -> Cb e a -> Cb f b -> e + f + eB r j < 4398046511104 ->
  FnC prog 286 [am3 ts,nA a,nA b] (nA (pT ts k a b)) := by
 induction k using Nat.strongRecOn
 rename_i k ih
 intro j a b e f hj hjk ha hb ca cb hs
 have hla := ha.len5 (by omega)
 have hlb := hb.len5 (by omega)
 refine gF0 func286 ?_
 refine gl ?_
 refine gl ?_
 refine gJ4 [3] [3] (fun (x y : List Rat) (e1 f1 : Nat) => [(1,some (nA x)),(2,some (nA y))]) (fun _ _ _ _ => []) (fun x y e1 f1 => y.length <= x.length /\ Nl j x /\ Nl j y /\ Cb e1 x /\ Cb f1 y /\ e1 + f1 = e + f /\ pT ts k a b = pT ts k x y) ?_ ?_
 ·intro K1 hK1
  refine gC (fun ht18 => ?_) (fun ht18 => ?_)
  ·have h1 : a.length < b.length := by have := ht18; simp only [aab, decide_eq_true_eq] at this; omega
   exact jK4 hK1 b a f e ⟨by omega,hb,ha,cb,ca,by omega,arz ts k a b h1⟩
  ·have h1 : b.length <= a.length := by have := ht18; simp only [aab, decide_eq_false_iff_not] at this; omega
   exact jK4 hK1 a b e f ⟨h1,ha,hb,ca,cb,rfl,rfl⟩
 ·rintro x y e1 f1 ⟨hyx, hx, hy, cx, cy, hef, hp⟩
  have hlx := hx.len5 (by omega)
  have hly := hy.len5 (by omega)
  have qx : ∀ q ∈ x,Qs q := fun q hq => cx.qs (by omega) hq
  have qy : ∀ q ∈ y,Qs q := fun q hq => cy.qs (by omega) hq
  rw [hp]
  refine gc (aj3 x qx (by omega)) ?_
  refine gcG (fun _ => (aj3 y qy (by omega))) ?_
  refine gC (fun ht21 => ?_) (fun ht21 => ?_)
  ·have h1 : abc x = true \/ abc y = true := by
    have := ht21
    cases hz : abc x
    ·rw [hz] at this; exact .inr this
    ·exact .inl rfl
   refine gR ?_
   exact adj (by rw [a5i hyx h1]; exact Sub.nil _ _ _)
  ·have h1 : ¬ (abc x = true \/ abc y = true) := by
    have := ht21
    cases hz : abc x
    ·rw [hz] at this; intro h; rcases h with h | h; cases h; (rw [show abc y = false from this] at h; cases h)
    ·rw [hz] at this; cases this
   refine gl ?_
   refine gC (fun ht28 => ?_) (fun ht28 => ?_)
   ·have h2 : x.length = 1 := by have := ht28; simp only [aab, beq_iff_eq] at this; omega
    obtain ⟨p,rfl⟩ := List.length_eq_one_iff.1 h2
    have h3 : y ≠ [] := fun h => h1 (.inr (by rw [h]; rfl))
    obtain ⟨q,rfl⟩ : ∃ q,y = [q] := List.length_eq_one_iff.1 (by have := List.length_pos_iff.2 h3; simp at hyx; omega)
    refine gi rfl ?_
    refine gi rfl ?_
    refine gc (ahj (rt p) (rt q) (qx p (by simp)).ok (qy q (by simp)).ok) ?_
    refine gD ?_
    refine gE1 ?_
    rw [a8o h1,ahi,ahi]; rfl
   ·have h2 : x.length ≠ 1 := by have := ht28; simp only [aab, beq_eq_false_iff_ne, ne_eq] at this; omega
    have h3 : x ≠ [] := fun h => h1 (.inl (by rw [h]; rfl))
    obtain ⟨i, hij, hxl⟩ : ∃ i, i + 1 <= j /\ x.length = 2 ^ (i + 1) := by
     rcases ag9 hx with h | h | h
     ·exact absurd (List.length_eq_zero_iff.1 h) h3
     ·exact absurd h h2
     ·exact h
    obtain ⟨k',rfl⟩ : ∃ k',k = k' + 1 := ⟨k - 1,by omega⟩
    have hp2 := Nat.two_pow_pos i
    have hpi : 2 ^ i <= 32 := abk (b := 5) (by omega)
    have hps : 2 ^ (i + 1) = 2 * 2 ^ i:=by rw [Nat.pow_succ]; omega
    have hes : eB r (i + 1) <= eB r j := a4g r hij
    have hee : eB r (i + 1) = 2 * eB r i + r + 2 := rfl
    have n1 : Nl i (x.take (2 ^ i)) := .inr ⟨i,le_refl _,acq hxl⟩
    have n2 : Nl i (x.drop (2 ^ i)) := .inr ⟨i,le_refl _,ac4 hxl⟩
    refine gl ?_
    refine gs (ac6 (.tmp rfl) (.const _) (by omega) (show _ = ((2 ^ i : Nat) : Int) by rw [aby (by omega),hxl,abr]) rfl) ?_
    refine gs (aaj (.tmp rfl) (.none _) (.some _ (.tmp rfl) (by omega)) T38 rfl T82 rfl (by omega) (by simp only [length_map]; omega) rfl) ?_
    refine gs (aaj (.tmp rfl) (.some _ (.tmp rfl) (by omega)) (.none _) T38 rfl T82 rfl (by simp only [length_map]; omega) (by omega) rfl) ?_
    refine gD ?_ (9,0)
    refine gW (Wk.of (sl := [(1,some (nA x)),(2,some (nA y)),(3,some (.ptr 3 0)),(7,some (i64 ((2 ^ i : Nat) : Int))),(8,some (nA (x.take (2 ^ i)))),(9,some (nA (x.drop (2 ^ i))))]) (hp := [(3,some (.box [.lst 1 (ts.map nA)]))]) (.k (.k (.k (.k (.cons rfl (Sub.of (ags x (2 ^ i))) (.cons rfl (Sub.of (aez x (2 ^ i))) .nil)))))) (.cons rfl (.refl _) .nil)) ?_
    refine gl ?_
    refine gC (fun ht52 => ?_) (fun ht52 => ?_)
    ·have h4 : y.length <= 2 ^ i := by have := ht52; simp only [aab, decide_eq_true_eq] at this; omega
     have n3 : Nl i y := a0w hy h4
     have s1 := adb ts m ht.1 i k' _ _ (by omega) (by omega) n1 n3
     have s2 := adb ts m ht.1 i k' _ _ (by omega) (by omega) n2 n3
     refine gc (ih k' (by omega) i _ _ e1 f1 (by omega) (by omega) n1 n3 cx.take cy (by omega)) ?_
     refine gc (ih k' (by omega) i _ _ e1 f1 (by omega) (by omega) n2 n3 cx.drop cy (by omega)) ?_
     refine gc (aj8 _ _ (2 ^ i) s1.1.le s2.1.le (by omega)) ?_
     refine gD ?_
     refine gE1 ?_
     rw [a5v hxl h4 h1]
    ·have h4 : ¬ y.length <= 2 ^ i := by have := ht52; simp only [aab, decide_eq_false_iff_not] at this; omega
     have hyl := a7f hy h4 (by omega)
     have n3 : Nl i (y.take (2 ^ i)) := .inr ⟨i,le_refl _,acq hyl⟩
     have n4 : Nl i (y.drop (2 ^ i)) := .inr ⟨i,le_refl _,ac4 hyl⟩
     have nd := ht.1 i (by omega)
     have cd := ht.2.cb i
     have s1 := adb ts m ht.1 i k' _ _ (by omega) (by omega) n1 n3
     have s2 := adb ts m ht.1 i k' _ _ (by omega) (by omega) n2 n4
     have s3 := adb ts m ht.1 i k' _ _ (by omega) (by omega) s2.1 nd
     have s4 := adb ts m ht.1 i k' _ _ (by omega) (by omega) n1 n4
     have s5 := adb ts m ht.1 i k' _ _ (by omega) (by omega) n2 n3
     have c1 := Cb.mul ht (k := k') (show i <= m by omega) (by omega) n1 n3 cx.take cy.take
     have c2 := Cb.mul ht (k := k') (show i <= m by omega) (by omega) n2 n4 cx.drop cy.drop
     have c3 := Cb.mul ht (k := k') (show i <= m by omega) (by omega) s2.1 nd c2 cd
     have c4 := Cb.mul ht (k := k') (show i <= m by omega) (by omega) n1 n4 cx.take cy.drop
     have c5 := Cb.mul ht (k := k') (show i <= m by omega) (by omega) n2 n3 cx.drop cy.take
     have hpT := a57 (ts := ts) (k := k') hxl h4 hyx h1
     refine gs (aaj (.tmp rfl) (.none _) (.some _ (.tmp rfl) (by omega)) T38 rfl T82 rfl (by omega) (by simp only [length_map]; omega) rfl) ?_
     refine gs (aaj (.tmp rfl) (.some _ (.tmp rfl) (by omega)) (.none _) T38 rfl T82 rfl (by simp only [length_map]; omega) (by omega) rfl) ?_
     refine gD ?_ (12,0)
     refine gW (Wk.of (sl := [(1,some (nA x)),(3,some (.ptr 3 0)),(7,some (i64 ((2 ^ i : Nat) : Int))),(8,some (nA (x.take (2 ^ i)))),(9,some (nA (x.drop (2 ^ i)))),(10,some (nA (y.take (2 ^ i)))),(11,some (nA (y.drop (2 ^ i))))]) (hp := [(3,some (.box [.lst 1 (ts.map nA)]))]) (.k (.k (.k (.k (.k (.cons rfl (Sub.of (ags y (2 ^ i))) (.cons rfl (Sub.of (aez y (2 ^ i))) .nil))))))) (.cons rfl (.refl _) .nil)) ?_
     refine gc (adk qA x (by omega)) ?_
     refine ga (show _ = (i : Int) by rw [hxl,ajm,aa8 (by omega)]; omega) ?_
     refine gi (at1 (j := i) (by omega)) ?_
     refine gD ?_
     refine gc (ih k' (by omega) i _ _ e1 f1 (by omega) (by omega) n1 n3 cx.take cy.take (by omega)) ?_
     refine gc (ih k' (by omega) i _ _ e1 f1 (by omega) (by omega) n2 n4 cx.drop cy.drop (by omega)) ?_
     refine gc (ih k' (by omega) i _ _ _ _ (by omega) (by omega) s2.1 nd c2 cd (by omega)) ?_
     refine gc (adc _ _ (fun q hq => c1.qs (by omega) hq) (fun q hq => c3.qs (by omega) hq) (by have := s1.1.le; omega) (by have := s3.1.le; omega)) ?_
     refine gD ?_
     refine gc (ih k' (by omega) i _ _ e1 f1 (by omega) (by omega) n1 n4 cx.take cy.drop (by omega)) ?_
     refine gc (ih k' (by omega) i _ _ e1 f1 (by omega) (by omega) n2 n3 cx.drop cy.take (by omega)) ?_
     refine gc (adc _ _ (fun q hq => c4.qs (by omega) hq) (fun q hq => c5.qs (by omega) hq) (by have := s4.1.le; omega) (by have := s5.1.le; omega)) ?_
     refine gc (aj8 _ _ (2 ^ i) (by have := s1.1.le; have := s3.1.le; rw [abb]; omega) (by have := s4.1.le; have := s5.1.le; rw [abb]; omega) (by omega)) ?_
     refine gD ?_
     refine gE1 ?_
     rw [hpT]
theorem ara (ts : List (List Rat)) (m r : Nat) (ht : aw5 ts m r) (hm : m <= 5) (hml : m <= ts.length) (i : Nat) (a : List Rat) (e : Nat) (hi : i + 1 <= m) (hal : a.length = 2 ^ (i + 1)) (ca : Cb e a) (hs : 4 * e + 3 * eB r i + r + 1 < 4398046511104) :
  FnC prog 351 [am3 ts,nA a] (nA (ama ts i a)) := by
 have hp2 := Nat.two_pow_pos i
 have hpi : 2 ^ i <= 32 := abk (b := 5) (by omega)
 have hps : 2 ^ (i + 1) = 2 * 2 ^ i:=by rw [Nat.pow_succ]; omega
 have n1 : Nl i (a.take (2 ^ i)) := .inr ⟨i,le_refl _,acq hal⟩
 have n2 : Nl i (a.drop (2 ^ i)) := .inr ⟨i,le_refl _,ac4 hal⟩
 have nd := ht.1 i (by omega)
 have cd := ht.2.cb i
 have s1 := adb ts m ht.1 i i _ _ (by omega) (by omega) n1 n1
 have s2 := adb ts m ht.1 i i _ _ (by omega) (by omega) n2 n2
 have s3 := adb ts m ht.1 i i _ _ (by omega) (by omega) s2.1 nd
 have c1 := Cb.mul ht (k := i) (show i <= m by omega) (by omega) n1 n1 ca.take ca.take
 have c2 := Cb.mul ht (k := i) (show i <= m by omega) (by omega) n2 n2 ca.drop ca.drop
 have c3 := Cb.mul ht (k := i) (show i <= m by omega) (by omega) s2.1 nd c2 cd
 refine gF0 func351 ?_
 refine gl ?_
 refine gs (ac6 (.tmp rfl) (.const _) (by omega) (show _ = ((2 ^ i : Nat) : Int) by rw [aby (by omega),hal,abr]) rfl) ?_
 refine gs (aaj (.tmp rfl) (.none _) (.some _ (.tmp rfl) (by omega)) T38 rfl T82 rfl (by omega) (by simp only [length_map]; omega) rfl) ?_
 refine gs (aaj (.tmp rfl) (.some _ (.tmp rfl) (by omega)) (.none _) T38 rfl T82 rfl (by simp only [length_map]; omega) (by omega) rfl) ?_
 refine gD ?_ (3,0)
 refine gW (Wk.of (sl := [(1,some (nA a)),(2,some (.ptr 2 0)),(6,some (nA (a.take (2 ^ i)))),(7,some (nA (a.drop (2 ^ i))))]) (hp := [(2,some (.box [.lst 1 (ts.map nA)]))]) (.k (.k (.cons rfl (Sub.of (ags a (2 ^ i))) (.cons rfl (Sub.of (aez a (2 ^ i))) .nil)))) (.cons rfl (.refl _) .nil)) ?_
 refine gc (aee ts m r ht hm hml i i _ _ e e (by omega) (by omega) n1 n1 ca.take ca.take (by omega)) ?_
 refine gc (aee ts m r ht hm hml i i _ _ e e (by omega) (by omega) n2 n2 ca.drop ca.drop (by omega)) ?_
 refine gc (adk qA a (by omega)) ?_
 refine ga (show _ = (i : Int) by rw [hal,ajm,aa8 (by omega)]; omega) ?_
 refine gi (at1 (j := i) (by omega)) ?_
 refine gc (aee ts m r ht hm hml i i _ _ _ _ (by omega) (by omega) s2.1 nd c2 cd (by omega)) ?_
 refine gc (aed _ (fun q hq => c3.qs (by omega) hq) (by have := s3.1.le; omega)) ?_
 refine gc (adc _ _ (fun q hq => c1.qs (by omega) hq) (fun q hq => c3.minus.qs (by omega) hq) (by have := s1.1.le; omega) (by have := s3.1.le; rw [aci]; omega)) ?_
 refine gD ?_
 refine gE1 ?_
 rfl
theorem agr (ts : List (List Rat)) (m r : Nat) (ht : aw5 ts m r) (hm : m <= 5) (hml : m <= ts.length) (j : Nat) : ∀ (a : List Rat) (e : Nat), j <= m -> Nl j a -> Cb e a -> sB r j e < 4398046511104 ->
  FnC prog 263 [am3 ts,nA a] (i64 (T.sgn (aat ts) j (dec j a))) := by
 induction j using Nat.strongRecOn
 rename_i j ih
 intro a e hj ha ca hs
 have hse := a07 r j e
 have qa : ∀ q ∈ a,Qs q := fun q hq => ca.qs (by omega) hq
 obtain ⟨s,hsa⟩ : ∃ s,s = sh j (dec j a) := ⟨_,rfl⟩
 have hsd : dec j s = dec j a:=by rw [hsa,aga]
 have hsn : Nl j s:=by rw [hsa]; exact am9 j _
 have cs : Cb e s:=by rw [hsa]; exact ca.sh ha
 have hls := hsn.len5 (by omega)
 rw [<- hsd]
 refine gF0 func263 ?_
 refine gc (hsa ▸ acx a (by omega) ha qa) ?_
 refine gl ?_
 refine gC (fun ht12 => ?_) (fun ht12 => ?_)
 ·have h1 : s = [] := List.length_eq_zero_iff.1 (by have := ht12; simp only [aab, beq_iff_eq] at this; omega)
  refine gE1 ?_
  rw [h1,aeu,T.sgn_zero]; rfl
 ·have h1 : s.length ≠ 0 := by have := ht12; simp only [aab, beq_eq_false_iff_ne, ne_eq] at this; omega
  refine gl ?_
  refine gC (fun ht15 => ?_) (fun ht15 => ?_)
  ·have h2 : s.length = 1 := by have := ht15; simp only [aab, beq_iff_eq] at this; omega
   obtain ⟨q,rfl⟩ := List.length_eq_one_iff.1 h2
   refine gi rfl ?_
   refine gc (ael (rt q) (cs.qs (by omega) (by simp : q ∈ [q])).ok) ?_
   refine gE1 ?_
   rw [ajy,T.sgn_ofQ,ahi]
  ·have h2 : s.length ≠ 1 := by have := ht15; simp only [aab, beq_eq_false_iff_ne, ne_eq] at this; omega
   obtain ⟨i, hij, hsl⟩ : ∃ i, i + 1 <= j /\ s.length = 2 ^ (i + 1) := by
    rcases ag9 hsn with h | h | h
    ·exact absurd h h1
    ·exact absurd h h2
    ·exact h
   have hp2 := Nat.two_pow_pos i
   have hpi : 2 ^ i <= 32 := abk (b := 5) (by omega)
   have hps : 2 ^ (i + 1) = 2 * 2 ^ i:=by rw [Nat.pow_succ]; omega
   have n1 : Nl i (s.take (2 ^ i)) := .inr ⟨i,le_refl _,acq hsl⟩
   have n2 : Nl i (s.drop (2 ^ i)) := .inr ⟨i,le_refl _,ac4 hsl⟩
   have nd := ht.1 i (by omega)
   have cd := ht.2.cb i
   obtain ⟨nn,dn,cn⟩ := awx ht (by omega) hsl cs
   have b1 : sB r i (4 * e + 3 * eB r i + r + 1) <= sB r j e := auf r e hij
   have b2 : sB r i e <= sB r i (4 * e + 3 * eB r i + r + 1) := ajq r i (by omega)
   have b3 : sB r i r <= sB r i (4 * e + 3 * eB r i + r + 1) := ajq r i (by omega)
   have b4 := a07 r i (4 * e + 3 * eB r i + r + 1)
   have k1 := ih i (by omega) (s.take (2 ^ i)) e (by omega) n1 cs.take (by omega)
   have k2 := ih i (by omega) (s.drop (2 ^ i)) e (by omega) n2 cs.drop (by omega)
   have k3 := ih i (by omega) _ r (by omega) nd cd (by omega)
   have k4 := ih i (by omega) _ _ (by omega) nn cn (by omega)
   have hres : T.sgn (aat ts) j (dec j s) = T.sgn3 (T.sgn (aat ts) i (dec i (s.take (2 ^ i)))) (T.sgn (aat ts) i (dec i (s.drop (2 ^ i)))) (T.sgn (aat ts) i (dec i (ts.getD i []))) (T.sgn (aat ts) i (dec i (ama ts i s))) := by
    rw [ax8 _ (by omega) hij,dn]; rfl
   have v1 := T.sgn_cases (aat ts) i (dec i (s.take (2 ^ i)))
   have v4 := T.sgn_cases (aat ts) i (dec i (ama ts i s))
   refine gl ?_
   refine gs (ac6 (.tmp rfl) (.const _) (by omega) (show _ = ((2 ^ i : Nat) : Int) by rw [aby (by omega),hsl,abr]) rfl) ?_
   refine gs (aaj (.tmp rfl) (.none _) (.some _ (.tmp rfl) (by omega)) T38 rfl T82 rfl (by omega) (by simp only [length_map]; omega) rfl) ?_
   refine gc (by have h9 := k1; rw [<- ags] at h9; exact h9) ?_
   refine gs (aaj (.tmp rfl) (.some _ (.tmp rfl) (by omega)) (.none _) T38 rfl T82 rfl (by simp only [length_map]; omega) (by omega) rfl) ?_
   refine gc (by have h9 := k2; rw [<- aez] at h9; exact h9) ?_
   refine gD ?_
   refine gc (adk qA s (by omega)) ?_
   refine ga (show _ = (i : Int) by rw [hsl,ajm,aa8 (by omega)]; omega) ?_
   refine gi (at1 (j := i) (by omega)) ?_
   refine gc k3 ?_
   refine gD ?_
   refine gC (fun ht42 => ?_) (fun ht42 => ?_)
   ·have e1 : T.sgn (aat ts) i (dec i (ts.getD i [])) = 0 := by simpa [aab] using ht42
    refine gE1 ?_
    rw [hres]; unfold T.sgn3; rw [if_pos e1]
   ·have e1 : ¬ T.sgn (aat ts) i (dec i (ts.getD i [])) = 0 := by simpa [aab] using ht42
    refine gC (fun ht44 => ?_) (fun ht44 => ?_)
    ·have e2 : T.sgn (aat ts) i (dec i (s.take (2 ^ i))) = T.sgn (aat ts) i (dec i (s.drop (2 ^ i))) \/ T.sgn (aat ts) i (dec i (s.drop (2 ^ i))) = 0 := as6 ht44
     refine gE1 ?_
     rw [hres]; unfold T.sgn3; rw [if_neg e1,if_pos e2]
    ·have e2 : ¬ (T.sgn (aat ts) i (dec i (s.take (2 ^ i))) = T.sgn (aat ts) i (dec i (s.drop (2 ^ i))) \/ T.sgn (aat ts) i (dec i (s.drop (2 ^ i))) = 0) := api ht44
     refine gC (fun ht53 => ?_) (fun ht53 => ?_)
     ·have e3 : T.sgn (aat ts) i (dec i (s.take (2 ^ i))) = 0 := by simpa [aab] using ht53
      refine gE1 ?_
      rw [hres]; unfold T.sgn3; rw [if_neg e1,if_neg e2,if_pos e3]
     ·have e3 : ¬ T.sgn (aat ts) i (dec i (s.take (2 ^ i))) = 0 := by simpa [aab] using ht53
      refine gc (ara ts m r ht hm hml i s e (by omega) hsl cs (by omega)) ?_
      refine gc k4 ?_
      refine ga (amd v1 v4) ?_
      refine gD ?_
      refine gE1 ?_
      rw [hres]; unfold T.sgn3; rw [if_neg e1,if_neg e2,if_neg e3]; rfl
end Go.Lw
namespace Go.Lw
open Go.Proofs
theorem aig (rs : List (List Rt)) (r : Nat) (h : TR rs r) : FnC prog 145 [am1 rs] (ahg (amq rs)) := by
 have hll := h.ll
 have hr := h.le
 refine gF0 func145 ?_
 refine gl ?_
 refine gC (fun ht10 => ?_) (fun ht10 => ?_)
 ·have h5 : 5 < rs.length := by have := ht10; simp only [aab, decide_eq_true_eq] at this; omega
  refine gE1 ?_
  rw [auw h5]; rfl
 ·have h5 : rs.length <= 5 := by have := ht10; simp only [aab, decide_eq_false_iff_not] at this; omega
  refine gl ?_
  refine gL1 [1,13,14] [1] (fun (k : Nat) => [(15,some (i64 k))]) (fun _ => []) (fun k => k <= rs.length /\ ∀ j,j < k -> atj rs j) (fun k => rs.length - k) 0 ⟨zero_le _,fun j hj => by omega⟩ ?_
  rintro k ⟨hk,hj⟩ K1 hK1
  refine gC (fun ht16 => ?_) (fun ht16 => ?_)
  ·have hin : k < rs.length := by simpa [aab] using ht16
   obtain ⟨d,hd⟩ := aeg hin
   have hdm := mem_of_getElem? hd
   have hdl := h.len d hdm
   refine gi (aaq hd) ?_
   refine gl ?_
   refine gs (afg (.const _) (.tmp rfl) (by omega) (aix (by omega)) rfl) ?_
   refine gC (fun ht24 => ?_) (fun ht24 => ?_)
   ·have h1 : d.length ≠ 2 ^ k := by have := ht24; simp only [aab, bne_iff_ne, ne_eq] at this; omega
    refine gE1 ?_
    rw [at9 h5 hd hj h1]; rfl
   ·have h1 : d.length = 2 ^ k := by have := ht24; simp only [aab, bne_eq_false_iff_eq] at this; omega
    have htl : (rs.take k).length = k:=by simp; omega
    have hnu := ahs (rs.take k) d (h.ok d hdm) hdl (by omega)
    rw [htl] at hnu
    refine gs (aaj (.tmp rfl) (.none _) (.some _ (.tmp rfl) (by omega)) T27 rfl T38 rfl (by omega) (by simp only [length_map]; omega) rfl) ?_ (9,0)
    refine gW (Wk.of (sl := [(1,some (.ptr 1 0)),(3,some (i64 k)),(4,some (nR d)),(5,some (.ptr 5 0)),(13,some (.lst 1 (rs.map nR))),(14,some (i64 rs.length)),(15,some (i64 k))]) (hp := [(1,some (.box [.lst 1 (rs.map nR)])),(5,some (.box [.lst 1 ((rs.take k).map nR)]))]) abv (.cons rfl (.refl _) (.cons rfl (BlkSub.boxL (.cons (.of (a2g nR rs k)) .nil) rfl) .nil))) ?_
    refine gc hnu ?_
    refine gC (fun ht35 => ?_) (fun ht35 => ?_)
    ·have h2 := ae2 ht35
     refine gE1 ?_
     rw [aur h5 hd hj h1 h2]
    ·have h2 := ae0 ht35
     have hts := aqe (ts := llq rs) (fun j hjk => (hj j hjk).nl) h.rb
     have hq := an5 h2 (h.ok d hdm)
     have hcb : Cb r (lq d):=by have := h.rb.cb k; rw [aiz,getD_eq_getElem?_getD,hd] at this; exact this
     have hsg : FnC prog 263 [am1 (rs.take k), nR d] (i64 (T.sgn (aat (llq rs)) k (dec k (lq d)))) := by
      have h9 := agr ((llq rs).take k) k r hts (by omega) (by simp; omega) k (lq d) r (le_refl _) hq.2 hcb (ayw (le_refl k) (by have := h.three; omega) hr (by have := a9i k; omega))
      rw [T.sgn_congr k (fun j hjk => ag7 hjk)] at h9
      rw [a1j h.ok (by omega) hj,hq.1,agz]
      rw [<- hq.1]; exact h9
     refine gc hsg ?_
     refine gC (fun ht40 => ?_) (fun ht40 => ?_)
     ·have h3 : T.sgn (aat (llq rs)) k (dec k (lq d)) < 0 := by simpa [aab] using ht40
      refine gE1 ?_
      rw [avc h5 hd hj h1 h2 h3]; rfl
     ·have h3 : ¬ T.sgn (aat (llq rs)) k (dec k (lq d)) < 0 := by simpa [aab] using ht40
      refine ga abn ?_
      exact gK1 hK1 (k + 1) ⟨hin,fun j hjk => by rcases lt_or_ge j k with h9 | h9; exact hj j h9; (have : j = k:=by omega); subst this; exact ay7 hd h1 h2 h3⟩
  ·have hin : k = rs.length := by have : rs.length <= k := (by simpa [aab] using ht16); omega
   subst hin
   refine gE1 ?_
   rw [at8 h5 hj]; rfl
theorem acj (rs : List (List Rt)) (r : Nat) (h : TR rs r) (xs : List (List Rt)) (hx : ∀ a ∈ xs, (∀ x ∈ a, x.ok) /\ a.length <= 281474976710656) (hl : xs.length <= 281474976710656) : FnC prog 267 [am1 rs, .lst 1 (xs.map nR)] (ahg (ab7 rs xs)) := by
 refine gF0 func267 ?_
 refine gc (aig rs r h) ?_
 refine gC (fun ht12 => ?_) (fun ht12 => ?_)
 ·have h1 := ae2 ht12
  refine gE1 ?_
  rw [at2 h1]
 ·have h1 := ae0 ht12
  refine gl ?_
  refine gL1 [2,14,15] [2] (fun (i : Nat) => [(16,some (i64 i))]) (fun _ => []) (fun i => i <= xs.length /\ ∀ x ∈ xs.take i,ahk rs.length x = 0) (fun i => xs.length - i) 0 ⟨zero_le _,fun x hx => by simp at hx⟩ ?_
  rintro i ⟨hi,hj⟩ K1 hK1
  refine gC (fun ht17 => ?_) (fun ht17 => ?_)
  ·have hin : i < xs.length := by simpa [aab] using ht17
   obtain ⟨a,ha⟩ := aeg hin
   have hok := hx a (mem_of_getElem? ha)
   refine gi (aaq ha) ?_
   refine gc (ahs rs a hok.1 hok.2 h.ll) ?_
   refine gC (fun ht24 => ?_) (fun ht24 => ?_)
   ·have h2 := ae2 ht24
    refine gE1 ?_
    rw [ayc h1 ha hj h2]
   ·have h2 := ae0 ht24
    refine ga abn ?_
    exact gK1 hK1 (i + 1) ⟨hin,fun x hx => by rw [aa4 ha] at hx; rcases List.mem_append.1 hx with h9 | h9; exact hj x h9; (rw [List.mem_singleton.1 h9]; exact h2)⟩
  ·have hin : i = xs.length := by have : xs.length <= i := (by simpa [aab] using ht17); omega
   subst hin
   rw [take_length] at hj
   refine gE1 ?_
   rw [aox h1 hj]; rfl
theorem ata (rs : List (List Rt)) (r : Nat) (h : TR rs r) (a : List Rt) (e : Nat) (ha : NR a e) (he : e <= lm rs.length) :
  FnC prog 148 [am1 rs,nR a] (.tup [nA (if ab7 rs [a] = 0 then sh rs.length (T.neg rs.length (dec rs.length (lq a))) else []),ahg (ab7 rs [a])]) := by
 have hlm := aqk rs.length
 refine gF0 func148 ?_
 refine gc (acj rs r h [a] (fun x hx => by rw [List.mem_singleton.1 hx]; exact ⟨ha.ok,ha.len⟩) (by simp)) ?_
 refine gC (fun ht12 => ?_) (fun ht12 => ?_) (st2 := (77777,0))
 ·have h1 := ae2 ht12
  refine gR ?_
  exact af1 (by rw [if_neg h1]; exact Sub.tup (.cons (.nil _ _ _) (.cons (.refl _) .nil)))
 ·have h1 := ae0 ht12
  obtain ⟨h2,h3⟩ := ahx h1
  obtain ⟨tw,_⟩ := aj1 h h2
  obtain ⟨e1,na⟩ := ha.num (h3 a (by simp))
  have h5 : rs.length <= 5:=by have := tw.five; rwa [length_map] at this
  have hl := na.len5 h5
  have qa : ∀ q ∈ lq a,Qs q := fun q hq => ha.cb.qs (by omega) hq
  have qm : ∀ q ∈ abz (lq a),Qs q := fun q hq => ha.cb.minus.qs (by omega) hq
  have nm := af2 na
  refine gW (Wk.of (sl := [(1,some (nA (lq a))),(2,some (.ptr 2 0)),(6,some (ahg (ab7 rs [a])))]) (hp := [(2,some (.box [.lst 1 (rs.map nR)]))]) (.cons rfl (Sub.of e1) (.k (.k .nil))) (.cons rfl (.refl _) .nil)) ?_
  refine gc (aed _ qa (by omega)) ?_
  refine gc (acx _ h5 nm qm) ?_
  refine gE2 ?_
  rw [if_pos h1,h1,ad9]; rfl
theorem as7 (rs : List (List Rt)) (r : Nat) (h : TR rs r) (a b : List Rt) (e f : Nat) (ha : NR a e) (hb : NR b f) (he : e + f <= lm rs.length) :
  FnC prog 231 [am1 rs,nR a,nR b] (.tup [nA (if ab7 rs [a,b] = 0 then sh rs.length (T.add rs.length (dec rs.length (lq a)) (dec rs.length (lq b))) else []),ahg (ab7 rs [a,b])]) := by
 have hlm := aqk rs.length
 refine gF0 func231 ?_
 refine gc (acj rs r h [a,b] (aq7 ha hb) (by simp)) ?_
 refine gC (fun ht15 => ?_) (fun ht15 => ?_) (st2 := (77777,0))
 ·have h1 := ae2 ht15
  refine gR ?_
  exact af1 (by rw [if_neg h1]; exact Sub.tup (.cons (.nil _ _ _) (.cons (.refl _) .nil)))
 ·have h1 := ae0 ht15
  obtain ⟨h2,h3⟩ := ahx h1
  obtain ⟨tw,e0⟩ := aj1 h h2
  obtain ⟨e1,na⟩ := ha.num (h3 a (by simp))
  obtain ⟨e2,nb⟩ := hb.num (h3 b (by simp))
  have h5 : rs.length <= 5:=by have := tw.five; rwa [length_map] at this
  have hla := na.len5 h5
  have hlb := nb.len5 h5
  have qa : ∀ q ∈ lq a,Qs q := fun q hq => ha.cb.qs (by omega) hq
  have qb : ∀ q ∈ lq b,Qs q := fun q hq => hb.cb.qs (by omega) hq
  have qp : ∀ q ∈ acf (lq a) (lq b),Qs q := fun q hq => (ha.cb.plus hb.cb).qs (by omega) hq
  have np := ah6 na nb
  refine gW (Wk.of (sl := [(1,some (nA (lq a))),(2,some (nA (lq b))),(3,some (.ptr 3 0)),(8,some (ahg (ab7 rs [a,b])))]) (hp := [(3,some (.box [.lst 1 (rs.map nR)]))]) (.cons rfl (Sub.of e1) (.cons rfl (Sub.of e2) (.k (.k .nil)))) (.cons rfl (.refl _) .nil)) ?_
  refine gc (adc _ _ qa qb (by omega) (by omega)) ?_
  refine gc (acx _ h5 np qp) ?_
  refine gE2 ?_
  rw [if_pos h1,h1,ac8]; rfl
theorem as2 (rs : List (List Rt)) (r : Nat) (h : TR rs r) (a b : List Rt) (e f : Nat) (ha : NR a e) (hb : NR b f) (he : e + f <= lm rs.length) :
  FnC prog 163 [am1 rs,nR a,nR b] (.tup [nA (if ab7 rs [a,b] = 0 then sh rs.length (T.add rs.length (dec rs.length (lq a)) (T.neg rs.length (dec rs.length (lq b)))) else []),ahg (ab7 rs [a,b])]) := by
 have hlm := aqk rs.length
 refine gF0 func163 ?_
 refine gc (acj rs r h [a,b] (aq7 ha hb) (by simp)) ?_
 refine gC (fun ht15 => ?_) (fun ht15 => ?_) (st2 := (77777,0))
 ·have h1 := ae2 ht15
  refine gR ?_
  exact af1 (by rw [if_neg h1]; exact Sub.tup (.cons (.nil _ _ _) (.cons (.refl _) .nil)))
 ·have h1 := ae0 ht15
  obtain ⟨h2,h3⟩ := ahx h1
  obtain ⟨tw,e0⟩ := aj1 h h2
  obtain ⟨e1,na⟩ := ha.num (h3 a (by simp))
  obtain ⟨e2,nb⟩ := hb.num (h3 b (by simp))
  have h5 : rs.length <= 5:=by have := tw.five; rwa [length_map] at this
  have hla := na.len5 h5
  have hlb := nb.len5 h5
  have qa : ∀ q ∈ lq a,Qs q := fun q hq => ha.cb.qs (by omega) hq
  have qb : ∀ q ∈ lq b,Qs q := fun q hq => hb.cb.qs (by omega) hq
  have qm : ∀ q ∈ abz (lq b),Qs q := fun q hq => hb.cb.minus.qs (by omega) hq
  have qp : ∀ q ∈ acf (lq a) (abz (lq b)),Qs q := fun q hq => (ha.cb.plus hb.cb.minus).qs (by omega) hq
  have np := ah6 na (af2 nb)
  refine gW (Wk.of (sl := [(1,some (nA (lq a))),(2,some (nA (lq b))),(3,some (.ptr 3 0)),(8,some (ahg (ab7 rs [a,b])))]) (hp := [(3,some (.box [.lst 1 (rs.map nR)]))]) (.cons rfl (Sub.of e1) (.cons rfl (Sub.of e2) (.k (.k .nil)))) (.cons rfl (.refl _) .nil)) ?_
  refine gc (aed _ qb (by omega)) ?_
  refine gc (adc _ _ qa qm (by omega) (by rw [aci]; omega)) ?_
  refine gc (acx _ h5 np qp) ?_
  refine gE2 ?_
  rw [if_pos h1,h1,ac8,ad9]; rfl
theorem asx (rs : List (List Rt)) (r : Nat) (h : TR rs r) (a b : List Rt) (e f : Nat) (ha : NR a e) (hb : NR b f) (he : e + f <= lm rs.length) :
  FnC prog 164 [am1 rs,nR a,nR b] (.tup [nA (if ab7 rs [a,b] = 0 then sh rs.length (T.mul (aat (llq rs)) rs.length (dec rs.length (lq a)) (dec rs.length (lq b))) else []),ahg (ab7 rs [a,b])]) := by
 have hr := h.le
 have hlm := aqk rs.length
 refine gF0 func164 ?_
 refine gc (acj rs r h [a,b] (aq7 ha hb) (by simp)) ?_
 refine gC (fun ht15 => ?_) (fun ht15 => ?_) (st2 := (77777,0))
 ·have h1 := ae2 ht15
  refine gR ?_
  exact af1 (by rw [if_neg h1]; exact Sub.tup (.cons (.nil _ _ _) (.cons (.refl _) .nil)))
 ·have h1 := ae0 ht15
  obtain ⟨h2,h3⟩ := ahx h1
  obtain ⟨tw,e0⟩ := aj1 h h2
  obtain ⟨e1,na⟩ := ha.num (h3 a (by simp))
  obtain ⟨e2,nb⟩ := hb.num (h3 b (by simp))
  have hlen : (llq rs).length = rs.length := length_map _
  have h5 : rs.length <= 5:=by have := tw.five; omega
  have hla := na.len5 h5
  have hlb := nb.len5 h5
  have htw := tw.ok
  rw [hlen] at htw
  have hE := a6k r h5
  have np := adb (llq rs) rs.length htw.1 rs.length rs.length _ _ (le_refl _) (le_refl _) na nb
  have cp := Cb.mul htw (k := rs.length) (le_refl rs.length) (le_refl _) na nb ha.cb hb.cb
  have hti := aee (llq rs) rs.length r htw h5 (by omega) rs.length rs.length _ _ e f (le_refl _) (le_refl _) na nb ha.cb hb.cb (by omega)
  refine gW (Wk.of (sl := [(1,some (nA (lq a))),(2,some (nA (lq b))),(3,some (.ptr 3 0)),(8,some (ahg (ab7 rs [a,b])))]) (hp := [(3,some (.box [.lst 1 ((llq rs).map nA)]))]) (.cons rfl (Sub.of e1) (.cons rfl (Sub.of e2) (.k (.k .nil)))) (.cons rfl (BlkSub.boxL (.cons (.of (aoi e0)) .nil) rfl) .nil)) ?_
  refine gc hti ?_
  refine gc (acx _ h5 np.1 (fun q hq => cp.qs (by omega) hq)) ?_
  refine gE2 ?_
  rw [if_pos h1,h1,np.2]; rfl
theorem ase (rs : List (List Rt)) (r : Nat) (h : TR rs r) (a b : List Rt) (e f : Nat) (ha : NR a e) (hb : NR b f) (he : e + f + 1 <= lm rs.length) :
  FnC prog 449 [am1 rs,nR a,nR b] (.tup [i64 (if ab7 rs [a,b] = 0 then T.sgn (aat (llq rs)) rs.length (T.add rs.length (dec rs.length (lq a)) (T.neg rs.length (dec rs.length (lq b)))) else 0),ahg (ab7 rs [a,b])]) := by
 have hr := h.le
 have hlm := aqk rs.length
 refine gF0 func449 ?_
 refine gc (acj rs r h [a,b] (aq7 ha hb) (by simp)) ?_
 refine gC (fun ht15 => ?_) (fun ht15 => ?_) (st2 := (77777,0))
 ·have h1 := ae2 ht15
  refine gE2 ?_
  rw [if_neg h1]; rfl
 ·have h1 := ae0 ht15
  obtain ⟨h2,h3⟩ := ahx h1
  obtain ⟨tw,e0⟩ := aj1 h h2
  obtain ⟨e1,na⟩ := ha.num (h3 a (by simp))
  obtain ⟨e2,nb⟩ := hb.num (h3 b (by simp))
  have hlen : (llq rs).length = rs.length := length_map _
  have h5 : rs.length <= 5:=by have := tw.five; omega
  have hla := na.len5 h5
  have hlb := nb.len5 h5
  have htw := tw.ok
  rw [hlen] at htw
  have qa : ∀ q ∈ lq a,Qs q := fun q hq => ha.cb.qs (by omega) hq
  have qb : ∀ q ∈ lq b,Qs q := fun q hq => hb.cb.qs (by omega) hq
  have qm : ∀ q ∈ abz (lq b),Qs q := fun q hq => hb.cb.minus.qs (by omega) hq
  have np := ah6 na (af2 nb)
  have hsg := agr (llq rs) rs.length r htw h5 (by omega) rs.length _ _ (le_refl _) np (ha.cb.plus hb.cb.minus) (ayw (le_refl rs.length) (by have := tw.three; omega) hr (by omega))
  refine gW (Wk.of (sl := [(1,some (nA (lq a))),(2,some (nA (lq b))),(3,some (.ptr 3 0)),(8,some (ahg (ab7 rs [a,b])))]) (hp := [(3,some (.box [.lst 1 ((llq rs).map nA)]))]) (.cons rfl (Sub.of e1) (.cons rfl (Sub.of e2) (.k (.k .nil)))) (.cons rfl (BlkSub.boxL (.cons (.of (aoi e0)) .nil) rfl) .nil)) ?_
  refine gc (aed _ qb (by omega)) ?_
  refine gc (adc _ _ qa qm (by omega) (by rw [aci]; omega)) ?_
  refine gc hsg ?_
  refine gD ?_
  refine gE2 ?_
  rw [if_pos h1,h1,ac8,ad9]; rfl
theorem apt (rs : List (List Rt)) (r : Nat) (h : TR rs r) (a : List Rt) (e : Nat) (ha : NR a e) (he : e <= lm rs.length) :
  FnC prog 205 [am1 rs,nR a] (.tup [i64 (if ab7 rs [a] = 0 then T.sgn (aat (llq rs)) rs.length (dec rs.length (lq a)) else 0),ahg (ab7 rs [a])]) := by
 have hr := h.le
 have hlm := aqk rs.length
 refine gF0 func205 ?_
 refine gc (acj rs r h [a] (fun x hx => by rw [List.mem_singleton.1 hx]; exact ⟨ha.ok,ha.len⟩) (by simp)) ?_
 refine gC (fun ht12 => ?_) (fun ht12 => ?_) (st2 := (77777,0))
 ·have h1 := ae2 ht12
  refine gE2 ?_
  rw [if_neg h1]; rfl
 ·have h1 := ae0 ht12
  obtain ⟨h2,h3⟩ := ahx h1
  obtain ⟨tw,e0⟩ := aj1 h h2
  obtain ⟨e1,na⟩ := ha.num (h3 a (by simp))
  have hlen : (llq rs).length = rs.length := length_map _
  have h5 : rs.length <= 5:=by have := tw.five; omega
  have htw := tw.ok
  rw [hlen] at htw
  have hsg := agr (llq rs) rs.length r htw h5 (by omega) rs.length _ _ (le_refl _) na ha.cb (ayw (le_refl rs.length) (by have := tw.three; omega) hr (by omega))
  refine gW (Wk.of (sl := [(1,some (nA (lq a))),(2,some (.ptr 2 0)),(6,some (ahg (ab7 rs [a])))]) (hp := [(2,some (.box [.lst 1 ((llq rs).map nA)]))]) (.cons rfl (Sub.of e1) (.k (.k .nil))) (.cons rfl (BlkSub.boxL (.cons (.of (aoi e0)) .nil) rfl) .nil)) ?_
  refine gc hsg ?_
  refine gE2 ?_
  rw [if_pos h1,h1]; rfl
theorem avs (x : Rt) (hx : x.ok) (hs : Qs x.q) : FnC prog 149 [x.av] (nA (sh 0 (x.q : Rat))) := by
 have hadd := ad5 x (rt 0) hx Qs.zero.ok
 rw [a87] at hadd
 refine gF0 func149 ?_
 refine gc (Con.subA (.cons (.refl _) (.cons apr .nil)) hadd) ?_
 refine gc (acx (n := 0) [x.q] (by omega) (.inr ⟨0,le_refl _,rfl⟩) (fun q hq => by rw [List.mem_singleton.1 hq]; exact hs)) ?_
 refine gE1 ?_
 rfl
end Go.Lw
namespace Go.Lw
open Go.Proofs
theorem aeo (n : Nat) (hn : n <= 281474976710656) : FnC prog 292 [i64 n] (.tup [i64 (pwk n), bl (pwb n)]) := by
 refine gF0 func292 ?_
 refine gL1 [0] [] (fun (k : Nat) => [(5,some (i64 k))]) (fun _ => []) (fun k => k <= 6 /\ ∀ j,j < k -> n ≠ 2 ^ j) (fun k => 6 - k) 0 ⟨by omega,fun j h => by omega⟩ ?_
 rintro k ⟨hk,hj⟩ K1 hK1
 refine gC (fun ht6 => ?_) (fun ht6 => ?_)
 ·have h1 : k < 6 := by have := ht6; simp only [aab, decide_eq_true_eq] at this; omega
  refine gs (afg (.const _) (.tmp rfl) (by omega) (aix (by omega)) rfl) ?_
  refine gC (fun ht11 => ?_) (fun ht11 => ?_)
  ·have h2 : n = 2 ^ k := by have := ht11; simp only [aab, beq_iff_eq] at this; omega
   refine gE2 ?_
   rw [h2,(ao7 (by omega)).1,(ao7 (by omega)).2]; rfl
  ·have h2 : n ≠ 2 ^ k := by have := ht11; simp only [aab, beq_eq_false_iff_ne, ne_eq] at this; omega
   refine ga (aax (by omega)) ?_
   exact gK1 hK1 (k + 1) ⟨by omega,fun j h => by rcases lt_or_ge j k with h3 | h3; exact hj j h3; (have : j = k:=by omega); subst this; exact h2⟩
 ·have h1 : k = 6 := by have := ht6; simp only [aab, decide_eq_false_iff_not] at this; omega
  subst h1
  refine gE2 ?_
  rw [(a0t hj).1,(a0t hj).2]; rfl
theorem aj5 (m : Nat) (hm : m <= 5) (a : List Rt) (ha : ∀ r ∈ a, r.ok) (hl : a.length <= 281474976710656) : FnC prog 233 [i64 m, nR a] (i64 (ahk m a)) := by
 refine gF0 func233 ?_
 refine gl ?_
 refine gc (aeo a.length hl) ?_
 refine gl ?_
 refine gC (fun ht26 => ?_) (fun ht26 => ?_)
 ·have h1 : a ≠ [] /\ (lvl a.length < 0 \/ (m : Int) < lvl a.length) := (auz hm a).2 (a78 ht26)
  refine gE1 ?_
  unfold ahk; rw [if_pos h1]; rfl
 ·have hn : ¬ (a ≠ [] /\ (lvl a.length < 0 \/ (m : Int) < lvl a.length)) := fun h => a9m ht26 ((auz hm a).1 h)
  refine gl ?_
  refine gL1 [27,28] [] (fun (i : Nat) => [(29,some (i64 i))]) (fun _ => []) (fun i => i <= a.length /\ (a.take i).all Rt.valid = true) (fun i => a.length - i) 0 ⟨zero_le _,by simp⟩ ?_
  rintro i ⟨hi,hv⟩ K1 hK1
  refine gC (fun ht30 => ?_) (fun ht30 => ?_)
  ·have hin : i < a.length := by simpa [aab] using ht30
   obtain ⟨r,hr⟩ := aeg hin
   have hrok := ha r (mem_of_getElem? hr)
   refine gi (aaq hr) ?_
   refine gc (alf r hrok) ?_
   refine gC (fun ht35 => ?_) (fun ht35 => ?_)
   ·have hrv : r.valid = false := by simpa using ht35
    refine gE1 ?_
    unfold ahk
    rw [if_neg hn,if_neg]
    ·rfl
    ·rw [all_eq_true]
     intro h
     rw [h r (mem_of_getElem? hr)] at hrv; cases hrv
   ·have hrv : r.valid = true := by simpa using ht35
    refine ga abn ?_
    exact gK1 hK1 (i + 1) ⟨by omega,by rw [aa4 hr,all_append,hv]; simp [hrv]⟩
  ·have hin : i = a.length := by have : a.length <= i := (by simpa [aab] using ht30); omega
   subst hin
   rw [take_length] at hv
   refine gE1 ?_
   unfold ahk; rw [if_neg hn,if_pos hv]; rfl
theorem alm (a : List Rat) (hl : a.length <= 281474976710656) : FnC prog 329 [nA a] (bl (abc a)) := by
 refine gF0 func329 ?_
 refine gl ?_
 refine gL1 [5,6] [] (fun (i : Nat) => [(7,some (i64 i))]) (fun _ => []) (fun i => i <= a.length /\ abc (a.take i) = true) (fun i => a.length - i) 0 ⟨zero_le _,by simp [abc]⟩ ?_
 rintro i ⟨hi,hv⟩ K1 hK1
 refine gC (fun ht8 => ?_) (fun ht8 => ?_)
 ·have hin : i < a.length := by simpa [aab] using ht8
  obtain ⟨q,hq⟩ := aeg hin
  refine gi (aaq hq) ?_
  refine glG ?_
  refine glG ?_
  refine gC (fun ht24 => ?_) (fun ht24 => ?_)
  ·have h0 : q ≠ 0 := a2w ht24
   refine gE1 ?_
   have : abc a = false := by
    rw [Bool.eq_false_iff]
    intro h
    exact h0 (by simpa using List.all_eq_true.1 h q (mem_of_getElem? hq))
   rw [this]; rfl
  ·have h0 : q = 0 := aw8 ht24
   refine ga abn ?_
   exact gK1 hK1 (i + 1) ⟨by omega,by rw [aa4 hq]; simp only [abc,all_append,and_eq_true]; exact ⟨hv,by simp [h0]⟩⟩
 ·have hin : i = a.length := by have : a.length <= i := (by simpa [aab] using ht8); omega
  subst hin
  rw [take_length] at hv
  refine gE1 ?_
  rw [hv]; rfl
theorem ah1 {n : Nat} (a : List Rat) (hn : n <= 5) (ha : Nl n a) : FnC prog 235 [nA a] (nA (sh n (dec n a))) := by
 have hl := ha.len5 hn
 rw [<- agv ha hn]
 refine gF0 func235 ?_
 refine gl ?_
 refine gc (aeo a.length (by omega)) ?_
 refine gC (fun ht13 => ?_) (fun ht13 => ?_)
 ·have h0 : a = [] := by
   rcases ha with h | ⟨j,hj,h⟩
   ·exact h
   ·have h9 := ht13
    rw [h,(ao7 (by omega)).2] at h9; cases h9
  refine gs (ack T38 rfl T82 rfl rfl rfl) ?_
  refine gs (afl (.tmp rfl) rfl rfl (.tmp rfl) T38 rfl T82 rfl rfl (by simp [h0]) rfl rfl) ?_
  refine gE1 ?_
  subst h0; rfl
 ·refine gl ?_
  refine gL1 [0] [] (fun (m : Nat) => [(5,some (i64 m))]) (fun _ => []) (fun m => a11 a m) (fun m => m) a.length (ay9 (ha.mono hn)) ?_
  rintro m hm K1 hK1
  refine gs (ab6 rfl rfl rfl (fun h => ac6 (.opt rfl (o1 h)) (.const _) (by omega) (aby (by have := hm.le; omega)) rfl)) ?_
  refine gs (ab6 rfl rfl rfl (fun h => aaj (.opt rfl (o1 h)) (.some _ (.opt rfl (o1 h)) (by omega)) (.some _ (.opt rfl (o1 h)) (by omega)) T38 rfl T82 rfl (by omega) (by have := hm.le; simp; omega) rfl)) ?_
  refine gcG (fun _ => (by have h9 := alm ((a.drop (m / 2)).take (m - m / 2)) (by simp; omega); rw [<- ark] at h9; exact h9)) ?_
  refine gC (fun ht28 => ?_) (fun ht28 => ?_)
  ·have h1 : 1 < m /\ abc ((a.drop (m / 2)).take (m - m / 2)) = true := by
    have h9 := ht28
    by_cases h : (m : Int) > 1
    ·simp only [aab,decide_eq_true h,cond_true] at h9; exact ⟨by omega,h9⟩
    ·simp only [aab,decide_eq_false h,cond_false] at h9; cases h9
   refine gs (ac6 (.tmp rfl) (.const _) (by omega) (aby (by have := hm.le; omega)) rfl) ?_
   exact gK1 hK1 (m / 2) (ax4 hm h1.1 h1.2)
  ·have h1 : 1 < m -> abc ((a.drop (m / 2)).take (m - m / 2)) = false := by
    intro h
    have h9 := ht28
    simp only [aab,decide_eq_true (show (m : Int) > 1 by omega),cond_true] at h9
    exact h9
   refine gs (ab6 rfl rfl rfl (fun h => aaj (.opt rfl (o1 h)) (.none _) (.some _ (.const _) (by omega)) T38 rfl T82 rfl (by omega) (by have h8 : (m : Int) = 1 := (by simpa [aab] using h); have := hm.le; simp only [length_map]; omega) rfl)) ?_
   refine gcG (fun _ => (by have h9 := alm ((a.drop 0).take 1) (by simp; omega); rw [<- ark] at h9; exact h9)) ?_
   refine gC (fun ht37 => ?_) (fun ht37 => ?_)
   ·have h2 : m = 1 /\ abc (a.take 1) = true := by
     have h9 := ht37
     by_cases h : m = 1
     ·rw [h] at h9; exact ⟨h,h9⟩
     ·rw [show aab .eql (m : Int) 1 = false by simp [aab]; omega] at h9; cases h9
    obtain ⟨rfl,h3⟩ := h2
    refine gR ?_
    exact adj (by rw [axi hm h3]; exact Sub.nil _ _ _)
   ·have h2 : m = 1 -> abc (a.take 1) = false := by
     intro h
     have h9 := ht37
     rw [h] at h9; exact h9
    have h3 := aze hm h1 h2
    refine gs (ack T38 rfl T82 rfl rfl rfl) ?_
    refine gs (aaj (.tmp rfl) (.none _) (.some _ (.tmp rfl) (by omega)) T38 rfl T82 rfl (by omega) (by have := hm.le; simp; omega) rfl) ?_
    refine gs (afl (.tmp rfl) rfl rfl (.tmp rfl) T38 rfl T82 rfl rfl (by simp only [length_take,List.length_drop,length_map]; omega) rfl rfl) ?_
    refine gE1 ?_
    rw [h3]
    simp [nA,map_take]
theorem ahz (d : Nat) (hd : Nat.blt d 1000 = true) (a : List Rat) (n : Nat) (hl : a.length <= n) (hn : n <= 1099511627776) :
  Con prog 234 [nA a,i64 n] [] (.ms d 3 0 n) [(d,some (.row 3 ((aap a n).map qA)))] := by
 refine gF func234 (fun k z h => by cases h) ?_
 refine gs (ack T38 rfl T82 rfl rfl rfl) ?_
 refine gs (ab5 (.tmp rfl) rfl rfl (.tmp rfl) T38 rfl T82 rfl rfl (by simp only [length_map]; omega) rfl rfl) ?_
 refine gW (Wk.of (sl := [(1,some (i64 n)),(5,some (.ms 8 3 0 a.length))]) (hp := [(8,some (.row 3 ((aap a a.length).map qA)))]) (.k (.cons rfl (Sub.of (by simp)) .nil)) (.cons rfl (BlkSub.of (by simp [aap])) .nil)) ?_ (99999,0)
 refine gW (Wk.rekey (k := 8) (d := 900) rfl rfl) ?_
 refine gL1 [1] [] (fun (i : Nat) => [(5,some (.ms 900 3 0 i))]) (fun i => [(900,some (.row 3 ((aap a i).map qA)))]) (fun i => a.length <= i /\ i <= n) (fun i => n - i) a.length ⟨le_refl _,hl⟩ ?_
 rintro i ⟨hi,hin⟩ K1 hK1
 refine gC (fun ht12 => ?_) (fun ht12 => ?_)
 ·have h1 : i < n := by have := ht12; simp only [aab, decide_eq_true_eq] at this; omega
  refine gs (ab5 (.tmp rfl) rfl (by rw [length_map,aa6 hi]) (.tmp rfl) T38 rfl T82 rfl rfl (by simp; omega) rfl rfl) ?_
  exact gK1 hK1 (i + 1) ⟨by omega,h1⟩ (hw := (Wk.of (sl := [(1,some (i64 n)),(5,some (.ms 16 3 0 (i + 1)))]) (hp := [(16,some (.row 3 ((aap a (i + 1)).map qA)))]) abv (.cons rfl (a1v a i hi) .nil)).trans <| (Wk.rekey (k := 16) (d := 900) rfl rfl).trans <| Wk.o)
 ·have h1 : i = n := by have := ht12; simp only [aab, decide_eq_false_iff_not] at this; omega
  subst h1
  refine gR ?_
  exact Fin.own1 rfl hd rfl
theorem afo (a : List Rat) (n : Nat) (hl : a.length <= n) (hn : n <= 1099511627776) : FnC prog 234 [nA a, i64 n] (nA (aap a n)) := by
 have h := Con.freeze (by rw [length_map,aa6 hl]; omega) (ahz 0 rfl a n hl hn)
 rw [drop_zero,take_of_length_le (by rw [length_map,aa6 hl]; exact le_refl _)] at h
 exact h
theorem ahc (a b : List Rat) (ha : ∀ q ∈ a, Qs q) (hb : ∀ q ∈ b, Qs q) (la : a.length <= 1099511627776) (lb : b.length <= 1099511627776) : FnC prog 177 [nA a, nA b] (nA (acf a b)) := by
 obtain ⟨n,hn⟩ : ∃ n,n = max a.length b.length := ⟨_,rfl⟩
 have hwa := aa6 (show a.length <= n by omega)
 have hwb := aa6 (show b.length <= n by omega)
 have hp := abb (a := a) (b := b)
 rw [<- hn] at hp
 have qa : ∀ q ∈ aap a n,Qs q := fun q hq => by rcases List.mem_append.1 hq with h | h; exact ha q h; (rw [(List.mem_replicate.1 h).2]; exact Qs.zero)
 have qb : ∀ q ∈ aap b n,Qs q := fun q hq => by rcases List.mem_append.1 hq with h | h; exact hb q h; (rw [(List.mem_replicate.1 h).2]; exact Qs.zero)
 refine gF0 func177 ?_
 refine gl ?_
 refine gl ?_
 refine gs (avv (.tmp rfl) (.tmp rfl) rfl) ?_ (2,0)
 refine gW (Wk.of (sl := [(0,some (nA a)),(1,some (nA b)),(5,some (i64 n))]) (hp := []) (.cons rfl (.refl _) (.cons rfl (.refl _) (.cons rfl (Sub.int (by omega)) .nil))) .nil) ?_
 refine go ?_
 refine gt (abe (ahz 900 rfl a n (by omega) (by omega)) (.cons (.tmp rfl) (.cons (.tmp rfl) .nil)) (by first | exact hH0 | exact hH1 rfl | exact hH2 rfl rfl) rfl rfl) ?_
 refine gc (afo b n (by omega) (by omega)) ?_
 refine gL1 [1,19] [] (fun (i : Nat) => [(0,some (.ms 900 3 0 n)),(20,some (i64 i))]) (fun i => [(900,some (.row 3 (((acf a b).take i ++ (aap a n).drop i).map qA)))]) (fun i => i <= n) (fun i => n - i) 0 (zero_le _) ?_
 rintro i hi K1 hK1
 refine gC (fun ht21 => ?_) (fun ht21 => ?_) (st2 := (8,0))
 ·have hin : i < n := by simpa [aab] using ht21
  have hmx := ass (p := acf a b) (w := aap a n) (i := i) (by omega) (by omega)
  have hqa := (qa _ (aif (i := i) (by omega))).ok
  have hqb := (qb _ (aif (i := i) (by omega))).ok
  refine gs (aam (n := i) (.tmp rfl) (.tmp rfl) T38 rfl T82 rfl (by omega) (by omega) rfl) ?_
  refine gs (aar (.tmp rfl) rfl (aaq hmx) T82 rfl rfl rfl) ?_
  refine gi (aaq (getD_some (i := i) (l := aap b n) (by omega))) ?_
  refine gc (arx (rt ((aap a n).getD i 0)) (rt ((aap b n).getD i 0)) hqa hqb) ?_
  refine gs (aam (n := i) (.tmp rfl) (.tmp rfl) T38 rfl T82 rfl (by omega) (by omega) rfl) ?_
  refine gs (abj (.tmp rfl) rfl (aaq hmx) rfl (.tmp rfl) rfl rfl T82 rfl rfl) ?_
  refine gD ?_ (7,0)
  refine gW (Wk.of (sl := [(0,some (.ms 900 3 0 n)),(1,some (nA (aap b n))),(19,some (i64 n)),(20,some (i64 i))]) (hp := [(900,some (.row 3 (((acf a b).take (i + 1) ++ (aap a n).drop (i + 1)).map qA)))]) abv (.cons rfl (BlkSub.of (by rw [an3 (by omega) (by omega) (by rw [avb,<- hn,ahi,ahi])])) .nil)) ?_
  refine ga abn ?_
  exact gK1 hK1 (i + 1) hin
 ·have hin : i = n := by have : n <= i := (by simpa [aab] using ht21); omega
  refine gW ((Wk.freeze (k := 900) rfl).trans <| Wk.of (sl := [(0,some (nA (acf a b)))]) (hp := []) (.cons rfl (Sub.of (by rw [ace (by simp; omega),hin,List.drop_of_length_le (by omega),take_of_length_le (by omega),List.append_nil]; rfl)) .nil) .nil) ?_
  refine gE1 ?_
  rfl
theorem anw (a : List Rat) (ha : ∀ q ∈ a, Qs q) (hl : a.length <= 1099511627776) : FnC prog 178 [nA a] (nA (abz a)) := by
 refine gF0 func178 ?_
 refine gl ?_
 refine gW (Wk.virt 900 3 rfl) ?_
 refine gL1 [6,7] [] (fun (i : Nat) => [(3,some (.ms 900 3 0 i)),(8,some (i64 i))]) (fun i => [(900,some (.row 3 ((abz (a.take i)).map qA)))]) (fun i => i <= a.length) (fun i => a.length - i) 0 (zero_le _) ?_
 rintro i hi K1 hK1
 refine gC (fun ht9 => ?_) (fun ht9 => ?_) (st2 := (7,0))
 ·have hin : i < a.length := by simpa [aab] using ht9
  obtain ⟨q,hq⟩ := aeg hin
  have hqs := (ha q (mem_of_getElem? hq)).ok
  refine gi (aaq hq) ?_
  refine gc (a02 (rt q) hqs) ?_
  refine gs (ab5 (.tmp rfl) rfl (by simp [abz]; omega) (.tmp rfl) T38 rfl T82 rfl rfl (by simp; omega) rfl rfl) ?_ (6,0)
  refine gW (Wk.of (sl := [(3,some (.ms 16 3 0 (i + 1))),(6,some (nA a)),(7,some (i64 a.length)),(8,some (i64 i))]) (hp := [(16,some (.row 3 ((abz (a.take (i + 1))).map qA)))]) abv (.cons rfl (BlkSub.of (by rw [aa4 hq]; simp only [abz,map_append,ahi]; rfl)) .nil)) ?_ (6,0)
  refine gW (Wk.rekey (k := 16) (d := 900) rfl rfl) ?_
  refine ga abn ?_
  exact gK1 hK1 (i + 1) hin
 ·have hin : i = a.length := by have : a.length <= i := (by simpa [aab] using ht9); omega
  subst hin
  refine gW ((Wk.freeze (k := 900) rfl).trans <| Wk.of (sl := [(3,some (nA (abz a)))]) (hp := []) (.cons rfl (Sub.of (by rw [ace (by simp [abz]),take_length]; rfl)) .nil) .nil) ?_
  refine gE1 ?_
  rfl
end Go.Lw
namespace Go.Lw
open Go.Proofs
theorem aib (ts : List (List Rat)) (m r : Nat) (ht : aw5 ts m r) (hm : m <= 5) (R : List AV) (hR : ∀ j, j < m -> R[j]? = some (nA (ts.getD j []))) (k : Nat) : ∀ (j : Nat) (a b : List Rat) (e f : Nat), j <= m -> j <= k -> Nl j a -> Nl j b -> Cb e a -> Cb f b -> e + f + eB r j < 4398046511104 ->
  FnC prog 294 [.agg [.lst 1 R],nA a,nA b] (nA (rT ts k a b)) := by
 induction k using Nat.strongRecOn
 rename_i k ih
 intro j a b e f hj hjk ha hb ca cb hs
 obtain ⟨nx,dx⟩ := akt ha (by omega)
 obtain ⟨ny,dy⟩ := akt hb (by omega)
 have cx : Cb e (aak 5 a) := ca.sub (fun q hq => afi 5 hq)
 have cy : Cb f (aak 5 b) := cb.sub (fun q hq => afi 5 hq)
 have k1 := ah1 a (by omega) ha
 have k2 := ah1 b (by omega) hb
 rw [<- agv ha (by omega)] at k1
 rw [<- agv hb (by omega)] at k2
 obtain ⟨x,hx⟩ : ∃ x,x = aak 5 a := ⟨_,rfl⟩
 obtain ⟨y,hy⟩ : ∃ y,y = aak 5 b := ⟨_,rfl⟩
 rw [<- hx] at k1 nx dx cx
 rw [<- hy] at k2 ny dy cy
 have hlx := nx.len5 (by omega)
 have hly := ny.len5 (by omega)
 obtain ⟨n,hn⟩ : ∃ n,n = max x.length y.length := ⟨_,rfl⟩
 refine gF0 func294 ?_
 refine gc k1 ?_
 refine gc k2 ?_
 refine gl ?_
 refine gl ?_
 refine gs (avv (.tmp rfl) (.tmp rfl) rfl) ?_ (3,0)
 refine gW (Wk.of (sl := [(1,some (nA x)),(2,some (nA y)),(3,some (.ptr 3 0)),(7,some (i64 n))]) (hp := [(3,some (.box [.lst 1 R]))]) (.k (.k (.k (.cons rfl (Sub.int (by omega)) .nil)))) (.cons rfl (.refl _) .nil)) ?_
 refine gl ?_
 refine glG ?_
 refine gC (fun ht32 => ?_) (fun ht32 => ?_)
 ·have h0 : x.length = 0 \/ y.length = 0 := by have := as6 ht32; omega
  refine gR ?_
  exact adj (by rw [a1o (by rw [<- hx,<- hy]; exact h0)]; exact Sub.nil _ _ _)
 ·have h0 : ¬ (x.length = 0 \/ y.length = 0) := by have := api ht32; omega
  refine gC (fun ht34 => ?_) (fun ht34 => ?_)
  ·have h1 : max x.length y.length = 1 := by have := ht34; simp only [aab, beq_iff_eq] at this; omega
   have e1 := a5d (ts := ts) (k := k) (a := a) (b := b) (by rw [<- hx,<- hy]; exact h0) (by rw [<- hx,<- hy]; exact h1)
   rw [<- hx,<- hy] at e1
   clear hx hy
   have lx1 : x.length = 1:=by omega
   have ly1 : y.length = 1:=by omega
   clear hn
   obtain ⟨p,rfl⟩ : ∃ p,x = [p] := List.length_eq_one_iff.1 lx1
   obtain ⟨q,rfl⟩ : ∃ q,y = [q] := List.length_eq_one_iff.1 ly1
   refine gi rfl ?_
   refine gi rfl ?_
   refine gc (azm (rt p) (rt q) (cx.qs (by omega) (by simp : p ∈ [p])).ok (cy.qs (by omega) (by simp : q ∈ [q])).ok) ?_
   refine gD ?_
   refine gE1 ?_
   rw [e1,ahi,ahi]; rfl
  ·have h1 : n ≠ 1 := by have := ht34; simp only [aab, beq_eq_false_iff_ne, ne_eq] at this; omega
   obtain ⟨i,hij,hmax⟩ := (a4l nx ny h0).resolve_left (by omega)
   obtain ⟨k',rfl⟩ : ∃ k',k = k' + 1 := ⟨k - 1,by omega⟩
   have hp2 := Nat.two_pow_pos i
   have hpi : 2 ^ i <= 32 := abk (b := 5) (by omega)
   have hps : 2 ^ (i + 1) = 2 * 2 ^ i:=by rw [Nat.pow_succ]; omega
   have hnn : n = 2 ^ (i + 1):=by omega
   have hes : eB r (i + 1) <= eB r j := a4g r hij
   have hee : eB r (i + 1) = 2 * eB r i + r + 2 := rfl
   have lx : (aap x (2 ^ (i + 1))).length = 2 ^ (i + 1) := aa6 (by omega)
   have ly : (aap y (2 ^ (i + 1))).length = 2 ^ (i + 1) := aa6 (by omega)
   obtain ⟨X,hX⟩ : ∃ X,X = aap x (2 ^ (i + 1)) := ⟨_,rfl⟩
   obtain ⟨Y,hY⟩ : ∃ Y,Y = aap y (2 ^ (i + 1)) := ⟨_,rfl⟩
   have cX : Cb e X:=by rw [hX]; exact cx.wide
   have cY : Cb f Y:=by rw [hY]; exact cy.wide
   rw [<- hX] at lx
   rw [<- hY] at ly
   have n1 : Nl i (X.take (2 ^ i)) := .inr ⟨i,le_refl _,acq lx⟩
   have n2 : Nl i (X.drop (2 ^ i)) := .inr ⟨i,le_refl _,ac4 lx⟩
   have n3 : Nl i (Y.take (2 ^ i)) := .inr ⟨i,le_refl _,acq ly⟩
   have n4 : Nl i (Y.drop (2 ^ i)) := .inr ⟨i,le_refl _,ac4 ly⟩
   have nd := ht.1 i (by omega)
   have cd := ht.2.cb i
   have s1 := aet hm ht (k := k') (show i <= m by omega) (by omega) n1 n3 cX.take cY.take
   have s2 := aet hm ht (k := k') (show i <= m by omega) (by omega) n2 n4 cX.drop cY.drop
   have s3 := aet hm ht (k := k') (show i <= m by omega) (by omega) s2.1 nd s2.2.2 cd
   have s4 := aet hm ht (k := k') (show i <= m by omega) (by omega) n1 n4 cX.take cY.drop
   have s5 := aet hm ht (k := k') (show i <= m by omega) (by omega) n2 n3 cX.drop cY.take
   have hrt := az9 (ts := ts) (k := k') (a := a) (b := b) rfl (by rw [<- hx,<- hy]; exact h0) (by rw [<- hx,<- hy]; exact hmax)
   rw [<- hx,<- hy,<- hX,<- hY] at hrt
   have w1 := afo x n (by omega) (by omega)
   have w2 := afo y n (by omega) (by omega)
   rw [hnn,<- hX] at w1
   rw [hnn,<- hY] at w2
   rw [<- hnn] at w1 w2
   have pw := aeo n (by omega)
   rw [show pwk n = i + 1 by rw [hnn]; exact (ao7 (by omega)).1,show pwb n = true by rw [hnn]; exact (ao7 (by omega)).2] at pw
   refine gc w1 ?_
   refine gc w2 ?_
   refine gc pw ?_
   refine gs (ac6 (.tmp rfl) (.const _) (by omega) (show _ = ((2 ^ i : Nat) : Int) by rw [aby (by omega),hnn,abr]) rfl) ?_
   refine gs (aaj (.tmp rfl) (.none _) (.some _ (.tmp rfl) (by omega)) T38 rfl T82 rfl (by omega) (by simp only [length_map]; omega) rfl) ?_
   refine gs (ac6 (.tmp rfl) (.const _) (by omega) (show _ = ((2 ^ i : Nat) : Int) by rw [aby (by omega),hnn,abr]) rfl) ?_
   refine gs (aaj (.tmp rfl) (.some _ (.tmp rfl) (by omega)) (.none _) T38 rfl T82 rfl (by simp only [length_map]; omega) (by omega) rfl) ?_
   refine gs (ac6 (.tmp rfl) (.const _) (by omega) (show _ = ((2 ^ i : Nat) : Int) by rw [aby (by omega),hnn,abr]) rfl) ?_
   refine gs (aaj (.tmp rfl) (.none _) (.some _ (.tmp rfl) (by omega)) T38 rfl T82 rfl (by omega) (by simp only [length_map]; omega) rfl) ?_
   refine gs (ac6 (.tmp rfl) (.const _) (by omega) (show _ = ((2 ^ i : Nat) : Int) by rw [aby (by omega),hnn,abr]) rfl) ?_
   refine gs (aaj (.tmp rfl) (.some _ (.tmp rfl) (by omega)) (.none _) T38 rfl T82 rfl (by simp only [length_map]; omega) (by omega) rfl) ?_
   refine gD ?_ (10,0)
   refine gW (Wk.of (sl := [(3,some (.ptr 3 0)),(7,some (i64 n)),(8,some (i64 ((i + 1 : Nat) : Int))),(10,some (nA (X.take (2 ^ i)))),(11,some (nA (X.drop (2 ^ i)))),(12,some (nA (Y.take (2 ^ i)))),(13,some (nA (Y.drop (2 ^ i))))]) (hp := [(3,some (.box [.lst 1 R]))]) (.k (.k (.k (.cons rfl (Sub.of (ags X (2 ^ i))) (.cons rfl (Sub.of (aez X (2 ^ i))) (.cons rfl (Sub.of (ags Y (2 ^ i))) (.cons rfl (Sub.of (aez Y (2 ^ i))) .nil))))))) (.cons rfl (.refl _) .nil)) ?_
   refine gc (ih k' (by omega) i _ _ e f (by omega) (by omega) n1 n3 cX.take cY.take (by omega)) ?_
   refine gc (ih k' (by omega) i _ _ e f (by omega) (by omega) n2 n4 cX.drop cY.drop (by omega)) ?_
   refine ga (show _ = (i : Int) by rw [aa8 (by omega)]; omega) ?_
   refine gi (hR i (by omega)) ?_
   refine gc (ih k' (by omega) i _ _ _ _ (by omega) (by omega) s2.1 nd s2.2.2 cd (by omega)) ?_
   refine gc (ahc _ _ (fun q hq => s1.2.2.qs (by omega) hq) (fun q hq => s3.2.2.qs (by omega) hq) (by have := s1.1.le; omega) (by have := s3.1.le; omega)) ?_
   refine gD ?_
   refine gc (ih k' (by omega) i _ _ e f (by omega) (by omega) n1 n4 cX.take cY.drop (by omega)) ?_
   refine gc (ih k' (by omega) i _ _ e f (by omega) (by omega) n2 n3 cX.drop cY.take (by omega)) ?_
   refine gc (ahc _ _ (fun q hq => s4.2.2.qs (by omega) hq) (fun q hq => s5.2.2.qs (by omega) hq) (by have := s4.1.le; omega) (by have := s5.1.le; omega)) ?_
   refine gD ?_
   refine gs (ac6 (.tmp rfl) (.const _) (by omega) (show _ = ((2 ^ i : Nat) : Int) by rw [aby (by omega),hnn,abr]) rfl) ?_
   refine gt (abe (ahz 900 rfl _ (2 ^ i) (by have := s1.1.le; have := s3.1.le; rw [abb]; omega) (by omega)) (.cons (.tmp rfl) (.cons (.tmp rfl) .nil)) (by first | exact hH0 | exact hH1 rfl | exact hH2 rfl rfl) rfl rfl) ?_
   refine gs (ac6 (.tmp rfl) (.const _) (by omega) (show _ = ((2 ^ i : Nat) : Int) by rw [aby (by omega),hnn,abr]) rfl) ?_
   refine gc (afo _ (2 ^ i) (by have := s4.1.le; have := s5.1.le; rw [abb]; omega) (by omega)) ?_
   refine gs (afl (.tmp rfl) rfl (by have := s1.1.le; have := s3.1.le; rw [length_map,aa6 (by rw [abb]; omega)]) (.tmp rfl) T38 rfl T82 rfl rfl (by have := s4.1.le; have := s5.1.le; rw [length_map,aa6 (by rw [abb]; omega)]; show (2 ^ i + 2 ^ i) * 56 <= 140737488355328; omega) rfl rfl) ?_
   refine gE1 ?_
   rw [hrt,<- map_append]; rfl
theorem awj (ts : List (List Rat)) (m r : Nat) (ht : aw5 ts m r) (hm : m <= 5) (R : List AV) (hR : ∀ j, j < m -> R[j]? = some (nA (ts.getD j []))) (i n : Nat) (a : List Rat) (e : Nat) (hi : i + 1 <= m) (hnn : n = 2 ^ (i + 1)) (hal : a.length = 2 ^ (i + 1)) (ca : Cb e a) (hs : 4 * e + 3 * eB r i + r + 1 < 4398046511104) :
  FnC prog 293 [.agg [.lst 1 R],nA a,i64 n] (nA (ams ts i a)) := by
 have hp2 := Nat.two_pow_pos i
 have hpi : 2 ^ i <= 32 := abk (b := 5) (by omega)
 have hps : 2 ^ (i + 1) = 2 * 2 ^ i:=by rw [Nat.pow_succ]; omega
 have n1 : Nl i (a.take (2 ^ i)) := .inr ⟨i,le_refl _,acq hal⟩
 have n2 : Nl i (a.drop (2 ^ i)) := .inr ⟨i,le_refl _,ac4 hal⟩
 have nd := ht.1 i (by omega)
 have cd := ht.2.cb i
 have s1 := aet hm ht (k := i) (show i <= m by omega) (by omega) n1 n1 ca.take ca.take
 have s2 := aet hm ht (k := i) (show i <= m by omega) (by omega) n2 n2 ca.drop ca.drop
 have s3 := aet hm ht (k := i) (show i <= m by omega) (by omega) s2.1 nd s2.2.2 cd
 have w1 := afo a n (by omega) (by omega)
 rw [show aap a n = a by unfold aap; rw [hnn,hal]; simp] at w1
 have pw := aeo n (by omega)
 rw [show pwk n = i + 1 by rw [hnn]; exact (ao7 (by omega)).1,show pwb n = true by rw [hnn]; exact (ao7 (by omega)).2] at pw
 refine gF0 func293 ?_
 refine gc w1 ?_
 refine gc pw ?_
 refine gs (ac6 (.tmp rfl) (.const _) (by omega) (show _ = ((2 ^ i : Nat) : Int) by rw [aby (by omega),hnn,abr]) rfl) ?_
 refine gs (aaj (.tmp rfl) (.none _) (.some _ (.tmp rfl) (by omega)) T38 rfl T82 rfl (by omega) (by simp only [length_map]; omega) rfl) ?_
 refine gs (ac6 (.tmp rfl) (.const _) (by omega) (show _ = ((2 ^ i : Nat) : Int) by rw [aby (by omega),hnn,abr]) rfl) ?_
 refine gs (aaj (.tmp rfl) (.some _ (.tmp rfl) (by omega)) (.none _) T38 rfl T82 rfl (by simp only [length_map]; omega) (by omega) rfl) ?_
 refine gD ?_ (4,0)
 refine gW (Wk.of (sl := [(3,some (.ptr 3 0)),(7,some (i64 ((i + 1 : Nat) : Int))),(9,some (nA (a.take (2 ^ i)))),(10,some (nA (a.drop (2 ^ i))))]) (hp := [(3,some (.box [.lst 1 R]))]) (.k (.k (.cons rfl (Sub.of (ags a (2 ^ i))) (.cons rfl (Sub.of (aez a (2 ^ i))) .nil)))) (.cons rfl (.refl _) .nil)) ?_
 refine gc (aib ts m r ht hm R hR i i _ _ e e (by omega) (by omega) n1 n1 ca.take ca.take (by omega)) ?_
 refine gc (aib ts m r ht hm R hR i i _ _ e e (by omega) (by omega) n2 n2 ca.drop ca.drop (by omega)) ?_
 refine ga (show _ = (i : Int) by rw [aa8 (by omega)]; omega) ?_
 refine gi (hR i (by omega)) ?_
 refine gc (aib ts m r ht hm R hR i i _ _ _ _ (by omega) (by omega) s2.1 nd s2.2.2 cd (by omega)) ?_
 refine gc (anw _ (fun q hq => s3.2.2.qs (by omega) hq) (by have := s3.1.le; omega)) ?_
 refine gc (ahc _ _ (fun q hq => s1.2.2.qs (by omega) hq) (fun q hq => s3.2.2.minus.qs (by omega) hq) (by have := s1.1.le; omega) (by have := s3.1.le; rw [aci]; omega)) ?_
 refine gD ?_
 refine gE1 ?_
 rfl
theorem ani (ts : List (List Rat)) (m r : Nat) (ht : aw5 ts m r) (hm : m <= 5) (hpos : ∀ j, j < m -> 0 <= T.sgn (aat ts) j (aat ts j)) (R : List AV) (hR : ∀ j, j < m -> R[j]? = some (nA (ts.getD j []))) (j : Nat) : ∀ (a : List Rat) (e : Nat), j <= m -> Nl j a -> Cb e a -> sB r j e < 4398046511104 ->
  FnC prog 176 [.agg [.lst 1 R],nA a] (i64 (T.sgn (aat ts) j (dec j a))) := by
 induction j using Nat.strongRecOn
 rename_i j ih
 intro a e hj ha ca hs
 have hse := a07 r j e
 obtain ⟨s,hsa⟩ : ∃ s,s = sh j (dec j a) := ⟨_,rfl⟩
 have hsd : dec j s = dec j a:=by rw [hsa,aga]
 have hsn : Nl j s:=by rw [hsa]; exact am9 j _
 have cs : Cb e s:=by rw [hsa]; exact ca.sh ha
 have hls := hsn.len5 (by omega)
 rw [<- hsd]
 refine gF0 func176 ?_
 refine gc (hsa ▸ ah1 a (by omega) ha) ?_
 refine gl ?_
 refine gC (fun ht15 => ?_) (fun ht15 => ?_)
 ·have h1 : s = [] := List.length_eq_zero_iff.1 (by have := ht15; simp only [aab, beq_iff_eq] at this; omega)
  refine gE1 ?_
  rw [h1,aeu,T.sgn_zero]; rfl
 ·have h1 : s.length ≠ 0 := by have := ht15; simp only [aab, beq_eq_false_iff_ne, ne_eq] at this; omega
  refine gl ?_
  refine gC (fun ht19 => ?_) (fun ht19 => ?_)
  ·have h2 : s.length = 1 := by have := ht19; simp only [aab, beq_iff_eq] at this; omega
   obtain ⟨q,rfl⟩ := List.length_eq_one_iff.1 h2
   refine gi rfl ?_
   refine gc (anv (rt q) (cs.qs (by omega) (by simp : q ∈ [q])).ok) ?_
   refine gE1 ?_
   rw [ajy,T.sgn_ofQ,ahi]
  ·have h2 : s.length ≠ 1 := by have := ht19; simp only [aab, beq_eq_false_iff_ne, ne_eq] at this; omega
   obtain ⟨i, hij, hsl⟩ : ∃ i, i + 1 <= j /\ s.length = 2 ^ (i + 1) := by
    rcases ag9 hsn with h | h | h
    ·exact absurd h h1
    ·exact absurd h h2
    ·exact h
   have hp2 := Nat.two_pow_pos i
   have hpi : 2 ^ i <= 32 := abk (b := 5) (by omega)
   have hps : 2 ^ (i + 1) = 2 * 2 ^ i:=by rw [Nat.pow_succ]; omega
   have n1 : Nl i (s.take (2 ^ i)) := .inr ⟨i,le_refl _,acq hsl⟩
   have n2 : Nl i (s.drop (2 ^ i)) := .inr ⟨i,le_refl _,ac4 hsl⟩
   have nd := ht.1 i (by omega)
   have cd := ht.2.cb i
   obtain ⟨nn,dn,cn⟩ := asm hm ht (by omega) hsl cs
   have b1 : sB r i (4 * e + 3 * eB r i + r + 1) <= sB r j e := auf r e hij
   have b2 : sB r i e <= sB r i (4 * e + 3 * eB r i + r + 1) := ajq r i (by omega)
   have b3 : sB r i r <= sB r i (4 * e + 3 * eB r i + r + 1) := ajq r i (by omega)
   have b4 := a07 r i (4 * e + 3 * eB r i + r + 1)
   have k1 := ih i (by omega) (s.take (2 ^ i)) e (by omega) n1 cs.take (by omega)
   have k2 := ih i (by omega) (s.drop (2 ^ i)) e (by omega) n2 cs.drop (by omega)
   have k3 := ih i (by omega) _ r (by omega) nd cd (by omega)
   have k4 := ih i (by omega) _ _ (by omega) nn cn (by omega)
   have v3 : T.sgn (aat ts) i (dec i (ts.getD i [])) = 0 \/ T.sgn (aat ts) i (dec i (ts.getD i [])) = 1 := by
    have h9 : 0 <= T.sgn (aat ts) i (dec i (ts.getD i [])) := hpos i (by omega)
    have := T.sgn_cases (aat ts) i (dec i (ts.getD i []))
    omega
   have hres : T.sgn (aat ts) j (dec j s) = T.sgn3 (T.sgn (aat ts) i (dec i (s.take (2 ^ i)))) (T.sgn (aat ts) i (dec i (s.drop (2 ^ i)))) (T.sgn (aat ts) i (dec i (ts.getD i []))) (T.sgn (aat ts) i (dec i (ams ts i s))) := by
    rw [ax8 _ (by omega) hij,dn]; rfl
   rw [a3u v3] at hres
   have v1 := T.sgn_cases (aat ts) i (dec i (s.take (2 ^ i)))
   have v2 := T.sgn_cases (aat ts) i (dec i (s.drop (2 ^ i)))
   have v4 := T.sgn_cases (aat ts) i (dec i (ams ts i s))
   have pw := aeo s.length (by omega)
   rw [show pwk s.length = i + 1 by rw [hsl]; exact (ao7 (by omega)).1,show pwb s.length = true by rw [hsl]; exact (ao7 (by omega)).2] at pw
   refine gc pw ?_
   refine ga (show _ = (i : Int) by rw [aa8 (by omega)]; omega) ?_
   refine gi (hR i (by omega)) ?_
   refine gs (ac6 (.tmp rfl) (.const _) (by omega) (show _ = ((2 ^ i : Nat) : Int) by rw [aby (by omega),hsl,abr]) rfl) ?_
   refine gs (aaj (.tmp rfl) (.none _) (.some _ (.tmp rfl) (by omega)) T38 rfl T82 rfl (by omega) (by simp only [length_map]; omega) rfl) ?_
   refine gc (by have h9 := k1; rw [<- ags] at h9; exact h9) ?_
   refine gs (ac6 (.tmp rfl) (.const _) (by omega) (show _ = ((2 ^ i : Nat) : Int) by rw [aby (by omega),hsl,abr]) rfl) ?_
   refine gs (aaj (.tmp rfl) (.some _ (.tmp rfl) (by omega)) (.none _) T38 rfl T82 rfl (by simp only [length_map]; omega) (by omega) rfl) ?_
   refine gc (by have h9 := k2; rw [<- aez] at h9; exact h9) ?_
   refine gc k3 ?_
   refine ga (amd v2 (.inr v3)) ?_
   refine gD ?_
   refine gC (fun ht57 => ?_) (fun ht57 => ?_)
   ·have e2 := as6 ht57
    refine gE1 ?_
    rw [hres,if_pos e2]
   ·have e2 := api ht57
    refine gC (fun ht60 => ?_) (fun ht60 => ?_)
    ·have e3 : T.sgn (aat ts) i (dec i (s.take (2 ^ i))) = 0 := by simpa [aab] using ht60
     refine gE1 ?_
     rw [hres,if_neg e2,if_pos e3]; rfl
    ·have e3 : ¬ T.sgn (aat ts) i (dec i (s.take (2 ^ i))) = 0 := by simpa [aab] using ht60
     refine gc (awj ts m r ht hm R hR i s.length s e (by omega) hsl hsl cs (by omega)) ?_
     refine gc k4 ?_
     refine ga (amd v1 v4) ?_
     refine gD ?_
     refine gE1 ?_
     rw [hres,if_neg e2,if_neg e3]; rfl
theorem aso (rs : List (List Rt)) (r : Nat) (h : TR rs r) : FnC prog 129 [am1 rs] (i64 (amq rs)) := by
 have hll := h.ll
 have hr := h.le
 refine gF0 func129 ?_
 refine gl ?_
 refine gC (fun ht9 => ?_) (fun ht9 => ?_)
 ·have h5 : 5 < rs.length := by have := ht9; simp only [aab, decide_eq_true_eq] at this; omega
  refine gE1 ?_
  rw [auw h5]; rfl
 ·have h5 : rs.length <= 5 := by have := ht9; simp only [aab, decide_eq_false_iff_not] at this; omega
  refine gl ?_
  refine gL1 [1,11,12] [1] (fun (k : Nat) => [(13,some (i64 k))]) (fun _ => []) (fun k => k <= rs.length /\ ∀ j,j < k -> atj rs j) (fun k => rs.length - k) 0 ⟨zero_le _,fun j hj => by omega⟩ ?_
  rintro k ⟨hk,hj⟩ K1 hK1
  refine gC (fun ht14 => ?_) (fun ht14 => ?_)
  ·have hin : k < rs.length := by simpa [aab] using ht14
   obtain ⟨d,hd⟩ := aeg hin
   have hdm := mem_of_getElem? hd
   have hdl := h.len d hdm
   refine gi (aaq hd) ?_
   refine gl ?_
   refine gs (afg (.const _) (.tmp rfl) (by omega) (aix (by omega)) rfl) ?_
   refine gC (fun ht22 => ?_) (fun ht22 => ?_)
   ·have h1 : d.length ≠ 2 ^ k := by have := ht22; simp only [aab, bne_iff_ne, ne_eq] at this; omega
    refine gE1 ?_
    rw [at9 h5 hd hj h1]; rfl
   ·have h1 : d.length = 2 ^ k := by have := ht22; simp only [aab, bne_eq_false_iff_eq] at this; omega
    have hnu := aj5 k (by omega) d (h.ok d hdm) hdl
    refine gc hnu ?_
    refine gC (fun ht27 => ?_) (fun ht27 => ?_)
    ·have h2 := a2d ht27
     refine gE1 ?_
     rw [aur h5 hd hj h1 h2]
    ·have h2 := a3n ht27
     have hts := aqe (ts := llq rs) (fun j hjk => (hj j hjk).nl) h.rb
     have hq := an5 h2 (h.ok d hdm)
     have hcb : Cb r (lq d):=by have := h.rb.cb k; rw [aiz,getD_eq_getElem?_getD,hd] at this; exact this
     have hsg : FnC prog 176 [am1 rs, nR d] (i64 (T.sgn (aat (llq rs)) k (dec k (lq d)))) := by
      have h9 := ani ((llq rs).take k) k r hts (by omega) (fun j hjk => by rw [T.sgn_congr j (fun i hi => ag7 (show i < k by omega)),ag7 hjk]; exact (hj j hjk).2.2) (rs.map nR) (fun j hjk => a8a h.ok (show k <= rs.length by omega) hj hjk) k (lq d) r (le_refl _) hq.2 hcb (ayw (le_refl k) (by have := h.three; omega) hr (by have := a9i k; omega))
      rw [T.sgn_congr k (fun j hjk => ag7 hjk)] at h9
      rw [hq.1,agz]
      rw [<- hq.1]; exact h9
     refine gc hsg ?_
     refine gC (fun ht32 => ?_) (fun ht32 => ?_)
     ·have h3 : T.sgn (aat (llq rs)) k (dec k (lq d)) < 0 := by simpa [aab] using ht32
      refine gE1 ?_
      rw [avc h5 hd hj h1 h2 h3]; rfl
     ·have h3 : ¬ T.sgn (aat (llq rs)) k (dec k (lq d)) < 0 := by simpa [aab] using ht32
      refine ga abn ?_
      exact gK1 hK1 (k + 1) ⟨hin,fun j hjk => by rcases lt_or_ge j k with h9 | h9; exact hj j h9; (have : j = k:=by omega); subst this; exact ay7 hd h1 h2 h3⟩
  ·have hin : k = rs.length := by have : rs.length <= k := (by simpa [aab] using ht14); omega
   subst hin
   refine gE1 ?_
   rw [at8 h5 hj]; rfl
theorem apx (rs : List (List Rt)) (r : Nat) (h : TR rs r) (xs : List (List Rt)) (hx : ∀ a ∈ xs, (∀ x ∈ a, x.ok) /\ a.length <= 281474976710656) (hl : xs.length <= 281474976710656) : FnC prog 175 [am1 rs, .lst 1 (xs.map nR)] (i64 (ab7 rs xs)) := by
 refine gF0 func175 ?_
 refine gc (aso rs r h) ?_
 refine gC (fun ht12 => ?_) (fun ht12 => ?_)
 ·have h1 := a2d ht12
  refine gE1 ?_
  rw [at2 h1]
 ·have h1 := a3n ht12
  have h5 : rs.length <= 5:=by have := (aj1 h h1).1.five; rwa [length_map] at this
  refine gl ?_
  refine gL1 [2,14,15] [2] (fun (i : Nat) => [(16,some (i64 i))]) (fun _ => []) (fun i => i <= xs.length /\ ∀ x ∈ xs.take i,ahk rs.length x = 0) (fun i => xs.length - i) 0 ⟨zero_le _,fun x hx => by simp at hx⟩ ?_
  rintro i ⟨hi,hj⟩ K1 hK1
  refine gC (fun ht17 => ?_) (fun ht17 => ?_)
  ·have hin : i < xs.length := by simpa [aab] using ht17
   obtain ⟨a,ha⟩ := aeg hin
   have hok := hx a (mem_of_getElem? ha)
   refine gi (aaq ha) ?_
   refine gl ?_
   refine gc (aj5 rs.length h5 a hok.1 hok.2) ?_
   refine gC (fun ht26 => ?_) (fun ht26 => ?_)
   ·have h2 := a2d ht26
    refine gE1 ?_
    rw [ayc h1 ha hj h2]
   ·have h2 := a3n ht26
    refine ga abn ?_
    exact gK1 hK1 (i + 1) ⟨hin,fun x hx => by rw [aa4 ha] at hx; rcases List.mem_append.1 hx with h9 | h9; exact hj x h9; (rw [List.mem_singleton.1 h9]; exact h2)⟩
  ·have hin : i = xs.length := by have : xs.length <= i := (by simpa [aab] using ht17); omega
   subst hin
   rw [take_length] at hj
   refine gE1 ?_
   rw [aox h1 hj]; rfl
theorem axj (rs : List (List Rt)) (r : Nat) (h : TR rs r) (a b : List Rt) (e f : Nat) (ha : NR a e) (hb : NR b f) (he : e + f + 1 <= lm rs.length) :
  FnC prog 79 [am1 rs,nR a,nR b] (.tup [i64 (if ab7 rs [a,b] = 0 then T.sgn (aat (llq rs)) rs.length (T.add rs.length (dec rs.length (lq a)) (T.neg rs.length (dec rs.length (lq b)))) else 0),i64 (ab7 rs [a,b])]) := by
 have hr := h.le
 have hlm := aqk rs.length
 refine gF0 func79 ?_
 refine gc (apx rs r h [a,b] (aq7 ha hb) (by simp)) ?_
 refine gC (fun ht15 => ?_) (fun ht15 => ?_) (st2 := (77777,0))
 ·have h1 := a2d ht15
  refine gE2 ?_
  rw [if_neg h1]; rfl
 ·have h1 := a3n ht15
  obtain ⟨h2,h3⟩ := ahx h1
  obtain ⟨tw,e0⟩ := aj1 h h2
  obtain ⟨e1,na⟩ := ha.num (h3 a (by simp))
  obtain ⟨e2,nb⟩ := hb.num (h3 b (by simp))
  have hlen : (llq rs).length = rs.length := length_map _
  have h5 : rs.length <= 5:=by have := tw.five; omega
  have hla := na.len5 h5
  have hlb := nb.len5 h5
  have htw := tw.ok
  rw [hlen] at htw
  have qa : ∀ q ∈ lq a,Qs q := fun q hq => ha.cb.qs (by omega) hq
  have qb : ∀ q ∈ lq b,Qs q := fun q hq => hb.cb.qs (by omega) hq
  have qm : ∀ q ∈ abz (lq b),Qs q := fun q hq => hb.cb.minus.qs (by omega) hq
  have np := ah6 na (af2 nb)
  have hsg := ani (llq rs) rs.length r htw h5 (fun j hj => tw.pos j (by omega)) ((llq rs).map nA) (fun j hj => at1 (by omega)) rs.length _ _ (le_refl _) np (ha.cb.plus hb.cb.minus) (ayw (le_refl rs.length) (by have := tw.three; omega) hr (by omega))
  refine gW (Wk.of (sl := [(1,some (nA (lq a))),(2,some (nA (lq b))),(3,some (.ptr 3 0)),(8,some (i64 (ab7 rs [a,b])))]) (hp := [(3,some (.box [.lst 1 ((llq rs).map nA)]))]) (.cons rfl (Sub.of e1) (.cons rfl (Sub.of e2) (.k (.k .nil)))) (.cons rfl (BlkSub.boxL (.cons (.of (aoi e0)) .nil) rfl) .nil)) ?_
  refine gc (anw _ qb (by omega)) ?_
  refine gc (ahc _ _ qa qm (by omega) (by rw [aci]; omega)) ?_
  refine gc hsg ?_
  refine gD ?_
  refine gE2 ?_
  rw [if_pos h1,h1,ac8,ad9]; rfl
theorem a3k (x : Rt) (hx : x.ok) (hs : Qs x.q) : FnC prog 137 [x.av] (nA (sh 0 (x.q : Rat))) := by
 have hadd := arx x (rt 0) hx Qs.zero.ok
 rw [a87] at hadd
 refine gF0 func137 ?_
 refine gc (anv x hx) ?_
 refine gC (fun ht5 => ?_) (fun ht5 => ?_)
 ·have h0 : x.q = 0 := aiw (by simpa [aab] using ht5)
  refine gR ?_
  exact adj (by rw [h0]; exact Sub.nil _ _ _)
 ·have h0 : x.q ≠ 0 := fun h => by rw [h] at ht5; cases ht5
  refine gc (Con.subA (.cons (.refl _) (.cons apr .nil)) hadd) ?_
  refine gE1 ?_
  have : sh 0 (x.q : Rat) = [x.q] := if_neg h0
  rw [this]; rfl
end Go.Lw
namespace Go.Lw
open Go.Proofs
theorem bdb {p q : Rat} (hp : Qs p) (hq : Qs q) : FnC prog 206 [qA p, qA q] (qA (p + q)) := by
 have h := ad5 (rt p) (rt q) hp.ok hq.ok
 rw [ahi,ahi] at h
 exact h
theorem bcd {p q : Rat} (hp : Qs p) (hq : Qs q) : FnC prog 281 [qA p, qA q] (qA (p - q)) := by
 have h := ane (rt p) (rt q) hp.ok hq.ok
 rw [ahi,ahi] at h
 exact h
theorem bb9 {p q : Rat} (hp : Qs p) (hq : Qs q) : FnC prog 288 [qA p, qA q] (qA (p * q)) := by
 have h := ahj (rt p) (rt q) hp.ok hq.ok
 rw [ahi,ahi] at h
 exact h
theorem bcb {p q : Rat} (hp : Qs p) (hq : Qs q) : FnC prog 431 [qA p, qA q] (.tup [qA (p / q), ahg (if q = 0 then 8 else 0)]) := by
 have h := am7 (rt p) (rt q) hp.ok hq.ok
 rw [ahi,ahi] at h
 exact h
theorem bcc {p : Rat} (hp : Qs p) : FnC prog 111 [qA p] (qA (-p)) := by
 have h := ae9 (rt p) hp.ok
 rw [ahi] at h
 exact h
theorem a9o {p : Rat} (hp : Qs p) : FnC prog 313 [qA p] (i64 (ajn p)) := by
 have h := ael (rt p) hp.ok
 rw [ahi] at h
 exact h
end Go.Lw
namespace Go.Lw
open Go.Proofs
theorem bbm {ts : List (List Rat)} {r e f : Nat} (tw : Tw ts r) {a b : List Rat} (ha : Nm ts.length e a) (hb : Nm ts.length f b) (he : e + f <= lm ts.length) :
  FnC prog 231 [am3 ts,nA a,nA b] (.tup [nA (sh ts.length (T.add ts.length (dec ts.length a) (dec ts.length b))),.v .nilIface]) := by
 have h := as7 (ts.map (List.map rt)) r tw.tr (a.map rt) (b.map rt) e f (ha.rt (by omega)) (hb.rt (by omega)) (by rw [length_map]; exact he)
 have h0 : ab7 (ts.map (List.map rt)) [a.map rt,b.map rt] = 0 := amr tw ha hb
 rw [h0,if_pos rfl,agm,agz,agz,ai4,ai4,length_map] at h
 exact h
theorem a9h {ts : List (List Rat)} {r e f : Nat} (tw : Tw ts r) {a b : List Rat} (ha : Nm ts.length e a) (hb : Nm ts.length f b) (he : e + f <= lm ts.length) :
  FnC prog 163 [am3 ts,nA a,nA b] (.tup [nA (sh ts.length (T.add ts.length (dec ts.length a) (T.neg ts.length (dec ts.length b)))),.v .nilIface]) := by
 have h := as2 (ts.map (List.map rt)) r tw.tr (a.map rt) (b.map rt) e f (ha.rt (by omega)) (hb.rt (by omega)) (by rw [length_map]; exact he)
 have h0 : ab7 (ts.map (List.map rt)) [a.map rt,b.map rt] = 0 := amr tw ha hb
 rw [h0,if_pos rfl,agm,agz,agz,ai4,ai4,length_map] at h
 exact h
theorem a9f {ts : List (List Rat)} {r e f : Nat} (tw : Tw ts r) {a b : List Rat} (ha : Nm ts.length e a) (hb : Nm ts.length f b) (he : e + f <= lm ts.length) :
  FnC prog 164 [am3 ts,nA a,nA b] (.tup [nA (sh ts.length (T.mul (aat ts) ts.length (dec ts.length a) (dec ts.length b))),.v .nilIface]) := by
 have h := asx (ts.map (List.map rt)) r tw.tr (a.map rt) (b.map rt) e f (ha.rt (by omega)) (hb.rt (by omega)) (by rw [length_map]; exact he)
 have h0 : ab7 (ts.map (List.map rt)) [a.map rt,b.map rt] = 0 := amr tw ha hb
 rw [h0,if_pos rfl,agm,agz,agz,anj,ai4,ai4,length_map] at h
 exact h
theorem a95 {ts : List (List Rat)} {r e f : Nat} (tw : Tw ts r) {a b : List Rat} (ha : Nm ts.length e a) (hb : Nm ts.length f b) (he : e + f + 1 <= lm ts.length) :
  FnC prog 449 [am3 ts,nA a,nA b] (.tup [i64 (T.sgn (aat ts) ts.length (T.add ts.length (dec ts.length a) (T.neg ts.length (dec ts.length b)))),.v .nilIface]) := by
 have h := ase (ts.map (List.map rt)) r tw.tr (a.map rt) (b.map rt) e f (ha.rt (by omega)) (hb.rt (by omega)) (by rw [length_map]; exact he)
 have h0 : ab7 (ts.map (List.map rt)) [a.map rt,b.map rt] = 0 := amr tw ha hb
 rw [h0,if_pos rfl,agm,agz,agz,anj,ai4,ai4,length_map] at h
 exact h
theorem a5y {ts : List (List Rat)} {r e : Nat} (tw : Tw ts r) {a : List Rat} (ha : Nm ts.length e a) (he : e <= lm ts.length) :
  FnC prog 205 [am3 ts,nA a] (.tup [i64 (T.sgn (aat ts) ts.length (dec ts.length a)),.v .nilIface]) := by
 have h := apt (ts.map (List.map rt)) r tw.tr (a.map rt) e (ha.rt he) (by rw [length_map]; exact he)
 have h0 : ab7 (ts.map (List.map rt)) [a.map rt] = 0 := axo tw ha
 rw [h0,if_pos rfl,agm,agz,anj,ai4,length_map] at h
 exact h
theorem a8q {ts : List (List Rat)} {r e f : Nat} (tw : Tw ts r) {a b : List Rat} (ha : Nm ts.length e a) (hb : Nm ts.length f b) (he : e + f + 1 <= lm ts.length) :
  FnC prog 79 [am3 ts,nA a,nA b] (.tup [i64 (T.sgn (aat ts) ts.length (T.add ts.length (dec ts.length a) (T.neg ts.length (dec ts.length b)))),i64 0]) := by
 have h := axj (ts.map (List.map rt)) r tw.tr (a.map rt) (b.map rt) e f (ha.rt (by omega)) (hb.rt (by omega)) (by rw [length_map]; exact he)
 have h0 : ab7 (ts.map (List.map rt)) [a.map rt,b.map rt] = 0 := amr tw ha hb
 rw [h0,if_pos rfl,agm,agz,agz,anj,ai4,ai4,length_map] at h
 exact h
theorem a8p {ts : List (List Rat)} {r e : Nat} (tw : Tw ts r) {a : List Rat} (ha : Nm ts.length e a) (he : e <= lm ts.length) :
  FnC prog 148 [am3 ts,nA a] (.tup [nA (sh ts.length (T.neg ts.length (dec ts.length a))),.v .nilIface]) := by
 have h := ata (ts.map (List.map rt)) r tw.tr (a.map rt) e (ha.rt he) (by rw [length_map]; exact he)
 have h0 : ab7 (ts.map (List.map rt)) [a.map rt] = 0 := axo tw ha
 rw [h0,if_pos rfl,agm,agz,ai4,length_map] at h
 exact h
theorem a12 {ts : List (List Rat)} {r : Nat} (tw : Tw ts r) : FnC prog 145 [am3 ts] (.v .nilIface) := by
 have h := aig (ts.map (List.map rt)) r tw.tr
 rw [tw.chk,agm] at h
 exact h
theorem bdp {q : Rat} (h : Qs q) : FnC prog 149 [qA q] (nA (sh 0 (q : Rat))) := by
 have h1 := avs (rt q) h.ok (by rw [ahi]; exact h)
 rw [ahi] at h1
 exact h1
theorem bc4 {q : Rat} (h : Qs q) : FnC prog 137 [qA q] (nA (sh 0 (q : Rat))) := by
 have h1 := a3k (rt q) h.ok (by rw [ahi]; exact h)
 rw [ahi] at h1
 exact h1
end Go.Lw
namespace Go.Lw
open Go.Proofs
end Go.Lw
namespace Go.Lw
open Go.Proofs
theorem asr {ts : List (List Rat)} {r e f : Nat} (tw : Tw ts r) {a b : List Rat} (ha : Nm ts.length e a) (hb : Nm ts.length f b) (he : e + f + 1 <= lm ts.length) : FnC prog 17 [am3 ts, nA a, nA b] (bl (eqT ts (dec ts.length a) (dec ts.length b))) := by
 refine gF0 func17 ?_
 refine gc (a8q tw ha hb he) ?_
 refine gE1 ?_
 exact congrArg bl (a55 _)
end Go.Lw
namespace Go.Lw
open Go.Proofs
end Go.Lw
namespace Go.Lw
open Go.Proofs
section
variable {ts : List (List Rat)} {u k : Nat} {a b a2 b2 : List Rat} {x y x2 y2 : Et ts} {w v w' v' w2 v2 w3 v3 : Nat}
def atXE (c s X : Et ts) (p q : Rat) : Et ts := (c * qE p - s * qE q) + X
def atYE (c s Y : Et ts) (p q : Rat) : Et ts := (s * qE p + c * qE q) + Y
instance Zu.atXE [c : Ct ts u k] {x y z : Et ts} {p q : Rat} {w1 v1 w2 v2 w3 v3 w4 w5 : Nat} [Zu u k x w1 v1] [Zu u k y w2 v2] [Zu u k z w3 v3] [Qz u p w4] [Qz u q w5] : Zu u k (atXE x y z p q) (w1 + w4 + (w2 + w5) + w3) (v1 + 0 + 1 + (v2 + 0 + 1) + 1 + v3 + 1) :=
  (inferInstance : Zu u k ((x * Lw.qE p - y * Lw.qE q) + z) _ _)
instance Zu.atYE [c : Ct ts u k] {x y z : Et ts} {p q : Rat} {w1 v1 w2 v2 w3 v3 w4 w5 : Nat} [Zu u k x w1 v1] [Zu u k y w2 v2] [Zu u k z w3 v3] [Qz u p w4] [Qz u q w5] : Zu u k (atYE x y z p q) (w2 + w4 + (w1 + w5) + w3) (v2 + 0 + 1 + (v1 + 0 + 1) + 1 + v3 + 1) :=
  (inferInstance : Zu u k ((y * Lw.qE p + x * Lw.qE q) + z) _ _)
end
end Go.Lw
