/- DyadModes: for any linkage, any group and turn, any assembly the law returns true and leaves its arguments as they were. No other condition. Part 4 of 7: what the later parts need -/
import Derived.Test.YtnhbhlcebbmdoaaGreatXc
import Derived.Test.YtnhbhlcebbmdoaaGreatRows
set_option linter.unusedVariables false
open List (mem_of_getElem? mem_cons_of_mem mem_append map_cons mem_cons length_cons mem_cons_self length_append length_nil getD_eq_getElem?_getD getElem?_eq_none all_eq_true getElem?_take getElem?_map getElem?_eq_getElem drop_eq_nil_of_le nil_append map_append length_take take_of_length_le length_map drop_zero take_length not_mem_nil drop_drop map_take length_replicate map_replicate map_set length_set)
open Nat (le_refl lt_of_lt_of_le lt_or_ge le_trans mul_le_mul_right mul_le_mul_left zero_le pow_add lt_of_le_of_lt)
open Option (map_eq_some_iff)
open Bool (and_eq_true or_eq_true)
open Int (toNat_natCast natAbs_natCast)
open Go.Proofs.Tryz
namespace Go.Lw
open Go.Proofs
theorem aim (a b:List Nat) (ha:Ws a) (hb:Ws b) (na:Nz a) (nb:Nz b) (hb0:b ≠ []) (la:a.length < big) (lb:b.length < big) :
  FnC prog 312 [ws a,ws b] (.tup [ws (ofNat (val a / val b)),ws (ofNat (val a % val b))]):=by
 have la':=la;unfold big at la lb;refine gF0 func312 ?_;refine gc (afc a b ha hb na nb) ?_;refine gC (fun ht22=>?_) (fun ht22=>?_)
 ·have h1:val a < val b:=by
   simp only [aaa] at ht22;split at ht22
   ·assumption
   ·split at ht22 <;> simp at ht22
  refine gc (alr a ha (by omega)) ?_;refine gR ?_;exact bdf (by rw [Nat.div_eq_of_lt h1]; exact Sub.nil _ _ _) (by rw [Nat.mod_eq_of_lt h1]; exact Sub.refl _)
 ·have h1:val b <= val a:=by
   simp only [aaa] at ht22;split at ht22
   ·simp at ht22
   ·omega
  refine gl ?_;refine gC (fun ht27=>?_) (fun ht27=>?_)
  ·have hl : b.length = 1 := by have := ht27; simp [aaa] at this; omega
   obtain ⟨x,rfl⟩:∃ x,b = [x]:=List.length_eq_one_iff.1 hl;have hx:x ≠ 0:=nb x rfl;have hxB:x < 4294967296:=hb x (by simp);have hv:val [x] = x:=by simp [val]
   have hm:=Nat.mod_lt (val a) (show 0 < x by omega);refine gi (show _ = some (u32 x) from rfl) ?_;refine gc (aqq a x ha (by omega) (by omega) hxB) ?_;refine gc (alr [val a % x] (aul (by omega)) (by simp [big])) ?_;refine gE2 ?_;rw [hv]; simp [val]
  ·have hl : b.length ≠ 1 := by have := ht27; simp [aaa] at this; omega
   obtain ⟨n,hn⟩:∃ n,b.length = n + 2:=⟨b.length - 2,by have:=List.length_pos_iff.2 hb0; omega⟩
   obtain ⟨sh,v,hsh,hsh2,hv,wv,lv,vv,hvt,htop,hlo⟩:=bma hb nb hn
   have hab:b.length <= a.length:=by
    rcases lt_or_ge a.length b.length with h2 | h2
    ·have:=agj ha nb h2; omega
    ·exact h2
   obtain ⟨lq,hlq⟩:∃ lq,a.length + 1 = lq + (n + 2):=⟨a.length + 1 - (n + 2),by omega⟩
   have hbt:=aaq hb (n + 1);refine gl ?_;refine ga (show _ = ((n + 1:Nat):Int) by rw [abd (by omega)]; omega) ?_;refine gi (aut (n:=n + 1) (by omega) (by first | omega | (simp; omega))) ?_;refine gc (show FnC _ _ _ (i64 (sh:Nat)) by rw [hsh]; exact an5 _ hbt) ?_;refine gt (aad (anz 900 rfl b sh hb (by unfold big; omega) hsh2) (.cons (.tmp rfl) (.cons (.tmp rfl) .nil)) (by first | exact hH0 | exact hH1 rfl | exact hH2 rfl rfl) rfl rfl) ?_;refine gl ?_;refine gs (ajf (.tmp rfl) (.none _) (.some _ (.tmp rfl) (by omega)) T27 rfl T218 rfl (by omega) (by omega) rfl) ?_;refine gt (aad (anz 901 rfl a sh ha (by unfold big; omega) hsh2) (.cons (.tmp rfl) (.cons (.tmp rfl) .nil)) (by first | exact hH0 | exact hH1 rfl | exact hH2 rfl rfl) rfl rfl) ?_;refine gD ?_ (8,0);refine gW ((Wk.freeze (k:=900) rfl).trans <| Wk.of (sl:=[(0,some (ws a)),(1,some (ws b)),(8,some (i64 sh)),(9,some (ws v)),(10,some (.ms 901 1 0 (a.length + 1)))]) (hp:=[(901,some (.row 1 ((ad1 (a.length + 1) (2 ^ sh * val a)).map u32)))]) (.k (.k (.k (.cons rfl (Sub.of (bms hn hv)) (.k .nil))))) (.cons rfl (.refl _) .nil)) ?_;refine gl ?_;refine ga (show _ = (lq:Int) by rw [lv,abd (by omega)]; omega) ?_;refine gs (afq (.tmp rfl) T27 rfl T218 rfl rfl (by omega) (by dsimp only; omega) rfl) ?_;refine gl ?_;refine ga (show _ = ((n + 1:Nat):Int) by rw [lv,abd (by omega)]; omega) ?_;refine gi (aut (n:=n + 1) (by omega) (by first | omega | (simp; omega))) ?_;refine gv (u64_in (by have:=aaq wv (n + 1); omega)) ?_;refine gl ?_;refine ga (show _ = (n:Int) by rw [lv,abd (by omega)]; omega) ?_;refine gi (aut (n:=n) (by omega) (by first | omega | (simp; omega))) ?_;refine gv (u64_in (by have:=aaq wv n; omega)) ?_;refine gD ?_;refine ga (abd (by omega)) ?_;refine gL3 [8,9,12,13] [] (fun (q u:List Nat) (j:Nat)=>[(10,some (.ms 901 1 0 (a.length + 1))),(11,some (.ms 61 1 0 lq)),(14,some (i64 ((j:Int) - 1)))]) (fun q u _=>[(901,some (.row 1 (u.map u32))),(61,some (.row 1 (q.map u32)))]) (fun q u j=>q.length = lq /\ u.length = a.length + 1 /\ Ws q /\ Ws u /\ j <= lq /\ val (u.drop j) < val v /\ 2 ^ sh * val a = val v * (4294967296 ^ j * val (q.drop j)) + val u) (fun _ _ j=>j) (List.replicate lq 0) (ad1 (a.length + 1) (2 ^ sh * val a)) lq ⟨by simp,ab0 _ _,akk _,aft _ _,le_refl _,by rw [vv]; exact (bdv ha hsh2 hlq hlo).2,by rw [(bdv ha hsh2 hlq hlo).1]; simp [val]⟩ ?_ (h2:=(.cons rfl (.refl _) (.cons rfl (BlkSub.of (by rw [map_replicate]; rfl)) .nil)))
   rintro q u j ⟨hql,hul,wq,wu,hj,hlt,hU⟩ K1 hK1;refine gC (fun ht80=>?_) (fun ht80=>?_) (st2:=(23,0))
   ·have hj0 : 1 <= j := by have := ht80; simp [aaa] at this; omega
    obtain ⟨k,rfl⟩:∃ k,j = k + 1:=⟨j - 1,by omega⟩
    obtain ⟨W,hW⟩:∃ W,W = val (win u k (n + 3)):=⟨_,rfl⟩
    have hVl:val v < 4294967296 ^ (n + 2):=by have:=abn v wv; rwa [lv] at this
    obtain ⟨e1,e2,e3⟩:=bcv (u:=u) (q:=q) (k:=k) (lv:=n + 2) wu (by omega) (by omega) hVl hlt hU;simp only [show n + 2 + 1 = n + 3 from rfl] at e1 e2 e3;have hdig:=bmq wv (anh wu k (n + 3)) lv (akv (by omega)) hvt e1;rw [<- hW] at e1 e2 e3 hdig;have wp:=anh wu k (n + 3);have b1:=aaq wp n;have b2:=aaq wp (n + 1);have b3:=aaq wp (n + 2);have b4:=hdig.htop;have b5:=hdig.htopB;have b6:=hdig.hnext;obtain ⟨top,htop'⟩:∃ top,top = aac v (n + 1):=⟨_,rfl⟩
    obtain ⟨nx,hnx⟩:∃ nx,nx = aac v n:=⟨_,rfl⟩
    obtain ⟨hd,hhd⟩:∃ hd,hd = aac (win u k (n + 3)) (n + 2) * 4294967296 + aac (win u k (n + 3)) (n + 1):=⟨_,rfl⟩
    obtain ⟨th,hth⟩:∃ th,th = aac (win u k (n + 3)) n:=⟨_,rfl⟩
    rw [<- htop',<- hnx,<- hhd,<- hth] at hdig;rw [<- htop'] at b4 b5 ⊢;rw [<- hnx] at b6 ⊢;rw [<- hth] at b1;have hdB:hd < 18446744073709551616:=by omega
    refine gl ?_;refine ga (show _ = ((k + n + 2:Nat):Int) by rw [lv,aa4 (by omega)]; omega) ?_;refine ga (show _ = ((k + n + 3:Nat):Int) by rw [aa4 (by omega)]; omega) ?_;refine gs (ajf (.tmp rfl) (.some _ (.tmp rfl) (by omega)) (.some _ (.tmp rfl) (by omega)) T27 rfl T218 rfl (by omega) (by omega) rfl) ?_ (14,0);refine gW (Wk.of (sl:=[(8,some (i64 sh)),(9,some (ws v)),(10,some (.ms 901 1 0 (a.length + 1))),(11,some (.ms 61 1 0 lq)),(12,some (u64 top)),(13,some (u64 nx)),(14,some (i64 k)),(15,some (.ms 901 1 k (n + 3)))]) (hp:=[(901,some (.row 1 (u.map u32))),(61,some (.row 1 (q.map u32)))]) (.k (.k (.k (.k (.k (.k (.cons rfl (Sub.int (by omega)) (.cons rfl (Sub.of (by congr 1 <;> omega)) .nil)))))))) (.cons rfl (.refl _) (.cons rfl (.refl _) .nil))) ?_
    refine gl ?_;refine gs (agv (n:=n + 2) (.tmp rfl) (.tmp rfl) T27 rfl T218 rfl (by omega) (by omega) rfl) ?_;refine gs (aae (.tmp rfl) rfl (a9u (n:=n + 3) (i:=n + 2) (by omega) (by omega)) T218 rfl rfl rfl) ?_;refine gv (u64_in (by omega)) ?_;refine gs (afx (.tmp rfl) (.const _) (by omega) (amm (n:=32) (by omega) (by omega)) rfl) ?_;refine gl ?_;refine ga (show _ = ((n + 1:Nat):Int) by rw [lv,abd (by omega)]; omega) ?_;refine gs (agv (n:=n + 1) (.tmp rfl) (.tmp rfl) T27 rfl T218 rfl (by omega) (by omega) rfl) ?_;refine gs (aae (.tmp rfl) rfl (a9u (n:=n + 3) (i:=n + 1) (by omega) (by omega)) T218 rfl rfl rfl) ?_;refine gv (u64_in (by omega)) ?_;refine gs (ae6 (.tmp rfl) (.tmp rfl) rfl ((ahc (by omega) (by omega)).trans (show _ = (hd:Int) by rw [awa (by omega),hhd])) rfl) ?_;refine gD ?_;refine gs (ad0 (.tmp rfl) (.tmp rfl) (by omega) (a44 hdB) rfl) ?_;refine gs (azq (.tmp rfl) (.tmp rfl) (by omega) a5l rfl) ?_;refine gD ?_;refine gL2 [8,9,12,13,14] [901,61] (fun (g r:Nat)=>[(10,some (.ms 901 1 0 (a.length + 1))),(11,some (.ms 61 1 0 lq)),(15,some (.ms 901 1 k (n + 3))),(17,some (u64 g)),(18,some (u64 r))]) (fun _ _=>[]) (fun g r=>W / val v <= g /\ g * top + r = hd /\ g < 18446744073709551616 /\ r < 8589934592) (fun g _=>g) (hd / top) (hd % top) ⟨hdig.first,by rw [Nat.mul_comm]; exact Nat.div_add_mod _ _,by have:=Nat.div_le_self hd top; omega,by have:=Nat.mod_lt hd (show 0 < top by omega); omega⟩ ?_
    rintro g r ⟨hg,hgr,hgB,hrB⟩ K2 hK2;refine gaG (fun ⟨h,h2⟩=>(auc (by simp [aaa] at h2; have:=aod (x:=g) (y:=nx) (by omega) b6; omega))) ?_;refine gs (ah2 rfl rfl rfl (fun h h2=>afx (.opt rfl (o2 h h2)) (.const _) (by omega) (amm (n:=32) (by omega) (by simp [aaa] at h; omega)) rfl)) ?_;refine glG ?_;refine gaG (fun _=>(show _ = (n:Int) by rw [lv,abd (by omega)]; omega)) ?_;refine gs (ah2 rfl rfl rfl (fun h h2=>agv (n:=n) (.opt rfl (o2 h h2)) (.opt rfl (o2 h h2)) T27 rfl T218 rfl (by omega) (by omega) rfl)) ?_;refine gs (ah2 rfl rfl rfl (fun h h2=>aae (.opt rfl (o2 h h2)) rfl (a9u (n:=n + 3) (i:=n) (by omega) (by omega)) T218 rfl rfl rfl)) ?_;refine gvG (fun _=>(u64_in (by omega))) ?_;refine gs (ah2 rfl rfl rfl (fun h h2=>ae6 (.opt rfl (o2 h h2)) (.opt rfl (o2 h h2)) rfl ((ahc (by simp [aaa] at h; omega) (by omega)).trans (by rw [awa (by omega)])) rfl)) ?_;refine gC (fun ht133=>?_) (fun ht133=>?_)
    ·have hc:r < 4294967296 /\ (4294967296 <= g \/ r * 4294967296 + th < g * nx):=by
      rw [hth];have h9:=a1h.1 ht133
      rwa [show r * 2 ^ 32 = r * 4294967296 from rfl] at h9
     have hg1:=hdig.step hg hgr hc.2;have hg0:1 <= g:=Nat.succ_le_of_lt (lt_of_le_of_lt (zero_le _) hg1);refine ga (a1m (by omega) (by omega)) ?_;refine ga (ae0 (by omega)) ?_;exact gK2 hK2 (g - 1) (r + top) ⟨Nat.le_sub_one_of_lt hg1,by rw [Nat.sub_mul]; have:=mul_le_mul_right top (show 1 <= g by omega); omega,by omega,by omega⟩
    ·have hc:¬ (r < 4294967296 /\ (4294967296 <= g \/ r * 4294967296 + th < g * nx)):=by
      rw [hth];intro hh;rw [show r * 4294967296 = r * 2 ^ 32 from rfl] at hh;exact Bool.eq_false_iff.1 ht133 (a1h.2 hh)
     obtain ⟨hgB2,hgq⟩:=hdig.last hgr hc;have hVp:=hdig.vpos;have hWl:val (win u k (n + 3)) < 4294967296 ^ (n + 3):=by have:=abn _ wp; rwa [akv (by omega)] at this
     obtain ⟨p1,p2⟩:=bac hVp (show val v <= 4294967296 ^ (n + 3) by have:=Nat.pow_le_pow_right (show 0 < 4294967296 by omega) (show n + 2 <= n + 3 by omega); omega) (hW ▸ hWl) hg hgq;have hwul:k + (n + 3) <= u.length:=by omega
     have hwr:(wr u k (ad1 (n + 3) (a4d g (val v) W (n + 3)))).length = a.length + 1:=by rw [amf (by rw [ab0]; omega),hul]
     refine gt (aad (Con.rekey 901 rfl rfl (an8 u v k (n + 3) g wu wv (by omega) hwul hgB2 (by unfold ac0; omega))) (.cons (.tmp rfl) (.cons (.tmp rfl) (.cons (.tmp rfl) .nil))) (by first | exact hH0 | exact hH1 rfl | exact hH2 rfl rfl) rfl rfl) ?_;refine gC (fun ht142=>?_) (fun ht142=>?_)
     ·have hlt2 : W < g * val v := by rw [hW]; simpa using ht142
      obtain ⟨q1,q2,q3⟩:=p1 hlt2;have hrl:a4d g (val v) W (n + 3) < 4294967296 ^ (n + 3):=by unfold a4d; rw [if_neg (by omega)]; rw [<- hW] at hWl; omega
      refine ga (a1m (by omega) (by omega)) ?_;refine gt (aad (Con.rekey 901 rfl rfl (aq9 (wr u k (ad1 (n + 3) (a4d g (val v) (val (win u k (n + 3))) (n + 3)))) v k (n + 3) (a3s wu (aft _ _)) wv (by omega) (by rw [<- hW,hwr]; omega) (by rw [<- hW,hwr]; unfold ac0; omega))) (.cons (.tmp rfl) (.cons (.tmp rfl) .nil)) (by first | exact hH0 | exact hH1 rfl | exact hH2 rfl rfl) rfl rfl) ?_;refine gv ((abe _).trans (by rw [Nat.mod_eq_of_lt (by omega)])) ?_;refine gs (aar (n:=k) (.tmp rfl) (.tmp rfl) T27 rfl T218 rfl (by omega) (by omega) rfl) ?_;refine gs (aa2 (.tmp rfl) rfl (ahp (i:=k) (by omega)) rfl (.tmp rfl) rfl rfl T218 rfl rfl) ?_;refine ga (abd (by omega)) ?_;exact gK3 hK1 (q.set k (W / val v)) (wr u k (ad1 (n + 3) (W % val v))) k ⟨by simp [hql],by rw [amf (by rw [ab0]; omega),hul],ae2 wq hdig.q_lt,a3s wu (aft _ _),by omega,e2,e3⟩ (hw:=Wk.of abj (.cons rfl (BlkSub.of (by rw [<- hW]; first | (rw [q1]; done) | (rw [a9b (r:=W % val v) hwul (ab0 _ _) (by rw [afh _ _ hrl]; exact q1)]; done))) (.cons rfl (BlkSub.of (by rw [map_set,q2]; rfl)) .nil)))
     ·have hlt2 : ¬ W < g * val v := by rw [hW]; simpa using ht142
      obtain ⟨q1,q2⟩:=p2 hlt2;refine gv ((abe _).trans (by rw [Nat.mod_eq_of_lt (by omega)])) ?_;refine gs (aar (n:=k) (.tmp rfl) (.tmp rfl) T27 rfl T218 rfl (by omega) (by omega) rfl) ?_;refine gs (aa2 (.tmp rfl) rfl (ahp (i:=k) (by omega)) rfl (.tmp rfl) rfl rfl T218 rfl rfl) ?_;refine ga (abd (by omega)) ?_;exact gK3 hK1 (q.set k (W / val v)) (wr u k (ad1 (n + 3) (W % val v))) k ⟨by simp [hql],by rw [amf (by rw [ab0]; omega),hul],ae2 wq hdig.q_lt,a3s wu (aft _ _),by omega,e2,e3⟩ (hw:=Wk.of abj (.cons rfl (BlkSub.of (by rw [<- hW]; first | (rw [q1]; done) | (rw [a9b (r:=W % val v) hwul (ab0 _ _) (by rw [afh _ _ hrl]; exact q1)]; done))) (.cons rfl (BlkSub.of (by rw [map_set,q2]; rfl)) .nil)))
   ·have hj0 : j = 0 := by have := ht80; simp [aaa] at this; omega
    subst hj0;have hU':2 ^ sh * val a = 2 ^ sh * val b * val q + val u:=by rw [<- vv]; simpa using hU
    obtain ⟨hQ,hR⟩:=bgl hU' (by rw [<- vv]; simpa using hlt);refine gW ((Wk.freeze (k:=61) rfl).trans <| (Wk.freeze (k:=901) rfl).trans <| Wk.of (sl:=[(8,some (i64 sh)),(10,some (ws u)),(11,some (ws q))]) (hp:=[]) (.k (.cons rfl (Sub.of (abu (by simp [hul]))) (.cons rfl (Sub.of (by rw [show AV.fz 61 1 (q.map u32) (.ms 61 1 0 lq) = ws q from abu (by simp [hql])]; rfl)) .nil))) .nil) ?_;refine gc (alr q wq (by unfold big; omega)) ?_;refine gc (arb u sh wu (by unfold big; omega) hsh2) ?_;refine gE2 ?_;rw [<- hQ,<- hR]
end Go.Lw
namespace Go.Lw
open Go.Proofs
theorem aoc {b:Bool} {n:Nat}:(cond b (aaa .gtr ((ofNat n).length:Int) 0) false) = true ↔ (b = true /\ 0 < n):=by
 have h:aaa .gtr ((ofNat n).length:Int) 0 = true ↔ 0 < n:=by
  simp only [aaa,decide_eq_true_eq];constructor
  ·intro h; rcases Nat.eq_zero_or_pos n with h1 | h1; (subst h1; simp [a3k] at h); exact h1
  ·intro h;have:ofNat n ≠ []:=by intro h1; have:=aam n; rw [h1] at this; simp [val] at this; omega
   have:=List.length_pos_iff.2 this;omega
 cases b with
 | false=>simp
 | true=>exact ⟨fun h1=>⟨rfl,h.1 h1⟩,fun h1=>h.2 h1.2⟩
theorem ag0 (a:Wh) (ha:a.ok):FnC prog 264 [a.av] (i64 a.z.sign):=by
 obtain ⟨e1,e2,e3⟩:=a18 ha;refine gF0 func264 ?_;refine gc (abp a ha) ?_;refine gl ?_;refine gC (fun ht3=>?_) (fun ht3=>?_)
 ·have h0 : a.m.length = 0 := by simpa [aaa] using ht3
  refine gE1 ?_;rw [e1 h0]; rfl
 ·have h0 : a.m.length ≠ 0 := by simpa [aaa] using ht3
  refine gC (fun ht8=>?_) (fun ht8=>?_)
  ·refine gE1 ?_;rw [e2 h0 ht8]; rfl
  ·refine gE1 ?_;rw [e3 h0 ht8]; rfl
theorem ate (a b:Wh) (ha:a.ok) (hb:b.ok):FnC prog 299 [a.av, b.av] (i64 (awh a.z b.z)):=by
 refine gF0 func299 ?_;refine gc (ag0 a ha) ?_;refine gc (ag0 b hb) ?_;refine gD ?_;refine gC (fun ht14=>?_) (fun ht14=>?_)
 ·have h0 : a.z.sign ≠ b.z.sign := by simpa [aaa] using ht14
  obtain ⟨e1,e2⟩:=bap h0;refine gC (fun ht17=>?_) (fun ht17=>?_)
  ·have h1 : a.z.sign < b.z.sign := by simpa [aaa] using ht17
   refine gE1 ?_;rw [e1 h1]; rfl
  ·have h1 : ¬ a.z.sign < b.z.sign := by simpa [aaa] using ht17
   refine gE1 ?_;rw [e2 h1]; rfl
 ·have h0 : a.z.sign = b.z.sign := by simpa [aaa] using ht14
  have e1:=bcs h0;refine gc (abp a ha) ?_;refine gc (abp b hb) ?_;refine gc (afc a.m b.m (Wh.ws ha) (Wh.ws hb) a.nz b.nz) ?_;refine gD ?_;refine gc (abc a ha) ?_;refine gC (fun ht24=>?_) (fun ht24=>?_)
  ·rw [ht24, if_pos rfl] at e1;refine gs (a95 (.tmp rfl) rfl) ?_;refine gE1 ?_;rw [e1];split
   ·rfl
   ·split <;> rfl
  ·rw [ht24, if_neg Bool.false_ne_true] at e1;refine gE1 ?_
   first | (rw [e1]; done) | (rw [e1]; rfl)
theorem aub (a:Wh) (ha:a.ok) (la:a.mag.length < big):FnC prog 265 [a.av] (zA (-a.z)):=by
 refine gF0 func265 ?_;refine gc (abc a ha) ?_;refine gc (abp a ha) ?_;refine gc (aa8 _ a.m (Wh.ws ha) (Nat.le_of_lt (Wh.small ha la))) ?_;refine gD ?_;refine gE1 ?_;rw [Wh.z_eq,<- a6i]; rfl
theorem aso (a b:Wh) (ha:a.ok) (hb:b.ok) (la:a.mag.length + b.mag.length <= big):FnC prog 271 [a.av, b.av] (zA (a.z * b.z)):=by
 have h1:=Wh.m_le (w:=a);have h2:=Wh.m_le (w:=b);have h3:(ofNat (val a.m * val b.m)).length <= a.m.length + b.m.length:=aal (by rw [pow_add]; exact Nat.mul_lt_mul'' (abn _ (Wh.ws ha)) (abn _ (Wh.ws hb)));refine gF0 func271 ?_;refine gc (abc a ha) ?_;refine gc (abc b hb) ?_;refine gc (abp a ha) ?_;refine gc (abp b hb) ?_;refine gc (aps a.m b.m (Wh.ws ha) (Wh.ws hb) (by omega)) ?_;refine gc (aa8 _ _ (aa7 _) (by omega)) ?_;refine gD ?_;refine gE1 ?_;rw [aam,a9q]; rfl
theorem as8 (a b:Wh) (ha:a.ok) (hb:b.ok) (la:a.mag.length < big) (lb:b.mag.length < big):FnC prog 270 [a.av, b.av] (zA (a.z + b.z)):=by
 have h1:=Wh.m_le (w:=a);have h2:=Wh.m_le (w:=b);have hla:val a.m < 4294967296 ^ (max a.m.length b.m.length):=lt_of_lt_of_le (abn _ (Wh.ws ha)) (Nat.pow_le_pow_right (by omega) (by omega));have hlb:val b.m < 4294967296 ^ (max a.m.length b.m.length):=lt_of_lt_of_le (abn _ (Wh.ws hb)) (Nat.pow_le_pow_right (by omega) (by omega));have h3:(ofNat (val a.m + val b.m)).length <= max a.m.length b.m.length + 1:=aal (by rw [Nat.pow_succ]; omega);have h4:(ofNat (val a.m - val b.m)).length <= max a.m.length b.m.length:=aal (by omega);have h5:(ofNat (val b.m - val a.m)).length <= max a.m.length b.m.length:=aal (by omega);refine gF0 func270 ?_;refine gc (abp a ha) ?_;refine gc (abp b hb) ?_;refine gD ?_;refine gc (abc a ha) ?_;refine gc (abc b hb) ?_;refine gD ?_;refine gC (fun ht11=>?_) (fun ht11=>?_)
 ·have h0 : a.n = b.n := by simpa using ht11
  refine gc (abc a ha) ?_;refine gc (akl a.m b.m (Wh.ws ha) (Wh.ws hb) (by omega) (by omega)) ?_;refine gc (aa8 _ _ (aa7 _) (by omega)) ?_;refine gE1 ?_;rw [aam,a14 h0]; rfl
 ·have h0 : a.n ≠ b.n := by simpa using ht11
  refine gc (afc a.m b.m (Wh.ws ha) (Wh.ws hb) a.nz b.nz) ?_;refine gC (fun ht23=>?_) (fun ht23=>?_)
  ·have h6:val b.m <= val a.m:=by
    rcases lt_or_ge (val a.m) (val b.m) with h | h
    ·rw [if_pos h] at ht23; cases ht23
    ·exact h
   refine gc (abc a ha) ?_;refine gc (agy a.m b.m (Wh.ws ha) (Wh.ws hb) (by omega) (by rcases lt_or_ge a.m.length b.m.length with h | h; (have:=agj (Wh.ws ha) b.nz h; omega); exact h) h6) ?_;refine gc (aa8 _ _ (aa7 _) (by omega)) ?_;refine gE1 ?_;rw [aam,at4 h0 h6]; rfl
  ·have h6:val a.m < val b.m:=by
    rcases lt_or_ge (val a.m) (val b.m) with h | h
    ·exact h
    ·rw [if_neg (by omega)] at ht23; split at ht23 <;> cases ht23
   refine gc (abc b hb) ?_;refine gc (agy b.m a.m (Wh.ws hb) (Wh.ws ha) (by omega) (by rcases lt_or_ge b.m.length a.m.length with h | h; (have:=agj (Wh.ws hb) a.nz h; omega); exact h) (by omega)) ?_;refine gc (aa8 _ _ (aa7 _) (by omega)) ?_;refine gE1 ?_;rw [aam,avj h0 (by omega)]; rfl
theorem al1 (a b:Wh) (ha:a.ok) (hb:b.ok) (la:a.mag.length < big) (lb:b.mag.length < big):FnC prog 266 [a.av, b.av] (zA (Int.gcd a.z b.z)):=by
 refine gF0 func266 ?_;refine gc (abp a ha) ?_;refine gc (abp b hb) ?_;refine gD ?_;refine gL2 [4] [4] (fun (x y:List Nat)=>[(5,some (ws x)),(6,some (ws y))]) (fun _ _=>[]) (fun x y=>Ws x /\ Ws y /\ Nz x /\ Nz y /\ x.length < big /\ y.length < big /\ Nat.gcd (val x) (val y) = Int.gcd a.z b.z) (fun _ y=>val y) a.m b.m ⟨Wh.ws ha,Wh.ws hb,a.nz,b.nz,Wh.small ha la,Wh.small hb lb,by rw [Int.gcd,Wh.abs,Wh.abs]⟩ ?_;rintro x y ⟨wx,wy,nx,ny,lx,ly,hg⟩ K1 hK1;refine gl ?_;refine gC (fun ht15=>?_) (fun ht15=>?_)
 ·have hy : y ≠ [] := by intro h; subst h; simp [aaa] at ht15
  have hy0:=ak4 ny hy;have hm:=Nat.mod_lt (val x) hy0;refine gc (aim x y wx wy nx ny hy lx ly) ?_;exact gK2 hK1 y (ofNat (val x % val y)) ⟨wy,aa7 _,ny,ajs _,ly,lt_of_le_of_lt (aal (Nat.lt_trans hm (abn y wy))) ly,by rw [aam,<- hg,Nat.gcd_comm (val x) (val y),Nat.gcd_comm (val y) (val x % val y)]; exact (Nat.gcd_rec _ _).symm⟩ (by show val (ofNat _) < val y; rw [aam]; exact hm)
 ·have hy:y = []:=by
   cases y with
   | nil=>rfl
   | cons c l=>simp [aaa] at ht15
  subst hy;have hg':val x = Int.gcd a.z b.z:=by rw [<- hg]; simp [val]
  refine gc (aa8 false x wx (Nat.le_of_lt lx)) ?_;refine gE1 ?_;rw [hg']; rfl
theorem ati (a b:Wh) (ha:a.ok) (hb:b.ok) (la:a.mag.length + 1 < big) (lb:b.mag.length < big) (h0:b.z ≠ 0):FnC prog 267 [a.av, b.av] (.tup [zA (a.z / b.z), zA (a.z % b.z), .v .nilIface]):=by
 have hm1:=Wh.m_le (w:=a);have hm2:=Wh.m_le (w:=b);have hb1:val b.m ≠ 0:=by have:=Wh.abs (w:=b); omega
 have hb2:b.m ≠ []:=fun h=>hb1 (by rw [h]; rfl)
 have hl1:(ofNat (val a.m / val b.m)).length <= a.m.length:=aal (lt_of_le_of_lt (Nat.div_le_self _ _) (abn _ (Wh.ws ha)));have hmod:=Nat.mod_lt (val a.m) (show 0 < val b.m by omega);have hl2:(ofNat (val a.m % val b.m)).length <= b.m.length:=aal (Nat.lt_trans hmod (abn _ (Wh.ws hb)));have hl3:(ofNat (val a.m / val b.m + 1)).length <= a.m.length + 1:=aal (by have h7:=lt_of_le_of_lt (Nat.div_le_self (val a.m) (val b.m)) (abn _ (Wh.ws ha)); rw [Nat.pow_succ]; generalize val a.m / val b.m = m at *; omega);have hl4:(ofNat (val b.m - val a.m % val b.m)).length <= b.m.length:=aal (by have:=abn _ (Wh.ws hb); omega);have hv1:val [1] = 1:=rfl;refine gF0 func267 ?_;refine gc (abp b hb) ?_;refine gl ?_;refine gC (fun ht14=>?_) (fun ht14=>?_) (st1:=(3,0))
 ·exact absurd (List.length_eq_zero_iff.1 (by simpa [aaa] using ht14)) hb2
 ·refine gc (abp a ha) ?_;refine gc (aim a.m b.m (Wh.ws ha) (Wh.ws hb) a.nz b.nz hb2 (by omega) (by omega)) ?_;refine gc (abc a ha) ?_;refine glG ?_;refine gC (fun ht31=>?_) (fun ht31=>?_)
  ·have h1:a.n = true /\ 0 < val a.m % val b.m:=aoc.1 ht31;obtain ⟨e1,e2⟩:=az5 hb1 h1.1 h1.2;refine gc (akl (ofNat (val a.m / val b.m)) [1] (aa7 _) (aul (by omega)) (by omega) (by unfold big; simp)) ?_;refine gc (agy b.m (ofNat (val a.m % val b.m)) (Wh.ws hb) (aa7 _) (by omega) hl2 (by rw [aam]; omega)) ?_ (7,0);refine gW (Wk.of (sl:=[(2,some (.ptr 2 0)),(3,some (.ptr 3 0)),(4,some (.ptr 4 0)),(5,some (.ptr 5 0)),(8,some (ws (ofNat (val a.m / val b.m + 1)))),(9,some (ws (ofNat (val b.m - val a.m % val b.m))))]) (hp:=[(2,some (.box [bl a.neg,ws a.mag])),(3,some (.box [bl b.neg,ws b.mag])),(4,some (.box [.v (.bool false),.v (.slice none 0 0)])),(5,some (.box [.v (.bool false),.v (.slice none 0 0)]))]) (.k (.k (.k (.k (.cons rfl (Sub.of (by rw [aam,hv1])) (.cons rfl (Sub.of (by rw [aam])) .nil)))))) (.cons rfl (.refl _) (.cons rfl (.refl _) (.cons rfl (.refl _) (.cons rfl (.refl _) .nil))))) ?_
   refine gc (abc a ha) ?_;refine gc (abc b hb) ?_;refine gc (by apply aa8 _ _ (aa7 _) (by omega)) ?_;refine gc (by apply aa8 _ _ (aa7 _) (by omega)) ?_;refine gD ?_;refine gR ?_;exact ao6 (by rw [aam,aam,e1,show sgn false _ = _ from e2]; rfl)
  ·have h1:¬ (a.n = true /\ 0 < val a.m % val b.m):=fun h=>Bool.eq_false_iff.1 ht31 (aoc.2 h)
   obtain ⟨e1,e2⟩:=a6j hb1 h1;refine gc (abc a ha) ?_;refine gc (abc b hb) ?_;refine gc (by apply aa8 _ _ (aa7 _) (by omega)) ?_;refine gc (by apply aa8 _ _ (aa7 _) (by omega)) ?_;refine gD ?_;refine gR ?_;exact ao6 (by rw [aam,aam,e1,show sgn false _ = _ from e2]; rfl)
end Go.Lw
namespace Go.Lw
open Go.Proofs
theorem a1u {N:Nat} (h:N < 18446744073709551616):val [N % 4294967296, N / 2 ^ 32] = N:=by
 simp only [val]; omega
theorem bc9 {N:Nat} (h:N < 18446744073709551616):Ws [N % 4294967296, N / 2 ^ 32]:=by
 intro x hx;simp only [mem_cons,not_mem_nil,or_false] at hx;rcases hx with rfl | rfl <;> omega
theorem anl (n:Int) (h:-9223372036854775808 <= n /\ n <= 9223372036854775807):FnC prog 169 [i64 n] (zA n):=by
 obtain ⟨N,hN⟩:∃ N,N = n.natAbs:=⟨_,rfl⟩
 have hNB:N < 18446744073709551616:=by omega
 refine gF0 func169 ?_;refine gv (show IntKind.u64.wrap n = ((n % 18446744073709551616:Int)) by simp only [IntKind.wrap,IntKind.signed,IntKind.bits,Bool.false_and,if_false,Bool.false_eq_true]; omega) ?_;refine gC (fun ht7=>?_) (fun ht7=>?_) (st2:=(77777,0))
 ·have hn : n < 0 := by simpa [aaa] using ht7
  refine gs (a95 (.tmp rfl) rfl) ?_ (4,0);refine gW (Wk.of (sl:=[(0,some (i64 n)),(2,some (.ptr 2 0)),(3,some (u64 N))]) (hp:=[(2,some (.box [.v (.bool false),.v (.slice none 0 0)]))]) (.k (.k (.cons rfl (Sub.int (by simp only [IntKind.wrap,IntKind.signed,IntKind.bits,Bool.false_and,if_false,Bool.false_eq_true]; omega)) .nil))) (.cons rfl (.refl _) .nil)) ?_;refine gv (abe _) ?_;refine gs (adw (.tmp rfl) (.const _) (by omega) (adz _ 32 (by omega)) rfl) ?_;refine gv ((abe _).trans (by rw [Nat.mod_eq_of_lt (show N / 2 ^ 32 < 4294967296 by omega)])) ?_;refine gc (aa8 (aaa .lss n 0) [N % 4294967296,N / 2 ^ 32] (bc9 hNB) (by unfold big; simp)) ?_;refine gE1 ?_;rw [a1u hNB,show sgn (aaa .lss n 0) N = n by simp only [sgn,aaa,decide_eq_true_eq]; split <;> omega]; rfl
 ·have hn : ¬ n < 0 := by simpa [aaa] using ht7
  refine gW (Wk.of (sl:=[(0,some (i64 n)),(2,some (.ptr 2 0)),(3,some (u64 N))]) (hp:=[(2,some (.box [.v (.bool false),.v (.slice none 0 0)]))]) (.k (.k (.cons rfl (Sub.int (by omega)) .nil))) (.cons rfl (.refl _) .nil)) ?_;refine gv (abe _) ?_;refine gs (adw (.tmp rfl) (.const _) (by omega) (adz _ 32 (by omega)) rfl) ?_;refine gv ((abe _).trans (by rw [Nat.mod_eq_of_lt (show N / 2 ^ 32 < 4294967296 by omega)])) ?_;refine gc (aa8 (aaa .lss n 0) [N % 4294967296,N / 2 ^ 32] (bc9 hNB) (by unfold big; simp)) ?_;refine gE1 ?_;rw [a1u hNB,show sgn (aaa .lss n 0) N = n by simp only [sgn,aaa,decide_eq_true_eq]; split <;> omega]; rfl
end Go.Lw
namespace Go.Lw
theorem am4:∀ (j k v:Nat), j <= k -> (ad1 k v).take j = ad1 j v
 | 0,_,_,_=>by simp [ad1]
 | j + 1,0,_,h=>by omega
 | j + 1, k + 1, v, h=>by
  rw [ad1,ad1,List.take_succ_cons,am4 j k _ (by omega)]
theorem az8 {m:List Nat} (h:Ws m):(ofNat (val m)).length <= m.length:=aal (abn m h)
theorem avm {m:List Nat} (h:Ws m):m.take (ofNat (val m)).length = ofNat (val m):=by
 have h1:=ao2 m h;have h2:=ao2 (ofNat (val m)) (aa7 _);rw [aam] at h2;have h3:=am4 _ _ (val m) (az8 h);rw [<- h1,<- h2] at h3;exact h3
theorem a67 {m:List Nat} {n:Nat} (h:Ws m) (hn:n <= m.length) (hv:val (m.take n) = val m) (h0:n = 0 \/ aac m (n - 1) ≠ 0):n = (ofNat (val m)).length:=by
 have h1:m.take n = ofNat (val m):=by
  refine a1r (adk h n) ?_ hv;intro x hx;rcases h0 with h0 | h0
  ·subst h0; simp at hx
  ·have hn0 : n ≠ 0 := by intro h3; subst h3; simp at hx
   rw [List.getLast?_eq_getElem?,length_take,Nat.min_eq_left hn,getElem?_take,if_pos (by omega),ad4 (by omega)] at hx;cases hx; exact h0
 rw [<- h1,length_take,Nat.min_eq_left hn]
theorem a5m (l:List Nat) (i:Nat):val l = val (l.take i) + 4294967296 ^ i * val (l.drop i):=by
 rcases lt_or_ge i l.length with h | h
 ·exact ah0 (by omega)
 ·rw [aav h,drop_eq_nil_of_le h]; simp [val]
theorem ai1 (l:List Nat) (i:Nat):val (l.drop i) = aac l i + 4294967296 * val (l.drop (i + 1)):=by
 rcases lt_or_ge i l.length with h | h
 ·exact aj3 h
 ·rw [ajv h,drop_eq_nil_of_le h,drop_eq_nil_of_le (by omega)]; rfl
theorem a0j {a b:List Nat} {i:Nat} (ha:Ws a) (he:val (a.drop (i + 1)) = val (b.drop (i + 1))) (hx:aac a i < aac b i):val a < val b:=by
 rw [a5m a (i + 1),a5m b (i + 1),he];have:=apv ha hx;omega
theorem bhu {xs ys:List AV} (hl:xs.length = ys.length) (h1:∀ (j:Nat) (y:AV), ys[j]? = some y -> y.one = true) (h:∀ (j:Nat) (x y:AV), xs[j]? = some x -> ys[j]? = some y -> Sub x y):Sub (.agg xs) (.agg ys):=by
 intro g S m v hr;cases hr with
 | agg hn h2 hr =>
  refine .agg (hn.trans hl) h1 ?_;intro j u c hu hc
  have hj:j < xs.length:=by
   rw [hl];rcases lt_or_ge j ys.length with h | h
   ·exact h
   ·rw [getElem?_eq_none h] at hc; cases hc
  exact h j _ c (getElem?_eq_getElem hj) hc _ _ _ _ (hr j u _ hu (getElem?_eq_getElem hj))
theorem bm1:Sub (.agg [.v (.bool false), .v (.slice none 0 0)]) (zA 0):=by
 show Sub (.agg [.v (.bool false),.v (.slice none 0 0)]) (.agg [bl false,ws []]);refine bhu rfl ?_ ?_
 ·intro j y hy
  match j,hy with
  | 0,hy=>cases hy; rfl
  | 1,hy=>cases hy; rfl
 ·intro j x y hx hy
  match j,hx,hy with
  | 0,hx,hy=>cases hx; cases hy; exact Sub.refl _
  | 1,hx,hy=>cases hx; cases hy; exact Sub.nil _ _ _
theorem a1o {out:List Nat} {i x:Nat} (h:out.length = i):val (out ++ [x]) = val out + 4294967296 ^ i * x:=by
 rw [af4,h]; simp [val]
theorem arq {o c P x y u w:Nat} (hu:u < 4294967296) (hw:w < 4294967296) (hc:c <= 1) (h:o + y = x + c * P) :
  (o + P * ((4294967296 + u - w - c) % 4294967296)) + (y + P * w) = (x + P * u) + (1 - (4294967296 + u - w - c) / 2 ^ 32) * (P * 4294967296):=by
 have h0:(4294967296 + u - w - c) % 4294967296 + w + c = u + (1 - (4294967296 + u - w - c) / 2 ^ 32) * 4294967296:=by omega
 generalize (1 - (4294967296 + u - w - c) / 2 ^ 32) = q at *;generalize (4294967296 + u - w - c) % 4294967296 = r at *;grind
theorem au3 {a b out:List Nat} {c:Nat} (ha:Ws a) (hw:Ws out) (ho:out.length = a.length) (hle:val b <= val a)
  (h:val out + val (b.take a.length) = val (a.take a.length) + c * 4294967296 ^ a.length):val out = val a - val b:=by
 have hb:=a5m b a.length;have h2:=abn a ha
 have h3:val (b.drop a.length) = 0:=by
  rcases Nat.eq_zero_or_pos (val (b.drop a.length)) with h4 | h4
  ·exact h4
  ·have:=mul_le_mul_left (4294967296 ^ a.length) h4; omega
 rw [h3,Nat.mul_zero,Nat.add_zero] at hb;rw [<- hb,take_length] at h;have h1:=abn out hw;rw [ho] at h1;cases c with
 | zero=>omega
 | succ c=>rw [Nat.succ_mul] at h; omega
theorem a1t {z:Int} {k:Nat} (h:Lz k z) (hk:k <= ac0):(ofInt z).ok:=⟨aa7 _,le_trans h.len hk⟩
theorem avr {z:Int} {k:Nat} (h:Lz k z):(ofInt z).mag.length <= k:=h.len
theorem bau (x y:Int):(x - y).sign = awh x y:=by
 unfold awh;have h:=amn (x - y)
 (repeat' split) <;> omega
end Go.Lw
namespace Go.Lw
open Go.Proofs
theorem afk (m:List Nat) (i:Nat) (hm:Ws m):FnC prog 290 [ws m, i64 i] (u64 (aac m i)):=by
 refine gF0 func290 ?_;refine gl ?_;refine gC (fun ht8=>?_) (fun ht8=>?_)
 ·simp [aaa] at ht8;have:=aaq hm i;refine gi (ahp (i:=i) ht8) ?_;refine gv (u64_in (by omega)) ?_;refine gE1 ?_;rfl
 ·simp [aaa] at ht8;refine gE1 ?_;simp [u64,ajv ht8]
theorem aq0 (w:Wh) (h:w.ok):FnC prog 285 [w.av] (bl w.valid):=by
 have hl:w.mag.length <= ac0:=h.2;refine gF0 func285 ?_;refine gl ?_;refine gC (fun ht6=>?_) (fun ht6=>?_)
 ·have h0 : w.mag = [] := by simpa [aaa] using ht6
  refine gE1 ?_;simp [bl,Wh.valid,h0]
 ·have h0 : w.mag.length ≠ 0 := by simpa [aaa] using ht6
  refine gl ?_;refine ga (ad2 (by omega) (by omega)) ?_;refine gi (ahp (i:=w.mag.length - 1) (by omega)) ?_;refine gE1 ?_;have h1:w.mag ≠ []:=fun h=>h0 (by rw [h]; rfl)
  simp only [bl,Wh.valid,if_neg h1,List.getLast?_eq_getElem?,ad4 (show w.mag.length - 1 < w.mag.length by omega),aaa];congr 2;generalize aac w.mag _ = x;rw [Bool.eq_iff_iff]; simp
theorem ady (w:Wh) (h:w.ok):FnC prog 222 [w.av] (ws w.m):=by
 refine gF0 func222 ?_;refine gc (aq0 w h) ?_;refine gC (fun ht5=>?_) (fun ht5=>?_)
 ·have h0 : w.valid = false := by simpa [aaa] using ht5
  refine gR ?_;exact aef (by rw [show w.m = [] by simp [Wh.m,h0]]; exact Sub.nil _ _ _)
 ·have h0 : w.valid = true := by simpa [aaa] using ht5
  refine gE1 ?_;simp only [Wh.m,h0]; rfl
theorem acq (w:Wh) (h:w.ok):FnC prog 223 [w.av] (bl w.n):=by
 refine gF0 func223 ?_;refine gc (aq0 w h) ?_;refine gE1 ?_;simp only [Wh.n,bl]; cases w.valid <;> rfl
theorem ak0 (d:Nat) (hd:Nat.blt d 1000 = true) (m:List Nat) (hm:Ws m) (hb:m.length <= big) :
  Con prog 228 [ws m] [] (.ms d 1 0 (ofNat (val m)).length) [(d,some (.row 1 (m.map u32)))]:=by
 have hb':=hb;unfold big at hb;refine gF func228 (fun k z h=>by cases h) ?_;refine gs (acp T27 rfl T218 rfl rfl rfl) ?_;refine gs (aa5 (.tmp rfl) rfl rfl (.tmp rfl) T27 rfl T218 rfl rfl (by simp only [length_map]; omega) rfl rfl) ?_;refine gL1 [] [6] (fun (n:Nat)=>[(3,some (.ms 6 1 0 n))]) (fun _=>[]) (fun n=>n <= m.length /\ val (m.take n) = val m) (fun n=>n) m.length ⟨le_refl _,by rw [take_length]⟩ ?_ (h1:=(.cons rfl (Sub.of (by rw [length_map,Nat.zero_add])) .nil));rintro n ⟨hn,hv⟩ K1 hK1;refine gaG (fun h=>(ad2 (by simp [aaa] at h; omega) (by unfold ac0; omega))) ?_;refine gs (abx rfl rfl rfl (fun h=>aar (n:=n - 1) (.opt rfl (o1 h)) (.opt rfl (o1 h)) T27 rfl T218 rfl (by omega) (by simp [aaa] at h; omega) rfl)) ?_;refine gs (abx rfl rfl rfl (fun h=>aae (.opt rfl (o1 h)) rfl (ahp (i:=n - 1) (by simp [aaa] at h; omega)) T218 rfl rfl rfl)) ?_;refine gC (fun ht18=>?_) (fun ht18=>?_)
 ·have ht18 : 0 < n /\ aac m (n - 1) = 0 := by simpa [aaa] using ht18
  refine ga (ad2 (by omega) (by unfold ac0; omega)) ?_;refine gs (ajf (.tmp rfl) (.none _) (.some _ (.tmp rfl) (by omega)) T27 rfl T218 rfl (by omega) (by omega) rfl) ?_;exact gK1 hK1 (n - 1) ⟨by omega,by have h:=@aah m (n - 1); rw [show n - 1 + 1 = n by omega,ht18.2] at h; simp at h; omega⟩ (hw:=Wk.of (.cons rfl (Sub.of (by congr 1)) .nil) (.cons rfl (.refl _) .nil))
 ·have ht18 : 0 < n -> aac m (n - 1) ≠ 0 := by simpa [aaa] using ht18
  have hn1:=a67 hm hn hv (by rcases Nat.eq_zero_or_pos n with h | h; (exact .inl h); exact .inr (ht18 h));subst hn1;refine gR ?_;exact Fin.own1 rfl hd rfl
theorem af3 (m:List Nat) (hm:Ws m) (hb:m.length <= big):FnC prog 228 [ws m] (ws (ofNat (val m))):=by
 have h:=Con.freeze (by rw [length_map,Nat.zero_add]; exact az8 hm) (ak0 0 rfl m hm hb)
 rwa [drop_zero,<- map_take,avm hm] at h
theorem acn (b:Bool) (m:List Nat) (hm:Ws m) (hb:m.length <= big):FnC prog 132 [bl b, ws m] (zA (sgn b (val m))):=by
 refine gF0 func132 ?_;refine gc (af3 m hm hb) ?_;refine gl ?_;refine gC (fun ht9=>?_) (fun ht9=>?_)
 ·have h0:val m = 0:=by
   have:=aam (val m);have h9:ofNat (val m) = []:=List.length_eq_zero_iff.1 (by simpa [aaa] using ht9);rw [h9] at this;exact this.symm
  refine gR ?_;exact aef (by rw [h0,show sgn b 0 = 0 by cases b <;> rfl]; exact bm1)
 ·have h0:val m ≠ 0:=by
   intro h;rw [h] at ht9;cases ht9
  refine gE1 ?_
  rw [show zA (sgn b (val m)) = .agg [bl b, ws (ofNat (val m))] by
   unfold zA ofInt Wh.av;rw [show (sgn b (val m)).natAbs = val m by unfold sgn; split <;> omega,show decide (sgn b (val m) < 0) = b by cases b <;> simp [sgn] <;> omega]]
theorem ahz (a b:List Nat) (ha:Ws a) (hb:Ws b):FnC prog 279 [ws a, ws b] (i64 (if val a < val b then -1 else if val b < val a then 1 else 0)):=by
 refine gF0 func279 ?_ (0,0);refine bnw (t:=0) rfl (fun hla=>?_);refine bnw (t:=1) rfl (fun hlb=>?_);unfold ac0 at hla hlb;refine go ?_;refine gl ?_;refine gl ?_;refine gs (a31 (.tmp rfl) (.tmp rfl) rfl) ?_;refine ga (abd (by omega)) ?_;refine gL1 [0,1] [] (fun (n:Nat)=>[(5,some (i64 ((n:Int) - 1)))]) (fun _=>[]) (fun n=>n <= 281474976710656 /\ val (a.drop n) = val (b.drop n)) (fun n=>n) (max a.length b.length) ⟨by omega,by rw [drop_eq_nil_of_le (by omega),drop_eq_nil_of_le (by omega)]⟩ ?_ (h1:=(.cons rfl (Sub.int (by omega)) .nil));rintro n ⟨hn,hd⟩ K1 hK1;refine gC (fun ht13=>?_) (fun ht13=>?_)
 ·have hn0 : 1 <= n := by have := ht13; simp [aaa] at this; omega
  obtain ⟨k,rfl⟩:∃ k,n = k + 1:=⟨n - 1,by omega⟩
  have hk:((k + 1:Nat):Int) - 1 = (k:Int):=by omega
  rw [hk];refine gc (afk a k ha) ?_;refine gc (afk b k hb) ?_;refine gC (fun ht22=>?_) (fun ht22=>?_)
  ·have h3 : aac a k ≠ aac b k := by simpa [aaa, Int.ofNat_inj] using ht22
   refine gc (afk a k ha) ?_;refine gc (afk b k hb) ?_;refine gC (fun ht29=>?_) (fun ht29=>?_)
   ·have h4 : aac a k < aac b k := by simpa [aaa] using ht29
    have h5:=a0j ha hd h4;refine gE1 ?_;simp [i64,h5]
   ·have h4 : aac b k < aac a k := by have : aac b k <= aac a k := (by simpa [aaa] using ht29); omega
    have h5:=a0j hb hd.symm h4;refine gE1 ?_;simp [i64,h5,Nat.lt_asymm h5]
  ·have h3 : aac a k = aac b k := by simpa [aaa, Int.ofNat_inj] using ht22
   refine ga (abd (by omega)) ?_;exact gK1 hK1 k ⟨by omega,by rw [ai1 a,ai1 b,hd,h3]⟩
 ·have hn0 : n = 0 := by have := ht13; simp [aaa] at this; omega
  subst hn0;refine gE1 ?_;simp at hd; simp [i64,hd]
end Go.Lw
namespace Go.Lw
open Go.Proofs
theorem am3 (a b:List Nat) (ha:Ws a) (hb:Ws b) (la:a.length < big) (lb:b.length < big):FnC prog 226 [ws a, ws b] (ws (ofNat (val a + val b))):=by
 unfold big at la lb;obtain ⟨n,hn⟩:∃ n,n = max a.length b.length + 1:=⟨_,rfl⟩
 refine gF0 func226 ?_;refine gl ?_;refine gl ?_;refine gs (a31 (.tmp rfl) (.tmp rfl) rfl) ?_;refine ga (show _ = (n:Int) by rw [aa4 (by omega)]; omega) ?_;refine gW (Wk.virt 900 1 rfl) ?_;refine gL3 [0,1,14] [] (fun (out:List Nat) (c i:Nat)=>[(5,some (.ms 900 1 0 i)),(6,some (u64 c)),(15,some (i64 i))]) (fun out _ _=>[(900,some (.row 1 (out.map u32)))]) (fun out c i=>out.length = i /\ i <= n /\ Ws out /\ c <= 1 /\ val out + c * 4294967296 ^ i = val (a.take i) + val (b.take i)) (fun _ _ i=>n - i) ([]) 0 0 ⟨rfl,by omega,apm,by omega,by simp [val]⟩ ?_;rintro out c i ⟨ho,hi,hw,hc,hv⟩ K1 hK1;refine gC (fun ht16=>?_) (fun ht16=>?_) (st2:=(9,0))
 ·have hin : i < n := by simpa [aaa] using ht16
  have h1:=aaq ha i;have h2:=aaq hb i;obtain ⟨s,hs⟩:∃ s,s = c + (aac a i + aac b i):=⟨_,rfl⟩
  have h3:=ap4 (u:=aac a i) (w:=aac b i) hv;rw [<- hs] at h3;refine gc (by apply afk <;> assumption) ?_;refine gc (by apply afk <;> assumption) ?_;refine ga (ae0 (by omega)) ?_;refine ga ((ae0 (by omega)).trans (show _ = (s:Int) by congr 1; omega)) ?_;refine gv (abe _) ?_;refine gs (aa5 (.tmp rfl) rfl (by rw [length_map,ho]) (.tmp rfl) T27 rfl T218 rfl rfl (by simp; omega) rfl rfl) ?_;refine gs (adw (.tmp rfl) (.const _) (by omega) (adz _ 32 (by omega)) rfl) ?_ (8,0);refine gW (Wk.of (sl:=[(0,some (ws a)),(1,some (ws b)),(5,some (.ms 31 1 0 (i + 1))),(6,some (u64 (s / 2 ^ 32))),(14,some (i64 n)),(15,some (i64 i))]) (hp:=[(31,some (.row 1 ((out ++ [s % 4294967296]).map u32)))]) abj (.cons rfl (BlkSub.of (by rw [map_append]; rfl)) .nil)) ?_ (8,0);refine gW (Wk.rekey (k:=31) (d:=900) rfl rfl) ?_;refine ga (aa4 (by omega)) ?_;exact gK3 hK1 (out ++ [s % 4294967296]) (s / 2 ^ 32) (i + 1) ⟨by simp [ho],by omega,a0y hw (aul (by omega)),by omega,by rw [a1o ho,aah,aah,Nat.pow_succ]; exact h3⟩
 ·have hin : i = n := by have : n <= i := (by simpa [aaa] using ht16); omega
  refine gW ((Wk.freeze (k:=900) rfl).trans <| Wk.of (sl:=[(5,some (ws out))]) (hp:=[]) (.cons rfl (Sub.of (abu (by simp [ho]))) .nil) .nil) ?_;refine gc (af3 out hw (by unfold big; omega)) ?_;refine gE1 ?_;subst hin;rw [azt ha hb hn ho (by rw [aav (l:=out) (by omega)]; exact hv)]
theorem ak6 (a b:List Nat) (ha:Ws a) (hb:Ws b) (la:a.length < big) (hle:val b <= val a):FnC prog 227 [ws a, ws b] (ws (ofNat (val a - val b))):=by
 unfold big at la;obtain ⟨n,hn⟩:∃ n,n = a.length:=⟨_,rfl⟩
 refine gF0 func227 ?_;refine gl ?_;refine gW (Wk.virt 900 1 rfl) ?_;refine gL3 [0,1] [] (fun (out:List Nat) (c i:Nat)=>[(5,some (.ms 900 1 0 i)),(6,some (u64 c)),(10,some (i64 n)),(11,some (i64 i))]) (fun out _ _=>[(900,some (.row 1 (out.map u32)))]) (fun out c i=>out.length = i /\ i <= n /\ Ws out /\ c <= 1 /\ val out + val (b.take i) = val (a.take i) + c * 4294967296 ^ i) (fun _ _ i=>n - i) ([]) 0 0 ⟨rfl,by omega,apm,by omega,by simp [val]⟩ ?_ (h1:=(.k (.k (.cons rfl (Sub.int (by rw [hn])) (.k .nil)))))
 rintro out c i ⟨ho,hi,hw,hc,hv⟩ K1 hK1;refine gC (fun ht12=>?_) (fun ht12=>?_) (st2:=(9,0))
 ·have hin : i < n := by simpa [aaa] using ht12
  have h1:=aaq ha i;have h2:=aaq hb i;obtain ⟨s,hs⟩:∃ s,s = 4294967296 + aac a i - aac b i - c:=⟨_,rfl⟩
  have h3:=arq h1 h2 hc hv;rw [<- hs] at h3;refine gc (by apply afk <;> assumption) ?_;refine ga ((ae0 (x:=4294967296) (by omega))) ?_;refine gc (by apply afk <;> assumption) ?_;refine ga ((agm (by omega) (by omega)).trans (by rw [if_pos (by omega)])) ?_;refine ga ((agm (by omega) (by omega)).trans (show _ = (s:Int) by rw [if_pos (by omega)]; congr 1; omega)) ?_;refine gv (abe _) ?_;refine gs (aa5 (.tmp rfl) rfl (by rw [length_map,ho]) (.tmp rfl) T27 rfl T218 rfl rfl (by simp; omega) rfl rfl) ?_;refine gs (adw (.tmp rfl) (.const _) (by omega) (adz _ 32 (by omega)) rfl) ?_;refine ga ((agm (x:=1) (by omega) (by omega)).trans (by rw [if_pos (by omega)])) ?_ (8,0);refine gW (Wk.of (sl:=[(0,some (ws a)),(1,some (ws b)),(5,some (.ms 28 1 0 (i + 1))),(6,some (u64 (1 - s / 2 ^ 32:Nat))),(10,some (i64 n)),(11,some (i64 i))]) (hp:=[(28,some (.row 1 ((out ++ [s % 4294967296]).map u32)))]) abj (.cons rfl (BlkSub.of (by rw [map_append]; rfl)) .nil)) ?_ (8,0);refine gW (Wk.rekey (k:=28) (d:=900) rfl rfl) ?_;refine ga (aa4 (by omega)) ?_;exact gK3 hK1 (out ++ [s % 4294967296]) (1 - s / 2 ^ 32) (i + 1) ⟨by simp [ho],by omega,a0y hw (aul (by omega)),by omega,by rw [a1o ho,aah,aah,Nat.pow_succ]; exact h3⟩
 ·have hin : i = n := by have : n <= i := (by simpa [aaa] using ht12); omega
  refine gW ((Wk.freeze (k:=900) rfl).trans <| Wk.of (sl:=[(5,some (ws out))]) (hp:=[]) (.cons rfl (Sub.of (abu (by simp [ho]))) .nil) .nil) ?_;refine gc (af3 out hw (by unfold big; omega)) ?_;refine gE1 ?_;subst hin;subst hn;rw [au3 ha hw ho hle hv]
theorem ayo (a b:List Nat) (ha:Ws a) (hb:Ws b) (la:a.length + b.length <= big):FnC prog 280 [ws a, ws b] (ws (ofNat (val a * val b))):=by
 have la':=la;unfold big at la;refine gF0 func280 ?_;refine gl ?_;refine gl ?_;refine ga (ad6 (by unfold ac0; omega) (by unfold ac0; omega)) ?_;refine gs (afq (.tmp rfl) T27 rfl T218 rfl rfl (by omega) (by dsimp only; omega) rfl) ?_;refine gl ?_;refine gL2 [0,1,17] [] (fun (out:List Nat) (i:Nat)=>[(5,some (.ms 15 1 0 (a.length + b.length))),(18,some (i64 i))]) (fun out _=>[(15,some (.row 1 (out.map u32)))]) (fun out i=>out.length = a.length + b.length /\ i <= a.length /\ Ws out /\ val (out.take (i + b.length)) = val (a.take i) * val b) (fun _ i=>a.length - i) (List.replicate (a.length + b.length) 0) 0 ⟨by simp,by omega,akk _,by simp [val,al3]⟩ ?_ (h2:=(.cons rfl (BlkSub.of (by rw [map_replicate]; rfl)) .nil))
 rintro out i ⟨ho,hi,hw,hv⟩ K1 hK1;refine gC (fun ht19=>?_) (fun ht19=>?_) (st2:=(14,0))
 ·have hin : i < a.length := by simpa [aaa] using ht19
  have h1:=aaq ha i;refine gl ?_;refine gL3 [0,1,17,18,6,22] [] (fun (o:List Nat) (c k:Nat)=>[(5,some (.ms 15 1 0 (a.length + b.length))),(7,some (u64 c)),(23,some (i64 k))]) (fun o _ _=>[(15,some (.row 1 (o.map u32)))]) (fun o c k=>o.length = a.length + b.length /\ k <= b.length /\ Ws o /\ c < 4294967296 /\ val (o.take (i + b.length)) + c * 4294967296 ^ (i + k) = val (out.take (i + b.length)) + 4294967296 ^ i * (aac a i * val (b.take k))) (fun _ _ k=>b.length - k) out 0 0 ⟨ho,by omega,hw,by omega,by simp [val]⟩ ?_
  rintro o c k ⟨ho2,hk,hw2,hc,hv2⟩ K2 hK2;refine gC (fun ht24=>?_) (fun ht24=>?_)
  ·have hkn : k < b.length := by simpa [aaa] using ht24
   have h2:=aaq hb k;have h3:=aaq hw2 (i + k);have h4:=aod h1 h2;obtain ⟨s,hs⟩:∃ s,s = c + (aac a i * aac b k + aac o (i + k)):=⟨_,rfl⟩
   have h5:=ar4 (x:=s % 4294967296) (show i + k < o.length by omega) (show i + k < i + b.length by omega);have h6:=az4 h5 hs hv2;refine gi (aut (n:=i) (by omega) (by first | omega | (simp; omega))) ?_;refine gv (u64_in (by omega)) ?_;refine gi (aut (n:=k) (by omega) (by first | omega | (simp; omega))) ?_;refine gv (u64_in (by omega)) ?_;refine ga (auc (by omega)) ?_;refine ga (ad6 (by unfold ac0; omega) (by unfold ac0; omega)) ?_;refine gs (aar (n:=i + k) (.tmp rfl) (.tmp rfl) T27 rfl T218 rfl (by omega) (by first | omega | (simp; omega)) rfl) ?_;refine gs (aae (.tmp rfl) rfl (ahp (i:=i + k) (by omega)) T218 rfl rfl rfl) ?_;refine gv (u64_in (by omega)) ?_;refine ga (ae0 (by omega)) ?_;refine ga ((ae0 (by omega)).trans (show _ = (s:Int) by congr 1; omega)) ?_;refine gD ?_;refine ga (ad6 (by unfold ac0; omega) (by unfold ac0; omega)) ?_;refine gv (abe _) ?_;refine gs (adw (.tmp rfl) (.const _) (by omega) (adz _ 32 (by omega)) rfl) ?_;refine gs (aar (n:=i + k) (.tmp rfl) (.tmp rfl) T27 rfl T218 rfl (by omega) (by first | omega | (simp; omega)) rfl) ?_;refine gs (aa2 (.tmp rfl) rfl (ahp (i:=i + k) (by omega)) rfl (.tmp rfl) rfl rfl T218 rfl rfl) ?_;refine ga (aa4 (by omega)) ?_;exact gK3 hK2 (o.set (i + k) (s % 4294967296)) (s / 2 ^ 32) (k + 1) ⟨by simp [ho2],by omega,ae2 hw2 (by omega),by omega,by rw [show i + (k + 1) = (i + k) + 1 from rfl,show s / 2 ^ 32 = s / 4294967296 from rfl,Nat.pow_succ,h6,aah]; simp only [pow_add]; grind⟩ (hw:=Wk.of abj (.cons rfl (BlkSub.of (by rw [map_set]; rfl)) .nil))
  ·have hkn : k = b.length := by have : b.length <= k := (by simpa [aaa] using ht24); omega
   subst hkn;have h5:=ace (x:=c) (show i + b.length < o.length by omega);rw [take_length] at hv2;refine gl ?_;refine ga (ad6 (by unfold ac0; omega) (by unfold ac0; omega)) ?_;refine gv ((abe c).trans (by rw [Nat.mod_eq_of_lt hc])) ?_;refine gs (aar (n:=i + b.length) (.tmp rfl) (.tmp rfl) T27 rfl T218 rfl (by omega) (by first | omega | (simp; omega)) rfl) ?_;refine gs (aa2 (.tmp rfl) rfl (ahp (i:=i + b.length) (by omega)) rfl (.tmp rfl) rfl rfl T218 rfl rfl) ?_;refine ga (aa4 (by omega)) ?_;exact gK2 hK1 (o.set (i + b.length) c) (i + 1) ⟨by simp [ho2],by omega,ae2 hw2 hc,by rw [show i + 1 + b.length = i + b.length + 1 by omega,h5,aah]; simp only [pow_add] at *; grind⟩ (hw:=Wk.of abj (.cons rfl (BlkSub.of (by rw [map_set]; rfl)) .nil))
 ·have hin : i = a.length := by have : a.length <= i := (by simpa [aaa] using ht19); omega
  subst hin;rw [take_length,aav (by omega)] at hv;refine gW ((Wk.freeze (k:=15) rfl).trans <| Wk.of (sl:=[(5,some (ws out))]) (hp:=[]) (.cons rfl (Sub.of (abu (by simp [ho]))) .nil) .nil) ?_;refine gc (af3 out hw (by omega)) ?_;refine gE1 ?_;rw [hv]
end Go.Lw
namespace Go.Lw
open Go.Proofs
theorem ami (a:Wh) (ha:a.ok):FnC prog 128 [a.av] (i64 a.z.sign):=by
 obtain ⟨e1,e2,e3⟩:=a18 ha;refine gF0 func128 ?_;refine gc (ady a ha) ?_;refine gl ?_;refine gC (fun ht6=>?_) (fun ht6=>?_)
 ·have h0 : a.m.length = 0 := by simpa [aaa] using ht6
  refine gE1 ?_;rw [e1 h0]; rfl
 ·have h0 : a.m.length ≠ 0 := by simpa [aaa] using ht6
  have hval:a.valid = true:=by
   unfold Wh.m at h0;split at h0
   ·assumption
   ·exact absurd rfl h0
  refine gc (acq a ha) ?_;refine gC (fun ht8=>?_) (fun ht8=>?_)
  ·have h1 : a.neg = true := by unfold Wh.n at ht8; rw [hval] at ht8; simpa using ht8
   refine gE1 ?_;rw [e2 h0 h1]; rfl
  ·have h1 : a.neg = false := by unfold Wh.n at ht8; rw [hval] at ht8; simpa using ht8
   refine gE1 ?_;rw [e3 h0 h1]; rfl
theorem aus (a:Wh) (ha:a.ok) (la:a.mag.length < big):FnC prog 129 [a.av] (zA (-a.z)):=by
 refine gF0 func129 ?_;refine gc (acq a ha) ?_;refine gc (ady a ha) ?_;refine gc (acn _ a.m (Wh.ws ha) (Nat.le_of_lt (Wh.small ha la))) ?_;refine gD ?_;refine gE1 ?_;rw [Wh.z_eq,<- a6i]; rfl
theorem a4n (a b:Wh) (ha:a.ok) (hb:b.ok) (la:a.mag.length + b.mag.length <= big):FnC prog 210 [a.av, b.av] (zA (a.z * b.z)):=by
 have h1:=Wh.m_le (w:=a);have h2:=Wh.m_le (w:=b);have h3:(ofNat (val a.m * val b.m)).length <= a.m.length + b.m.length:=aal (by rw [pow_add]; exact Nat.mul_lt_mul'' (abn _ (Wh.ws ha)) (abn _ (Wh.ws hb)));refine gF0 func210 ?_;refine gc (acq a ha) ?_;refine gc (acq b hb) ?_;refine gc (ady a ha) ?_;refine gc (ady b hb) ?_;refine gc (ayo a.m b.m (Wh.ws ha) (Wh.ws hb) (by omega)) ?_;refine gc (acn _ _ (aa7 _) (by omega)) ?_;refine gD ?_;refine gE1 ?_;rw [aam,a9q]; rfl
theorem awc (a b:Wh) (ha:a.ok) (hb:b.ok) (la:a.mag.length < big) (lb:b.mag.length < big):FnC prog 209 [a.av, b.av] (zA (a.z + b.z)):=by
 have h1:=Wh.m_le (w:=a);have h2:=Wh.m_le (w:=b);have hla:val a.m < 4294967296 ^ (max a.m.length b.m.length):=lt_of_lt_of_le (abn _ (Wh.ws ha)) (Nat.pow_le_pow_right (by omega) (by omega));have hlb:val b.m < 4294967296 ^ (max a.m.length b.m.length):=lt_of_lt_of_le (abn _ (Wh.ws hb)) (Nat.pow_le_pow_right (by omega) (by omega));have h3:(ofNat (val a.m + val b.m)).length <= max a.m.length b.m.length + 1:=aal (by rw [Nat.pow_succ]; omega);have h4:(ofNat (val a.m - val b.m)).length <= max a.m.length b.m.length:=aal (by omega);have h5:(ofNat (val b.m - val a.m)).length <= max a.m.length b.m.length:=aal (by omega);refine gF0 func209 ?_;refine gc (ady a ha) ?_;refine gc (ady b hb) ?_;refine gD ?_;refine gc (acq a ha) ?_;refine gc (acq b hb) ?_;refine gD ?_;refine gC (fun ht15=>?_) (fun ht15=>?_)
 ·have h0 : a.n = b.n := by simpa using ht15
  refine gc (acq a ha) ?_;refine gc (am3 a.m b.m (Wh.ws ha) (Wh.ws hb) (by omega) (by omega)) ?_;refine gc (acn _ _ (aa7 _) (by omega)) ?_;refine gE1 ?_;rw [aam,a14 h0]; rfl
 ·have h0 : a.n ≠ b.n := by simpa using ht15
  refine gc (ahz a.m b.m (Wh.ws ha) (Wh.ws hb)) ?_;refine gC (fun ht25=>?_) (fun ht25=>?_)
  ·have h6:val b.m <= val a.m:=by
    rcases lt_or_ge (val a.m) (val b.m) with h | h
    ·rw [if_pos h] at ht25; cases ht25
    ·exact h
   refine gc (acq a ha) ?_;refine gc (ak6 a.m b.m (Wh.ws ha) (Wh.ws hb) (by omega) (by omega)) ?_;refine gc (acn _ _ (aa7 _) (by omega)) ?_;refine gE1 ?_;rw [aam,at4 h0 h6]; rfl
  ·have h6:val a.m < val b.m:=by
    rcases lt_or_ge (val a.m) (val b.m) with h | h
    ·exact h
    ·rw [if_neg (by omega)] at ht25; split at ht25 <;> cases ht25
   refine gc (acq b hb) ?_;refine gc (ak6 b.m a.m (Wh.ws hb) (Wh.ws ha) (by omega) (by omega)) ?_;refine gc (acn _ _ (aa7 _) (by omega)) ?_;refine gE1 ?_;rw [aam,avj h0 (by omega)]; rfl
theorem azy (n:Int) (h:-9223372036854775808 <= n /\ n <= 9223372036854775807):FnC prog 50 [i64 n] (zA n):=by
 obtain ⟨N,hN⟩:∃ N,N = n.natAbs:=⟨_,rfl⟩
 have hNB:N < 18446744073709551616:=by omega
 refine gF0 func50 ?_;refine gv (show IntKind.u64.wrap n = ((n % 18446744073709551616:Int)) by simp only [IntKind.wrap,IntKind.signed,IntKind.bits,Bool.false_and,if_false,Bool.false_eq_true]; omega) ?_;refine gC (fun ht7=>?_) (fun ht7=>?_) (st2:=(77777,0))
 ·have hn : n < 0 := by simpa [aaa] using ht7
  refine gs (a95 (.tmp rfl) rfl) ?_ (4,0);refine gW (Wk.of (sl:=[(0,some (i64 n)),(2,some (.ptr 2 0)),(3,some (u64 N))]) (hp:=[(2,some (.box [.v (.bool false),.v (.slice none 0 0)]))]) (.k (.k (.cons rfl (Sub.int (by simp only [IntKind.wrap,IntKind.signed,IntKind.bits,Bool.false_and,if_false,Bool.false_eq_true]; omega)) .nil))) (.cons rfl (.refl _) .nil)) ?_;refine gv (abe _) ?_;refine gs (adw (.tmp rfl) (.const _) (by omega) (adz _ 32 (by omega)) rfl) ?_;refine gv ((abe _).trans (by rw [Nat.mod_eq_of_lt (show N / 2 ^ 32 < 4294967296 by omega)])) ?_;refine gc (acn (aaa .lss n 0) [N % 4294967296,N / 2 ^ 32] (bc9 hNB) (by unfold big; simp)) ?_;refine gE1 ?_;rw [a1u hNB,show sgn (aaa .lss n 0) N = n by simp only [sgn,aaa,decide_eq_true_eq]; split <;> omega]; rfl
 ·have hn : ¬ n < 0 := by simpa [aaa] using ht7
  refine gW (Wk.of (sl:=[(0,some (i64 n)),(2,some (.ptr 2 0)),(3,some (u64 N))]) (hp:=[(2,some (.box [.v (.bool false),.v (.slice none 0 0)]))]) (.k (.k (.cons rfl (Sub.int (by omega)) .nil))) (.cons rfl (.refl _) .nil)) ?_;refine gv (abe _) ?_;refine gs (adw (.tmp rfl) (.const _) (by omega) (adz _ 32 (by omega)) rfl) ?_;refine gv ((abe _).trans (by rw [Nat.mod_eq_of_lt (show N / 2 ^ 32 < 4294967296 by omega)])) ?_;refine gc (acn (aaa .lss n 0) [N % 4294967296,N / 2 ^ 32] (bc9 hNB) (by unfold big; simp)) ?_;refine gE1 ?_;rw [a1u hNB,show sgn (aaa .lss n 0) N = n by simp only [sgn,aaa,decide_eq_true_eq]; split <;> omega]; rfl
theorem a9j (a b:Wh) (ha:a.ok) (hb:b.ok) (la:a.mag.length < big) (lb:b.mag.length < big):FnC prog 278 [a.av, b.av] (zA (a.z - b.z)):=by
 have h1:=(Wh.lz hb).neg;have h2:=avr h1;refine gF0 func278 ?_;refine gc (aus b hb lb) ?_;refine gc (awc a (ofInt (-b.z)) ha (a1t h1 hb.2) la (by omega)) ?_;refine gD ?_;refine gE1 ?_;rw [abz,<- Int.sub_eq_add_neg]; rfl
theorem a49 (a b:Wh) (ha:a.ok) (hb:b.ok) (la:a.mag.length < big) (lb:b.mag.length < big):FnC prog 207 [a.av, b.av] (i64 (awh a.z b.z)):=by
 have h1:=(Wh.lz ha).sub (Wh.lz hb);have h2:=avr h1;refine gF0 func207 ?_;refine gc (a9j a b ha hb la lb) ?_;refine gc (ami (ofInt (a.z - b.z)) (a1t h1 (by unfold ac0; unfold big at la lb; omega))) ?_;refine gE1 ?_;rw [abz,bau]
end Go.Lw
namespace Go.Lw
theorem ajp {A:List Nat} {n:Nat}:AV.lst 1 (((A.map u32).drop 0).take n) = ws (A.take n):=by
 rw [drop_zero,<- map_take]; rfl
theorem bdx (A:List Nat):(Blk.row 1 (A.map u32)).sc = true:=by
 simp only [Blk.sc,List.all_map];rw [all_eq_true];intro x _;rfl
theorem ae8 {A:List Nat} {n i:Nat} (h:i < n):aac (A.take n) i = aac A i:=by
 simp [aac,h]
theorem aly {A:List Nat} {n i:Nat} (h:n <= i):aac (A.take n) i = 0:=ajv (by simp; omega)
theorem a6e {x:Nat} (h:0 < x):ac6 x = ac6 (x / 2) + 1:=by
 rcases lt_or_ge x 2 with h1 | h1
 ·have : x = 1 := by omega
  subst this; decide
 ·have := alo (x := x) (k := 1) (by omega);rw [show x / 2 ^ 1 = x / 2 from rfl] at this;omega
theorem bb4 {a:List Nat} {n:Nat} (ha:Ws a) (na:Nz a) (hl:a.length = n + 1):ac6 (val a) = 32 * n + ac6 (aac a n):=by
 have ht:aac a n ≠ 0:=by
  refine na _ ?_;rw [List.getLast?_eq_getElem?,hl];exact ad4 (by omega)
 have hv:val a = val (a.take n) + 4294967296 ^ n * aac a n:=by rw [<- aah,aav (by omega)]
 have hlt:=aeh ha n;have hp:(4294967296:Nat) ^ n = 2 ^ (32 * n):=by rw [Nat.pow_mul]
 rw [hp] at hv hlt
 have h1:val a / 2 ^ (32 * n) = aac a n:=by
  rw [hv,Nat.add_mul_div_left _ _ (Nat.pow_pos (by omega)),Nat.div_eq_of_lt hlt,Nat.zero_add]
 have h2:2 ^ (32 * n) <= val a:=by
  have:=mul_le_mul_left (2 ^ (32 * n)) (show 1 <= aac a n by omega);omega
 rw [alo h2,h1]
theorem wr0 {o A:List Nat} {n v:Nat} (ho:Ws o) (hl:o.length = A.length) (hn:n <= A.length) (hd:o.drop n = A.drop n) (hv:val (o.take n) = v):o = wr A 0 (ad1 n v):=by
 have h1:win o 0 n = ad1 n v:=as6 (anh ho _ _) (akv (by omega)) (by rw [win,drop_zero,hv]);rw [<- h1];exact bhh (by simp) (by rw [Nat.zero_add]; exact hd) (by omega)
end Go.Lw
namespace Go.Lw
open Go.Proofs
theorem aoo (k:Nat) (A:List Nat) (n i:Nat) (hA:Ws A) (hn:n <= A.length) :
  Con prog 290 [.ms k 1 0 n,i64 i] [(k,some (.row 1 (A.map u32)))] (u64 (aac (A.take n) i)) [(k,some (.row 1 (A.map u32)))]:=by
 refine Con.borrow (args:=[ws (A.take n),i64 i]) k 1 (A.map u32) rfl rfl rfl ?_ rfl (fun k' x h=>by cases h) (afk (A.take n) i (adk hA n));intro j x' hj
 match j,hj with
 | 0,hj=>cases hj; exact .inr ⟨0,n,rfl,by simpa using hn,by rw [ajp]; rfl⟩
 | 1,hj=>cases hj; exact .inl rfl
theorem aq6 (k1 k2:Nat) (hk:k1 ≠ k2) (A D:List Nat) (n p:Nat) (hA:Ws A) (hD:Ws D) (hn:n <= A.length) (hp:p <= D.length) :
  Con prog 279 [.ms k1 1 0 n, .ms k2 1 0 p] [(k1, some (.row 1 (A.map u32))), (k2, some (.row 1 (D.map u32)))]
   (i64 (if val (A.take n) < val (D.take p) then -1 else if val (D.take p) < val (A.take n) then 1 else 0)) [(k1,some (.row 1 (A.map u32))),(k2,some (.row 1 (D.map u32)))]:=by
 have h1:Con prog 279 [ws (A.take n), .ms k2 1 0 p] [(k2, some (.row 1 (D.map u32)))]
   (i64 (if val (A.take n) < val (D.take p) then -1 else if val (D.take p) < val (A.take n) then 1 else 0)) [(k2,some (.row 1 (D.map u32)))]:=by
  refine Con.borrow (args:=[ws (A.take n),ws (D.take p)]) k2 1 (D.map u32) rfl rfl rfl ?_ rfl (fun k' x h=>by cases h) (ahz (A.take n) (D.take p) (adk hA n) (adk hD p));intro j x' hj
  match j,hj with
  | 0,hj=>cases hj; exact .inl rfl
  | 1,hj=>cases hj; exact .inr ⟨0,p,rfl,by simpa using hp,by rw [ajp]; rfl⟩
 refine Con.borrow (args:=[ws (A.take n),.ms k2 1 0 p]) k1 1 (A.map u32) ?_ ?_ rfl ?_ rfl ?_ h1
 ·rw [aab,if_neg hk]; rfl
 ·rw [aab,if_neg hk]; rfl
 ·intro j x' hj
  match j,hj with
  | 0,hj=>cases hj; exact .inr ⟨0,n,rfl,by simpa using hn,by rw [ajp]; rfl⟩
  | 1,hj=>cases hj; exact .inl rfl
 ·intro k' x h;obtain ⟨_,h⟩:=aem h;cases h; exact bdx D
theorem aq2 (k:Nat) (A b:List Nat) (n:Nat) (hA:Ws A) (hb:Ws b) (hn:n <= A.length) :
  Con prog 279 [.ms k 1 0 n, ws b] [(k, some (.row 1 (A.map u32)))]
   (i64 (if val (A.take n) < val b then -1 else if val b < val (A.take n) then 1 else 0)) [(k,some (.row 1 (A.map u32)))]:=by
 refine Con.borrow (args:=[ws (A.take n),ws b]) k 1 (A.map u32) rfl rfl rfl ?_ rfl (fun k' x h=>by cases h) (ahz (A.take n) b (adk hA n) hb);intro j x' hj
 match j,hj with
 | 0,hj=>cases hj; exact .inr ⟨0,n,rfl,by simpa using hn,by rw [ajp]; rfl⟩
 | 1,hj=>cases hj; exact .inl rfl
theorem a2i (a:List Nat) (ha:Ws a) (na:Nz a) (la:a.length <= big):FnC prog 289 [ws a] (i64 (ac6 (val a))):=by
 unfold big at la;refine gF0 func289 ?_;refine gl ?_;refine gC (fun ht7=>?_) (fun ht7=>?_)
 ·have h0 : a = [] := List.length_eq_zero_iff.1 (by simpa [aaa] using ht7);refine gE1 ?_;subst h0; rfl
 ·have h0 : a.length ≠ 0 := by simpa [aaa] using ht7
  obtain ⟨n,hn⟩:∃ n,a.length = n + 1:=⟨a.length - 1,by omega⟩
  have hB:=bb4 ha na hn;have ht:=aaq ha n;refine gl ?_;refine ga (show _ = (n:Int) by rw [abd (by omega)]; omega) ?_;refine ga (show _ = ((32 * n:Nat):Int) by rw [aoi (by omega)]; omega) ?_;refine gl ?_;refine ga (show _ = (n:Int) by rw [abd (by omega)]; omega) ?_;refine gi (aut (n:=n) (by omega) (by first | omega | (simp; omega))) ?_;refine gL2 [] [] (fun (x c:Nat)=>[(3,some (i64 c)),(4,some (u32 x))]) (fun _ _=>[]) (fun x c=>x < 4294967296 /\ c <= 281474976710656 /\ c + ac6 x = ac6 (val a)) (fun x _=>x) (aac a n) (32 * n) ⟨ht,by omega,hB.symm⟩ ?_;rintro x c ⟨hx,hc,hv⟩ K1 hK1;refine gC (fun ht19=>?_) (fun ht19=>?_)
  ·have hx0 : 0 < x := by simpa [aaa] using ht19
   have h2:=a6e hx0
   have h3:ac6 (val a) <= 32 * n + 32:=by
    have:=(ay2 (x:=aac a n)  (by
     refine na _ ?_;rw [List.getLast?_eq_getElem?,hn];exact ad4 (by omega)) ht).1
    omega
   refine ga (show _ = ((c + 1:Nat):Int) by rw [aa4 (by omega)]; omega) ?_;refine gs (adw (.tmp rfl) (.const _) (by omega) (amu x 1 (by omega)) rfl) ?_;exact gK2 hK1 (x / 2 ^ 1) (c + 1) ⟨by omega,by omega,by rw [show x / 2 ^ 1 = x / 2 from rfl]; omega⟩
  ·have hx0 : x = 0 := by have : x <= 0 := (by simpa [aaa] using ht19); omega
   subst hx0;refine gE1 ?_;rw [<- hv]; rfl
theorem aoz (A:List Nat) (n:Nat) (hA:Ws A) (hn:n <= A.length) (la:A.length <= big) :
  Con prog 288 [.ms 1000 1 0 n] [(1000,some (.row 1 (A.map u32)))] (.ms 1000 1 0 (ofNat (val (A.take n))).length) [(1000,some (.row 1 (A.map u32)))]:=by
 unfold big at la;refine gF func288 (fun k z h=>aaz h) ?_;refine gL1 [] [1000] (fun (j:Nat)=>[(0,some (.ms 1000 1 0 j))]) (fun _=>[]) (fun j=>j <= n /\ val (A.take j) = val (A.take n)) (fun j=>j) n ⟨le_refl _,rfl⟩ ?_;rintro j ⟨hj,hv⟩ K1 hK1;refine gaG (fun h=>(ad2 (by simp [aaa] at h; omega) (by unfold ac0; omega))) ?_;refine gs (abx rfl rfl rfl (fun h=>aar (n:=j - 1) (.opt rfl (o1 h)) (.opt rfl (o1 h)) T27 rfl T218 rfl (by omega) (by simp [aaa] at h; omega) rfl)) ?_;refine gs (abx rfl rfl rfl (fun h=>aae (.opt rfl (o1 h)) rfl (ahp (i:=j - 1) (by simp [aaa] at h; omega)) T218 rfl rfl rfl)) ?_;refine gC (fun ht14=>?_) (fun ht14=>?_)
 ·have ht14 : 0 < j /\ aac A (j - 1) = 0 := by simpa [aaa] using ht14
  refine ga (ad2 (by omega) (by unfold ac0; omega)) ?_;refine gs (ajf (.tmp rfl) (.none _) (.some _ (.tmp rfl) (by omega)) T27 rfl T218 rfl (by omega) (by omega) rfl) ?_;exact gK1 hK1 (j - 1) ⟨by omega,by have h:=@aah A (j - 1); rw [show j - 1 + 1 = j by omega,ht14.2] at h; simp at h; omega⟩ (hw:=Wk.of (.cons rfl (Sub.of (by congr 1)) .nil) (.cons rfl (.refl _) .nil))
 ·have ht14 : 0 < j -> aac A (j - 1) ≠ 0 := by simpa [aaa] using ht14
  have hn1 := a67 (m := A.take n) (n := j) (adk hA n) (by simp; omega) (by rw [List.take_take, Nat.min_eq_left hj]; exact hv) (by
   rcases Nat.eq_zero_or_pos j with h | h
   ·exact .inl h
   ·exact .inr (by rw [ae8 (by omega)]; exact ht14 h))
  subst hn1;refine gR ?_;exact Fin.own2 rfl rfl rfl
theorem ahr (A:List Nat) (n:Nat) (hA:Ws A) (hn:n <= A.length) (la:A.length <= big) :
  Con prog 286 [.ms 1000 1 0 n] [(1000,some (.row 1 (A.map u32)))] (.ms 1000 1 0 (ofNat (val (A.take n) / 2)).length) [(1000,some (.row 1 ((wr A 0 (ad1 n (val (A.take n) / 2))).map u32)))]:=by
 have la':=la;unfold big at la;refine gF func286 (fun k z h=>aaz h) ?_;refine gL2 [5] [] (fun (o:List Nat) (i:Nat)=>[(0,some (.ms 1000 1 0 n)),(6,some (i64 i))]) (fun o _=>[(1000,some (.row 1 (o.map u32)))]) (fun o i=>o.length = A.length /\ i <= n /\ Ws o /\ o.drop i = A.drop i /\ val (o.take i) = val (A.take n) / 2 ^ 1 % 4294967296 ^ i) (fun _ i=>n - i) A 0 ⟨rfl,by omega,hA,rfl,by simp [val,Nat.mod_one]⟩ ?_;rintro o i ⟨ho,hi,hw,hd,hv⟩ K1 hK1;refine gC (fun ht7=>?_) (fun ht7=>?_)
 ·have hin : i < n := by simpa [aaa] using ht7
  have e1:aac (o.take n) i = aac (A.take n) i:=by rw [ae8 hin,ae8 hin]; exact aej hd
  have hd2:o.drop (i + 1) = A.drop (i + 1):=by
   have h1:(o.drop i).drop 1 = (A.drop i).drop 1:=by rw [hd]
   rwa [drop_drop,drop_drop] at h1
  have e2:aac (o.take n) (i + 1) = aac (A.take n) (i + 1):=by
   rcases lt_or_ge (i + 1) n with h | h
   ·rw [ae8 h,ae8 h]; exact aej hd2
   ·rw [aly h,aly h]
  have b1:=aaq (adk hA n) i;have b2:=aaq (adk hA n) (i + 1);have h3:=avl (n:=1) (adk hA n) (show i < (A.take n).length by simp; omega) (show i < o.length by omega) (by omega) hv;refine gt (aad (aoo 1000 o n i hw (by omega)) (.cons (.tmp rfl) (.cons (.tmp rfl) .nil)) (by first | exact hH0 | exact hH1 rfl | exact hH2 rfl rfl) rfl rfl) ?_;refine gs (adw (.tmp rfl) (.const _) (by omega) ((adz _ 1 (by omega)).trans (by rw [e1])) rfl) ?_;refine ga (ad6 (y:=1) (by unfold ac0; omega) (by unfold ac0; omega)) ?_;refine gt (aad (aoo 1000 o n (i + 1) hw (by omega)) (.cons (.tmp rfl) (.cons (.tmp rfl) .nil)) (by first | exact hH0 | exact hH1 rfl | exact hH2 rfl rfl) rfl rfl) ?_;refine gs (afx (.tmp rfl) (.const _) (by omega) ((amm (n:=31) (by omega) (by omega)).trans (by rw [e2])) rfl) ?_;refine gs (ae6 (.tmp rfl) (.tmp rfl) rfl ((ahc (by omega) (by omega)).trans (by rw [axy (by omega)])) rfl) ?_;refine gv ((abe _).trans (show _ = (((aac (A.take n) i + aac (A.take n) (i + 1) * 2 ^ 32) / 2 ^ 1 % 4294967296:Nat):Int) by congr 1; omega)) ?_;refine gs (aar (n:=i) (.tmp rfl) (.tmp rfl) T27 rfl T218 rfl (by omega) (by first | omega | (simp; omega)) rfl) ?_;refine gs (aa2 (.tmp rfl) rfl (ahp (i:=i) (by omega)) rfl (.tmp rfl) rfl rfl T218 rfl rfl) ?_;refine ga (aa4 (by omega)) ?_;exact gK2 hK1 (o.set i ((aac (A.take n) i + aac (A.take n) (i + 1) * 2 ^ 32) / 2 ^ 1 % 4294967296)) (i + 1) ⟨by simp [ho],by omega,ae2 hw (by omega),aev hd,h3⟩ (hw:=Wk.of abj (.cons rfl (BlkSub.of (by rw [map_set]; rfl)) .nil))
 ·have hin : i = n := by have : n <= i := (by simpa [aaa] using ht7); omega
  subst hin;have hlt:=aeh hA i;have hv':val (o.take i) = val (A.take i) / 2:=by rw [hv,Nat.mod_eq_of_lt (by omega)]
  have h9:=wr0 hw ho hn hd hv';refine gt (aad (aoz o i hw (by omega) (by omega)) (.cons (.tmp rfl) .nil) (by first | exact hH0 | exact hH1 rfl | exact hH2 rfl rfl) rfl rfl) ?_;refine gR ?_;exact Fin.own2 rfl (by rw [<- h9]) (by rw [hv']; rfl)
theorem ark (A b:List Nat) (n:Nat) (hA:Ws A) (hb:Ws b) (hn:n <= A.length) (la:A.length <= big) (hle:val b <= val (A.take n)) :
  Con prog 287 [.ms 1000 1 0 n,ws b] [(1000,some (.row 1 (A.map u32)))] (.tup []) [(1000,some (.row 1 ((wr A 0 (ad1 n (val (A.take n) - val b))).map u32)))]:=by
 unfold big at la;refine gF func287 (fun k z h=>aaz h) ?_;refine gL3 [1,8] [] (fun (o:List Nat) (c i:Nat)=>[(0,some (.ms 1000 1 0 n)),(4,some (u64 c)),(9,some (i64 i))]) (fun o _ _=>[(1000,some (.row 1 (o.map u32)))]) (fun o c i=>o.length = A.length /\ i <= n /\ Ws o /\ c <= 1 /\ o.drop i = A.drop i /\ val (o.take i) + val (b.take i) = val (A.take i) + c * 4294967296 ^ i) (fun _ _ i=>n - i) A 0 0 ⟨rfl,by omega,hA,by omega,rfl,by simp [val]⟩ ?_;rintro o c i ⟨ho,hi,hw,hc,hd,hv⟩ K1 hK1;refine gC (fun ht10=>?_) (fun ht10=>?_)
 ·have hin : i < n := by simpa [aaa] using ht10
  have e1:aac (o.take n) i = aac A i:=by rw [ae8 hin]; exact aej hd
  have h1:=aaq hA i;have h2:=aaq hb i;obtain ⟨s,hs⟩:∃ s,s = 4294967296 + aac A i - aac b i - c:=⟨_,rfl⟩
  have h3:=arq h1 h2 hc hv;rw [<- hs] at h3;refine gt (aad (aoo 1000 o n i hw (by omega)) (.cons (.tmp rfl) (.cons (.tmp rfl) .nil)) (by first | exact hH0 | exact hH1 rfl | exact hH2 rfl rfl) rfl rfl) ?_;refine ga ((ae0 (x:=4294967296) (by omega)).trans (by rw [e1])) ?_;refine gc (afk b i hb) ?_;refine ga ((agm (by omega) (by omega)).trans (by rw [if_pos (by omega)])) ?_;refine ga ((agm (by omega) (by omega)).trans (show _ = (s:Int) by rw [if_pos (by omega)]; congr 1; omega)) ?_;refine gv (abe _) ?_;refine gs (adw (.tmp rfl) (.const _) (by omega) (adz _ 32 (by omega)) rfl) ?_;refine ga ((agm (x:=1) (by omega) (by omega)).trans (by rw [if_pos (by omega)])) ?_;refine gs (aar (n:=i) (.tmp rfl) (.tmp rfl) T27 rfl T218 rfl (by omega) (by first | omega | (simp; omega)) rfl) ?_;refine gs (aa2 (.tmp rfl) rfl (ahp (i:=i) (by omega)) rfl (.tmp rfl) rfl rfl T218 rfl rfl) ?_;refine ga (aa4 (by omega)) ?_;exact gK3 hK1 (o.set i (s % 4294967296)) (1 - s / 2 ^ 32) (i + 1) ⟨by simp [ho],by omega,ae2 hw (by omega),by omega,aev hd,by rw [ace (by omega),aah,aah,Nat.pow_succ]; exact h3⟩ (hw:=Wk.of abj (.cons rfl (BlkSub.of (by rw [map_set]; rfl)) .nil))
 ·have hin : i = n := by have : n <= i := (by simpa [aaa] using ht10); omega
  subst hin;have hl:(A.take i).length = i:=by simp; omega
  have h4:=au3 (a:=A.take i) (b:=b) (out:=o.take i) (adk hA i) (adk hw i) (by simp; omega) hle (by rw [hl,take_of_length_le (show (A.take i).length <= i by omega)]; exact hv);have h9:=wr0 hw ho hn hd h4;refine gR ?_;exact Fin.own2 rfl (by rw [<- h9]) rfl
end Go.Lw
namespace Go.Lw
theorem awq {x:Nat} (h:x <= 9223372036854775807):IntKind.i64.wrap ((x:Int).tdiv 32) = ((x / 32:Nat):Int):=by
 rw [show (32:Int) = ((32:Nat):Int) from rfl,<- Int.ofNat_tdiv];exact i64_in (by omega)
theorem bl0 {x:Nat}:(x:Int).tmod 32 = ((x % 32:Nat):Int):=(Int.ofNat_tmod _ _).symm
theorem a64 (i:Nat):(4294967296:Nat) ^ i = 2 ^ (32 * i):=by rw [Nat.pow_mul]
theorem bkm {a:List Nat} (ha:Ws a) {k:Nat} (hk:k / 32 < a.length):aac a (k / 32) / 2 ^ (k % 32) % 2 = val a / 2 ^ k % 2:=by
 have h1:val a / 2 ^ k = (val a / 4294967296 ^ (k / 32)) / 2 ^ (k % 32):=by
  rw [a64,Nat.div_div_eq_div_mul,<- pow_add]; congr 2; omega
 rw [h1,atk ha _ (by omega),ai1];generalize val (a.drop (k / 32 + 1)) = R
 have h2:4294967296 * R = 2 ^ (k % 32) * (2 * (2 ^ (31 - k % 32) * R)):=by
  have:(4294967296:Nat) = 2 ^ (k % 32) * (2 * 2 ^ (31 - k % 32)):=by
   rw [<- Nat.pow_succ',<- pow_add,show k % 32 + (31 - k % 32).succ = 32 by omega]
  conv=>lhs; rw [this]
  grind
 rw [h2,Nat.add_mul_div_left _ _ (Nat.pow_pos (by omega)),Nat.add_mul_mod_self_left]
theorem bm0 {w c:Nat} (hc:c <= 1):w * 2 ^ 1 % 4294967296 ||| c = w * 2 ^ 1 % 4294967296 + c:=by
 have h:w * 2 ^ 1 % 4294967296 = (w % 2147483648) * 2 ^ 1:=by omega
 rw [h]; exact awa (by omega)
theorem bbn {o c P rt w bit:Nat} (hw:w < 4294967296) (h:o + c * P = 2 * rt + bit) :
  (o + P * (w * 2 ^ 1 % 4294967296 + c)) + (w / 2 ^ 31) * (P * 4294967296) = 2 * (rt + P * w) + bit:=by
 have h0:w * 2 ^ 1 % 4294967296 + (w / 2 ^ 31) * 4294967296 = 2 * w:=by omega
 generalize w * 2 ^ 1 % 4294967296 = r at *;generalize w / 2 ^ 31 = q at *;grind
theorem bbx {q:List Nat} (hq:Ws q) {k Y:Nat} (hk:k / 32 < q.length) (h:val q = 2 ^ (k + 1) * Y) :
  aac q (k / 32) ||| 2 ^ (k % 32) = aac q (k / 32) + 2 ^ (k % 32) /\ aac q (k / 32) + 2 ^ (k % 32) < 4294967296:=by
 have h1:=atk hq (k / 32) (by omega);rw [ai1,h,a64,show k + 1 = 32 * (k / 32) + (k % 32 + 1) by omega,pow_add,Nat.mul_assoc,Nat.mul_div_cancel_left _ (Nat.pow_pos (by omega))] at h1;have hw:=aaq hq (k / 32);generalize aac q (k / 32) = w at *;generalize val (q.drop (k / 32 + 1)) = R at *
 have hB:(4294967296:Nat) = 2 ^ (k % 32 + 1) * 2 ^ (31 - k % 32):=by
  rw [<- pow_add,show k % 32 + 1 + (31 - k % 32) = 32 by omega]
 have h2:w % 2 ^ (k % 32 + 1) = 0:=by
  have h3:(w + 4294967296 * R) % 2 ^ (k % 32 + 1) = 0:=by rw [<- h1]; exact Nat.mul_mod_right _ _
  rw [hB,Nat.mul_assoc,Nat.add_mul_mod_self_left] at h3;exact h3
 have h4:w = 2 ^ (k % 32 + 1) * (w / 2 ^ (k % 32 + 1)):=by
  have:=Nat.div_add_mod w (2 ^ (k % 32 + 1)); omega
 have h5:2 ^ (k % 32) < 2 ^ (k % 32 + 1):=by rw [Nat.pow_succ]; have:=Nat.pow_pos (n:=k % 32) (show 0 < 2 by omega); omega
 constructor
 ·rw [h4]; exact (Nat.two_pow_add_eq_or_of_lt h5 _).symm
 ·have h6:w / 2 ^ (k % 32 + 1) < 2 ^ (31 - k % 32):=by
   rw [Nat.div_lt_iff_lt_mul (Nat.pow_pos (by omega)),Nat.mul_comm,<- hB]; exact hw
  have h7:=mul_le_mul_left (2 ^ (k % 32 + 1)) (show w / 2 ^ (k % 32 + 1) + 1 <= 2 ^ (31 - k % 32) from h6);rw [<- hB,Nat.mul_add,<- h4] at h7;omega
theorem bfm {q:List Nat} (hq:Ws q) {k Y:Nat} (hk:k / 32 < q.length) (h:val q = 2 ^ (k + 1) * Y) :
  val (q.set (k / 32) (aac q (k / 32) + 2 ^ (k % 32))) = 2 ^ k * (2 * Y + 1):=by
 have h1:=ax9 (x:=aac q (k / 32) + 2 ^ (k % 32)) hk;rw [Nat.mul_add] at h1;have h2:4294967296 ^ (k / 32) * 2 ^ (k % 32) = 2 ^ k:=by rw [a64,<- pow_add]; congr 1; omega
 rw [h2,h,Nat.pow_succ] at h1;grind
theorem bf5 {V Bv k:Nat} (hB:0 < Bv) :
  (Bv <= 2 * (V / 2 ^ (k + 1) % Bv) + V / 2 ^ k % 2 -> V / 2 ^ k % Bv = 2 * (V / 2 ^ (k + 1) % Bv) + V / 2 ^ k % 2 - Bv /\ V / 2 ^ k / Bv = 2 * (V / 2 ^ (k + 1) / Bv) + 1) /\
  (2 * (V / 2 ^ (k + 1) % Bv) + V / 2 ^ k % 2 < Bv -> V / 2 ^ k % Bv = 2 * (V / 2 ^ (k + 1) % Bv) + V / 2 ^ k % 2 /\ V / 2 ^ k / Bv = 2 * (V / 2 ^ (k + 1) / Bv)):=by
 have h1:V / 2 ^ (k + 1) = V / 2 ^ k / 2:=by rw [Nat.pow_succ,Nat.div_div_eq_div_mul]
 rw [h1];generalize V / 2 ^ k = X;have h2:=Nat.div_add_mod X 2;have h3:=Nat.div_add_mod (X / 2) Bv;have h4:=Nat.mod_lt (X / 2) hB;have h5:=Nat.mod_lt X (show 0 < 2 by omega);generalize X / 2 % Bv = r at *;generalize X / 2 / Bv = q at *;generalize X % 2 = b at *;generalize X / 2 = Y at *;constructor
 ·intro h;have:=ajy (a:=X) (w:=Bv) (q:=2 * q + 1) (r:=2 * r + b - Bv) (by rw [Nat.mul_add,Nat.mul_one,show Bv * (2 * q) = 2 * (Bv * q) by grind]; omega) (by omega);exact ⟨this.2,this.1⟩
 ·intro h;have:=ajy (a:=X) (w:=Bv) (q:=2 * q) (r:=2 * r + b) (by rw [show Bv * (2 * q) = 2 * (Bv * q) by grind]; omega) (by omega);exact ⟨this.2,this.1⟩
theorem bju {A l:List Nat} (h:l.length = A.length):wr A 0 l = l:=by
 unfold wr;rw [drop_eq_nil_of_le (by omega)]; simp
theorem a0d {V:Nat}:V / 2 ^ ac6 V = 0:=Nat.div_eq_of_lt as2
theorem bdi {a:List Nat} (ha:Ws a) {k:Nat} (h:k < ac6 (val a)):k / 32 < a.length:=by
 rcases lt_or_ge (k / 32) a.length with h1 | h1
 ·exact h1
 ·exfalso;have h2:=abn a ha;rw [a64] at h2;have h3:val a ≠ 0:=by intro h0; rw [h0] at h; simp [ac6] at h
  have h4:=aua h3;have h5:2 ^ (32 * a.length) <= 2 ^ (ac6 (val a) - 1):=ae3 (by omega);omega
end Go.Lw
namespace Go.Lw
open Go.Proofs
theorem awk (a b:List Nat) (ha:Ws a) (hb:Ws b) (na:Nz a) (hb0:val b ≠ 0) (la:a.length < big) (lb:b.length < big) :
  FnC prog 225 [ws a,ws b] (.tup [ws (ofNat (val a / val b)),ws (ofNat (val a % val b))]):=by
 have la':=la;have lb':=lb;unfold big at la lb;obtain ⟨V,hV⟩:∃ V,V = val a:=⟨_,rfl⟩
 obtain ⟨Bv,hBv⟩:∃ Bv,Bv = val b:=⟨_,rfl⟩
 have hBp:0 < Bv:=by omega
 have hBl:2 * Bv <= 4294967296 ^ (b.length + 1):=by have:=abn b hb; rw [Nat.pow_succ]; omega
 have hbl:ac6 V <= 32 * a.length:=by
  rcases Nat.eq_zero_or_pos (ac6 V) with h | h
  ·omega
  ·have := bdi ha (k := ac6 V - 1) (by rw [<- hV]; omega);omega
 rw [<- hV,<- hBv];refine gF0 func225 ?_;refine gl ?_;refine gs (afq (.tmp rfl) T27 rfl T218 rfl rfl (by omega) (by dsimp only; omega) rfl) ?_;refine gl ?_;refine ga (ad6 (y:=1) (by unfold ac0; omega) (by unfold ac0; omega)) ?_;refine gs (afq (.tmp rfl) T27 rfl T218 rfl rfl (by omega) (by dsimp only; omega) rfl) ?_;refine gc (hV ▸ a2i a ha na (by omega)) ?_;refine ga (abd (by omega)) ?_;refine gL3 [0,1] [] (fun (q r:List Nat) (i:Nat)=>[(6,some (.ms 13 1 0 a.length)),(7,some (.ms 17 1 0 (b.length + 1))),(8,some (i64 ((i:Int) - 1)))]) (fun q r _=>[(13,some (.row 1 (q.map u32))),(17,some (.row 1 (r.map u32)))]) (fun q r i=>q.length = a.length /\ r.length = b.length + 1 /\ Ws q /\ Ws r /\ i <= ac6 V /\ val r = V / 2 ^ i % Bv /\ val q = 2 ^ i * (V / 2 ^ i / Bv)) (fun _ _ i=>i) (List.replicate a.length 0) (List.replicate (b.length + 1) 0) (ac6 V) ⟨by simp,by simp,akk _,akk _,le_refl _,by rw [al3,a0d,Nat.zero_mod],by rw [al3,a0d,Nat.zero_div,Nat.mul_zero]⟩ ?_ (h2:=(.cons rfl (BlkSub.of (by rw [map_replicate]; rfl)) (.cons rfl (BlkSub.of (by rw [map_replicate]; rfl)) .nil)))
 rintro q r i ⟨hql,hrl,wq,wr',hi,hr,hq⟩ K1 hK1;refine gC (fun ht22=>?_) (fun ht22=>?_) (st2:=(15,0))
 ·have hi0 : 1 <= i := by have := ht22; simp [aaa] at this; omega
  obtain ⟨k,rfl⟩:∃ k,i = k + 1:=⟨i - 1,by omega⟩
  rw [show ((k + 1:Nat):Int) - 1 = (k:Int) by omega];have hka:=bdi ha (k:=k) (by rw [<- hV]; omega);have hbit:=bkm ha hka;have hwB:=aaq ha (k / 32);rw [<- hV] at hbit;obtain ⟨bit,hbt⟩:∃ bit,bit = V / 2 ^ k % 2:=⟨_,rfl⟩
  have hb1:bit <= 1:=by omega
  have hrlt:=Nat.mod_lt (V / 2 ^ (k + 1)) hBp;have hdw:aac a (k / 32) / 2 ^ (k % 32) <= aac a (k / 32):=Nat.div_le_self _ _;refine gs (ad0 (.tmp rfl) (.const _) (by omega) (awq (by omega)) rfl) ?_;refine gi (aut (n:=k / 32) (by omega) (by first | omega | (simp; omega))) ?_;refine gs (azq (.tmp rfl) (.const _) (by omega) bl0 rfl) ?_;refine gs (adw (.tmp rfl) (.tmp rfl) (by omega) (amu _ (k % 32) (by omega)) rfl) ?_;refine gs (ae6 (.tmp rfl) (.const _) rfl ((ape (y:=1) (by omega) (by omega)).trans (show _ = (bit:Int) by rw [Nat.and_one_is_mod,hbit,hbt])) rfl) ?_;refine gL3 [0,1,8,35] [13] (fun (o:List Nat) (c j:Nat)=>[(6,some (.ms 13 1 0 a.length)),(7,some (.ms 17 1 0 (b.length + 1))),(9,some (u32 c)),(36,some (i64 j))]) (fun o _ _=>[(17,some (.row 1 (o.map u32)))]) (fun o c j=>o.length = b.length + 1 /\ Ws o /\ j <= b.length + 1 /\ c <= 1 /\ o.drop j = r.drop j /\ val (o.take j) + c * 4294967296 ^ j = 2 * val (r.take j) + bit) (fun _ _ j=>b.length + 1 - j) r bit 0 ⟨hrl,wr',by omega,hb1,rfl,by simp [val]⟩ ?_
  rintro o c j ⟨hol,wo,hj,hc,hd,hv⟩ K2 hK2;refine gC (fun ht37=>?_) (fun ht37=>?_)
  ·have hjn : j < b.length + 1 := by have := ht37; simp [aaa] at this; omega
   have e1:aac o j = aac r j:=aej hd;have h1:=aaq wr' j;have h3:=bbn (w:=aac r j) h1 hv;refine gs (aar (n:=j) (.tmp rfl) (.tmp rfl) T27 rfl T218 rfl (by omega) (by first | omega | (simp; omega)) rfl) ?_;refine gs (aae (.tmp rfl) rfl (by rw [ahp (show j < o.length by omega),e1]) T218 rfl rfl rfl) ?_;refine gs (afx (.tmp rfl) (.const _) (by omega) (a5d (n:=1) (by omega)) rfl) ?_;refine gs (ae6 (.tmp rfl) (.tmp rfl) rfl ((am1 (by omega) (by omega)).trans (by rw [bm0 hc])) rfl) ?_;refine gs (aar (n:=j) (.tmp rfl) (.tmp rfl) T27 rfl T218 rfl (by omega) (by first | omega | (simp; omega)) rfl) ?_;refine gs (aae (.tmp rfl) rfl (by rw [ahp (show j < o.length by omega),e1]) T218 rfl rfl rfl) ?_;refine gs (adw (.tmp rfl) (.const _) (by omega) (amu _ 31 (by omega)) rfl) ?_;refine gs (aar (n:=j) (.tmp rfl) (.tmp rfl) T27 rfl T218 rfl (by omega) (by first | omega | (simp; omega)) rfl) ?_;refine gs (aa2 (.tmp rfl) rfl (ahp (i:=j) (by omega)) rfl (.tmp rfl) rfl rfl T218 rfl rfl) ?_;refine gD ?_;refine ga (aa4 (by omega)) ?_;exact gK3 hK2 (o.set j (aac r j * 2 ^ 1 % 4294967296 + c)) (aac r j / 2 ^ 31) (j + 1) ⟨by simp [hol],ae2 wo (by omega),by omega,by omega,aev hd,by rw [ace (by omega),aah]; rw [show 4294967296 ^ (j + 1) = 4294967296 ^ j * 4294967296 from Nat.pow_succ _ _]; exact h3⟩ (hw:=Wk.of abj (.cons rfl (BlkSub.of (by rw [map_set]; rfl)) (.cons rfl (.refl _) .nil)))
  ·have hjn : j = b.length + 1 := by have : b.length + 1 <= j := (by have := ht37; simp [aaa] at this; omega); omega
   subst hjn;rw [aav (l:=r) (by omega),aav (l:=o) (by omega),hr] at hv
   have hc0:c = 0:=by
    cases c with
    | zero=>rfl
    | succ c=>rw [Nat.succ_mul] at hv; omega
   subst hc0;rw [Nat.zero_mul,Nat.add_zero] at hv;have hot:o.take (b.length + 1) = o:=take_of_length_le (by omega);obtain ⟨d1,d2⟩:=bf5 (V:=V) (k:=k) hBp;rw [<- hbt] at d1 d2;have hcmp:=aq2 17 o b (b.length + 1) wo hb (by omega);rw [hot,<- hBv,hv] at hcmp;have hqk:k / 32 < q.length:=by omega
   obtain ⟨w1,w2⟩:=bbx wq hqk hq;have w3:=bfm wq hqk hq;refine gt (aad hcmp (.cons (.tmp rfl) (.cons (.tmp rfl) .nil)) (by first | exact hH0 | exact hH1 rfl | exact hH2 rfl rfl) rfl rfl) ?_;refine gC (fun ht58=>?_) (fun ht58=>?_)
   ·have hge:Bv <= 2 * (V / 2 ^ (k + 1) % Bv) + bit:=by
     rcases lt_or_ge (2 * (V / 2 ^ (k + 1) % Bv) + bit) Bv with h | h
     ·rw [if_pos h] at ht58; cases ht58
     ·exact h
    obtain ⟨d3,d4⟩:=d1 hge;have htk:=ark o b (b.length + 1) wo hb (by omega) (by unfold big; omega) (by rw [hot,<- hBv,hv]; exact hge);rw [hot,<- hBv,hv,<- d3,bju (by rw [ab0,hol])] at htk;have hx2:V / 2 ^ k % Bv < 4294967296 ^ (b.length + 1):=by have:=Nat.mod_lt (V / 2 ^ k) hBp; omega
    refine gt (aad (Con.rekey 17 rfl rfl htk) (.cons (.tmp rfl) (.cons (.tmp rfl) .nil)) (by first | exact hH0 | exact hH1 rfl | exact hH2 rfl rfl) rfl rfl) ?_;refine gs (ad0 (.tmp rfl) (.const _) (by omega) (awq (by omega)) rfl) ?_;refine gs (aar (n:=k / 32) (.tmp rfl) (.tmp rfl) T27 rfl T218 rfl (by omega) (by omega) rfl) ?_;refine gs (aae (.tmp rfl) rfl (ahp (i:=k / 32) hqk) T218 rfl rfl rfl) ?_;refine gs (azq (.tmp rfl) (.const _) (by omega) bl0 rfl) ?_;refine gs (afx (.const _) (.tmp rfl) (by omega) ((a5d (x:=1) (n:=k % 32) (by omega)).trans (show _ = ((2 ^ (k % 32):Nat):Int) by rw [Nat.one_mul,Nat.mod_eq_of_lt (lt_of_le_of_lt (Nat.le_add_left _ _) w2)])) rfl) ?_;refine gs (ae6 (.tmp rfl) (.tmp rfl) rfl ((am1 (aaq wq _) (lt_of_le_of_lt (Nat.le_add_left _ _) w2)).trans (by rw [w1])) rfl) ?_;refine gs (aar (n:=k / 32) (.tmp rfl) (.tmp rfl) T27 rfl T218 rfl (by omega) (by omega) rfl) ?_;refine gs (aa2 (.tmp rfl) rfl (ahp (i:=k / 32) hqk) rfl (.tmp rfl) rfl rfl T218 rfl rfl) ?_;refine gD ?_;refine ga (abd (by omega)) ?_;exact gK3 hK1 (q.set (k / 32) (aac q (k / 32) + 2 ^ (k % 32))) (ad1 (b.length + 1) (V / 2 ^ k % Bv)) k ⟨by simp [hql],ab0 _ _,ae2 wq w2,aft _ _,by omega,afh _ _ hx2,by rw [w3,d4]⟩ (hw:=Wk.of abj (.cons rfl (BlkSub.of (by first | rfl | (rw [map_set]; rfl))) (.cons rfl (.refl _) .nil)))
   ·have hge:2 * (V / 2 ^ (k + 1) % Bv) + bit < Bv:=by
     rcases lt_or_ge (2 * (V / 2 ^ (k + 1) % Bv) + bit) Bv with h | h
     ·exact h
     ·rw [if_neg (by omega)] at ht58; split at ht58 <;> cases ht58
    obtain ⟨d3,d4⟩:=d2 hge;refine ga (abd (by omega)) ?_;exact gK3 hK1 q o k ⟨hql,hol,wq,wo,by omega,by rw [hv,d3],by rw [hq,d4,Nat.pow_succ,Nat.mul_assoc]⟩ (hw:=Wk.of abj (.cons rfl (BlkSub.of (by first | rfl | (rw [map_set]; rfl))) (.cons rfl (.refl _) .nil)))
 ·have hi0 : i = 0 := by have := ht22; simp [aaa] at this; omega
  subst hi0;refine gW ((Wk.freeze (k:=13) rfl).trans <| (Wk.freeze (k:=17) rfl).trans <| Wk.of (sl:=[(6,some (ws q)),(7,some (ws r))]) (hp:=[]) (.cons rfl (Sub.of (by rw [show AV.fz 13 1 (q.map u32) (.ms 13 1 0 a.length) = ws q from abu (by simp [hql])]; rfl)) (.cons rfl (Sub.of (abu (by simp [hrl]))) .nil)) .nil) ?_;refine gc (af3 q wq (by omega)) ?_;refine gc (af3 r wr' (by unfold big; omega)) ?_;refine gE2 ?_;rw [hr,hq]; simp []
end Go.Lw
namespace Go.Lw
def GOk (L:Nat) (A:List Nat) (n:Nat):Prop:=Ws A /\ n <= A.length /\ A.length <= L /\ n = (ofNat (val (A.take n))).length
theorem a2s (v:Nat):ofNat v = ad1 (ofNat v).length v:=by
 have h:=ao2 (ofNat v) (aa7 _)
 rwa [aam] at h
theorem afd {L:Nat} {A:List Nat} {n v:Nat} (h:GOk L A n) (hv:v <= val (A.take n)) :
  GOk L (wr A 0 (ad1 n v)) (ofNat v).length /\ val ((wr A 0 (ad1 n v)).take (ofNat v).length) = v /\ val ((wr A 0 (ad1 n v)).take n) = v:=by
 obtain ⟨hw,hn,hl,hN⟩:=h;have hlt:=aeh hw n;have hvl:v < 4294967296 ^ n:=by omega
 have hle:(ofNat v).length <= n:=aal hvl
 have ht:(wr A 0 (ad1 n v)).take n = ad1 n v:=by
  unfold wr;rw [List.take_zero,nil_append,List.take_append_of_le_length (by rw [ab0]; omega),take_of_length_le (by rw [ab0]; omega)]
 have ht2:(wr A 0 (ad1 n v)).take (ofNat v).length = ofNat v:=by
  have h1:((wr A 0 (ad1 n v)).take n).take (ofNat v).length = (wr A 0 (ad1 n v)).take (ofNat v).length:=by rw [List.take_take,Nat.min_eq_left hle]
  rw [<- h1,ht,am4 _ _ _ hle,<- a2s]
 have hlen:(wr A 0 (ad1 n v)).length = A.length:=amf (by rw [ab0]; omega);refine ⟨⟨a3s hw (aft _ _),by omega,by omega,by rw [ht2,aam]⟩,by rw [ht2,aam],by rw [ht,afh _ _ hvl]⟩
theorem aeb {L:Nat} {A:List Nat} {n:Nat} (h:GOk L A n) (hx:0 < val (A.take n)):0 < n /\ val (A.take n) % 2 = aac A 0 % 2:=by
 have hn:0 < n:=by
  rcases Nat.eq_zero_or_pos n with h0 | h0
  ·subst h0; simp [val] at hx
  ·exact h0
 refine ⟨hn,?_⟩;have:=ai1 (A.take n) 0;rw [drop_zero,ae8 hn] at this;omega
theorem bcz {L:Nat} {A:List Nat} {n:Nat} (h:GOk L A n):A.take n = ofNat (val (A.take n)):=by
 obtain ⟨hw,hn,hl,hN⟩:=h;have h1:=avm (adk hw n);rw [<- hN,List.take_take,Nat.min_self] at h1;exact h1
theorem a16 {L:Nat} {A:List Nat} {n:Nat} (h:GOk L A n):n = 0 ↔ val (A.take n) = 0:=by
 constructor
 ·intro h0; subst h0; rfl
 ·intro h0;have h1:=h.2.2.2;rw [h0] at h1;exact h1
theorem a5r {x y:Nat} (hx:x % 2 = 0) (hy:y % 2 = 0):Nat.gcd x y = 2 * Nat.gcd (x / 2) (y / 2):=by
 rw [<- Nat.gcd_mul_left,Nat.mul_div_cancel' (Nat.dvd_of_mod_eq_zero hx),Nat.mul_div_cancel' (Nat.dvd_of_mod_eq_zero hy)]
theorem aw8 {x y:Nat} (hx:x % 2 = 0) (hy:y % 2 = 1):Nat.gcd (x / 2) y = Nat.gcd x y:=by
 have h1:x = 2 * (x / 2):=by omega
 have h2:Nat.Coprime 2 y:=by
  rw [Nat.Coprime,Nat.gcd_rec,hy]; rfl
 conv=>rhs; rw [h1]
 exact (Nat.Coprime.gcd_mul_left_cancel _ h2).symm
theorem a8p {x y:Nat} (h:y <= x):Nat.gcd (x - y) y = Nat.gcd x y:=Nat.gcd_sub_self_left h
theorem a0l {t L g V:Nat} (hg:0 < g) (h:2 ^ t * g <= V) (hV:V < 4294967296 ^ L):t < 32 * L:=by
 rw [a64] at hV;have h1:=mul_le_mul_left (2 ^ t) (show 1 <= g from hg);rcases lt_or_ge t (32 * L) with h2 | h2
 ·exact h2
 ·have:=ae3 h2; omega
end Go.Lw
namespace Go.Lw
open Go.Proofs
theorem apw (A D:List Nat) (n p:Nat) (hA:Ws A) (hD:Ws D) (hn:n <= A.length) (hp:p <= D.length) (la:A.length <= big) (hle:val (D.take p) <= val (A.take n)) :
  Con prog 287 [.ms 901 1 0 n, .ms 902 1 0 p] [(902, some (.row 1 (D.map u32))), (901, some (.row 1 (A.map u32)))] (.tup [])
   [(902,some (.row 1 (D.map u32))),(901,some (.row 1 ((wr A 0 (ad1 n (val (A.take n) - val (D.take p)))).map u32)))]:=by
 have h1:=Con.rekey 901 rfl rfl (ark A (D.take p) n hA (adk hD p) hn la hle);refine Con.borrow (args:=[.ms 901 1 0 n,ws (D.take p)]) 902 1 (D.map u32) rfl rfl rfl ?_ rfl ?_ h1
 ·intro j x' hj
  match j,hj with
  | 0,hj=>cases hj; exact .inl rfl
  | 1,hj=>cases hj; exact .inr ⟨0,p,rfl,by simpa using hp,by rw [ajp]; rfl⟩
 ·intro k' x h;obtain ⟨_,h⟩:=aem h;cases h; exact bdx _
theorem boi {A:List Nat} (hA:Ws A) {i:Nat}:asf .and .u32 (aac A i:Int) 1 = ((aac A i % 2:Nat):Int) :=
 (ape (y:=1) (aaq hA i) (by omega)).trans (by rw [Nat.and_one_is_mod])
theorem a8v (a b:List Nat) (ha:Ws a) (hb:Ws b) (na:Nz a) (nb:Nz b) (la:a.length + b.length < big):FnC prog 224 [ws a, ws b] (ws (ofNat (Nat.gcd (val a) (val b)))):=by
 have la':=la;unfold big at la;have ea:=ahb ha na;have eb:=ahb hb nb;obtain ⟨L,hL⟩:∃ L,L = a.length + b.length:=⟨_,rfl⟩
 obtain ⟨G,hG⟩:∃ G,G = Nat.gcd (val a) (val b):=⟨_,rfl⟩
 rw [<- hG];refine gF0 func224 ?_;refine gt (aad (ak0 901 rfl a ha (by unfold big; omega)) (.cons (.tmp rfl) .nil) (by first | exact hH0 | exact hH1 rfl | exact hH2 rfl rfl) rfl rfl) ?_;refine gt (aad (ak0 902 rfl b hb (by unfold big; omega)) (.cons (.tmp rfl) .nil) (by first | exact hH0 | exact hH1 rfl | exact hH2 rfl rfl) rfl rfl) ?_ (2,0);refine gW (Wk.of (sl:=[(0,some (.ms 901 1 0 a.length)),(1,some (.ms 902 1 0 b.length))]) (hp:=[(901,some (.row 1 (a.map u32))),(902,some (.row 1 (b.map u32)))]) (.cons rfl (Sub.of (by rw [ea])) (.cons rfl (Sub.of (by rw [eb])) .nil)) (.cons rfl (.refl _) (.cons rfl (.refl _) .nil))) ?_;refine gC (fun ht12=>?_) (fun ht12=>?_) (st1:=(3,0))
 ·have h0 : a = [] := List.length_eq_zero_iff.1 (by simpa [aaa] using ht12);refine gW ((Wk.freeze (k:=902) rfl).trans <| Wk.of (sl:=[(1,some (ws b))]) (hp:=[]) (.cons rfl (Sub.of (abu (by simp))) .nil) .nil) ?_;refine gE1 ?_;rw [hG,h0]; simp [val,eb]
 ·have h0 : a ≠ [] := fun h => by rw [h] at ht12; simp [aaa] at ht12
  refine gC (fun ht16=>?_) (fun ht16=>?_) (st1:=(5,0))
  ·have h1 : b = [] := List.length_eq_zero_iff.1 (by simpa [aaa] using ht16);refine gW ((Wk.freeze (k:=901) rfl).trans <| Wk.of (sl:=[(0,some (ws a))]) (hp:=[]) (.cons rfl (Sub.of (abu (by simp))) .nil) .nil) ?_;refine gE1 ?_;rw [hG,h1]; simp [val,ea]
  ·have h1 : b ≠ [] := fun h => by rw [h] at ht16; simp [aaa] at ht16
   have va:=ak4 na h0;have vb:=ak4 nb h1;have hGp:0 < G:=by rw [hG]; exact Nat.gcd_pos_of_pos_left _ va
   have hGa:G <= val a:=by rw [hG]; exact Nat.gcd_le_left _ va
   have vla:=abn a ha;refine gL5 [] [] (fun (A D:List Nat) (n p t:Nat)=>[(0,some (.ms 901 1 0 n)),(1,some (.ms 902 1 0 p)),(5,some (i64 t))]) (fun A D _ _ _=>[(901,some (.row 1 (A.map u32))),(902,some (.row 1 (D.map u32)))]) (fun A D n p t=>GOk L A n /\ GOk L D p /\ 0 < val (A.take n) /\ 0 < val (D.take p) /\ G = 2 ^ t * Nat.gcd (val (A.take n)) (val (D.take p))) (fun A _ n _ _=>val (A.take n)) a b a.length b.length 0 ⟨⟨ha,le_refl _,by omega,by rw [take_length,ea]⟩,⟨hb,le_refl _,by omega,by rw [take_length,eb]⟩,by rw [take_length]; exact va,by rw [take_length]; exact vb,by rw [take_length,take_length,hG]; simp⟩ ?_
   rintro A D n p t ⟨gA,gD,pA,pD,hg⟩ K1 hK1;refine gs (aar (n:=0) (.tmp rfl) (.const _) T27 rfl T218 rfl (by omega) (by have:=(aeb gA pA).1; omega) rfl) ?_;refine gs (aae (.tmp rfl) rfl (ahp (i:=0) (by have:=(aeb gA pA).1; have:=gA.2.1; omega)) T218 rfl rfl rfl) ?_;refine gs (ae6 (.tmp rfl) (.const _) rfl (boi gA.1) rfl) ?_;refine gs (abx rfl rfl rfl (fun h=>aar (n:=0) (.opt rfl (o1 h)) (.const _) T27 rfl T218 rfl (by omega) (by have:=(aeb gD pD).1; omega) rfl)) ?_;refine gs (abx rfl rfl rfl (fun h=>aae (.opt rfl (o1 h)) rfl (ahp (i:=0) (by have:=(aeb gD pD).1; have:=gD.2.1; omega)) T218 rfl rfl rfl)) ?_;refine gs (abx rfl rfl rfl (fun h=>ae6 (.opt rfl (o1 h)) (.const _) rfl (boi gD.1) rfl)) ?_;refine gC (fun ht29=>?_) (fun ht29=>?_)
   ·have hev:aac A 0 % 2 = 0 /\ aac D 0 % 2 = 0:=by
     have:=ht29;simp [aaa] at this;omega
    have xA:val (A.take n) % 2 = 0:=by rw [(aeb gA pA).2]; exact hev.1
    have xD:val (D.take p) % 2 = 0:=by rw [(aeb gD pD).2]; exact hev.2
    obtain ⟨k1,k2,k3⟩:=afd gA (v:=val (A.take n) / 2) (by omega);obtain ⟨m1,m2,m3⟩:=afd gD (v:=val (D.take p) / 2) (by omega);have ht:t < 32 * a.length:=a0l (Nat.gcd_pos_of_pos_left _ pA) (by rw [<- hg]; exact hGa) vla;refine gt (aad (Con.rekeyR 901 rfl (ahr A n gA.1 gA.2.1 (by have:=gA.2.2.1; unfold big; omega))) (.cons (.tmp rfl) .nil) (by first | exact hH0 | exact hH1 rfl | exact hH2 rfl rfl) rfl rfl) ?_;refine gt (aad (Con.rekeyR 902 rfl (ahr D p gD.1 gD.2.1 (by have:=gD.2.2.1; unfold big; omega))) (.cons (.tmp rfl) .nil) (by first | exact hH0 | exact hH1 rfl | exact hH2 rfl rfl) rfl rfl) ?_;refine ga (show _ = ((t + 1:Nat):Int) by rw [aa4 (by omega)]; omega) ?_;exact gK5 hK1 (wr A 0 (ad1 n (val (A.take n) / 2))) (wr D 0 (ad1 p (val (D.take p) / 2))) ((ofNat (val (A.take n) / 2)).length) ((ofNat (val (D.take p) / 2)).length) (t + 1) ⟨k1,m1,by rw [k2]; omega,by rw [m2]; omega,by rw [k2,m2,hg,a5r xA xD,Nat.pow_succ]; grind⟩ (by rw [k2]; omega)
   ·have hod:val (A.take n) % 2 = 1 \/ val (D.take p) % 2 = 1:=by
     rw [(aeb gA pA).2,(aeb gD pD).2];have:=ht29;simp [aaa] at this;omega
    refine gL4 [5] [] (fun (A1 D1:List Nat) (n1 p1:Nat)=>[(0,some (.ms 901 1 0 n1)),(1,some (.ms 902 1 0 p1))]) (fun A1 D1 _ _=>[(901,some (.row 1 (A1.map u32))),(902,some (.row 1 (D1.map u32)))]) (fun A1 D1 n1 p1=>GOk L A1 n1 /\ GOk L D1 p1 /\ 0 < val (D1.take p1) /\ (val (A1.take n1) % 2 = 1 \/ val (D1.take p1) % 2 = 1) /\ G = 2 ^ t * Nat.gcd (val (A1.take n1)) (val (D1.take p1))) (fun A1 D1 n1 p1=>val (A1.take n1) + val (D1.take p1)) A D n p ⟨gA,gD,pD,hod,hg⟩ ?_
    rintro A1 D1 n1 p1 ⟨gA1,gD1,pD1,hod1,hg1⟩ K2 hK2;refine gC (fun ht38=>?_) (fun ht38=>?_) (st2:=(19,0))
    ·have pA1:0 < val (A1.take n1):=by
      have h3:n1 ≠ 0:=by have:=ht38; simp [aaa] at this; omega
      exact Nat.pos_of_ne_zero (fun h=>h3 ((a16 gA1).2 h))
     refine gL2 [5] [902] (fun (A2:List Nat) (n2:Nat)=>[(0,some (.ms 901 1 0 n2)),(1,some (.ms 902 1 0 p1))]) (fun A2 _=>[(901,some (.row 1 (A2.map u32)))]) (fun A2 n2=>GOk L A2 n2 /\ 0 < val (A2.take n2) /\ val (A2.take n2) <= val (A1.take n1) /\ (val (A2.take n2) % 2 = 1 \/ val (D1.take p1) % 2 = 1) /\ Nat.gcd (val (A2.take n2)) (val (D1.take p1)) = Nat.gcd (val (A1.take n1)) (val (D1.take p1))) (fun A2 n2=>val (A2.take n2)) A1 n1 ⟨gA1,pA1,le_refl _,hod1,rfl⟩ ?_
     rintro A2 n2 ⟨gA2,pA2,lA2,hod2,hg2⟩ K3 hK3;refine gs (aar (n:=0) (.tmp rfl) (.const _) T27 rfl T218 rfl (by omega) (by have:=(aeb gA2 pA2).1; omega) rfl) ?_;refine gs (aae (.tmp rfl) rfl (ahp (i:=0) (by have:=(aeb gA2 pA2).1; have:=gA2.2.1; omega)) T218 rfl rfl rfl) ?_;refine gs (ae6 (.tmp rfl) (.const _) rfl (boi gA2.1) rfl) ?_;refine gC (fun ht43=>?_) (fun ht43=>?_)
     ·have xA2:val (A2.take n2) % 2 = 0:=by
       rw [(aeb gA2 pA2).2];have:=ht43;simp [aaa] at this;omega
      obtain ⟨k1,k2,k3⟩:=afd gA2 (v:=val (A2.take n2) / 2) (by omega);refine gt (aad (Con.rekeyR 901 rfl (ahr A2 n2 gA2.1 gA2.2.1 (by have:=gA2.2.2.1; unfold big; omega))) (.cons (.tmp rfl) .nil) (by first | exact hH0 | exact hH1 rfl | exact hH2 rfl rfl) rfl rfl) ?_;exact gK2 hK3 (wr A2 0 (ad1 n2 (val (A2.take n2) / 2))) ((ofNat (val (A2.take n2) / 2)).length) ⟨k1,by rw [k2]; omega,by rw [k2]; omega,.inr (by omega),by rw [k2,aw8 xA2 (by omega),hg2]⟩ (by rw [k2]; omega)
     ·have xA2:val (A2.take n2) % 2 = 1:=by
       rw [(aeb gA2 pA2).2];have:=ht43;simp [aaa] at this;omega
      refine gL2 [5] [901] (fun (D2:List Nat) (p2:Nat)=>[(0,some (.ms 901 1 0 n2)),(1,some (.ms 902 1 0 p2))]) (fun D2 _=>[(902,some (.row 1 (D2.map u32)))]) (fun D2 p2=>GOk L D2 p2 /\ 0 < val (D2.take p2) /\ val (D2.take p2) <= val (D1.take p1) /\ Nat.gcd (val (A2.take n2)) (val (D2.take p2)) = Nat.gcd (val (A2.take n2)) (val (D1.take p1))) (fun D2 p2=>val (D2.take p2)) D1 p1 ⟨gD1,pD1,le_refl _,rfl⟩ ?_
      rintro D2 p2 ⟨gD2,pD2,lD2,hg3⟩ K4 hK4;refine gs (aar (n:=0) (.tmp rfl) (.const _) T27 rfl T218 rfl (by omega) (by have:=(aeb gD2 pD2).1; omega) rfl) ?_;refine gs (aae (.tmp rfl) rfl (ahp (i:=0) (by have:=(aeb gD2 pD2).1; have:=gD2.2.1; omega)) T218 rfl rfl rfl) ?_;refine gs (ae6 (.tmp rfl) (.const _) rfl (boi gD2.1) rfl) ?_;refine gC (fun ht50=>?_) (fun ht50=>?_)
      ·have xD2:val (D2.take p2) % 2 = 0:=by
        rw [(aeb gD2 pD2).2];have:=ht50;simp [aaa] at this;omega
       obtain ⟨k1,k2,k3⟩:=afd gD2 (v:=val (D2.take p2) / 2) (by omega);refine gt (aad (Con.rekeyR 902 rfl (ahr D2 p2 gD2.1 gD2.2.1 (by have:=gD2.2.2.1; unfold big; omega))) (.cons (.tmp rfl) .nil) (by first | exact hH0 | exact hH1 rfl | exact hH2 rfl rfl) rfl rfl) ?_;exact gK2 hK4 (wr D2 0 (ad1 p2 (val (D2.take p2) / 2))) ((ofNat (val (D2.take p2) / 2)).length) ⟨k1,by rw [k2]; omega,by rw [k2]; omega,by rw [k2,Nat.gcd_comm,aw8 xD2 xA2,Nat.gcd_comm,hg3]⟩ (by rw [k2]; omega)
      ·have xD2:val (D2.take p2) % 2 = 1:=by
        rw [(aeb gD2 pD2).2];have:=ht50;simp [aaa] at this;omega
       refine gt (aad (aq6 901 902 (by omega) A2 D2 n2 p2 gA2.1 gD2.1 gA2.2.1 gD2.2.1) (.cons (.tmp rfl) (.cons (.tmp rfl) .nil)) (by first | exact hH0 | exact hH1 rfl | exact hH2 rfl rfl) rfl rfl) ?_;refine gC (fun ht56=>?_) (fun ht56=>?_) (st1:=(17,0)) (st2:=(77777,0))
       ·have hlt:val (A2.take n2) < val (D2.take p2):=by
         rcases lt_or_ge (val (A2.take n2)) (val (D2.take p2)) with h | h
         ·exact h
         ·rw [if_neg (by omega)] at ht56; split at ht56 <;> cases ht56
        refine gW (Wk.o (sl:=[(0,some (.ms 902 1 0 p2)),(1,some (.ms 901 1 0 n2)),(5,some (i64 t))]) (hp:=[(901,some (.row 1 (A2.map u32))),(902,some (.row 1 (D2.map u32)))])) ?_ (17,0);refine gW (Wk.rekey (k:=901) (d:=903) rfl rfl) ?_ (17,0);refine gW (Wk.rekey (k:=902) (d:=901) rfl rfl) ?_ (17,0);refine gW (Wk.rekey (k:=903) (d:=902) rfl rfl) ?_ (17,0);refine gW (Wk.of (sl:=[(0,some (.ms 901 1 0 p2)),(1,some (.ms 902 1 0 n2)),(5,some (i64 t))]) (hp:=[(901,some (.row 1 (D2.map u32))),(902,some (.row 1 (A2.map u32)))]) (.cons rfl (Sub.refl _) (.cons rfl (Sub.refl _) (.cons rfl (Sub.refl _) .nil))) (.cons rfl (.refl _) (.cons rfl (.refl _) .nil))) ?_ (17,0);obtain ⟨A3,D3,n3,p3,gA3,gD3,xA3,xD3,hle3,hg4,hs3,e1,e2,e3,e4⟩:∃ A3 D3 n3 p3,GOk L A3 n3 /\ GOk L D3 p3 /\ val (A3.take n3) % 2 = 1 /\ val (D3.take p3) % 2 = 1 /\ val (D3.take p3) <= val (A3.take n3) /\ Nat.gcd (val (A3.take n3)) (val (D3.take p3)) = Nat.gcd (val (A2.take n2)) (val (D2.take p2)) /\ val (A3.take n3) + val (D3.take p3) = val (A2.take n2) + val (D2.take p2) /\ A3 = D2 /\ n3 = p2 /\ D3 = A2 /\ p3 = n2:=⟨D2,A2,p2,n2,gD2,gA2,xD2,xA2,by omega,Nat.gcd_comm _ _,Nat.add_comm _ _,rfl,rfl,rfl,rfl⟩
        rw [<- e1,<- e2,<- e3,<- e4];refine go ?_;refine gt (aad (apw A3 D3 n3 p3 gA3.1 gD3.1 gA3.2.1 gD3.2.1 (by have:=gA3.2.2.1; unfold big; omega) hle3) (.cons (.tmp rfl) (.cons (.tmp rfl) .nil)) (by first | exact hH0 | exact hH1 rfl | exact hH2 rfl rfl) rfl rfl) ?_;refine gt (aad (Con.rekeyR 901 rfl (aoz (wr A3 0 (ad1 n3 (val (A3.take n3) - val (D3.take p3)))) n3 (a3s gA3.1 (aft _ _)) (by rw [amf (by rw [ab0]; have:=gA3.2.1; omega)]; exact gA3.2.1) (by rw [amf (by rw [ab0]; have:=gA3.2.1; omega)]; have:=gA3.2.2.1; unfold big; omega))) (.cons (.tmp rfl) .nil) (by first | exact hH0 | exact hH1 rfl | exact hH2 rfl rfl) rfl rfl) ?_;exact gK4 hK2 (wr A3 0 (ad1 n3 (val (A3.take n3) - val (D3.take p3)))) D3 ((ofNat (val (A3.take n3) - val (D3.take p3))).length) p3 ⟨(afd gA3 (by omega)).1,gD3,by omega,.inr xD3,by rw [(afd gA3 (v:=val (A3.take n3) - val (D3.take p3)) (by omega)).2.1,a8p hle3,hg4,hg3,hg2,hg1]⟩ (by rw [(afd gA3 (v:=val (A3.take n3) - val (D3.take p3)) (by omega)).2.1]; omega) (hw:=Wk.of (.cons rfl (Sub.of (by rw [(afd gA3 (v:=val (A3.take n3) - val (D3.take p3)) (by omega)).2.2])) (.k (.k .nil))) (.cons rfl (.refl _) (.cons rfl (.refl _) .nil)))
       ·have hlt:val (D2.take p2) <= val (A2.take n2):=by
         rcases lt_or_ge (val (A2.take n2)) (val (D2.take p2)) with h | h
         ·rw [if_pos h] at ht56; cases ht56
         ·exact h
        refine gW (Wk.o (sl:=[(0,some (.ms 901 1 0 n2)),(1,some (.ms 902 1 0 p2)),(5,some (i64 t))]) (hp:=[(901,some (.row 1 (A2.map u32))),(902,some (.row 1 (D2.map u32)))])) ?_ (77777,0);obtain ⟨A3,D3,n3,p3,gA3,gD3,xA3,xD3,hle3,hg4,hs3,e1,e2,e3,e4⟩:∃ A3 D3 n3 p3,GOk L A3 n3 /\ GOk L D3 p3 /\ val (A3.take n3) % 2 = 1 /\ val (D3.take p3) % 2 = 1 /\ val (D3.take p3) <= val (A3.take n3) /\ Nat.gcd (val (A3.take n3)) (val (D3.take p3)) = Nat.gcd (val (A2.take n2)) (val (D2.take p2)) /\ val (A3.take n3) + val (D3.take p3) = val (A2.take n2) + val (D2.take p2) /\ A3 = A2 /\ n3 = n2 /\ D3 = D2 /\ p3 = p2:=⟨A2,D2,n2,p2,gA2,gD2,xA2,xD2,hlt,rfl,rfl,rfl,rfl,rfl,rfl⟩
        rw [<- e1,<- e2,<- e3,<- e4];obtain ⟨k1,k2,k3⟩:=afd gA3 (v:=val (A3.take n3) - val (D3.take p3)) (by omega);refine go ?_;refine gt (aad (apw A3 D3 n3 p3 gA3.1 gD3.1 gA3.2.1 gD3.2.1 (by have:=gA3.2.2.1; unfold big; omega) hle3) (.cons (.tmp rfl) (.cons (.tmp rfl) .nil)) (by first | exact hH0 | exact hH1 rfl | exact hH2 rfl rfl) rfl rfl) ?_;refine gt (aad (Con.rekeyR 901 rfl (aoz (wr A3 0 (ad1 n3 (val (A3.take n3) - val (D3.take p3)))) n3 (a3s gA3.1 (aft _ _)) (by rw [amf (by rw [ab0]; have:=gA3.2.1; omega)]; exact gA3.2.1) (by rw [amf (by rw [ab0]; have:=gA3.2.1; omega)]; have:=gA3.2.2.1; unfold big; omega))) (.cons (.tmp rfl) .nil) (by first | exact hH0 | exact hH1 rfl | exact hH2 rfl rfl) rfl rfl) ?_;exact gK4 hK2 (wr A3 0 (ad1 n3 (val (A3.take n3) - val (D3.take p3)))) D3 ((ofNat (val (A3.take n3) - val (D3.take p3))).length) p3 ⟨(afd gA3 (by omega)).1,gD3,by omega,.inr xD3,by rw [(afd gA3 (v:=val (A3.take n3) - val (D3.take p3)) (by omega)).2.1,a8p hle3,hg4,hg3,hg2,hg1]⟩ (by rw [(afd gA3 (v:=val (A3.take n3) - val (D3.take p3)) (by omega)).2.1]; omega) (hw:=Wk.of (.cons rfl (Sub.of (by rw [(afd gA3 (v:=val (A3.take n3) - val (D3.take p3)) (by omega)).2.2])) (.k (.k .nil))) (.cons rfl (.refl _) (.cons rfl (.refl _) .nil)))
    ·have zA1:val (A1.take n1) = 0:=by
      have h3:n1 = 0:=by have:=ht38; simp [aaa] at this; omega
      exact (a16 gA1).1 h3
     rw [zA1,Nat.gcd_zero_left] at hg1;refine gW ((Wk.freeze (k:=902) rfl).trans <| Wk.of (sl:=[(1,some (ws (ofNat (val (D1.take p1))))),(5,some (i64 t))]) (hp:=[]) (.cons rfl (Sub.of (by rw [bbv (by rw [length_map]; have:=gD1.2.1; omega),ajp,<- bcz gD1])) (.k .nil)) .nil) ?_;refine gL1 [64] [] (fun (i:Nat)=>[(1,some (ws (ofNat (2 ^ i * val (D1.take p1))))),(65,some (i64 i))]) (fun _=>[]) (fun i=>i <= t) (fun i=>t - i) 0 (zero_le _) ?_ (h1:=(.cons rfl (Sub.of (by rw [Nat.pow_zero,Nat.one_mul])) (.k .nil)));rintro i hit K5 hK5;refine gC (fun ht66=>?_) (fun ht66=>?_)
     ·have hin : i < t := by simpa [aaa] using ht66
      have h3:2 ^ i * val (D1.take p1) <= G:=by rw [hg1]; exact mul_le_mul_right _ (ae3 (by omega))
      have h4:(ofNat (2 ^ i * val (D1.take p1))).length <= a.length:=aal (by omega);have ht:t < 32 * a.length:=a0l pD1 (by rw [<- hg1]; exact hGa) vla;refine gc (am3 _ _ (aa7 _) (aa7 _) (by unfold big; omega) (by unfold big; omega)) ?_;refine ga (aa4 (by omega)) ?_;exact gK1 hK5 (i + 1) hin (hw:=Wk.of (.cons rfl (Sub.of (by rw [aam,Nat.pow_succ]; congr 2; grind)) (.k (.k .nil))) .nil)
     ·have hin : i = t := by have : t <= i := (by simpa [aaa] using ht66); omega
      subst hin;refine gE1 ?_;rw [hg1]
end Go.Lw
namespace Go.Lw
open Go.Proofs
theorem avb (a b:Wh) (ha:a.ok) (hb:b.ok) (la:a.mag.length + b.mag.length < big):FnC prog 130 [a.av, b.av] (zA (Int.gcd a.z b.z)):=by
 have h1:=Wh.m_le (w:=a);have h2:=Wh.m_le (w:=b);have h3:Int.gcd a.z b.z = Nat.gcd (val a.m) (val b.m):=by rw [Int.gcd,Wh.abs,Wh.abs]
 have h4:(ofNat (Nat.gcd (val a.m) (val b.m))).length <= a.m.length + b.m.length:=by
  rcases Nat.eq_zero_or_pos (val a.m) with h | h
  ·rw [h,Nat.gcd_zero_left,Wh.ofNat_m hb]; omega
  ·exact le_trans (aal (lt_of_le_of_lt (Nat.gcd_le_left _ h) (abn _ (Wh.ws ha)))) (by omega)
 refine gF0 func130 ?_;refine gc (ady a ha) ?_;refine gc (ady b hb) ?_;refine gc (a8v a.m b.m (Wh.ws ha) (Wh.ws hb) a.nz b.nz (by omega)) ?_;refine gc (acn false _ (aa7 _) (by omega)) ?_;refine gD ?_;refine gE1 ?_;rw [aam,h3]; rfl
theorem a9w (a b:Wh) (ha:a.ok) (hb:b.ok) (la:a.mag.length + 1 < big) (lb:b.mag.length < big) (h0:b.z ≠ 0):FnC prog 131 [a.av, b.av] (.tup [zA (a.z / b.z), zA (a.z % b.z), i64 0]):=by
 have hm1:=Wh.m_le (w:=a);have hm2:=Wh.m_le (w:=b);have hb1:val b.m ≠ 0:=by have:=Wh.abs (w:=b); omega
 have hl1:(ofNat (val a.m / val b.m)).length <= a.m.length:=aal (lt_of_le_of_lt (Nat.div_le_self _ _) (abn _ (Wh.ws ha)));have hmod:=Nat.mod_lt (val a.m) (show 0 < val b.m by omega);have hl2:(ofNat (val a.m % val b.m)).length <= b.m.length:=aal (Nat.lt_trans hmod (abn _ (Wh.ws hb)));have hl3:(ofNat (val a.m / val b.m + 1)).length <= a.m.length + 1:=aal (by have h7:=lt_of_le_of_lt (Nat.div_le_self (val a.m) (val b.m)) (abn _ (Wh.ws ha)); rw [Nat.pow_succ]; generalize val a.m / val b.m = m at *; omega);have hl4:(ofNat (val b.m - val a.m % val b.m)).length <= b.m.length:=aal (by have:=abn _ (Wh.ws hb); omega);have hv1:val [1] = 1:=rfl;refine gF0 func131 ?_;refine gc (ami b hb) ?_;refine gC (fun ht11=>?_) (fun ht11=>?_) (st1:=(2,0))
 ·exact absurd (Int.sign_eq_zero_iff_zero.1 (by simpa [aaa] using ht11)) h0
 ·refine gc (ady a ha) ?_;refine gc (ady b hb) ?_;refine gc (awk a.m b.m (Wh.ws ha) (Wh.ws hb) a.nz hb1 (by omega) (by omega)) ?_;refine gD ?_;refine gc (acq a ha) ?_;refine glG ?_;refine gC (fun ht28=>?_) (fun ht28=>?_)
  ·have h1:a.n = true /\ 0 < val a.m % val b.m:=aoc.1 ht28;obtain ⟨e1,e2⟩:=az5 hb1 h1.1 h1.2;refine gc (am3 (ofNat (val a.m / val b.m)) [1] (aa7 _) (aul (by omega)) (by omega) (by unfold big; simp)) ?_;refine gc (ady b hb) ?_;refine gc (ak6 b.m (ofNat (val a.m % val b.m)) (Wh.ws hb) (aa7 _) (by omega) (by rw [aam]; omega)) ?_;refine gD ?_ (6,0);refine gW (Wk.of (sl:=[(2,some (.ptr 2 0)),(3,some (.ptr 3 0)),(4,some (.ptr 4 0)),(5,some (.ptr 5 0)),(7,some (ws (ofNat (val a.m / val b.m + 1)))),(8,some (ws (ofNat (val b.m - val a.m % val b.m))))]) (hp:=[(2,some (.box [bl a.neg,ws a.mag])),(3,some (.box [bl b.neg,ws b.mag])),(4,some (.box [.v (.bool false),.v (.slice none 0 0)])),(5,some (.box [.v (.bool false),.v (.slice none 0 0)]))]) (.k (.k (.k (.k (.cons rfl (Sub.of (by rw [aam,hv1])) (.cons rfl (Sub.of (by rw [aam])) .nil)))))) (.cons rfl (.refl _) (.cons rfl (.refl _) (.cons rfl (.refl _) (.cons rfl (.refl _) .nil))))) ?_
   refine gc (acq a ha) ?_;refine gc (acq b hb) ?_;refine gc (by apply acn _ _ (aa7 _) (by omega)) ?_;refine gc (by apply acn _ _ (aa7 _) (by omega)) ?_;refine gD ?_;refine gR ?_;exact ao6 (by rw [aam,aam,e1,show sgn false _ = _ from e2]; rfl)
  ·have h1:¬ (a.n = true /\ 0 < val a.m % val b.m):=fun h=>Bool.eq_false_iff.1 ht28 (aoc.2 h)
   obtain ⟨e1,e2⟩:=a6j hb1 h1;refine gc (acq a ha) ?_;refine gc (acq b hb) ?_;refine gc (by apply acn _ _ (aa7 _) (by omega)) ?_;refine gc (by apply acn _ _ (aa7 _) (by omega)) ?_;refine gD ?_;refine gR ?_;exact ao6 (by rw [aam,aam,e1,show sgn false _ = _ from e2]; rfl)
end Go.Lw
namespace Go.Lw
open Go.Proofs
theorem aww {x:Int} (hx:Zs x):FnC prog 264 [zA x] (i64 x.sign):=by
 have h:=ag0 (ofInt x) hx.ok;rw [abz] at h;exact h
theorem bbj {x:Int} (hx:Zs x):FnC prog 265 [zA x] (zA (-x)):=by
 have h:=aub (ofInt x) hx.ok (by have:=hx.len; unfold big; omega);rw [abz] at h;exact h
theorem bkf {x y:Int} (hx:Zs x) (hy:Zs y):FnC prog 299 [zA x, zA y] (i64 (awh x y)):=by
 have h:=ate (ofInt x) (ofInt y) hx.ok hy.ok;rw [abz,abz] at h;exact h
theorem bpa {x y:Int} (hx:Zs x) (hy:Zs y):FnC prog 270 [zA x, zA y] (zA (x + y)):=by
 have h:=as8 (ofInt x) (ofInt y) hx.ok hy.ok (by have:=hx.len; unfold big; omega) (by have:=hy.len; unfold big; omega);rw [abz,abz] at h;exact h
theorem as0 {x y:Int} (hx:Zs x) (hy:Zs y):FnC prog 271 [zA x, zA y] (zA (x * y)):=by
 have h:=aso (ofInt x) (ofInt y) hx.ok hy.ok (by have:=hx.len; have:=hy.len; unfold big; omega);rw [abz,abz] at h;exact h
theorem bql {x y:Int} (hx:Zs x) (hy:Zs y):FnC prog 266 [zA x, zA y] (zA (Int.gcd x y)):=by
 have h:=al1 (ofInt x) (ofInt y) hx.ok hy.ok (by have:=hx.len; unfold big; omega) (by have:=hy.len; unfold big; omega);rw [abz,abz] at h;exact h
theorem bmg {x y:Int} (hx:Zs x) (hy:Zs y) (h0:y ≠ 0):FnC prog 267 [zA x, zA y] (.tup [zA (x / y), zA (x % y), .v .nilIface]):=by
 have h:=ati (ofInt x) (ofInt y) hx.ok hy.ok (by have:=hx.len; unfold big; omega) (by have:=hy.len; unfold big; omega) (by rw [abz]; exact h0);rw [abz,abz] at h;exact h
theorem azj {x:Int} (hx:Zs x):FnC prog 128 [zA x] (i64 x.sign):=by
 have h:=ami (ofInt x) hx.ok;rw [abz] at h;exact h
theorem a57 {x:Int} (hx:Zs x):FnC prog 129 [zA x] (zA (-x)):=by
 have h:=aus (ofInt x) hx.ok (by have:=hx.len; unfold big; omega);rw [abz] at h;exact h
theorem bn5 {x y:Int} (hx:Zs x) (hy:Zs y):FnC prog 207 [zA x, zA y] (i64 (awh x y)):=by
 have h:=a49 (ofInt x) (ofInt y) hx.ok hy.ok (by have:=hx.len; unfold big; omega) (by have:=hy.len; unfold big; omega);rw [abz,abz] at h;exact h
theorem bnb {x y:Int} (hx:Zs x) (hy:Zs y):FnC prog 209 [zA x, zA y] (zA (x + y)):=by
 have h:=awc (ofInt x) (ofInt y) hx.ok hy.ok (by have:=hx.len; unfold big; omega) (by have:=hy.len; unfold big; omega);rw [abz,abz] at h;exact h
theorem au4 {x y:Int} (hx:Zs x) (hy:Zs y):FnC prog 210 [zA x, zA y] (zA (x * y)):=by
 have h:=a4n (ofInt x) (ofInt y) hx.ok hy.ok (by have:=hx.len; have:=hy.len; unfold big; omega);rw [abz,abz] at h;exact h
theorem bkv {x y:Int} (hx:Zs x) (hy:Zs y):FnC prog 130 [zA x, zA y] (zA (Int.gcd x y)):=by
 have h:=avb (ofInt x) (ofInt y) hx.ok hy.ok (by have:=hx.len; have:=hy.len; unfold big; omega);rw [abz,abz] at h;exact h
theorem bep {x y:Int} (hx:Zs x) (hy:Zs y) (h0:y ≠ 0):FnC prog 131 [zA x, zA y] (.tup [zA (x / y), zA (x % y), i64 0]):=by
 have h:=a9w (ofInt x) (ofInt y) hx.ok hy.ok (by have:=hx.len; unfold big; omega) (by have:=hy.len; unfold big; omega) (by rw [abz]; exact h0);rw [abz,abz] at h;exact h
end Go.Lw
namespace Go.Lw
open Go.Proofs
def a69 (e:Nat):Value:=match e with | 0=>.nilIface | e + 1=>.iface 90 (.int .i64 ((e + 1:Nat):Int))
def aik (e:Nat):AV:=.v (a69 e)
theorem bgk (e:Nat):a69 e = .nilIface \/ ∃ T u,a69 e = .iface T u:=by cases e; exact .inl rfl; exact .inr ⟨_,_,rfl⟩
theorem awu (e:Nat):ago (a69 e) = decide (e = 0):=by cases e <;> simp [a69,ago]
theorem biy {e:Nat} (h:ago (a69 e) = true):e = 0:=by rw [awu] at h; exact of_decide_eq_true h
theorem bgv {e:Nat} (h:ago (a69 e) = false):e ≠ 0:=by rw [awu] at h; exact of_decide_eq_false h
theorem aea {e:Nat} (h:(!ago (a69 e)) = true):e ≠ 0:=bgv (by cases h':ago (a69 e) <;> simp_all)
theorem adu {e:Nat} (h:(!ago (a69 e)) = false):e = 0:=biy (by cases h':ago (a69 e) <;> simp_all)
theorem ag6:FnC prog 170 [] (zA 1):=by
 refine gF0 func170 ?_;refine gc (anl 1 (by omega)) ?_;refine gE1 ?_
 first | rfl | (simp; done)
theorem aco (r:Rt) (h:r.ok):FnC prog 243 [r.av] (bl r.valid):=by
 have hn:=h.n0;have hd:=h.d0;refine gF0 func243 ?_;refine gl ?_;refine glG ?_;refine gC (fun ht14=>?_) (fun ht14=>?_)
 ·have h0 : r.num = [] /\ r.den = [] := by simpa [aaa] using ht14
  refine gE1 ?_;unfold Rt.valid; rw [if_pos h0]; rfl
 ·have h0:¬ (r.num = [] /\ r.den = []):=by
   have:=ht14;simp [aaa] at this;exact fun h=>this h.1 h.2
  refine gD ?_;refine gl ?_;refine glG ?_;refine gcG (fun _=>(aey r.n0 hn)) ?_;refine gcG (fun _=>(aey r.d0 hd)) ?_;refine gC (fun ht43=>?_) (fun ht43=>?_)
  ·have h1:r.valid = false:=atp h0 ht43;refine gE1 ?_;rw [h1]; rfl
  ·have h1:=au0 h0 ht43;refine gc (al1 r.n0 r.d0 hn hd h.n0l h.d0l) ?_;refine gc (by apply ag6) ?_;refine gc (bkf (Rt.gcd_zs h) zs1) ?_;refine gE1 ?_;rw [h1]; rfl
theorem abi (r:Rt) (h:r.ok):FnC prog 269 [r.av] (.tup [zA r.q.num, zA r.q.den]):=by
 have hl1:r.num.length <= 137438953472:=h.2.2.1;have hl2:r.den.length <= 137438953472:=h.2.2.2;refine gF0 func269 ?_;refine gc (aco r h) ?_;refine glG ?_;refine gC (fun ht12=>?_) (fun ht12=>?_)
 ·have h0:¬ (r.valid = true /\ r.num ≠ []):=by
   have:=ht12;intro h';simp [aaa,h'.1,h'.2] at this
  refine gc ag6 ?_;refine gR ?_;exact adc (by rw [Rt.zero h0]; exact Sub.tup (.cons beh (.cons (.refl _) .nil)))
 ·have h0:r.valid = true /\ r.num ≠ []:=by
   have:=ht12;cases hv:r.valid
   ·rw [hv] at this; cases this
   ·rw [hv] at this; exact ⟨rfl,by simpa [aaa] using this⟩
  obtain ⟨e1,e2,e3,e4,e5,e6⟩:=Rt.parts h h0.1 h0.2;refine gs (acp T27 rfl T218 rfl rfl rfl) ?_;refine gs (aa5 (.tmp rfl) rfl rfl (.tmp rfl) T27 rfl T218 rfl rfl (by simp only [length_map]; omega) rfl rfl) ?_;refine gD ?_ (4,0);refine gW ((Wk.freeze (k:=20) rfl).trans <| Wk.of (sl:=[(1,some (.ptr 1 0)),(2,some (.ptr 2 0)),(3,some (.ptr 3 0))]) (hp:=[(1,some (.box [bl r.neg,ws r.num,ws r.den])),(2,some (.box [bl r.neg,ws r.num])),(3,some (.box [bl false,.v (.slice none 0 0)]))]) abj (.cons rfl (.refl _) (.cons rfl (BlkSub.boxL (.cons (.refl _) (.cons (.of (abu (by simp))) .nil)) rfl) (.cons rfl (.refl _) .nil)))) ?_;refine gs (acp T27 rfl T218 rfl rfl rfl) ?_;refine gs (aa5 (.tmp rfl) rfl rfl (.tmp rfl) T27 rfl T218 rfl rfl (by simp only [length_map]; omega) rfl rfl) ?_;refine gD ?_ (77777,0);refine gW ((Wk.freeze (k:=26) rfl).trans <| Wk.of (sl:=[(2,some (.ptr 2 0)),(3,some (.ptr 3 0))]) (hp:=[(2,some (.box [bl r.neg,ws r.num])),(3,some (.box [bl false,ws r.den]))]) abj (.cons rfl (.refl _) (.cons rfl (BlkSub.boxL (.cons (.refl _) (.cons (.of (abu (by simp))) .nil)) rfl) .nil))) ?_;refine gE2 ?_;rw [e1,e2]; exact a1y e3 e4 e5
theorem ads {n d:Int} (hn:Zs n) (hd:Zs d) (h0:d ≠ 0):FnC prog 168 [zA n, zA d] (qA (Rat.divInt n d)):=by
 refine gF0 func168 ?_;refine gc (aww hn) ?_;refine gC (fun ht9=>?_) (fun ht9=>?_)
 ·have e0 : n = 0 := Int.sign_eq_zero_iff_zero.1 (by simpa [aaa] using ht9);refine gR ?_;exact aef (by rw [e0,Rat.zero_divInt]; exact aje)
 ·have e0 : n ≠ 0 := fun h => by rw [h] at ht9; cases ht9
  refine gc (aww hd) ?_;refine gJ2 [2,3,4] [4] (fun (n1 d1:Int)=>[]) (fun n1 d1=>[(2,some (.box (zA n1).cells)),(3,some (.box (zA d1).cells))]) (fun n1 d1=>0 < d1 /\ n1 ≠ 0 /\ Zs n1 /\ Zs d1 /\ Rat.divInt n1 d1 = Rat.divInt n d) ?_ ?_
  ·intro K1 hK1;refine gC (fun ht13=>?_) (fun ht13=>?_)
   ·have e1 : d < 0 := Int.sign_eq_neg_one_iff_neg.1 (by have := Int.sign_trichotomy d; have h9 : d.sign < 0 := (by simpa [aaa] using ht13); omega);refine gc (bbj hn) ?_;refine gc (bbj hd) ?_;refine gD ?_;exact jK2 hK1 (-n) (-d) ⟨by omega,by omega,hn.neg,hd.neg,aqh n d⟩
   ·have e1:0 < d:=by
     have h9:0 <= d.sign:=by simpa [aaa] using ht13
     have:=Int.sign_nonneg_iff.1 h9;omega
    exact jK2 hK1 n d ⟨e1,e0,hn,hd,rfl⟩
  ·rintro n1 d1 ⟨f1, f2, f3, f4, f5⟩;refine gc (bql f3 f4) ?_;refine gc (aww f3) ?_;refine gJ1 [2,3,4,5] [3,4,5] (fun (n2:Int)=>[(6,some (bl (decide (n1 < 0))))]) (fun n2=>[(2,some (.box (zA n2).cells))]) (fun n2=>n2 = (n1.natAbs:Int)) ?_ ?_
   ·intro K2 hK2;refine gC (fun ht24=>?_) (fun ht24=>?_)
    ·have e2 : n1 < 0 := Int.sign_eq_neg_one_iff_neg.1 (by have := Int.sign_trichotomy n1; have h9 : n1.sign < 0 := (by simpa [aaa] using ht24); omega);refine gc (bbj f3) ?_;exact jK1 hK2 (-n1) (by omega) (hw:=Wk.of (.cons rfl (Sub.of (by rw [show aaa .lss n1.sign 0 = true from ht24,decide_eq_true e2]; rfl)) (.k (.k (.k (.k .nil))))) (.cons rfl (.refl _) (.cons rfl (.refl _) (.cons rfl (.refl _) (.cons rfl (.refl _) .nil)))))
    ·have e2:0 < n1:=by
      have h9:0 <= n1.sign:=by simpa [aaa] using ht24
      have:=Int.sign_nonneg_iff.1 h9;omega
     exact jK1 hK2 n1 (by omega) (hw:=Wk.of (.cons rfl (Sub.of (by rw [show aaa .lss n1.sign 0 = false from ht24,decide_eq_false (by omega)]; rfl)) (.k (.k (.k (.k .nil))))) (.cons rfl (.refl _) (.cons rfl (.refl _) (.cons rfl (.refl _) (.cons rfl (.refl _) .nil)))))
   ·rintro n2 g1;have g2:Zs (Int.gcd n1 d1:Int):=f3.of_le (by rw [natAbs_natCast]; exact Nat.le_of_dvd (by omega) (Int.gcd_dvd_natAbs_left _ _));have g3:(Int.gcd n1 d1:Int) ≠ 0:=by have:=Int.gcd_pos_of_ne_zero_left d1 f2; omega
    have g4:Zs n2:=f3.of_le (by omega);refine gc (bmg g4 g2 g3) ?_;refine gc (bmg f4 g2 g3) ?_;refine gE1 ?_;rw [<- f5,<- bhg f1 f2,<- g1]; rfl
theorem aqd {n d:Int} (hn:Zs n) (hd:Zs d):FnC prog 328 [zA n, zA d] (.tup [qA (Rat.divInt n d), aik (if d = 0 then 8 else 0)]):=by
 refine gF0 func328 ?_;refine gc (aww hd) ?_;refine gC (fun ht8=>?_) (fun ht8=>?_)
 ·have h0 : d = 0 := Int.sign_eq_zero_iff_zero.1 (by simpa [aaa] using ht8);refine gR ?_;exact adc (by rw [if_pos h0,h0,Rat.divInt_zero]; exact Sub.tup (.cons aje (.cons (.refl _) .nil)))
 ·have h0 : d ≠ 0 := fun h => by rw [h] at ht8; cases ht8
  refine gc (ads hn hd h0) ?_;refine gE2 ?_;rw [if_neg h0]; rfl
theorem act (n:Int) (h:-9223372036854775808 <= n /\ n <= 9223372036854775807):FnC prog 77 [i64 n] (qA n):=by
 have hz:Zs n:=⟨2,by omega,by unfold Lz; simp only [Nat.reducePow]; omega⟩
 refine gF0 func77 ?_;refine gc (anl n h) ?_;refine gc ag6 ?_;refine gc (ads hz zs1 (by omega)) ?_;refine gE1 ?_;exact congrArg qA (Rat.num_divInt_den (n:Rat))
theorem agz (a:Rt) (ha:a.ok):FnC prog 262 [a.av] (qA (-a.q)):=by
 have za:=ha.qs;refine gF0 func262 ?_;refine gc (abi a ha) ?_;refine gc (bbj za.num) ?_;refine gc (ads za.num.neg za.den (by have:=a.q.den_nz; omega)) ?_;refine gD ?_;refine gE1 ?_;rw [a8u]; rfl
theorem aer (a:Rt) (ha:a.ok):FnC prog 175 [a.av] (i64 (af6 a.q)):=by
 refine gF0 func175 ?_;refine gc (abi a ha) ?_;refine gc (aww ha.qs.num) ?_;refine gE1 ?_;rw [az3]
theorem akm (a b:Rt) (ha:a.ok) (hb:b.ok):FnC prog 326 [a.av, b.av] (i64 (af6 (a.q - b.q))):=by
 have za:=ha.qs;have zb:=hb.qs;have m1:=za.mul zb;have m2:=zb.mul za;refine gF0 func326 ?_;refine gc (abi a ha) ?_;refine gc (abi b hb) ?_;refine gc (as0 za.num zb.den) ?_;refine gc (as0 zb.num za.den) ?_;refine gc (bkf m1.1 m2.1) ?_;refine gD ?_;refine gE1 ?_;rw [be1]
theorem adg (a b:Rt) (ha:a.ok) (hb:b.ok):FnC prog 172 [a.av, b.av] (qA (a.q + b.q)):=by
 have za:=ha.qs;have zb:=hb.qs;have m1:=za.mul zb;have m2:=zb.mul za;refine gF0 func172 ?_;refine gc (abi a ha) ?_;refine gc (abi b hb) ?_;refine gc (as0 za.num zb.den) ?_;refine gc (as0 zb.num za.den) ?_;refine gc (bpa m1.1 m2.1) ?_;refine gc (as0 za.den zb.den) ?_;refine gc (ads (za.cross zb) m1.2.2.1 (Int.mul_ne_zero (by have:=a.q.den_nz; omega) (by have:=b.q.den_nz; omega))) ?_;refine gD ?_;refine gE1 ?_;rw [aya]; rfl
theorem aq1 (a b:Rt) (ha:a.ok) (hb:b.ok):FnC prog 177 [a.av, b.av] (qA (a.q - b.q)):=by
 refine gF0 func177 ?_;refine gc (agz b hb) ?_;refine gc (adg a (rt (-b.q)) ha hb.qs.neg.ok) ?_;refine gD ?_;refine gE1 ?_;rw [ahn,<- Rat.sub_eq_add_neg]; rfl
theorem aj8 (a b:Rt) (ha:a.ok) (hb:b.ok):FnC prog 236 [a.av, b.av] (qA (a.q * b.q)):=by
 have za:=ha.qs;have zb:=hb.qs;have m1:=za.mul zb;refine gF0 func236 ?_;refine gc (abi a ha) ?_;refine gc (abi b hb) ?_;refine gc (as0 za.num zb.num) ?_;refine gc (as0 za.den zb.den) ?_;refine gc (ads m1.2.1 m1.2.2.1 (Int.mul_ne_zero (by have:=a.q.den_nz; omega) (by have:=b.q.den_nz; omega))) ?_;refine gD ?_;refine gE1 ?_;rw [ayv]; rfl
theorem akb (a b:Rt) (ha:a.ok) (hb:b.ok):FnC prog 309 [a.av, b.av] (.tup [qA (a.q / b.q), aik (if b.q = 0 then 8 else 0)]):=by
 have za:=ha.qs;have zb:=hb.qs;have m1:=za.mul zb;refine gF0 func309 ?_;refine gc (abi a ha) ?_;refine gc (abi b hb) ?_;refine gc (as0 za.num zb.den) ?_;refine gc (as0 za.den zb.num) ?_;refine gc (aqd m1.1 m1.2.2.2) ?_;refine gD ?_;refine gE2 ?_
 have e1:((a.q.den:Int) * b.q.num = 0) = (b.q = 0):=by
  apply propext;rw [<- Rat.num_eq_zero,Int.mul_eq_zero];exact ⟨fun h=>h.resolve_left (by have:=a.q.den_nz; omega),.inr⟩
 simp only [a7n,e1];rfl
end Go.Lw
namespace Go.Lw
structure Pq where
  c:List Rat
  s:List Rat
  x:List Rat
  y:List Rat
def Pq.av (p:Pq):AV:=.agg [nA p.c,nA p.s,nA p.x,nA p.y]
structure Pq.ok (n e:Nat) (p:Pq):Prop where
  c:Nm n e p.c
  s:Nm n e p.s
  x:Nm n e p.x
  y:Nm n e p.y
def bo3 (p:Pse):Pq:=⟨sh 0 (ax5 p.turn.half p.turn.t.q:Rat),sh 0 (axq p.turn.half p.turn.t.q:Rat),sh 0 (p.at_.x.q:Rat),sh 0 (p.at_.y.q:Rat)⟩
def ofE (ps:List Pse):Nat:=if ps.all Pse.ok = true then 0 else 2
theorem bds {half:Bool} {t:Rat} {e:Nat} (h:Qb e t):Qb (4 * e + 6) (ax5 half t):=by
 unfold ax5;split
 ·exact Qb.one.neg.mono (by omega)
 ·exact ((Qb.one.sub (h.mul h)).div (Qb.one.add (h.mul h))).mono (by omega)
theorem bdp {half:Bool} {t:Rat} {e:Nat} (h:Qb e t):Qb (4 * e + 6) (axq half t):=by
 unfold axq;split
 ·exact Qb.zero.mono (by omega)
 ·exact ((h.add h).div (Qb.one.add (h.mul h))).mono (by omega)
theorem bq7 {n e:Nat} {q:Rat} (hn:n <= 5) (h:Qb e q):Nm n (e + e) (sh 0 (q:Rat)):=by
 have h1:Nl n (sh 0 (q:Rat)):=by
  have:Nl 0 (sh 0 (q:Rat)):=aip 0 _;rcases this with h | ⟨j,hj,h⟩
  ·exact .inl h
  ·exact .inr ⟨j,by omega,h⟩
 refine ⟨hn,h1,?_⟩
 have hm:∀ p ∈ sh 0 (q:Rat), Qb e p:=by
  intro p hp
  have:p = q:=by
   unfold sh at hp;split at hp
   ·cases hp
   ·exact List.mem_singleton.1 hp
  rw [this]; exact h
 obtain ⟨D,N,h3,h4,h5⟩:=atm hm
 have h6:(sh 0 (q:Rat)).length <= 1:=by
  rcases (aip 0 (q:Rat)) with h | ⟨j,hj,h⟩
  ·rw [h]; simp
  ·have : j = 0 := by omega
   subst this; rw [h]; simp
 have h7:e * (sh 0 (q:Rat)).length <= e * 1:=mul_le_mul_left _ h6;exact ⟨D,N,h3,le_trans h4 (aa1 (by omega)),le_trans h5 (aa1 (by omega))⟩
def bpg (ts:List (List Rat)) (b:Pl) (w:Pq):Bool :=
  eqT ts (dec ts.length (lq b.c)) (dec ts.length w.c) && eqT ts (dec ts.length (lq b.s)) (dec ts.length w.s) && eqT ts (dec ts.length (lq b.x)) (dec ts.length w.x) && eqT ts (dec ts.length (lq b.y)) (dec ts.length w.y)
def mE (a:As) (ps:List Pse):Nat :=
  if ae1 a.rs ≠ 0 then ae1 a.rs else if ofE ps ≠ 0 then ofE ps else if a.bs.length ≠ ps.length then 10 else aex (a.bs.map (fun b=>acb a.rs b.l))
def mB (a:As) (ps:List Pse):Bool:=decide (mE a ps = 0) && (a.bs.zip ps).all (fun z=>bpg (llq a.rs) z.1 (bo3 z.2))
theorem bbi {rs:List (List Rt)} {b:Pl} (h:acb rs b.l = 0) (hb:∀ x ∈ b.l, NR x 4000) (h5:rs.length <= 5) :
  b.av = Pq.av ⟨lq b.c,lq b.s,lq b.x,lq b.y⟩ /\ Pq.ok rs.length 4000 ⟨lq b.c,lq b.s,lq b.x,lq b.y⟩:=by
 have h1:=(ak7 h).2
 have g:∀ x ∈ b.l, nR x = nA (lq x) /\ Nm rs.length 4000 (lq x):=fun x hx=>by
  obtain ⟨e1,e2⟩:=(hb x hx).num (h1 x hx);exact ⟨e1,h5,e2,(hb x hx).cb⟩
 have c:=g b.c (by simp [Pl.l]);have s:=g b.s (by simp [Pl.l]);have x:=g b.x (by simp [Pl.l]);have y:=g b.y (by simp [Pl.l]);exact ⟨by unfold Pl.av Pq.av; rw [c.1,s.1,x.1,y.1],c.2,s.2,x.2,y.2⟩
end Go.Lw
namespace Go.Lw
instance:Inhabited Tn:=⟨⟨⟨false,[],[]⟩,false⟩⟩
def acw (n:Nat) (ok:Nat -> Bool):Option Nat:=(List.range n).find? (fun i=>!ok i)
theorem acv {n i:Nat} {ok:Nat -> Bool} (hi:i < n) (h:∀ j, j < i -> ok j = true) (he:ok i = false):acw n ok = some i:=by
 unfold acw;rw [List.find?_range_eq_some];exact ⟨by rw [he]; rfl,by simpa using hi,fun j hj=>by rw [h j hj]; rfl⟩
theorem acf {n:Nat} {ok:Nat -> Bool} (h:∀ j, j < n -> ok j = true):acw n ok = none:=by
 unfold acw;rw [List.find?_range_eq_none];exact fun j hj=>by rw [h j hj]; rfl
theorem azh {n:Nat} {ok:Nat -> Bool} (h:acw n ok = none):∀ j, j < n -> ok j = true:=by
 unfold acw at h;rw [List.find?_range_eq_none] at h;intro j hj;have:=h j hj;simpa using this
def ixI:Option Nat -> Int
  | none=>-1
  | some i=>i
abbrev biz (ts:List (List Rat)) (x:List Rt):T ts.length:=dec ts.length (lq x)
def atP (ts:List (List Rat)) (b:Pl) (m:Mk):T ts.length × T ts.length:=(atX ts (biz ts b.c) (biz ts b.s) (biz ts b.x) m.x.q m.y.q,atY ts (biz ts b.c) (biz ts b.s) (biz ts b.y) m.x.q m.y.q)
def bmh (l:Li) (a:As) (body pt:Int):T (llq a.rs).length × T (llq a.rs).length:=atP (llq a.rs) (a.bs.getD body.toNat default) ((aeo l body).getD pt.toNat default)
theorem ab3 {l:Li} (h:liE l = 0):bbr l = 0 /\ axa l = 0 /\ a90 l = 0 /\ l.bodies.length <= 8 /\ l.bodies.length ≠ 0:=by
 unfold liE at h;split at h
 ·cases h
 ·split at h
  ·cases h
  ·split at h
   ·cases h
   ·split at h
    ·rename_i h1; exact absurd h h1
    ·rename_i g1 _ h1;split at h
     ·rename_i h2; exact absurd h h2
     ·rename_i h2; exact ⟨Decidable.not_not.1 h1,Decidable.not_not.1 h2,h,by omega,by omega⟩
theorem bna {l:Li} (h:liE l = 0) {i:Nat} {j:Jt} (hj:l.joints[i]? = some j):jt0 l j = 0:=by
 have h1:=(ab3 h).2.1;unfold axa at h1;split at h1
 ·cases h1
 ·have h2:=ah3 h1 i (List.getElem?_eq_some_iff.1 hj).1;unfold jtE at h2;rw [aag hj] at h2;split at h2
  ·cases h2
  ·split at h2
   ·cases h2
   ·exact h2
theorem ahj {l:Li} (h:liE l = 0) {i:Nat} {j:Jt} (hj:l.joints[i]? = some j) :
  inB j.a l.bodies.length = true /\ inB j.b l.bodies.length = true /\ inB j.point (aeo l j.a).length = true /\ inB j.on (aeo l j.b).length = true /\ (j.kind ≠ 0 -> inB j.to (aeo l j.b).length = true):=by
 have h1:=bna h hj;unfold jt0 at h1;split at h1
 ·cases h1
 ·split at h1
  ·cases h1
  ·rename_i h2;split at h1
   ·cases h1
   ·split at h1
    ·cases h1
    ·rename_i h3;have a1:inB j.a l.bodies.length = true:=by cases h:inB j.a l.bodies.length <;> simp_all
     have a2:inB j.b l.bodies.length = true:=by cases h:inB j.b l.bodies.length <;> simp_all
     have a3:inB j.point (aeo l j.a).length = true:=by cases h:inB j.point (aeo l j.a).length <;> simp_all
     have a4:inB j.on (aeo l j.b).length = true:=by cases h:inB j.on (aeo l j.b).length <;> simp_all
     refine ⟨a1,a2,a3,a4,fun hk=>?_⟩;rw [if_neg hk] at h1;split at h1
     ·cases h1
     ·rename_i h4; cases h:inB j.to (aeo l j.b).length <;> simp_all
theorem a3b {l:Li} (h:liE l = 0) {i:Nat} {d:Dr} (hd:l.drivers[i]? = some d):inB d.body l.bodies.length = true:=by
 have h1:=(ab3 h).2.2.1;unfold a90 at h1;split at h1
 ·cases h1
 ·have h2:=ah3 h1 i (List.getElem?_eq_some_iff.1 hd).1;unfold drE at h2;rw [aag hd] at h2;split at h2
  ·cases h2
  ·split at h2
   ·cases h2
   ·split at h2
    ·cases h2
    ·rename_i h3; cases h:inB d.body l.bodies.length <;> simp_all
theorem ba1 {l:Li} (h:liE l = 0) {n k:Nat} {b:Bd} {m:Mk} (hb:l.bodies[n]? = some b) (hm:b.pts[k]? = some m):m.x.valid = true /\ m.y.valid = true:=by
 have h2:=ah3 (ab3 h).1 n (List.getElem?_eq_some_iff.1 hb).1;unfold bdE at h2;rw [aag hb] at h2;split at h2
 ·cases h2
 ·split at h2
  ·cases h2
  ·split at h2
   ·cases h2
   ·have h3:=ah3 h2 k (List.getElem?_eq_some_iff.1 hm).1;unfold mkE at h3;rw [aag hm] at h3;split at h3
    ·cases h3
    ·split at h3
     ·cases h3
     ·split at h3
      ·assumption
      ·cases h3
theorem kb4 {n:Nat} (h:n <= 3):kB 40000 n <= 280014:=azo 40000 h
theorem bo4 {ts:List (List Rat)} {r:Nat} (tw:Tw ts r) {b:Pl} {m:Mk} (hb:Pq.ok ts.length 4000 ⟨lq b.c, lq b.s, lq b.x, lq b.y⟩) (hx:Qb 4000 m.x.q) (hy:Qb 4000 m.y.q) :
  Nm ts.length (4 * (4000 + 4000 + kB r ts.length) + 10000) (sh ts.length (atP ts b m).1) /\ Nm ts.length (4 * (4000 + 4000 + kB r ts.length) + 10000) (sh ts.length (atP ts b m).2):=by
 have nx:=Nm.ofQ tw.five (Cb.one hx);have ny:=Nm.ofQ tw.five (Cb.one hy);have nX:=atl tw hb.c hb.s nx ny;have nY:=atf tw hb.c hb.s nx ny;have h1:=nX.add hb.x;rw [bd7] at h1;have h2:=nY.add hb.y;rw [bd8] at h2;exact ⟨h1.mono (by omega),h2.mono (by omega)⟩
end Go.Lw
namespace Go.Lw
structure Gr where
  kind:Int
  bodies:List Int
  joints:List Int
  driver:Int
instance:Inhabited Gr:=⟨⟨0,[],[],0⟩⟩
def Gr.av (g:Gr):AV:=.agg [i64 g.kind,.lst 1 (g.bodies.map i64),.lst 1 (g.joints.map i64),i64 g.driver]
def kn (k:List Bool) (i:Int):Bool:=k.getD i.toNat false
def aeg (n:Nat) (b:Int):List Bool:=(List.replicate n false).set b.toNat true
def ana (l:Li) (b:Int):Bool:=l.drivers.any (fun d=>decide (d.body = b))
def agw (l:Li) (known:List Bool) (b:Int):Bool:=!kn known b && !ana l b
def a91 (kind body:Int) (oth:List Bool) (j:Jt):Bool:=decide (j.kind = kind) && (decide (j.a = body) && kn oth j.b || decide (j.b = body) && kn oth j.a)
def abo (l:Li) (kind body:Int) (oth:List Bool):Int:=ixI (acw l.joints.length (fun i=>!a91 kind body oth (l.joints.getD i default)))
def aiq (l:Li) (known:List Bool) (i:Nat):Bool:=!kn known (l.drivers.getD i default).body && decide (0 <= abo l 0 (l.drivers.getD i default).body known)
def ab6 (l:Li) (known:List Bool):Option Gr :=
  (acw l.drivers.length (fun i=>!aiq l known i)).map fun i=>⟨0,[(l.drivers.getD i default).body],[abo l 0 (l.drivers.getD i default).body known],i⟩
def ae9 (l:Li) (known:List Bool) (i k:Nat):Bool :=
  (agw l known i && agw l known k) && (decide (0 <= abo l 0 i known) && decide (0 <= abo l 0 k known) && decide (0 <= abo l 0 i (aeg l.bodies.length k)))
def ayq (l:Li) (known:List Bool) (i:Nat):Option Nat:=(acw (l.bodies.length - (i + 1)) (fun k=>!ae9 l known i (i + 1 + k))).map (· + (i + 1))
def prG (l:Li) (known:List Bool) (i k:Nat):Gr:=⟨1,[i,k],[abo l 0 i known,abo l 0 k known,abo l 0 i (aeg l.bodies.length k)],0⟩
def aet (l:Li) (known:List Bool):Option Gr :=
  (acw l.bodies.length (fun i=>(ayq l known i).isNone)).map fun i=>match ayq l known i with
    | some k=>prG l known i k
    | none=>default
def aio (l:Li) (known:List Bool) (i:Nat):Bool:=agw l known i && (decide (0 <= abo l 0 i known) && decide (0 <= abo l 1 i known))
def sgG (l:Li) (known:List Bool) (i:Nat):Gr :=
  ⟨if (l.joints.getD (abo l 1 i known).toNat default).a = i then 2 else 3,[i],[abo l 0 i known,abo l 1 i known],0⟩
def acy (l:Li) (known:List Bool):Option Gr:=(acw l.bodies.length (fun i=>!aio l known i)).map (sgG l known)
def adq (l:Li) (known:List Bool):Option Gr:=(ab6 l known).or ((aet l known).or (acy l known))
def aat (known:List Bool) (bs:List Int):List Bool:=bs.foldl (fun k b=>k.set b.toNat true) known
def aa6 (l:Li):Nat -> List Bool -> List Gr -> List Bool × List Gr
  | 0,known,out=>(known,out)
  | n + 1, known, out=>match adq l known with
    | none=>(known,out)
    | some g=>aa6 l n (aat known g.bodies) (out ++ [g])
def adp (l:Li):List Gr:=(aa6 l l.bodies.length (aeg l.bodies.length 0) []).2
def ad3 (l:Li):List Bool:=(adp l).foldl (fun k g=>aat k g.bodies) (aeg l.bodies.length 0)
def ag4 (l:Li):List Bool:=(adp l).foldl (fun k g=>aat k g.joints) (List.replicate l.joints.length false)
def aci (k:List Bool):List Int:=((List.range k.length).filter (fun i=>!k.getD i false)).map (fun i:Nat=>((i:Nat):Int))
def adn (l:Li):Nat:=if (aci (ad3 l)).length + (aci (ag4 l)).length = 0 then 0 else 7
def adl (l:Li):List Gr:=if adn l = 0 then adp l else []
theorem avk {kind body:Int} {oth:List Bool} {j:Jt} {va vb:Bool} (ea:kn oth j.a = va) (eb:kn oth j.b = vb) :
  cond (aaa .eql j.kind kind) (cond (cond (aaa .eql j.a body) vb false) true (cond (aaa .eql j.b body) va false)) false = a91 kind body oth j:=by
 unfold a91;rw [apl,apl,apl,ea,eb,aee,aee,aee,ap9]
theorem ad5 (n:Nat) (b:Int):(aeg n b).length = n:=by unfold aeg; simp
theorem afi:∀ (bs:List Int) (k:List Bool), (aat k bs).length = k.length
 | [],k=>rfl
 | b :: bs, k=>by
  show (aat (k.set b.toNat true) bs).length = _;rw [afi bs]; simp
theorem abq {n i:Nat} {ok:Nat -> Bool} (h:acw n ok = some i):i < n /\ ok i = false:=by
 unfold acw at h;rw [List.find?_range_eq_some] at h;exact ⟨by simpa using h.2.1,by simpa using h.1⟩
theorem afp {l:Li} {kind body:Int} {oth:List Bool}:-1 <= abo l kind body oth /\ abo l kind body oth < l.joints.length:=by
 unfold abo;cases h:acw l.joints.length (fun i=>!a91 kind body oth (l.joints.getD i default)) with
 | none=>exact ⟨by decide,by show (-1:Int) < _; omega⟩
 | some i=>have:=(abq h).1; exact ⟨by show (-1:Int) <= (i:Int); omega,by show (i:Int) < _; omega⟩
structure GrOk (l:Li) (g:Gr):Prop where
  b:∀ x ∈ g.bodies,0 <= x /\ x < l.bodies.length
  j:∀ x ∈ g.joints,0 <= x /\ x < l.joints.length
  lb:g.bodies.length <= 2
  lj:g.joints.length <= 3
theorem a3u {l:Li} (hl:liE l = 0) {known:List Bool} {g:Gr} (h:ab6 l known = some g):GrOk l g:=by
 unfold ab6 at h;rw [map_eq_some_iff] at h;obtain ⟨i,hi,rfl⟩:=h;obtain ⟨h1,h2⟩:=abq hi;obtain ⟨d,hd⟩:=acj h1;have h3:=afy (a3b hl hd);unfold aiq at h2;simp only [Bool.not_eq_false',and_eq_true,decide_eq_true_eq] at h2;rw [aag hd] at h2 ⊢;have h4:=afp (l:=l) (kind:=0) (body:=d.body) (oth:=known);refine ⟨fun x hx=>?_,fun x hx=>?_,by simp,by simp⟩
 ·rw [List.mem_singleton.1 hx]; exact h3
 ·rw [List.mem_singleton.1 hx]; exact ⟨h2.2,h4.2⟩
theorem a93 {l:Li} {known:List Bool} {g:Gr} (h:aet l known = some g):GrOk l g:=by
 unfold aet at h;rw [map_eq_some_iff] at h;obtain ⟨i,hi,h⟩:=h;obtain ⟨h1,h2⟩:=abq hi;split at h
 ·rename_i k hk;subst h;unfold ayq at hk;rw [map_eq_some_iff] at hk;obtain ⟨k',hk',rfl⟩:=hk;obtain ⟨h3,h4⟩:=abq hk';rw [show i + 1 + k' = k' + (i + 1) by omega] at h4;unfold ae9 at h4;simp only [Bool.not_eq_false',and_eq_true,decide_eq_true_eq] at h4;obtain ⟨_,⟨j1,j2⟩,j3⟩:=h4;refine ⟨fun x hx=>?_,fun x hx=>?_,by simp [prG],by simp [prG]⟩
  ·simp only [prG, mem_cons, not_mem_nil, or_false] at hx;rcases hx with rfl | rfl <;> constructor <;> omega
  ·simp only [prG, mem_cons, not_mem_nil, or_false] at hx;rcases hx with rfl | rfl | rfl
   ·exact ⟨j1,afp.2⟩
   ·exact ⟨j2,afp.2⟩
   ·exact ⟨j3,afp.2⟩
 ·rename_i hk; rw [hk] at h2; cases h2
theorem a2f {l:Li} {known:List Bool} {g:Gr} (h:acy l known = some g):GrOk l g:=by
 unfold acy at h;rw [map_eq_some_iff] at h;obtain ⟨i,hi,rfl⟩:=h;obtain ⟨h1,h2⟩:=abq hi;unfold aio at h2;simp only [Bool.not_eq_false',and_eq_true,decide_eq_true_eq] at h2;obtain ⟨_,j1,j2⟩:=h2;refine ⟨fun x hx=>?_,fun x hx=>?_,by simp [sgG],by simp [sgG]⟩
 ·simp only [sgG, mem_cons, not_mem_nil, or_false] at hx;subst hx; constructor <;> omega
 ·simp only [sgG, mem_cons, not_mem_nil, or_false] at hx;rcases hx with rfl | rfl
  ·exact ⟨j1,afp.2⟩
  ·exact ⟨j2,afp.2⟩
theorem atd {l:Li} (hl:liE l = 0) {known:List Bool} {g:Gr} (h:adq l known = some g):GrOk l g:=by
 unfold adq at h;cases h1:ab6 l known with
 | some g'=>rw [h1] at h; cases h; exact a3u hl h1
 | none =>
  rw [h1] at h;cases h2:aet l known with
  | some g'=>rw [h2] at h; cases h; exact a93 h2
  | none=>rw [h2] at h; exact a2f h
theorem aqu {l:Li} (hl:liE l = 0):∀ (n:Nat) (known:List Bool) (out:List Gr), (∀ g ∈ out, GrOk l g) -> (∀ g ∈ (aa6 l n known out).2, GrOk l g) /\ (aa6 l n known out).2.length <= out.length + n
 | 0,known,out,h=>⟨h,by simp [aa6]⟩
 | n + 1, known, out, h=>by
  unfold aa6;cases hg:adq l known with
  | none=>exact ⟨h,by simp⟩
  | some g =>
   have h1:=aqu hl n (aat known g.bodies) (out ++ [g]) (fun x hx=>by
    rcases List.mem_append.1 hx with hx | hx
    ·exact h x hx
    ·rw [List.mem_singleton.1 hx]; exact atd hl hg)
   refine ⟨h1.1,?_⟩;have:=h1.2;rw [length_append] at this;show (aa6 l n (aat known g.bodies) (out ++ [g])).2.length <= _;simp only [length_cons,length_nil] at this;omega
theorem aol {l:Li} (hl:liE l = 0):(∀ g ∈ adp l, GrOk l g) /\ (adp l).length <= 8:=by
 have h:=aqu hl l.bodies.length (aeg l.bodies.length 0) [] (fun g hg=>by cases hg);have h8:=(ab3 hl).2.2.2.1;exact ⟨h.1,by have:=h.2; simp only [length_nil] at this; unfold adp; omega⟩
end Go.Lw
namespace Go.Lw
def aii (j:Jt) (b:Int):Int:=if b = j.a then j.b else if b = j.b then j.a else -1
def bon (kind body:Int) (p:Int -> Bool) (j:Jt):Bool:=decide (j.kind = kind) && (decide (0 <= aii j body) && p (aii j body))
def gJ (l:Li) (kind body:Int) (p:Int -> Bool):Int:=ixI (acw l.joints.length (fun i=>!bon kind body p (l.joints.getD i default)))
theorem brg {b:Bool} {z:Int} (h:cond b (aaa .geq z 0) false = true):0 <= z:=by
 cases b
 ·cases h
 ·exact of_decide_eq_true h
theorem bk3 {a k z:Int} {q:Bool}:cond (cond (aaa .eql a k) (aaa .geq z 0) false) q false = (decide (a = k) && (decide (0 <= z) && q)):=by
 rw [apl,show aaa .geq z 0 = decide (0 <= z) from rfl,aee,aee,Bool.and_assoc]
theorem bb3 {l:Li} (hli:liE l = 0) {i:Nat} {j:Jt} (hj:l.joints[i]? = some j) (b:Int):aii j b < l.bodies.length:=by
 obtain ⟨i1,i2,_⟩:=ahj hli hj;have b1:=afy i1;have b2:=afy i2;unfold aii;split
 ·omega
 ·split <;> omega
theorem aur {n:Nat} {ok ok':Nat -> Bool} (h:∀ i, i < n -> ok i = ok' i):acw n ok = acw n ok':=by
 unfold acw
 have:∀ l:List Nat, (∀ i ∈ l, i < n) -> l.find? (fun i=>!ok i) = l.find? (fun i=>!ok' i):=by
  intro l
  induction l with
  | nil=>intro _; rfl
  | cons a l ih =>
   intro hl;simp only [List.find?_cons,h a (hl a (by simp)),ih (fun i hi=>hl i (by simp [hi]))]
 exact this _ (fun i hi=>List.mem_range.1 hi)
theorem be6 {l:Li} (hli:liE l = 0) {kind body:Int} {p:Int -> Bool} {oth:List Bool} (h:∀ o:Int, 0 <= o -> o < l.bodies.length -> p o = kn oth o):gJ l kind body p = abo l kind body oth:=by
 unfold gJ abo;rw [aur];intro i hi;obtain ⟨j,hj⟩:=acj hi;rw [aag hj];obtain ⟨i1,i2,_⟩:=ahj hli hj;have b1:=afy i1;have b2:=afy i2;congr 1;unfold bon a91;congr 1;unfold aii
 by_cases h1:body = j.a
 ·subst h1;rw [if_pos rfl,h _ b2.1 b2.2]
  by_cases h2:j.b = j.a
  ·simp [h2,b1.1]
  ·simp [h2,b2.1]
 ·rw [if_neg h1]
  by_cases h2:body = j.b
  ·subst h2;rw [if_pos rfl,h _ b1.1 b1.2];have h3:¬ j.a = j.b:=fun e=>h1 e.symm
   simp [h3,b1.1]
  ·rw [if_neg h2];have h3:¬ j.a = body:=fun e=>h1 e.symm
   have h4:¬ j.b = body:=fun e=>h2 e.symm
   simp [h3,h4]
theorem bdz {k:List Bool} {i:Nat} {b:Int} (h0:0 <= b) (hi:i < k.length):kn (k.set i true) b = (decide (b = i) || kn k b):=by
 unfold kn;rw [getD_eq_getElem?_getD,List.getElem?_set,getD_eq_getElem?_getD]
 by_cases h:b = i
 ·rw [decide_eq_true h, Bool.true_or, if_pos (by omega)];rw [if_pos (by omega)]; rfl
 ·rw [decide_eq_false h,Bool.false_or,if_neg (by omega)]
theorem a7p:∀ {bs:List Int} {k:List Bool} {b:Int}, 0 <= b -> (∀ x ∈ bs, 0 <= x /\ x < k.length) -> kn (aat k bs) b = (bs.any (fun x=>decide (x = b)) || kn k b)
 | [],k,b,h0,h=>by simp [aat]
 | x :: bs, k, b, h0, h=>by
  show kn (aat (k.set x.toNat true) bs) b = _;obtain ⟨hx0,hx1⟩:=h x (by simp);rw [a7p h0 (fun y hy=>by rw [length_set]; exact h y (by simp [hy])),bdz h0 (by omega),List.any_cons];have e:decide (b = (x.toNat:Int)) = decide (x = b):=decide_eq_decide.2 (by omega);rw [e];cases decide (x = b) <;> simp
theorem azp (n:Nat) (b:Int):kn (List.replicate n false) b = false:=by
 unfold kn;rw [getD_eq_getElem?_getD,List.getElem?_replicate];split <;> rfl
def aay (l:Li):List Bool:=aat (List.replicate l.bodies.length false) (l.drivers.map Dr.body)
theorem ahh (l:Li):(aay l).length = l.bodies.length:=by unfold aay; rw [afi,length_replicate]
theorem a8m {l:Li} (hli:liE l = 0) {b:Int} (h0:0 <= b):kn (aay l) b = ana l b:=by
 unfold aay ana;rw [a7p h0,azp,Bool.or_false,List.any_map]
 ·rfl
 ·intro x hx;obtain ⟨d,hd,rfl⟩:=List.mem_map.1 hx;obtain ⟨i,hi⟩:=List.mem_iff_getElem?.1 hd;have:=afy (a3b hli hi);rw [length_replicate]; omega
theorem ay9 {n:Nat} {b o:Int} (h0:0 <= o) (hb0:0 <= b) (hb:b < n):kn (aeg n b) o = decide (o = b):=by
 unfold aeg;rw [bdz h0 (by rw [length_replicate]; omega),azp,Bool.or_false];exact decide_eq_decide.2 (by omega)
def unk (k:List Bool):Nat:=k.countP (fun x=>!x)
theorem be4 {k:List Bool} {i:Nat} (h:k[i]? = some false):unk (k.set i true) + 1 = unk k:=by
 unfold unk;have hi:=(List.getElem?_eq_some_iff.1 h).1;have he:=(List.getElem?_eq_some_iff.1 h).2;rw [List.countP_set hi,he];have:0 < k.countP (fun x=>!x):=List.countP_pos_iff.2 ⟨false,mem_of_getElem? h,rfl⟩;simp; omega
theorem a3a (k:List Bool) (i:Nat):unk (k.set i true) <= unk k:=by
 by_cases hi:i < k.length
 ·unfold unk; rw [List.countP_set hi]; simp
 ·rw [List.set_eq_of_length_le (by omega)]; exact le_refl _
theorem aqv:∀ (bs:List Int) (k:List Bool), unk (aat k bs) <= unk k
 | [],k=>le_refl _
 | x :: bs,k=>le_trans (aqv bs (k.set x.toNat true)) (a3a k _)
theorem bc4 {x:Int} {bs:List Int} {k:List Bool} (h:k[x.toNat]? = some false):unk (aat k (x :: bs)) < unk k:=by
 have h1:=aqv bs (k.set x.toNat true);have h2:=be4 h;show unk (aat (k.set x.toNat true) bs) < _;omega
theorem a8x {k:List Bool} {b:Int} (h:kn k b = false) (h1:b.toNat < k.length):k[b.toNat]? = some false:=by
 unfold kn at h;rw [getD_eq_getElem?_getD,getElem?_eq_getElem h1] at h;rw [getElem?_eq_getElem h1];simpa using h
theorem a6b {l:Li} (hl:liE l = 0) {known:List Bool} (hk:known.length = l.bodies.length) {g:Gr} (h:adq l known = some g):∃ x bs, g.bodies = x :: bs /\ known[x.toNat]? = some false:=by
 unfold adq at h;cases h1:ab6 l known with
 | some g' =>
  rw [h1] at h; cases h
  unfold ab6 at h1;rw [map_eq_some_iff] at h1;obtain ⟨i,hi,rfl⟩:=h1;obtain ⟨h2,h3⟩:=abq hi;obtain ⟨d,hd⟩:=acj h2;have h4:=afy (a3b hl hd);rw [aag hd] at *;unfold aiq at h3;rw [aag hd] at h3;simp only [Bool.not_eq_false',and_eq_true,Bool.not_eq_true',decide_eq_true_eq] at h3;exact ⟨_,_,rfl,a8x h3.1 (by omega)⟩
 | none =>
  rw [h1] at h;cases h2:aet l known with
  | some g' =>
   rw [h2] at h; cases h
   unfold aet at h2;rw [map_eq_some_iff] at h2;obtain ⟨i,hi,h2⟩:=h2;obtain ⟨h3,h4⟩:=abq hi;split at h2
   ·rename_i k hk';subst h2;unfold ayq at hk';rw [map_eq_some_iff] at hk';obtain ⟨k',hk',rfl⟩:=hk';obtain ⟨h5,h6⟩:=abq hk';unfold ae9 agw at h6;simp only [Bool.not_eq_false',and_eq_true,Bool.not_eq_true',decide_eq_true_eq] at h6;exact ⟨_,_,rfl,a8x h6.1.1.1 (by omega)⟩
   ·rename_i hk'; rw [hk'] at h4; cases h4
  | none =>
   rw [h2] at h;have h:acy l known = some g:=h;unfold acy at h;rw [map_eq_some_iff] at h;obtain ⟨i,hi,rfl⟩:=h;obtain ⟨h3,h4⟩:=abq hi;unfold aio agw at h4;simp only [Bool.not_eq_false',and_eq_true,Bool.not_eq_true',decide_eq_true_eq] at h4;exact ⟨_,_,rfl,a8x h4.1.1 (by omega)⟩
theorem aha {l:Li} (hl:liE l = 0) {known:List Bool} (hk:known.length = l.bodies.length) {g:Gr} (h:adq l known = some g):unk (aat known g.bodies) < unk known:=by
 obtain ⟨x,bs,e,h1⟩:=a6b hl hk h;rw [e]; exact bc4 h1
theorem ah9 {l:Li} (hl:liE l = 0):∀ (n m:Nat) (known:List Bool) (out:List Gr), known.length = l.bodies.length -> unk known <= n -> unk known <= m -> aa6 l n known out = aa6 l m known out
 | 0,0,known,out,hk,h1,h2=>rfl
 | 0, m + 1, known, out, hk, h1, h2=>by
  unfold aa6;cases hg:adq l known with
  | none=>rfl
  | some g=>have:=aha hl hk hg; omega
 | n + 1, 0, known, out, hk, h1, h2=>by
  unfold aa6;cases hg:adq l known with
  | none=>rfl
  | some g=>have:=aha hl hk hg; omega
 | n + 1, m + 1, known, out, hk, h1, h2=>by
  unfold aa6;cases hg:adq l known with
  | none=>rfl
  | some g =>
   have:=aha hl hk hg;exact ah9 hl n m _ _ (by rw [afi]; exact hk) (by omega) (by omega)
theorem ag5 {l:Li}:∀ (n:Nat) (known:List Bool) (out:List Gr), ∃ gs, aa6 l n known out = (gs.foldl (fun k g=>aat k g.bodies) known, out ++ gs)
 | 0,known,out=>⟨[],by simp [aa6]⟩
 | n + 1, known, out=>by
  unfold aa6;cases hg:adq l known with
  | none=>exact ⟨[],by simp⟩
  | some g =>
   obtain ⟨gs,e⟩:=ag5 n (aat known g.bodies) (out ++ [g]);exact ⟨g :: gs,by show aa6 l n _ _ = _; rw [e]; simp⟩
theorem a3o (l:Li):aa6 l l.bodies.length (aeg l.bodies.length 0) [] = (ad3 l, adp l):=by
 obtain ⟨gs,e⟩:=ag5 (l:=l) l.bodies.length (aeg l.bodies.length 0) [];unfold ad3 adp;rw [e]; simp
theorem azv {k:List Bool}:(aci k).length = 0 ↔ k.contains false = false:=by
 unfold aci;rw [length_map,List.length_eq_zero_iff,List.filter_eq_nil_iff];constructor
 ·intro h;rw [<- Bool.not_eq_true,List.contains_iff_mem];intro hm;obtain ⟨i,hi⟩:=List.mem_iff_getElem?.1 hm;have hlt:=(List.getElem?_eq_some_iff.1 hi).1;have:=h i (List.mem_range.2 hlt);rw [getD_eq_getElem?_getD,hi] at this;simp at this
 ·intro h i hi;rw [<- Bool.not_eq_true,List.contains_iff_mem] at h;intro hc;have hlt:=List.mem_range.1 hi;rw [getD_eq_getElem?_getD,getElem?_eq_getElem hlt] at hc;simp at hc;exact h (hc ▸ List.getElem_mem hlt)
theorem ams:Sub (.agg [.v (.int .i64 0),.v (.slice none 0 0),.v (.slice none 0 0),.v (.int .i64 0)]) (Gr.av default):=.agg (.cons (.refl _) (.cons (.nil _ _ _) (.cons (.nil _ _ _) (.cons (.refl _) .nil)))) rfl
theorem bk5 {z:Int} (h:aaa .geq z 0 = true):0 <= z:=of_decide_eq_true h
theorem blj {z:Int} (h:aaa .geq z 0 = false):¬ 0 <= z:=of_decide_eq_false h
theorem asr {a b c:Int}:cond (cond (aaa .geq a 0) (aaa .geq b 0) false) (aaa .geq c 0) false = (decide (0 <= a) && decide (0 <= b) && decide (0 <= c)):=by
 have e:∀ z:Int,aaa .geq z 0 = decide (0 <= z):=fun z=>rfl
 rw [e,e,e,aee,aee]
theorem bmy {a b:Int}:cond (aaa .lss a 0) true (aaa .lss b 0) = !(decide (0 <= a) && decide (0 <= b)):=by
 have e:∀ z:Int,aaa .lss z 0 = !decide (0 <= z):=fun z=>by rw [<- decide_not]; exact decide_eq_decide.2 (by omega)
 rw [e,e,ap9,Bool.not_and]
theorem bl4 {a b:Int} (h:cond (aaa .lss a 0) true (aaa .lss b 0) = true):(decide (0 <= a) && decide (0 <= b)) = false:=by rw [bmy] at h; exact ahu h
theorem bll {a b:Int} (h:cond (aaa .lss a 0) true (aaa .lss b 0) = false):0 <= a /\ 0 <= b:=by
 rw [bmy] at h;have:=ahv h;simpa using this
end Go.Lw
namespace Go.Lw
structure TieO (l:Li) (kind:Int) (bs:List Int) (z b:Int) (j:Jt):Prop where
  hz:0 <= z
  hj:l.joints[z.toNat]? = some j
  kd:j.kind = kind
  tie:(j.a = b /\ j.b ∉ bs) \/ (j.b = b /\ j.a ∉ bs)
inductive DyK (l:Li):Gr -> Prop where
  | drv {b z d:Int} {j:Jt} {x:Dr} (t:TieO l 0 [b] z b j) (d0:0 <= d) (hd:l.drivers[d.toNat]? = some x) (hb:x.body = b):DyK l ⟨0,[b],[z],d⟩
  | rrr {i k z0 z1 z2:Int} {j0 j1 j2:Jt} (ne:i ≠ k) (t0:TieO l 0 [i, k] z0 i j0) (t1:TieO l 0 [i, k] z1 k j1) (h0:0 <= z2) (h2:l.joints[z2.toNat]? = some j2) (kd:j2.kind = 0)
      (tie:(j2.a = i /\ j2.b = k) \/ (j2.b = i /\ j2.a = k)):DyK l ⟨1,[i,k],[z0,z1,z2],0⟩
  | pr {i z0 z1:Int} {j0 j1:Jt} (t0:TieO l 0 [i] z0 i j0) (t1:TieO l 1 [i] z1 i j1) (ha:j1.a = i):DyK l ⟨2,[i],[z0,z1],0⟩
  | rp {i z0 z1:Int} {j0 j1:Jt} (t0:TieO l 0 [i] z0 i j0) (t1:TieO l 1 [i] z1 i j1) (ha:j1.a ≠ i):DyK l ⟨3,[i],[z0,z1],0⟩
theorem avt {l:Li} {kind b:Int} {oth:List Bool} (h:0 <= abo l kind b oth) :
  ∃ (i:Nat) (j:Jt),abo l kind b oth = (i:Int) /\ l.joints[i]? = some j /\ j.kind = kind /\ ((j.a = b /\ kn oth j.b = true) \/ (j.b = b /\ kn oth j.a = true)):=by
 unfold abo at h ⊢;cases hf:acw l.joints.length (fun i=>!a91 kind b oth (l.joints.getD i default)) with
 | none=>rw [hf] at h; exact absurd h (by decide)
 | some i =>
  obtain ⟨h1,h2⟩:=abq hf;obtain ⟨j,hj⟩:=acj h1;rw [aag hj] at h2;unfold a91 at h2;simp only [Bool.not_eq_false',and_eq_true,or_eq_true,decide_eq_true_eq] at h2;exact ⟨i,j,rfl,hj,h2.1,h2.2⟩
theorem aw7 {l:Li} {kind b:Int} {known:List Bool} {bs:List Int} (hb:∀ x ∈ bs, kn known x = false) (h:0 <= abo l kind b known):∃ j, TieO l kind bs (abo l kind b known) b j:=by
 obtain ⟨i,j,e,hj,hk,ht⟩:=avt h;have hn:∀ x,kn known x = true -> x ∉ bs:=fun x hx hm=>by rw [hb x hm] at hx; cases hx
 refine ⟨j,h,by rw [e,toNat_natCast]; exact hj,hk,?_⟩;rcases ht with ⟨h1,h2⟩ | ⟨h1,h2⟩
 ·exact .inl ⟨h1,hn _ h2⟩
 ·exact .inr ⟨h1,hn _ h2⟩
theorem ast {l:Li} {known:List Bool} {b:Int} (h:agw l known b = true):kn known b = false:=by
 unfold agw at h;simp only [and_eq_true,Bool.not_eq_true'] at h;exact h.1
theorem a5x {known:List Bool} {b:Int} (h:kn known b = false):∀ x ∈ [b],kn known x = false:=fun x hx=>by rw [List.mem_singleton.1 hx]; exact h
theorem a3i {l:Li} (hl:liE l = 0) {known:List Bool} {g:Gr} (h:ab6 l known = some g):DyK l g:=by
 unfold ab6 at h;rw [map_eq_some_iff] at h;obtain ⟨i,hi,rfl⟩:=h;obtain ⟨h1,h2⟩:=abq hi;obtain ⟨d,hd⟩:=acj h1;unfold aiq at h2;simp only [Bool.not_eq_false',and_eq_true,decide_eq_true_eq,Bool.not_eq_true'] at h2;rw [aag hd] at h2 ⊢;obtain ⟨j,hj⟩:=aw7 (a5x h2.1) h2.2;exact .drv hj (by omega) (by rw [toNat_natCast]; exact hd) rfl
theorem bcd {l:Li} (hl:liE l = 0) {known:List Bool} {g:Gr} (h:aet l known = some g):DyK l g:=by
 unfold aet at h;rw [map_eq_some_iff] at h;obtain ⟨i,hi,h⟩:=h;obtain ⟨h1,h2⟩:=abq hi;split at h
 ·rename_i k hk;subst h;unfold ayq at hk;rw [map_eq_some_iff] at hk;obtain ⟨k',hk',rfl⟩:=hk;obtain ⟨h3,h4⟩:=abq hk';rw [show i + 1 + k' = k' + (i + 1) by omega] at h4;unfold ae9 at h4;simp only [Bool.not_eq_false',and_eq_true,decide_eq_true_eq] at h4;obtain ⟨⟨f1,f2⟩,⟨j1,j2⟩,j3⟩:=h4
  have hb:∀ x ∈ [(i:Int), ((k' + (i + 1):Nat):Int)], kn known x = false:=fun x hx=>by
   simp only [mem_cons,not_mem_nil,or_false] at hx;rcases hx with rfl | rfl
   ·exact ast f1
   ·exact ast f2
  obtain ⟨a0,t0⟩:=aw7 hb j1;obtain ⟨a1,t1⟩:=aw7 hb j2;obtain ⟨n,a2,e,hj,hkd,ht⟩:=avt j3;obtain ⟨i1,i2,_⟩:=ahj hl hj;have i1:=(afy i1).1;have i2:=(afy i2).1;refine .rrr (by omega) t0 t1 j3 (by rw [e,toNat_natCast]; exact hj) hkd ?_;rcases ht with ⟨e1,e2⟩ | ⟨e1,e2⟩
  ·rw [ay9 i2 (by omega) (by omega)] at e2;exact .inl ⟨e1,of_decide_eq_true e2⟩
  ·rw [ay9 i1 (by omega) (by omega)] at e2;exact .inr ⟨e1,of_decide_eq_true e2⟩
 ·rename_i hk; rw [hk] at h2; cases h2
theorem a2x {l:Li} {known:List Bool} {g:Gr} (h:acy l known = some g):DyK l g:=by
 unfold acy at h;rw [map_eq_some_iff] at h;obtain ⟨i,hi,rfl⟩:=h;obtain ⟨h1,h2⟩:=abq hi;unfold aio at h2;simp only [Bool.not_eq_false',and_eq_true,decide_eq_true_eq] at h2;obtain ⟨f1,j1,j2⟩:=h2;obtain ⟨a0,t0⟩:=aw7 (a5x (ast f1)) j1;obtain ⟨a1,t1⟩:=aw7 (a5x (ast f1)) j2;unfold sgG;rw [aag t1.hj]
 by_cases e:a1.a = i
 ·rw [if_pos e]; exact .pr t0 t1 e
 ·rw [if_neg e]; exact .rp t0 t1 e
theorem bcj {l:Li} (hl:liE l = 0) {known:List Bool} {g:Gr} (h:adq l known = some g):DyK l g:=by
 unfold adq at h;cases h1:ab6 l known with
 | some g'=>rw [h1] at h; cases h; exact a3i hl h1
 | none =>
  rw [h1] at h;cases h2:aet l known with
  | some g'=>rw [h2] at h; cases h; exact bcd hl h2
  | none=>rw [h2] at h; exact a2x h
theorem aqt {l:Li} (hl:liE l = 0):∀ (n:Nat) (known:List Bool) (out:List Gr), (∀ g ∈ out, DyK l g) -> ∀ g ∈ (aa6 l n known out).2, DyK l g
 | 0,known,out,h=>h
 | n + 1, known, out, h=>by
  unfold aa6;cases hg:adq l known with
  | none=>exact h
  | some g=>exact aqt hl n (aat known g.bodies) (out ++ [g]) (fun x hx=>by
    rcases List.mem_append.1 hx with hx | hx
    ·exact h x hx
    ·rw [List.mem_singleton.1 hx]; exact bcj hl hg)
theorem av1 {l:Li} (hl:liE l = 0) {g:Gr} (h:g ∈ adl l):DyK l g /\ GrOk l g:=by
 unfold adl at h;split at h
 ·exact ⟨aqt hl _ _ _ (fun g hg=>by cases hg) g h,(aol hl).1 g h⟩
 ·cases h
end Go.Lw
namespace Go.Lw
open Lean.Grind
def E (r:(k:Nat) -> T k) (n:Nat):Type:=T n
namespace T
theorem ofQ_zero:∀ n, ofQ n 0 = zero n
 | 0=>rfl
 | n + 1=>by simp only [ofQ,zero,ofQ_zero n]
theorem ofQ_add:∀ n (p q:Rat), ofQ n (p + q) = add n (ofQ n p) (ofQ n q)
 | 0,p,q=>rfl
 | n + 1,p,q=>by simp only [ofQ,add,ofQ_add n,add_zero]
theorem ofQ_neg:∀ n (p:Rat), ofQ n (-p) = neg n (ofQ n p)
 | 0,p=>rfl
 | n + 1,p=>by simp only [ofQ,neg,ofQ_neg n,a0k]
end T
structure Laws (r:(k:Nat) -> T k) (n:Nat):Prop where
  assoc:∀ x y z,T.mul r n (T.mul r n x y) z = T.mul r n x (T.mul r n y z)
  dist:∀ x y z,T.mul r n x (T.add n y z) = T.add n (T.mul r n x y) (T.mul r n x z)
  one:∀ x,T.mul r n (T.ofQ n 1) x = x
theorem T.neg_mul' {r:(k:Nat) -> T k} {n:Nat} (h:Laws r n) (x y:T n):T.mul r n (T.neg n x) y = T.neg n (T.mul r n x y):=by
 have h1:T.add n (T.mul r n x y) (T.mul r n (T.neg n x) y) = T.zero n:=by
  rw [T.mul_comm r n x,T.mul_comm r n (T.neg n x),<- h.dist,T.add_neg,T.mul_zero]
 have h2:=congrArg (fun z=>T.add n (T.neg n (T.mul r n x y)) z) h1;simp only [T.add_zero] at h2;rw [<- T.add_assoc,T.add_comm n (T.neg n _),T.add_neg,T.zero_add] at h2;exact h2
theorem T.mul_addr {r:(k:Nat) -> T k} {n:Nat} (h:Laws r n) (a b c:T n):T.mul r n (T.add n a b) c = T.add n (T.mul r n a c) (T.mul r n b c):=by
 rw [T.mul_comm r n _ c,h.dist,T.mul_comm r n c,T.mul_comm r n c]
instance (r:(k:Nat) -> T k) (n:Nat):Add (E r n):=⟨T.add n⟩
instance (r:(k:Nat) -> T k) (n:Nat):Mul (E r n):=⟨T.mul r n⟩
instance (r:(k:Nat) -> T k) (n:Nat):Neg (E r n):=⟨T.neg n⟩
instance (r:(k:Nat) -> T k) (n:Nat):_root_.Sub (E r n):=⟨fun x y=>T.add n x (T.neg n y)⟩
instance (r:(k:Nat) -> T k) (n c:Nat):OfNat (E r n) c:=⟨T.ofQ n (c:Rat)⟩
instance (r:(k:Nat) -> T k) (n:Nat):NatCast (E r n):=⟨fun c=>T.ofQ n (c:Rat)⟩
instance (r:(k:Nat) -> T k) (n:Nat):IntCast (E r n):=⟨fun c=>T.ofQ n (c:Rat)⟩
instance (r:(k:Nat) -> T k) (n:Nat):SMul Nat (E r n):=⟨fun c x=>T.mul r n (T.ofQ n (c:Rat)) x⟩
instance (r:(k:Nat) -> T k) (n:Nat):SMul Int (E r n):=⟨fun c x=>T.mul r n (T.ofQ n (c:Rat)) x⟩
def E.pow {r:(k:Nat) -> T k} {n:Nat} (x:E r n):Nat -> E r n
  | 0=>T.ofQ n 1
  | c + 1=>T.mul r n (E.pow x c) x
instance (r:(k:Nat) -> T k) (n:Nat):HPow (E r n) Nat (E r n):=⟨E.pow⟩
@[reducible] def Laws.ring {r:(k:Nat) -> T k} {n:Nat} (h:Laws r n):CommRing (E r n) where
  add_zero a:=by
    show T.add n a (T.ofQ n ((0:Nat):Rat)) = a;rw [show (((0:Nat):Rat)) = 0 from rfl,T.ofQ_zero]; exact T.add_zero n a
  add_comm a b:=T.add_comm n a b
  add_assoc a b c:=T.add_assoc n a b c
  mul_assoc a b c:=h.assoc a b c
  mul_one a:=(T.mul_comm r n a _).trans (h.one a)
  one_mul a:=h.one a
  left_distrib a b c:=h.dist a b c
  right_distrib a b c:=T.mul_addr h a b c
  zero_mul a:=by
    show T.mul r n (T.ofQ n ((0:Nat):Rat)) a = T.ofQ n ((0:Nat):Rat);rw [show (((0:Nat):Rat)) = 0 from rfl,T.ofQ_zero]; exact T.zero_mul r n a
  mul_zero a:=by
    show T.mul r n a (T.ofQ n ((0:Nat):Rat)) = T.ofQ n ((0:Nat):Rat);rw [show (((0:Nat):Rat)) = 0 from rfl,T.ofQ_zero]; exact T.mul_zero r n a
  pow_zero a:=rfl
  pow_succ a c:=rfl
  ofNat_succ c:=by
    show T.ofQ n ((c + 1:Nat):Rat) = T.add n (T.ofQ n (c:Rat)) (T.ofQ n ((1:Nat):Rat));rw [<- T.ofQ_add]; congr 1; exact Rat.natCast_add c 1
  ofNat_eq_natCast c:=rfl
  nsmul_eq_natCast_mul c a:=rfl
  neg_add_cancel a:=(T.add_comm n (T.neg n a) a).trans ((T.add_neg n a).trans (T.ofQ_zero n).symm)
  sub a b:=T.add n a (T.neg n b)
  sub_eq_add_neg a b:=rfl
  neg_zsmul i a:=(congrArg (fun z=>T.mul r n z a) (show T.ofQ n ((-i:Int):Rat) = T.neg n (T.ofQ n (i:Rat)) by rw [Rat.intCast_neg,T.ofQ_neg])).trans (T.neg_mul' h _ a)
  zsmul_natCast_eq_nsmul c a:=rfl
  intCast_ofNat c:=rfl
  intCast_neg i:=by
    show T.ofQ n ((-i:Int):Rat) = T.neg n (T.ofQ n (i:Rat));rw [Rat.intCast_neg,T.ofQ_neg]
  mul_comm a b:=T.mul_comm r n a b
section
variable {R:Type} [CommRing R] (x y u v p q d:R)
theorem bgr:(x * u + y * v * d) * p + (x * v + y * u) * q * d = x * (u * p + v * q * d) + y * (u * q + v * p) * d:=by grind
theorem bho:(x * u + y * v * d) * q + (x * v + y * u) * p = x * (u * q + v * p) + y * (u * p + v * q * d):=by grind
theorem bih:x * (u + p) + y * (v + q) * d = (x * u + y * v * d) + (x * p + y * q * d):=by grind
theorem bhi:x * (v + q) + y * (u + p) = (x * v + y * u) + (x * q + y * p):=by grind
end
theorem bgp (r:(k:Nat) -> T k):∀ n, Laws r n
 | 0=>⟨fun x y z=>Rat.mul_assoc x y z,fun x y z=>Rat.mul_add x y z,fun x=>Rat.one_mul x⟩
 | n + 1=>by
  have I:=(bgp r n).ring;have h1:=(bgp r n).one;refine ⟨?_,?_,?_⟩
  ·rintro ⟨x, y⟩ ⟨u, v⟩ ⟨p, q⟩;exact Prod.ext (@bgr (E r n) (bgp r n).ring x y u v p q (r n)) (@bho (E r n) (bgp r n).ring x y u v p q (r n))
  ·rintro ⟨x, y⟩ ⟨u, v⟩ ⟨p, q⟩;exact Prod.ext (@bih (E r n) (bgp r n).ring x y u v p q (r n)) (@bhi (E r n) (bgp r n).ring x y u v p q)
  ·rintro ⟨u, v⟩;refine Prod.ext ?_ ?_
   ·show T.add n (T.mul r n (T.ofQ n 1) u) (T.mul r n (T.mul r n (T.zero n) v) (r n)) = u;rw [h1,T.zero_mul,T.zero_mul,T.add_zero]
   ·show T.add n (T.mul r n (T.ofQ n 1) v) (T.mul r n (T.zero n) u) = v;rw [h1,T.zero_mul,T.add_zero]
instance eRing (r:(k:Nat) -> T k) (n:Nat):CommRing (E r n):=(bgp r n).ring
structure Sg (R:Type) [CommRing R] (s:R -> Int):Prop where
  cs:∀ x,s x = -1 \/ s x = 0 \/ s x = 1
  one:s 1 = 1
  neg:∀ x,s (-x) = -s x
  mul:∀ x y,s (x * y) = s x * s y
  add:∀ x y,0 <= s x -> 0 <= s y -> 0 <= s (x + y)
namespace Sg
variable {R:Type} [CommRing R] {s:R -> Int}
theorem zero (h:Sg R s):s 0 = 0:=by
 have h1:=h.neg 0;rw [show -(0:R) = 0 by grind] at h1;omega
theorem zadd (h:Sg R s) {x y:R} (hx:s x = 0):s (x + y) = s y:=by
 have h1:=h.cs y;have h2:=h.cs (x + y);have n1:=h.neg x;have n2:=h.neg y;have n3:=h.neg (x + y);have a1:=h.add x y;have a2:=h.add (-x) (-y);have a3:=h.add (-x) (x + y);have a4:=h.add x (-(x + y));rw [show -x + -y = -(x + y) by grind] at a2;rw [show -x + (x + y) = y by grind] at a3;rw [show x + -(x + y) = -y by grind] at a4;omega
theorem padd (h:Sg R s) {x y:R} (hx:s x = 1) (hy:0 <= s y):s (x + y) = 1:=by
 have h2:=h.cs (x + y);have a1:=h.add x y;have n2:=h.neg y;have n3:=h.neg (x + y);have a4:=h.add (-(x + y)) y;have e:-(x + y) + y = -x:=by grind
 have n1:=h.neg x;rw [e] at a4;rcases h2 with h2 | h2 | h2
 ·omega
 ·have := h.zadd (x := -(x + y)) (y := y) (by omega);rw [e] at this;omega
 ·exact h2
theorem sq (h:Sg R s) (x:R):0 <= s (x * x):=by
 rw [h.mul]; rcases h.cs x with e | e | e <;> rw [e] <;> decide
theorem sqle (h:Sg R s) {a b:R} (ha:0 <= s a) (hb:0 <= s (a * a - b * b)):0 <= s (a + b):=by
 have c1:=h.cs (a + b);rcases c1 with c1 | c1 | c1
 ·exfalso;have n1:=h.neg (a + b);have p1:s (-(a + b) + a) = 1:=h.padd (by omega) ha;rw [show -(a + b) + a = -b by grind] at p1;have p2:s (-b + a) = 1:=h.padd p1 ha;have m:=h.mul (-b + a) (a + b);rw [show (-b + a) * (a + b) = a * a - b * b by grind,p2,c1] at m;omega
 ·omega
 ·omega
theorem cancel (h:Sg R s) {p x:R} (hp:s p = 1) (hx:0 <= s (p * x)):0 <= s x:=by
 rw [h.mul,hp] at hx; omega
end Sg
def mkX {r:(k:Nat) -> T k} {n:Nat} (x y:E r n):E r (n + 1):=((x,y):T n × T n)
def sg (r:(k:Nat) -> T k) (n:Nat) (x:E r n):Int:=T.sgn r n x
def rtE (r:(k:Nat) -> T k) (n:Nat):E r n:=r n
variable {r:(k:Nat) -> T k} {n:Nat}
theorem adx (z:E r (n + 1)):∃ x y:E r n,z = mkX x y:=⟨z.1,z.2,rfl⟩
theorem ayl (x y u v:E r n):mkX x y + mkX u v = mkX (x + u) (y + v):=rfl
theorem be7 (x y:E r n):-mkX x y = mkX (-x) (-y):=rfl
theorem amo (x y u v:E r n):mkX x y * mkX u v = mkX (x * u + y * v * rtE r n) (x * v + y * u):=rfl
theorem E.zero_def:(0:E r n) = T.zero n:=T.ofQ_zero n
theorem biv:(1:E r (n + 1)) = mkX 1 0:=by
 show T.ofQ (n + 1) ((1:Nat):Rat) = (T.ofQ n ((1:Nat):Rat),T.ofQ n ((0:Nat):Rat));rw [show (((0:Nat):Rat)) = 0 from rfl,T.ofQ_zero]; rfl
def nnE (x y:E r n):E r n:=x * x + -(y * y * rtE r n)
theorem aq3 (x y:E r n):sg r (n + 1) (mkX x y) = T.sgn3 (sg r n x) (sg r n y) (sg r n (rtE r n)) (sg r n (nnE x y)):=rfl
def PE (x y:E r n):Prop:=(0 <= sg r n x /\ 0 <= sg r n (nnE x y)) \/ (0 <= sg r n y /\ 0 <= -sg r n (nnE x y))
theorem a2o (h:Sg (E r n) (sg r n)) (hd:sg r n (rtE r n) = 1) (x y:E r n):0 <= sg r (n + 1) (mkX x y) ↔ PE x y:=by
 rw [aq3,hd];unfold PE
 have f1:sg r n y = 0 -> sg r n (nnE x y) = sg r n x * sg r n x:=by
  intro hy;have h1:sg r n (-(y * y * rtE r n)) = 0:=by rw [h.neg,h.mul,h.mul,hy]; simp
  have:=h.zadd (y:=x * x) h1;unfold nnE;rw [show x * x + -(y * y * rtE r n) = -(y * y * rtE r n) + x * x by grind,this,h.mul]
 have f2:sg r n x = 0 -> sg r n (nnE x y) = -(sg r n y * sg r n y):=by
  intro hx;have h1:sg r n (x * x) = 0:=by rw [h.mul,hx]; simp
  have:=h.zadd (y:=-(y * y * rtE r n)) h1;unfold nnE;rw [this,h.neg,h.mul,h.mul,hd]; simp
 have c1:=h.cs x;have c2:=h.cs y;have c3:=h.cs (nnE x y)
 revert f1 f2 c1 c2 c3
 generalize sg r n x = a;generalize sg r n y = b;generalize sg r n (nnE x y) = c;intro f1 f2 c1 c2 c3;rcases c1 with rfl | rfl | rfl <;> rcases c2 with rfl | rfl | rfl <;> rcases c3 with rfl | rfl | rfl <;> first | decide | (exfalso; revert f1 f2; decide)
theorem bm3 (h:Sg (E r n) (sg r n)) (hd:sg r n (rtE r n) = 1) {x y u v:E r n} (h1:PE x y) (h2:PE u v):PE (x * u + y * v * rtE r n) (x * v + y * u):=by
 have nm:nnE (x * u + y * v * rtE r n) (x * v + y * u) = nnE x y * nnE u v:=by unfold nnE; grind
 have hn:=h.mul (nnE x y) (nnE u v);have d0:0 <= sg r n (rtE r n):=by omega
 unfold PE;rw [nm,hn];rcases h1 with ⟨a1,a2⟩ | ⟨a1,a2⟩ <;> rcases h2 with ⟨b1,b2⟩ | ⟨b1,b2⟩
 ·refine .inl ⟨h.sqle ?_ ?_, Int.mul_nonneg a2 b2⟩
  ·rw [h.mul]; exact Int.mul_nonneg a1 b1
  ·have e : x * u * (x * u) - y * v * rtE r n * (y * v * rtE r n) = nnE x y * (u * u) + y * y * rtE r n * nnE u v := by unfold nnE; grind
   rw [e];refine h.add _ _ ?_ ?_
   ·rw [h.mul]; exact Int.mul_nonneg a2 (h.sq u)
   ·rw [h.mul,h.mul]; exact Int.mul_nonneg (Int.mul_nonneg (h.sq y) d0) b2
 ·refine .inr ⟨h.sqle ?_ ?_, ?_⟩
  ·rw [h.mul]; exact Int.mul_nonneg a1 b1
  ·have e : x * v * (x * v) - y * u * (y * u) = nnE x y * (v * v) + y * y * -nnE u v := by unfold nnE; grind
   rw [e];refine h.add _ _ ?_ ?_
   ·rw [h.mul]; exact Int.mul_nonneg a2 (h.sq v)
   ·rw [h.mul,h.neg]; exact Int.mul_nonneg (h.sq y) b2
  ·rw [<- Int.mul_neg]; exact Int.mul_nonneg a2 b2
 ·refine .inr ⟨?_, ?_⟩
  ·rw [show x * v + y * u = y * u + x * v by grind];refine h.sqle ?_ ?_
   ·rw [h.mul]; exact Int.mul_nonneg a1 b1
   ·have e : y * u * (y * u) - x * v * (x * v) = nnE u v * (y * y) + v * v * -nnE x y := by unfold nnE; grind
    rw [e];refine h.add _ _ ?_ ?_
    ·rw [h.mul]; exact Int.mul_nonneg b2 (h.sq y)
    ·rw [h.mul,h.neg]; exact Int.mul_nonneg (h.sq v) a2
  ·rw [<- Int.neg_mul]; exact Int.mul_nonneg a2 b2
 ·refine .inl ⟨?_, ?_⟩
  ·rw [show x * u + y * v * rtE r n = y * v * rtE r n + x * u by grind];refine h.sqle ?_ ?_
   ·rw [h.mul,h.mul]; exact Int.mul_nonneg (Int.mul_nonneg a1 b1) d0
   ·have e : y * v * rtE r n * (y * v * rtE r n) - x * u * (x * u) = -nnE x y * (v * v * rtE r n) + x * x * -nnE u v := by unfold nnE; grind
    rw [e];refine h.add _ _ ?_ ?_
    ·rw [h.mul,h.neg,h.mul]; exact Int.mul_nonneg a2 (Int.mul_nonneg (h.sq v) d0)
    ·rw [h.mul,h.neg]; exact Int.mul_nonneg (h.sq x) b2
  ·rw [<- Int.neg_mul_neg]; exact Int.mul_nonneg a2 b2
theorem bdo (h:Sg (E r n) (sg r n)) (hd:sg r n (rtE r n) = 1) {x y u v:E r n} (a1:0 <= sg r n x) (a2:0 <= sg r n (nnE x y)) (b1:0 <= sg r n v) (b2:0 <= -sg r n (nnE u v)):PE (x + u) (y + v):=by
  have cX:=h.cs (x + u);have cY:=h.cs (y + v);have cN:=h.cs (nnE (x + u) (y + v));unfold PE
  by_cases hX:0 <= sg r n (x + u)
  · by_cases hN:0 <= sg r n (nnE (x + u) (y + v))
    · exact .inl ⟨hX,hN⟩
    · by_cases hY:0 <= sg r n (y + v)
      · exact .inr ⟨hY,by omega⟩
      · -- Y < 0: then N is at least 0
        exfalso;have hY':sg r n (-(y + v)) = 1:=by rw [h.neg]; omega
        have ny:sg r n (-y) = 1:=by
          have:=h.padd hY' b1
          rwa [show -(y + v) + v = -y by grind] at this
        have k1:0 <= sg r n (x * v + y * u):=by
          refine h.sqle (by rw [h.mul]; exact Int.mul_nonneg a1 b1) ?_;have e:x * v * (x * v) - y * u * (y * u) = nnE x y * (v * v) + y * y * -nnE u v:=by unfold nnE; grind
          rw [e];refine h.add _ _ ?_ ?_
          · rw [h.mul]; exact Int.mul_nonneg a2 (h.sq v)
          · rw [h.mul,h.neg]; exact Int.mul_nonneg (h.sq y) b2
        have k2:0 <= sg r n (x * v + -(y * u)):=by
          refine h.sqle (by rw [h.mul]; exact Int.mul_nonneg a1 b1) ?_;have e:x * v * (x * v) - -(y * u) * -(y * u) = nnE x y * (v * v) + y * y * -nnE u v:=by unfold nnE; grind
          rw [e];refine h.add _ _ ?_ ?_
          · rw [h.mul]; exact Int.mul_nonneg a2 (h.sq v)
          · rw [h.mul,h.neg]; exact Int.mul_nonneg (h.sq y) b2
        have k3:0 <= sg r n (-y * (x + u) - x * -(y + v)):=by
          rw [show -y * (x + u) - x * -(y + v) = x * v + -(y * u) by grind]; exact k2
        have k4:0 <= sg r n (-y * (x + u) + x * -(y + v)):=by
          rw [show -y * (x + u) + x * -(y + v) = (-y * (x + u) - x * -(y + v)) + (x * -(y + v) + x * -(y + v)) by grind];refine h.add _ _ k3 (h.add _ _ ?_ ?_) <;> (rw [h.mul,hY']; omega)
        have k5:0 <= sg r n ((y * y) * nnE (x + u) (y + v)):=by
          have e:(y * y) * nnE (x + u) (y + v) = (-y * (x + u) - x * -(y + v)) * (-y * (x + u) + x * -(y + v)) + nnE x y * (-(y + v) * -(y + v)):=by unfold nnE; grind
          rw [e];refine h.add _ _ (by rw [h.mul]; exact Int.mul_nonneg k3 k4) (by rw [h.mul]; exact Int.mul_nonneg a2 (h.sq _))
        have k6 := h.cancel (by rw [h.mul]; rw [h.neg] at ny; have : sg r n y = -1 := by omega
                                rw [this]; rfl) k5
        exact hN k6
  · have hX' : sg r n (-(x + u)) = 1 := by rw [h.neg]; omega
    have nu:sg r n (-u) = 1:=by
      have:=h.padd hX' a1
      rwa [show -(x + u) + x = -u by grind] at this
    have su:sg r n u = -1:=by rw [h.neg] at nu; omega
    have hv:sg r n v = 1:=by
      rcases h.cs v with e | e | e
      · omega
      · exfalso
        have h1:sg r n (-(v * v * rtE r n)) = 0:=by rw [h.neg,h.mul,h.mul,e]; simp
        have:=h.zadd (y:=u * u) h1;rw [show -(v * v * rtE r n) + u * u = nnE u v by unfold nnE; grind,h.mul,su] at this;omega
      · exact e
    have k1:0 <= sg r n (x * v + y * -u):=by
      refine h.sqle (by rw [h.mul]; exact Int.mul_nonneg a1 b1) ?_;have e:x * v * (x * v) - y * -u * (y * -u) = nnE x y * (v * v) + y * y * -nnE u v:=by unfold nnE; grind
      rw [e];refine h.add _ _ ?_ ?_
      · rw [h.mul]; exact Int.mul_nonneg a2 (h.sq v)
      · rw [h.mul,h.neg]; exact Int.mul_nonneg (h.sq y) b2
    have k3:0 <= sg r n (-u * (y + v) - v * -(x + u)):=by
      rw [show -u * (y + v) - v * -(x + u) = x * v + y * -u by grind]; exact k1
    have k4:0 <= sg r n (v * -(x + u)):=by rw [h.mul,hv,hX']; decide
    have kY:0 <= sg r n (y + v):=by
      refine h.cancel nu ?_;rw [show -u * (y + v) = (-u * (y + v) - v * -(x + u)) + v * -(x + u) by grind];exact h.add _ _ k3 k4
    refine .inr ⟨kY,?_⟩
    have k5:0 <= sg r n ((v * v) * -nnE (x + u) (y + v)):=by
      have e:(v * v) * -nnE (x + u) (y + v) = (-u * (y + v) - v * -(x + u)) * (-u * (y + v) + v * -(x + u)) + -nnE u v * ((y + v) * (y + v)):=by unfold nnE; grind
      rw [e];have k6:0 <= sg r n (-u * (y + v) + v * -(x + u)):=h.add _ _ (by rw [h.mul,nu]; omega) k4;refine h.add _ _ (by rw [h.mul]; exact Int.mul_nonneg k3 k6) (by rw [h.mul,h.neg]; exact Int.mul_nonneg b2 (h.sq _))
    have k7:=h.cancel (by rw [h.mul,hv]; rfl) k5
    rwa [h.neg] at k7
theorem bmv (h:Sg (E r n) (sg r n)) (hd:sg r n (rtE r n) = 1) {x y u v:E r n} (h1:PE x y) (h2:PE u v):PE (x + u) (y + v):=by
 have d0:0 <= sg r n (rtE r n):=by omega
 rcases h1 with ⟨a1,a2⟩ | ⟨a1,a2⟩ <;> rcases h2 with ⟨b1,b2⟩ | ⟨b1,b2⟩
 ·refine .inl ⟨h.add _ _ a1 b1, ?_⟩
  have k:0 <= sg r n (x * u + -(y * v * rtE r n)):=by
   refine h.sqle (by rw [h.mul]; exact Int.mul_nonneg a1 b1) ?_;have e:x * u * (x * u) - -(y * v * rtE r n) * -(y * v * rtE r n) = nnE x y * (u * u) + y * y * rtE r n * nnE u v:=by unfold nnE; grind
   rw [e];refine h.add _ _ ?_ ?_
   ·rw [h.mul]; exact Int.mul_nonneg a2 (h.sq u)
   ·rw [h.mul,h.mul]; exact Int.mul_nonneg (Int.mul_nonneg (h.sq y) d0) b2
  rw [show nnE (x + u) (y + v) = (nnE x y + nnE u v) + ((x * u + -(y * v * rtE r n)) + (x * u + -(y * v * rtE r n))) by unfold nnE; grind];exact h.add _ _ (h.add _ _ a2 b2) (h.add _ _ k k)
 ·exact bdo h hd a1 a2 b1 b2
 ·rw [show x + u = u + x by grind, show y + v = v + y by grind];exact bdo h hd b1 b2 a1 a2
 ·refine .inr ⟨h.add _ _ a1 b1, ?_⟩
  have k:0 <= sg r n (y * v * rtE r n + -(x * u)):=by
   refine h.sqle (by rw [h.mul,h.mul]; exact Int.mul_nonneg (Int.mul_nonneg a1 b1) d0) ?_;have e:y * v * rtE r n * (y * v * rtE r n) - -(x * u) * -(x * u) = -nnE x y * (v * v * rtE r n) + x * x * -nnE u v:=by unfold nnE; grind
   rw [e];refine h.add _ _ ?_ ?_
   ·rw [h.mul,h.neg,h.mul]; exact Int.mul_nonneg a2 (Int.mul_nonneg (h.sq v) d0)
   ·rw [h.mul,h.neg]; exact Int.mul_nonneg (h.sq x) b2
  have k2:0 <= sg r n (-nnE (x + u) (y + v)):=by
   rw [show -nnE (x + u) (y + v) = (-nnE x y + -nnE u v) + ((y * v * rtE r n + -(x * u)) + (y * v * rtE r n + -(x * u))) by unfold nnE; grind];exact h.add _ _ (h.add _ _ (by rw [h.neg]; exact a2) (by rw [h.neg]; exact b2)) (h.add _ _ k k)
  rwa [h.neg] at k2
theorem bdb (a b c d:Int):T.sgn3 (-a) (-b) c d = -T.sgn3 a b c d:=by
 unfold T.sgn3;have e:(-a = -b \/ -b = 0) ↔ (a = b \/ b = 0):=by omega
 simp only [e];split
 ·rfl
 ·split
  ·rfl
  ·by_cases h:a = 0
   ·rw [if_pos (by omega),if_pos h]
   ·rw [if_neg (by omega),if_neg h,Int.neg_mul]
theorem be9 (h:Sg (E r n) (sg r n)) (hd:0 <= sg r n (rtE r n)):Sg (E r (n + 1)) (sg r (n + 1)):=by
 have hcs:∀ z:E r (n + 1),sg r (n + 1) z = -1 \/ sg r (n + 1) z = 0 \/ sg r (n + 1) z = 1:=fun z=>T.sgn_cases r (n + 1) z
 have hone:sg r (n + 1) 1 = 1:=by
  rw [biv,aq3,h.one,h.zero];unfold T.sgn3;split
  ·rfl
  ·simp
 have hneg:∀ z:E r (n + 1), sg r (n + 1) (-z) = -sg r (n + 1) z:=by
  intro z;obtain ⟨x,y,rfl⟩:=adx z;rw [be7,aq3,aq3,h.neg,h.neg,show nnE (-x) (-y) = nnE x y by unfold nnE; grind,bdb]
 by_cases hd0:sg r n (rtE r n) = 0
 ·have e0:∀ x y:E r n, sg r (n + 1) (mkX x y) = sg r n x:=by
   intro x y; rw [aq3,hd0]; unfold T.sgn3; rw [if_pos rfl]
  refine ⟨hcs,hone,hneg,?_,?_⟩
  ·intro z w;obtain ⟨x,y,rfl⟩:=adx z;obtain ⟨u,v,rfl⟩:=adx w;rw [amo,e0,e0,e0];have h1:sg r n (y * v * rtE r n) = 0:=by rw [h.mul,hd0]; simp
   have:=h.zadd (y:=x * u) h1;rw [show x * u + y * v * rtE r n = y * v * rtE r n + x * u by grind,this,h.mul]
  ·intro z w;obtain ⟨x,y,rfl⟩:=adx z;obtain ⟨u,v,rfl⟩:=adx w;rw [ayl,e0,e0,e0];exact h.add x u
 ·have hd1 : sg r n (rtE r n) = 1 := by rcases h.cs (rtE r n) with e | e | e <;> omega
  have hadd:∀ z w:E r (n + 1), 0 <= sg r (n + 1) z -> 0 <= sg r (n + 1) w -> 0 <= sg r (n + 1) (z + w):=by
   intro z w;obtain ⟨x,y,rfl⟩:=adx z;obtain ⟨u,v,rfl⟩:=adx w;rw [ayl,a2o h hd1,a2o h hd1,a2o h hd1];exact bmv h hd1
  have hpm:∀ z w:E r (n + 1), 0 <= sg r (n + 1) z -> 0 <= sg r (n + 1) w -> 0 <= sg r (n + 1) (z * w):=by
   intro z w;obtain ⟨x,y,rfl⟩:=adx z;obtain ⟨u,v,rfl⟩:=adx w;rw [amo,a2o h hd1,a2o h hd1,a2o h hd1];exact bm3 h hd1
  have hzm:∀ z w:E r (n + 1), sg r (n + 1) z = 0 -> sg r (n + 1) (w * z) = 0:=by
   intro z w hz;have n1:=hneg z;have n2:=hneg w;have n3:=hneg (w * z);have m1:=hpm w z;have m2:=hpm w (-z);have m3:=hpm (-w) z;have m4:=hpm (-w) (-z);rw [show w * -z = -(w * z) by grind] at m2;rw [show -w * z = -(w * z) by grind] at m3;rw [show -w * -z = w * z by grind] at m4;rcases hcs w with e | e | e <;> omega
  have hsc:∀ (a u v:E r n), sg r (n + 1) (mkX (a * u) (a * v)) = sg r n a * sg r (n + 1) (mkX u v):=by
   intro a u v;rw [aq3,aq3,show nnE (a * u) (a * v) = a * a * nnE u v by unfold nnE; grind,h.mul,h.mul,h.mul,h.mul,hd1]
   have f1:sg r n v = 0 -> sg r n (nnE u v) = sg r n u * sg r n u:=by
    intro hy;have h1:sg r n (-(v * v * rtE r n)) = 0:=by rw [h.neg,h.mul,h.mul,hy]; simp
    have:=h.zadd (y:=u * u) h1;unfold nnE;rw [show u * u + -(v * v * rtE r n) = -(v * v * rtE r n) + u * u by grind,this,h.mul]
   have c1:=h.cs u;have c2:=h.cs v;have c3:=h.cs (nnE u v);have c4:=h.cs a
   revert c1 c2 c3 c4
   generalize sg r n u = a1;generalize sg r n v = b1;generalize sg r n (nnE u v) = c1;generalize sg r n a = e1;intro c1 c2 c3 c4;rcases c1 with rfl | rfl | rfl <;> rcases c2 with rfl | rfl | rfl <;> rcases c3 with rfl | rfl | rfl <;> rcases c4 with rfl | rfl | rfl <;> decide
  have hpadd:∀ z w:E r (n + 1), sg r (n + 1) z = 1 -> 0 <= sg r (n + 1) w -> sg r (n + 1) (z + w) = 1:=by
   intro z w hz hw;have a1:=hadd z w (by omega) hw;rcases hcs (z + w) with e | e | e
   ·omega
   ·exfalso;have n1:=hneg z;have n2:=hneg (z + w);have a2:=hadd (-(z + w)) w (by omega) hw;rw [show -(z + w) + w = -z by grind] at a2;omega
   ·exact e
  have hpp:∀ z w:E r (n + 1), sg r (n + 1) z = 1 -> sg r (n + 1) w = 1 -> sg r (n + 1) (z * w) = 1:=by
   intro z w hz hw;obtain ⟨x,y,rfl⟩:=adx z;obtain ⟨u,v,rfl⟩:=adx w;have p0:=hpm _ _ (by omega:0 <= sg r (n + 1) (mkX x y)) (by omega:0 <= sg r (n + 1) (mkX u v));rcases hcs (mkX x y * mkX u v) with e | e | e
   ·omega
   ·exfalso
    by_cases hN:sg r n (nnE x y) = 0
    ·have hxy:sg r n x = 1 /\ sg r n y = 1:=by
      rw [aq3,hd1,hN] at hz
      have f1:sg r n y = 0 -> sg r n (nnE x y) = sg r n x * sg r n x:=by
       intro hy;have h1:sg r n (-(y * y * rtE r n)) = 0:=by rw [h.neg,h.mul,h.mul,hy]; simp
       have:=h.zadd (y:=x * x) h1;unfold nnE;rw [show x * x + -(y * y * rtE r n) = -(y * y * rtE r n) + x * x by grind,this,h.mul]
      have f2:sg r n x = 0 -> sg r n (nnE x y) = -(sg r n y * sg r n y):=by
       intro hx;have h1:sg r n (x * x) = 0:=by rw [h.mul,hx]; simp
       have:=h.zadd (y:=-(y * y * rtE r n)) h1;unfold nnE;rw [this,h.neg,h.mul,h.mul,hd1]; simp
      rw [hN] at f1 f2;have c1:=h.cs x;have c2:=h.cs y
      revert hz f1 f2 c1 c2
      generalize sg r n x = a;generalize sg r n y = b;intro hz f1 f2 c1 c2;rcases c1 with rfl | rfl | rfl <;> rcases c2 with rfl | rfl | rfl <;> revert hz f1 f2 <;> decide
     have k1:sg r (n + 1) (mkX (x * u) (x * v)) = 1:=by rw [hsc,hxy.1,hw]; rfl
     have k2:0 <= sg r (n + 1) (mkX 0 y):=by
      rw [aq3,h.zero,hxy.2,hd1]; unfold T.sgn3; simp
     have k3:=hpm _ _ k2 (by omega:0 <= sg r (n + 1) (mkX u v));have k4:=hpadd _ _ k1 k3;rw [amo,ayl] at k4;rw [amo] at e;rw [show x * u + (0 * u + y * v * rtE r n) = x * u + y * v * rtE r n by grind,show x * v + (0 * v + y * u) = x * v + y * u by grind] at k4;omega
    ·have k1:=hzm _ (mkX x (-y)) e;rw [show mkX x (-y) * (mkX x y * mkX u v) = mkX (nnE x y * u) (nnE x y * v) by rw [amo,amo]; unfold nnE; congr 1 <;> grind,hsc,hw] at k1;omega
   ·exact e
  refine ⟨hcs,hone,hneg,?_,hadd⟩;intro z w;rcases hcs w with e | e | e
  ·rcases hcs z with e' | e' | e'
   ·have := hpp (-z) (-w) (by rw [hneg]; omega) (by rw [hneg]; omega);rw [show -z * -w = z * w by grind] at this;rw [this,e,e']; rfl
   ·have:=hzm z w e';rw [show w * z = z * w by grind] at this;rw [this,e']; simp
   ·have := hpp z (-w) e' (by rw [hneg]; omega);rw [show z * -w = -(z * w) by grind,hneg] at this;rw [e,e']; omega
  ·rw [hzm w z e,e]; simp
  ·rcases hcs z with e' | e' | e'
   ·have := hpp (-z) w (by rw [hneg]; omega) e;rw [show -z * w = -(z * w) by grind,hneg] at this;rw [e,e']; omega
   ·have:=hzm z w e';rw [show w * z = z * w by grind] at this;rw [this,e']; simp
   ·rw [hpp z w e' e,e,e']; rfl
theorem anp (q:Rat):af6 q = -1 /\ q < 0 \/ af6 q = 0 /\ q = 0 \/ af6 q = 1 /\ 0 < q:=by
 unfold af6;split
 ·exact .inl ⟨rfl,by assumption⟩
 ·split
  ·exact .inr (.inr ⟨rfl,by assumption⟩)
  ·exact .inr (.inl ⟨rfl,by grind⟩)
theorem a6g {q:Rat} (h:0 < q):af6 q = 1:=by
 rcases anp q with ⟨_,h'⟩ | ⟨_,h'⟩ | ⟨e,_⟩
 ·grind
 ·grind
 ·exact e
theorem a62 {q:Rat} (h:q < 0):af6 q = -1:=by
 rcases anp q with ⟨e,_⟩ | ⟨_,h'⟩ | ⟨_,h'⟩
 ·exact e
 ·grind
 ·grind
theorem ba5 (q:Rat):af6 (-q) = -af6 q:=by
 rcases anp q with ⟨e,h⟩ | ⟨e,h⟩ | ⟨e,h⟩
 ·rw [e,a6g (by grind)]; rfl
 ·rw [h]; rfl
 ·rw [e,a62 (by grind)]
theorem bca (p q:Rat):af6 (p * q) = af6 p * af6 q:=by
 have h0:af6 0 = 0:=rfl;rcases anp p with ⟨e,h⟩ | ⟨e,h⟩ | ⟨e,h⟩ <;> rcases anp q with ⟨e',h'⟩ | ⟨e',h'⟩ | ⟨e',h'⟩
 ·have := Rat.mul_pos (a := -p) (b := -q) (by grind) (by grind);rw [e,e',a6g (by grind)]; rfl
 ·rw [h',Rat.mul_zero,h0]; simp
 ·have := Rat.mul_pos (a := -p) (b := q) (by grind) h';rw [e,e',a62 (by grind)]; rfl
 ·rw [h,Rat.zero_mul,h0]; simp
 ·rw [h,Rat.zero_mul,h0]; simp
 ·rw [h,Rat.zero_mul,h0]; simp
 ·have := Rat.mul_pos (a := p) (b := -q) h (by grind);rw [e,e',a62 (by grind)]; rfl
 ·rw [h',Rat.mul_zero,h0]; simp
 ·rw [e,e',a6g (Rat.mul_pos h h')]; rfl
theorem bck (p q:Rat) (h1:0 <= af6 p) (h2:0 <= af6 q):0 <= af6 (p + q):=by
 rcases anp (p + q) with ⟨e,h⟩ | ⟨e,h⟩ | ⟨e,h⟩
 ·exfalso;rcases anp p with ⟨e1,g1⟩ | ⟨e1,g1⟩ | ⟨e1,g1⟩ <;> rcases anp q with ⟨e2,g2⟩ | ⟨e2,g2⟩ | ⟨e2,g2⟩ <;> first | omega | grind
 ·omega
 ·omega
theorem bku (r:(k:Nat) -> T k):Sg (E r 0) (sg r 0) :=
 ⟨fun q=>T.sgnQ_cases q,rfl,fun q=>ba5 q,fun p q=>bca p q,fun p q=>bck p q⟩
def Pos (r:(k:Nat) -> T k) (n:Nat):Prop:=∀ j,j < n -> 0 <= T.sgn r j (r j)
theorem a1f (r:(k:Nat) -> T k):∀ n, Pos r n -> Sg (E r n) (sg r n)
 | 0,_=>bku r
 | n + 1,h=>be9 (a1f r n (fun j hj=>h j (by omega))) (h n (by omega))
end Go.Lw
namespace Go.Lw
def xA {r:(k:Nat) -> T k} {n:Nat} (x:E r n):AV:=nA (sh n x)
abbrev Pn (r:(k:Nat) -> T k) (n:Nat):Type:=E r n × E r n
def tsX (r:(k:Nat) -> T k) (n:Nat):List (List Rat):=(List.range n).map fun k=>enc k (r k)
def qE {r:(k:Nat) -> T k} {n:Nat} (q:Rat):E r n:=T.ofQ n q
theorem a9p:∀ (n:Nat) (q:Rat), sh n (T.ofQ n q) = sh 0 (q:Rat)
 | 0,q=>rfl
 | n + 1, q=>by
  show (if T.isZ n (T.zero n) = true then sh n (T.ofQ n q) else _) = _;rw [if_pos ((T.isZ_iff n _).2 rfl),a9p n q]
theorem a8i:∀ n:Nat, sh n (T.zero n) = []
 | 0=>rfl
 | n + 1=>by
  show (if T.isZ n (T.zero n) = true then sh n (T.zero n) else _) = _;rw [if_pos ((T.isZ_iff n _).2 rfl),a8i n]
theorem ap2 (r:(k:Nat) -> T k) (n:Nat):(tsX r n).length = n:=by simp [tsX]
theorem a8z {r:(k:Nat) -> T k} {n j:Nat} (h:j < n):(tsX r n).getD j [] = enc j (r j):=by
 unfold tsX;rw [getD_eq_getElem?_getD,getElem?_map,List.getElem?_range h]; rfl
theorem bir {r:(k:Nat) -> T k} {n j:Nat} (h:j < n):aaj (tsX r n) j = r j:=by
 unfold aaj; rw [a8z h,as3]
theorem bd4 {ts:List (List Rat)} {R:Nat} (tw:Tw ts R):ts = tsX (aaj ts) ts.length:=by
 apply List.ext_getElem?;intro j
 by_cases hj:j < ts.length
 ·have h1:=a8z (r:=aaj ts) hj;have h2:=tw.len j hj;rw [getD_eq_getElem?_getD] at h1;rw [getElem?_eq_getElem (show j < (tsX (aaj ts) ts.length).length by rw [ap2]; exact hj)] at h1 ⊢;rw [Option.getD_some] at h1;rw [h1,getElem?_eq_getElem hj];unfold aaj;rw [am2 _ _ h2,getD_eq_getElem?_getD,getElem?_eq_getElem hj]; rfl
 ·rw [getElem?_eq_none (by omega),getElem?_eq_none (by rw [ap2]; omega)]
class Cx (r:(k:Nat) -> T k) (n:Nat) (u k:outParam Nat):Prop where
  ex:∃ R,Tw (tsX r n) R /\ eB R n <= k
  k1:1 <= k
  u3:3 <= u
class Zu (u k:Nat) {r:(k:Nat) -> T k} {n:Nat} (x:E r n) (w v:outParam Nat):Prop where
  nm:Nm n (w * u + v * k) (sh n x)
class Zp (u k:Nat) {r:(k:Nat) -> T k} {n:Nat} (p:Pn r n) (w v:outParam Nat):Prop where
  x:Nm n (w * u + v * k) (sh n p.1)
  y:Nm n (w * u + v * k) (sh n p.2)
class Qz (u:Nat) (q:Rat) (w:outParam Nat):Prop where
  cb:Cb (w * u) [q]
section
variable {r:(k:Nat) -> T k} {n u k:Nat}
theorem Cx.five (c:Cx r n u k):n <= 5:=by obtain ⟨R,tw,_⟩:=c.ex; have:=tw.five; rwa [ap2] at this
theorem Cx.three (c:Cx r n u k):n <= 3:=by obtain ⟨R,tw,_⟩:=c.ex; have:=tw.three; rwa [ap2] at this
theorem a1i (w v w' v' u k:Nat):(w * u + v * k) + (w' * u + v' * k) = (w + w') * u + (v + v') * k:=by
 rw [Nat.add_mul,Nat.add_mul]; omega
theorem Nm.eq {n e f:Nat} {l:List Rat} (h:Nm n e l) (hf:e = f):Nm n f l:=hf ▸ h
theorem Nm.addT {e f:Nat} {x y:T n} (hx:Nm n e (sh n x)) (hy:Nm n f (sh n y)):Nm n (e + f + 1) (sh n (T.add n x y)):=by
 have h:=hx.add hy
 rwa [abk,abk] at h
theorem Nm.subT {e f:Nat} {x y:T n} (hx:Nm n e (sh n x)) (hy:Nm n f (sh n y)):Nm n (e + f + 1) (sh n (T.add n x (T.neg n y))):=by
 have h:=hx.sub hy
 rwa [abk,abk] at h
theorem Nm.negT {e:Nat} {x:T n} (hx:Nm n e (sh n x)):Nm n e (sh n (T.neg n x)):=by
 have h:=hx.neg
 rwa [abk] at h
theorem Nm.mulT {R e f:Nat} (tw:Tw (tsX r n) R) {x y:T n} (hx:Nm n e (sh n x)) (hy:Nm n f (sh n y)):Nm n (e + f + eB R n) (sh n (T.mul r n x y)):=by
 have h:=Nm.mul tw (ap2 r n).symm hx hy
 rwa [abk,abk,T.mul_congr n (fun j hj=>bir hj)] at h
instance Zu.add [c:Cx r n u k] {x y:E r n} {w v w' v':Nat} [hx:Zu u k x w v] [hy:Zu u k y w' v']:Zu u k (x + y) (w + w') (v + v' + 1) :=
  ⟨(Nm.addT hx.nm hy.nm).mono (by rw [a1i,Nat.add_mul _ 1]; have:=c.k1; omega)⟩
instance Zu.sub [c:Cx r n u k] {x y:E r n} {w v w' v':Nat} [hx:Zu u k x w v] [hy:Zu u k y w' v']:Zu u k (x - y) (w + w') (v + v' + 1) :=
  ⟨(Nm.subT hx.nm hy.nm).mono (by rw [a1i,Nat.add_mul _ 1]; have:=c.k1; omega)⟩
instance Zu.neg {x:E r n} {w v:Nat} [hx:Zu u k x w v]:Zu u k (-x) w v:=⟨Nm.negT hx.nm⟩
instance Zu.mul [c:Cx r n u k] {x y:E r n} {w v w' v':Nat} [hx:Zu u k x w v] [hy:Zu u k y w' v']:Zu u k (x * y) (w + w') (v + v' + 1):=by
  obtain ⟨R,tw,hk⟩:=c.ex;exact ⟨(Nm.mulT tw hx.nm hy.nm).mono (by rw [a1i,Nat.add_mul _ 1]; omega)⟩
instance Zu.qE [c:Cx r n u k] {q:Rat} {w:Nat} [h:Qz u q w]:Zu u k (qE q:E r n) w 0:=⟨by
  show Nm n _ (sh n (T.ofQ n q));rw [a9p];exact (Nm.ofQ c.five h.cb).eq (by omega)⟩
theorem Cb.int {e:Nat} {z:Int} (h:z.natAbs <= 2 ^ e):Cb e [(z:Rat)] :=
 ⟨1,z.natAbs,⟨by omega,fun q hq=>⟨z,by rw [List.mem_singleton.1 hq]; exact Rat.mul_one _,le_refl _⟩⟩,Nat.one_le_two_pow,h⟩
theorem Qz.int [c:Cx r n u k] {z:Int} (h:z.natAbs <= 8):Qz u (z:Rat) 1:=⟨Cb.int (le_trans h (show 2 ^ 3 <= _ from aa1 (by have:=c.u3; omega)))⟩
instance Zu.c0 [c:Cx r n u k]:Zu u k (0:E r n) 0 0:=⟨by
  show Nm n _ (sh n (T.ofQ n ((0:Nat):Rat)));rw [show (((0:Nat):Rat)) = 0 from rfl,T.ofQ_zero,a8i];exact ⟨c.five,.inl rfl,Cb.nil.mono (zero_le _)⟩⟩
instance Zu.c1 [c:Cx r n u k]:Zu u k (1:E r n) 1 0:=by
  haveI:Qz u ((1:Nat):Rat) 1:=Qz.int (c:=c) (z:=1) (by decide);exact (inferInstance:Zu u k (Go.Lw.qE ((1:Nat):Rat):E r n) 1 0)
instance Zu.c2 [c:Cx r n u k]:Zu u k (2:E r n) 1 0:=by
  haveI:Qz u ((2:Nat):Rat) 1:=Qz.int (c:=c) (z:=2) (by decide);exact (inferInstance:Zu u k (Go.Lw.qE ((2:Nat):Rat):E r n) 1 0)
instance Zu.c4 [c:Cx r n u k]:Zu u k (4:E r n) 1 0:=by
  haveI:Qz u ((4:Nat):Rat) 1:=Qz.int (c:=c) (z:=4) (by decide);exact (inferInstance:Zu u k (Go.Lw.qE ((4:Nat):Rat):E r n) 1 0)
instance Zu.px {p:Pn r n} {w v:Nat} [h:Zp u k p w v]:Zu u k p.1 w v:=⟨h.x⟩
instance Zu.py {p:Pn r n} {w v:Nat} [h:Zp u k p w v]:Zu u k p.2 w v:=⟨h.y⟩
theorem a48 {w v w' v' u k:Nat} (h:w <= w') (h':v <= v'):w * u + v * k <= w' * u + v' * k:=Nat.add_le_add (mul_le_mul_right _ h) (mul_le_mul_right _ h')
instance Zp.mk' {x y:E r n} {w v w' v':Nat} [hx:Zu u k x w v] [hy:Zu u k y w' v']:Zp u k ((x, y):Pn r n) (max w w') (max v v') :=
  ⟨hx.nm.mono (a48 (Nat.le_max_left ..) (Nat.le_max_left ..)),hy.nm.mono (a48 (Nat.le_max_right ..) (Nat.le_max_right ..))⟩
def brq (p q:Pn r n):Pn r n:=(p.1 + q.1,p.2 + q.2)
def bq6 (p q:Pn r n):Pn r n:=(p.1 - q.1,p.2 - q.2)
def bmf (c:E r n) (p:Pn r n):Pn r n:=(c * p.1,c * p.2)
def brx (p q:Pn r n):E r n:=p.1 * q.1 + p.2 * q.2
def bnk (p q:Pn r n):E r n:=p.1 * q.2 - p.2 * q.1
def bqx (c s:E r n) (p:Pn r n):Pn r n:=(c * p.1 - s * p.2,s * p.1 + c * p.2)
def pQ (x y:Rat):Pn r n:=(qE x,qE y)
def bm2 (p:Pn r n):Pn r n:=(-p.2,p.1)
instance Zp.add [c:Cx r n u k] {p q:Pn r n} {w v w' v':Nat} [hp:Zp u k p w v] [hq:Zp u k q w' v']:Zp u k (brq p q) (w + w') (v + v' + 1) :=
  ⟨(inferInstance:Zu u k (p.1 + q.1) (w + w') (v + v' + 1)).nm,(inferInstance:Zu u k (p.2 + q.2) (w + w') (v + v' + 1)).nm⟩
instance Zp.sub [c:Cx r n u k] {p q:Pn r n} {w v w' v':Nat} [hp:Zp u k p w v] [hq:Zp u k q w' v']:Zp u k (bq6 p q) (w + w') (v + v' + 1) :=
  ⟨(inferInstance:Zu u k (p.1 - q.1) (w + w') (v + v' + 1)).nm,(inferInstance:Zu u k (p.2 - q.2) (w + w') (v + v' + 1)).nm⟩
instance Zp.scale [c:Cx r n u k] {a:E r n} {q:Pn r n} {w v w' v':Nat} [hp:Zu u k a w v] [hq:Zp u k q w' v']:Zp u k (bmf a q) (w + w') (v + v' + 1) :=
  ⟨(inferInstance:Zu u k (a * q.1) (w + w') (v + v' + 1)).nm,(inferInstance:Zu u k (a * q.2) (w + w') (v + v' + 1)).nm⟩
instance Zu.dot [c:Cx r n u k] {p q:Pn r n} {w v w' v':Nat} [hp:Zp u k p w v] [hq:Zp u k q w' v']:Zu u k (brx p q) (w + w' + (w + w')) (v + v' + 1 + (v + v' + 1) + 1) :=
  (inferInstance:Zu u k (p.1 * q.1 + p.2 * q.2) _ _)
instance Zu.cross [c:Cx r n u k] {p q:Pn r n} {w v w' v':Nat} [hp:Zp u k p w v] [hq:Zp u k q w' v']:Zu u k (bnk p q) (w + w' + (w + w')) (v + v' + 1 + (v + v' + 1) + 1) :=
  (inferInstance:Zu u k (p.1 * q.2 - p.2 * q.1) _ _)
instance Zp.turn [c:Cx r n u k] {a b:E r n} {p:Pn r n} {w v w' v' w2 v2:Nat} [ha:Zu u k a w v] [hb:Zu u k b w' v'] [hp:Zp u k p w2 v2] :
    Zp u k (bqx a b p) (w + w2 + (w' + w2)) (v + v2 + 1 + (v' + v2 + 1) + 1) :=
  ⟨(inferInstance:Zu u k (a * p.1 - b * p.2) _ _).nm, by
    have h:=(inferInstance:Zu u k (b * p.1 + a * p.2) _ _).nm;exact h.eq (by rw [Nat.add_comm (w' + w2),Nat.add_comm (v' + v2 + 1)])⟩
instance Zp.ofQ [c:Cx r n u k] {x y:Rat} {w w':Nat} [hx:Qz u x w] [hy:Qz u y w']:Zp u k (pQ x y:Pn r n) (max w w') (max 0 0) :=
  (inferInstance:Zp u k ((qE x,qE y):Pn r n) _ _)
instance Zp.quart {p:Pn r n} {w v:Nat} [hp:Zp u k p w v]:Zp u k (bm2 p) w v:=⟨(inferInstance:Zu u k (-p.2) w v).nm,hp.x⟩
end
end Go.Lw
namespace Go.Lw
theorem aue (rs:List (List Rt)):(llq rs).length = rs.length:=by simp [llq]
abbrev Et (ts:List (List Rat)):Type:=E (aaj ts) ts.length
def dE (ts:List (List Rat)) (a:List Rat):Et ts:=dec ts.length a
def sX {ts:List (List Rat)} (x:Et ts):List Rat:=sh ts.length x
def sgE {ts:List (List Rat)} (x:Et ts):Int:=T.sgn (aaj ts) ts.length x
class Ct (ts:List (List Rat)) (u k:outParam Nat):Prop where
  ex:∃ R,Tw ts R /\ eB R ts.length <= k
  k1:1 <= k
  u3:3 <= u
  ub:u <= 1000000
  kb:k <= 1000000
instance Ct.cx {ts:List (List Rat)} {u k:Nat} [c:Ct ts u k]:Cx (aaj ts) ts.length u k:=by
  obtain ⟨R,tw,h⟩:=c.ex;exact ⟨⟨R,bd4 tw ▸ tw,h⟩,c.k1,c.u3⟩
class Zl (ts:List (List Rat)) (u k:Nat) (a:List Rat) (x:outParam (Et ts)) (w v:outParam Nat):Prop where
  eq:dec ts.length a = x
  nm:Nm ts.length (w * u + v * k) a
section
variable {ts:List (List Rat)} {u k:Nat}
instance Zl.sX {x:Et ts} {w v:Nat} [h:Zu u k x w v]:Zl ts u k (sX x) x w v:=⟨abk _ _,h.nm⟩
instance Zl.q [c:Ct ts u k] {q:Rat} {w:Nat} [h:Qz u q w]:Zl ts u k (sh 0 (q:Rat)) (qE q:Et ts) w 0:=⟨aib _ q, by
  obtain ⟨R,tw,_⟩:=c.ex;exact (Nm.ofQ tw.five h.cb).eq (by omega)⟩
instance Zl.nil [c : Ct ts u k] : Zl ts u k [] (0 : Et ts) 0 0 := ⟨by rw [afa]; exact E.zero_def.symm, by
  obtain ⟨R,tw,_⟩:=c.ex;exact ⟨tw.five,.inl rfl,Cb.nil.mono (zero_le _)⟩⟩
theorem Zl.zu {a:List Rat} {x:Et ts} {w v:Nat} (h:Zl ts u k a x w v):Zu u k x w v:=⟨by
 have h1:=h.nm;have h2:=Cb.sh h1.cb h1.nl;rw [h.eq] at h2;exact ⟨h1.five,aip _ _,h2⟩⟩
theorem Zl.at {a:List Rat} {e:Nat} (h:Nm ts.length e a) (he:e <= u):Zl ts u k a (dE ts a) 1 0:=⟨rfl,h.mono (by omega)⟩
theorem bj1 (c:Ct ts u k) {w v m:Nat} (h:w + v <= m):w * u + v * k <= m * 1000000:=by
 have h1:w * u <= w * 1000000:=mul_le_mul_left _ c.ub;have h2:v * k <= v * 1000000:=mul_le_mul_left _ c.kb;omega
theorem Zl.up (c:Ct ts u k) {a:List Rat} {x:Et ts} {w v m:Nat} (h:Zl ts u k a x w v) (hm:w + v <= m):Nm ts.length (m * 1000000) a:=h.nm.mono (bj1 c hm)
theorem Ct.kk (c:Ct ts u k) {R:Nat} (h:eB R ts.length <= k):kB R ts.length <= 1000000:=le_trans h c.kb
def dotE (x y z t:Et ts):Et ts:=x * z + y * t
def crsE (x y z t:Et ts):Et ts:=x * t - y * z
instance Zu.dotE [c:Ct ts u k] {x y z t:Et ts} {w1 v1 w2 v2 w3 v3 w4 v4:Nat} [Zu u k x w1 v1] [Zu u k y w2 v2] [Zu u k z w3 v3] [Zu u k t w4 v4]:Zu u k (dotE x y z t) (w1 + w3 + (w2 + w4)) (v1 + v3 + 1 + (v2 + v4 + 1) + 1) :=
  (inferInstance:Zu u k (x * z + y * t) _ _)
instance Zu.crsE [c:Ct ts u k] {x y z t:Et ts} {w1 v1 w2 v2 w3 v3 w4 v4:Nat} [Zu u k x w1 v1] [Zu u k y w2 v2] [Zu u k z w3 v3] [Zu u k t w4 v4]:Zu u k (crsE x y z t) (w1 + w4 + (w2 + w3)) (v1 + v4 + 1 + (v2 + v3 + 1) + 1) :=
  (inferInstance:Zu u k (x * t - y * z) _ _)
end
end Go.Lw
namespace Go.Lw
def ank (xs:List Int):List Int:=xs.mergeSort (fun a b=>decide (a <= b))
theorem asj (xs:List Int):(ank xs).Perm xs:=List.mergeSort_perm _ _
theorem a3w (xs:List Int):(ank xs).Pairwise (· <= ·):=by
 have h:=List.pairwise_mergeSort (le:=fun a b:Int=>decide (a <= b)) (fun a b c h1 h2=>by simp only [decide_eq_true_eq] at *; omega) (fun a b=>by simp only [or_eq_true,decide_eq_true_eq]; omega) xs;exact h.imp (fun h=>of_decide_eq_true h)
theorem bbu {xs ys:List Int} (hp:ys.Perm xs) (hs:ys.Pairwise (· <= ·)):ys = ank xs :=
 List.Perm.eq_of_pairwise (le:=fun a b:Int=>a <= b) (fun a b _ _ h1 h2=>by omega) hs (a3w xs) (hp.trans (asj xs).symm)
theorem a41 (xs:List Int):(ank xs).length = xs.length:=(asj xs).length_eq
theorem axi {xs:List Int} {b:Int}:b ∈ ank xs ↔ b ∈ xs:=(asj xs).mem_iff
theorem aqf (e:Nat) (l:List Nat):aex (e :: l) = if e ≠ 0 then e else aex l:=rfl
theorem aou {α:Type} {f:α -> Nat} {L:List α} (h:∀ x ∈ L, f x = 0):aex (L.map f) = 0:=by
 induction L with
 | nil=>rfl
 | cons x L ih =>
  rw [map_cons,aqf,if_neg (by rw [h x (mem_cons_self ..)]; simp)];exact ih (fun y hy=>h y (mem_cons_of_mem _ hy))
def anc (g:Gr) (j:Jt):Int:=if g.bodies.contains j.a = true then (if g.bodies.contains j.b = true then -1 else j.b) else j.a
def arf (l:Li) (g:Gr):List Int:=g.joints.map (fun j=>anc g (l.joints.getD j.toNat default))
theorem amx (l:Li) (g:Gr):(arf l g).length = g.joints.length:=by unfold arf; rw [length_map]
theorem bfe {l:Li} (hl:liE l = 0) {g:Gr} (hg:GrOk l g):∀ b ∈ arf l g, b < l.bodies.length:=by
 intro b hb;unfold arf at hb;obtain ⟨z,hz,rfl⟩:=List.mem_map.1 hb;obtain ⟨z0,z1⟩:=hg.j z hz;obtain ⟨j,hj⟩:=acj (l:=l.joints) (i:=z.toNat) (by omega);rw [aag hj];obtain ⟨i1,i2,_⟩:=ahj hl hj;have i1:=afy i1;have i2:=afy i2;unfold anc;split
 ·split
  ·omega
  ·omega
 ·omega
def ndL (l:Li) (g:Gr) (own:Bool):List Int:=arf l g ++ (if own = true then g.bodies else [])
theorem bel {l:Li} (hl:liE l = 0) {g:Gr} (hg:GrOk l g) {own:Bool}:∀ b ∈ ndL l g own, b < l.bodies.length:=by
 intro b hb;rcases List.mem_append.1 hb with hb | hb
 ·exact bfe hl hg b hb
 ·split at hb
  ·exact (hg.b b hb).2
  ·cases hb
theorem bjd {l:Li} {g:Gr} (hg:GrOk l g) {own:Bool}:(ndL l g own).length <= 5:=by
 unfold ndL;have h1:=hg.lb;have h2:=hg.lj;rw [length_append,amx];split
 ·omega
 ·simp only [length_nil]; omega
def ndE (a:As) (b:Int):Nat:=if b < 0 then 0 else acb a.rs (a.bs.getD b.toNat default).l
def gAt (l:Li) (k:Int):Gr:=(adl l).getD k.toNat default
def a2c (l:Li) (k:Int) (a:As) (own:Bool):Nat :=
  if adn l ≠ 0 then adn l else if k < 0 \/ ((adl l).length:Int) <= k then 9 else if a.bs.length ≠ l.bodies.length then 10 else if ae1 a.rs ≠ 0 then ae1 a.rs
  else aex ((ank (ndL l (gAt l k) own)).map (ndE a))
def dyE (l:Li) (k:Int) (a:As) (own:Bool):Nat:=if liE l ≠ 0 then liE l else a2c l k a own
section
variable {l:Li} {k:Int} {a:As} {own:Bool}
theorem bmi (h:liE l = 0):dyE l k a own = a2c l k a own:=by unfold dyE; rw [if_neg (by omega)]
theorem brd {e:Nat} (he:(if liE l = 0 then adn l else liE l) = e) (h:e ≠ 0):dyE l k a own = e:=by
 by_cases h1:liE l = 0
 ·rw [if_pos h1] at he;rw [bmi h1]; unfold a2c; rw [if_pos (by omega)]; exact he
 ·rw [if_neg h1] at he;unfold dyE; rw [if_pos h1]; exact he
theorem bp8 (h:(if liE l = 0 then adn l else liE l) = 0):liE l = 0 /\ adn l = 0:=by
 by_cases h1:liE l = 0
 ·rw [if_pos h1] at h; exact ⟨h1,h⟩
 ·rw [if_neg h1] at h; exact absurd h h1
theorem bre (hs:adn l = 0) (hk:k < 0 \/ ((adl l).length:Int) <= k):a2c l k a own = 9:=by unfold a2c; rw [if_neg (by omega),if_pos hk]
theorem br1 (hs:adn l = 0) (hk:¬ (k < 0 \/ ((adl l).length:Int) <= k)) (hb:a.bs.length ≠ l.bodies.length):a2c l k a own = 10:=by
 unfold a2c; rw [if_neg (by omega),if_neg hk,if_pos hb]
theorem brk (hs:adn l = 0) (hk:¬ (k < 0 \/ ((adl l).length:Int) <= k)) (hb:a.bs.length = l.bodies.length) (hc:ae1 a.rs ≠ 0):a2c l k a own = ae1 a.rs:=by
 unfold a2c; rw [if_neg (by omega),if_neg hk,if_neg (by omega),if_pos hc]
theorem brc (hs:adn l = 0) (hk:¬ (k < 0 \/ ((adl l).length:Int) <= k)) (hb:a.bs.length = l.bodies.length) (hc:ae1 a.rs = 0):a2c l k a own = aex ((ank (ndL l (gAt l k) own)).map (ndE a)):=by
 unfold a2c; rw [if_neg (by omega),if_neg hk,if_neg (by omega),if_neg (by omega)]
end
structure DyOk (l:Li) (k:Int) (a:As) (own:Bool) (i:Nat) (g:Gr):Prop where
  li:liE l = 0
  sp:adn l = 0
  hk:k = (i:Int)
  hg:(adl l)[i]? = some g
  ok:GrOk l g
  dy:DyK l g
  ln:a.bs.length = l.bodies.length
  chk:ae1 a.rs = 0
  nd:∀ b ∈ ndL l g own,ndE a b = 0
theorem bhc {l:Li} {k:Int} {a:As} {own:Bool} (h:dyE l k a own = 0):∃ i g, DyOk l k a own i g:=by
 unfold dyE at h;split at h
 ·rename_i h1; exact absurd h h1
 ·rename_i h1;have h1:=Decidable.not_not.1 h1;unfold a2c at h;split at h
  ·rename_i h2; exact absurd h h2
  ·rename_i h2;split at h
   ·cases h
   ·rename_i h3;split at h
    ·cases h
    ·rename_i h4;split at h
     ·rename_i h5; exact absurd h h5
     ·rename_i h5;obtain ⟨g,hg⟩:=acj (l:=adl l) (i:=k.toNat) (by omega);have e:gAt l k = g:=aag hg;rw [e] at h;obtain ⟨d1,d2⟩:=av1 h1 (mem_of_getElem? hg);refine ⟨k.toNat,g,h1,by omega,by omega,hg,d2,d1,by omega,by omega,fun b hb=>?_⟩;exact ae7 h _ (List.mem_map.2 ⟨b,axi.2 hb,rfl⟩)
theorem DyOk.body {l:Li} {k:Int} {a:As} {own:Bool} {i:Nat} {g:Gr} (h:DyOk l k a own i g) {b:Int} (hb:b ∈ ndL l g own) (h0:0 <= b):∃ p, a.bs[b.toNat]? = some p /\ acb a.rs p.l = 0:=by
 have h1:=bel h.li h.ok b hb;obtain ⟨p,hp⟩:=acj (l:=a.bs) (i:=b.toNat) (by have:=h.ln; omega);have h2:=h.nd b hb;unfold ndE at h2;rw [if_neg (by omega),aag hp] at h2;exact ⟨p,hp,h2⟩
theorem bpp (n:Nat):4000 <= lm n:=by have:=ard n; omega
theorem bp0 {k:Int} {n:Nat} (h:cond (aaa .lss k 0) true (aaa .geq k (n:Int)) = true):k < 0 \/ (n:Int) <= k:=by
 by_cases h1:k < 0
 ·exact .inl h1
 ·refine .inr ?_;have h2:aaa .lss k 0 = false:=decide_eq_false h1;rw [h2] at h;exact of_decide_eq_true (p:=k >= n) h
theorem bpl {k:Int} {n:Nat} (h:cond (aaa .lss k 0) true (aaa .geq k (n:Int)) = false):¬ (k < 0 \/ (n:Int) <= k):=by
 intro h1
 by_cases h2:k < 0
 ·rw [show aaa .lss k 0 = true from decide_eq_true h2] at h; cases h
 ·rw [show aaa .lss k 0 = false from decide_eq_false h2] at h;have h3:¬ (k >= n):=of_decide_eq_false h;omega
theorem bnh {k:Int} {n:Nat} (h:¬ (k < 0 \/ (n:Int) <= k)):∃ i:Nat,k = i /\ i < n:=⟨k.toNat,by omega,by omega⟩
theorem bnq {a b:Nat} (h:aaa .neq (a:Int) (b:Int) = true):a ≠ b:=by
 have h1:((a:Int) != (b:Int)) = true:=h;have h2:=bne_iff_ne.1 h1;omega
theorem bj7 {a b:Nat} (h:aaa .neq (a:Int) (b:Int) = false):a = b:=by
 have h1:((a:Int) != (b:Int)) = false:=h;have h2:(a:Int) = b:=by simpa only [bne_eq_false_iff_eq] using h1
 omega
end Go.Lw
namespace Go.Lw
def mkQ (l:Li) (body pt:Int):Rat × Rat:=(((aeo l body).getD pt.toNat default).x.q,((aeo l body).getD pt.toNat default).y.q)
abbrev qC (p:Rat × Rat):List AV:=[bl (rt p.1).neg,ws (rt p.1).num,ws (rt p.1).den,bl (rt p.2).neg,ws (rt p.2).num,ws (rt p.2).den]
abbrev qP (p:Rat × Rat):AV:=.agg (qC p)
structure Sm (e:Nat) (p:Rat × Rat):Prop where
  x:Qb e p.1
  y:Qb e p.2
structure MkP (l:Li) (body pt:Int) (n k:Nat) (bd:Bd) (m:Mk):Prop where
  hn:body = n
  hk:pt = k
  gbd:l.bodies[n]? = some bd
  gm:bd.pts[k]? = some m
  ex:m.x = rt (mkQ l body pt).1
  ey:m.y = rt (mkQ l body pt).2
  sm:Sm 1000 (mkQ l body pt)
theorem bh7 {l:Li} (hl:l.ok) (hli:liE l = 0) {body pt:Int} (h1:inB body l.bodies.length = true) (h2:inB pt (aeo l body).length = true):∃ n k bd m, MkP l body pt n k bd m:=by
 obtain ⟨bd,g1,g2,g3,g4⟩:=a0c h1;rw [g2] at h2;obtain ⟨m,g5,g6,g7,g8⟩:=a5q h2;have hv:=ba1 hli g1 g5;have ho:=(hl.bodies bd g3).pts m g7;have e:mkQ l body pt = (m.x.q,m.y.q):=by unfold mkQ; rw [g2,g6]
 exact ⟨body.toNat,pt.toNat,bd,m,by omega,by omega,g1,g5,by rw [e]; exact Rt.eq_rt ho.x hv.1,by rw [e]; exact Rt.eq_rt ho.y hv.2,by rw [e]; exact ⟨ho.qx.mono (by omega),ho.qy.mono (by omega)⟩⟩
theorem ara {l:Li} (hl:l.ok) (hli:liE l = 0) {body pt:Int} (h1:inB body l.bodies.length = true) (h2:inB pt (aeo l body).length = true):Sm 1000 (mkQ l body pt):=by
 obtain ⟨n,k,bd,m,h⟩:=bh7 hl hli h1 h2;exact h.sm
def plE (l:Li) (a:As) (body pt:Int):Et (llq a.rs) × Et (llq a.rs):=bmh l a body pt
structure PlP (l:Li) (a:As) (body pt:Int) (n k:Nat) (bd:Bd) (m:Mk) (b:Pl):Prop where
  mp:MkP l body pt n k bd m
  gb:a.bs[n]? = some b
  eq:bmh l a body pt = atP (llq a.rs) b m
  av:b.av = Pq.av ⟨lq b.c,lq b.s,lq b.x,lq b.y⟩
  ok:Pq.ok (llq a.rs).length 4000 ⟨lq b.c,lq b.s,lq b.x,lq b.y⟩
def Pd (a:As) (body:Int):Prop:=∃ p,a.bs[body.toNat]? = some p /\ acb a.rs p.l = 0
theorem bjh {l:Li} (hl:l.ok) (hli:liE l = 0) {a:As} (al:AL a) (hc:ae1 a.rs = 0) {body pt:Int} (h1:inB body l.bodies.length = true) (h2:inB pt (aeo l body).length = true) (hb:Pd a body):∃ n k bd m b, PlP l a body pt n k bd m b:=by
 obtain ⟨n,k,bd,m,h⟩:=bh7 hl hli h1 h2;obtain ⟨b,gb,hb⟩:=hb;obtain ⟨tw,_⟩:=ac5 al.tr hc;have h5:a.rs.length <= 5:=by have:=tw.five; rwa [aue] at this
 have h9:=bbi hb (al.nr b (mem_of_getElem? gb)) h5;have e:body.toNat = n:=by have:=h.hn; omega
 have e2:pt.toNat = k:=by have:=h.hk; omega
 rw [e] at gb;obtain ⟨bd',g1,g2,_,_⟩:=a0c h1;rw [e] at g1;have:bd' = bd:=Option.some.inj (g1.symm.trans h.gbd);subst this;refine ⟨n,k,bd',m,b,h,gb,?_,h9.1,by rw [aue]; exact h9.2⟩;unfold bmh;rw [e,e2,aag gb,g2,aag h.gm]
theorem anx {l:Li} (hl:l.ok) (hli:liE l = 0) {a:As} (al:AL a) (hc:ae1 a.rs = 0) {body pt:Int} (h1:inB body l.bodies.length = true) (h2:inB pt (aeo l body).length = true) (hb:Pd a body) :
  Zu 4000 300000 (plE l a body pt).1 40 40 /\ Zu 4000 300000 (plE l a body pt).2 40 40:=by
 obtain ⟨n,k,bd,m,b,hp⟩:=bjh hl hli al hc h1 h2 hb;obtain ⟨tw,_⟩:=ac5 al.tr hc;have kb:=kb4 tw.three;have qx:Qb 4000 m.x.q:=by rw [hp.mp.ex,ahn]; exact hp.mp.sm.x.mono (by omega)
 have qy:Qb 4000 m.y.q:=by rw [hp.mp.ey,ahn]; exact hp.mp.sm.y.mono (by omega)
 have h:=bo4 tw hp.ok qx qy;unfold plE;rw [hp.eq];exact ⟨⟨h.1.mono (by omega)⟩,⟨h.2.mono (by omega)⟩⟩
theorem ars {rs:List (List Rt)} {r:Nat} (h:TR rs r) (hc:ae1 rs = 0):acm (llq rs) = .agg [.lst 1 (rs.map nR)]:=(ac5 h hc).2.symm
theorem bk6 {x y:Option Blk} {k:Nat} {z:Blk} (h:lk [(1000, x), (1001, y)] k = some z):1000 <= k:=by
 rw [aab] at h;split at h
 ·omega
 ·rw [aab] at h;split at h
  ·omega
  ·cases h
theorem bqe {s:AS} {k k':Nat} {x y:Blk} (h:lk s.hp k = some x) (h':lk s.hp k' = some y):∀ q z, lk [(k, some x), (k', some y)] q = some z -> lk s.hp q = some z:=by
 intro q z hz;rw [aab] at hz;split at hz
 ·rename_i e; cases hz; rw [e]; exact h
 ·rw [aab] at hz;split at hz
  ·rename_i e; cases hz; rw [e]; exact h'
  ·cases hz
def am7 (p q:Rat × Rat):Rat × Rat:=(p.1 - q.1,p.2 - q.2)
def anv (p q:Rat × Rat):Rat:=p.1 * q.1 + p.2 * q.2
def a7x (p q:Rat × Rat):Rat:=p.1 * q.2 - p.2 * q.1
theorem Sm.sub {e f:Nat} {p q:Rat × Rat} (hp:Sm e p) (hq:Sm f q):Sm (e + f + 1) (am7 p q):=⟨hp.x.sub hq.x,hp.y.sub hq.y⟩
theorem Sm.dot {e f:Nat} {p q:Rat × Rat} (hp:Sm e p) (hq:Sm f q):Qb (e + f + (e + f) + 1) (anv p q):=(hp.x.mul hq.x).add (hp.y.mul hq.y)
theorem Sm.cross {e f:Nat} {p q:Rat × Rat} (hp:Sm e p) (hq:Sm f q):Qb (e + f + (e + f) + 1) (a7x p q):=(hp.x.mul hq.y).sub (hp.y.mul hq.x)
theorem Sm.mono {e f:Nat} {p:Rat × Rat} (hp:Sm e p) (h:e <= f):Sm f p:=⟨hp.x.mono h,hp.y.mono h⟩
theorem a47 {q:Rat} {e w:Nat} (h:Qb e q) (he:e <= w * 4000):Qz 4000 q w:=⟨(Cb.one h).mono he⟩
end Go.Lw
namespace Go.Lw
def aca (l:Li) (j:Jt) (b:Int):Rat × Rat:=if j.a = b then mkQ l b j.point else mkQ l b j.on
def aen (l:Li) (a:As) (j:Jt) (b:Int):Et (llq a.rs) × Et (llq a.rs):=if j.a = b then plE l a j.b j.on else plE l a j.a j.point
structure PinP (l:Li) (a:As) (j:Jt) (b:Int):Prop where
  tie:(j.a = b /\ Pd a j.b) \/ (j.a ≠ b /\ j.b = b /\ Pd a j.a)
theorem PinP.or {l:Li} {a:As} {j:Jt} {b:Int} (h:PinP l a j b):j.a = b \/ j.b = b:=by
 rcases h.tie with h9 | h9
 ·exact .inl h9.1
 ·exact .inr h9.2.1
theorem aja {l:Li} (hl:l.ok) (hli:liE l = 0) {a:As} (al:AL a) (hc:ae1 a.rs = 0) {i:Nat} {j:Jt} (hj:l.joints[i]? = some j) {b:Int} (h:PinP l a j b) :
  Zu 4000 300000 (aen l a j b).1 40 40 /\ Zu 4000 300000 (aen l a j b).2 40 40:=by
 obtain ⟨i1,i2,i3,i4,_⟩:=ahj hli hj;unfold aen;rcases h.tie with ⟨e,hb⟩ | ⟨e,e2,hb⟩
 ·rw [if_pos e]; exact anx hl hli al hc i2 i4 hb
 ·rw [if_neg e]; exact anx hl hli al hc i1 i3 hb
theorem agk {l:Li} (hl:l.ok) (hli:liE l = 0) {i:Nat} {j:Jt} (hj:l.joints[i]? = some j) {b:Int} (h:j.a = b \/ j.b = b):Sm 1000 (aca l j b):=by
 obtain ⟨i1,i2,i3,i4,_⟩:=ahj hli hj;unfold aca
 by_cases e:j.a = b
 ·rw [if_pos e]; subst e; exact ara hl hli i1 i3
 ·rw [if_neg e];rcases h with h | h
  ·exact absurd h e
  ·subst h; exact ara hl hli i2 i4
theorem bpj {bs:List Int} {b:Int} (h:b ∈ bs):bs.contains b = true:=List.contains_iff_mem.2 h
theorem bns {bs:List Int} {b:Int} (h:b ∉ bs):bs.contains b = false:=by
 cases hc:bs.contains b with
 | false=>rfl
 | true=>exact absurd (List.contains_iff_mem.1 hc) h
theorem DyOk.ancs {l:Li} {k:Int} {a:As} {own:Bool} {n:Nat} {g:Gr} (h:DyOk l k a own n g) {z b:Int} {j:Jt} (hz:z ∈ g.joints) (hj:l.joints[z.toNat]? = some j) (hb:anc g j = b) (h0:0 <= b):Pd a b:=by
 refine h.body ?_ h0;unfold ndL arf;refine List.mem_append_left _ (List.mem_map.2 ⟨z,hz,?_⟩);rw [aag hj]; exact hb
theorem DyOk.pin {l:Li} {k:Int} {a:As} {own:Bool} {n:Nat} {g:Gr} (h:DyOk l k a own n g) {kd z b:Int} {j:Jt} {bs:List Int} (hbs:g.bodies = bs) (t:TieO l kd bs z b j) (hz:z ∈ g.joints) (hb:b ∈ bs):PinP l a j b:=by
 subst hbs;obtain ⟨i1,i2,_⟩:=ahj h.li t.hj;have i1:=afy i1;have i2:=afy i2;rcases t.tie with ⟨e,hn⟩ | ⟨e,hn⟩
 ·refine ⟨.inl ⟨e, h.ancs hz t.hj ?_ i2.1⟩⟩;unfold anc;rw [if_pos (bpj (e ▸ hb)),if_neg (by rw [bns hn]; simp)]
 ·refine ⟨.inr ⟨fun e2=>hn (e2 ▸ hb), e, h.ancs hz t.hj ?_ i1.1⟩⟩;unfold anc;rw [if_neg (by rw [bns hn]; simp)]
theorem DyOk.own {l:Li} {k:Int} {a:As} {n:Nat} {g:Gr} (h:DyOk l k a true n g) {b:Int} (hb:b ∈ g.bodies):Pd a b:=by
 refine h.body ?_ (h.ok.b b hb).1;unfold ndL;rw [if_pos rfl];exact List.mem_append_right _ hb
structure RrrP (l:Li) (a:As) (g:Gr) (i k z0 z1 z2:Int) (j0 j1 j2:Jt):Prop where
  eq:g = ⟨1,[i,k],[z0,z1,z2],0⟩
  h0:l.joints[z0.toNat]? = some j0
  h1:l.joints[z1.toNat]? = some j1
  h2:l.joints[z2.toNat]? = some j2
  p0:PinP l a j0 i
  p1:PinP l a j1 k
  t1:j2.a = i \/ j2.b = i
  t2:j2.a = k \/ j2.b = k
structure SlP (l:Li) (a:As) (g:Gr) (kd i z0 z1:Int) (j0 j:Jt):Prop where
  eq:g = ⟨kd,[i],[z0,z1],0⟩
  h0:l.joints[z0.toNat]? = some j0
  h1:l.joints[z1.toNat]? = some j
  p0:PinP l a j0 i
  p1:PinP l a j i
  hk:j.kind ≠ 0
theorem DyOk.rrr {l:Li} {k:Int} {a:As} {own:Bool} {n:Nat} {g:Gr} (h:DyOk l k a own n g) (hk:g.kind = 1):∃ i k z0 z1 z2 j0 j1 j2, RrrP l a g i k z0 z1 z2 j0 j1 j2:=by
 have hd:=h.dy;cases hd with
 | drv _ _ _ _=>exact absurd hk (by simp)
 | pr _ _ _=>exact absurd hk (by simp)
 | rp _ _ _=>exact absurd hk (by simp)
 | @rrr i k z0 z1 z2 j0 j1 j2 ne t0 t1 h0 h2 kd tie =>
  refine ⟨i,k,z0,z1,z2,j0,j1,j2,rfl,t0.hj,t1.hj,h2,h.pin rfl t0 (by simp) (by simp),h.pin rfl t1 (by simp) (by simp),?_,?_⟩
  ·rcases tie with h9 | h9
   ·exact .inl h9.1
   ·exact .inr h9.1
  ·rcases tie with h9 | h9
   ·exact .inr h9.2
   ·exact .inl h9.2
theorem DyOk.pr {l:Li} {k:Int} {a:As} {own:Bool} {n:Nat} {g:Gr} (h:DyOk l k a own n g) (hk:g.kind = 2):∃ i z0 z1 j0 j, SlP l a g 2 i z0 z1 j0 j /\ j.a = i /\ Pd a j.b:=by
 have hd:=h.dy;cases hd with
 | drv _ _ _ _=>exact absurd hk (by simp)
 | rrr _ _ _ _ _ _ _=>exact absurd hk (by simp)
 | rp _ _ _=>exact absurd hk (by simp)
 | @pr i z0 z1 j0 j1 t0 t1 ha =>
  have p1:PinP l a j1 i:=h.pin rfl t1 (by simp) (by simp);refine ⟨i,z0,z1,j0,j1,⟨rfl,t0.hj,t1.hj,h.pin rfl t0 (by simp) (by simp),p1,by rw [t1.kd]; decide⟩,ha,?_⟩;rcases p1.tie with h9 | h9
  ·exact h9.2
  ·exact absurd ha h9.1
theorem DyOk.rp {l:Li} {k:Int} {a:As} {own:Bool} {n:Nat} {g:Gr} (h:DyOk l k a own n g) (h0:g.kind ≠ 0) (h1:g.kind ≠ 1) (h2:g.kind ≠ 2):∃ i z0 z1 j0 j, SlP l a g 3 i z0 z1 j0 j /\ j.a ≠ i /\ j.b = i /\ Pd a j.a:=by
 have hd:=h.dy;cases hd with
 | drv _ _ _ _=>exact absurd rfl h0
 | rrr _ _ _ _ _ _ _=>exact absurd rfl h1
 | pr _ _ _=>exact absurd rfl h2
 | @rp i z0 z1 j0 j1 t0 t1 ha =>
  have p1:PinP l a j1 i:=h.pin rfl t1 (by simp) (by simp);refine ⟨i,z0,z1,j0,j1,⟨rfl,t0.hj,t1.hj,h.pin rfl t0 (by simp) (by simp),p1,by rw [t1.kd]; decide⟩,ha,?_⟩;rcases p1.tie with h9 | h9
  ·exact absurd h9.1 ha
  ·exact ⟨h9.2.1,h9.2.2⟩
def sqQ (c p:Rat × Rat):Rat:=anv (am7 c p) (am7 c p)
theorem brb {e f:Nat} {c p:Rat × Rat} (hc:Sm e c) (hp:Sm f p):Qb (e + f + 1 + (e + f + 1) + (e + f + 1 + (e + f + 1)) + 1) (sqQ c p):=(hc.sub hp).dot (hc.sub hp)
def jAt (l:Li) (g:Gr) (n:Nat):Jt:=l.joints.getD (g.joints.getD n 0).toNat default
def bAt (g:Gr) (n:Nat):Int:=g.bodies.getD n 0
section
variable (l:Li) (a:As)
def rpV (i:Int) (j:Jt):Rat × Rat:=am7 (mkQ l i j.to) (mkQ l i j.on)
def rpH (i:Int) (j0 j:Jt):Rat:=a7x (rpV l i j) (am7 (mkQ l i j.on) (aca l j0 i))
def rpN (i:Int) (j:Jt):Rat:=anv (rpV l i j) (rpV l i j)
def sbE {ts:List (List Rat)} (p q:Et ts × Et ts):Et ts × Et ts:=(p.1 - q.1,p.2 - q.2)
def bn4 {ts:List (List Rat)} (p q:Et ts × Et ts):Et ts:=dotE p.1 p.2 q.1 q.2
def brl {ts:List (List Rat)} (p q:Et ts × Et ts):Et ts:=crsE p.1 p.2 q.1 q.2
def rpW (i:Int) (j0 j:Jt):Et (llq a.rs) × Et (llq a.rs):=sbE (plE l a j.a j.point) (aen l a j0 i)
def rpD (i:Int) (j0 j:Jt):Et (llq a.rs):=bn4 (rpW l a i j0 j) (rpW l a i j0 j)
end
section
variable {l:Li} {a:As} {g:Gr}
theorem RrrP.at {i k z0 z1 z2:Int} {j0 j1 j2:Jt} (h:RrrP l a g i k z0 z1 z2 j0 j1 j2):jAt l g 0 = j0 /\ jAt l g 1 = j1 /\ jAt l g 2 = j2 /\ bAt g 0 = i /\ bAt g 1 = k /\ g.kind = 1:=by
 rw [h.eq];exact ⟨aag h.h0,aag h.h1,aag h.h2,rfl,rfl,rfl⟩
theorem SlP.at {kd i z0 z1:Int} {j0 j:Jt} (h:SlP l a g kd i z0 z1 j0 j):jAt l g 0 = j0 /\ jAt l g 1 = j /\ bAt g 0 = i /\ g.kind = kd:=by
 rw [h.eq];exact ⟨aag h.h0,aag h.h1,rfl,rfl⟩
end
end Go.Lw
namespace Go.Lw
section
variable {ts:List (List Rat)}
def d2E (p q:Et ts × Et ts):Et ts:=bn4 (sbE p q) (sbE p q)
theorem brf (q:Rat):sgE (qE q:Et ts) = af6 q:=T.sgn_ofQ _ _ q
theorem azz (x:Rat):0 <= x * x:=by
 rcases (Rat.le_total:0 <= x \/ x <= 0) with h | h
 ·exact Rat.mul_nonneg h h
 ·have h1 : 0 <= -x := by grind
  have h2:=Rat.mul_nonneg h1 h1;grind
theorem bgn (p q:Rat × Rat):0 <= sqQ p q:=by
 unfold sqQ anv am7;have h1:=azz (p.1 - q.1);have h2:=azz (p.2 - q.2);dsimp only;grind
theorem bgm (p q:Rat × Rat):0 <= sgE (qE (sqQ p q):Et ts):=by
 rw [brf];have h:=bgn p q;unfold af6;split
 ·grind
 ·split <;> omega
def ame (p:Et ts × Et ts) (r:Et ts) (q:Et ts × Et ts) (s:Et ts):Et ts:=qE 4 * (r * d2E p q) - ((r + d2E p q) - s) * ((r + d2E p q) - s)
end
section
variable {l:Li} {a:As} {g:Gr}
end
end Go.Lw
namespace Go.Lw
theorem DyOk.ne {l:Li} {k:Int} {a:As} {own:Bool} {n:Nat} {i k2 z0 z1 z2:Int} (h:DyOk l k a own n ⟨1, [i, k2], [z0, z1, z2], 0⟩):i ≠ k2:=by
 have hd:=h.dy;generalize hg:(⟨1,[i,k2],[z0,z1,z2],0⟩:Gr) = g at hd;cases hd with
 | drv _ _ _ _=>simp at hg
 | pr _ _ _=>simp at hg
 | rp _ _ _=>simp at hg
 | rrr ne _ _ _ _ _ _=>simp at hg; obtain ⟨⟨rfl,rfl⟩,_⟩:=hg; exact ne
def bec (a:As):Bool:=a.bs.all (fun b=>af8 a.rs b.l) && (decide (a.bs.length <= 20) && af8 a.rs [] && decide (a.rs.length <= 1 \/ 5 < a.rs.length))
theorem bni {a:As} (h:bec a = true) (ha:a.ok):AL a:=by
 unfold bec at h;simp only [and_eq_true,decide_eq_true_eq,all_eq_true] at h;obtain ⟨h1,⟨h2,h3⟩,_⟩:=h;have hlt:=a11 h3 ha.rs a61;exact ⟨hlt.tr,fun b hb=>(a11 (h1 b hb) ha.rs (ha.bs b hb)).nr,hlt.ll,h2⟩
theorem bh2 {a:As} (h:a.bs.all (fun b=>af8 a.rs b.l) = true) :
  cond (cond (aaa .leq (a.bs.length:Int) 20) (af8 a.rs []) false) (cond (aaa .leq (a.rs.length:Int) 1) true (aaa .gtr (a.rs.length:Int) 5)) false = bec a:=by
 have e1:=a5z (n:=a.bs.length) (k:=20);have e2:=a5z (n:=a.rs.length) (k:=1);have e3:=a4y (n:=a.rs.length) (k:=5);unfold bec;rw [h,Bool.true_and];rw [show aaa .leq (a.bs.length:Int) 20 = decide (a.bs.length <= 20) from e1,show aaa .leq (a.rs.length:Int) 1 = decide (a.rs.length <= 1) from e2,show aaa .gtr (a.rs.length:Int) 5 = decide (5 < a.rs.length) from e3];cases af8 a.rs [] <;> by_cases c1:a.bs.length <= 20 <;> by_cases c2:a.rs.length <= 1 <;> by_cases c3:5 < a.rs.length <;> simp [c1,c2,c3]
end Go.Lw
namespace Go.Lw
structure Bulk {H:Type} (bk:DataW H -> Nat) (bka:List (DataW H) -> Nat):Prop where
  one:∀ d,1 <= bk d
  nil:bka [] = 0
  cons:∀ d l,bka (d :: l) = bk d + bka l
  slice:∀ e s,bka e + 1 <= bk (.slice e s)
  agg:∀ l,bka l <= bk (.agg l)
section
variable {P:Program} {W:World} {H:Type} {enc:TypeId × Value -> H} {bk:DataW H -> Nat} {bka:List (DataW H) -> Nat}
theorem Bulk.pick (B:Bulk bk bka) {α:Type} {m:α -> Nat}:∀ {l:List α} {xs:List (DataW H)}, l.length <= xs.length -> (∀ (i:Nat) (a:α), l[i]? = some a -> ∃ x, xs[i]? = some x /\ m a <= bk x) -> (l.map m).sum <= bka xs
 | [],xs,_,_=>by simp
 | a :: l,[],hl,_=>by simp at hl
 | a :: l, x :: xs, hl, h=>by
  obtain ⟨y,hy,h1⟩:=h 0 a rfl;cases hy;have h2:=B.pick (l:=l) (xs:=xs) (by simpa using hl) (fun i b hb=>h (i + 1) b hb);rw [B.cons,map_cons,List.sum_cons];omega
def avu (P:Program) (W:World) (enc:TypeId × Value -> H) (bk:DataW H -> Nat) (t:TypeId) {α:Type} (f:α -> AV) (p:α -> Prop) (m:α -> Nat):Prop :=
  ∀ (sp:Nat -> Bool) (fuel:Nat) (cs:List Value) (x:DataW H × List MemPlace),DataW.trod enc P W 0 sp true fuel t cs = some x -> (∀ n ∈ x.1.weights P t,n <= reachBytes) -> ∃ a,p a /\ CRp W cs (f a).cells /\ m a <= bk x.1
theorem adr.m {t:TypeId} {α:Type} {f:α -> AV} {p:α -> Prop} (h:adr P W enc t f p):avu P W enc bk t f p (fun _=>0):=by
 intro sp fuel cs x hx hw;obtain ⟨a,h1,h2⟩:=h sp fuel cs x hx hw;exact ⟨a,h1,h2,zero_le _⟩
theorem adr.m1 (B:Bulk bk bka) {t:TypeId} {α:Type} {f:α -> AV} {p:α -> Prop} (h:adr P W enc t f p):avu P W enc bk t f p (fun _=>1):=by
 intro sp fuel cs x hx hw;obtain ⟨a,h1,h2⟩:=h sp fuel cs x hx hw;exact ⟨a,h1,h2,B.one _⟩
theorem avu.map {α β:Type} {t:TypeId} {f:α -> AV} {p:α -> Prop} {m:α -> Nat} (h:avu P W enc bk t f p m) (g:α -> β) (f':β -> AV) (p':β -> Prop) (m':β -> Nat) (hg:∀ a, p a -> p' (g a) /\ f' (g a) = f a /\ m' (g a) <= m a):avu P W enc bk t f' p' m':=by
 intro sp fuel cs x hx hwt;obtain ⟨a,ha,hc,hm⟩:=h sp fuel cs x hx hwt;obtain ⟨h1,h2,h3⟩:=hg a ha;exact ⟨g a,h1,by rw [h2]; exact hc,le_trans h3 hm⟩
end
end Go.Lw
namespace Go.Lw
open Go.Proofs
section
variable {W:World} {H:Type} {enc:TypeId × Value -> H}
theorem bke:adr prog W enc 218 (fun n:Nat=>u32 n) (fun n=>n < 4294967296) :=
 (awv (k:=.u32) Tryz.underlying218).map Int.toNat _ _ (fun n h=>by
  have h1:0 <= n /\ n <= 4294967295:=by simpa [Lit.wf,IntKind.min,IntKind.max,IntKind.signed,IntKind.bits] using h
  have h2:((n.toNat:Nat):Int) = n:=by omega
  exact ⟨by omega,by unfold u32; rw [h2]⟩)
theorem bl6:adr prog W enc 27 ws (fun l=>Ws l /\ l.length <= 281474976710656) :=
 (ac7 Tryz.underlying27 (n:=1) (by kernel_rfl) (by omega) (by kernel_rfl) bke (fun _=>rfl)).map id _ _ (fun l h=>⟨⟨fun x hx=>h.1 x hx,h.2⟩,rfl⟩)
theorem a4e:adr prog W enc 4 bl (fun _=>True):=a2g Tryz.underlying4
theorem amd:adr prog W enc 3 i64 (fun _=>True):=(awv (k:=.i64) Tryz.underlying3).map id _ _ (fun n h=>⟨trivial,rfl⟩)
theorem av3:adr prog W enc 9 (fun s:ByteArray=>AV.v (.string s)) (fun s=>s.size <= 281474976710656):=awe Tryz.underlying9
theorem azu:adr prog W enc 29 Rt.av Rt.wok :=
 (ab5 (n := 3) Tryz.underlying29 (by kernel_rfl)
  (.cons rfl (n:=1) (by kernel_rfl) a4e (fun _=>rfl) (.cons rfl (n:=1) (by kernel_rfl) bl6 (fun _=>rfl) (.cons rfl (n:=1) (by kernel_rfl) bl6 (fun _=>rfl) (.nil _)))) (fun _=>rfl)).map
  (fun z=>⟨z.1,z.2.1,z.2.2.1⟩) _ _ (fun z h=>⟨⟨h.2.1.1,h.2.2.1.1⟩,rfl⟩)
def bo9 (x:List Rt):Prop:=(∀ r ∈ x,r.wok) /\ x.length <= 281474976710656
theorem awd:adr prog W enc 46 nR bo9:=ac7 Tryz.underlying46 (n:=3) (by kernel_rfl) (by omega) (by kernel_rfl) azu (fun _=>rfl)
theorem bgx:adr prog W enc 34 (fun l:List (List Rt)=>.lst 1 (l.map nR)) (fun l=>aqe l /\ l.length <= 281474976710656) :=
 ac7 Tryz.underlying34 (n:=1) (by kernel_rfl) (by omega) (by kernel_rfl) awd (fun _=>rfl)
theorem bb8:adr prog W enc 36 aj2 (fun l=>aqe l /\ l.length <= 281474976710656) :=
 (ab5 (n:=1) Tryz.underlying36 (by kernel_rfl) (.cons rfl (n:=1) (by kernel_rfl) bgx (fun _=>rfl) (.nil _)) (fun _=>rfl)).map (fun z=>z.1) _ _ (fun z h=>⟨h.1,rfl⟩)
theorem a8j:adr prog W enc 67 Pl.av (fun b=>aqe b.l) :=
 (ab5 (n := 4) Tryz.underlying67 (by kernel_rfl)
  (.cons rfl (n:=1) (by kernel_rfl) awd (fun _=>rfl) (.cons rfl (n:=1) (by kernel_rfl) awd (fun _=>rfl) (.cons rfl (n:=1) (by kernel_rfl) awd (fun _=>rfl) (.cons rfl (n:=1) (by kernel_rfl) awd (fun _=>rfl) (.nil _))))) (fun _=>rfl)).map
  (fun z=>⟨z.1, z.2.1, z.2.2.1, z.2.2.2.1⟩) _ _ (fun z h=>⟨by
   intro x hx;simp only [Pl.l,mem_cons,not_mem_nil,or_false] at hx;rcases hx with rfl | rfl | rfl | rfl
   ·exact h.1
   ·exact h.2.1
   ·exact h.2.2.1
   ·exact h.2.2.2.1,rfl⟩)
theorem a25:adr prog W enc 37 (fun l:List Pl=>.lst 4 (l.map Pl.av)) (fun l=>(∀ b ∈ l, aqe b.l) /\ l.length <= 281474976710656) :=
 ac7 Tryz.underlying37 (n:=4) (by kernel_rfl) (by omega) (by kernel_rfl) a8j (fun _=>rfl)
theorem bfs:adr prog W enc 38 (fun l:List Int=>.lst 1 (l.map i64)) (fun l=>(∀ b ∈ l, True) /\ l.length <= 281474976710656) :=
 ac7 Tryz.underlying38 (n:=1) (by kernel_rfl) (by omega) (by kernel_rfl) amd (fun _=>rfl)
abbrev asG (a:As):List AV:=[.lst 1 (a.rs.map nR),.lst 4 (a.bs.map Pl.av),.lst 1 (a.ms.map i64)]
theorem bld:adr prog W enc 40 (fun a:As=>.agg (asG a)) As.ok :=
 (ab5 (n := 3) Tryz.underlying40 (by kernel_rfl)
  (.cons rfl (n:=1) (by kernel_rfl) bb8 (fun _=>rfl) (.cons rfl (n:=1) (by kernel_rfl) a25 (fun _=>rfl) (.cons rfl (n:=1) (by kernel_rfl) bfs (fun _=>rfl) (.nil _)))) (fun _=>rfl)).map
  (fun z=>⟨z.1,z.2.1,z.2.2.1⟩) _ _ (fun z h=>⟨⟨h.1.1,h.1.2,h.2.1.1,h.2.1.2⟩,rfl⟩)
theorem bf3:adr prog W enc 31 Tn.av (fun x=>x.t.wok) :=
 (ab5 (n := 4) Tryz.underlying31 (by kernel_rfl) (.cons rfl (n := 3) (by kernel_rfl) azu (fun _ => rfl) (.cons rfl (n := 1) (by kernel_rfl) a4e (fun _ => rfl) (.nil _))) (fun _ => rfl)).map
  (fun z=>⟨z.1,z.2.1⟩) _ _ (fun z h=>⟨h.1,rfl⟩)
theorem bhr:adr prog W enc 79 Mk.av (fun m=>m.name.size <= 281474976710656 /\ m.x.wok /\ m.y.wok) :=
 (ab5 (n := 7) Tryz.underlying79 (by kernel_rfl)
  (.cons rfl (n:=1) (by kernel_rfl) av3 (fun _=>rfl) (.cons rfl (n:=3) (by kernel_rfl) azu (fun _=>rfl) (.cons rfl (n:=3) (by kernel_rfl) azu (fun _=>rfl) (.nil _)))) (fun _=>rfl)).map
  (fun z=>⟨z.1,z.2.1,z.2.2.1⟩) _ _ (fun z h=>⟨⟨h.1,h.2.1,h.2.2.1⟩,rfl⟩)
theorem bia:adr prog W enc 77 Bd.av (fun b=>b.name.size <= 281474976710656 /\ b.pts.length <= 281474976710656 /\ ∀ m ∈ b.pts, m.name.size <= 281474976710656 /\ m.x.wok /\ m.y.wok) :=
 (ab5 (n := 2) Tryz.underlying77 (by kernel_rfl)
  (.cons rfl (n:=1) (by kernel_rfl) av3 (fun _=>rfl) (.cons rfl (n:=1) (by kernel_rfl) (ac7 Tryz.underlying75 (n:=7) (by kernel_rfl) (by omega) (by kernel_rfl) bhr (fun _=>rfl)) (fun _=>rfl) (.nil _))) (fun _=>rfl)).map
  (fun z=>⟨z.1,z.2.1⟩) _ _ (fun z h=>⟨⟨h.1,h.2.1.2,h.2.1.1⟩,rfl⟩)
theorem a98:adr prog W enc 126 Jt.av (fun j=>j.name.size <= 281474976710656) :=
 (ab5 (n := 7) Tryz.underlying126 (by kernel_rfl)
  (.cons rfl (n := 1) (by kernel_rfl) av3 (fun _ => rfl) (.cons rfl (n := 1) (by kernel_rfl) amd (fun _ => rfl) (.cons rfl (n := 1) (by kernel_rfl) amd (fun _ => rfl) (.cons rfl (n := 1) (by kernel_rfl) amd (fun _ => rfl)
   (.cons rfl (n:=1) (by kernel_rfl) amd (fun _=>rfl) (.cons rfl (n:=1) (by kernel_rfl) amd (fun _=>rfl) (.cons rfl (n:=1) (by kernel_rfl) amd (fun _=>rfl) (.nil _)))))))) (fun _=>rfl)).map
  (fun z=>⟨z.1,z.2.1,z.2.2.1,z.2.2.2.1,z.2.2.2.2.1,z.2.2.2.2.2.1,z.2.2.2.2.2.2.1⟩) _ _ (fun z h=>⟨h.1,rfl⟩)
theorem a4j:adr prog W enc 128 Dr.av (fun d=>d.name.size <= 281474976710656) :=
 (ab5 (n := 2) Tryz.underlying128 (by kernel_rfl) (.cons rfl (n := 1) (by kernel_rfl) av3 (fun _ => rfl) (.cons rfl (n := 1) (by kernel_rfl) amd (fun _ => rfl) (.nil _))) (fun _ => rfl)).map
  (fun z=>⟨z.1,z.2.1⟩) _ _ (fun z h=>⟨h.1,rfl⟩)
abbrev liG (l:Li):List AV:=[.v (.string l.name),.lst 2 (l.bodies.map Bd.av),.lst 7 (l.joints.map Jt.av),.lst 2 (l.drivers.map Dr.av)]
theorem bhe:adr prog W enc 26 (fun l:Li=>.agg (liG l)) Li.okw :=
 (ab5 (n := 4) Tryz.underlying26 (by kernel_rfl)
  (.cons rfl (n := 1) (by kernel_rfl) av3 (fun _ => rfl)
   (.cons rfl (n := 1) (by kernel_rfl) (ac7 Tryz.underlying22 (n := 2) (by kernel_rfl) (by omega) (by kernel_rfl) bia (fun _ => rfl)) (fun _ => rfl)
    (.cons rfl (n := 1) (by kernel_rfl) (ac7 Tryz.underlying23 (n := 7) (by kernel_rfl) (by omega) (by kernel_rfl) a98 (fun _ => rfl)) (fun _ => rfl)
     (.cons rfl (n:=1) (by kernel_rfl) (ac7 Tryz.underlying24 (n:=2) (by kernel_rfl) (by omega) (by kernel_rfl) a4j (fun _=>rfl)) (fun _=>rfl) (.nil _))))) (fun _=>rfl)).map
  (fun z=>⟨z.1,z.2.1,z.2.2.1,z.2.2.2.1⟩) _ _ (fun z h=>⟨⟨h.1,h.2.1.1,h.2.2.1.1,h.2.2.2.1.1,h.2.1.2,h.2.2.1.2,h.2.2.2.1.2⟩,rfl⟩)
end
end Go.Lw
namespace Go.Lw
open Go.Proofs Go.Proofs.YtnhbhlcebbmdoaaGreat
open Go.ChangeShapes Go.WideShapes Go.ChangeAt Go.RowKit
theorem own:ownKnob prog.godebug = none:=by kernel_rfl
theorem a7b:laidOutB prog = true:=by kernel_rfl
theorem bct:prog.stopsHeard = true:=by kernel_rfl
theorem bak:prog.plainKeys = true:=by kernel_rfl
theorem bf1:mapsRowed prog = true:=by kernel_rfl
theorem bdc:prog.mayEnter = true:=by kernel_rfl
theorem bch:prog.liftsFinal = false:=by kernel_rfl
theorem atb {H:Type} {enc:TypeId × Value -> H} {W W':World} {t:TypeId} {v:Value} {d:DataW H} {ps:List MemPlace} {sp':Nat -> Bool} (hr:prog.readableRec t = true) (ht:t < prog.types.size)
  (h:DataW.Trod enc prog W 0 (fun _=>true) true t v d ps) (hb:Below W.heap.size W W') (hlt:∀ x ∈ ps,x.block < W.heap.size) (hs:∀ p ∈ ps,sp' p.block = true):DataW.Trod enc prog W' 0 sp' true t v d ps :=
 WideElems.Trod_stays a7b hr ht h (fun x hx=>hb.same (hlt x hx)) hs
end Go.Lw
