/- DyadSolves: for any linkage, any group and turn, any assembly the law returns true and leaves its arguments as they were. No other condition. Part 4 of 8: what the later parts need -/
import Derived.Test.YtnhbhlcebbmdoaaGreatYc
import Derived.Test.YtnhbhlcebbmdoaaGreatRows
set_option linter.unusedVariables false
open List (mem_of_getElem? mem_append map_cons mem_cons length_cons mem_cons_self length_append length_nil getD_eq_getElem?_getD getElem?_eq_none all_eq_true getElem?_take getElem?_map getElem?_eq_getElem drop_eq_nil_of_le nil_append map_append length_take take_of_length_le drop_zero take_length not_mem_nil length_map drop_drop map_take length_replicate map_replicate map_set length_set)
open Nat (le_refl lt_of_lt_of_le lt_or_ge le_trans mul_le_mul_right mul_le_mul_left zero_le pow_add lt_of_le_of_lt)
open Option (map_eq_some_iff)
open Bool (and_eq_true or_eq_true)
open Int (toNat_natCast natAbs_natCast)
open Go.Proofs.Tryz
namespace Go.Lw
open Go.Proofs
theorem ajw (a b:List Nat) (ha:Ws a) (hb:Ws b) (na:Nz a) (nb:Nz b) (hb0:b ≠ []) (la:a.length < big) (lb:b.length < big) :
  FnC prog 312 [ws a,ws b] (.tup [ws (aap (val a / val b)),ws (aap (val a % val b))]):=by
 have la':=la;unfold big at la lb;refine gF0 func312 ?_;refine gc (af9 a b ha hb na nb) ?_;refine gC (fun ht22=>?_) (fun ht22=>?_)
 ·have h1:val a < val b:=by
   simp only [aaa] at ht22;split at ht22
   ·assumption
   ·split at ht22 <;> simp at ht22
  refine gc (ani a ha oz) ?_;refine gR ?_;exact bdw (by rw [Nat.div_eq_of_lt h1]; exact Sub.nil _ _ _) (by rw [Nat.mod_eq_of_lt h1]; exact Sub.refl _)
 ·have h1:val b <= val a:=by
   simp only [aaa] at ht22;split at ht22
   ·simp at ht22
   ·omega
  refine gl ?_;refine gC (fun ht27=>?_) (fun ht27=>?_)
  ·have hl : b.length = 1 := by have := ht27; simp [aaa] at this; omega
   obtain ⟨x,rfl⟩:∃ x,b = [x]:=List.length_eq_one_iff.1 hl;have hx:x ≠ 0:=nb x rfl;have hxB:x < 4294967296:=hb x (by simp);have hv:val [x] = x:=by simp [val]
   have hm:=Nat.mod_lt (val a) (show 0 < x by omega);refine gi (show _ = some (u32 x) from rfl) ?_;refine gc (arl a x ha oz oz hxB) ?_;refine gc (ani [val a % x] (axe oz) (by simp [big])) ?_;refine gE2 ?_;rw [hv]; simp [val]
  ·have hl : b.length ≠ 1 := by have := ht27; simp [aaa] at this; omega
   obtain ⟨n,hn⟩:∃ n,b.length = n + 2:=⟨b.length - 2,by have:=List.length_pos_iff.2 hb0; omega⟩
   obtain ⟨sh,v,hsh,hsh2,hv,wv,lv,vv,hvt,htop,hlo⟩:=bn1 hb nb hn
   have hab:b.length <= a.length:=by
    rcases lt_or_ge a.length b.length with h2 | h2
    ·have:=ahg ha nb h2; omega
    ·exact h2
   obtain ⟨lq,hlq⟩:∃ lq,a.length + 1 = lq + (n + 2):=⟨a.length + 1 - (n + 2),by omega⟩
   have hbt:=aar hb (n + 1);refine gl ?_;refine ga (show _ = ((n + 1:Nat):Int) by rw [abi oz]; omega) ?_;refine gi (awu (n:=n + 1) oz (by first | omega | (simp; omega))) ?_;refine gc (show FnC _ _ _ (i64 (sh:Nat)) by rw [hsh]; exact ap0 _ hbt) ?_;refine gt (aab (apb 900 rfl b sh hb (by unfold big; omega) hsh2) (ev2 rfl rfl) hHa rfl rfl) ?_;refine gl ?_;refine gs (anj (.tmp rfl) (.none _) (.some _ (.tmp rfl) oz) T27 rfl T218 rfl oz oz rfl) ?_;refine gt (aab (apb 901 rfl a sh ha (by unfold big; omega) hsh2) (ev2 rfl rfl) hHa rfl rfl) ?_;refine gD ?_ (8,0);refine gW ((Wk.freeze (k:=900) rfl).trans <| Wk.of (sl:=[(0,some (ws a)),(1,some (ws b)),(8,some (i64 sh)),(9,some (ws v)),(10,some (.ms 901 1 0 (a.length + 1)))]) (hp:=[(901,some (.row 1 ((ad8 (a.length + 1) (2 ^ sh * val a)).map u32)))]) (.k (.k (.k (.cons rfl (Sub.of (blf hn hv)) (.k .nil))))) (.k .nil)) ?_;refine gl ?_;refine ga (show _ = (lq:Int) by rw [lv,abi oz]; omega) ?_;refine gs (agr (.tmp rfl) T27 rfl T218 rfl rfl oz (by dsimp only; omega) rfl) ?_;refine gl ?_;refine ga (show _ = ((n + 1:Nat):Int) by rw [lv,abi oz]; omega) ?_;refine gi (awu (n:=n + 1) oz (by first | omega | (simp; omega))) ?_;refine gv (u64_in (by have:=aar wv (n + 1); omega)) ?_;refine gl ?_;refine ga (show _ = (n:Int) by rw [lv,abi oz]; omega) ?_;refine gi (awu (n:=n) oz (by first | omega | (simp; omega))) ?_;refine gv (u64_in (by have:=aar wv n; omega)) ?_;refine gD ?_;refine ga (abi oz) ?_;refine gL3 [8,9,12,13] [] (fun (q u:List Nat) (j:Nat)=>[(10,some (.ms 901 1 0 (a.length + 1))),(11,some (.ms 61 1 0 lq)),(14,some (i64 ((j:Int) - 1)))]) (fun q u _=>[(901,some (.row 1 (u.map u32))),(61,some (.row 1 (q.map u32)))]) (fun q u j=>q.length = lq /\ u.length = a.length + 1 /\ Ws q /\ Ws u /\ j <= lq /\ val (u.drop j) < val v /\ 2 ^ sh * val a = val v * (4294967296 ^ j * val (q.drop j)) + val u) (fun _ _ j=>j) (List.replicate lq 0) (ad8 (a.length + 1) (2 ^ sh * val a)) lq ⟨by simp,ab9 _ _,aly _,agw _ _,le_refl _,by rw [vv]; exact (bg4 ha hsh2 hlq hlo).2,by rw [(bg4 ha hsh2 hlq hlo).1]; simp [val]⟩ ?_ (h2:=(.k (.cons rfl (BlkSub.of (by rw [map_replicate]; rfl)) .nil)))
   rintro q u j ⟨hql,hul,wq,wu,hj,hlt,hU⟩ K1 hK1;refine gC (fun ht80=>?_) (fun ht80=>?_) (st2:=(23,0))
   ·have hj0 : 1 <= j := by have := ht80; simp [aaa] at this; omega
    obtain ⟨k,rfl⟩:∃ k,j = k + 1:=⟨j - 1,by omega⟩
    obtain ⟨W,hW⟩:∃ W,W = val (win u k (n + 3)):=⟨_,rfl⟩
    have hVl:val v < 4294967296 ^ (n + 2):=by have:=abv v wv; rwa [lv] at this
    obtain ⟨e1,e2,e3⟩:=bdf (u:=u) (q:=q) (k:=k) (lv:=n + 2) wu oz oz hVl hlt hU;simp only [show n + 2 + 1 = n + 3 from rfl] at e1 e2 e3;have hdig:=blc wv (apg wu k (n + 3)) lv (al6 oz) hvt e1;rw [<- hW] at e1 e2 e3 hdig;have wp:=apg wu k (n + 3);have b1:=aar wp n;have b2:=aar wp (n + 1);have b3:=aar wp (n + 2);have b4:=hdig.htop;have b5:=hdig.htopB;have b6:=hdig.hnext;obtain ⟨top,htop'⟩:∃ top,top = aac v (n + 1):=⟨_,rfl⟩
    obtain ⟨nx,hnx⟩:∃ nx,nx = aac v n:=⟨_,rfl⟩
    obtain ⟨hd,hhd⟩:∃ hd,hd = aac (win u k (n + 3)) (n + 2) * 4294967296 + aac (win u k (n + 3)) (n + 1):=⟨_,rfl⟩
    obtain ⟨th,hth⟩:∃ th,th = aac (win u k (n + 3)) n:=⟨_,rfl⟩
    rw [<- htop',<- hnx,<- hhd,<- hth] at hdig;rw [<- htop'] at b4 b5 ⊢;rw [<- hnx] at b6 ⊢;rw [<- hth] at b1;have hdB:hd < 18446744073709551616:=by omega
    refine gl ?_;refine ga (show _ = ((k + n + 2:Nat):Int) by rw [lv,aa7 oz]; omega) ?_;refine ga (show _ = ((k + n + 3:Nat):Int) by rw [aa7 oz]; omega) ?_;refine gs (anj (.tmp rfl) (.some _ (.tmp rfl) oz) (.some _ (.tmp rfl) oz) T27 rfl T218 rfl oz oz rfl) ?_ (14,0);refine gW (Wk.of (sl:=[(8,some (i64 sh)),(9,some (ws v)),(10,some (.ms 901 1 0 (a.length + 1))),(11,some (.ms 61 1 0 lq)),(12,some (u64 top)),(13,some (u64 nx)),(14,some (i64 k)),(15,some (.ms 901 1 k (n + 3)))]) (hp:=[(901,some (.row 1 (u.map u32))),(61,some (.row 1 (q.map u32)))]) (.k (.k (.k (.k (.k (.k (.cons rfl (Sub.int oz) (.cons rfl (Sub.of (by congr 1 <;> omega)) .nil)))))))) (.k (.k .nil))) ?_
    refine gl ?_;refine gs (ahz (n:=n + 2) (.tmp rfl) (.tmp rfl) T27 rfl T218 rfl oz oz rfl) ?_;refine gs (aaw (.tmp rfl) rfl (a6e (n:=n + 3) (i:=n + 2) oz oz) T218 rfl rfl rfl) ?_;refine gv (u64_in oz) ?_;refine gs (ae3 (.tmp rfl) (.const _) oz (aoc (n:=32) oz oz) rfl) ?_;refine gl ?_;refine ga (show _ = ((n + 1:Nat):Int) by rw [lv,abi oz]; omega) ?_;refine gs (ahz (n:=n + 1) (.tmp rfl) (.tmp rfl) T27 rfl T218 rfl oz oz rfl) ?_;refine gs (aaw (.tmp rfl) rfl (a6e (n:=n + 3) (i:=n + 1) oz oz) T218 rfl rfl rfl) ?_;refine gv (u64_in oz) ?_;refine gs (afw (.tmp rfl) (.tmp rfl) rfl ((aiw oz oz).trans (show _ = (hd:Int) by rw [ayt oz,hhd])) rfl) ?_;refine gD ?_;refine gs (adg (.tmp rfl) (.tmp rfl) oz (ba3 hdB) rfl) ?_;refine gs (a3s (.tmp rfl) (.tmp rfl) oz a93 rfl) ?_;refine gD ?_;refine gL2 [8,9,12,13,14] [901,61] (fun (g r:Nat)=>[(10,some (.ms 901 1 0 (a.length + 1))),(11,some (.ms 61 1 0 lq)),(15,some (.ms 901 1 k (n + 3))),(17,some (u64 g)),(18,some (u64 r))]) (fun _ _=>[]) (fun g r=>W / val v <= g /\ g * top + r = hd /\ g < 18446744073709551616 /\ r < 8589934592) (fun g _=>g) (hd / top) (hd % top) ⟨hdig.first,by rw [Nat.mul_comm]; exact Nat.div_add_mod _ _,by have:=Nat.div_le_self hd top; omega,by have:=Nat.mod_lt hd (show 0 < top by omega); omega⟩ ?_
    rintro g r ⟨hg,hgr,hgB,hrB⟩ K2 hK2;refine gaG (fun ⟨h,h2⟩=>(ave (by simp [aaa] at h2; have:=aqa (x:=g) (y:=nx) oz b6; omega))) ?_;refine gs (akx rfl rfl rfl (fun h h2=>ae3 (.opt rfl (o2 h h2)) (.const _) oz (aoc (n:=32) oz (by simp [aaa] at h; omega)) rfl)) ?_;refine glG ?_;refine gaG (fun _=>(show _ = (n:Int) by rw [lv,abi oz]; omega)) ?_;refine gs (akx rfl rfl rfl (fun h h2=>ahz (n:=n) (.opt rfl (o2 h h2)) (.opt rfl (o2 h h2)) T27 rfl T218 rfl oz oz rfl)) ?_;refine gs (akx rfl rfl rfl (fun h h2=>aaw (.opt rfl (o2 h h2)) rfl (a6e (n:=n + 3) (i:=n) oz oz) T218 rfl rfl rfl)) ?_;refine gvG (fun _=>(u64_in oz)) ?_;refine gs (akx rfl rfl rfl (fun h h2=>afw (.opt rfl (o2 h h2)) (.opt rfl (o2 h h2)) rfl ((aiw (by simp [aaa] at h; omega) oz).trans (by rw [ayt oz])) rfl)) ?_;refine gC (fun ht133=>?_) (fun ht133=>?_)
    ·have hc:r < 4294967296 /\ (4294967296 <= g \/ r * 4294967296 + th < g * nx):=by
      rw [hth];have h9:=a32.1 ht133
      rwa [show r * 2 ^ 32 = r * 4294967296 from rfl] at h9
     have hg1:=hdig.step hg hgr hc.2;have hg0:1 <= g:=Nat.succ_le_of_lt (lt_of_le_of_lt (zero_le _) hg1);refine ga (a3k oz oz) ?_;refine ga (afn oz) ?_;exact gK2 hK2 (g - 1) (r + top) ⟨Nat.le_sub_one_of_lt hg1,by rw [Nat.sub_mul]; have:=mul_le_mul_right top (show 1 <= g by omega); omega,by omega,by omega⟩
    ·have hc:¬ (r < 4294967296 /\ (4294967296 <= g \/ r * 4294967296 + th < g * nx)):=by
      rw [hth];intro hh;rw [show r * 4294967296 = r * 2 ^ 32 from rfl] at hh;exact Bool.eq_false_iff.1 ht133 (a32.2 hh)
     obtain ⟨hgB2,hgq⟩:=hdig.last hgr hc;have hVp:=hdig.vpos;have hWl:val (win u k (n + 3)) < 4294967296 ^ (n + 3):=by have:=abv _ wp; rwa [al6 oz] at this
     obtain ⟨p1,p2⟩:=bdn hVp (show val v <= 4294967296 ^ (n + 3) by have:=Nat.pow_le_pow_right (show 0 < 4294967296 by omega) (show n + 2 <= n + 3 by omega); omega) (hW ▸ hWl) hg hgq;have hwul:k + (n + 3) <= u.length:=by omega
     have hwr:(wr u k (ad8 (n + 3) (a6b g (val v) W (n + 3)))).length = a.length + 1:=by rw [anb (by rw [ab9]; omega),hul]
     refine gt (aab (Con.rekey 901 rfl rfl (apv u v k (n + 3) g wu wv oz hwul hgB2 (by unfold ac8; omega))) (ev3 rfl rfl rfl) hHa rfl rfl) ?_;refine gC (fun ht142=>?_) (fun ht142=>?_)
     ·have hlt2 : W < g * val v := by rw [hW]; simpa using ht142
      obtain ⟨q1,q2,q3⟩:=p1 hlt2;have hrl:a6b g (val v) W (n + 3) < 4294967296 ^ (n + 3):=by unfold a6b; rw [if_neg oz]; rw [<- hW] at hWl; omega
      refine ga (a3k oz oz) ?_;refine gt (aab (Con.rekey 901 rfl rfl (as4 (wr u k (ad8 (n + 3) (a6b g (val v) (val (win u k (n + 3))) (n + 3)))) v k (n + 3) (a45 wu (agw _ _)) wv oz (by rw [<- hW,hwr]; omega) (by rw [<- hW,hwr]; unfold ac8; omega))) (ev2 rfl rfl) hHa rfl rfl) ?_;refine gv ((abk _).trans (by rw [Nat.mod_eq_of_lt oz])) ?_;refine gs (aas (n:=k) (.tmp rfl) (.tmp rfl) T27 rfl T218 rfl oz oz rfl) ?_;refine gs (abb (.tmp rfl) rfl (ai3 (i:=k) oz) rfl (.tmp rfl) rfl rfl T218 rfl rfl) ?_;refine ga (abi oz) ?_;exact gK3 hK1 (q.set k (W / val v)) (wr u k (ad8 (n + 3) (W % val v))) k ⟨by simp [hql],by rw [anb (by rw [ab9]; omega),hul],afr wq hdig.q_lt,a45 wu (agw _ _),by omega,e2,e3⟩ (hw:=Wk.of aa6 (.cons rfl (BlkSub.of (by rw [<- hW]; first | (rw [q1]; done) | (rw [a82 (r:=W % val v) hwul (ab9 _ _) (by rw [age _ _ hrl]; exact q1)]; done))) (.cons rfl (BlkSub.of (by rw [map_set,q2]; rfl)) .nil)))
     ·have hlt2 : ¬ W < g * val v := by rw [hW]; simpa using ht142
      obtain ⟨q1,q2⟩:=p2 hlt2;refine gv ((abk _).trans (by rw [Nat.mod_eq_of_lt oz])) ?_;refine gs (aas (n:=k) (.tmp rfl) (.tmp rfl) T27 rfl T218 rfl oz oz rfl) ?_;refine gs (abb (.tmp rfl) rfl (ai3 (i:=k) oz) rfl (.tmp rfl) rfl rfl T218 rfl rfl) ?_;refine ga (abi oz) ?_;exact gK3 hK1 (q.set k (W / val v)) (wr u k (ad8 (n + 3) (W % val v))) k ⟨by simp [hql],by rw [anb (by rw [ab9]; omega),hul],afr wq hdig.q_lt,a45 wu (agw _ _),by omega,e2,e3⟩ (hw:=Wk.of aa6 (.cons rfl (BlkSub.of (by rw [<- hW]; first | (rw [q1]; done) | (rw [a82 (r:=W % val v) hwul (ab9 _ _) (by rw [age _ _ hrl]; exact q1)]; done))) (.cons rfl (BlkSub.of (by rw [map_set,q2]; rfl)) .nil)))
   ·have hj0 : j = 0 := by have := ht80; simp [aaa] at this; omega
    subst hj0;have hU':2 ^ sh * val a = 2 ^ sh * val b * val q + val u:=by rw [<- vv]; simpa using hU
    obtain ⟨hQ,hR⟩:=bkg hU' (by rw [<- vv]; simpa using hlt);refine gW ((Wk.freeze (k:=61) rfl).trans <| (Wk.freeze (k:=901) rfl).trans <| Wk.of (sl:=[(8,some (i64 sh)),(10,some (ws u)),(11,some (ws q))]) (hp:=[]) (.k (.cons rfl (Sub.of (abq (by simp [hul]))) (.cons rfl (Sub.of (by rw [show AV.fz 61 1 (q.map u32) (.ms 61 1 0 lq) = ws q from abq (by simp [hql])]; rfl)) .nil))) .nil) ?_;refine gc (ani q wq (by unfold big; omega)) ?_;refine gc (as5 u sh wu (by unfold big; omega) hsh2) ?_;refine gE2 ?_;rw [<- hQ,<- hR]
end Go.Lw
namespace Go.Lw
open Go.Proofs
theorem ap4 {b:Bool} {n:Nat}:(cond b (aaa .gtr ((aap n).length:Int) 0) false) = true ↔ (b = true /\ 0 < n):=by
 have h:aaa .gtr ((aap n).length:Int) 0 = true ↔ 0 < n:=by
  simp only [aaa,decide_eq_true_eq];constructor
  ·intro h; rcases Nat.eq_zero_or_pos n with h1 | h1; (subst h1; simp [a5n] at h); exact h1
  ·intro h;have:aap n ≠ []:=by intro h1; have:=aaq n; rw [h1] at this; simp [val] at this; omega
   have:=List.length_pos_iff.2 this;omega
 cases b with
 | false=>simp
 | true=>exact ⟨fun h1=>⟨rfl,h.1 h1⟩,fun h1=>h.2 h1.2⟩
theorem ah7 (a:Wh) (ha:a.ok):FnC prog 264 [a.av] (i64 a.z.sign):=by
 obtain ⟨e1,e2,e3⟩:=a2a ha;refine gF0 func264 ?_;refine gc (abx a ha) ?_;refine gl ?_;refine gC (fun ht3=>?_) (fun ht3=>?_)
 ·have h0 : a.m.length = 0 := by simpa [aaa] using ht3
  refine gE1 ?_;rw [e1 h0]; rfl
 ·have h0 : a.m.length ≠ 0 := by simpa [aaa] using ht3
  refine gC (fun ht8=>?_) (fun ht8=>?_)
  ·refine gE1 ?_;rw [e2 h0 ht8]; rfl
  ·refine gE1 ?_;rw [e3 h0 ht8]; rfl
theorem avv (a b:Wh) (ha:a.ok) (hb:b.ok):FnC prog 299 [a.av, b.av] (i64 (ax4 a.z b.z)):=by
 refine gF0 func299 ?_;refine gc (ah7 a ha) ?_;refine gc (ah7 b hb) ?_;refine gD ?_;refine gC (fun ht14=>?_) (fun ht14=>?_)
 ·have h0 : a.z.sign ≠ b.z.sign := by simpa [aaa] using ht14
  obtain ⟨e1,e2⟩:=bde h0;refine gC (fun ht17=>?_) (fun ht17=>?_)
  ·have h1 : a.z.sign < b.z.sign := by simpa [aaa] using ht17
   refine gE1 ?_;rw [e1 h1]; rfl
  ·have h1 : ¬ a.z.sign < b.z.sign := by simpa [aaa] using ht17
   refine gE1 ?_;rw [e2 h1]; rfl
 ·have h0 : a.z.sign = b.z.sign := by simpa [aaa] using ht14
  have e1:=bdb h0;refine gc (abx a ha) ?_;refine gc (abx b hb) ?_;refine gc (af9 a.m b.m (Wh.ws ha) (Wh.ws hb) a.nz b.nz) ?_;refine gD ?_;refine gc (abj a ha) ?_;refine gC (fun ht24=>?_) (fun ht24=>?_)
  ·rw [ht24, if_pos rfl] at e1;refine gs (bhq (.tmp rfl) rfl) ?_;refine gE1 ?_;rw [e1];split
   ·rfl
   ·split <;> rfl
  ·rw [ht24, if_neg Bool.false_ne_true] at e1;refine gE1 ?_
   first | (rw [e1]; done) | (rw [e1]; rfl)
theorem avr (a:Wh) (ha:a.ok) (la:a.mag.length < big):FnC prog 265 [a.av] (zA (-a.z)):=by
 refine gF0 func265 ?_;refine gc (abj a ha) ?_;refine gc (abx a ha) ?_;refine gc (abf _ a.m (Wh.ws ha) (Nat.le_of_lt (Wh.small ha la))) ?_;refine gD ?_;refine gE1 ?_;rw [Wh.z_eq,<- bam]; rfl
theorem avz (a b:Wh) (ha:a.ok) (hb:b.ok) (la:a.mag.length + b.mag.length <= big):FnC prog 271 [a.av, b.av] (zA (a.z * b.z)):=by
 have h1:=Wh.m_le (w:=a);have h2:=Wh.m_le (w:=b);have h3:(aap (val a.m * val b.m)).length <= a.m.length + b.m.length:=aal (by rw [pow_add]; exact Nat.mul_lt_mul'' (abv _ (Wh.ws ha)) (abv _ (Wh.ws hb)));refine gF0 func271 ?_;refine gc (abj a ha) ?_;refine gc (abj b hb) ?_;refine gc (abx a ha) ?_;refine gc (abx b hb) ?_;refine gc (arf a.m b.m (Wh.ws ha) (Wh.ws hb) oz) ?_;refine gc (abf _ _ (abd _) oz) ?_;refine gD ?_;refine gE1 ?_;rw [aaq,bbj]; rfl
theorem awg (a b:Wh) (ha:a.ok) (hb:b.ok) (la:a.mag.length < big) (lb:b.mag.length < big):FnC prog 270 [a.av, b.av] (zA (a.z + b.z)):=by
 have h1:=Wh.m_le (w:=a);have h2:=Wh.m_le (w:=b);have hla:val a.m < 4294967296 ^ (max a.m.length b.m.length):=lt_of_lt_of_le (abv _ (Wh.ws ha)) (Nat.pow_le_pow_right oz oz);have hlb:val b.m < 4294967296 ^ (max a.m.length b.m.length):=lt_of_lt_of_le (abv _ (Wh.ws hb)) (Nat.pow_le_pow_right oz oz);have h3:(aap (val a.m + val b.m)).length <= max a.m.length b.m.length + 1:=aal (by rw [Nat.pow_succ]; omega);have h4:(aap (val a.m - val b.m)).length <= max a.m.length b.m.length:=aal oz;have h5:(aap (val b.m - val a.m)).length <= max a.m.length b.m.length:=aal oz;refine gF0 func270 ?_;refine gc (abx a ha) ?_;refine gc (abx b hb) ?_;refine gD ?_;refine gc (abj a ha) ?_;refine gc (abj b hb) ?_;refine gD ?_;refine gC (fun ht11=>?_) (fun ht11=>?_)
 ·have h0 : a.n = b.n := by simpa using ht11
  refine gc (abj a ha) ?_;refine gc (alq a.m b.m (Wh.ws ha) (Wh.ws hb) oz oz) ?_;refine gc (abf _ _ (abd _) oz) ?_;refine gE1 ?_;rw [aaq,a2k h0]; rfl
 ·have h0 : a.n ≠ b.n := by simpa using ht11
  refine gc (af9 a.m b.m (Wh.ws ha) (Wh.ws hb) a.nz b.nz) ?_;refine gC (fun ht23=>?_) (fun ht23=>?_)
  ·have h6:val b.m <= val a.m:=by
    rcases lt_or_ge (val a.m) (val b.m) with h | h
    ·rw [if_pos h] at ht23; cases ht23
    ·exact h
   refine gc (abj a ha) ?_;refine gc (aif a.m b.m (Wh.ws ha) (Wh.ws hb) oz (by rcases lt_or_ge a.m.length b.m.length with h | h; (have:=ahg (Wh.ws ha) b.nz h; omega); exact h) h6) ?_;refine gc (abf _ _ (abd _) oz) ?_;refine gE1 ?_;rw [aaq,awm h0 h6]; rfl
  ·have h6:val a.m < val b.m:=by
    rcases lt_or_ge (val a.m) (val b.m) with h | h
    ·exact h
    ·rw [if_neg oz] at ht23; split at ht23 <;> cases ht23
   refine gc (abj b hb) ?_;refine gc (aif b.m a.m (Wh.ws hb) (Wh.ws ha) oz (by rcases lt_or_ge b.m.length a.m.length with h | h; (have:=ahg (Wh.ws hb) a.nz h; omega); exact h) oz) ?_;refine gc (abf _ _ (abd _) oz) ?_;refine gE1 ?_;rw [aaq,azu h0 oz]; rfl
theorem ane (a b:Wh) (ha:a.ok) (hb:b.ok) (la:a.mag.length < big) (lb:b.mag.length < big):FnC prog 266 [a.av, b.av] (zA (Int.gcd a.z b.z)):=by
 refine gF0 func266 ?_;refine gc (abx a ha) ?_;refine gc (abx b hb) ?_;refine gD ?_;refine gL2 [4] [4] (fun (x y:List Nat)=>[(5,some (ws x)),(6,some (ws y))]) (fun _ _=>[]) (fun x y=>Ws x /\ Ws y /\ Nz x /\ Nz y /\ x.length < big /\ y.length < big /\ Nat.gcd (val x) (val y) = Int.gcd a.z b.z) (fun _ y=>val y) a.m b.m ⟨Wh.ws ha,Wh.ws hb,a.nz,b.nz,Wh.small ha la,Wh.small hb lb,by rw [Int.gcd,Wh.abs,Wh.abs]⟩ ?_;rintro x y ⟨wx,wy,nx,ny,lx,ly,hg⟩ K1 hK1;refine gl ?_;refine gC (fun ht15=>?_) (fun ht15=>?_)
 ·have hy : y ≠ [] := by intro h; subst h; simp [aaa] at ht15
  have hy0:=al2 ny hy;have hm:=Nat.mod_lt (val x) hy0;refine gc (ajw x y wx wy nx ny hy lx ly) ?_;exact gK2 hK1 y (aap (val x % val y)) ⟨wy,abd _,ny,akw _,ly,lt_of_le_of_lt (aal (Nat.lt_trans hm (abv y wy))) ly,by rw [aaq,<- hg,Nat.gcd_comm (val x) (val y),Nat.gcd_comm (val y) (val x % val y)]; exact (Nat.gcd_rec _ _).symm⟩ (by show val (aap _) < val y; rw [aaq]; exact hm)
 ·have hy:y = []:=by
   cases y with
   | nil=>rfl
   | cons c l=>simp [aaa] at ht15
  subst hy;have hg':val x = Int.gcd a.z b.z:=by rw [<- hg]; simp [val]
  refine gc (abf false x wx (Nat.le_of_lt lx)) ?_;refine gE1 ?_;rw [hg']; rfl
theorem aus (a b:Wh) (ha:a.ok) (hb:b.ok) (la:a.mag.length + 1 < big) (lb:b.mag.length < big) (h0:b.z ≠ 0):FnC prog 267 [a.av, b.av] (.tup [zA (a.z / b.z), zA (a.z % b.z), .v .nilIface]):=by
 have hm1:=Wh.m_le (w:=a);have hm2:=Wh.m_le (w:=b);have hb1:val b.m ≠ 0:=by have:=Wh.abs (w:=b); omega
 have hb2:b.m ≠ []:=fun h=>hb1 (by rw [h]; rfl)
 have hl1:(aap (val a.m / val b.m)).length <= a.m.length:=aal (lt_of_le_of_lt (Nat.div_le_self _ _) (abv _ (Wh.ws ha)));have hmod:=Nat.mod_lt (val a.m) (show 0 < val b.m by omega);have hl2:(aap (val a.m % val b.m)).length <= b.m.length:=aal (Nat.lt_trans hmod (abv _ (Wh.ws hb)));have hl3:(aap (val a.m / val b.m + 1)).length <= a.m.length + 1:=aal (by have h7:=lt_of_le_of_lt (Nat.div_le_self (val a.m) (val b.m)) (abv _ (Wh.ws ha)); rw [Nat.pow_succ]; generalize val a.m / val b.m = m at *; omega);have hl4:(aap (val b.m - val a.m % val b.m)).length <= b.m.length:=aal (by have:=abv _ (Wh.ws hb); omega);have hv1:val [1] = 1:=rfl;refine gF0 func267 ?_;refine gc (abx b hb) ?_;refine gl ?_;refine gC (fun ht14=>?_) (fun ht14=>?_) (st1:=(3,0))
 ·exact absurd (List.length_eq_zero_iff.1 (by simpa [aaa] using ht14)) hb2
 ·refine gc (abx a ha) ?_;refine gc (ajw a.m b.m (Wh.ws ha) (Wh.ws hb) a.nz b.nz hb2 oz oz) ?_;refine gc (abj a ha) ?_;refine glG ?_;refine gC (fun ht31=>?_) (fun ht31=>?_)
  ·have h1:a.n = true /\ 0 < val a.m % val b.m:=ap4.1 ht31;obtain ⟨e1,e2⟩:=a18 hb1 h1.1 h1.2;refine gc (alq (aap (val a.m / val b.m)) [1] (abd _) (axe oz) oz (by unfold big; simp)) ?_;refine gc (aif b.m (aap (val a.m % val b.m)) (Wh.ws hb) (abd _) oz hl2 (by rw [aaq]; omega)) ?_ (7,0);refine gW (Wk.of (sl:=[(2,some (.ptr 2 0)),(3,some (.ptr 3 0)),(4,some (.ptr 4 0)),(5,some (.ptr 5 0)),(8,some (ws (aap (val a.m / val b.m + 1)))),(9,some (ws (aap (val b.m - val a.m % val b.m))))]) (hp:=[(2,some (.box [bl a.neg,ws a.mag])),(3,some (.box [bl b.neg,ws b.mag])),(4,some (.box [.v (.bool false),.v (.slice none 0 0)])),(5,some (.box [.v (.bool false),.v (.slice none 0 0)]))]) (.k (.k (.k (.k (.cons rfl (Sub.of (by rw [aaq,hv1])) (.cons rfl (Sub.of (by rw [aaq])) .nil)))))) (.k (.k (.k (.k .nil))))) ?_
   refine gc (abj a ha) ?_;refine gc (abj b hb) ?_;refine gc (by apply abf _ _ (abd _) oz) ?_;refine gc (by apply abf _ _ (abd _) oz) ?_;refine gD ?_;refine gR ?_;exact asw (by rw [aaq,aaq,e1,show sgn false _ = _ from e2]; rfl)
  ·have h1:¬ (a.n = true /\ 0 < val a.m % val b.m):=fun h=>Bool.eq_false_iff.1 ht31 (ap4.2 h)
   obtain ⟨e1,e2⟩:=ba1 hb1 h1;refine gc (abj a ha) ?_;refine gc (abj b hb) ?_;refine gc (by apply abf _ _ (abd _) oz) ?_;refine gc (by apply abf _ _ (abd _) oz) ?_;refine gD ?_;refine gR ?_;exact asw (by rw [aaq,aaq,e1,show sgn false _ = _ from e2]; rfl)
end Go.Lw
namespace Go.Lw
open Go.Proofs
theorem a19 {N:Nat} (h:N < 18446744073709551616):val [N % 4294967296, N / 2 ^ 32] = N:=by
 simp only [val]; omega
theorem bby {N:Nat} (h:N < 18446744073709551616):Ws [N % 4294967296, N / 2 ^ 32]:=by
 intro x hx;simp only [mem_cons,not_mem_nil,or_false] at hx;rcases hx with rfl | rfl <;> omega
theorem apl (n:Int) (h:-9223372036854775808 <= n /\ n <= 9223372036854775807):FnC prog 169 [i64 n] (zA n):=by
 obtain ⟨N,hN⟩:∃ N,N = n.natAbs:=⟨_,rfl⟩
 have hNB:N < 18446744073709551616:=by omega
 refine gF0 func169 ?_;refine gv (show IntKind.u64.wrap n = ((n % 18446744073709551616:Int)) by simp only [IntKind.wrap,IntKind.signed,IntKind.bits,Bool.false_and,if_false,Bool.false_eq_true]; omega) ?_;refine gC (fun ht7=>?_) (fun ht7=>?_) (st2:=(77777,0))
 ·have hn : n < 0 := by simpa [aaa] using ht7
  refine gs (bhq (.tmp rfl) rfl) ?_ (4,0);refine gW (Wk.of (sl:=[(0,some (i64 n)),(2,some (.ptr 2 0)),(3,some (u64 N))]) (hp:=[(2,some (.box [.v (.bool false),.v (.slice none 0 0)]))]) (.k (.k (.cons rfl (Sub.int (by simp only [IntKind.wrap,IntKind.signed,IntKind.bits,Bool.false_and,if_false,Bool.false_eq_true]; omega)) .nil))) (.k .nil)) ?_;refine gv (abk _) ?_;refine gs (ad4 (.tmp rfl) (.const _) oz (ad5 _ 32 oz) rfl) ?_;refine gv ((abk _).trans (by rw [Nat.mod_eq_of_lt (show N / 2 ^ 32 < 4294967296 by omega)])) ?_;refine gc (abf (aaa .lss n 0) [N % 4294967296,N / 2 ^ 32] (bby hNB) (by unfold big; simp)) ?_;refine gE1 ?_;rw [a19 hNB,show sgn (aaa .lss n 0) N = n by simp only [sgn,aaa,decide_eq_true_eq]; split <;> omega]; rfl
 ·have hn : ¬ n < 0 := by simpa [aaa] using ht7
  refine gW (Wk.of (sl:=[(0,some (i64 n)),(2,some (.ptr 2 0)),(3,some (u64 N))]) (hp:=[(2,some (.box [.v (.bool false),.v (.slice none 0 0)]))]) (.k (.k (.cons rfl (Sub.int oz) .nil))) (.k .nil)) ?_;refine gv (abk _) ?_;refine gs (ad4 (.tmp rfl) (.const _) oz (ad5 _ 32 oz) rfl) ?_;refine gv ((abk _).trans (by rw [Nat.mod_eq_of_lt (show N / 2 ^ 32 < 4294967296 by omega)])) ?_;refine gc (abf (aaa .lss n 0) [N % 4294967296,N / 2 ^ 32] (bby hNB) (by unfold big; simp)) ?_;refine gE1 ?_;rw [a19 hNB,show sgn (aaa .lss n 0) N = n by simp only [sgn,aaa,decide_eq_true_eq]; split <;> omega]; rfl
end Go.Lw
namespace Go.Lw
theorem aow:∀ (j k v:Nat), j <= k -> (ad8 k v).take j = ad8 j v
 | 0,_,_,_=>by simp [ad8]
 | j + 1,0,_,h=>by omega
 | j + 1, k + 1, v, h=>by
  rw [ad8,ad8,List.take_succ_cons,aow j k _ oz]
theorem a3u {m:List Nat} (h:Ws m):(aap (val m)).length <= m.length:=aal (abv m h)
theorem ayv {m:List Nat} (h:Ws m):m.take (aap (val m)).length = aap (val m):=by
 have h1:=ar5 m h;have h2:=ar5 (aap (val m)) (abd _);rw [aaq] at h2;have h3:=aow _ _ (val m) (a3u h);rw [<- h1,<- h2] at h3;exact h3
theorem ban {m:List Nat} {n:Nat} (h:Ws m) (hn:n <= m.length) (hv:val (m.take n) = val m) (h0:n = 0 \/ aac m (n - 1) ≠ 0):n = (aap (val m)).length:=by
 have h1:m.take n = aap (val m):=by
  refine a3a (ads h n) ?_ hv;intro x hx;rcases h0 with h0 | h0
  ·subst h0; simp at hx
  ·have hn0 : n ≠ 0 := by intro h3; subst h3; simp at hx
   rw [List.getLast?_eq_getElem?,length_take,Nat.min_eq_left hn,getElem?_take,if_pos oz,aeb oz] at hx;cases hx; exact h0
 rw [<- h1,length_take,Nat.min_eq_left hn]
theorem ba9 (l:List Nat) (i:Nat):val l = val (l.take i) + 4294967296 ^ i * val (l.drop i):=by
 rcases lt_or_ge i l.length with h | h
 ·exact ai9 oz
 ·rw [aaz h,drop_eq_nil_of_le h]; simp [val]
theorem akn (l:List Nat) (i:Nat):val (l.drop i) = aac l i + 4294967296 * val (l.drop (i + 1)):=by
 rcases lt_or_ge i l.length with h | h
 ·exact alc h
 ·rw [ak0 h,drop_eq_nil_of_le h,drop_eq_nil_of_le oz]; rfl
theorem a25 {a b:List Nat} {i:Nat} (ha:Ws a) (he:val (a.drop (i + 1)) = val (b.drop (i + 1))) (hx:aac a i < aac b i):val a < val b:=by
 rw [ba9 a (i + 1),ba9 b (i + 1),he];have:=arx ha hx;omega
theorem bja {xs ys:List AV} (hl:xs.length = ys.length) (h1:∀ (j:Nat) (y:AV), ys[j]? = some y -> y.one = true) (h:∀ (j:Nat) (x y:AV), xs[j]? = some x -> ys[j]? = some y -> Sub x y):Sub (.agg xs) (.agg ys):=by
 intro g S m v hr;cases hr with
 | agg hn h2 hr =>
  refine .agg (hn.trans hl) h1 ?_;intro j u c hu hc
  have hj:j < xs.length:=by
   rw [hl];rcases lt_or_ge j ys.length with h | h
   ·exact h
   ·rw [getElem?_eq_none h] at hc; cases hc
  exact h j _ c (getElem?_eq_getElem hj) hc _ _ _ _ (hr j u _ hu (getElem?_eq_getElem hj))
theorem boa:Sub (.agg [.v (.bool false), .v (.slice none 0 0)]) (zA 0):=by
 show Sub (.agg [.v (.bool false),.v (.slice none 0 0)]) (.agg [bl false,ws []]);refine bja rfl ?_ ?_
 ·intro j y hy
  match j,hy with
  | 0,hy=>cases hy; rfl
  | 1,hy=>cases hy; rfl
 ·intro j x y hx hy
  match j,hx,hy with
  | 0,hx,hy=>cases hx; cases hy; exact Sub.refl _
  | 1,hx,hy=>cases hx; cases hy; exact Sub.nil _ _ _
theorem a2d {out:List Nat} {i x:Nat} (h:out.length = i):val (out ++ [x]) = val out + 4294967296 ^ i * x:=by
 rw [aha,h]; simp [val]
theorem atm {o c P x y u w:Nat} (hu:u < 4294967296) (hw:w < 4294967296) (hc:c <= 1) (h:o + y = x + c * P) :
  (o + P * ((4294967296 + u - w - c) % 4294967296)) + (y + P * w) = (x + P * u) + (1 - (4294967296 + u - w - c) / 2 ^ 32) * (P * 4294967296):=by
 have h0:(4294967296 + u - w - c) % 4294967296 + w + c = u + (1 - (4294967296 + u - w - c) / 2 ^ 32) * 4294967296:=by omega
 generalize (1 - (4294967296 + u - w - c) / 2 ^ 32) = q at *;generalize (4294967296 + u - w - c) % 4294967296 = r at *;grind
theorem ayr {a b out:List Nat} {c:Nat} (ha:Ws a) (hw:Ws out) (ho:out.length = a.length) (hle:val b <= val a)
  (h:val out + val (b.take a.length) = val (a.take a.length) + c * 4294967296 ^ a.length):val out = val a - val b:=by
 have hb:=ba9 b a.length;have h2:=abv a ha
 have h3:val (b.drop a.length) = 0:=by
  rcases Nat.eq_zero_or_pos (val (b.drop a.length)) with h4 | h4
  ·exact h4
  ·have:=mul_le_mul_left (4294967296 ^ a.length) h4; omega
 rw [h3,Nat.mul_zero,Nat.add_zero] at hb;rw [<- hb,take_length] at h;have h1:=abv out hw;rw [ho] at h1;cases c with
 | zero=>omega
 | succ c=>rw [Nat.succ_mul] at h; omega
theorem a2c {z:Int} {k:Nat} (h:Lz k z) (hk:k <= ac8):(ofInt z).ok:=⟨abd _,le_trans h.len hk⟩
theorem ayg {z:Int} {k:Nat} (h:Lz k z):(ofInt z).mag.length <= k:=h.len
theorem bb6 (x y:Int):(x - y).sign = ax4 x y:=by
 unfold ax4;have h:=ao3 (x - y)
 (repeat' split) <;> omega
end Go.Lw
namespace Go.Lw
open Go.Proofs
theorem agi (m:List Nat) (i:Nat) (hm:Ws m):FnC prog 290 [ws m, i64 i] (u64 (aac m i)):=by
 refine gF0 func290 ?_;refine gl ?_;refine gC (fun ht8=>?_) (fun ht8=>?_)
 ·simp [aaa] at ht8;have:=aar hm i;refine gi (ai3 (i:=i) ht8) ?_;refine gv (u64_in oz) ?_;refine gE1 ?_;rfl
 ·simp [aaa] at ht8;refine gE1 ?_;simp [u64,ak0 ht8]
theorem ar8 (w:Wh) (h:w.ok):FnC prog 285 [w.av] (bl w.valid):=by
 have hl:w.mag.length <= ac8:=h.2;refine gF0 func285 ?_;refine gl ?_;refine gC (fun ht6=>?_) (fun ht6=>?_)
 ·have h0 : w.mag = [] := by simpa [aaa] using ht6
  refine gE1 ?_;simp [bl,Wh.valid,h0]
 ·have h0 : w.mag.length ≠ 0 := by simpa [aaa] using ht6
  refine gl ?_;refine ga (ad9 oz oz) ?_;refine gi (ai3 (i:=w.mag.length - 1) oz) ?_;refine gE1 ?_;have h1:w.mag ≠ []:=fun h=>h0 (by rw [h]; rfl)
  simp only [bl,Wh.valid,if_neg h1,List.getLast?_eq_getElem?,aeb (show w.mag.length - 1 < w.mag.length by omega),aaa];congr 2;generalize aac w.mag _ = x;rw [Bool.eq_iff_iff]; simp
theorem ad0 (w:Wh) (h:w.ok):FnC prog 222 [w.av] (ws w.m):=by
 refine gF0 func222 ?_;refine gc (ar8 w h) ?_;refine gC (fun ht5=>?_) (fun ht5=>?_)
 ·have h0 : w.valid = false := by simpa [aaa] using ht5
  refine gR ?_;exact adv (by rw [show w.m = [] by simp [Wh.m,h0]]; exact Sub.nil _ _ _)
 ·have h0 : w.valid = true := by simpa [aaa] using ht5
  refine gE1 ?_;simp only [Wh.m,h0]; rfl
theorem ac0 (w:Wh) (h:w.ok):FnC prog 223 [w.av] (bl w.n):=by
 refine gF0 func223 ?_;refine gc (ar8 w h) ?_;refine gE1 ?_;simp only [Wh.n,bl]; cases w.valid <;> rfl
theorem amh (d:Nat) (hd:Nat.blt d 1000 = true) (m:List Nat) (hm:Ws m) (hb:m.length <= big) :
  Con prog 228 [ws m] [] (.ms d 1 0 (aap (val m)).length) [(d,some (.row 1 (m.map u32)))]:=by
 have hb':=hb;unfold big at hb;refine gF func228 (fun k z h=>by cases h) ?_;refine gs (acy T27 rfl T218 rfl rfl rfl) ?_;refine gs (aa0 (.tmp rfl) rfl rfl (.tmp rfl) T27 rfl T218 rfl rfl (by simp only [length_map]; omega) rfl rfl) ?_;refine gL1 [] [6] (fun (n:Nat)=>[(3,some (.ms 6 1 0 n))]) (fun _=>[]) (fun n=>n <= m.length /\ val (m.take n) = val m) (fun n=>n) m.length ⟨le_refl _,by rw [take_length]⟩ ?_ (h1:=(.cons rfl (Sub.of (by rw [length_map,Nat.zero_add])) .nil));rintro n ⟨hn,hv⟩ K1 hK1;refine gaG (fun h=>(ad9 (by simp [aaa] at h; omega) (by unfold ac8; omega))) ?_;refine gs (acj rfl rfl rfl (fun h=>aas (n:=n - 1) (.opt rfl (o1 h)) (.opt rfl (o1 h)) T27 rfl T218 rfl oz (by simp [aaa] at h; omega) rfl)) ?_;refine gs (acj rfl rfl rfl (fun h=>aaw (.opt rfl (o1 h)) rfl (ai3 (i:=n - 1) (by simp [aaa] at h; omega)) T218 rfl rfl rfl)) ?_;refine gC (fun ht18=>?_) (fun ht18=>?_)
 ·have ht18 : 0 < n /\ aac m (n - 1) = 0 := by simpa [aaa] using ht18
  refine ga (ad9 oz (by unfold ac8; omega)) ?_;refine gs (anj (.tmp rfl) (.none _) (.some _ (.tmp rfl) oz) T27 rfl T218 rfl oz oz rfl) ?_;exact gK1 hK1 (n - 1) ⟨by omega,by have h:=@aai m (n - 1); rw [show n - 1 + 1 = n by omega,ht18.2] at h; simp at h; omega⟩ (hw:=Wk.of (.cons rfl (Sub.of (by congr 1)) .nil) (.k .nil))
 ·have ht18 : 0 < n -> aac m (n - 1) ≠ 0 := by simpa [aaa] using ht18
  have hn1:=ban hm hn hv (by rcases Nat.eq_zero_or_pos n with h | h; (exact .inl h); exact .inr (ht18 h));subst hn1;refine gR ?_;exact Fin.own1 rfl hd rfl
theorem ag7 (m:List Nat) (hm:Ws m) (hb:m.length <= big):FnC prog 228 [ws m] (ws (aap (val m))):=by
 have h:=Con.freeze (by rw [length_map,Nat.zero_add]; exact a3u hm) (amh 0 rfl m hm hb)
 rwa [drop_zero,<- map_take,ayv hm] at h
theorem acz (b:Bool) (m:List Nat) (hm:Ws m) (hb:m.length <= big):FnC prog 132 [bl b, ws m] (zA (sgn b (val m))):=by
 refine gF0 func132 ?_;refine gc (ag7 m hm hb) ?_;refine gl ?_;refine gC (fun ht9=>?_) (fun ht9=>?_)
 ·have h0:val m = 0:=by
   have:=aaq (val m);have h9:aap (val m) = []:=List.length_eq_zero_iff.1 (by simpa [aaa] using ht9);rw [h9] at this;exact this.symm
  refine gR ?_;exact adv (by rw [h0,show sgn b 0 = 0 by cases b <;> rfl]; exact boa)
 ·have h0:val m ≠ 0:=by
   intro h;rw [h] at ht9;cases ht9
  refine gE1 ?_
  rw [show zA (sgn b (val m)) = .agg [bl b, ws (aap (val m))] by
   unfold zA ofInt Wh.av;rw [show (sgn b (val m)).natAbs = val m by unfold sgn; split <;> omega,show decide (sgn b (val m) < 0) = b by cases b <;> simp [sgn] <;> omega]]
theorem ajd (a b:List Nat) (ha:Ws a) (hb:Ws b):FnC prog 279 [ws a, ws b] (i64 (if val a < val b then -1 else if val b < val a then 1 else 0)):=by
 refine gF0 func279 ?_ (0,0);refine bm7 (t:=0) rfl (fun hla=>?_);refine bm7 (t:=1) rfl (fun hlb=>?_);unfold ac8 at hla hlb;refine go ?_;refine gl ?_;refine gl ?_;refine gs (a5v (.tmp rfl) (.tmp rfl) rfl) ?_;refine ga (abi oz) ?_;refine gL1 [0,1] [] (fun (n:Nat)=>[(5,some (i64 ((n:Int) - 1)))]) (fun _=>[]) (fun n=>n <= 281474976710656 /\ val (a.drop n) = val (b.drop n)) (fun n=>n) (max a.length b.length) ⟨by omega,by rw [drop_eq_nil_of_le oz,drop_eq_nil_of_le oz]⟩ ?_ (h1:=(.cons rfl (Sub.int oz) .nil));rintro n ⟨hn,hd⟩ K1 hK1;refine gC (fun ht13=>?_) (fun ht13=>?_)
 ·have hn0 : 1 <= n := by have := ht13; simp [aaa] at this; omega
  obtain ⟨k,rfl⟩:∃ k,n = k + 1:=⟨n - 1,by omega⟩
  have hk:((k + 1:Nat):Int) - 1 = (k:Int):=by omega
  rw [hk];refine gc (agi a k ha) ?_;refine gc (agi b k hb) ?_;refine gC (fun ht22=>?_) (fun ht22=>?_)
  ·have h3 : aac a k ≠ aac b k := by simpa [aaa, Int.ofNat_inj] using ht22
   refine gc (agi a k ha) ?_;refine gc (agi b k hb) ?_;refine gC (fun ht29=>?_) (fun ht29=>?_)
   ·have h4 : aac a k < aac b k := by simpa [aaa] using ht29
    have h5:=a25 ha hd h4;refine gE1 ?_;simp [i64,h5]
   ·have h4 : aac b k < aac a k := by have : aac b k <= aac a k := (by simpa [aaa] using ht29); omega
    have h5:=a25 hb hd.symm h4;refine gE1 ?_;simp [i64,h5,Nat.lt_asymm h5]
  ·have h3 : aac a k = aac b k := by simpa [aaa, Int.ofNat_inj] using ht22
   refine ga (abi oz) ?_;exact gK1 hK1 k ⟨by omega,by rw [akn a,akn b,hd,h3]⟩
 ·have hn0 : n = 0 := by have := ht13; simp [aaa] at this; omega
  subst hn0;refine gE1 ?_;simp at hd; simp [i64,hd]
end Go.Lw
namespace Go.Lw
open Go.Proofs
theorem an9 (a b:List Nat) (ha:Ws a) (hb:Ws b) (la:a.length < big) (lb:b.length < big):FnC prog 226 [ws a, ws b] (ws (aap (val a + val b))):=by
 unfold big at la lb;obtain ⟨n,hn⟩:∃ n,n = max a.length b.length + 1:=⟨_,rfl⟩
 refine gF0 func226 ?_;refine gl ?_;refine gl ?_;refine gs (a5v (.tmp rfl) (.tmp rfl) rfl) ?_;refine ga (show _ = (n:Int) by rw [aa7 oz]; omega) ?_;refine gW (Wk.virt 900 1 rfl) ?_;refine gL3 [0,1,14] [] (fun (out:List Nat) (c i:Nat)=>[(5,some (.ms 900 1 0 i)),(6,some (u64 c)),(15,some (i64 i))]) (fun out _ _=>[(900,some (.row 1 (out.map u32)))]) (fun out c i=>out.length = i /\ i <= n /\ Ws out /\ c <= 1 /\ val out + c * 4294967296 ^ i = val (a.take i) + val (b.take i)) (fun _ _ i=>n - i) ([]) 0 0 ⟨rfl,by omega,arc,by omega,by simp [val]⟩ ?_;rintro out c i ⟨ho,hi,hw,hc,hv⟩ K1 hK1;refine gC (fun ht16=>?_) (fun ht16=>?_) (st2:=(9,0))
 ·have hin : i < n := by simpa [aaa] using ht16
  have h1:=aar ha i;have h2:=aar hb i;obtain ⟨s,hs⟩:∃ s,s = c + (aac a i + aac b i):=⟨_,rfl⟩
  have h3:=aqr (u:=aac a i) (w:=aac b i) hv;rw [<- hs] at h3;refine gc (by apply agi <;> assumption) ?_;refine gc (by apply agi <;> assumption) ?_;refine ga (afn oz) ?_;refine ga ((afn oz).trans (show _ = (s:Int) by congr 1; omega)) ?_;refine gv (abk _) ?_;refine gs (aa0 (.tmp rfl) rfl (by rw [length_map,ho]) (.tmp rfl) T27 rfl T218 rfl rfl (by simp; omega) rfl rfl) ?_;refine gs (ad4 (.tmp rfl) (.const _) oz (ad5 _ 32 oz) rfl) ?_ (8,0);refine gW (Wk.of (sl:=[(0,some (ws a)),(1,some (ws b)),(5,some (.ms 31 1 0 (i + 1))),(6,some (u64 (s / 2 ^ 32))),(14,some (i64 n)),(15,some (i64 i))]) (hp:=[(31,some (.row 1 ((out ++ [s % 4294967296]).map u32)))]) aa6 (.cons rfl (BlkSub.of (by rw [map_append]; rfl)) .nil)) ?_ (8,0);refine gW (Wk.rekey (k:=31) (d:=900) rfl rfl) ?_;refine ga (aa7 oz) ?_;exact gK3 hK1 (out ++ [s % 4294967296]) (s / 2 ^ 32) (i + 1) ⟨by simp [ho],by omega,a3m hw (axe oz),by omega,by rw [a2d ho,aai,aai,Nat.pow_succ]; exact h3⟩
 ·have hin : i = n := by have : n <= i := (by simpa [aaa] using ht16); omega
  refine gW ((Wk.freeze (k:=900) rfl).trans <| Wk.of (sl:=[(5,some (ws out))]) (hp:=[]) (.cons rfl (Sub.of (abq (by simp [ho]))) .nil) .nil) ?_;refine gc (ag7 out hw (by unfold big; omega)) ?_;refine gE1 ?_;subst hin;rw [a3i ha hb hn ho (by rw [aaz (l:=out) oz]; exact hv)]
theorem al4 (a b:List Nat) (ha:Ws a) (hb:Ws b) (la:a.length < big) (hle:val b <= val a):FnC prog 227 [ws a, ws b] (ws (aap (val a - val b))):=by
 unfold big at la;obtain ⟨n,hn⟩:∃ n,n = a.length:=⟨_,rfl⟩
 refine gF0 func227 ?_;refine gl ?_;refine gW (Wk.virt 900 1 rfl) ?_;refine gL3 [0,1] [] (fun (out:List Nat) (c i:Nat)=>[(5,some (.ms 900 1 0 i)),(6,some (u64 c)),(10,some (i64 n)),(11,some (i64 i))]) (fun out _ _=>[(900,some (.row 1 (out.map u32)))]) (fun out c i=>out.length = i /\ i <= n /\ Ws out /\ c <= 1 /\ val out + val (b.take i) = val (a.take i) + c * 4294967296 ^ i) (fun _ _ i=>n - i) ([]) 0 0 ⟨rfl,by omega,arc,by omega,by simp [val]⟩ ?_ (h1:=(.k (.k (.cons rfl (Sub.int (by rw [hn])) (.k .nil)))))
 rintro out c i ⟨ho,hi,hw,hc,hv⟩ K1 hK1;refine gC (fun ht12=>?_) (fun ht12=>?_) (st2:=(9,0))
 ·have hin : i < n := by simpa [aaa] using ht12
  have h1:=aar ha i;have h2:=aar hb i;obtain ⟨s,hs⟩:∃ s,s = 4294967296 + aac a i - aac b i - c:=⟨_,rfl⟩
  have h3:=atm h1 h2 hc hv;rw [<- hs] at h3;refine gc (by apply agi <;> assumption) ?_;refine ga ((afn (x:=4294967296) oz)) ?_;refine gc (by apply agi <;> assumption) ?_;refine ga ((ahd oz oz).trans (by rw [if_pos oz])) ?_;refine ga ((ahd oz oz).trans (show _ = (s:Int) by rw [if_pos oz]; congr 1; omega)) ?_;refine gv (abk _) ?_;refine gs (aa0 (.tmp rfl) rfl (by rw [length_map,ho]) (.tmp rfl) T27 rfl T218 rfl rfl (by simp; omega) rfl rfl) ?_;refine gs (ad4 (.tmp rfl) (.const _) oz (ad5 _ 32 oz) rfl) ?_;refine ga ((ahd (x:=1) oz oz).trans (by rw [if_pos oz])) ?_ (8,0);refine gW (Wk.of (sl:=[(0,some (ws a)),(1,some (ws b)),(5,some (.ms 28 1 0 (i + 1))),(6,some (u64 (1 - s / 2 ^ 32:Nat))),(10,some (i64 n)),(11,some (i64 i))]) (hp:=[(28,some (.row 1 ((out ++ [s % 4294967296]).map u32)))]) aa6 (.cons rfl (BlkSub.of (by rw [map_append]; rfl)) .nil)) ?_ (8,0);refine gW (Wk.rekey (k:=28) (d:=900) rfl rfl) ?_;refine ga (aa7 oz) ?_;exact gK3 hK1 (out ++ [s % 4294967296]) (1 - s / 2 ^ 32) (i + 1) ⟨by simp [ho],by omega,a3m hw (axe oz),by omega,by rw [a2d ho,aai,aai,Nat.pow_succ]; exact h3⟩
 ·have hin : i = n := by have : n <= i := (by simpa [aaa] using ht12); omega
  refine gW ((Wk.freeze (k:=900) rfl).trans <| Wk.of (sl:=[(5,some (ws out))]) (hp:=[]) (.cons rfl (Sub.of (abq (by simp [ho]))) .nil) .nil) ?_;refine gc (ag7 out hw (by unfold big; omega)) ?_;refine gE1 ?_;subst hin;subst hn;rw [ayr ha hw ho hle hv]
theorem az4 (a b:List Nat) (ha:Ws a) (hb:Ws b) (la:a.length + b.length <= big):FnC prog 280 [ws a, ws b] (ws (aap (val a * val b))):=by
 have la':=la;unfold big at la;refine gF0 func280 ?_;refine gl ?_;refine gl ?_;refine ga (aeh (by unfold ac8; omega) (by unfold ac8; omega)) ?_;refine gs (agr (.tmp rfl) T27 rfl T218 rfl rfl oz (by dsimp only; omega) rfl) ?_;refine gl ?_;refine gL2 [0,1,17] [] (fun (out:List Nat) (i:Nat)=>[(5,some (.ms 15 1 0 (a.length + b.length))),(18,some (i64 i))]) (fun out _=>[(15,some (.row 1 (out.map u32)))]) (fun out i=>out.length = a.length + b.length /\ i <= a.length /\ Ws out /\ val (out.take (i + b.length)) = val (a.take i) * val b) (fun _ i=>a.length - i) (List.replicate (a.length + b.length) 0) 0 ⟨by simp,by omega,aly _,by simp [val,amp]⟩ ?_ (h2:=(.cons rfl (BlkSub.of (by rw [map_replicate]; rfl)) .nil))
 rintro out i ⟨ho,hi,hw,hv⟩ K1 hK1;refine gC (fun ht19=>?_) (fun ht19=>?_) (st2:=(14,0))
 ·have hin : i < a.length := by simpa [aaa] using ht19
  have h1:=aar ha i;refine gl ?_;refine gL3 [0,1,17,18,6,22] [] (fun (o:List Nat) (c k:Nat)=>[(5,some (.ms 15 1 0 (a.length + b.length))),(7,some (u64 c)),(23,some (i64 k))]) (fun o _ _=>[(15,some (.row 1 (o.map u32)))]) (fun o c k=>o.length = a.length + b.length /\ k <= b.length /\ Ws o /\ c < 4294967296 /\ val (o.take (i + b.length)) + c * 4294967296 ^ (i + k) = val (out.take (i + b.length)) + 4294967296 ^ i * (aac a i * val (b.take k))) (fun _ _ k=>b.length - k) out 0 0 ⟨ho,by omega,hw,by omega,by simp [val]⟩ ?_
  rintro o c k ⟨ho2,hk,hw2,hc,hv2⟩ K2 hK2;refine gC (fun ht24=>?_) (fun ht24=>?_)
  ·have hkn : k < b.length := by simpa [aaa] using ht24
   have h2:=aar hb k;have h3:=aar hw2 (i + k);have h4:=aqa h1 h2;obtain ⟨s,hs⟩:∃ s,s = c + (aac a i * aac b k + aac o (i + k)):=⟨_,rfl⟩
   have h5:=at4 (x:=s % 4294967296) (show i + k < o.length by omega) (show i + k < i + b.length by omega);have h6:=a3p h5 hs hv2;refine gi (awu (n:=i) oz (by first | omega | (simp; omega))) ?_;refine gv (u64_in oz) ?_;refine gi (awu (n:=k) oz (by first | omega | (simp; omega))) ?_;refine gv (u64_in oz) ?_;refine ga (ave oz) ?_;refine ga (aeh (by unfold ac8; omega) (by unfold ac8; omega)) ?_;refine gs (aas (n:=i + k) (.tmp rfl) (.tmp rfl) T27 rfl T218 rfl oz (by first | omega | (simp; omega)) rfl) ?_;refine gs (aaw (.tmp rfl) rfl (ai3 (i:=i + k) oz) T218 rfl rfl rfl) ?_;refine gv (u64_in oz) ?_;refine ga (afn oz) ?_;refine ga ((afn oz).trans (show _ = (s:Int) by congr 1; omega)) ?_;refine gD ?_;refine ga (aeh (by unfold ac8; omega) (by unfold ac8; omega)) ?_;refine gv (abk _) ?_;refine gs (ad4 (.tmp rfl) (.const _) oz (ad5 _ 32 oz) rfl) ?_;refine gs (aas (n:=i + k) (.tmp rfl) (.tmp rfl) T27 rfl T218 rfl oz (by first | omega | (simp; omega)) rfl) ?_;refine gs (abb (.tmp rfl) rfl (ai3 (i:=i + k) oz) rfl (.tmp rfl) rfl rfl T218 rfl rfl) ?_;refine ga (aa7 oz) ?_;exact gK3 hK2 (o.set (i + k) (s % 4294967296)) (s / 2 ^ 32) (k + 1) ⟨by simp [ho2],by omega,afr hw2 oz,by omega,by rw [show i + (k + 1) = (i + k) + 1 from rfl,show s / 2 ^ 32 = s / 4294967296 from rfl,Nat.pow_succ,h6,aai]; simp only [pow_add]; grind⟩ (hw:=Wk.of aa6 (.cons rfl (BlkSub.of (by rw [map_set]; rfl)) .nil))
  ·have hkn : k = b.length := by have : b.length <= k := (by simpa [aaa] using ht24); omega
   subst hkn;have h5:=acl (x:=c) (show i + b.length < o.length by omega);rw [take_length] at hv2;refine gl ?_;refine ga (aeh (by unfold ac8; omega) (by unfold ac8; omega)) ?_;refine gv ((abk c).trans (by rw [Nat.mod_eq_of_lt hc])) ?_;refine gs (aas (n:=i + b.length) (.tmp rfl) (.tmp rfl) T27 rfl T218 rfl oz (by first | omega | (simp; omega)) rfl) ?_;refine gs (abb (.tmp rfl) rfl (ai3 (i:=i + b.length) oz) rfl (.tmp rfl) rfl rfl T218 rfl rfl) ?_;refine ga (aa7 oz) ?_;exact gK2 hK1 (o.set (i + b.length) c) (i + 1) ⟨by simp [ho2],by omega,afr hw2 hc,by rw [show i + 1 + b.length = i + b.length + 1 by omega,h5,aai]; simp only [pow_add] at *; grind⟩ (hw:=Wk.of aa6 (.cons rfl (BlkSub.of (by rw [map_set]; rfl)) .nil))
 ·have hin : i = a.length := by have : a.length <= i := (by simpa [aaa] using ht19); omega
  subst hin;rw [take_length,aaz oz] at hv;refine gW ((Wk.freeze (k:=15) rfl).trans <| Wk.of (sl:=[(5,some (ws out))]) (hp:=[]) (.cons rfl (Sub.of (abq (by simp [ho]))) .nil) .nil) ?_;refine gc (ag7 out hw oz) ?_;refine gE1 ?_;rw [hv]
end Go.Lw
namespace Go.Lw
open Go.Proofs
theorem an4 (a:Wh) (ha:a.ok):FnC prog 128 [a.av] (i64 a.z.sign):=by
 obtain ⟨e1,e2,e3⟩:=a2a ha;refine gF0 func128 ?_;refine gc (ad0 a ha) ?_;refine gl ?_;refine gC (fun ht6=>?_) (fun ht6=>?_)
 ·have h0 : a.m.length = 0 := by simpa [aaa] using ht6
  refine gE1 ?_;rw [e1 h0]; rfl
 ·have h0 : a.m.length ≠ 0 := by simpa [aaa] using ht6
  have hval:a.valid = true:=by
   unfold Wh.m at h0;split at h0
   ·assumption
   ·exact absurd rfl h0
  refine gc (ac0 a ha) ?_;refine gC (fun ht8=>?_) (fun ht8=>?_)
  ·have h1 : a.neg = true := by unfold Wh.n at ht8; rw [hval] at ht8; simpa using ht8
   refine gE1 ?_;rw [e2 h0 h1]; rfl
  ·have h1 : a.neg = false := by unfold Wh.n at ht8; rw [hval] at ht8; simpa using ht8
   refine gE1 ?_;rw [e3 h0 h1]; rfl
theorem axl (a:Wh) (ha:a.ok) (la:a.mag.length < big):FnC prog 129 [a.av] (zA (-a.z)):=by
 refine gF0 func129 ?_;refine gc (ac0 a ha) ?_;refine gc (ad0 a ha) ?_;refine gc (acz _ a.m (Wh.ws ha) (Nat.le_of_lt (Wh.small ha la))) ?_;refine gD ?_;refine gE1 ?_;rw [Wh.z_eq,<- bam]; rfl
theorem a74 (a b:Wh) (ha:a.ok) (hb:b.ok) (la:a.mag.length + b.mag.length <= big):FnC prog 210 [a.av, b.av] (zA (a.z * b.z)):=by
 have h1:=Wh.m_le (w:=a);have h2:=Wh.m_le (w:=b);have h3:(aap (val a.m * val b.m)).length <= a.m.length + b.m.length:=aal (by rw [pow_add]; exact Nat.mul_lt_mul'' (abv _ (Wh.ws ha)) (abv _ (Wh.ws hb)));refine gF0 func210 ?_;refine gc (ac0 a ha) ?_;refine gc (ac0 b hb) ?_;refine gc (ad0 a ha) ?_;refine gc (ad0 b hb) ?_;refine gc (az4 a.m b.m (Wh.ws ha) (Wh.ws hb) oz) ?_;refine gc (acz _ _ (abd _) oz) ?_;refine gD ?_;refine gE1 ?_;rw [aaq,bbj]; rfl
theorem aye (a b:Wh) (ha:a.ok) (hb:b.ok) (la:a.mag.length < big) (lb:b.mag.length < big):FnC prog 209 [a.av, b.av] (zA (a.z + b.z)):=by
 have h1:=Wh.m_le (w:=a);have h2:=Wh.m_le (w:=b);have hla:val a.m < 4294967296 ^ (max a.m.length b.m.length):=lt_of_lt_of_le (abv _ (Wh.ws ha)) (Nat.pow_le_pow_right oz oz);have hlb:val b.m < 4294967296 ^ (max a.m.length b.m.length):=lt_of_lt_of_le (abv _ (Wh.ws hb)) (Nat.pow_le_pow_right oz oz);have h3:(aap (val a.m + val b.m)).length <= max a.m.length b.m.length + 1:=aal (by rw [Nat.pow_succ]; omega);have h4:(aap (val a.m - val b.m)).length <= max a.m.length b.m.length:=aal oz;have h5:(aap (val b.m - val a.m)).length <= max a.m.length b.m.length:=aal oz;refine gF0 func209 ?_;refine gc (ad0 a ha) ?_;refine gc (ad0 b hb) ?_;refine gD ?_;refine gc (ac0 a ha) ?_;refine gc (ac0 b hb) ?_;refine gD ?_;refine gC (fun ht15=>?_) (fun ht15=>?_)
 ·have h0 : a.n = b.n := by simpa using ht15
  refine gc (ac0 a ha) ?_;refine gc (an9 a.m b.m (Wh.ws ha) (Wh.ws hb) oz oz) ?_;refine gc (acz _ _ (abd _) oz) ?_;refine gE1 ?_;rw [aaq,a2k h0]; rfl
 ·have h0 : a.n ≠ b.n := by simpa using ht15
  refine gc (ajd a.m b.m (Wh.ws ha) (Wh.ws hb)) ?_;refine gC (fun ht25=>?_) (fun ht25=>?_)
  ·have h6:val b.m <= val a.m:=by
    rcases lt_or_ge (val a.m) (val b.m) with h | h
    ·rw [if_pos h] at ht25; cases ht25
    ·exact h
   refine gc (ac0 a ha) ?_;refine gc (al4 a.m b.m (Wh.ws ha) (Wh.ws hb) oz oz) ?_;refine gc (acz _ _ (abd _) oz) ?_;refine gE1 ?_;rw [aaq,awm h0 h6]; rfl
  ·have h6:val a.m < val b.m:=by
    rcases lt_or_ge (val a.m) (val b.m) with h | h
    ·exact h
    ·rw [if_neg oz] at ht25; split at ht25 <;> cases ht25
   refine gc (ac0 b hb) ?_;refine gc (al4 b.m a.m (Wh.ws hb) (Wh.ws ha) oz oz) ?_;refine gc (acz _ _ (abd _) oz) ?_;refine gE1 ?_;rw [aaq,azu h0 oz]; rfl
theorem a2u (n:Int) (h:-9223372036854775808 <= n /\ n <= 9223372036854775807):FnC prog 50 [i64 n] (zA n):=by
 obtain ⟨N,hN⟩:∃ N,N = n.natAbs:=⟨_,rfl⟩
 have hNB:N < 18446744073709551616:=by omega
 refine gF0 func50 ?_;refine gv (show IntKind.u64.wrap n = ((n % 18446744073709551616:Int)) by simp only [IntKind.wrap,IntKind.signed,IntKind.bits,Bool.false_and,if_false,Bool.false_eq_true]; omega) ?_;refine gC (fun ht7=>?_) (fun ht7=>?_) (st2:=(77777,0))
 ·have hn : n < 0 := by simpa [aaa] using ht7
  refine gs (bhq (.tmp rfl) rfl) ?_ (4,0);refine gW (Wk.of (sl:=[(0,some (i64 n)),(2,some (.ptr 2 0)),(3,some (u64 N))]) (hp:=[(2,some (.box [.v (.bool false),.v (.slice none 0 0)]))]) (.k (.k (.cons rfl (Sub.int (by simp only [IntKind.wrap,IntKind.signed,IntKind.bits,Bool.false_and,if_false,Bool.false_eq_true]; omega)) .nil))) (.k .nil)) ?_;refine gv (abk _) ?_;refine gs (ad4 (.tmp rfl) (.const _) oz (ad5 _ 32 oz) rfl) ?_;refine gv ((abk _).trans (by rw [Nat.mod_eq_of_lt (show N / 2 ^ 32 < 4294967296 by omega)])) ?_;refine gc (acz (aaa .lss n 0) [N % 4294967296,N / 2 ^ 32] (bby hNB) (by unfold big; simp)) ?_;refine gE1 ?_;rw [a19 hNB,show sgn (aaa .lss n 0) N = n by simp only [sgn,aaa,decide_eq_true_eq]; split <;> omega]; rfl
 ·have hn : ¬ n < 0 := by simpa [aaa] using ht7
  refine gW (Wk.of (sl:=[(0,some (i64 n)),(2,some (.ptr 2 0)),(3,some (u64 N))]) (hp:=[(2,some (.box [.v (.bool false),.v (.slice none 0 0)]))]) (.k (.k (.cons rfl (Sub.int oz) .nil))) (.k .nil)) ?_;refine gv (abk _) ?_;refine gs (ad4 (.tmp rfl) (.const _) oz (ad5 _ 32 oz) rfl) ?_;refine gv ((abk _).trans (by rw [Nat.mod_eq_of_lt (show N / 2 ^ 32 < 4294967296 by omega)])) ?_;refine gc (acz (aaa .lss n 0) [N % 4294967296,N / 2 ^ 32] (bby hNB) (by unfold big; simp)) ?_;refine gE1 ?_;rw [a19 hNB,show sgn (aaa .lss n 0) N = n by simp only [sgn,aaa,decide_eq_true_eq]; split <;> omega]; rfl
theorem a6d (a b:Wh) (ha:a.ok) (hb:b.ok) (la:a.mag.length < big) (lb:b.mag.length < big):FnC prog 278 [a.av, b.av] (zA (a.z - b.z)):=by
 have h1:=(Wh.lz hb).neg;have h2:=ayg h1;refine gF0 func278 ?_;refine gc (axl b hb lb) ?_;refine gc (aye a (ofInt (-b.z)) ha (a2c h1 hb.2) la oz) ?_;refine gD ?_;refine gE1 ?_;rw [ab7,<- Int.sub_eq_add_neg]; rfl
theorem a91 (a b:Wh) (ha:a.ok) (hb:b.ok) (la:a.mag.length < big) (lb:b.mag.length < big):FnC prog 207 [a.av, b.av] (i64 (ax4 a.z b.z)):=by
 have h1:=(Wh.lz ha).sub (Wh.lz hb);have h2:=ayg h1;refine gF0 func207 ?_;refine gc (a6d a b ha hb la lb) ?_;refine gc (an4 (ofInt (a.z - b.z)) (a2c h1 (by unfold ac8; unfold big at la lb; omega))) ?_;refine gE1 ?_;rw [ab7,bb6]
end Go.Lw
namespace Go.Lw
theorem ak8 {A:List Nat} {n:Nat}:AV.lst 1 (((A.map u32).drop 0).take n) = ws (A.take n):=by
 rw [drop_zero,<- map_take]; rfl
theorem bgc (A:List Nat):(Blk.row 1 (A.map u32)).sc = true:=by
 simp only [Blk.sc,List.all_map];rw [all_eq_true];intro x _;rfl
theorem af4 {A:List Nat} {n i:Nat} (h:i < n):aac (A.take n) i = aac A i:=by
 simp [aac,h]
theorem amt {A:List Nat} {n i:Nat} (h:n <= i):aac (A.take n) i = 0:=ak0 (by simp; omega)
theorem a7i {x:Nat} (h:0 < x):adh x = adh (x / 2) + 1:=by
 rcases lt_or_ge x 2 with h1 | h1
 ·have : x = 1 := by omega
  subst this; decide
 ·have:=amq (x:=x) (k:=1) oz;rw [show x / 2 ^ 1 = x / 2 from rfl] at this;omega
theorem bel {a:List Nat} {n:Nat} (ha:Ws a) (na:Nz a) (hl:a.length = n + 1):adh (val a) = 32 * n + adh (aac a n):=by
 have ht:aac a n ≠ 0:=by
  refine na _ ?_;rw [List.getLast?_eq_getElem?,hl];exact aeb oz
 have hv:val a = val (a.take n) + 4294967296 ^ n * aac a n:=by rw [<- aai,aaz oz]
 have hlt:=aew ha n;have hp:(4294967296:Nat) ^ n = 2 ^ (32 * n):=by rw [Nat.pow_mul]
 rw [hp] at hv hlt
 have h1:val a / 2 ^ (32 * n) = aac a n:=by
  rw [hv,Nat.add_mul_div_left _ _ (Nat.pow_pos oz),Nat.div_eq_of_lt hlt,Nat.zero_add]
 have h2:2 ^ (32 * n) <= val a:=by
  have:=mul_le_mul_left (2 ^ (32 * n)) (show 1 <= aac a n by omega);omega
 rw [amq h2,h1]
theorem wr0 {o A:List Nat} {n v:Nat} (ho:Ws o) (hl:o.length = A.length) (hn:n <= A.length) (hd:o.drop n = A.drop n) (hv:val (o.take n) = v):o = wr A 0 (ad8 n v):=by
 have h1:win o 0 n = ad8 n v:=avh (apg ho _ _) (al6 oz) (by rw [win,drop_zero,hv]);rw [<- h1];exact bi8 (by simp) (by rw [Nat.zero_add]; exact hd) oz
end Go.Lw
namespace Go.Lw
open Go.Proofs
theorem aq4 (k:Nat) (A:List Nat) (n i:Nat) (hA:Ws A) (hn:n <= A.length) :
  Con prog 290 [.ms k 1 0 n,i64 i] [(k,some (.row 1 (A.map u32)))] (u64 (aac (A.take n) i)) [(k,some (.row 1 (A.map u32)))]:=by
 refine Con.borrow (args:=[ws (A.take n),i64 i]) k 1 (A.map u32) rfl rfl rfl ?_ rfl (fun k' x h=>by cases h) (agi (A.take n) i (ads hA n));intro j x' hj
 match j,hj with
 | 0,hj=>cases hj; exact .inr ⟨0,n,rfl,by simpa using hn,by rw [ak8]; rfl⟩
 | 1,hj=>cases hj; exact .inl rfl
theorem as9 (k1 k2:Nat) (hk:k1 ≠ k2) (A D:List Nat) (n p:Nat) (hA:Ws A) (hD:Ws D) (hn:n <= A.length) (hp:p <= D.length) :
  Con prog 279 [.ms k1 1 0 n, .ms k2 1 0 p] [(k1, some (.row 1 (A.map u32))), (k2, some (.row 1 (D.map u32)))]
   (i64 (if val (A.take n) < val (D.take p) then -1 else if val (D.take p) < val (A.take n) then 1 else 0)) [(k1,some (.row 1 (A.map u32))),(k2,some (.row 1 (D.map u32)))]:=by
 have h1:Con prog 279 [ws (A.take n), .ms k2 1 0 p] [(k2, some (.row 1 (D.map u32)))]
   (i64 (if val (A.take n) < val (D.take p) then -1 else if val (D.take p) < val (A.take n) then 1 else 0)) [(k2,some (.row 1 (D.map u32)))]:=by
  refine Con.borrow (args:=[ws (A.take n),ws (D.take p)]) k2 1 (D.map u32) rfl rfl rfl ?_ rfl (fun k' x h=>by cases h) (ajd (A.take n) (D.take p) (ads hA n) (ads hD p));intro j x' hj
  match j,hj with
  | 0,hj=>cases hj; exact .inl rfl
  | 1,hj=>cases hj; exact .inr ⟨0,p,rfl,by simpa using hp,by rw [ak8]; rfl⟩
 refine Con.borrow (args:=[ws (A.take n),.ms k2 1 0 p]) k1 1 (A.map u32) ?_ ?_ rfl ?_ rfl ?_ h1
 ·rw [aad,if_neg hk]; rfl
 ·rw [aad,if_neg hk]; rfl
 ·intro j x' hj
  match j,hj with
  | 0,hj=>cases hj; exact .inr ⟨0,n,rfl,by simpa using hn,by rw [ak8]; rfl⟩
  | 1,hj=>cases hj; exact .inl rfl
 ·intro k' x h;obtain ⟨_,h⟩:=aez h;cases h; exact bgc D
theorem as7 (k:Nat) (A b:List Nat) (n:Nat) (hA:Ws A) (hb:Ws b) (hn:n <= A.length) :
  Con prog 279 [.ms k 1 0 n, ws b] [(k, some (.row 1 (A.map u32)))]
   (i64 (if val (A.take n) < val b then -1 else if val b < val (A.take n) then 1 else 0)) [(k,some (.row 1 (A.map u32)))]:=by
 refine Con.borrow (args:=[ws (A.take n),ws b]) k 1 (A.map u32) rfl rfl rfl ?_ rfl (fun k' x h=>by cases h) (ajd (A.take n) b (ads hA n) hb);intro j x' hj
 match j,hj with
 | 0,hj=>cases hj; exact .inr ⟨0,n,rfl,by simpa using hn,by rw [ak8]; rfl⟩
 | 1,hj=>cases hj; exact .inl rfl
theorem a46 (a:List Nat) (ha:Ws a) (na:Nz a) (la:a.length <= big):FnC prog 289 [ws a] (i64 (adh (val a))):=by
 unfold big at la;refine gF0 func289 ?_;refine gl ?_;refine gC (fun ht7=>?_) (fun ht7=>?_)
 ·have h0 : a = [] := List.length_eq_zero_iff.1 (by simpa [aaa] using ht7);refine gE1 ?_;subst h0; rfl
 ·have h0 : a.length ≠ 0 := by simpa [aaa] using ht7
  obtain ⟨n,hn⟩:∃ n,a.length = n + 1:=⟨a.length - 1,by omega⟩
  have hB:=bel ha na hn;have ht:=aar ha n;refine gl ?_;refine ga (show _ = (n:Int) by rw [abi oz]; omega) ?_;refine ga (show _ = ((32 * n:Nat):Int) by rw [ap2 oz]; omega) ?_;refine gl ?_;refine ga (show _ = (n:Int) by rw [abi oz]; omega) ?_;refine gi (awu (n:=n) oz (by first | omega | (simp; omega))) ?_;refine gL2 [] [] (fun (x c:Nat)=>[(3,some (i64 c)),(4,some (u32 x))]) (fun _ _=>[]) (fun x c=>x < 4294967296 /\ c <= 281474976710656 /\ c + adh x = adh (val a)) (fun x _=>x) (aac a n) (32 * n) ⟨ht,by omega,hB.symm⟩ ?_;rintro x c ⟨hx,hc,hv⟩ K1 hK1;refine gC (fun ht19=>?_) (fun ht19=>?_)
  ·have hx0 : 0 < x := by simpa [aaa] using ht19
   have h2:=a7i hx0
   have h3:adh (val a) <= 32 * n + 32:=by
    have:=(a08 (x:=aac a n)  (by
     refine na _ ?_;rw [List.getLast?_eq_getElem?,hn];exact aeb oz) ht).1
    omega
   refine ga (show _ = ((c + 1:Nat):Int) by rw [aa7 oz]; omega) ?_;refine gs (ad4 (.tmp rfl) (.const _) oz (an7 x 1 oz) rfl) ?_;exact gK2 hK1 (x / 2 ^ 1) (c + 1) ⟨by omega,by omega,by rw [show x / 2 ^ 1 = x / 2 from rfl]; omega⟩
  ·have hx0 : x = 0 := by have : x <= 0 := (by simpa [aaa] using ht19); omega
   subst hx0;refine gE1 ?_;rw [<- hv]; rfl
theorem aq6 (A:List Nat) (n:Nat) (hA:Ws A) (hn:n <= A.length) (la:A.length <= big) :
  Con prog 288 [.ms 1000 1 0 n] [(1000,some (.row 1 (A.map u32)))] (.ms 1000 1 0 (aap (val (A.take n))).length) [(1000,some (.row 1 (A.map u32)))]:=by
 unfold big at la;refine gF func288 (fun k z h=>aa3 h) ?_;refine gL1 [] [1000] (fun (j:Nat)=>[(0,some (.ms 1000 1 0 j))]) (fun _=>[]) (fun j=>j <= n /\ val (A.take j) = val (A.take n)) (fun j=>j) n ⟨le_refl _,rfl⟩ ?_;rintro j ⟨hj,hv⟩ K1 hK1;refine gaG (fun h=>(ad9 (by simp [aaa] at h; omega) (by unfold ac8; omega))) ?_;refine gs (acj rfl rfl rfl (fun h=>aas (n:=j - 1) (.opt rfl (o1 h)) (.opt rfl (o1 h)) T27 rfl T218 rfl oz (by simp [aaa] at h; omega) rfl)) ?_;refine gs (acj rfl rfl rfl (fun h=>aaw (.opt rfl (o1 h)) rfl (ai3 (i:=j - 1) (by simp [aaa] at h; omega)) T218 rfl rfl rfl)) ?_;refine gC (fun ht14=>?_) (fun ht14=>?_)
 ·have ht14 : 0 < j /\ aac A (j - 1) = 0 := by simpa [aaa] using ht14
  refine ga (ad9 oz (by unfold ac8; omega)) ?_;refine gs (anj (.tmp rfl) (.none _) (.some _ (.tmp rfl) oz) T27 rfl T218 rfl oz oz rfl) ?_;exact gK1 hK1 (j - 1) ⟨by omega,by have h:=@aai A (j - 1); rw [show j - 1 + 1 = j by omega,ht14.2] at h; simp at h; omega⟩ (hw:=Wk.of (.cons rfl (Sub.of (by congr 1)) .nil) (.k .nil))
 ·have ht14 : 0 < j -> aac A (j - 1) ≠ 0 := by simpa [aaa] using ht14
  have hn1 := ban (m := A.take n) (n := j) (ads hA n) (by simp; omega) (by rw [List.take_take, Nat.min_eq_left hj]; exact hv) (by
   rcases Nat.eq_zero_or_pos j with h | h
   ·exact .inl h
   ·exact .inr (by rw [af4 oz]; exact ht14 h))
  subst hn1;refine gR ?_;exact Fin.own2 rfl rfl rfl
theorem ai7 (A:List Nat) (n:Nat) (hA:Ws A) (hn:n <= A.length) (la:A.length <= big) :
  Con prog 286 [.ms 1000 1 0 n] [(1000,some (.row 1 (A.map u32)))] (.ms 1000 1 0 (aap (val (A.take n) / 2)).length) [(1000,some (.row 1 ((wr A 0 (ad8 n (val (A.take n) / 2))).map u32)))]:=by
 have la':=la;unfold big at la;refine gF func286 (fun k z h=>aa3 h) ?_;refine gL2 [5] [] (fun (o:List Nat) (i:Nat)=>[(0,some (.ms 1000 1 0 n)),(6,some (i64 i))]) (fun o _=>[(1000,some (.row 1 (o.map u32)))]) (fun o i=>o.length = A.length /\ i <= n /\ Ws o /\ o.drop i = A.drop i /\ val (o.take i) = val (A.take n) / 2 ^ 1 % 4294967296 ^ i) (fun _ i=>n - i) A 0 ⟨rfl,by omega,hA,rfl,by simp [val,Nat.mod_one]⟩ ?_;rintro o i ⟨ho,hi,hw,hd,hv⟩ K1 hK1;refine gC (fun ht7=>?_) (fun ht7=>?_)
 ·have hin : i < n := by simpa [aaa] using ht7
  have e1:aac (o.take n) i = aac (A.take n) i:=by rw [af4 hin,af4 hin]; exact ae2 hd
  have hd2:o.drop (i + 1) = A.drop (i + 1):=by
   have h1:(o.drop i).drop 1 = (A.drop i).drop 1:=by rw [hd]
   rwa [drop_drop,drop_drop] at h1
  have e2:aac (o.take n) (i + 1) = aac (A.take n) (i + 1):=by
   rcases lt_or_ge (i + 1) n with h | h
   ·rw [af4 h,af4 h]; exact ae2 hd2
   ·rw [amt h,amt h]
  have b1:=aar (ads hA n) i;have b2:=aar (ads hA n) (i + 1);have h3:=azr (n:=1) (ads hA n) (show i < (A.take n).length by simp; omega) (show i < o.length by omega) oz hv;refine gt (aab (aq4 1000 o n i hw oz) (ev2 rfl rfl) hHa rfl rfl) ?_;refine gs (ad4 (.tmp rfl) (.const _) oz ((ad5 _ 1 oz).trans (by rw [e1])) rfl) ?_;refine ga (aeh (y:=1) (by unfold ac8; omega) (by unfold ac8; omega)) ?_;refine gt (aab (aq4 1000 o n (i + 1) hw oz) (ev2 rfl rfl) hHa rfl rfl) ?_;refine gs (ae3 (.tmp rfl) (.const _) oz ((aoc (n:=31) oz oz).trans (by rw [e2])) rfl) ?_;refine gs (afw (.tmp rfl) (.tmp rfl) rfl ((aiw oz oz).trans (by rw [a0u oz])) rfl) ?_;refine gv ((abk _).trans (show _ = (((aac (A.take n) i + aac (A.take n) (i + 1) * 2 ^ 32) / 2 ^ 1 % 4294967296:Nat):Int) by congr 1; omega)) ?_;refine gs (aas (n:=i) (.tmp rfl) (.tmp rfl) T27 rfl T218 rfl oz (by first | omega | (simp; omega)) rfl) ?_;refine gs (abb (.tmp rfl) rfl (ai3 (i:=i) oz) rfl (.tmp rfl) rfl rfl T218 rfl rfl) ?_;refine ga (aa7 oz) ?_;exact gK2 hK1 (o.set i ((aac (A.take n) i + aac (A.take n) (i + 1) * 2 ^ 32) / 2 ^ 1 % 4294967296)) (i + 1) ⟨by simp [ho],by omega,afr hw oz,afk hd,h3⟩ (hw:=Wk.of aa6 (.cons rfl (BlkSub.of (by rw [map_set]; rfl)) .nil))
 ·have hin : i = n := by have : n <= i := (by simpa [aaa] using ht7); omega
  subst hin;have hlt:=aew hA i;have hv':val (o.take i) = val (A.take i) / 2:=by rw [hv,Nat.mod_eq_of_lt oz]
  have h9:=wr0 hw ho hn hd hv';refine gt (aab (aq6 o i hw oz oz) (ev1 rfl) hHa rfl rfl) ?_;refine gR ?_;exact Fin.own2 rfl (by rw [<- h9]) (by rw [hv']; rfl)
theorem ath (A b:List Nat) (n:Nat) (hA:Ws A) (hb:Ws b) (hn:n <= A.length) (la:A.length <= big) (hle:val b <= val (A.take n)) :
  Con prog 287 [.ms 1000 1 0 n,ws b] [(1000,some (.row 1 (A.map u32)))] (.tup []) [(1000,some (.row 1 ((wr A 0 (ad8 n (val (A.take n) - val b))).map u32)))]:=by
 unfold big at la;refine gF func287 (fun k z h=>aa3 h) ?_;refine gL3 [1,8] [] (fun (o:List Nat) (c i:Nat)=>[(0,some (.ms 1000 1 0 n)),(4,some (u64 c)),(9,some (i64 i))]) (fun o _ _=>[(1000,some (.row 1 (o.map u32)))]) (fun o c i=>o.length = A.length /\ i <= n /\ Ws o /\ c <= 1 /\ o.drop i = A.drop i /\ val (o.take i) + val (b.take i) = val (A.take i) + c * 4294967296 ^ i) (fun _ _ i=>n - i) A 0 0 ⟨rfl,by omega,hA,by omega,rfl,by simp [val]⟩ ?_;rintro o c i ⟨ho,hi,hw,hc,hd,hv⟩ K1 hK1;refine gC (fun ht10=>?_) (fun ht10=>?_)
 ·have hin : i < n := by simpa [aaa] using ht10
  have e1:aac (o.take n) i = aac A i:=by rw [af4 hin]; exact ae2 hd
  have h1:=aar hA i;have h2:=aar hb i;obtain ⟨s,hs⟩:∃ s,s = 4294967296 + aac A i - aac b i - c:=⟨_,rfl⟩
  have h3:=atm h1 h2 hc hv;rw [<- hs] at h3;refine gt (aab (aq4 1000 o n i hw oz) (ev2 rfl rfl) hHa rfl rfl) ?_;refine ga ((afn (x:=4294967296) oz).trans (by rw [e1])) ?_;refine gc (agi b i hb) ?_;refine ga ((ahd oz oz).trans (by rw [if_pos oz])) ?_;refine ga ((ahd oz oz).trans (show _ = (s:Int) by rw [if_pos oz]; congr 1; omega)) ?_;refine gv (abk _) ?_;refine gs (ad4 (.tmp rfl) (.const _) oz (ad5 _ 32 oz) rfl) ?_;refine ga ((ahd (x:=1) oz oz).trans (by rw [if_pos oz])) ?_;refine gs (aas (n:=i) (.tmp rfl) (.tmp rfl) T27 rfl T218 rfl oz (by first | omega | (simp; omega)) rfl) ?_;refine gs (abb (.tmp rfl) rfl (ai3 (i:=i) oz) rfl (.tmp rfl) rfl rfl T218 rfl rfl) ?_;refine ga (aa7 oz) ?_;exact gK3 hK1 (o.set i (s % 4294967296)) (1 - s / 2 ^ 32) (i + 1) ⟨by simp [ho],by omega,afr hw oz,by omega,afk hd,by rw [acl oz,aai,aai,Nat.pow_succ]; exact h3⟩ (hw:=Wk.of aa6 (.cons rfl (BlkSub.of (by rw [map_set]; rfl)) .nil))
 ·have hin : i = n := by have : n <= i := (by simpa [aaa] using ht10); omega
  subst hin;have hl:(A.take i).length = i:=by simp; omega
  have h4:=ayr (a:=A.take i) (b:=b) (out:=o.take i) (ads hA i) (ads hw i) (by simp; omega) hle (by rw [hl,take_of_length_le (show (A.take i).length <= i by omega)]; exact hv);have h9:=wr0 hw ho hn hd h4;refine gR ?_;exact Fin.own2 rfl (by rw [<- h9]) rfl
end Go.Lw
namespace Go.Lw
theorem aw6 {x:Nat} (h:x <= 9223372036854775807):IntKind.i64.wrap ((x:Int).tdiv 32) = ((x / 32:Nat):Int):=by
 rw [show (32:Int) = ((32:Nat):Int) from rfl,<- Int.ofNat_tdiv];exact i64_in oz
theorem bl2 {x:Nat}:(x:Int).tmod 32 = ((x % 32:Nat):Int):=(Int.ofNat_tmod _ _).symm
theorem a6q (i:Nat):(4294967296:Nat) ^ i = 2 ^ (32 * i):=by rw [Nat.pow_mul]
theorem bmr {a:List Nat} (ha:Ws a) {k:Nat} (hk:k / 32 < a.length):aac a (k / 32) / 2 ^ (k % 32) % 2 = val a / 2 ^ k % 2:=by
 have h1:val a / 2 ^ k = (val a / 4294967296 ^ (k / 32)) / 2 ^ (k % 32):=by
  rw [a6q,Nat.div_div_eq_div_mul,<- pow_add]; congr 2; omega
 rw [h1,au3 ha _ oz,akn];generalize val (a.drop (k / 32 + 1)) = R
 have h2:4294967296 * R = 2 ^ (k % 32) * (2 * (2 ^ (31 - k % 32) * R)):=by
  have:(4294967296:Nat) = 2 ^ (k % 32) * (2 * 2 ^ (31 - k % 32)):=by
   rw [<- Nat.pow_succ',<- pow_add,show k % 32 + (31 - k % 32).succ = 32 by omega]
  conv=>lhs; rw [this]
  grind
 rw [h2,Nat.add_mul_div_left _ _ (Nat.pow_pos oz),Nat.add_mul_mod_self_left]
theorem bon {w c:Nat} (hc:c <= 1):w * 2 ^ 1 % 4294967296 ||| c = w * 2 ^ 1 % 4294967296 + c:=by
 have h:w * 2 ^ 1 % 4294967296 = (w % 2147483648) * 2 ^ 1:=by omega
 rw [h]; exact ayt oz
theorem bch {o c P rt w bit:Nat} (hw:w < 4294967296) (h:o + c * P = 2 * rt + bit) :
  (o + P * (w * 2 ^ 1 % 4294967296 + c)) + (w / 2 ^ 31) * (P * 4294967296) = 2 * (rt + P * w) + bit:=by
 have h0:w * 2 ^ 1 % 4294967296 + (w / 2 ^ 31) * 4294967296 = 2 * w:=by omega
 generalize w * 2 ^ 1 % 4294967296 = r at *;generalize w / 2 ^ 31 = q at *;grind
theorem bdv {q:List Nat} (hq:Ws q) {k Y:Nat} (hk:k / 32 < q.length) (h:val q = 2 ^ (k + 1) * Y) :
  aac q (k / 32) ||| 2 ^ (k % 32) = aac q (k / 32) + 2 ^ (k % 32) /\ aac q (k / 32) + 2 ^ (k % 32) < 4294967296:=by
 have h1:=au3 hq (k / 32) oz;rw [akn,h,a6q,show k + 1 = 32 * (k / 32) + (k % 32 + 1) by omega,pow_add,Nat.mul_assoc,Nat.mul_div_cancel_left _ (Nat.pow_pos oz)] at h1;have hw:=aar hq (k / 32);generalize aac q (k / 32) = w at *;generalize val (q.drop (k / 32 + 1)) = R at *
 have hB:(4294967296:Nat) = 2 ^ (k % 32 + 1) * 2 ^ (31 - k % 32):=by
  rw [<- pow_add,show k % 32 + 1 + (31 - k % 32) = 32 by omega]
 have h2:w % 2 ^ (k % 32 + 1) = 0:=by
  have h3:(w + 4294967296 * R) % 2 ^ (k % 32 + 1) = 0:=by rw [<- h1]; exact Nat.mul_mod_right _ _
  rw [hB,Nat.mul_assoc,Nat.add_mul_mod_self_left] at h3;exact h3
 have h4:w = 2 ^ (k % 32 + 1) * (w / 2 ^ (k % 32 + 1)):=by
  have:=Nat.div_add_mod w (2 ^ (k % 32 + 1)); omega
 have h5:2 ^ (k % 32) < 2 ^ (k % 32 + 1):=by rw [Nat.pow_succ]; have:=Nat.pow_pos (n:=k % 32) (show 0 < 2 by omega); omega
 constructor
 ·rw [h4]; exact (Nat.two_pow_add_eq_or_of_lt h5 _).symm
 ·have h6:w / 2 ^ (k % 32 + 1) < 2 ^ (31 - k % 32):=by
   rw [Nat.div_lt_iff_lt_mul (Nat.pow_pos oz),Nat.mul_comm,<- hB]; exact hw
  have h7:=mul_le_mul_left (2 ^ (k % 32 + 1)) (show w / 2 ^ (k % 32 + 1) + 1 <= 2 ^ (31 - k % 32) from h6);rw [<- hB,Nat.mul_add,<- h4] at h7;omega
theorem bht {q:List Nat} (hq:Ws q) {k Y:Nat} (hk:k / 32 < q.length) (h:val q = 2 ^ (k + 1) * Y) :
  val (q.set (k / 32) (aac q (k / 32) + 2 ^ (k % 32))) = 2 ^ k * (2 * Y + 1):=by
 have h1:=az1 (x:=aac q (k / 32) + 2 ^ (k % 32)) hk;rw [Nat.mul_add] at h1;have h2:4294967296 ^ (k / 32) * 2 ^ (k % 32) = 2 ^ k:=by rw [a6q,<- pow_add]; congr 1; omega
 rw [h2,h,Nat.pow_succ] at h1;grind
theorem bk0 {V Bv k:Nat} (hB:0 < Bv) :
  (Bv <= 2 * (V / 2 ^ (k + 1) % Bv) + V / 2 ^ k % 2 -> V / 2 ^ k % Bv = 2 * (V / 2 ^ (k + 1) % Bv) + V / 2 ^ k % 2 - Bv /\ V / 2 ^ k / Bv = 2 * (V / 2 ^ (k + 1) / Bv) + 1) /\
  (2 * (V / 2 ^ (k + 1) % Bv) + V / 2 ^ k % 2 < Bv -> V / 2 ^ k % Bv = 2 * (V / 2 ^ (k + 1) % Bv) + V / 2 ^ k % 2 /\ V / 2 ^ k / Bv = 2 * (V / 2 ^ (k + 1) / Bv)):=by
 have h1:V / 2 ^ (k + 1) = V / 2 ^ k / 2:=by rw [Nat.pow_succ,Nat.div_div_eq_div_mul]
 rw [h1];generalize V / 2 ^ k = X;have h2:=Nat.div_add_mod X 2;have h3:=Nat.div_add_mod (X / 2) Bv;have h4:=Nat.mod_lt (X / 2) hB;have h5:=Nat.mod_lt X (show 0 < 2 by omega);generalize X / 2 % Bv = r at *;generalize X / 2 / Bv = q at *;generalize X % 2 = b at *;generalize X / 2 = Y at *;constructor
 ·intro h;have:=ak1 (a:=X) (w:=Bv) (q:=2 * q + 1) (r:=2 * r + b - Bv) (by rw [Nat.mul_add,Nat.mul_one,show Bv * (2 * q) = 2 * (Bv * q) by grind]; omega) oz;exact ⟨this.2,this.1⟩
 ·intro h;have:=ak1 (a:=X) (w:=Bv) (q:=2 * q) (r:=2 * r + b) (by rw [show Bv * (2 * q) = 2 * (Bv * q) by grind]; omega) oz;exact ⟨this.2,this.1⟩
theorem bml {A l:List Nat} (h:l.length = A.length):wr A 0 l = l:=by
 unfold wr;rw [drop_eq_nil_of_le oz]; simp
theorem a3q {V:Nat}:V / 2 ^ adh V = 0:=Nat.div_eq_of_lt avs
theorem bfs {a:List Nat} (ha:Ws a) {k:Nat} (h:k < adh (val a)):k / 32 < a.length:=by
 rcases lt_or_ge (k / 32) a.length with h1 | h1
 ·exact h1
 ·exfalso;have h2:=abv a ha;rw [a6q] at h2;have h3:val a ≠ 0:=by intro h0; rw [h0] at h; simp [adh] at h
  have h4:=avt h3;have h5:2 ^ (32 * a.length) <= 2 ^ (adh (val a) - 1):=afu oz;omega
end Go.Lw
namespace Go.Lw
open Go.Proofs
theorem azp (a b:List Nat) (ha:Ws a) (hb:Ws b) (na:Nz a) (hb0:val b ≠ 0) (la:a.length < big) (lb:b.length < big) :
  FnC prog 225 [ws a,ws b] (.tup [ws (aap (val a / val b)),ws (aap (val a % val b))]):=by
 have la':=la;have lb':=lb;unfold big at la lb;obtain ⟨V,hV⟩:∃ V,V = val a:=⟨_,rfl⟩
 obtain ⟨Bv,hBv⟩:∃ Bv,Bv = val b:=⟨_,rfl⟩
 have hBp:0 < Bv:=by omega
 have hBl:2 * Bv <= 4294967296 ^ (b.length + 1):=by have:=abv b hb; rw [Nat.pow_succ]; omega
 have hbl:adh V <= 32 * a.length:=by
  rcases Nat.eq_zero_or_pos (adh V) with h | h
  ·omega
  ·have := bfs ha (k := adh V - 1) (by rw [<- hV]; omega);omega
 rw [<- hV,<- hBv];refine gF0 func225 ?_;refine gl ?_;refine gs (agr (.tmp rfl) T27 rfl T218 rfl rfl oz (by dsimp only; omega) rfl) ?_;refine gl ?_;refine ga (aeh (y:=1) (by unfold ac8; omega) (by unfold ac8; omega)) ?_;refine gs (agr (.tmp rfl) T27 rfl T218 rfl rfl oz (by dsimp only; omega) rfl) ?_;refine gc (hV ▸ a46 a ha na oz) ?_;refine ga (abi oz) ?_;refine gL3 [0,1] [] (fun (q r:List Nat) (i:Nat)=>[(6,some (.ms 13 1 0 a.length)),(7,some (.ms 17 1 0 (b.length + 1))),(8,some (i64 ((i:Int) - 1)))]) (fun q r _=>[(13,some (.row 1 (q.map u32))),(17,some (.row 1 (r.map u32)))]) (fun q r i=>q.length = a.length /\ r.length = b.length + 1 /\ Ws q /\ Ws r /\ i <= adh V /\ val r = V / 2 ^ i % Bv /\ val q = 2 ^ i * (V / 2 ^ i / Bv)) (fun _ _ i=>i) (List.replicate a.length 0) (List.replicate (b.length + 1) 0) (adh V) ⟨by simp,by simp,aly _,aly _,le_refl _,by rw [amp,a3q,Nat.zero_mod],by rw [amp,a3q,Nat.zero_div,Nat.mul_zero]⟩ ?_ (h2:=(.cons rfl (BlkSub.of (by rw [map_replicate]; rfl)) (.cons rfl (BlkSub.of (by rw [map_replicate]; rfl)) .nil)))
 rintro q r i ⟨hql,hrl,wq,wr',hi,hr,hq⟩ K1 hK1;refine gC (fun ht22=>?_) (fun ht22=>?_) (st2:=(15,0))
 ·have hi0 : 1 <= i := by have := ht22; simp [aaa] at this; omega
  obtain ⟨k,rfl⟩:∃ k,i = k + 1:=⟨i - 1,by omega⟩
  rw [show ((k + 1:Nat):Int) - 1 = (k:Int) by omega];have hka:=bfs ha (k:=k) (by rw [<- hV]; omega);have hbit:=bmr ha hka;have hwB:=aar ha (k / 32);rw [<- hV] at hbit;obtain ⟨bit,hbt⟩:∃ bit,bit = V / 2 ^ k % 2:=⟨_,rfl⟩
  have hb1:bit <= 1:=by omega
  have hrlt:=Nat.mod_lt (V / 2 ^ (k + 1)) hBp;have hdw:aac a (k / 32) / 2 ^ (k % 32) <= aac a (k / 32):=Nat.div_le_self _ _;refine gs (adg (.tmp rfl) (.const _) oz (aw6 oz) rfl) ?_;refine gi (awu (n:=k / 32) oz (by first | omega | (simp; omega))) ?_;refine gs (a3s (.tmp rfl) (.const _) oz bl2 rfl) ?_;refine gs (ad4 (.tmp rfl) (.tmp rfl) oz (an7 _ (k % 32) oz) rfl) ?_;refine gs (afw (.tmp rfl) (.const _) rfl ((aqh (y:=1) oz oz).trans (show _ = (bit:Int) by rw [Nat.and_one_is_mod,hbit,hbt])) rfl) ?_;refine gL3 [0,1,8,35] [13] (fun (o:List Nat) (c j:Nat)=>[(6,some (.ms 13 1 0 a.length)),(7,some (.ms 17 1 0 (b.length + 1))),(9,some (u32 c)),(36,some (i64 j))]) (fun o _ _=>[(17,some (.row 1 (o.map u32)))]) (fun o c j=>o.length = b.length + 1 /\ Ws o /\ j <= b.length + 1 /\ c <= 1 /\ o.drop j = r.drop j /\ val (o.take j) + c * 4294967296 ^ j = 2 * val (r.take j) + bit) (fun _ _ j=>b.length + 1 - j) r bit 0 ⟨hrl,wr',by omega,hb1,rfl,by simp [val]⟩ ?_
  rintro o c j ⟨hol,wo,hj,hc,hd,hv⟩ K2 hK2;refine gC (fun ht37=>?_) (fun ht37=>?_)
  ·have hjn : j < b.length + 1 := by have := ht37; simp [aaa] at this; omega
   have e1:aac o j = aac r j:=ae2 hd;have h1:=aar wr' j;have h3:=bch (w:=aac r j) h1 hv;refine gs (aas (n:=j) (.tmp rfl) (.tmp rfl) T27 rfl T218 rfl oz (by first | omega | (simp; omega)) rfl) ?_;refine gs (aaw (.tmp rfl) rfl (by rw [ai3 (show j < o.length by omega),e1]) T218 rfl rfl rfl) ?_;refine gs (ae3 (.tmp rfl) (.const _) oz (a8c (n:=1) oz) rfl) ?_;refine gs (afw (.tmp rfl) (.tmp rfl) rfl ((an3 oz oz).trans (by rw [bon hc])) rfl) ?_;refine gs (aas (n:=j) (.tmp rfl) (.tmp rfl) T27 rfl T218 rfl oz (by first | omega | (simp; omega)) rfl) ?_;refine gs (aaw (.tmp rfl) rfl (by rw [ai3 (show j < o.length by omega),e1]) T218 rfl rfl rfl) ?_;refine gs (ad4 (.tmp rfl) (.const _) oz (an7 _ 31 oz) rfl) ?_;refine gs (aas (n:=j) (.tmp rfl) (.tmp rfl) T27 rfl T218 rfl oz (by first | omega | (simp; omega)) rfl) ?_;refine gs (abb (.tmp rfl) rfl (ai3 (i:=j) oz) rfl (.tmp rfl) rfl rfl T218 rfl rfl) ?_;refine gD ?_;refine ga (aa7 oz) ?_;exact gK3 hK2 (o.set j (aac r j * 2 ^ 1 % 4294967296 + c)) (aac r j / 2 ^ 31) (j + 1) ⟨by simp [hol],afr wo oz,by omega,by omega,afk hd,by rw [acl oz,aai]; rw [show 4294967296 ^ (j + 1) = 4294967296 ^ j * 4294967296 from Nat.pow_succ _ _]; exact h3⟩ (hw:=Wk.of aa6 (.cons rfl (BlkSub.of (by rw [map_set]; rfl)) (.k .nil)))
  ·have hjn : j = b.length + 1 := by have : b.length + 1 <= j := (by have := ht37; simp [aaa] at this; omega); omega
   subst hjn;rw [aaz (l:=r) oz,aaz (l:=o) oz,hr] at hv
   have hc0:c = 0:=by
    cases c with
    | zero=>rfl
    | succ c=>rw [Nat.succ_mul] at hv; omega
   subst hc0;rw [Nat.zero_mul,Nat.add_zero] at hv;have hot:o.take (b.length + 1) = o:=take_of_length_le oz;obtain ⟨d1,d2⟩:=bk0 (V:=V) (k:=k) hBp;rw [<- hbt] at d1 d2;have hcmp:=as7 17 o b (b.length + 1) wo hb oz;rw [hot,<- hBv,hv] at hcmp;have hqk:k / 32 < q.length:=by omega
   obtain ⟨w1,w2⟩:=bdv wq hqk hq;have w3:=bht wq hqk hq;refine gt (aab hcmp (ev2 rfl rfl) hHa rfl rfl) ?_;refine gC (fun ht58=>?_) (fun ht58=>?_)
   ·have hge:Bv <= 2 * (V / 2 ^ (k + 1) % Bv) + bit:=by
     rcases lt_or_ge (2 * (V / 2 ^ (k + 1) % Bv) + bit) Bv with h | h
     ·rw [if_pos h] at ht58; cases ht58
     ·exact h
    obtain ⟨d3,d4⟩:=d1 hge;have htk:=ath o b (b.length + 1) wo hb oz (by unfold big; omega) (by rw [hot,<- hBv,hv]; exact hge);rw [hot,<- hBv,hv,<- d3,bml (by rw [ab9,hol])] at htk;have hx2:V / 2 ^ k % Bv < 4294967296 ^ (b.length + 1):=by have:=Nat.mod_lt (V / 2 ^ k) hBp; omega
    refine gt (aab (Con.rekey 17 rfl rfl htk) (ev2 rfl rfl) hHa rfl rfl) ?_;refine gs (adg (.tmp rfl) (.const _) oz (aw6 oz) rfl) ?_;refine gs (aas (n:=k / 32) (.tmp rfl) (.tmp rfl) T27 rfl T218 rfl oz oz rfl) ?_;refine gs (aaw (.tmp rfl) rfl (ai3 (i:=k / 32) hqk) T218 rfl rfl rfl) ?_;refine gs (a3s (.tmp rfl) (.const _) oz bl2 rfl) ?_;refine gs (ae3 (.const _) (.tmp rfl) oz ((a8c (x:=1) (n:=k % 32) oz).trans (show _ = ((2 ^ (k % 32):Nat):Int) by rw [Nat.one_mul,Nat.mod_eq_of_lt (lt_of_le_of_lt (Nat.le_add_left _ _) w2)])) rfl) ?_;refine gs (afw (.tmp rfl) (.tmp rfl) rfl ((an3 (aar wq _) (lt_of_le_of_lt (Nat.le_add_left _ _) w2)).trans (by rw [w1])) rfl) ?_;refine gs (aas (n:=k / 32) (.tmp rfl) (.tmp rfl) T27 rfl T218 rfl oz oz rfl) ?_;refine gs (abb (.tmp rfl) rfl (ai3 (i:=k / 32) hqk) rfl (.tmp rfl) rfl rfl T218 rfl rfl) ?_;refine gD ?_;refine ga (abi oz) ?_;exact gK3 hK1 (q.set (k / 32) (aac q (k / 32) + 2 ^ (k % 32))) (ad8 (b.length + 1) (V / 2 ^ k % Bv)) k ⟨by simp [hql],ab9 _ _,afr wq w2,agw _ _,by omega,age _ _ hx2,by rw [w3,d4]⟩ (hw:=Wk.of aa6 (.cons rfl (BlkSub.of (by first | rfl | (rw [map_set]; rfl))) (.k .nil)))
   ·have hge:2 * (V / 2 ^ (k + 1) % Bv) + bit < Bv:=by
     rcases lt_or_ge (2 * (V / 2 ^ (k + 1) % Bv) + bit) Bv with h | h
     ·exact h
     ·rw [if_neg oz] at ht58; split at ht58 <;> cases ht58
    obtain ⟨d3,d4⟩:=d2 hge;refine ga (abi oz) ?_;exact gK3 hK1 q o k ⟨hql,hol,wq,wo,by omega,by rw [hv,d3],by rw [hq,d4,Nat.pow_succ,Nat.mul_assoc]⟩ (hw:=Wk.of aa6 (.cons rfl (BlkSub.of (by first | rfl | (rw [map_set]; rfl))) (.k .nil)))
 ·have hi0 : i = 0 := by have := ht22; simp [aaa] at this; omega
  subst hi0;refine gW ((Wk.freeze (k:=13) rfl).trans <| (Wk.freeze (k:=17) rfl).trans <| Wk.of (sl:=[(6,some (ws q)),(7,some (ws r))]) (hp:=[]) (.cons rfl (Sub.of (by rw [show AV.fz 13 1 (q.map u32) (.ms 13 1 0 a.length) = ws q from abq (by simp [hql])]; rfl)) (.cons rfl (Sub.of (abq (by simp [hrl]))) .nil)) .nil) ?_;refine gc (ag7 q wq oz) ?_;refine gc (ag7 r wr' (by unfold big; omega)) ?_;refine gE2 ?_;rw [hr,hq]; simp []
end Go.Lw
namespace Go.Lw
def GOk (L:Nat) (A:List Nat) (n:Nat):Prop:=Ws A /\ n <= A.length /\ A.length <= L /\ n = (aap (val (A.take n))).length
theorem a4b (v:Nat):aap v = ad8 (aap v).length v:=by
 have h:=ar5 (aap v) (abd _)
 rwa [aaq] at h
theorem afx {L:Nat} {A:List Nat} {n v:Nat} (h:GOk L A n) (hv:v <= val (A.take n)) :
  GOk L (wr A 0 (ad8 n v)) (aap v).length /\ val ((wr A 0 (ad8 n v)).take (aap v).length) = v /\ val ((wr A 0 (ad8 n v)).take n) = v:=by
 obtain ⟨hw,hn,hl,hN⟩:=h;have hlt:=aew hw n;have hvl:v < 4294967296 ^ n:=by omega
 have hle:(aap v).length <= n:=aal hvl
 have ht:(wr A 0 (ad8 n v)).take n = ad8 n v:=by
  unfold wr;rw [List.take_zero,nil_append,List.take_append_of_le_length (by rw [ab9]; omega),take_of_length_le (by rw [ab9]; omega)]
 have ht2:(wr A 0 (ad8 n v)).take (aap v).length = aap v:=by
  have h1:((wr A 0 (ad8 n v)).take n).take (aap v).length = (wr A 0 (ad8 n v)).take (aap v).length:=by rw [List.take_take,Nat.min_eq_left hle]
  rw [<- h1,ht,aow _ _ _ hle,<- a4b]
 have hlen:(wr A 0 (ad8 n v)).length = A.length:=anb (by rw [ab9]; omega);refine ⟨⟨a45 hw (agw _ _),by omega,by omega,by rw [ht2,aaq]⟩,by rw [ht2,aaq],by rw [ht,age _ _ hvl]⟩
theorem ael {L:Nat} {A:List Nat} {n:Nat} (h:GOk L A n) (hx:0 < val (A.take n)):0 < n /\ val (A.take n) % 2 = aac A 0 % 2:=by
 have hn:0 < n:=by
  rcases Nat.eq_zero_or_pos n with h0 | h0
  ·subst h0; simp [val] at hx
  ·exact h0
 refine ⟨hn,?_⟩;have:=akn (A.take n) 0;rw [drop_zero,af4 hn] at this;omega
theorem bej {L:Nat} {A:List Nat} {n:Nat} (h:GOk L A n):A.take n = aap (val (A.take n)):=by
 obtain ⟨hw,hn,hl,hN⟩:=h;have h1:=ayv (ads hw n);rw [<- hN,List.take_take,Nat.min_self] at h1;exact h1
theorem a1z {L:Nat} {A:List Nat} {n:Nat} (h:GOk L A n):n = 0 ↔ val (A.take n) = 0:=by
 constructor
 ·intro h0; subst h0; rfl
 ·intro h0;have h1:=h.2.2.2;rw [h0] at h1;exact h1
theorem a97 {x y:Nat} (hx:x % 2 = 0) (hy:y % 2 = 0):Nat.gcd x y = 2 * Nat.gcd (x / 2) (y / 2):=by
 rw [<- Nat.gcd_mul_left,Nat.mul_div_cancel' (Nat.dvd_of_mod_eq_zero hx),Nat.mul_div_cancel' (Nat.dvd_of_mod_eq_zero hy)]
theorem axo {x y:Nat} (hx:x % 2 = 0) (hy:y % 2 = 1):Nat.gcd (x / 2) y = Nat.gcd x y:=by
 have h1:x = 2 * (x / 2):=by omega
 have h2:Nat.Coprime 2 y:=by
  rw [Nat.Coprime,Nat.gcd_rec,hy]; rfl
 conv=>rhs; rw [h1]
 exact (Nat.Coprime.gcd_mul_left_cancel _ h2).symm
theorem a7a {x y:Nat} (h:y <= x):Nat.gcd (x - y) y = Nat.gcd x y:=Nat.gcd_sub_self_left h
theorem a2f {t L g V:Nat} (hg:0 < g) (h:2 ^ t * g <= V) (hV:V < 4294967296 ^ L):t < 32 * L:=by
 rw [a6q] at hV;have h1:=mul_le_mul_left (2 ^ t) (show 1 <= g from hg);rcases lt_or_ge t (32 * L) with h2 | h2
 ·exact h2
 ·have:=afu h2; omega
end Go.Lw
namespace Go.Lw
open Go.Proofs
theorem asd (A D:List Nat) (n p:Nat) (hA:Ws A) (hD:Ws D) (hn:n <= A.length) (hp:p <= D.length) (la:A.length <= big) (hle:val (D.take p) <= val (A.take n)) :
  Con prog 287 [.ms 901 1 0 n, .ms 902 1 0 p] [(902, some (.row 1 (D.map u32))), (901, some (.row 1 (A.map u32)))] (.tup [])
   [(902,some (.row 1 (D.map u32))),(901,some (.row 1 ((wr A 0 (ad8 n (val (A.take n) - val (D.take p)))).map u32)))]:=by
 have h1:=Con.rekey 901 rfl rfl (ath A (D.take p) n hA (ads hD p) hn la hle);refine Con.borrow (args:=[.ms 901 1 0 n,ws (D.take p)]) 902 1 (D.map u32) rfl rfl rfl ?_ rfl ?_ h1
 ·intro j x' hj
  match j,hj with
  | 0,hj=>cases hj; exact .inl rfl
  | 1,hj=>cases hj; exact .inr ⟨0,p,rfl,by simpa using hp,by rw [ak8]; rfl⟩
 ·intro k' x h;obtain ⟨_,h⟩:=aez h;cases h; exact bgc _
theorem bpc {A:List Nat} (hA:Ws A) {i:Nat}:az7 .and .u32 (aac A i:Int) 1 = ((aac A i % 2:Nat):Int) :=
 (aqh (y:=1) (aar hA i) oz).trans (by rw [Nat.and_one_is_mod])
theorem a6t (a b:List Nat) (ha:Ws a) (hb:Ws b) (na:Nz a) (nb:Nz b) (la:a.length + b.length < big):FnC prog 224 [ws a, ws b] (ws (aap (Nat.gcd (val a) (val b)))):=by
 have la':=la;unfold big at la;have ea:=aim ha na;have eb:=aim hb nb;obtain ⟨L,hL⟩:∃ L,L = a.length + b.length:=⟨_,rfl⟩
 obtain ⟨G,hG⟩:∃ G,G = Nat.gcd (val a) (val b):=⟨_,rfl⟩
 rw [<- hG];refine gF0 func224 ?_;refine gt (aab (amh 901 rfl a ha (by unfold big; omega)) (ev1 rfl) hHa rfl rfl) ?_;refine gt (aab (amh 902 rfl b hb (by unfold big; omega)) (ev1 rfl) hHa rfl rfl) ?_ (2,0);refine gW (Wk.of (sl:=[(0,some (.ms 901 1 0 a.length)),(1,some (.ms 902 1 0 b.length))]) (hp:=[(901,some (.row 1 (a.map u32))),(902,some (.row 1 (b.map u32)))]) (.cons rfl (Sub.of (by rw [ea])) (.cons rfl (Sub.of (by rw [eb])) .nil)) (.k (.k .nil))) ?_;refine gC (fun ht12=>?_) (fun ht12=>?_) (st1:=(3,0))
 ·have h0 : a = [] := List.length_eq_zero_iff.1 (by simpa [aaa] using ht12);refine gW ((Wk.freeze (k:=902) rfl).trans <| Wk.of (sl:=[(1,some (ws b))]) (hp:=[]) (.cons rfl (Sub.of (abq (by simp))) .nil) .nil) ?_;refine gE1 ?_;rw [hG,h0]; simp [val,eb]
 ·have h0 : a ≠ [] := fun h => by rw [h] at ht12; simp [aaa] at ht12
  refine gC (fun ht16=>?_) (fun ht16=>?_) (st1:=(5,0))
  ·have h1 : b = [] := List.length_eq_zero_iff.1 (by simpa [aaa] using ht16);refine gW ((Wk.freeze (k:=901) rfl).trans <| Wk.of (sl:=[(0,some (ws a))]) (hp:=[]) (.cons rfl (Sub.of (abq (by simp))) .nil) .nil) ?_;refine gE1 ?_;rw [hG,h1]; simp [val,ea]
  ·have h1 : b ≠ [] := fun h => by rw [h] at ht16; simp [aaa] at ht16
   have va:=al2 na h0;have vb:=al2 nb h1;have hGp:0 < G:=by rw [hG]; exact Nat.gcd_pos_of_pos_left _ va
   have hGa:G <= val a:=by rw [hG]; exact Nat.gcd_le_left _ va
   have vla:=abv a ha;refine gL5 [] [] (fun (A D:List Nat) (n p t:Nat)=>[(0,some (.ms 901 1 0 n)),(1,some (.ms 902 1 0 p)),(5,some (i64 t))]) (fun A D _ _ _=>[(901,some (.row 1 (A.map u32))),(902,some (.row 1 (D.map u32)))]) (fun A D n p t=>GOk L A n /\ GOk L D p /\ 0 < val (A.take n) /\ 0 < val (D.take p) /\ G = 2 ^ t * Nat.gcd (val (A.take n)) (val (D.take p))) (fun A _ n _ _=>val (A.take n)) a b a.length b.length 0 ⟨⟨ha,le_refl _,by omega,by rw [take_length,ea]⟩,⟨hb,le_refl _,by omega,by rw [take_length,eb]⟩,by rw [take_length]; exact va,by rw [take_length]; exact vb,by rw [take_length,take_length,hG]; simp⟩ ?_
   rintro A D n p t ⟨gA,gD,pA,pD,hg⟩ K1 hK1;refine gs (aas (n:=0) (.tmp rfl) (.const _) T27 rfl T218 rfl oz (by have:=(ael gA pA).1; omega) rfl) ?_;refine gs (aaw (.tmp rfl) rfl (ai3 (i:=0) (by have:=(ael gA pA).1; have:=gA.2.1; omega)) T218 rfl rfl rfl) ?_;refine gs (afw (.tmp rfl) (.const _) rfl (bpc gA.1) rfl) ?_;refine gs (acj rfl rfl rfl (fun h=>aas (n:=0) (.opt rfl (o1 h)) (.const _) T27 rfl T218 rfl oz (by have:=(ael gD pD).1; omega) rfl)) ?_;refine gs (acj rfl rfl rfl (fun h=>aaw (.opt rfl (o1 h)) rfl (ai3 (i:=0) (by have:=(ael gD pD).1; have:=gD.2.1; omega)) T218 rfl rfl rfl)) ?_;refine gs (acj rfl rfl rfl (fun h=>afw (.opt rfl (o1 h)) (.const _) rfl (bpc gD.1) rfl)) ?_;refine gC (fun ht29=>?_) (fun ht29=>?_)
   ·have hev:aac A 0 % 2 = 0 /\ aac D 0 % 2 = 0:=by
     have:=ht29;simp [aaa] at this;omega
    have xA:val (A.take n) % 2 = 0:=by rw [(ael gA pA).2]; exact hev.1
    have xD:val (D.take p) % 2 = 0:=by rw [(ael gD pD).2]; exact hev.2
    obtain ⟨k1,k2,k3⟩:=afx gA (v:=val (A.take n) / 2) oz;obtain ⟨m1,m2,m3⟩:=afx gD (v:=val (D.take p) / 2) oz;have ht:t < 32 * a.length:=a2f (Nat.gcd_pos_of_pos_left _ pA) (by rw [<- hg]; exact hGa) vla;refine gt (aab (Con.rekeyR 901 rfl (ai7 A n gA.1 gA.2.1 (by have:=gA.2.2.1; unfold big; omega))) (ev1 rfl) hHa rfl rfl) ?_;refine gt (aab (Con.rekeyR 902 rfl (ai7 D p gD.1 gD.2.1 (by have:=gD.2.2.1; unfold big; omega))) (ev1 rfl) hHa rfl rfl) ?_;refine ga (show _ = ((t + 1:Nat):Int) by rw [aa7 oz]; omega) ?_;exact gK5 hK1 (wr A 0 (ad8 n (val (A.take n) / 2))) (wr D 0 (ad8 p (val (D.take p) / 2))) ((aap (val (A.take n) / 2)).length) ((aap (val (D.take p) / 2)).length) (t + 1) ⟨k1,m1,by rw [k2]; omega,by rw [m2]; omega,by rw [k2,m2,hg,a97 xA xD,Nat.pow_succ]; grind⟩ (by rw [k2]; omega)
   ·have hod:val (A.take n) % 2 = 1 \/ val (D.take p) % 2 = 1:=by
     rw [(ael gA pA).2,(ael gD pD).2];have:=ht29;simp [aaa] at this;omega
    refine gL4 [5] [] (fun (A1 D1:List Nat) (n1 p1:Nat)=>[(0,some (.ms 901 1 0 n1)),(1,some (.ms 902 1 0 p1))]) (fun A1 D1 _ _=>[(901,some (.row 1 (A1.map u32))),(902,some (.row 1 (D1.map u32)))]) (fun A1 D1 n1 p1=>GOk L A1 n1 /\ GOk L D1 p1 /\ 0 < val (D1.take p1) /\ (val (A1.take n1) % 2 = 1 \/ val (D1.take p1) % 2 = 1) /\ G = 2 ^ t * Nat.gcd (val (A1.take n1)) (val (D1.take p1))) (fun A1 D1 n1 p1=>val (A1.take n1) + val (D1.take p1)) A D n p ⟨gA,gD,pD,hod,hg⟩ ?_
    rintro A1 D1 n1 p1 ⟨gA1,gD1,pD1,hod1,hg1⟩ K2 hK2;refine gC (fun ht38=>?_) (fun ht38=>?_) (st2:=(19,0))
    ·have pA1:0 < val (A1.take n1):=by
      have h3:n1 ≠ 0:=by have:=ht38; simp [aaa] at this; omega
      exact Nat.pos_of_ne_zero (fun h=>h3 ((a1z gA1).2 h))
     refine gL2 [5] [902] (fun (A2:List Nat) (n2:Nat)=>[(0,some (.ms 901 1 0 n2)),(1,some (.ms 902 1 0 p1))]) (fun A2 _=>[(901,some (.row 1 (A2.map u32)))]) (fun A2 n2=>GOk L A2 n2 /\ 0 < val (A2.take n2) /\ val (A2.take n2) <= val (A1.take n1) /\ (val (A2.take n2) % 2 = 1 \/ val (D1.take p1) % 2 = 1) /\ Nat.gcd (val (A2.take n2)) (val (D1.take p1)) = Nat.gcd (val (A1.take n1)) (val (D1.take p1))) (fun A2 n2=>val (A2.take n2)) A1 n1 ⟨gA1,pA1,le_refl _,hod1,rfl⟩ ?_
     rintro A2 n2 ⟨gA2,pA2,lA2,hod2,hg2⟩ K3 hK3;refine gs (aas (n:=0) (.tmp rfl) (.const _) T27 rfl T218 rfl oz (by have:=(ael gA2 pA2).1; omega) rfl) ?_;refine gs (aaw (.tmp rfl) rfl (ai3 (i:=0) (by have:=(ael gA2 pA2).1; have:=gA2.2.1; omega)) T218 rfl rfl rfl) ?_;refine gs (afw (.tmp rfl) (.const _) rfl (bpc gA2.1) rfl) ?_;refine gC (fun ht43=>?_) (fun ht43=>?_)
     ·have xA2:val (A2.take n2) % 2 = 0:=by
       rw [(ael gA2 pA2).2];have:=ht43;simp [aaa] at this;omega
      obtain ⟨k1,k2,k3⟩:=afx gA2 (v:=val (A2.take n2) / 2) oz;refine gt (aab (Con.rekeyR 901 rfl (ai7 A2 n2 gA2.1 gA2.2.1 (by have:=gA2.2.2.1; unfold big; omega))) (ev1 rfl) hHa rfl rfl) ?_;exact gK2 hK3 (wr A2 0 (ad8 n2 (val (A2.take n2) / 2))) ((aap (val (A2.take n2) / 2)).length) ⟨k1,by rw [k2]; omega,by rw [k2]; omega,.inr oz,by rw [k2,axo xA2 oz,hg2]⟩ (by rw [k2]; omega)
     ·have xA2:val (A2.take n2) % 2 = 1:=by
       rw [(ael gA2 pA2).2];have:=ht43;simp [aaa] at this;omega
      refine gL2 [5] [901] (fun (D2:List Nat) (p2:Nat)=>[(0,some (.ms 901 1 0 n2)),(1,some (.ms 902 1 0 p2))]) (fun D2 _=>[(902,some (.row 1 (D2.map u32)))]) (fun D2 p2=>GOk L D2 p2 /\ 0 < val (D2.take p2) /\ val (D2.take p2) <= val (D1.take p1) /\ Nat.gcd (val (A2.take n2)) (val (D2.take p2)) = Nat.gcd (val (A2.take n2)) (val (D1.take p1))) (fun D2 p2=>val (D2.take p2)) D1 p1 ⟨gD1,pD1,le_refl _,rfl⟩ ?_
      rintro D2 p2 ⟨gD2,pD2,lD2,hg3⟩ K4 hK4;refine gs (aas (n:=0) (.tmp rfl) (.const _) T27 rfl T218 rfl oz (by have:=(ael gD2 pD2).1; omega) rfl) ?_;refine gs (aaw (.tmp rfl) rfl (ai3 (i:=0) (by have:=(ael gD2 pD2).1; have:=gD2.2.1; omega)) T218 rfl rfl rfl) ?_;refine gs (afw (.tmp rfl) (.const _) rfl (bpc gD2.1) rfl) ?_;refine gC (fun ht50=>?_) (fun ht50=>?_)
      ·have xD2:val (D2.take p2) % 2 = 0:=by
        rw [(ael gD2 pD2).2];have:=ht50;simp [aaa] at this;omega
       obtain ⟨k1,k2,k3⟩:=afx gD2 (v:=val (D2.take p2) / 2) oz;refine gt (aab (Con.rekeyR 902 rfl (ai7 D2 p2 gD2.1 gD2.2.1 (by have:=gD2.2.2.1; unfold big; omega))) (ev1 rfl) hHa rfl rfl) ?_;exact gK2 hK4 (wr D2 0 (ad8 p2 (val (D2.take p2) / 2))) ((aap (val (D2.take p2) / 2)).length) ⟨k1,by rw [k2]; omega,by rw [k2]; omega,by rw [k2,Nat.gcd_comm,axo xD2 xA2,Nat.gcd_comm,hg3]⟩ (by rw [k2]; omega)
      ·have xD2:val (D2.take p2) % 2 = 1:=by
        rw [(ael gD2 pD2).2];have:=ht50;simp [aaa] at this;omega
       refine gt (aab (as9 901 902 oz A2 D2 n2 p2 gA2.1 gD2.1 gA2.2.1 gD2.2.1) (ev2 rfl rfl) hHa rfl rfl) ?_;refine gC (fun ht56=>?_) (fun ht56=>?_) (st1:=(17,0)) (st2:=(77777,0))
       ·have hlt:val (A2.take n2) < val (D2.take p2):=by
         rcases lt_or_ge (val (A2.take n2)) (val (D2.take p2)) with h | h
         ·exact h
         ·rw [if_neg oz] at ht56; split at ht56 <;> cases ht56
        refine gW (Wk.o (sl:=[(0,some (.ms 902 1 0 p2)),(1,some (.ms 901 1 0 n2)),(5,some (i64 t))]) (hp:=[(901,some (.row 1 (A2.map u32))),(902,some (.row 1 (D2.map u32)))])) ?_ (17,0);refine gW (Wk.rekey (k:=901) (d:=903) rfl rfl) ?_ (17,0);refine gW (Wk.rekey (k:=902) (d:=901) rfl rfl) ?_ (17,0);refine gW (Wk.rekey (k:=903) (d:=902) rfl rfl) ?_ (17,0);refine gW (Wk.of (sl:=[(0,some (.ms 901 1 0 p2)),(1,some (.ms 902 1 0 n2)),(5,some (i64 t))]) (hp:=[(901,some (.row 1 (D2.map u32))),(902,some (.row 1 (A2.map u32)))]) (.cons rfl (Sub.refl _) (.cons rfl (Sub.refl _) (.cons rfl (Sub.refl _) .nil))) (.k (.k .nil))) ?_ (17,0);obtain ⟨A3,D3,n3,p3,gA3,gD3,xA3,xD3,hle3,hg4,hs3,e1,e2,e3,e4⟩:∃ A3 D3 n3 p3,GOk L A3 n3 /\ GOk L D3 p3 /\ val (A3.take n3) % 2 = 1 /\ val (D3.take p3) % 2 = 1 /\ val (D3.take p3) <= val (A3.take n3) /\ Nat.gcd (val (A3.take n3)) (val (D3.take p3)) = Nat.gcd (val (A2.take n2)) (val (D2.take p2)) /\ val (A3.take n3) + val (D3.take p3) = val (A2.take n2) + val (D2.take p2) /\ A3 = D2 /\ n3 = p2 /\ D3 = A2 /\ p3 = n2:=⟨D2,A2,p2,n2,gD2,gA2,xD2,xA2,by omega,Nat.gcd_comm _ _,Nat.add_comm _ _,rfl,rfl,rfl,rfl⟩
        rw [<- e1,<- e2,<- e3,<- e4];refine go ?_;refine gt (aab (asd A3 D3 n3 p3 gA3.1 gD3.1 gA3.2.1 gD3.2.1 (by have:=gA3.2.2.1; unfold big; omega) hle3) (ev2 rfl rfl) hHa rfl rfl) ?_;refine gt (aab (Con.rekeyR 901 rfl (aq6 (wr A3 0 (ad8 n3 (val (A3.take n3) - val (D3.take p3)))) n3 (a45 gA3.1 (agw _ _)) (by rw [anb (by rw [ab9]; have:=gA3.2.1; omega)]; exact gA3.2.1) (by rw [anb (by rw [ab9]; have:=gA3.2.1; omega)]; have:=gA3.2.2.1; unfold big; omega))) (ev1 rfl) hHa rfl rfl) ?_;exact gK4 hK2 (wr A3 0 (ad8 n3 (val (A3.take n3) - val (D3.take p3)))) D3 ((aap (val (A3.take n3) - val (D3.take p3))).length) p3 ⟨(afx gA3 oz).1,gD3,by omega,.inr xD3,by rw [(afx gA3 (v:=val (A3.take n3) - val (D3.take p3)) oz).2.1,a7a hle3,hg4,hg3,hg2,hg1]⟩ (by rw [(afx gA3 (v:=val (A3.take n3) - val (D3.take p3)) oz).2.1]; omega) (hw:=Wk.of (.cons rfl (Sub.of (by rw [(afx gA3 (v:=val (A3.take n3) - val (D3.take p3)) oz).2.2])) (.k (.k .nil))) (.k (.k .nil)))
       ·have hlt:val (D2.take p2) <= val (A2.take n2):=by
         rcases lt_or_ge (val (A2.take n2)) (val (D2.take p2)) with h | h
         ·rw [if_pos h] at ht56; cases ht56
         ·exact h
        refine gW (Wk.o (sl:=[(0,some (.ms 901 1 0 n2)),(1,some (.ms 902 1 0 p2)),(5,some (i64 t))]) (hp:=[(901,some (.row 1 (A2.map u32))),(902,some (.row 1 (D2.map u32)))])) ?_ (77777,0);obtain ⟨A3,D3,n3,p3,gA3,gD3,xA3,xD3,hle3,hg4,hs3,e1,e2,e3,e4⟩:∃ A3 D3 n3 p3,GOk L A3 n3 /\ GOk L D3 p3 /\ val (A3.take n3) % 2 = 1 /\ val (D3.take p3) % 2 = 1 /\ val (D3.take p3) <= val (A3.take n3) /\ Nat.gcd (val (A3.take n3)) (val (D3.take p3)) = Nat.gcd (val (A2.take n2)) (val (D2.take p2)) /\ val (A3.take n3) + val (D3.take p3) = val (A2.take n2) + val (D2.take p2) /\ A3 = A2 /\ n3 = n2 /\ D3 = D2 /\ p3 = p2:=⟨A2,D2,n2,p2,gA2,gD2,xA2,xD2,hlt,rfl,rfl,rfl,rfl,rfl,rfl⟩
        rw [<- e1,<- e2,<- e3,<- e4];obtain ⟨k1,k2,k3⟩:=afx gA3 (v:=val (A3.take n3) - val (D3.take p3)) oz;refine go ?_;refine gt (aab (asd A3 D3 n3 p3 gA3.1 gD3.1 gA3.2.1 gD3.2.1 (by have:=gA3.2.2.1; unfold big; omega) hle3) (ev2 rfl rfl) hHa rfl rfl) ?_;refine gt (aab (Con.rekeyR 901 rfl (aq6 (wr A3 0 (ad8 n3 (val (A3.take n3) - val (D3.take p3)))) n3 (a45 gA3.1 (agw _ _)) (by rw [anb (by rw [ab9]; have:=gA3.2.1; omega)]; exact gA3.2.1) (by rw [anb (by rw [ab9]; have:=gA3.2.1; omega)]; have:=gA3.2.2.1; unfold big; omega))) (ev1 rfl) hHa rfl rfl) ?_;exact gK4 hK2 (wr A3 0 (ad8 n3 (val (A3.take n3) - val (D3.take p3)))) D3 ((aap (val (A3.take n3) - val (D3.take p3))).length) p3 ⟨(afx gA3 oz).1,gD3,by omega,.inr xD3,by rw [(afx gA3 (v:=val (A3.take n3) - val (D3.take p3)) oz).2.1,a7a hle3,hg4,hg3,hg2,hg1]⟩ (by rw [(afx gA3 (v:=val (A3.take n3) - val (D3.take p3)) oz).2.1]; omega) (hw:=Wk.of (.cons rfl (Sub.of (by rw [(afx gA3 (v:=val (A3.take n3) - val (D3.take p3)) oz).2.2])) (.k (.k .nil))) (.k (.k .nil)))
    ·have zA1:val (A1.take n1) = 0:=by
      have h3:n1 = 0:=by have:=ht38; simp [aaa] at this; omega
      exact (a1z gA1).1 h3
     rw [zA1,Nat.gcd_zero_left] at hg1;refine gW ((Wk.freeze (k:=902) rfl).trans <| Wk.of (sl:=[(1,some (ws (aap (val (D1.take p1))))),(5,some (i64 t))]) (hp:=[]) (.cons rfl (Sub.of (by rw [bb8 (by rw [length_map]; have:=gD1.2.1; omega),ak8,<- bej gD1])) (.k .nil)) .nil) ?_;refine gL1 [64] [] (fun (i:Nat)=>[(1,some (ws (aap (2 ^ i * val (D1.take p1))))),(65,some (i64 i))]) (fun _=>[]) (fun i=>i <= t) (fun i=>t - i) 0 (zero_le _) ?_ (h1:=(.cons rfl (Sub.of (by rw [Nat.pow_zero,Nat.one_mul])) (.k .nil)));rintro i hit K5 hK5;refine gC (fun ht66=>?_) (fun ht66=>?_)
     ·have hin : i < t := by simpa [aaa] using ht66
      have h3:2 ^ i * val (D1.take p1) <= G:=by rw [hg1]; exact mul_le_mul_right _ (afu oz)
      have h4:(aap (2 ^ i * val (D1.take p1))).length <= a.length:=aal oz;have ht:t < 32 * a.length:=a2f pD1 (by rw [<- hg1]; exact hGa) vla;refine gc (an9 _ _ (abd _) (abd _) (by unfold big; omega) (by unfold big; omega)) ?_;refine ga (aa7 oz) ?_;exact gK1 hK5 (i + 1) hin (hw:=Wk.of (.cons rfl (Sub.of (by rw [aaq,Nat.pow_succ]; congr 2; grind)) (.k (.k .nil))) .nil)
     ·have hin : i = t := by have : t <= i := (by simpa [aaa] using ht66); omega
      subst hin;refine gE1 ?_;rw [hg1]
end Go.Lw
namespace Go.Lw
open Go.Proofs
theorem ay4 (a b:Wh) (ha:a.ok) (hb:b.ok) (la:a.mag.length + b.mag.length < big):FnC prog 130 [a.av, b.av] (zA (Int.gcd a.z b.z)):=by
 have h1:=Wh.m_le (w:=a);have h2:=Wh.m_le (w:=b);have h3:Int.gcd a.z b.z = Nat.gcd (val a.m) (val b.m):=by rw [Int.gcd,Wh.abs,Wh.abs]
 have h4:(aap (Nat.gcd (val a.m) (val b.m))).length <= a.m.length + b.m.length:=by
  rcases Nat.eq_zero_or_pos (val a.m) with h | h
  ·rw [h,Nat.gcd_zero_left,Wh.ofNat_m hb]; omega
  ·exact le_trans (aal (lt_of_le_of_lt (Nat.gcd_le_left _ h) (abv _ (Wh.ws ha)))) oz
 refine gF0 func130 ?_;refine gc (ad0 a ha) ?_;refine gc (ad0 b hb) ?_;refine gc (a6t a.m b.m (Wh.ws ha) (Wh.ws hb) a.nz b.nz oz) ?_;refine gc (acz false _ (abd _) oz) ?_;refine gD ?_;refine gE1 ?_;rw [aaq,h3]; rfl
theorem bas (a b:Wh) (ha:a.ok) (hb:b.ok) (la:a.mag.length + 1 < big) (lb:b.mag.length < big) (h0:b.z ≠ 0):FnC prog 131 [a.av, b.av] (.tup [zA (a.z / b.z), zA (a.z % b.z), i64 0]):=by
 have hm1:=Wh.m_le (w:=a);have hm2:=Wh.m_le (w:=b);have hb1:val b.m ≠ 0:=by have:=Wh.abs (w:=b); omega
 have hl1:(aap (val a.m / val b.m)).length <= a.m.length:=aal (lt_of_le_of_lt (Nat.div_le_self _ _) (abv _ (Wh.ws ha)));have hmod:=Nat.mod_lt (val a.m) (show 0 < val b.m by omega);have hl2:(aap (val a.m % val b.m)).length <= b.m.length:=aal (Nat.lt_trans hmod (abv _ (Wh.ws hb)));have hl3:(aap (val a.m / val b.m + 1)).length <= a.m.length + 1:=aal (by have h7:=lt_of_le_of_lt (Nat.div_le_self (val a.m) (val b.m)) (abv _ (Wh.ws ha)); rw [Nat.pow_succ]; generalize val a.m / val b.m = m at *; omega);have hl4:(aap (val b.m - val a.m % val b.m)).length <= b.m.length:=aal (by have:=abv _ (Wh.ws hb); omega);have hv1:val [1] = 1:=rfl;refine gF0 func131 ?_;refine gc (an4 b hb) ?_;refine gC (fun ht11=>?_) (fun ht11=>?_) (st1:=(2,0))
 ·exact absurd (Int.sign_eq_zero_iff_zero.1 (by simpa [aaa] using ht11)) h0
 ·refine gc (ad0 a ha) ?_;refine gc (ad0 b hb) ?_;refine gc (azp a.m b.m (Wh.ws ha) (Wh.ws hb) a.nz hb1 oz oz) ?_;refine gD ?_;refine gc (ac0 a ha) ?_;refine glG ?_;refine gC (fun ht28=>?_) (fun ht28=>?_)
  ·have h1:a.n = true /\ 0 < val a.m % val b.m:=ap4.1 ht28;obtain ⟨e1,e2⟩:=a18 hb1 h1.1 h1.2;refine gc (an9 (aap (val a.m / val b.m)) [1] (abd _) (axe oz) oz (by unfold big; simp)) ?_;refine gc (ad0 b hb) ?_;refine gc (al4 b.m (aap (val a.m % val b.m)) (Wh.ws hb) (abd _) oz (by rw [aaq]; omega)) ?_;refine gD ?_ (6,0);refine gW (Wk.of (sl:=[(2,some (.ptr 2 0)),(3,some (.ptr 3 0)),(4,some (.ptr 4 0)),(5,some (.ptr 5 0)),(7,some (ws (aap (val a.m / val b.m + 1)))),(8,some (ws (aap (val b.m - val a.m % val b.m))))]) (hp:=[(2,some (.box [bl a.neg,ws a.mag])),(3,some (.box [bl b.neg,ws b.mag])),(4,some (.box [.v (.bool false),.v (.slice none 0 0)])),(5,some (.box [.v (.bool false),.v (.slice none 0 0)]))]) (.k (.k (.k (.k (.cons rfl (Sub.of (by rw [aaq,hv1])) (.cons rfl (Sub.of (by rw [aaq])) .nil)))))) (.k (.k (.k (.k .nil))))) ?_
   refine gc (ac0 a ha) ?_;refine gc (ac0 b hb) ?_;refine gc (by apply acz _ _ (abd _) oz) ?_;refine gc (by apply acz _ _ (abd _) oz) ?_;refine gD ?_;refine gR ?_;exact asw (by rw [aaq,aaq,e1,show sgn false _ = _ from e2]; rfl)
  ·have h1:¬ (a.n = true /\ 0 < val a.m % val b.m):=fun h=>Bool.eq_false_iff.1 ht28 (ap4.2 h)
   obtain ⟨e1,e2⟩:=ba1 hb1 h1;refine gc (ac0 a ha) ?_;refine gc (ac0 b hb) ?_;refine gc (by apply acz _ _ (abd _) oz) ?_;refine gc (by apply acz _ _ (abd _) oz) ?_;refine gD ?_;refine gR ?_;exact asw (by rw [aaq,aaq,e1,show sgn false _ = _ from e2]; rfl)
end Go.Lw
namespace Go.Lw
open Go.Proofs
theorem ax6 {x:Int} (hx:Zs x):FnC prog 264 [zA x] (i64 x.sign):=by
 have h:=ah7 (ofInt x) hx.ok;rw [ab7] at h;exact h
theorem bd4 {x:Int} (hx:Zs x):FnC prog 265 [zA x] (zA (-x)):=by
 have h:=avr (ofInt x) hx.ok (by have:=hx.len; unfold big; omega);rw [ab7] at h;exact h
theorem bl1 {x y:Int} (hx:Zs x) (hy:Zs y):FnC prog 299 [zA x, zA y] (i64 (ax4 x y)):=by
 have h:=avv (ofInt x) (ofInt y) hx.ok hy.ok;rw [ab7,ab7] at h;exact h
theorem bqg {x y:Int} (hx:Zs x) (hy:Zs y):FnC prog 270 [zA x, zA y] (zA (x + y)):=by
 have h:=awg (ofInt x) (ofInt y) hx.ok hy.ok (by have:=hx.len; unfold big; omega) (by have:=hy.len; unfold big; omega);rw [ab7,ab7] at h;exact h
theorem aun {x y:Int} (hx:Zs x) (hy:Zs y):FnC prog 271 [zA x, zA y] (zA (x * y)):=by
 have h:=avz (ofInt x) (ofInt y) hx.ok hy.ok (by have:=hx.len; have:=hy.len; unfold big; omega);rw [ab7,ab7] at h;exact h
theorem bqf {x y:Int} (hx:Zs x) (hy:Zs y):FnC prog 266 [zA x, zA y] (zA (Int.gcd x y)):=by
 have h:=ane (ofInt x) (ofInt y) hx.ok hy.ok (by have:=hx.len; unfold big; omega) (by have:=hy.len; unfold big; omega);rw [ab7,ab7] at h;exact h
theorem boe {x y:Int} (hx:Zs x) (hy:Zs y) (h0:y ≠ 0):FnC prog 267 [zA x, zA y] (.tup [zA (x / y), zA (x % y), .v .nilIface]):=by
 have h:=aus (ofInt x) (ofInt y) hx.ok hy.ok (by have:=hx.len; unfold big; omega) (by have:=hy.len; unfold big; omega) (by rw [ab7]; exact h0);rw [ab7,ab7] at h;exact h
theorem au8 {x:Int} (hx:Zs x):FnC prog 128 [zA x] (i64 x.sign):=by
 have h:=an4 (ofInt x) hx.ok;rw [ab7] at h;exact h
theorem bbm {x:Int} (hx:Zs x):FnC prog 129 [zA x] (zA (-x)):=by
 have h:=axl (ofInt x) hx.ok (by have:=hx.len; unfold big; omega);rw [ab7] at h;exact h
theorem bo2 {x y:Int} (hx:Zs x) (hy:Zs y):FnC prog 207 [zA x, zA y] (i64 (ax4 x y)):=by
 have h:=a91 (ofInt x) (ofInt y) hx.ok hy.ok (by have:=hx.len; unfold big; omega) (by have:=hy.len; unfold big; omega);rw [ab7,ab7] at h;exact h
theorem bmu {x y:Int} (hx:Zs x) (hy:Zs y):FnC prog 209 [zA x, zA y] (zA (x + y)):=by
 have h:=aye (ofInt x) (ofInt y) hx.ok hy.ok (by have:=hx.len; unfold big; omega) (by have:=hy.len; unfold big; omega);rw [ab7,ab7] at h;exact h
theorem aqz {x y:Int} (hx:Zs x) (hy:Zs y):FnC prog 210 [zA x, zA y] (zA (x * y)):=by
 have h:=a74 (ofInt x) (ofInt y) hx.ok hy.ok (by have:=hx.len; have:=hy.len; unfold big; omega);rw [ab7,ab7] at h;exact h
theorem bn9 {x y:Int} (hx:Zs x) (hy:Zs y):FnC prog 130 [zA x, zA y] (zA (Int.gcd x y)):=by
 have h:=ay4 (ofInt x) (ofInt y) hx.ok hy.ok (by have:=hx.len; have:=hy.len; unfold big; omega);rw [ab7,ab7] at h;exact h
theorem bft {x y:Int} (hx:Zs x) (hy:Zs y) (h0:y ≠ 0):FnC prog 131 [zA x, zA y] (.tup [zA (x / y), zA (x % y), i64 0]):=by
 have h:=bas (ofInt x) (ofInt y) hx.ok hy.ok (by have:=hx.len; unfold big; omega) (by have:=hy.len; unfold big; omega) (by rw [ab7]; exact h0);rw [ab7,ab7] at h;exact h
end Go.Lw
namespace Go.Lw
open Go.Proofs
def a70 (e:Nat):Value:=match e with | 0=>.nilIface | e + 1=>.iface 90 (.int .i64 ((e + 1:Nat):Int))
def ai2 (e:Nat):AV:=.v (a70 e)
theorem bj6 (e:Nat):a70 e = .nilIface \/ ∃ T u,a70 e = .iface T u:=by cases e; exact .inl rfl; exact .inr ⟨_,_,rfl⟩
theorem axz (e:Nat):ais (a70 e) = decide (e = 0):=by cases e <;> simp [a70,ais]
theorem bi1 {e:Nat} (h:ais (a70 e) = true):e = 0:=by rw [axz] at h; exact of_decide_eq_true h
theorem bju {e:Nat} (h:ais (a70 e) = false):e ≠ 0:=by rw [axz] at h; exact of_decide_eq_false h
theorem aeq {e:Nat} (h:(!ais (a70 e)) = true):e ≠ 0:=bju (by cases h':ais (a70 e) <;> simp_all)
theorem ad1 {e:Nat} (h:(!ais (a70 e)) = false):e = 0:=bi1 (by cases h':ais (a70 e) <;> simp_all)
theorem aid:FnC prog 170 [] (zA 1):=by
 refine gF0 func170 ?_;refine gc (apl 1 oz) ?_;refine gE1 ?_
 first | rfl | (simp; done)
theorem adn (r:Rt) (h:r.ok):FnC prog 243 [r.av] (bl r.valid):=by
 have hn:=h.n0;have hd:=h.d0;refine gF0 func243 ?_;refine gl ?_;refine glG ?_;refine gC (fun ht14=>?_) (fun ht14=>?_)
 ·have h0 : r.num = [] /\ r.den = [] := by simpa [aaa] using ht14
  refine gE1 ?_;unfold Rt.valid; rw [if_pos h0]; rfl
 ·have h0:¬ (r.num = [] /\ r.den = []):=by
   have:=ht14;simp [aaa] at this;exact fun h=>this h.1 h.2
  refine gD ?_;refine gl ?_;refine glG ?_;refine gcG (fun _=>(afb r.n0 hn)) ?_;refine gcG (fun _=>(afb r.d0 hd)) ?_;refine gC (fun ht43=>?_) (fun ht43=>?_)
  ·have h1:r.valid = false:=awb h0 ht43;refine gE1 ?_;rw [h1]; rfl
  ·have h1:=azc h0 ht43;refine gc (ane r.n0 r.d0 hn hd h.n0l h.d0l) ?_;refine gc (by apply aid) ?_;refine gc (bl1 (Rt.gcd_zs h) zs1) ?_;refine gE1 ?_;rw [h1]; rfl
theorem abn (r:Rt) (h:r.ok):FnC prog 269 [r.av] (.tup [zA r.q.num, zA r.q.den]):=by
 have hl1:r.num.length <= 137438953472:=h.2.2.1;have hl2:r.den.length <= 137438953472:=h.2.2.2;refine gF0 func269 ?_;refine gc (adn r h) ?_;refine glG ?_;refine gC (fun ht12=>?_) (fun ht12=>?_)
 ·have h0:¬ (r.valid = true /\ r.num ≠ []):=by
   have:=ht12;intro h';simp [aaa,h'.1,h'.2] at this
  refine gc aid ?_;refine gR ?_;exact abc (by rw [Rt.zero h0]; exact Sub.tup (.cons bfr (.cons (.refl _) .nil)))
 ·have h0:r.valid = true /\ r.num ≠ []:=by
   have:=ht12;cases hv:r.valid
   ·rw [hv] at this; cases this
   ·rw [hv] at this; exact ⟨rfl,by simpa [aaa] using this⟩
  obtain ⟨e1,e2,e3,e4,e5,e6⟩:=Rt.parts h h0.1 h0.2;refine gs (acy T27 rfl T218 rfl rfl rfl) ?_;refine gs (aa0 (.tmp rfl) rfl rfl (.tmp rfl) T27 rfl T218 rfl rfl (by simp only [length_map]; omega) rfl rfl) ?_;refine gD ?_ (4,0);refine gW ((Wk.freeze (k:=20) rfl).trans <| Wk.of (sl:=[(1,some (.ptr 1 0)),(2,some (.ptr 2 0)),(3,some (.ptr 3 0))]) (hp:=[(1,some (.box [bl r.neg,ws r.num,ws r.den])),(2,some (.box [bl r.neg,ws r.num])),(3,some (.box [bl false,.v (.slice none 0 0)]))]) aa6 (.k (.cons rfl (BlkSub.boxL (.cons (.refl _) (.cons (.of (abq (by simp))) .nil)) rfl) (.k .nil)))) ?_;refine gs (acy T27 rfl T218 rfl rfl rfl) ?_;refine gs (aa0 (.tmp rfl) rfl rfl (.tmp rfl) T27 rfl T218 rfl rfl (by simp only [length_map]; omega) rfl rfl) ?_;refine gD ?_ (77777,0);refine gW ((Wk.freeze (k:=26) rfl).trans <| Wk.of (sl:=[(2,some (.ptr 2 0)),(3,some (.ptr 3 0))]) (hp:=[(2,some (.box [bl r.neg,ws r.num])),(3,some (.box [bl false,ws r.den]))]) aa6 (.k (.cons rfl (BlkSub.boxL (.cons (.refl _) (.cons (.of (abq (by simp))) .nil)) rfl) .nil))) ?_;refine gE2 ?_;rw [e1,e2]; exact a2m e3 e4 e5
theorem ad7 {n d:Int} (hn:Zs n) (hd:Zs d) (h0:d ≠ 0):FnC prog 168 [zA n, zA d] (qA (Rat.divInt n d)):=by
 refine gF0 func168 ?_;refine gc (ax6 hn) ?_;refine gC (fun ht9=>?_) (fun ht9=>?_)
 ·have e0 : n = 0 := Int.sign_eq_zero_iff_zero.1 (by simpa [aaa] using ht9);refine gR ?_;exact adv (by rw [e0,Rat.zero_divInt]; exact ai1)
 ·have e0 : n ≠ 0 := fun h => by rw [h] at ht9; cases ht9
  refine gc (ax6 hd) ?_;refine gJ2 [2,3,4] [4] (fun (n1 d1:Int)=>[]) (fun n1 d1=>[(2,some (.box (zA n1).cells)),(3,some (.box (zA d1).cells))]) (fun n1 d1=>0 < d1 /\ n1 ≠ 0 /\ Zs n1 /\ Zs d1 /\ Rat.divInt n1 d1 = Rat.divInt n d) ?_ ?_
  ·intro K1 hK1;refine gC (fun ht13=>?_) (fun ht13=>?_)
   ·have e1 : d < 0 := Int.sign_eq_neg_one_iff_neg.1 (by have := Int.sign_trichotomy d; have h9 : d.sign < 0 := (by simpa [aaa] using ht13); omega);refine gc (bd4 hn) ?_;refine gc (bd4 hd) ?_;refine gD ?_;exact jK2 hK1 (-n) (-d) ⟨by omega,by omega,hn.neg,hd.neg,arq n d⟩
   ·have e1:0 < d:=by
     have h9:0 <= d.sign:=by simpa [aaa] using ht13
     have:=Int.sign_nonneg_iff.1 h9;omega
    exact jK2 hK1 n d ⟨e1,e0,hn,hd,rfl⟩
  ·rintro n1 d1 ⟨f1, f2, f3, f4, f5⟩;refine gc (bqf f3 f4) ?_;refine gc (ax6 f3) ?_;refine gJ1 [2,3,4,5] [3,4,5] (fun (n2:Int)=>[(6,some (bl (decide (n1 < 0))))]) (fun n2=>[(2,some (.box (zA n2).cells))]) (fun n2=>n2 = (n1.natAbs:Int)) ?_ ?_
   ·intro K2 hK2;refine gC (fun ht24=>?_) (fun ht24=>?_)
    ·have e2 : n1 < 0 := Int.sign_eq_neg_one_iff_neg.1 (by have := Int.sign_trichotomy n1; have h9 : n1.sign < 0 := (by simpa [aaa] using ht24); omega);refine gc (bd4 f3) ?_;exact jK1 hK2 (-n1) oz (hw:=Wk.of (.cons rfl (Sub.of (by rw [show aaa .lss n1.sign 0 = true from ht24,decide_eq_true e2]; rfl)) (.k (.k (.k (.k .nil))))) (.k (.k (.k (.k .nil)))))
    ·have e2:0 < n1:=by
      have h9:0 <= n1.sign:=by simpa [aaa] using ht24
      have:=Int.sign_nonneg_iff.1 h9;omega
     exact jK1 hK2 n1 oz (hw:=Wk.of (.cons rfl (Sub.of (by rw [show aaa .lss n1.sign 0 = false from ht24,decide_eq_false oz]; rfl)) (.k (.k (.k (.k .nil))))) (.k (.k (.k (.k .nil)))))
   ·rintro n2 g1;have g2:Zs (Int.gcd n1 d1:Int):=f3.of_le (by rw [natAbs_natCast]; exact Nat.le_of_dvd oz (Int.gcd_dvd_natAbs_left _ _));have g3:(Int.gcd n1 d1:Int) ≠ 0:=by have:=Int.gcd_pos_of_ne_zero_left d1 f2; omega
    have g4:Zs n2:=f3.of_le oz;refine gc (boe g4 g2 g3) ?_;refine gc (boe f4 g2 g3) ?_;refine gE1 ?_;rw [<- f5,<- bih f1 f2,<- g1]; rfl
theorem arz {n d:Int} (hn:Zs n) (hd:Zs d):FnC prog 328 [zA n, zA d] (.tup [qA (Rat.divInt n d), ai2 (if d = 0 then 8 else 0)]):=by
 refine gF0 func328 ?_;refine gc (ax6 hd) ?_;refine gC (fun ht8=>?_) (fun ht8=>?_)
 ·have h0 : d = 0 := Int.sign_eq_zero_iff_zero.1 (by simpa [aaa] using ht8);refine gR ?_;exact abc (by rw [if_pos h0,h0,Rat.divInt_zero]; exact Sub.tup (.cons ai1 (.cons (.refl _) .nil)))
 ·have h0 : d ≠ 0 := fun h => by rw [h] at ht8; cases ht8
  refine gc (ad7 hn hd h0) ?_;refine gE2 ?_;rw [if_neg h0]; rfl
theorem ac1 (n:Int) (h:-9223372036854775808 <= n /\ n <= 9223372036854775807):FnC prog 77 [i64 n] (qA n):=by
 have hz:Zs n:=⟨2,by omega,by unfold Lz; simp only [Nat.reducePow]; omega⟩
 refine gF0 func77 ?_;refine gc (apl n h) ?_;refine gc aid ?_;refine gc (ad7 hz zs1 oz) ?_;refine gE1 ?_;exact congrArg qA (Rat.num_divInt_den (n:Rat))
theorem alk (a:Rt) (ha:a.ok):FnC prog 262 [a.av] (qA (-a.q)):=by
 have za:=ha.qs;refine gF0 func262 ?_;refine gc (abn a ha) ?_;refine gc (bd4 za.num) ?_;refine gc (ad7 za.num.neg za.den (by have:=a.q.den_nz; omega)) ?_;refine gD ?_;refine gE1 ?_;rw [a9s]; rfl
theorem afd (a:Rt) (ha:a.ok):FnC prog 175 [a.av] (i64 (ag3 a.q)):=by
 refine gF0 func175 ?_;refine gc (abn a ha) ?_;refine gc (ax6 ha.qs.num) ?_;refine gE1 ?_;rw [a2y]
theorem alr (a b:Rt) (ha:a.ok) (hb:b.ok):FnC prog 326 [a.av, b.av] (i64 (ag3 (a.q - b.q))):=by
 have za:=ha.qs;have zb:=hb.qs;have m1:=za.mul zb;have m2:=zb.mul za;refine gF0 func326 ?_;refine gc (abn a ha) ?_;refine gc (abn b hb) ?_;refine gc (aun za.num zb.den) ?_;refine gc (aun zb.num za.den) ?_;refine gc (bl1 m1.1 m2.1) ?_;refine gD ?_;refine gE1 ?_;rw [bhz]
theorem adq (a b:Rt) (ha:a.ok) (hb:b.ok):FnC prog 172 [a.av, b.av] (qA (a.q + b.q)):=by
 have za:=ha.qs;have zb:=hb.qs;have m1:=za.mul zb;have m2:=zb.mul za;refine gF0 func172 ?_;refine gc (abn a ha) ?_;refine gc (abn b hb) ?_;refine gc (aun za.num zb.den) ?_;refine gc (aun zb.num za.den) ?_;refine gc (bqg m1.1 m2.1) ?_;refine gc (aun za.den zb.den) ?_;refine gc (ad7 (za.cross zb) m1.2.2.1 (Int.mul_ne_zero (by have:=a.q.den_nz; omega) (by have:=b.q.den_nz; omega))) ?_;refine gD ?_;refine gE1 ?_;rw [a1t]; rfl
theorem as8 (a b:Rt) (ha:a.ok) (hb:b.ok):FnC prog 177 [a.av, b.av] (qA (a.q - b.q)):=by
 refine gF0 func177 ?_;refine gc (alk b hb) ?_;refine gc (adq a (rt (-b.q)) ha hb.qs.neg.ok) ?_;refine gD ?_;refine gE1 ?_;rw [agm,<- Rat.sub_eq_add_neg]; rfl
theorem alw (a b:Rt) (ha:a.ok) (hb:b.ok):FnC prog 236 [a.av, b.av] (qA (a.q * b.q)):=by
 have za:=ha.qs;have zb:=hb.qs;have m1:=za.mul zb;refine gF0 func236 ?_;refine gc (abn a ha) ?_;refine gc (abn b hb) ?_;refine gc (aun za.num zb.num) ?_;refine gc (aun za.den zb.den) ?_;refine gc (ad7 m1.2.1 m1.2.2.1 (Int.mul_ne_zero (by have:=a.q.den_nz; omega) (by have:=b.q.den_nz; omega))) ?_;refine gD ?_;refine gE1 ?_;rw [a0k]; rfl
theorem alj (a b:Rt) (ha:a.ok) (hb:b.ok):FnC prog 309 [a.av, b.av] (.tup [qA (a.q / b.q), ai2 (if b.q = 0 then 8 else 0)]):=by
 have za:=ha.qs;have zb:=hb.qs;have m1:=za.mul zb;refine gF0 func309 ?_;refine gc (abn a ha) ?_;refine gc (abn b hb) ?_;refine gc (aun za.num zb.den) ?_;refine gc (aun za.den zb.num) ?_;refine gc (arz m1.1 m1.2.2.2) ?_;refine gD ?_;refine gE2 ?_
 have e1:((a.q.den:Int) * b.q.num = 0) = (b.q = 0):=by
  apply propext;rw [<- Rat.num_eq_zero,Int.mul_eq_zero];exact ⟨fun h=>h.resolve_left (by have:=a.q.den_nz; omega),.inr⟩
 simp only [a1b,e1];rfl
end Go.Lw
namespace Go.Lw
structure Pq where
  c:List Rat
  s:List Rat
  x:List Rat
  y:List Rat
def Pq.av (p:Pq):AV:=.agg [nA p.c,nA p.s,nA p.x,nA p.y]
structure Pq.ok (n e:Nat) (p:Pq):Prop where
  c:Nm n e p.c
  s:Nm n e p.s
  x:Nm n e p.x
  y:Nm n e p.y
def bn3 (p:Pse):Pq:=⟨sh 0 (au6 p.turn.half p.turn.t.q:Rat),sh 0 (auz p.turn.half p.turn.t.q:Rat),sh 0 (p.at_.x.q:Rat),sh 0 (p.at_.y.q:Rat)⟩
def ofE (ps:List Pse):Nat:=if ps.all Pse.ok = true then 0 else 2
def ofL (ps:List Pse):List Pq:=if ps.all Pse.ok = true then ps.map bn3 else []
theorem a80 {half:Bool} {t:Rat} {e:Nat} (h:Qb e t):Qb (4 * e + 6) (au6 half t):=by
 unfold au6;split
 ·exact Qb.one.neg.mono oz
 ·exact ((Qb.one.sub (h.mul h)).div (Qb.one.add (h.mul h))).mono oz
theorem bab {half:Bool} {t:Rat} {e:Nat} (h:Qb e t):Qb (4 * e + 6) (auz half t):=by
 unfold auz;split
 ·exact Qb.zero.mono oz
 ·exact ((h.add h).div (Qb.one.add (h.mul h))).mono oz
theorem brt {n e:Nat} {q:Rat} (hn:n <= 5) (h:Qb e q):Nm n (e + e) (sh 0 (q:Rat)):=by
 have h1:Nl n (sh 0 (q:Rat)):=by
  have:Nl 0 (sh 0 (q:Rat)):=ahs 0 _;rcases this with h | ⟨j,hj,h⟩
  ·exact .inl h
  ·exact .inr ⟨j,by omega,h⟩
 refine ⟨hn,h1,?_⟩
 have hm:∀ p ∈ sh 0 (q:Rat), Qb e p:=by
  intro p hp
  have:p = q:=by
   unfold sh at hp;split at hp
   ·cases hp
   ·exact List.mem_singleton.1 hp
  rw [this]; exact h
 obtain ⟨D,N,h3,h4,h5⟩:=awe hm
 have h6:(sh 0 (q:Rat)).length <= 1:=by
  rcases (ahs 0 (q:Rat)) with h | ⟨j,hj,h⟩
  ·rw [h]; simp
  ·have : j = 0 := by omega
   subst this; rw [h]; simp
 have h7:e * (sh 0 (q:Rat)).length <= e * 1:=mul_le_mul_left _ h6;exact ⟨D,N,h3,le_trans h4 (aax oz),le_trans h5 (aax oz)⟩
def bqb (ts:LL) (b:Pl) (w:Pq):Bool :=
  eqT ts (dec ts.length (lq b.c)) (dec ts.length w.c) && eqT ts (dec ts.length (lq b.s)) (dec ts.length w.s) && eqT ts (dec ts.length (lq b.x)) (dec ts.length w.x) && eqT ts (dec ts.length (lq b.y)) (dec ts.length w.y)
def mE (a:As) (ps:List Pse):Nat :=
  if aer a.rs ≠ 0 then aer a.rs else if ofE ps ≠ 0 then ofE ps else if a.bs.length ≠ ps.length then 10 else adi (a.bs.map (fun b=>abh a.rs b.l))
def mB (a:As) (ps:List Pse):Bool:=decide (mE a ps = 0) && (a.bs.zip ps).all (fun z=>bqb (llq a.rs) z.1 (bn3 z.2))
theorem a7n {α:Type} {l:List α} {f:α -> Nat} {i:Nat} {x:α} (hx:l[i]? = some x) (hb:∀ y ∈ l.take i, f y = 0) (hn:f x ≠ 0):adi (l.map f) = f x:=by
 have e:l = l.take i ++ l.drop i:=(List.take_append_drop i l).symm;have hi:=(List.getElem?_eq_some_iff.1 hx).1
 have e2:l.drop i = x :: l.drop (i + 1):=by
  rw [List.drop_eq_getElem_cons hi,(List.getElem?_eq_some_iff.1 hx).2]
 rw [e, map_append, ain _ _ (ahl (fun v hv=>by
  obtain ⟨y,hy,rfl⟩:=List.mem_map.1 hv;exact hb y hy)),e2]
 show (if f x ≠ 0 then f x else _) = _;rw [if_pos hn]
theorem bcn {rs:List (List Rt)} {b:Pl} (h:abh rs b.l = 0) (hb:∀ x ∈ b.l, NR x 4000) (h5:rs.length <= 5) :
  b.av = Pq.av ⟨lq b.c,lq b.s,lq b.x,lq b.y⟩ /\ Pq.ok rs.length 4000 ⟨lq b.c,lq b.s,lq b.x,lq b.y⟩:=by
 have h1:=(ag2 h).2
 have g:∀ x ∈ b.l, nR x = nA (lq x) /\ Nm rs.length 4000 (lq x):=fun x hx=>by
  obtain ⟨e1,e2⟩:=(hb x hx).num (h1 x hx);exact ⟨e1,h5,e2,(hb x hx).cb⟩
 have c:=g b.c (by simp [Pl.l]);have s:=g b.s (by simp [Pl.l]);have x:=g b.x (by simp [Pl.l]);have y:=g b.y (by simp [Pl.l]);exact ⟨by unfold Pl.av Pq.av; rw [c.1,s.1,x.1,y.1],c.2,s.2,x.2,y.2⟩
end Go.Lw
namespace Go.Lw
instance:Inhabited Tn:=⟨⟨⟨false,[],[]⟩,false⟩⟩
def act (n:Nat) (ok:Nat -> Bool):Option Nat:=(List.range n).find? (fun i=>!ok i)
theorem ac2 {n i:Nat} {ok:Nat -> Bool} (hi:i < n) (h:∀ j, j < i -> ok j = true) (he:ok i = false):act n ok = some i:=by
 unfold act;rw [List.find?_range_eq_some];exact ⟨by rw [he]; rfl,by simpa using hi,fun j hj=>by rw [h j hj]; rfl⟩
theorem acg {n:Nat} {ok:Nat -> Bool} (h:∀ j, j < n -> ok j = true):act n ok = none:=by
 unfold act;rw [List.find?_range_eq_none];exact fun j hj=>by rw [h j hj]; rfl
theorem aqj {n:Nat} {ok:Nat -> Bool} (h:act n ok = none):∀ j, j < n -> ok j = true:=by
 unfold act at h;rw [List.find?_range_eq_none] at h;intro j hj;have:=h j hj;simpa using this
def ixI:Option Nat -> Int
  | none=>-1
  | some i=>i
abbrev bk8 (ts:LL) (x:List Rt):T ts.length:=dec ts.length (lq x)
def atP (ts:LL) (b:Pl) (m:Mk):T ts.length × T ts.length:=(atX ts (bk8 ts b.c) (bk8 ts b.s) (bk8 ts b.x) m.x.q m.y.q,atY ts (bk8 ts b.c) (bk8 ts b.s) (bk8 ts b.y) m.x.q m.y.q)
def bjq (l:Li) (a:As) (body pt:Int):T (llq a.rs).length × T (llq a.rs).length:=atP (llq a.rs) (a.bs.getD body.toNat default) ((aen l body).getD pt.toNat default)
theorem ab8 {l:Li} (h:liE l = 0):a1n l = 0 /\ ase l = 0 /\ a0b l = 0 /\ l.bodies.length <= 8 /\ l.bodies.length ≠ 0:=by
 unfold liE at h;split at h
 ·cases h
 ·split at h
  ·cases h
  ·split at h
   ·cases h
   ·split at h
    ·rename_i h1; exact absurd h h1
    ·rename_i g1 _ h1;split at h
     ·rename_i h2; exact absurd h h2
     ·rename_i h2; exact ⟨Decidable.not_not.1 h1,Decidable.not_not.1 h2,h,by omega,by omega⟩
theorem bm4 {l:Li} (h:liE l = 0) {i:Nat} {j:Jt} (hj:l.joints[i]? = some j):jt0 l j = 0:=by
 have h1:=(ab8 h).2.1;unfold ase at h1;split at h1
 ·cases h1
 ·have h2:=ajq h1 i (List.getElem?_eq_some_iff.1 hj).1;unfold jtE at h2;rw [aah hj] at h2;split at h2
  ·cases h2
  ·split at h2
   ·cases h2
   ·exact h2
theorem afv {l:Li} (h:liE l = 0) {i:Nat} {j:Jt} (hj:l.joints[i]? = some j) :
  inB j.a l.bodies.length = true /\ inB j.b l.bodies.length = true /\ inB j.point (aen l j.a).length = true /\ inB j.on (aen l j.b).length = true /\ (j.kind ≠ 0 -> inB j.to (aen l j.b).length = true):=by
 have h1:=bm4 h hj;unfold jt0 at h1;split at h1
 ·cases h1
 ·split at h1
  ·cases h1
  ·rename_i h2;split at h1
   ·cases h1
   ·split at h1
    ·cases h1
    ·rename_i h3;have a1:inB j.a l.bodies.length = true:=by cases h:inB j.a l.bodies.length <;> simp_all
     have a2:inB j.b l.bodies.length = true:=by cases h:inB j.b l.bodies.length <;> simp_all
     have a3:inB j.point (aen l j.a).length = true:=by cases h:inB j.point (aen l j.a).length <;> simp_all
     have a4:inB j.on (aen l j.b).length = true:=by cases h:inB j.on (aen l j.b).length <;> simp_all
     refine ⟨a1,a2,a3,a4,fun hk=>?_⟩;rw [if_neg hk] at h1;split at h1
     ·cases h1
     ·rename_i h4; cases h:inB j.to (aen l j.b).length <;> simp_all
theorem a4n {l:Li} (h:liE l = 0) {i:Nat} {d:Dr} (hd:l.drivers[i]? = some d):inB d.body l.bodies.length = true:=by
 have h1:=(ab8 h).2.2.1;unfold a0b at h1;split at h1
 ·cases h1
 ·have h2:=ajq h1 i (List.getElem?_eq_some_iff.1 hd).1;unfold drE at h2;rw [aah hd] at h2;split at h2
  ·cases h2
  ·split at h2
   ·cases h2
   ·split at h2
    ·cases h2
    ·rename_i h3; cases h:inB d.body l.bodies.length <;> simp_all
theorem bb9 {l:Li} (h:liE l = 0) {n k:Nat} {b:Bd} {m:Mk} (hb:l.bodies[n]? = some b) (hm:b.pts[k]? = some m):m.x.valid = true /\ m.y.valid = true:=by
 have h2:=ajq (ab8 h).1 n (List.getElem?_eq_some_iff.1 hb).1;unfold bdE at h2;rw [aah hb] at h2;split at h2
 ·cases h2
 ·split at h2
  ·cases h2
  ·split at h2
   ·cases h2
   ·have h3:=ajq h2 k (List.getElem?_eq_some_iff.1 hm).1;unfold mkE at h3;rw [aah hm] at h3;split at h3
    ·cases h3
    ·split at h3
     ·cases h3
     ·split at h3
      ·assumption
      ·cases h3
theorem kb4 {n:Nat} (h:n <= 3):kB 40000 n <= 280014:=a3j 40000 h
theorem bqs {ts:LL} {r:Nat} (tw:Tw ts r) {b:Pl} {m:Mk} (hb:Pq.ok ts.length 4000 ⟨lq b.c, lq b.s, lq b.x, lq b.y⟩) (hx:Qb 4000 m.x.q) (hy:Qb 4000 m.y.q) :
  Nm ts.length (4 * (4000 + 4000 + kB r ts.length) + 10000) (sh ts.length (atP ts b m).1) /\ Nm ts.length (4 * (4000 + 4000 + kB r ts.length) + 10000) (sh ts.length (atP ts b m).2):=by
 have nx:=Nm.ofQ tw.five (Cb.one hx);have ny:=Nm.ofQ tw.five (Cb.one hy);have nX:=amr tw hb.c hb.s nx ny;have nY:=ang tw hb.c hb.s nx ny;have h1:=nX.add hb.x;rw [a7t] at h1;have h2:=nY.add hb.y;rw [a9v] at h2;exact ⟨h1.mono oz,h2.mono oz⟩
end Go.Lw
namespace Go.Lw
structure Gr where
  kind:Int
  bodies:List Int
  joints:List Int
  driver:Int
instance:Inhabited Gr:=⟨⟨0,[],[],0⟩⟩
def Gr.av (g:Gr):AV:=.agg [i64 g.kind,.lst 1 (g.bodies.map i64),.lst 1 (g.joints.map i64),i64 g.driver]
def kn (k:List Bool) (i:Int):Bool:=k.getD i.toNat false
def aeu (n:Nat) (b:Int):List Bool:=(List.replicate n false).set b.toNat true
def aot (l:Li) (b:Int):Bool:=l.drivers.any (fun d=>decide (d.body = b))
def ah2 (l:Li) (known:List Bool) (b:Int):Bool:=!kn known b && !aot l b
def bbw (kind body:Int) (oth:List Bool) (j:Jt):Bool:=decide (j.kind = kind) && (decide (j.a = body) && kn oth j.b || decide (j.b = body) && kn oth j.a)
def abu (l:Li) (kind body:Int) (oth:List Bool):Int:=ixI (act l.joints.length (fun i=>!bbw kind body oth (l.joints.getD i default)))
def ajz (l:Li) (known:List Bool) (i:Nat):Bool:=!kn known (l.drivers.getD i default).body && decide (0 <= abu l 0 (l.drivers.getD i default).body known)
def ace (l:Li) (known:List Bool):Option Gr :=
  (act l.drivers.length (fun i=>!ajz l known i)).map fun i=>⟨0,[(l.drivers.getD i default).body],[abu l 0 (l.drivers.getD i default).body known],i⟩
def af2 (l:Li) (known:List Bool) (i k:Nat):Bool :=
  (ah2 l known i && ah2 l known k) && (decide (0 <= abu l 0 i known) && decide (0 <= abu l 0 k known) && decide (0 <= abu l 0 i (aeu l.bodies.length k)))
def a0i (l:Li) (known:List Bool) (i:Nat):Option Nat:=(act (l.bodies.length - (i + 1)) (fun k=>!af2 l known i (i + 1 + k))).map (· + (i + 1))
def prG (l:Li) (known:List Bool) (i k:Nat):Gr:=⟨1,[i,k],[abu l 0 i known,abu l 0 k known,abu l 0 i (aeu l.bodies.length k)],0⟩
def afh (l:Li) (known:List Bool):Option Gr :=
  (act l.bodies.length (fun i=>(a0i l known i).isNone)).map fun i=>match a0i l known i with
    | some k=>prG l known i k
    | none=>default
def aj0 (l:Li) (known:List Bool) (i:Nat):Bool:=ah2 l known i && (decide (0 <= abu l 0 i known) && decide (0 <= abu l 1 i known))
def sgG (l:Li) (known:List Bool) (i:Nat):Gr :=
  ⟨if (l.joints.getD (abu l 1 i known).toNat default).a = i then 2 else 3,[i],[abu l 0 i known,abu l 1 i known],0⟩
def ada (l:Li) (known:List Bool):Option Gr:=(act l.bodies.length (fun i=>!aj0 l known i)).map (sgG l known)
def adx (l:Li) (known:List Bool):Option Gr:=(ace l known).or ((afh l known).or (ada l known))
def aav (known:List Bool) (bs:List Int):List Bool:=bs.foldl (fun k b=>k.set b.toNat true) known
def aa8 (l:Li):Nat -> List Bool -> List Gr -> List Bool × List Gr
  | 0,known,out=>(known,out)
  | n + 1, known, out=>match adx l known with
    | none=>(known,out)
    | some g=>aa8 l n (aav known g.bodies) (out ++ [g])
def ady (l:Li):List Gr:=(aa8 l l.bodies.length (aeu l.bodies.length 0) []).2
def aei (l:Li):List Bool:=(ady l).foldl (fun k g=>aav k g.bodies) (aeu l.bodies.length 0)
def ah1 (l:Li):List Bool:=(ady l).foldl (fun k g=>aav k g.joints) (List.replicate l.joints.length false)
def acw (k:List Bool):List Int:=((List.range k.length).filter (fun i=>!k.getD i false)).map (fun i:Nat=>((i:Nat):Int))
def ado (l:Li):Nat:=if (acw (aei l)).length + (acw (ah1 l)).length = 0 then 0 else 7
def ack (l:Li):List Gr:=if ado l = 0 then ady l else []
theorem axf {kind body:Int} {oth:List Bool} {j:Jt} {va vb:Bool} (ea:kn oth j.a = va) (eb:kn oth j.b = vb) :
  cond (aaa .eql j.kind kind) (cond (cond (aaa .eql j.a body) vb false) true (cond (aaa .eql j.b body) va false)) false = bbw kind body oth j:=by
 unfold bbw;rw [aop,aop,aop,ea,eb,aes,aes,aes,aon]
theorem aed (n:Nat) (b:Int):(aeu n b).length = n:=by unfold aeu; simp
theorem agf:∀ (bs:List Int) (k:List Bool), (aav k bs).length = k.length
 | [],k=>rfl
 | b :: bs, k=>by
  show (aav (k.set b.toNat true) bs).length = _;rw [agf bs]; simp
theorem aby {n i:Nat} {ok:Nat -> Bool} (h:act n ok = some i):i < n /\ ok i = false:=by
 unfold act at h;rw [List.find?_range_eq_some] at h;exact ⟨by simpa using h.2.1,by simpa using h.1⟩
theorem agn {l:Li} {kind body:Int} {oth:List Bool}:-1 <= abu l kind body oth /\ abu l kind body oth < l.joints.length:=by
 unfold abu;cases h:act l.joints.length (fun i=>!bbw kind body oth (l.joints.getD i default)) with
 | none=>exact ⟨by decide,by show (-1:Int) < _; omega⟩
 | some i=>have:=(aby h).1; exact ⟨by show (-1:Int) <= (i:Int); omega,by show (i:Int) < _; omega⟩
structure GrOk (l:Li) (g:Gr):Prop where
  b:∀ x ∈ g.bodies,0 <= x /\ x < l.bodies.length
  j:∀ x ∈ g.joints,0 <= x /\ x < l.joints.length
  lb:g.bodies.length <= 2
  lj:g.joints.length <= 3
theorem a4x {l:Li} (hl:liE l = 0) {known:List Bool} {g:Gr} (h:ace l known = some g):GrOk l g:=by
 unfold ace at h;rw [map_eq_some_iff] at h;obtain ⟨i,hi,rfl⟩:=h;obtain ⟨h1,h2⟩:=aby hi;obtain ⟨d,hd⟩:=ab5 h1;have h3:=aiz (a4n hl hd);unfold ajz at h2;simp only [Bool.not_eq_false',and_eq_true,decide_eq_true_eq] at h2;rw [aah hd] at h2 ⊢;have h4:=agn (l:=l) (kind:=0) (body:=d.body) (oth:=known);refine ⟨fun x hx=>?_,fun x hx=>?_,by simp,by simp⟩
 ·rw [List.mem_singleton.1 hx]; exact h3
 ·rw [List.mem_singleton.1 hx]; exact ⟨h2.2,h4.2⟩
theorem bdk {l:Li} {known:List Bool} {g:Gr} (h:afh l known = some g):GrOk l g:=by
 unfold afh at h;rw [map_eq_some_iff] at h;obtain ⟨i,hi,h⟩:=h;obtain ⟨h1,h2⟩:=aby hi;split at h
 ·rename_i k hk;subst h;unfold a0i at hk;rw [map_eq_some_iff] at hk;obtain ⟨k',hk',rfl⟩:=hk;obtain ⟨h3,h4⟩:=aby hk';rw [show i + 1 + k' = k' + (i + 1) by omega] at h4;unfold af2 at h4;simp only [Bool.not_eq_false',and_eq_true,decide_eq_true_eq] at h4;obtain ⟨_,⟨j1,j2⟩,j3⟩:=h4;refine ⟨fun x hx=>?_,fun x hx=>?_,by simp [prG],by simp [prG]⟩
  ·simp only [prG, mem_cons, not_mem_nil, or_false] at hx;rcases hx with rfl | rfl <;> constructor <;> omega
  ·simp only [prG, mem_cons, not_mem_nil, or_false] at hx;rcases hx with rfl | rfl | rfl
   ·exact ⟨j1,agn.2⟩
   ·exact ⟨j2,agn.2⟩
   ·exact ⟨j3,agn.2⟩
 ·rename_i hk; rw [hk] at h2; cases h2
theorem a5y {l:Li} {known:List Bool} {g:Gr} (h:ada l known = some g):GrOk l g:=by
 unfold ada at h;rw [map_eq_some_iff] at h;obtain ⟨i,hi,rfl⟩:=h;obtain ⟨h1,h2⟩:=aby hi;unfold aj0 at h2;simp only [Bool.not_eq_false',and_eq_true,decide_eq_true_eq] at h2;obtain ⟨_,j1,j2⟩:=h2;refine ⟨fun x hx=>?_,fun x hx=>?_,by simp [sgG],by simp [sgG]⟩
 ·simp only [sgG, mem_cons, not_mem_nil, or_false] at hx;subst hx; constructor <;> omega
 ·simp only [sgG, mem_cons, not_mem_nil, or_false] at hx;rcases hx with rfl | rfl
  ·exact ⟨j1,agn.2⟩
  ·exact ⟨j2,agn.2⟩
theorem av3 {l:Li} (hl:liE l = 0) {known:List Bool} {g:Gr} (h:adx l known = some g):GrOk l g:=by
 unfold adx at h;cases h1:ace l known with
 | some g'=>rw [h1] at h; cases h; exact a4x hl h1
 | none =>
  rw [h1] at h;cases h2:afh l known with
  | some g'=>rw [h2] at h; cases h; exact bdk h2
  | none=>rw [h2] at h; exact a5y h
theorem aqu {l:Li} (hl:liE l = 0):∀ (n:Nat) (known:List Bool) (out:List Gr), (∀ g ∈ out, GrOk l g) -> (∀ g ∈ (aa8 l n known out).2, GrOk l g) /\ (aa8 l n known out).2.length <= out.length + n
 | 0,known,out,h=>⟨h,by simp [aa8]⟩
 | n + 1, known, out, h=>by
  unfold aa8;cases hg:adx l known with
  | none=>exact ⟨h,by simp⟩
  | some g =>
   have h1:=aqu hl n (aav known g.bodies) (out ++ [g]) (fun x hx=>by
    rcases List.mem_append.1 hx with hx | hx
    ·exact h x hx
    ·rw [List.mem_singleton.1 hx]; exact av3 hl hg)
   refine ⟨h1.1,?_⟩;have:=h1.2;rw [length_append] at this;show (aa8 l n (aav known g.bodies) (out ++ [g])).2.length <= _;simp only [length_cons,length_nil] at this;omega
theorem am2 {l:Li} (hl:liE l = 0):(∀ g ∈ ady l, GrOk l g) /\ (ady l).length <= 8:=by
 have h:=aqu hl l.bodies.length (aeu l.bodies.length 0) [] (fun g hg=>by cases hg);have h8:=(ab8 hl).2.2.2.1;exact ⟨h.1,by have:=h.2; simp only [length_nil] at this; unfold ady; omega⟩
end Go.Lw
namespace Go.Lw
def ajv (j:Jt) (b:Int):Int:=if b = j.a then j.b else if b = j.b then j.a else -1
def bpb (kind body:Int) (p:Int -> Bool) (j:Jt):Bool:=decide (j.kind = kind) && (decide (0 <= ajv j body) && p (ajv j body))
def gJ (l:Li) (kind body:Int) (p:Int -> Bool):Int:=ixI (act l.joints.length (fun i=>!bpb kind body p (l.joints.getD i default)))
theorem brl {b:Bool} {z:Int} (h:cond b (aaa .geq z 0) false = true):0 <= z:=by
 cases b
 ·cases h
 ·exact of_decide_eq_true h
theorem bog {a k z:Int} {q:Bool}:cond (cond (aaa .eql a k) (aaa .geq z 0) false) q false = (decide (a = k) && (decide (0 <= z) && q)):=by
 rw [aop,show aaa .geq z 0 = decide (0 <= z) from rfl,aes,aes,Bool.and_assoc]
theorem bb5 {l:Li} (hli:liE l = 0) {i:Nat} {j:Jt} (hj:l.joints[i]? = some j) (b:Int):ajv j b < l.bodies.length:=by
 obtain ⟨i1,i2,_⟩:=afv hli hj;have b1:=aiz i1;have b2:=aiz i2;unfold ajv;split
 ·omega
 ·split <;> omega
theorem aw9 {n:Nat} {ok ok':Nat -> Bool} (h:∀ i, i < n -> ok i = ok' i):act n ok = act n ok':=by
 unfold act
 have:∀ l:List Nat, (∀ i ∈ l, i < n) -> l.find? (fun i=>!ok i) = l.find? (fun i=>!ok' i):=by
  intro l
  induction l with
  | nil=>intro _; rfl
  | cons a l ih =>
   intro hl;simp only [List.find?_cons,h a (hl a (by simp)),ih (fun i hi=>hl i (by simp [hi]))]
 exact this _ (fun i hi=>List.mem_range.1 hi)
theorem bks {l:Li} (hli:liE l = 0) {kind body:Int} {p:Int -> Bool} {oth:List Bool} (h:∀ o:Int, 0 <= o -> o < l.bodies.length -> p o = kn oth o):gJ l kind body p = abu l kind body oth:=by
 unfold gJ abu;rw [aw9];intro i hi;obtain ⟨j,hj⟩:=ab5 hi;rw [aah hj];obtain ⟨i1,i2,_⟩:=afv hli hj;have b1:=aiz i1;have b2:=aiz i2;congr 1;unfold bpb bbw;congr 1;unfold ajv
 by_cases h1:body = j.a
 ·subst h1;rw [if_pos rfl,h _ b2.1 b2.2]
  by_cases h2:j.b = j.a
  ·simp [h2,b1.1]
  ·simp [h2,b2.1]
 ·rw [if_neg h1]
  by_cases h2:body = j.b
  ·subst h2;rw [if_pos rfl,h _ b1.1 b1.2];have h3:¬ j.a = j.b:=fun e=>h1 e.symm
   simp [h3,b1.1]
  ·rw [if_neg h2];have h3:¬ j.a = body:=fun e=>h1 e.symm
   have h4:¬ j.b = body:=fun e=>h2 e.symm
   simp [h3,h4]
theorem bf3 {k:List Bool} {i:Nat} {b:Int} (h0:0 <= b) (hi:i < k.length):kn (k.set i true) b = (decide (b = i) || kn k b):=by
 unfold kn;rw [getD_eq_getElem?_getD,List.getElem?_set,getD_eq_getElem?_getD]
 by_cases h:b = i
 ·rw [decide_eq_true h, Bool.true_or, if_pos oz];rw [if_pos oz]; rfl
 ·rw [decide_eq_false h,Bool.false_or,if_neg oz]
theorem a8x:∀ {bs:List Int} {k:List Bool} {b:Int}, 0 <= b -> (∀ x ∈ bs, 0 <= x /\ x < k.length) -> kn (aav k bs) b = (bs.any (fun x=>decide (x = b)) || kn k b)
 | [],k,b,h0,h=>by simp [aav]
 | x :: bs, k, b, h0, h=>by
  show kn (aav (k.set x.toNat true) bs) b = _;obtain ⟨hx0,hx1⟩:=h x (by simp);rw [a8x h0 (fun y hy=>by rw [length_set]; exact h y (by simp [hy])),bf3 h0 oz,List.any_cons];have e:decide (b = (x.toNat:Int)) = decide (x = b):=decide_eq_decide.2 oz;rw [e];cases decide (x = b) <;> simp
theorem a14 (n:Nat) (b:Int):kn (List.replicate n false) b = false:=by
 unfold kn;rw [getD_eq_getElem?_getD,List.getElem?_replicate];split <;> rfl
def aa2 (l:Li):List Bool:=aav (List.replicate l.bodies.length false) (l.drivers.map Dr.body)
theorem aij (l:Li):(aa2 l).length = l.bodies.length:=by unfold aa2; rw [agf,length_replicate]
theorem a98 {l:Li} (hli:liE l = 0) {b:Int} (h0:0 <= b):kn (aa2 l) b = aot l b:=by
 unfold aa2 aot;rw [a8x h0,a14,Bool.or_false,List.any_map]
 ·rfl
 ·intro x hx;obtain ⟨d,hd,rfl⟩:=List.mem_map.1 hx;obtain ⟨i,hi⟩:=List.mem_iff_getElem?.1 hd;have:=aiz (a4n hli hi);rw [length_replicate]; omega
theorem a0w {n:Nat} {b o:Int} (h0:0 <= o) (hb0:0 <= b) (hb:b < n):kn (aeu n b) o = decide (o = b):=by
 unfold aeu;rw [bf3 h0 (by rw [length_replicate]; omega),a14,Bool.or_false];exact decide_eq_decide.2 oz
def unk (k:List Bool):Nat:=k.countP (fun x=>!x)
theorem bip {k:List Bool} {i:Nat} (h:k[i]? = some false):unk (k.set i true) + 1 = unk k:=by
 unfold unk;have hi:=(List.getElem?_eq_some_iff.1 h).1;have he:=(List.getElem?_eq_some_iff.1 h).2;rw [List.countP_set hi,he];have:0 < k.countP (fun x=>!x):=List.countP_pos_iff.2 ⟨false,mem_of_getElem? h,rfl⟩;simp; omega
theorem a4h (k:List Bool) (i:Nat):unk (k.set i true) <= unk k:=by
 by_cases hi:i < k.length
 ·unfold unk; rw [List.countP_set hi]; simp
 ·rw [List.set_eq_of_length_le oz]; exact le_refl _
theorem aqo:∀ (bs:List Int) (k:List Bool), unk (aav k bs) <= unk k
 | [],k=>le_refl _
 | x :: bs,k=>le_trans (aqo bs (k.set x.toNat true)) (a4h k _)
theorem bc1 {x:Int} {bs:List Int} {k:List Bool} (h:k[x.toNat]? = some false):unk (aav k (x :: bs)) < unk k:=by
 have h1:=aqo bs (k.set x.toNat true);have h2:=bip h;show unk (aav (k.set x.toNat true) bs) < _;omega
theorem a7e {k:List Bool} {b:Int} (h:kn k b = false) (h1:b.toNat < k.length):k[b.toNat]? = some false:=by
 unfold kn at h;rw [getD_eq_getElem?_getD,getElem?_eq_getElem h1] at h;rw [getElem?_eq_getElem h1];simpa using h
theorem a77 {l:Li} (hl:liE l = 0) {known:List Bool} (hk:known.length = l.bodies.length) {g:Gr} (h:adx l known = some g):∃ x bs, g.bodies = x :: bs /\ known[x.toNat]? = some false:=by
 unfold adx at h;cases h1:ace l known with
 | some g' =>
  rw [h1] at h; cases h
  unfold ace at h1;rw [map_eq_some_iff] at h1;obtain ⟨i,hi,rfl⟩:=h1;obtain ⟨h2,h3⟩:=aby hi;obtain ⟨d,hd⟩:=ab5 h2;have h4:=aiz (a4n hl hd);rw [aah hd] at *;unfold ajz at h3;rw [aah hd] at h3;simp only [Bool.not_eq_false',and_eq_true,Bool.not_eq_true',decide_eq_true_eq] at h3;exact ⟨_,_,rfl,a7e h3.1 oz⟩
 | none =>
  rw [h1] at h;cases h2:afh l known with
  | some g' =>
   rw [h2] at h; cases h
   unfold afh at h2;rw [map_eq_some_iff] at h2;obtain ⟨i,hi,h2⟩:=h2;obtain ⟨h3,h4⟩:=aby hi;split at h2
   ·rename_i k hk';subst h2;unfold a0i at hk';rw [map_eq_some_iff] at hk';obtain ⟨k',hk',rfl⟩:=hk';obtain ⟨h5,h6⟩:=aby hk';unfold af2 ah2 at h6;simp only [Bool.not_eq_false',and_eq_true,Bool.not_eq_true',decide_eq_true_eq] at h6;exact ⟨_,_,rfl,a7e h6.1.1.1 oz⟩
   ·rename_i hk'; rw [hk'] at h4; cases h4
  | none =>
   rw [h2] at h;have h:ada l known = some g:=h;unfold ada at h;rw [map_eq_some_iff] at h;obtain ⟨i,hi,rfl⟩:=h;obtain ⟨h3,h4⟩:=aby hi;unfold aj0 ah2 at h4;simp only [Bool.not_eq_false',and_eq_true,Bool.not_eq_true',decide_eq_true_eq] at h4;exact ⟨_,_,rfl,a7e h4.1.1 oz⟩
theorem ai0 {l:Li} (hl:liE l = 0) {known:List Bool} (hk:known.length = l.bodies.length) {g:Gr} (h:adx l known = some g):unk (aav known g.bodies) < unk known:=by
 obtain ⟨x,bs,e,h1⟩:=a77 hl hk h;rw [e]; exact bc1 h1
theorem aja {l:Li} (hl:liE l = 0):∀ (n m:Nat) (known:List Bool) (out:List Gr), known.length = l.bodies.length -> unk known <= n -> unk known <= m -> aa8 l n known out = aa8 l m known out
 | 0,0,known,out,hk,h1,h2=>rfl
 | 0, m + 1, known, out, hk, h1, h2=>by
  unfold aa8;cases hg:adx l known with
  | none=>rfl
  | some g=>have:=ai0 hl hk hg; omega
 | n + 1, 0, known, out, hk, h1, h2=>by
  unfold aa8;cases hg:adx l known with
  | none=>rfl
  | some g=>have:=ai0 hl hk hg; omega
 | n + 1, m + 1, known, out, hk, h1, h2=>by
  unfold aa8;cases hg:adx l known with
  | none=>rfl
  | some g =>
   have:=ai0 hl hk hg;exact aja hl n m _ _ (by rw [agf]; exact hk) oz oz
theorem ah5 {l:Li}:∀ (n:Nat) (known:List Bool) (out:List Gr), ∃ gs, aa8 l n known out = (gs.foldl (fun k g=>aav k g.bodies) known, out ++ gs)
 | 0,known,out=>⟨[],by simp [aa8]⟩
 | n + 1, known, out=>by
  unfold aa8;cases hg:adx l known with
  | none=>exact ⟨[],by simp⟩
  | some g =>
   obtain ⟨gs,e⟩:=ah5 n (aav known g.bodies) (out ++ [g]);exact ⟨g :: gs,by show aa8 l n _ _ = _; rw [e]; simp⟩
theorem a4w (l:Li):aa8 l l.bodies.length (aeu l.bodies.length 0) [] = (aei l, ady l):=by
 obtain ⟨gs,e⟩:=ah5 (l:=l) l.bodies.length (aeu l.bodies.length 0) [];unfold aei ady;rw [e]; simp
theorem a3w {k:List Bool}:(acw k).length = 0 ↔ k.contains false = false:=by
 unfold acw;rw [length_map,List.length_eq_zero_iff,List.filter_eq_nil_iff];constructor
 ·intro h;rw [<- Bool.not_eq_true,List.contains_iff_mem];intro hm;obtain ⟨i,hi⟩:=List.mem_iff_getElem?.1 hm;have hlt:=(List.getElem?_eq_some_iff.1 hi).1;have:=h i (List.mem_range.2 hlt);rw [getD_eq_getElem?_getD,hi] at this;simp at this
 ·intro h i hi;rw [<- Bool.not_eq_true,List.contains_iff_mem] at h;intro hc;have hlt:=List.mem_range.1 hi;rw [getD_eq_getElem?_getD,getElem?_eq_getElem hlt] at hc;simp at hc;exact h (hc ▸ List.getElem_mem hlt)
theorem an8:Sub (.agg [.v (.int .i64 0),.v (.slice none 0 0),.v (.slice none 0 0),.v (.int .i64 0)]) (Gr.av default):=.agg (.cons (.refl _) (.cons (.nil _ _ _) (.cons (.nil _ _ _) (.cons (.refl _) .nil)))) rfl
theorem boq {z:Int} (h:aaa .geq z 0 = true):0 <= z:=of_decide_eq_true h
theorem blh {z:Int} (h:aaa .geq z 0 = false):¬ 0 <= z:=of_decide_eq_false h
theorem auv {a b c:Int}:cond (cond (aaa .geq a 0) (aaa .geq b 0) false) (aaa .geq c 0) false = (decide (0 <= a) && decide (0 <= b) && decide (0 <= c)):=by
 have e:∀ z:Int,aaa .geq z 0 = decide (0 <= z):=fun z=>rfl
 rw [e,e,e,aes,aes]
theorem boj {a b:Int}:cond (aaa .lss a 0) true (aaa .lss b 0) = !(decide (0 <= a) && decide (0 <= b)):=by
 have e:∀ z:Int,aaa .lss z 0 = !decide (0 <= z):=fun z=>by rw [<- decide_not]; exact decide_eq_decide.2 oz
 rw [e,e,aon,Bool.not_and]
theorem bnw {a b:Int} (h:cond (aaa .lss a 0) true (aaa .lss b 0) = true):(decide (0 <= a) && decide (0 <= b)) = false:=by rw [boj] at h; exact af8 h
theorem bm8 {a b:Int} (h:cond (aaa .lss a 0) true (aaa .lss b 0) = false):0 <= a /\ 0 <= b:=by
 rw [boj] at h;have:=af1 h;simpa using this
end Go.Lw
namespace Go.Lw
structure TieO (l:Li) (kind:Int) (bs:List Int) (z b:Int) (j:Jt):Prop where
  hz:0 <= z
  hj:l.joints[z.toNat]? = some j
  kd:j.kind = kind
  tie:(j.a = b /\ j.b ∉ bs) \/ (j.b = b /\ j.a ∉ bs)
inductive DyK (l:Li):Gr -> Prop where
  | drv {b z d:Int} {j:Jt} {x:Dr} (t:TieO l 0 [b] z b j) (d0:0 <= d) (hd:l.drivers[d.toNat]? = some x) (hb:x.body = b):DyK l ⟨0,[b],[z],d⟩
  | rrr {i k z0 z1 z2:Int} {j0 j1 j2:Jt} (ne:i ≠ k) (t0:TieO l 0 [i, k] z0 i j0) (t1:TieO l 0 [i, k] z1 k j1) (h0:0 <= z2) (h2:l.joints[z2.toNat]? = some j2) (kd:j2.kind = 0)
      (tie:(j2.a = i /\ j2.b = k) \/ (j2.b = i /\ j2.a = k)):DyK l ⟨1,[i,k],[z0,z1,z2],0⟩
  | pr {i z0 z1:Int} {j0 j1:Jt} (t0:TieO l 0 [i] z0 i j0) (t1:TieO l 1 [i] z1 i j1) (ha:j1.a = i):DyK l ⟨2,[i],[z0,z1],0⟩
  | rp {i z0 z1:Int} {j0 j1:Jt} (t0:TieO l 0 [i] z0 i j0) (t1:TieO l 1 [i] z1 i j1) (ha:j1.a ≠ i):DyK l ⟨3,[i],[z0,z1],0⟩
theorem awx {l:Li} {kind b:Int} {oth:List Bool} (h:0 <= abu l kind b oth) :
  ∃ (i:Nat) (j:Jt),abu l kind b oth = (i:Int) /\ l.joints[i]? = some j /\ j.kind = kind /\ ((j.a = b /\ kn oth j.b = true) \/ (j.b = b /\ kn oth j.a = true)):=by
 unfold abu at h ⊢;cases hf:act l.joints.length (fun i=>!bbw kind b oth (l.joints.getD i default)) with
 | none=>rw [hf] at h; exact absurd h (by decide)
 | some i =>
  obtain ⟨h1,h2⟩:=aby hf;obtain ⟨j,hj⟩:=ab5 h1;rw [aah hj] at h2;unfold bbw at h2;simp only [Bool.not_eq_false',and_eq_true,or_eq_true,decide_eq_true_eq] at h2;exact ⟨i,j,rfl,hj,h2.1,h2.2⟩
theorem azi {l:Li} {kind b:Int} {known:List Bool} {bs:List Int} (hb:∀ x ∈ bs, kn known x = false) (h:0 <= abu l kind b known):∃ j, TieO l kind bs (abu l kind b known) b j:=by
 obtain ⟨i,j,e,hj,hk,ht⟩:=awx h;have hn:∀ x,kn known x = true -> x ∉ bs:=fun x hx hm=>by rw [hb x hm] at hx; cases hx
 refine ⟨j,h,by rw [e,toNat_natCast]; exact hj,hk,?_⟩;rcases ht with ⟨h1,h2⟩ | ⟨h1,h2⟩
 ·exact .inl ⟨h1,hn _ h2⟩
 ·exact .inr ⟨h1,hn _ h2⟩
theorem au4 {l:Li} {known:List Bool} {b:Int} (h:ah2 l known b = true):kn known b = false:=by
 unfold ah2 at h;simp only [and_eq_true,Bool.not_eq_true'] at h;exact h.1
theorem ba2 {known:List Bool} {b:Int} (h:kn known b = false):∀ x ∈ [b],kn known x = false:=fun x hx=>by rw [List.mem_singleton.1 hx]; exact h
theorem a4l {l:Li} (hl:liE l = 0) {known:List Bool} {g:Gr} (h:ace l known = some g):DyK l g:=by
 unfold ace at h;rw [map_eq_some_iff] at h;obtain ⟨i,hi,rfl⟩:=h;obtain ⟨h1,h2⟩:=aby hi;obtain ⟨d,hd⟩:=ab5 h1;unfold ajz at h2;simp only [Bool.not_eq_false',and_eq_true,decide_eq_true_eq,Bool.not_eq_true'] at h2;rw [aah hd] at h2 ⊢;obtain ⟨j,hj⟩:=azi (ba2 h2.1) h2.2;exact .drv hj oz (by rw [toNat_natCast]; exact hd) rfl
theorem bez {l:Li} (hl:liE l = 0) {known:List Bool} {g:Gr} (h:afh l known = some g):DyK l g:=by
 unfold afh at h;rw [map_eq_some_iff] at h;obtain ⟨i,hi,h⟩:=h;obtain ⟨h1,h2⟩:=aby hi;split at h
 ·rename_i k hk;subst h;unfold a0i at hk;rw [map_eq_some_iff] at hk;obtain ⟨k',hk',rfl⟩:=hk;obtain ⟨h3,h4⟩:=aby hk';rw [show i + 1 + k' = k' + (i + 1) by omega] at h4;unfold af2 at h4;simp only [Bool.not_eq_false',and_eq_true,decide_eq_true_eq] at h4;obtain ⟨⟨f1,f2⟩,⟨j1,j2⟩,j3⟩:=h4
  have hb:∀ x ∈ [(i:Int), ((k' + (i + 1):Nat):Int)], kn known x = false:=fun x hx=>by
   simp only [mem_cons,not_mem_nil,or_false] at hx;rcases hx with rfl | rfl
   ·exact au4 f1
   ·exact au4 f2
  obtain ⟨a0,t0⟩:=azi hb j1;obtain ⟨a1,t1⟩:=azi hb j2;obtain ⟨n,a2,e,hj,hkd,ht⟩:=awx j3;obtain ⟨i1,i2,_⟩:=afv hl hj;have i1:=(aiz i1).1;have i2:=(aiz i2).1;refine .rrr oz t0 t1 j3 (by rw [e,toNat_natCast]; exact hj) hkd ?_;rcases ht with ⟨e1,e2⟩ | ⟨e1,e2⟩
  ·rw [a0w i2 oz oz] at e2;exact .inl ⟨e1,of_decide_eq_true e2⟩
  ·rw [a0w i1 oz oz] at e2;exact .inr ⟨e1,of_decide_eq_true e2⟩
 ·rename_i hk; rw [hk] at h2; cases h2
theorem a39 {l:Li} {known:List Bool} {g:Gr} (h:ada l known = some g):DyK l g:=by
 unfold ada at h;rw [map_eq_some_iff] at h;obtain ⟨i,hi,rfl⟩:=h;obtain ⟨h1,h2⟩:=aby hi;unfold aj0 at h2;simp only [Bool.not_eq_false',and_eq_true,decide_eq_true_eq] at h2;obtain ⟨f1,j1,j2⟩:=h2;obtain ⟨a0,t0⟩:=azi (ba2 (au4 f1)) j1;obtain ⟨a1,t1⟩:=azi (ba2 (au4 f1)) j2;unfold sgG;rw [aah t1.hj]
 by_cases e:a1.a = i
 ·rw [if_pos e]; exact .pr t0 t1 e
 ·rw [if_neg e]; exact .rp t0 t1 e
theorem bcm {l:Li} (hl:liE l = 0) {known:List Bool} {g:Gr} (h:adx l known = some g):DyK l g:=by
 unfold adx at h;cases h1:ace l known with
 | some g'=>rw [h1] at h; cases h; exact a4l hl h1
 | none =>
  rw [h1] at h;cases h2:afh l known with
  | some g'=>rw [h2] at h; cases h; exact bez hl h2
  | none=>rw [h2] at h; exact a39 h
theorem aqv {l:Li} (hl:liE l = 0):∀ (n:Nat) (known:List Bool) (out:List Gr), (∀ g ∈ out, DyK l g) -> ∀ g ∈ (aa8 l n known out).2, DyK l g
 | 0,known,out,h=>h
 | n + 1, known, out, h=>by
  unfold aa8;cases hg:adx l known with
  | none=>exact h
  | some g=>exact aqv hl n (aav known g.bodies) (out ++ [g]) (fun x hx=>by
    rcases List.mem_append.1 hx with hx | hx
    ·exact h x hx
    ·rw [List.mem_singleton.1 hx]; exact bcm hl hg)
theorem aso {l:Li} (hl:liE l = 0) {g:Gr} (h:g ∈ ack l):DyK l g /\ GrOk l g:=by
 unfold ack at h;split at h
 ·exact ⟨aqv hl _ _ _ (fun g hg=>by cases hg) g h,(am2 hl).1 g h⟩
 ·cases h
end Go.Lw
namespace Go.Lw
open Lean.Grind
def E (r:(k:Nat) -> T k) (n:Nat):Type:=T n
namespace T
theorem ofQ_zero:∀ n, ofQ n 0 = zero n
 | 0=>rfl
 | n + 1=>by simp only [ofQ,zero,ofQ_zero n]
theorem ofQ_add:∀ n (p q:Rat), ofQ n (p + q) = add n (ofQ n p) (ofQ n q)
 | 0,p,q=>rfl
 | n + 1,p,q=>by simp only [ofQ,add,ofQ_add n,add_zero]
theorem ofQ_neg:∀ n (p:Rat), ofQ n (-p) = neg n (ofQ n p)
 | 0,p=>rfl
 | n + 1,p=>by simp only [ofQ,neg,ofQ_neg n,neg_zero]
end T
structure Laws (r:(k:Nat) -> T k) (n:Nat):Prop where
  assoc:∀ x y z,T.mul r n (T.mul r n x y) z = T.mul r n x (T.mul r n y z)
  dist:∀ x y z,T.mul r n x (T.add n y z) = T.add n (T.mul r n x y) (T.mul r n x z)
  one:∀ x,T.mul r n (T.ofQ n 1) x = x
theorem T.neg_mul' {r:(k:Nat) -> T k} {n:Nat} (h:Laws r n) (x y:T n):T.mul r n (T.neg n x) y = T.neg n (T.mul r n x y):=by
 have h1:T.add n (T.mul r n x y) (T.mul r n (T.neg n x) y) = T.zero n:=by
  rw [T.mul_comm r n x,T.mul_comm r n (T.neg n x),<- h.dist,T.add_neg,T.mul_zero]
 have h2:=congrArg (fun z=>T.add n (T.neg n (T.mul r n x y)) z) h1;simp only [T.add_zero] at h2;rw [<- T.add_assoc,T.add_comm n (T.neg n _),T.add_neg,T.zero_add] at h2;exact h2
theorem T.mul_addr {r:(k:Nat) -> T k} {n:Nat} (h:Laws r n) (a b c:T n):T.mul r n (T.add n a b) c = T.add n (T.mul r n a c) (T.mul r n b c):=by
 rw [T.mul_comm r n _ c,h.dist,T.mul_comm r n c,T.mul_comm r n c]
instance (r:(k:Nat) -> T k) (n:Nat):Add (E r n):=⟨T.add n⟩
instance (r:(k:Nat) -> T k) (n:Nat):Mul (E r n):=⟨T.mul r n⟩
instance (r:(k:Nat) -> T k) (n:Nat):Neg (E r n):=⟨T.neg n⟩
instance (r:(k:Nat) -> T k) (n:Nat):_root_.Sub (E r n):=⟨fun x y=>T.add n x (T.neg n y)⟩
instance (r:(k:Nat) -> T k) (n c:Nat):OfNat (E r n) c:=⟨T.ofQ n (c:Rat)⟩
instance (r:(k:Nat) -> T k) (n:Nat):NatCast (E r n):=⟨fun c=>T.ofQ n (c:Rat)⟩
instance (r:(k:Nat) -> T k) (n:Nat):IntCast (E r n):=⟨fun c=>T.ofQ n (c:Rat)⟩
instance (r:(k:Nat) -> T k) (n:Nat):SMul Nat (E r n):=⟨fun c x=>T.mul r n (T.ofQ n (c:Rat)) x⟩
instance (r:(k:Nat) -> T k) (n:Nat):SMul Int (E r n):=⟨fun c x=>T.mul r n (T.ofQ n (c:Rat)) x⟩
def E.pow {r:(k:Nat) -> T k} {n:Nat} (x:E r n):Nat -> E r n
  | 0=>T.ofQ n 1
  | c + 1=>T.mul r n (E.pow x c) x
instance (r:(k:Nat) -> T k) (n:Nat):HPow (E r n) Nat (E r n):=⟨E.pow⟩
@[reducible] def Laws.ring {r:(k:Nat) -> T k} {n:Nat} (h:Laws r n):CommRing (E r n) where
  add_zero a:=by
    show T.add n a (T.ofQ n ((0:Nat):Rat)) = a;rw [show (((0:Nat):Rat)) = 0 from rfl,T.ofQ_zero]; exact T.add_zero n a
  add_comm a b:=T.add_comm n a b
  add_assoc a b c:=T.add_assoc n a b c
  mul_assoc a b c:=h.assoc a b c
  mul_one a:=(T.mul_comm r n a _).trans (h.one a)
  one_mul a:=h.one a
  left_distrib a b c:=h.dist a b c
  right_distrib a b c:=T.mul_addr h a b c
  zero_mul a:=by
    show T.mul r n (T.ofQ n ((0:Nat):Rat)) a = T.ofQ n ((0:Nat):Rat);rw [show (((0:Nat):Rat)) = 0 from rfl,T.ofQ_zero]; exact T.zero_mul r n a
  mul_zero a:=by
    show T.mul r n a (T.ofQ n ((0:Nat):Rat)) = T.ofQ n ((0:Nat):Rat);rw [show (((0:Nat):Rat)) = 0 from rfl,T.ofQ_zero]; exact T.mul_zero r n a
  pow_zero a:=rfl
  pow_succ a c:=rfl
  ofNat_succ c:=by
    show T.ofQ n ((c + 1:Nat):Rat) = T.add n (T.ofQ n (c:Rat)) (T.ofQ n ((1:Nat):Rat));rw [<- T.ofQ_add]; congr 1; exact Rat.natCast_add c 1
  ofNat_eq_natCast c:=rfl
  nsmul_eq_natCast_mul c a:=rfl
  neg_add_cancel a:=(T.add_comm n (T.neg n a) a).trans ((T.add_neg n a).trans (T.ofQ_zero n).symm)
  sub a b:=T.add n a (T.neg n b)
  sub_eq_add_neg a b:=rfl
  neg_zsmul i a:=(congrArg (fun z=>T.mul r n z a) (show T.ofQ n ((-i:Int):Rat) = T.neg n (T.ofQ n (i:Rat)) by rw [Rat.intCast_neg,T.ofQ_neg])).trans (T.neg_mul' h _ a)
  zsmul_natCast_eq_nsmul c a:=rfl
  intCast_ofNat c:=rfl
  intCast_neg i:=by
    show T.ofQ n ((-i:Int):Rat) = T.neg n (T.ofQ n (i:Rat));rw [Rat.intCast_neg,T.ofQ_neg]
  mul_comm a b:=T.mul_comm r n a b
section
variable {R:Type} [CommRing R] (x y u v p q d:R)
theorem bjs:(x * u + y * v * d) * p + (x * v + y * u) * q * d = x * (u * p + v * q * d) + y * (u * q + v * p) * d:=by grind
theorem bjl:(x * u + y * v * d) * q + (x * v + y * u) * p = x * (u * q + v * p) + y * (u * p + v * q * d):=by grind
theorem bjt:x * (u + p) + y * (v + q) * d = (x * u + y * v * d) + (x * p + y * q * d):=by grind
theorem bh9:x * (v + q) + y * (u + p) = (x * v + y * u) + (x * q + y * p):=by grind
end
theorem bkt (r:(k:Nat) -> T k):∀ n, Laws r n
 | 0=>⟨fun x y z=>Rat.mul_assoc x y z,fun x y z=>Rat.mul_add x y z,fun x=>Rat.one_mul x⟩
 | n + 1=>by
  have I:=(bkt r n).ring;have h1:=(bkt r n).one;refine ⟨?_,?_,?_⟩
  ·rintro ⟨x, y⟩ ⟨u, v⟩ ⟨p, q⟩;exact Prod.ext (@bjs (E r n) (bkt r n).ring x y u v p q (r n)) (@bjl (E r n) (bkt r n).ring x y u v p q (r n))
  ·rintro ⟨x, y⟩ ⟨u, v⟩ ⟨p, q⟩;exact Prod.ext (@bjt (E r n) (bkt r n).ring x y u v p q (r n)) (@bh9 (E r n) (bkt r n).ring x y u v p q)
  ·rintro ⟨u, v⟩;refine Prod.ext ?_ ?_
   ·show T.add n (T.mul r n (T.ofQ n 1) u) (T.mul r n (T.mul r n (T.zero n) v) (r n)) = u;rw [h1,T.zero_mul,T.zero_mul,T.add_zero]
   ·show T.add n (T.mul r n (T.ofQ n 1) v) (T.mul r n (T.zero n) u) = v;rw [h1,T.zero_mul,T.add_zero]
instance eRing (r:(k:Nat) -> T k) (n:Nat):CommRing (E r n):=(bkt r n).ring
structure Sg (R:Type) [CommRing R] (s:R -> Int):Prop where
  cs:∀ x,s x = -1 \/ s x = 0 \/ s x = 1
  one:s 1 = 1
  neg:∀ x,s (-x) = -s x
  mul:∀ x y,s (x * y) = s x * s y
  add:∀ x y,0 <= s x -> 0 <= s y -> 0 <= s (x + y)
namespace Sg
variable {R:Type} [CommRing R] {s:R -> Int}
theorem zero (h:Sg R s):s 0 = 0:=by
 have h1:=h.neg 0;rw [show -(0:R) = 0 by grind] at h1;omega
theorem zadd (h:Sg R s) {x y:R} (hx:s x = 0):s (x + y) = s y:=by
 have h1:=h.cs y;have h2:=h.cs (x + y);have n1:=h.neg x;have n2:=h.neg y;have n3:=h.neg (x + y);have a1:=h.add x y;have a2:=h.add (-x) (-y);have a3:=h.add (-x) (x + y);have a4:=h.add x (-(x + y));rw [show -x + -y = -(x + y) by grind] at a2;rw [show -x + (x + y) = y by grind] at a3;rw [show x + -(x + y) = -y by grind] at a4;omega
theorem padd (h:Sg R s) {x y:R} (hx:s x = 1) (hy:0 <= s y):s (x + y) = 1:=by
 have h2:=h.cs (x + y);have a1:=h.add x y;have n2:=h.neg y;have n3:=h.neg (x + y);have a4:=h.add (-(x + y)) y;have e:-(x + y) + y = -x:=by grind
 have n1:=h.neg x;rw [e] at a4;rcases h2 with h2 | h2 | h2
 ·omega
 ·have:=h.zadd (x:=-(x + y)) (y:=y) oz;rw [e] at this;omega
 ·exact h2
theorem sq (h:Sg R s) (x:R):0 <= s (x * x):=by
 rw [h.mul]; rcases h.cs x with e | e | e <;> rw [e] <;> decide
theorem sqle (h:Sg R s) {a b:R} (ha:0 <= s a) (hb:0 <= s (a * a - b * b)):0 <= s (a + b):=by
 have c1:=h.cs (a + b);rcases c1 with c1 | c1 | c1
 ·exfalso;have n1:=h.neg (a + b);have p1:s (-(a + b) + a) = 1:=h.padd oz ha;rw [show -(a + b) + a = -b by grind] at p1;have p2:s (-b + a) = 1:=h.padd p1 ha;have m:=h.mul (-b + a) (a + b);rw [show (-b + a) * (a + b) = a * a - b * b by grind,p2,c1] at m;omega
 ·omega
 ·omega
theorem cancel (h:Sg R s) {p x:R} (hp:s p = 1) (hx:0 <= s (p * x)):0 <= s x:=by
 rw [h.mul,hp] at hx; omega
end Sg
def mkX {r:(k:Nat) -> T k} {n:Nat} (x y:E r n):E r (n + 1):=((x,y):T n × T n)
def sg (r:(k:Nat) -> T k) (n:Nat) (x:E r n):Int:=T.sgn r n x
def rtE (r:(k:Nat) -> T k) (n:Nat):E r n:=r n
variable {r:(k:Nat) -> T k} {n:Nat}
theorem ad6 (z:E r (n + 1)):∃ x y:E r n,z = mkX x y:=⟨z.1,z.2,rfl⟩
theorem a0l (x y u v:E r n):mkX x y + mkX u v = mkX (x + u) (y + v):=rfl
theorem bh3 (x y:E r n):-mkX x y = mkX (-x) (-y):=rfl
theorem aoa (x y u v:E r n):mkX x y * mkX u v = mkX (x * u + y * v * rtE r n) (x * v + y * u):=rfl
theorem E.zero_def:(0:E r n) = T.zero n:=T.ofQ_zero n
theorem bic:(1:E r (n + 1)) = mkX 1 0:=by
 show T.ofQ (n + 1) ((1:Nat):Rat) = (T.ofQ n ((1:Nat):Rat),T.ofQ n ((0:Nat):Rat));rw [show (((0:Nat):Rat)) = 0 from rfl,T.ofQ_zero]; rfl
def nnE (x y:E r n):E r n:=x * x + -(y * y * rtE r n)
theorem atd (x y:E r n):sg r (n + 1) (mkX x y) = T.sgn3 (sg r n x) (sg r n y) (sg r n (rtE r n)) (sg r n (nnE x y)):=rfl
def PE (x y:E r n):Prop:=(0 <= sg r n x /\ 0 <= sg r n (nnE x y)) \/ (0 <= sg r n y /\ 0 <= -sg r n (nnE x y))
theorem a5u (h:Sg (E r n) (sg r n)) (hd:sg r n (rtE r n) = 1) (x y:E r n):0 <= sg r (n + 1) (mkX x y) ↔ PE x y:=by
 rw [atd,hd];unfold PE
 have f1:sg r n y = 0 -> sg r n (nnE x y) = sg r n x * sg r n x:=by
  intro hy;have h1:sg r n (-(y * y * rtE r n)) = 0:=by rw [h.neg,h.mul,h.mul,hy]; simp
  have:=h.zadd (y:=x * x) h1;unfold nnE;rw [show x * x + -(y * y * rtE r n) = -(y * y * rtE r n) + x * x by grind,this,h.mul]
 have f2:sg r n x = 0 -> sg r n (nnE x y) = -(sg r n y * sg r n y):=by
  intro hx;have h1:sg r n (x * x) = 0:=by rw [h.mul,hx]; simp
  have:=h.zadd (y:=-(y * y * rtE r n)) h1;unfold nnE;rw [this,h.neg,h.mul,h.mul,hd]; simp
 have c1:=h.cs x;have c2:=h.cs y;have c3:=h.cs (nnE x y)
 revert f1 f2 c1 c2 c3
 generalize sg r n x = a;generalize sg r n y = b;generalize sg r n (nnE x y) = c;intro f1 f2 c1 c2 c3;rcases c1 with rfl | rfl | rfl <;> rcases c2 with rfl | rfl | rfl <;> rcases c3 with rfl | rfl | rfl <;> first | decide | (exfalso; revert f1 f2; decide)
theorem blp (h:Sg (E r n) (sg r n)) (hd:sg r n (rtE r n) = 1) {x y u v:E r n} (h1:PE x y) (h2:PE u v):PE (x * u + y * v * rtE r n) (x * v + y * u):=by
 have nm:nnE (x * u + y * v * rtE r n) (x * v + y * u) = nnE x y * nnE u v:=by unfold nnE; grind
 have hn:=h.mul (nnE x y) (nnE u v);have d0:0 <= sg r n (rtE r n):=by omega
 unfold PE;rw [nm,hn];rcases h1 with ⟨a1,a2⟩ | ⟨a1,a2⟩ <;> rcases h2 with ⟨b1,b2⟩ | ⟨b1,b2⟩
 ·refine .inl ⟨h.sqle ?_ ?_, Int.mul_nonneg a2 b2⟩
  ·rw [h.mul]; exact Int.mul_nonneg a1 b1
  ·have e : x * u * (x * u) - y * v * rtE r n * (y * v * rtE r n) = nnE x y * (u * u) + y * y * rtE r n * nnE u v := by unfold nnE; grind
   rw [e];refine h.add _ _ ?_ ?_
   ·rw [h.mul]; exact Int.mul_nonneg a2 (h.sq u)
   ·rw [h.mul,h.mul]; exact Int.mul_nonneg (Int.mul_nonneg (h.sq y) d0) b2
 ·refine .inr ⟨h.sqle ?_ ?_, ?_⟩
  ·rw [h.mul]; exact Int.mul_nonneg a1 b1
  ·have e : x * v * (x * v) - y * u * (y * u) = nnE x y * (v * v) + y * y * -nnE u v := by unfold nnE; grind
   rw [e];refine h.add _ _ ?_ ?_
   ·rw [h.mul]; exact Int.mul_nonneg a2 (h.sq v)
   ·rw [h.mul,h.neg]; exact Int.mul_nonneg (h.sq y) b2
  ·rw [<- Int.mul_neg]; exact Int.mul_nonneg a2 b2
 ·refine .inr ⟨?_, ?_⟩
  ·rw [show x * v + y * u = y * u + x * v by grind];refine h.sqle ?_ ?_
   ·rw [h.mul]; exact Int.mul_nonneg a1 b1
   ·have e : y * u * (y * u) - x * v * (x * v) = nnE u v * (y * y) + v * v * -nnE x y := by unfold nnE; grind
    rw [e];refine h.add _ _ ?_ ?_
    ·rw [h.mul]; exact Int.mul_nonneg b2 (h.sq y)
    ·rw [h.mul,h.neg]; exact Int.mul_nonneg (h.sq v) a2
  ·rw [<- Int.neg_mul]; exact Int.mul_nonneg a2 b2
 ·refine .inl ⟨?_, ?_⟩
  ·rw [show x * u + y * v * rtE r n = y * v * rtE r n + x * u by grind];refine h.sqle ?_ ?_
   ·rw [h.mul,h.mul]; exact Int.mul_nonneg (Int.mul_nonneg a1 b1) d0
   ·have e : y * v * rtE r n * (y * v * rtE r n) - x * u * (x * u) = -nnE x y * (v * v * rtE r n) + x * x * -nnE u v := by unfold nnE; grind
    rw [e];refine h.add _ _ ?_ ?_
    ·rw [h.mul,h.neg,h.mul]; exact Int.mul_nonneg a2 (Int.mul_nonneg (h.sq v) d0)
    ·rw [h.mul,h.neg]; exact Int.mul_nonneg (h.sq x) b2
  ·rw [<- Int.neg_mul_neg]; exact Int.mul_nonneg a2 b2
theorem bfv (h:Sg (E r n) (sg r n)) (hd:sg r n (rtE r n) = 1) {x y u v:E r n} (a1:0 <= sg r n x) (a2:0 <= sg r n (nnE x y)) (b1:0 <= sg r n v) (b2:0 <= -sg r n (nnE u v)):PE (x + u) (y + v):=by
  have cX:=h.cs (x + u);have cY:=h.cs (y + v);have cN:=h.cs (nnE (x + u) (y + v));unfold PE
  by_cases hX:0 <= sg r n (x + u)
  · by_cases hN:0 <= sg r n (nnE (x + u) (y + v))
    · exact .inl ⟨hX,hN⟩
    · by_cases hY:0 <= sg r n (y + v)
      · exact .inr ⟨hY,by omega⟩
      · -- Y < 0: then N is at least 0
        exfalso;have hY':sg r n (-(y + v)) = 1:=by rw [h.neg]; omega
        have ny:sg r n (-y) = 1:=by
          have:=h.padd hY' b1
          rwa [show -(y + v) + v = -y by grind] at this
        have k1:0 <= sg r n (x * v + y * u):=by
          refine h.sqle (by rw [h.mul]; exact Int.mul_nonneg a1 b1) ?_;have e:x * v * (x * v) - y * u * (y * u) = nnE x y * (v * v) + y * y * -nnE u v:=by unfold nnE; grind
          rw [e];refine h.add _ _ ?_ ?_
          · rw [h.mul]; exact Int.mul_nonneg a2 (h.sq v)
          · rw [h.mul,h.neg]; exact Int.mul_nonneg (h.sq y) b2
        have k2:0 <= sg r n (x * v + -(y * u)):=by
          refine h.sqle (by rw [h.mul]; exact Int.mul_nonneg a1 b1) ?_;have e:x * v * (x * v) - -(y * u) * -(y * u) = nnE x y * (v * v) + y * y * -nnE u v:=by unfold nnE; grind
          rw [e];refine h.add _ _ ?_ ?_
          · rw [h.mul]; exact Int.mul_nonneg a2 (h.sq v)
          · rw [h.mul,h.neg]; exact Int.mul_nonneg (h.sq y) b2
        have k3:0 <= sg r n (-y * (x + u) - x * -(y + v)):=by
          rw [show -y * (x + u) - x * -(y + v) = x * v + -(y * u) by grind]; exact k2
        have k4:0 <= sg r n (-y * (x + u) + x * -(y + v)):=by
          rw [show -y * (x + u) + x * -(y + v) = (-y * (x + u) - x * -(y + v)) + (x * -(y + v) + x * -(y + v)) by grind];refine h.add _ _ k3 (h.add _ _ ?_ ?_) <;> (rw [h.mul,hY']; omega)
        have k5:0 <= sg r n ((y * y) * nnE (x + u) (y + v)):=by
          have e:(y * y) * nnE (x + u) (y + v) = (-y * (x + u) - x * -(y + v)) * (-y * (x + u) + x * -(y + v)) + nnE x y * (-(y + v) * -(y + v)):=by unfold nnE; grind
          rw [e];refine h.add _ _ (by rw [h.mul]; exact Int.mul_nonneg k3 k4) (by rw [h.mul]; exact Int.mul_nonneg a2 (h.sq _))
        have k6 := h.cancel (by rw [h.mul]; rw [h.neg] at ny; have : sg r n y = -1 := by omega
                                rw [this]; rfl) k5
        exact hN k6
  · have hX' : sg r n (-(x + u)) = 1 := by rw [h.neg]; omega
    have nu:sg r n (-u) = 1:=by
      have:=h.padd hX' a1
      rwa [show -(x + u) + x = -u by grind] at this
    have su:sg r n u = -1:=by rw [h.neg] at nu; omega
    have hv:sg r n v = 1:=by
      rcases h.cs v with e | e | e
      · omega
      · exfalso
        have h1:sg r n (-(v * v * rtE r n)) = 0:=by rw [h.neg,h.mul,h.mul,e]; simp
        have:=h.zadd (y:=u * u) h1;rw [show -(v * v * rtE r n) + u * u = nnE u v by unfold nnE; grind,h.mul,su] at this;omega
      · exact e
    have k1:0 <= sg r n (x * v + y * -u):=by
      refine h.sqle (by rw [h.mul]; exact Int.mul_nonneg a1 b1) ?_;have e:x * v * (x * v) - y * -u * (y * -u) = nnE x y * (v * v) + y * y * -nnE u v:=by unfold nnE; grind
      rw [e];refine h.add _ _ ?_ ?_
      · rw [h.mul]; exact Int.mul_nonneg a2 (h.sq v)
      · rw [h.mul,h.neg]; exact Int.mul_nonneg (h.sq y) b2
    have k3:0 <= sg r n (-u * (y + v) - v * -(x + u)):=by
      rw [show -u * (y + v) - v * -(x + u) = x * v + y * -u by grind]; exact k1
    have k4:0 <= sg r n (v * -(x + u)):=by rw [h.mul,hv,hX']; decide
    have kY:0 <= sg r n (y + v):=by
      refine h.cancel nu ?_;rw [show -u * (y + v) = (-u * (y + v) - v * -(x + u)) + v * -(x + u) by grind];exact h.add _ _ k3 k4
    refine .inr ⟨kY,?_⟩
    have k5:0 <= sg r n ((v * v) * -nnE (x + u) (y + v)):=by
      have e:(v * v) * -nnE (x + u) (y + v) = (-u * (y + v) - v * -(x + u)) * (-u * (y + v) + v * -(x + u)) + -nnE u v * ((y + v) * (y + v)):=by unfold nnE; grind
      rw [e];have k6:0 <= sg r n (-u * (y + v) + v * -(x + u)):=h.add _ _ (by rw [h.mul,nu]; omega) k4;refine h.add _ _ (by rw [h.mul]; exact Int.mul_nonneg k3 k6) (by rw [h.mul,h.neg]; exact Int.mul_nonneg b2 (h.sq _))
    have k7:=h.cancel (by rw [h.mul,hv]; rfl) k5
    rwa [h.neg] at k7
theorem bot (h:Sg (E r n) (sg r n)) (hd:sg r n (rtE r n) = 1) {x y u v:E r n} (h1:PE x y) (h2:PE u v):PE (x + u) (y + v):=by
 have d0:0 <= sg r n (rtE r n):=by omega
 rcases h1 with ⟨a1,a2⟩ | ⟨a1,a2⟩ <;> rcases h2 with ⟨b1,b2⟩ | ⟨b1,b2⟩
 ·refine .inl ⟨h.add _ _ a1 b1, ?_⟩
  have k:0 <= sg r n (x * u + -(y * v * rtE r n)):=by
   refine h.sqle (by rw [h.mul]; exact Int.mul_nonneg a1 b1) ?_;have e:x * u * (x * u) - -(y * v * rtE r n) * -(y * v * rtE r n) = nnE x y * (u * u) + y * y * rtE r n * nnE u v:=by unfold nnE; grind
   rw [e];refine h.add _ _ ?_ ?_
   ·rw [h.mul]; exact Int.mul_nonneg a2 (h.sq u)
   ·rw [h.mul,h.mul]; exact Int.mul_nonneg (Int.mul_nonneg (h.sq y) d0) b2
  rw [show nnE (x + u) (y + v) = (nnE x y + nnE u v) + ((x * u + -(y * v * rtE r n)) + (x * u + -(y * v * rtE r n))) by unfold nnE; grind];exact h.add _ _ (h.add _ _ a2 b2) (h.add _ _ k k)
 ·exact bfv h hd a1 a2 b1 b2
 ·rw [show x + u = u + x by grind, show y + v = v + y by grind];exact bfv h hd b1 b2 a1 a2
 ·refine .inr ⟨h.add _ _ a1 b1, ?_⟩
  have k:0 <= sg r n (y * v * rtE r n + -(x * u)):=by
   refine h.sqle (by rw [h.mul,h.mul]; exact Int.mul_nonneg (Int.mul_nonneg a1 b1) d0) ?_;have e:y * v * rtE r n * (y * v * rtE r n) - -(x * u) * -(x * u) = -nnE x y * (v * v * rtE r n) + x * x * -nnE u v:=by unfold nnE; grind
   rw [e];refine h.add _ _ ?_ ?_
   ·rw [h.mul,h.neg,h.mul]; exact Int.mul_nonneg a2 (Int.mul_nonneg (h.sq v) d0)
   ·rw [h.mul,h.neg]; exact Int.mul_nonneg (h.sq x) b2
  have k2:0 <= sg r n (-nnE (x + u) (y + v)):=by
   rw [show -nnE (x + u) (y + v) = (-nnE x y + -nnE u v) + ((y * v * rtE r n + -(x * u)) + (y * v * rtE r n + -(x * u))) by unfold nnE; grind];exact h.add _ _ (h.add _ _ (by rw [h.neg]; exact a2) (by rw [h.neg]; exact b2)) (h.add _ _ k k)
  rwa [h.neg] at k2
theorem bey (a b c d:Int):T.sgn3 (-a) (-b) c d = -T.sgn3 a b c d:=by
 unfold T.sgn3;have e:(-a = -b \/ -b = 0) ↔ (a = b \/ b = 0):=by omega
 simp only [e];split
 ·rfl
 ·split
  ·rfl
  ·by_cases h:a = 0
   ·rw [if_pos oz,if_pos h]
   ·rw [if_neg oz,if_neg h,Int.neg_mul]
theorem bh6 (h:Sg (E r n) (sg r n)) (hd:0 <= sg r n (rtE r n)):Sg (E r (n + 1)) (sg r (n + 1)):=by
 have hcs:∀ z:E r (n + 1),sg r (n + 1) z = -1 \/ sg r (n + 1) z = 0 \/ sg r (n + 1) z = 1:=fun z=>T.sgn_cases r (n + 1) z
 have hone:sg r (n + 1) 1 = 1:=by
  rw [bic,atd,h.one,h.zero];unfold T.sgn3;split
  ·rfl
  ·simp
 have hneg:∀ z:E r (n + 1), sg r (n + 1) (-z) = -sg r (n + 1) z:=by
  intro z;obtain ⟨x,y,rfl⟩:=ad6 z;rw [bh3,atd,atd,h.neg,h.neg,show nnE (-x) (-y) = nnE x y by unfold nnE; grind,bey]
 by_cases hd0:sg r n (rtE r n) = 0
 ·have e0:∀ x y:E r n, sg r (n + 1) (mkX x y) = sg r n x:=by
   intro x y; rw [atd,hd0]; unfold T.sgn3; rw [if_pos rfl]
  refine ⟨hcs,hone,hneg,?_,?_⟩
  ·intro z w;obtain ⟨x,y,rfl⟩:=ad6 z;obtain ⟨u,v,rfl⟩:=ad6 w;rw [aoa,e0,e0,e0];have h1:sg r n (y * v * rtE r n) = 0:=by rw [h.mul,hd0]; simp
   have:=h.zadd (y:=x * u) h1;rw [show x * u + y * v * rtE r n = y * v * rtE r n + x * u by grind,this,h.mul]
  ·intro z w;obtain ⟨x,y,rfl⟩:=ad6 z;obtain ⟨u,v,rfl⟩:=ad6 w;rw [a0l,e0,e0,e0];exact h.add x u
 ·have hd1 : sg r n (rtE r n) = 1 := by rcases h.cs (rtE r n) with e | e | e <;> omega
  have hadd:∀ z w:E r (n + 1), 0 <= sg r (n + 1) z -> 0 <= sg r (n + 1) w -> 0 <= sg r (n + 1) (z + w):=by
   intro z w;obtain ⟨x,y,rfl⟩:=ad6 z;obtain ⟨u,v,rfl⟩:=ad6 w;rw [a0l,a5u h hd1,a5u h hd1,a5u h hd1];exact bot h hd1
  have hpm:∀ z w:E r (n + 1), 0 <= sg r (n + 1) z -> 0 <= sg r (n + 1) w -> 0 <= sg r (n + 1) (z * w):=by
   intro z w;obtain ⟨x,y,rfl⟩:=ad6 z;obtain ⟨u,v,rfl⟩:=ad6 w;rw [aoa,a5u h hd1,a5u h hd1,a5u h hd1];exact blp h hd1
  have hzm:∀ z w:E r (n + 1), sg r (n + 1) z = 0 -> sg r (n + 1) (w * z) = 0:=by
   intro z w hz;have n1:=hneg z;have n2:=hneg w;have n3:=hneg (w * z);have m1:=hpm w z;have m2:=hpm w (-z);have m3:=hpm (-w) z;have m4:=hpm (-w) (-z);rw [show w * -z = -(w * z) by grind] at m2;rw [show -w * z = -(w * z) by grind] at m3;rw [show -w * -z = w * z by grind] at m4;rcases hcs w with e | e | e <;> omega
  have hsc:∀ (a u v:E r n), sg r (n + 1) (mkX (a * u) (a * v)) = sg r n a * sg r (n + 1) (mkX u v):=by
   intro a u v;rw [atd,atd,show nnE (a * u) (a * v) = a * a * nnE u v by unfold nnE; grind,h.mul,h.mul,h.mul,h.mul,hd1]
   have f1:sg r n v = 0 -> sg r n (nnE u v) = sg r n u * sg r n u:=by
    intro hy;have h1:sg r n (-(v * v * rtE r n)) = 0:=by rw [h.neg,h.mul,h.mul,hy]; simp
    have:=h.zadd (y:=u * u) h1;unfold nnE;rw [show u * u + -(v * v * rtE r n) = -(v * v * rtE r n) + u * u by grind,this,h.mul]
   have c1:=h.cs u;have c2:=h.cs v;have c3:=h.cs (nnE u v);have c4:=h.cs a
   revert c1 c2 c3 c4
   generalize sg r n u = a1;generalize sg r n v = b1;generalize sg r n (nnE u v) = c1;generalize sg r n a = e1;intro c1 c2 c3 c4;rcases c1 with rfl | rfl | rfl <;> rcases c2 with rfl | rfl | rfl <;> rcases c3 with rfl | rfl | rfl <;> rcases c4 with rfl | rfl | rfl <;> decide
  have hpadd:∀ z w:E r (n + 1), sg r (n + 1) z = 1 -> 0 <= sg r (n + 1) w -> sg r (n + 1) (z + w) = 1:=by
   intro z w hz hw;have a1:=hadd z w oz hw;rcases hcs (z + w) with e | e | e
   ·omega
   ·exfalso;have n1:=hneg z;have n2:=hneg (z + w);have a2:=hadd (-(z + w)) w oz hw;rw [show -(z + w) + w = -z by grind] at a2;omega
   ·exact e
  have hpp:∀ z w:E r (n + 1), sg r (n + 1) z = 1 -> sg r (n + 1) w = 1 -> sg r (n + 1) (z * w) = 1:=by
   intro z w hz hw;obtain ⟨x,y,rfl⟩:=ad6 z;obtain ⟨u,v,rfl⟩:=ad6 w;have p0:=hpm _ _ (by omega:0 <= sg r (n + 1) (mkX x y)) (by omega:0 <= sg r (n + 1) (mkX u v));rcases hcs (mkX x y * mkX u v) with e | e | e
   ·omega
   ·exfalso
    by_cases hN:sg r n (nnE x y) = 0
    ·have hxy:sg r n x = 1 /\ sg r n y = 1:=by
      rw [atd,hd1,hN] at hz
      have f1:sg r n y = 0 -> sg r n (nnE x y) = sg r n x * sg r n x:=by
       intro hy;have h1:sg r n (-(y * y * rtE r n)) = 0:=by rw [h.neg,h.mul,h.mul,hy]; simp
       have:=h.zadd (y:=x * x) h1;unfold nnE;rw [show x * x + -(y * y * rtE r n) = -(y * y * rtE r n) + x * x by grind,this,h.mul]
      have f2:sg r n x = 0 -> sg r n (nnE x y) = -(sg r n y * sg r n y):=by
       intro hx;have h1:sg r n (x * x) = 0:=by rw [h.mul,hx]; simp
       have:=h.zadd (y:=-(y * y * rtE r n)) h1;unfold nnE;rw [this,h.neg,h.mul,h.mul,hd1]; simp
      rw [hN] at f1 f2;have c1:=h.cs x;have c2:=h.cs y
      revert hz f1 f2 c1 c2
      generalize sg r n x = a;generalize sg r n y = b;intro hz f1 f2 c1 c2;rcases c1 with rfl | rfl | rfl <;> rcases c2 with rfl | rfl | rfl <;> revert hz f1 f2 <;> decide
     have k1:sg r (n + 1) (mkX (x * u) (x * v)) = 1:=by rw [hsc,hxy.1,hw]; rfl
     have k2:0 <= sg r (n + 1) (mkX 0 y):=by
      rw [atd,h.zero,hxy.2,hd1]; unfold T.sgn3; simp
     have k3:=hpm _ _ k2 (by omega:0 <= sg r (n + 1) (mkX u v));have k4:=hpadd _ _ k1 k3;rw [aoa,a0l] at k4;rw [aoa] at e;rw [show x * u + (0 * u + y * v * rtE r n) = x * u + y * v * rtE r n by grind,show x * v + (0 * v + y * u) = x * v + y * u by grind] at k4;omega
    ·have k1:=hzm _ (mkX x (-y)) e;rw [show mkX x (-y) * (mkX x y * mkX u v) = mkX (nnE x y * u) (nnE x y * v) by rw [aoa,aoa]; unfold nnE; congr 1 <;> grind,hsc,hw] at k1;omega
   ·exact e
  refine ⟨hcs,hone,hneg,?_,hadd⟩;intro z w;rcases hcs w with e | e | e
  ·rcases hcs z with e' | e' | e'
   ·have := hpp (-z) (-w) (by rw [hneg]; omega) (by rw [hneg]; omega);rw [show -z * -w = z * w by grind] at this;rw [this,e,e']; rfl
   ·have:=hzm z w e';rw [show w * z = z * w by grind] at this;rw [this,e']; simp
   ·have := hpp z (-w) e' (by rw [hneg]; omega);rw [show z * -w = -(z * w) by grind,hneg] at this;rw [e,e']; omega
  ·rw [hzm w z e,e]; simp
  ·rcases hcs z with e' | e' | e'
   ·have := hpp (-z) w (by rw [hneg]; omega) e;rw [show -z * w = -(z * w) by grind,hneg] at this;rw [e,e']; omega
   ·have:=hzm z w e';rw [show w * z = z * w by grind] at this;rw [this,e']; simp
   ·rw [hpp z w e' e,e,e']; rfl
theorem aph (q:Rat):ag3 q = -1 /\ q < 0 \/ ag3 q = 0 /\ q = 0 \/ ag3 q = 1 /\ 0 < q:=by
 unfold ag3;split
 ·exact .inl ⟨rfl,by assumption⟩
 ·split
  ·exact .inr (.inr ⟨rfl,by assumption⟩)
  ·exact .inr (.inl ⟨rfl,by grind⟩)
theorem a65 {q:Rat} (h:0 < q):ag3 q = 1:=by
 rcases aph q with ⟨_,h'⟩ | ⟨_,h'⟩ | ⟨e,_⟩
 ·grind
 ·grind
 ·exact e
theorem a8p {q:Rat} (h:q < 0):ag3 q = -1:=by
 rcases aph q with ⟨e,_⟩ | ⟨_,h'⟩ | ⟨_,h'⟩
 ·exact e
 ·grind
 ·grind
theorem bew (q:Rat):ag3 (-q) = -ag3 q:=by
 rcases aph q with ⟨e,h⟩ | ⟨e,h⟩ | ⟨e,h⟩
 ·rw [e,a65 (by grind)]; rfl
 ·rw [h]; rfl
 ·rw [e,a8p (by grind)]
theorem bc2 (p q:Rat):ag3 (p * q) = ag3 p * ag3 q:=by
 have h0:ag3 0 = 0:=rfl;rcases aph p with ⟨e,h⟩ | ⟨e,h⟩ | ⟨e,h⟩ <;> rcases aph q with ⟨e',h'⟩ | ⟨e',h'⟩ | ⟨e',h'⟩
 ·have := Rat.mul_pos (a := -p) (b := -q) (by grind) (by grind);rw [e,e',a65 (by grind)]; rfl
 ·rw [h',Rat.mul_zero,h0]; simp
 ·have := Rat.mul_pos (a := -p) (b := q) (by grind) h';rw [e,e',a8p (by grind)]; rfl
 ·rw [h,Rat.zero_mul,h0]; simp
 ·rw [h,Rat.zero_mul,h0]; simp
 ·rw [h,Rat.zero_mul,h0]; simp
 ·have := Rat.mul_pos (a := p) (b := -q) h (by grind);rw [e,e',a8p (by grind)]; rfl
 ·rw [h',Rat.mul_zero,h0]; simp
 ·rw [e,e',a65 (Rat.mul_pos h h')]; rfl
theorem bef (p q:Rat) (h1:0 <= ag3 p) (h2:0 <= ag3 q):0 <= ag3 (p + q):=by
 rcases aph (p + q) with ⟨e,h⟩ | ⟨e,h⟩ | ⟨e,h⟩
 ·exfalso;rcases aph p with ⟨e1,g1⟩ | ⟨e1,g1⟩ | ⟨e1,g1⟩ <;> rcases aph q with ⟨e2,g2⟩ | ⟨e2,g2⟩ | ⟨e2,g2⟩ <;> first | omega | grind
 ·omega
 ·omega
theorem boo (r:(k:Nat) -> T k):Sg (E r 0) (sg r 0) :=
 ⟨fun q=>T.sgnQ_cases q,rfl,fun q=>bew q,fun p q=>bc2 p q,fun p q=>bef p q⟩
def Pos (r:(k:Nat) -> T k) (n:Nat):Prop:=∀ j,j < n -> 0 <= T.sgn r j (r j)
theorem aps (r:(k:Nat) -> T k):∀ n, Pos r n -> Sg (E r n) (sg r n)
 | 0,_=>boo r
 | n + 1,h=>bh6 (aps r n (fun j hj=>h j oz)) (h n oz)
end Go.Lw
namespace Go.Lw
def xA {r:(k:Nat) -> T k} {n:Nat} (x:E r n):AV:=nA (sh n x)
abbrev Pn (r:(k:Nat) -> T k) (n:Nat):Type:=E r n × E r n
def tsX (r:(k:Nat) -> T k) (n:Nat):LL:=(List.range n).map fun k=>enc k (r k)
def qE {r:(k:Nat) -> T k} {n:Nat} (q:Rat):E r n:=T.ofQ n q
theorem a22:∀ (n:Nat) (q:Rat), sh n (T.ofQ n q) = sh 0 (q:Rat)
 | 0,q=>rfl
 | n + 1, q=>by
  show (if T.isZ n (T.zero n) = true then sh n (T.ofQ n q) else _) = _;rw [if_pos ((T.isZ_iff n _).2 rfl),a22 n q]
theorem a7b:∀ n:Nat, sh n (T.zero n) = []
 | 0=>rfl
 | n + 1=>by
  show (if T.isZ n (T.zero n) = true then sh n (T.zero n) else _) = _;rw [if_pos ((T.isZ_iff n _).2 rfl),a7b n]
theorem asb (r:(k:Nat) -> T k) (n:Nat):(tsX r n).length = n:=by simp [tsX]
theorem a8a {r:(k:Nat) -> T k} {n j:Nat} (h:j < n):(tsX r n).getD j [] = enc j (r j):=by
 unfold tsX;rw [getD_eq_getElem?_getD,getElem?_map,List.getElem?_range h]; rfl
theorem bkj {r:(k:Nat) -> T k} {n j:Nat} (h:j < n):aae (tsX r n) j = r j:=by
 unfold aae; rw [a8a h,av4]
theorem bgg {ts:LL} {R:Nat} (tw:Tw ts R):ts = tsX (aae ts) ts.length:=by
 apply List.ext_getElem?;intro j
 by_cases hj:j < ts.length
 ·have h1:=a8a (r:=aae ts) hj;have h2:=tw.len j hj;rw [getD_eq_getElem?_getD] at h1;rw [getElem?_eq_getElem (show j < (tsX (aae ts) ts.length).length by rw [asb]; exact hj)] at h1 ⊢;rw [Option.getD_some] at h1;rw [h1,getElem?_eq_getElem hj];unfold aae;rw [ao5 _ _ h2,getD_eq_getElem?_getD,getElem?_eq_getElem hj]; rfl
 ·rw [getElem?_eq_none oz,getElem?_eq_none (by rw [asb]; omega)]
class Cx (r:(k:Nat) -> T k) (n:Nat) (u k:outParam Nat):Prop where
  ex:∃ R,Tw (tsX r n) R /\ eB R n <= k
  k1:1 <= k
  u3:3 <= u
class Zu (u k:Nat) {r:(k:Nat) -> T k} {n:Nat} (x:E r n) (w v:outParam Nat):Prop where
  nm:Nm n (w * u + v * k) (sh n x)
class Zp (u k:Nat) {r:(k:Nat) -> T k} {n:Nat} (p:Pn r n) (w v:outParam Nat):Prop where
  x:Nm n (w * u + v * k) (sh n p.1)
  y:Nm n (w * u + v * k) (sh n p.2)
class Qz (u:Nat) (q:Rat) (w:outParam Nat):Prop where
  cb:Cb (w * u) [q]
section
variable {r:(k:Nat) -> T k} {n u k:Nat}
theorem Cx.five (c:Cx r n u k):n <= 5:=by obtain ⟨R,tw,_⟩:=c.ex; have:=tw.five; rwa [asb] at this
theorem Cx.three (c:Cx r n u k):n <= 3:=by obtain ⟨R,tw,_⟩:=c.ex; have:=tw.three; rwa [asb] at this
theorem a3h (w v w' v' u k:Nat):(w * u + v * k) + (w' * u + v' * k) = (w + w') * u + (v + v') * k:=by
 rw [Nat.add_mul,Nat.add_mul]; omega
theorem Nm.eq {n e f:Nat} {l:List Rat} (h:Nm n e l) (hf:e = f):Nm n f l:=hf ▸ h
theorem Nm.addT {e f:Nat} {x y:T n} (hx:Nm n e (sh n x)) (hy:Nm n f (sh n y)):Nm n (e + f + 1) (sh n (T.add n x y)):=by
 have h:=hx.add hy
 rwa [aa4,aa4] at h
theorem Nm.subT {e f:Nat} {x y:T n} (hx:Nm n e (sh n x)) (hy:Nm n f (sh n y)):Nm n (e + f + 1) (sh n (T.add n x (T.neg n y))):=by
 have h:=hx.sub hy
 rwa [aa4,aa4] at h
theorem Nm.negT {e:Nat} {x:T n} (hx:Nm n e (sh n x)):Nm n e (sh n (T.neg n x)):=by
 have h:=hx.neg
 rwa [aa4] at h
theorem Nm.mulT {R e f:Nat} (tw:Tw (tsX r n) R) {x y:T n} (hx:Nm n e (sh n x)) (hy:Nm n f (sh n y)):Nm n (e + f + eB R n) (sh n (T.mul r n x y)):=by
 have h:=Nm.mul tw (asb r n).symm hx hy
 rwa [aa4,aa4,T.mul_congr n (fun j hj=>bkj hj)] at h
instance Zu.add [c:Cx r n u k] {x y:E r n} {w v w' v':Nat} [hx:Zu u k x w v] [hy:Zu u k y w' v']:Zu u k (x + y) (w + w') (v + v' + 1) :=
  ⟨(Nm.addT hx.nm hy.nm).mono (by rw [a3h,Nat.add_mul _ 1]; have:=c.k1; omega)⟩
instance Zu.sub [c:Cx r n u k] {x y:E r n} {w v w' v':Nat} [hx:Zu u k x w v] [hy:Zu u k y w' v']:Zu u k (x - y) (w + w') (v + v' + 1) :=
  ⟨(Nm.subT hx.nm hy.nm).mono (by rw [a3h,Nat.add_mul _ 1]; have:=c.k1; omega)⟩
instance Zu.neg {x:E r n} {w v:Nat} [hx:Zu u k x w v]:Zu u k (-x) w v:=⟨Nm.negT hx.nm⟩
instance Zu.mul [c:Cx r n u k] {x y:E r n} {w v w' v':Nat} [hx:Zu u k x w v] [hy:Zu u k y w' v']:Zu u k (x * y) (w + w') (v + v' + 1):=by
  obtain ⟨R,tw,hk⟩:=c.ex;exact ⟨(Nm.mulT tw hx.nm hy.nm).mono (by rw [a3h,Nat.add_mul _ 1]; omega)⟩
instance Zu.qE [c:Cx r n u k] {q:Rat} {w:Nat} [h:Qz u q w]:Zu u k (qE q:E r n) w 0:=⟨by
  show Nm n _ (sh n (T.ofQ n q));rw [a22];exact (Nm.ofQ c.five h.cb).eq oz⟩
theorem Cb.int {e:Nat} {z:Int} (h:z.natAbs <= 2 ^ e):Cb e [(z:Rat)] :=
 ⟨1,z.natAbs,⟨by omega,fun q hq=>⟨z,by rw [List.mem_singleton.1 hq]; exact Rat.mul_one _,le_refl _⟩⟩,Nat.one_le_two_pow,h⟩
theorem Qz.int [c:Cx r n u k] {z:Int} (h:z.natAbs <= 8):Qz u (z:Rat) 1:=⟨Cb.int (le_trans h (show 2 ^ 3 <= _ from aax (by have:=c.u3; omega)))⟩
instance Zu.c0 [c:Cx r n u k]:Zu u k (0:E r n) 0 0:=⟨by
  show Nm n _ (sh n (T.ofQ n ((0:Nat):Rat)));rw [show (((0:Nat):Rat)) = 0 from rfl,T.ofQ_zero,a7b];exact ⟨c.five,.inl rfl,Cb.nil.mono (zero_le _)⟩⟩
instance Zu.c1 [c:Cx r n u k]:Zu u k (1:E r n) 1 0:=by
  haveI:Qz u ((1:Nat):Rat) 1:=Qz.int (c:=c) (z:=1) (by decide);exact (inferInstance:Zu u k (Go.Lw.qE ((1:Nat):Rat):E r n) 1 0)
instance Zu.c2 [c:Cx r n u k]:Zu u k (2:E r n) 1 0:=by
  haveI:Qz u ((2:Nat):Rat) 1:=Qz.int (c:=c) (z:=2) (by decide);exact (inferInstance:Zu u k (Go.Lw.qE ((2:Nat):Rat):E r n) 1 0)
instance Zu.c4 [c:Cx r n u k]:Zu u k (4:E r n) 1 0:=by
  haveI:Qz u ((4:Nat):Rat) 1:=Qz.int (c:=c) (z:=4) (by decide);exact (inferInstance:Zu u k (Go.Lw.qE ((4:Nat):Rat):E r n) 1 0)
instance Zu.px {p:Pn r n} {w v:Nat} [h:Zp u k p w v]:Zu u k p.1 w v:=⟨h.x⟩
instance Zu.py {p:Pn r n} {w v:Nat} [h:Zp u k p w v]:Zu u k p.2 w v:=⟨h.y⟩
theorem a8s {w v w' v' u k:Nat} (h:w <= w') (h':v <= v'):w * u + v * k <= w' * u + v' * k:=Nat.add_le_add (mul_le_mul_right _ h) (mul_le_mul_right _ h')
instance Zp.mk' {x y:E r n} {w v w' v':Nat} [hx:Zu u k x w v] [hy:Zu u k y w' v']:Zp u k ((x, y):Pn r n) (max w w') (max v v') :=
  ⟨hx.nm.mono (a8s (Nat.le_max_left ..) (Nat.le_max_left ..)),hy.nm.mono (a8s (Nat.le_max_right ..) (Nat.le_max_right ..))⟩
def brm (p q:Pn r n):Pn r n:=(p.1 + q.1,p.2 + q.2)
def brw (p q:Pn r n):Pn r n:=(p.1 - q.1,p.2 - q.2)
def bmv (c:E r n) (p:Pn r n):Pn r n:=(c * p.1,c * p.2)
def bru (p q:Pn r n):E r n:=p.1 * q.1 + p.2 * q.2
def bnp (p q:Pn r n):E r n:=p.1 * q.2 - p.2 * q.1
def bqi (c s:E r n) (p:Pn r n):Pn r n:=(c * p.1 - s * p.2,s * p.1 + c * p.2)
def pQ (x y:Rat):Pn r n:=(qE x,qE y)
def bnm (p:Pn r n):Pn r n:=(-p.2,p.1)
instance Zp.add [c:Cx r n u k] {p q:Pn r n} {w v w' v':Nat} [hp:Zp u k p w v] [hq:Zp u k q w' v']:Zp u k (brm p q) (w + w') (v + v' + 1) :=
  ⟨(inferInstance:Zu u k (p.1 + q.1) (w + w') (v + v' + 1)).nm,(inferInstance:Zu u k (p.2 + q.2) (w + w') (v + v' + 1)).nm⟩
instance Zp.sub [c:Cx r n u k] {p q:Pn r n} {w v w' v':Nat} [hp:Zp u k p w v] [hq:Zp u k q w' v']:Zp u k (brw p q) (w + w') (v + v' + 1) :=
  ⟨(inferInstance:Zu u k (p.1 - q.1) (w + w') (v + v' + 1)).nm,(inferInstance:Zu u k (p.2 - q.2) (w + w') (v + v' + 1)).nm⟩
instance Zp.scale [c:Cx r n u k] {a:E r n} {q:Pn r n} {w v w' v':Nat} [hp:Zu u k a w v] [hq:Zp u k q w' v']:Zp u k (bmv a q) (w + w') (v + v' + 1) :=
  ⟨(inferInstance:Zu u k (a * q.1) (w + w') (v + v' + 1)).nm,(inferInstance:Zu u k (a * q.2) (w + w') (v + v' + 1)).nm⟩
instance Zu.dot [c:Cx r n u k] {p q:Pn r n} {w v w' v':Nat} [hp:Zp u k p w v] [hq:Zp u k q w' v']:Zu u k (bru p q) (w + w' + (w + w')) (v + v' + 1 + (v + v' + 1) + 1) :=
  (inferInstance:Zu u k (p.1 * q.1 + p.2 * q.2) _ _)
instance Zu.cross [c:Cx r n u k] {p q:Pn r n} {w v w' v':Nat} [hp:Zp u k p w v] [hq:Zp u k q w' v']:Zu u k (bnp p q) (w + w' + (w + w')) (v + v' + 1 + (v + v' + 1) + 1) :=
  (inferInstance:Zu u k (p.1 * q.2 - p.2 * q.1) _ _)
instance Zp.turn [c:Cx r n u k] {a b:E r n} {p:Pn r n} {w v w' v' w2 v2:Nat} [ha:Zu u k a w v] [hb:Zu u k b w' v'] [hp:Zp u k p w2 v2] :
    Zp u k (bqi a b p) (w + w2 + (w' + w2)) (v + v2 + 1 + (v' + v2 + 1) + 1) :=
  ⟨(inferInstance:Zu u k (a * p.1 - b * p.2) _ _).nm, by
    have h:=(inferInstance:Zu u k (b * p.1 + a * p.2) _ _).nm;exact h.eq (by rw [Nat.add_comm (w' + w2),Nat.add_comm (v' + v2 + 1)])⟩
instance Zp.ofQ [c:Cx r n u k] {x y:Rat} {w w':Nat} [hx:Qz u x w] [hy:Qz u y w']:Zp u k (pQ x y:Pn r n) (max w w') (max 0 0) :=
  (inferInstance:Zp u k ((qE x,qE y):Pn r n) _ _)
instance Zp.quart {p:Pn r n} {w v:Nat} [hp:Zp u k p w v]:Zp u k (bnm p) w v:=⟨(inferInstance:Zu u k (-p.2) w v).nm,hp.x⟩
end
end Go.Lw
namespace Go.Lw
theorem a1r (rs:List (List Rt)):(llq rs).length = rs.length:=by simp [llq]
abbrev Et (ts:LL):Type:=E (aae ts) ts.length
def dE (ts:LL) (a:List Rat):Et ts:=dec ts.length a
def sX {ts:LL} (x:Et ts):List Rat:=sh ts.length x
def sgE {ts:LL} (x:Et ts):Int:=T.sgn (aae ts) ts.length x
def eqE {ts:LL} (x y:Et ts):Bool:=decide (sgE (x - y) = 0)
class Ct (ts:LL) (u k:outParam Nat):Prop where
  ex:∃ R,Tw ts R /\ eB R ts.length <= k
  k1:1 <= k
  u3:3 <= u
  ub:u <= 1000000
  kb:k <= 1000000
instance Ct.cx {ts:LL} {u k:Nat} [c:Ct ts u k]:Cx (aae ts) ts.length u k:=by
  obtain ⟨R,tw,h⟩:=c.ex;exact ⟨⟨R,bgg tw ▸ tw,h⟩,c.k1,c.u3⟩
class Zl (ts:LL) (u k:Nat) (a:List Rat) (x:outParam (Et ts)) (w v:outParam Nat):Prop where
  eq:dec ts.length a = x
  nm:Nm ts.length (w * u + v * k) a
section
variable {ts:LL} {u k:Nat}
instance Zl.sX {x:Et ts} {w v:Nat} [h:Zu u k x w v]:Zl ts u k (sX x) x w v:=⟨aa4 _ _,h.nm⟩
instance Zl.q [c:Ct ts u k] {q:Rat} {w:Nat} [h:Qz u q w]:Zl ts u k (sh 0 (q:Rat)) (qE q:Et ts) w 0:=⟨ai6 _ q, by
  obtain ⟨R,tw,_⟩:=c.ex;exact (Nm.ofQ tw.five h.cb).eq oz⟩
instance Zl.nil [c : Ct ts u k] : Zl ts u k [] (0 : Et ts) 0 0 := ⟨by rw [ae7]; exact E.zero_def.symm, by
  obtain ⟨R,tw,_⟩:=c.ex;exact ⟨tw.five,.inl rfl,Cb.nil.mono (zero_le _)⟩⟩
theorem Zl.zu {a:List Rat} {x:Et ts} {w v:Nat} (h:Zl ts u k a x w v):Zu u k x w v:=⟨by
 have h1:=h.nm;have h2:=Cb.sh h1.cb h1.nl;rw [h.eq] at h2;exact ⟨h1.five,ahs _ _,h2⟩⟩
theorem Zl.at {a:List Rat} {e:Nat} (h:Nm ts.length e a) (he:e <= u):Zl ts u k a (dE ts a) 1 0:=⟨rfl,h.mono oz⟩
theorem bhh (c:Ct ts u k) {w v m:Nat} (h:w + v <= m):w * u + v * k <= m * 1000000:=by
 have h1:w * u <= w * 1000000:=mul_le_mul_left _ c.ub;have h2:v * k <= v * 1000000:=mul_le_mul_left _ c.kb;omega
theorem bq5 (c:Ct ts u k) {w v:Nat} (h:w + v <= 10000):w * u + v * k <= lm ts.length:=by
 have h1:=bhh c h;have h2:=apw ts.length;omega
theorem Zl.up (c:Ct ts u k) {a:List Rat} {x:Et ts} {w v m:Nat} (h:Zl ts u k a x w v) (hm:w + v <= m):Nm ts.length (m * 1000000) a:=h.nm.mono (bhh c hm)
theorem Ct.kk (c:Ct ts u k) {R:Nat} (h:eB R ts.length <= k):kB R ts.length <= 1000000:=le_trans h c.kb
def dotE (x y z t:Et ts):Et ts:=x * z + y * t
def crsE (x y z t:Et ts):Et ts:=x * t - y * z
instance Zu.dotE [c:Ct ts u k] {x y z t:Et ts} {w1 v1 w2 v2 w3 v3 w4 v4:Nat} [Zu u k x w1 v1] [Zu u k y w2 v2] [Zu u k z w3 v3] [Zu u k t w4 v4]:Zu u k (dotE x y z t) (w1 + w3 + (w2 + w4)) (v1 + v3 + 1 + (v2 + v4 + 1) + 1) :=
  (inferInstance:Zu u k (x * z + y * t) _ _)
instance Zu.crsE [c:Ct ts u k] {x y z t:Et ts} {w1 v1 w2 v2 w3 v3 w4 v4:Nat} [Zu u k x w1 v1] [Zu u k y w2 v2] [Zu u k z w3 v3] [Zu u k t w4 v4]:Zu u k (crsE x y z t) (w1 + w4 + (w2 + w3)) (v1 + v4 + 1 + (v2 + v3 + 1) + 1) :=
  (inferInstance:Zu u k (x * t - y * z) _ _)
end
end Go.Lw
namespace Go.Lw
def apr (xs:List Int):List Int:=xs.mergeSort (fun a b=>decide (a <= b))
theorem aul (xs:List Int):(apr xs).Perm xs:=List.mergeSort_perm _ _
theorem att (xs:List Int):(apr xs).Pairwise (· <= ·):=by
 have h:=List.pairwise_mergeSort (le:=fun a b:Int=>decide (a <= b)) (fun a b c h1 h2=>by simp only [decide_eq_true_eq] at *; omega) (fun a b=>by simp only [or_eq_true,decide_eq_true_eq]; omega) xs;exact h.imp (fun h=>of_decide_eq_true h)
theorem bc7 {xs ys:List Int} (hp:ys.Perm xs) (hs:ys.Pairwise (· <= ·)):ys = apr xs :=
 List.Perm.eq_of_pairwise (le:=fun a b:Int=>a <= b) (fun a b _ _ h1 h2=>by omega) hs (att xs) (hp.trans (aul xs).symm)
theorem a9t (xs:List Int):(apr xs).length = xs.length:=(aul xs).length_eq
theorem aol {xs:List Int} {b:Int}:b ∈ apr xs ↔ b ∈ xs:=(aul xs).mem_iff
theorem amd (e:Nat) (l:List Nat):adi (e :: l) = if e ≠ 0 then e else adi l:=rfl
theorem an5 {α:Type} {R:α -> α -> Prop} {f:α -> Nat} {b:α} (hf:f b ≠ 0):∀ {L:List α}, L.Pairwise R -> b ∈ L -> (∀ x ∈ L, R x b -> x ≠ b -> f x = 0) -> adi (L.map f) = f b
 | [],_,hm,_=>by cases hm
 | x :: L, hp, hm, h=>by
  rw [map_cons,amd];rw [List.pairwise_cons] at hp
  by_cases hx:f x ≠ 0
  ·rw [if_pos hx];rcases List.mem_cons.1 hm with rfl | hm
   ·rfl
   ·by_cases e:x = b
    ·rw [e]
    ·exact absurd (h x (mem_cons_self ..) (hp.1 b hm) e) hx
  ·rw [if_neg hx]
   have hb:b ∈ L:=by
    rcases List.mem_cons.1 hm with e | hm
    ·rw [<- e] at hx; exact absurd hf hx
    ·exact hm
   exact an5 hf hp.2 hb (fun y hy=>h y (List.mem_cons_of_mem _ hy))
theorem af7 {α:Type} {f:α -> Nat} {L:List α} (h:∀ x ∈ L, f x = 0):adi (L.map f) = 0:=by
 induction L with
 | nil=>rfl
 | cons x L ih =>
  rw [map_cons,amd,if_neg (by rw [h x (mem_cons_self ..)]; simp)];exact ih (fun y hy=>h y (List.mem_cons_of_mem _ hy))
theorem ay8 {n:Nat} {xs:List Int} (hx:∀ b ∈ xs, b < n) {f:Int -> Nat} (hf:∀ b, b < 0 -> f b = 0) :
  adi ((apr xs).map f) = adi ((List.range n).map (fun i:Nat=>if (i:Int) ∈ xs then f i else 0)):=by
 cases hq:act n (fun i=>!(decide ((i:Int) ∈ xs) && decide (f i ≠ 0))) with
 | none =>
  have h1:=aqj hq
  have h2:∀ i, i < n -> (i:Int) ∈ xs -> f i = 0:=by
   intro i hi hm;have:=h1 i hi;simp only [Bool.not_eq_true',Bool.and_eq_false_iff,decide_eq_false_iff_not,Decidable.not_not] at this;rcases this with h | h
   ·exact absurd hm h
   ·exact h
  rw [af7,af7]
  ·intro i hi;have hi:=List.mem_range.1 hi;show (if (i:Int) ∈ xs then f i else 0) = 0;split
   ·rename_i hm; exact h2 i hi hm
   ·rfl
  ·intro b hb;have hb:=aol.1 hb
   by_cases h0:b < 0
   ·exact hf b h0
   ·have e : b = ((b.toNat : Nat) : Int) := by omega
    rw [e];exact h2 b.toNat (by have:=hx b hb; omega) (by rw [<- e]; exact hb)
 | some i =>
  unfold act at hq;rw [List.find?_range_eq_some] at hq;obtain ⟨h1,h2,h3⟩:=hq;simp only [Bool.not_not,and_eq_true,decide_eq_true_eq] at h1
  have hmin:∀ j, j < i -> (j:Int) ∈ xs -> f j = 0:=by
   intro j hj hm;have:=h3 j hj;simp only [Bool.not_not,Bool.not_eq_true',Bool.and_eq_false_iff,decide_eq_false_iff_not,Decidable.not_not] at this;rcases this with h | h
   ·exact absurd hm h
   ·exact h
  have hin:=List.mem_range.1 h2;rw [an5 (R:=(· <= ·)) (f:=f) (b:=(i:Int)) h1.2 (att xs) (aol.2 h1.1)]
  ·rw [an5 (R := (· <= ·)) (f := fun i : Nat => if (i : Int) ∈ xs then f i else 0) (b := i) (by show (if (i : Int) ∈ xs then f i else 0) ≠ 0; rw [if_pos h1.1]; exact h1.2) (List.pairwise_le_range) h2]
   ·show _ = (if (i:Int) ∈ xs then f i else 0);rw [if_pos h1.1]
   ·intro j hj hle hne;show (if (j:Int) ∈ xs then f j else 0) = 0;split
    ·rename_i hm; exact hmin j oz hm
    ·rfl
  ·intro b hb hle hne;have hb:=aol.1 hb
   by_cases h0:b < 0
   ·exact hf b h0
   ·have e : b = ((b.toNat : Nat) : Int) := by omega
    rw [e];exact hmin b.toNat oz (by rw [<- e]; exact hb)
def anc (g:Gr) (j:Jt):Int:=if g.bodies.contains j.a = true then (if g.bodies.contains j.b = true then -1 else j.b) else j.a
def ajx (l:Li) (g:Gr):List Int:=g.joints.map (fun j=>anc g (l.joints.getD j.toNat default))
theorem ah8 (l:Li) (g:Gr):(ajx l g).length = g.joints.length:=by unfold ajx; rw [length_map]
theorem bba {l:Li} (hl:liE l = 0) {g:Gr} (hg:GrOk l g):∀ b ∈ ajx l g, b < l.bodies.length:=by
 intro b hb;unfold ajx at hb;obtain ⟨z,hz,rfl⟩:=List.mem_map.1 hb;obtain ⟨z0,z1⟩:=hg.j z hz;obtain ⟨j,hj⟩:=ab5 (l:=l.joints) (i:=z.toNat) oz;rw [aah hj];obtain ⟨i1,i2,_⟩:=afv hl hj;have i1:=aiz i1;have i2:=aiz i2;unfold anc;split
 ·split
  ·omega
  ·omega
 ·omega
def ndL (l:Li) (g:Gr) (own:Bool):List Int:=ajx l g ++ (if own = true then g.bodies else [])
theorem a8o {l:Li} (hl:liE l = 0) {g:Gr} (hg:GrOk l g) {own:Bool}:∀ b ∈ ndL l g own, b < l.bodies.length:=by
 intro b hb;rcases List.mem_append.1 hb with hb | hb
 ·exact bba hl hg b hb
 ·split at hb
  ·exact (hg.b b hb).2
  ·cases hb
theorem bo8 {l:Li} {g:Gr} (hg:GrOk l g) {own:Bool}:(ndL l g own).length <= 5:=by
 unfold ndL;have h1:=hg.lb;have h2:=hg.lj;rw [length_append,ah8];split
 ·omega
 ·simp only [length_nil]; omega
def ndE (a:As) (b:Int):Nat:=if b < 0 then 0 else abh a.rs (a.bs.getD b.toNat default).l
def gAt (l:Li) (k:Int):Gr:=(ack l).getD k.toNat default
def ay2 (l:Li) (k:Int) (a:As) (own:Bool):Nat :=
  if ado l ≠ 0 then ado l else if k < 0 \/ ((ack l).length:Int) <= k then 9 else if a.bs.length ≠ l.bodies.length then 10 else if aer a.rs ≠ 0 then aer a.rs
  else adi ((apr (ndL l (gAt l k) own)).map (ndE a))
def dyE (l:Li) (k:Int) (a:As) (own:Bool):Nat:=if liE l ≠ 0 then liE l else ay2 l k a own
section
variable {l:Li} {k:Int} {a:As} {own:Bool}
theorem bk3 (h:liE l = 0):dyE l k a own = ay2 l k a own:=by unfold dyE; rw [if_neg oz]
theorem brn {e:Nat} (he:(if liE l = 0 then ado l else liE l) = e) (h:e ≠ 0):dyE l k a own = e:=by
 by_cases h1:liE l = 0
 ·rw [if_pos h1] at he;rw [bk3 h1]; unfold ay2; rw [if_pos oz]; exact he
 ·rw [if_neg h1] at he;unfold dyE; rw [if_pos h1]; exact he
theorem bpu (h:(if liE l = 0 then ado l else liE l) = 0):liE l = 0 /\ ado l = 0:=by
 by_cases h1:liE l = 0
 ·rw [if_pos h1] at h; exact ⟨h1,h⟩
 ·rw [if_neg h1] at h; exact absurd h h1
theorem brk (hs:ado l ≠ 0):ay2 l k a own = ado l:=by unfold ay2; rw [if_pos hs]
theorem brf (hs:ado l = 0) (hk:k < 0 \/ ((ack l).length:Int) <= k):ay2 l k a own = 9:=by unfold ay2; rw [if_neg oz,if_pos hk]
theorem brd (hs:ado l = 0) (hk:¬ (k < 0 \/ ((ack l).length:Int) <= k)) (hb:a.bs.length ≠ l.bodies.length):ay2 l k a own = 10:=by
 unfold ay2; rw [if_neg oz,if_neg hk,if_pos hb]
theorem bre (hs:ado l = 0) (hk:¬ (k < 0 \/ ((ack l).length:Int) <= k)) (hb:a.bs.length = l.bodies.length) (hc:aer a.rs ≠ 0):ay2 l k a own = aer a.rs:=by
 unfold ay2; rw [if_neg oz,if_neg hk,if_neg oz,if_pos hc]
theorem bra (hs:ado l = 0) (hk:¬ (k < 0 \/ ((ack l).length:Int) <= k)) (hb:a.bs.length = l.bodies.length) (hc:aer a.rs = 0):ay2 l k a own = adi ((apr (ndL l (gAt l k) own)).map (ndE a)):=by
 unfold ay2; rw [if_neg oz,if_neg hk,if_neg oz,if_neg oz]
end
structure DyOk (l:Li) (k:Int) (a:As) (own:Bool) (i:Nat) (g:Gr):Prop where
  li:liE l = 0
  sp:ado l = 0
  hk:k = (i:Int)
  hg:(ack l)[i]? = some g
  ok:GrOk l g
  dy:DyK l g
  ln:a.bs.length = l.bodies.length
  chk:aer a.rs = 0
  nd:∀ b ∈ ndL l g own,ndE a b = 0
theorem beb {l:Li} {k:Int} {a:As} {own:Bool} (h:dyE l k a own = 0):∃ i g, DyOk l k a own i g:=by
 unfold dyE at h;split at h
 ·rename_i h1; exact absurd h h1
 ·rename_i h1;have h1:=Decidable.not_not.1 h1;unfold ay2 at h;split at h
  ·rename_i h2; exact absurd h h2
  ·rename_i h2;split at h
   ·cases h
   ·rename_i h3;split at h
    ·cases h
    ·rename_i h4;split at h
     ·rename_i h5; exact absurd h h5
     ·rename_i h5;obtain ⟨g,hg⟩:=ab5 (l:=ack l) (i:=k.toNat) oz;have e:gAt l k = g:=aah hg;rw [e] at h;obtain ⟨d1,d2⟩:=aso h1 (mem_of_getElem? hg);refine ⟨k.toNat,g,h1,by omega,by omega,hg,d2,d1,by omega,by omega,fun b hb=>?_⟩;exact af6 h _ (List.mem_map.2 ⟨b,aol.2 hb,rfl⟩)
theorem DyOk.body {l:Li} {k:Int} {a:As} {own:Bool} {i:Nat} {g:Gr} (h:DyOk l k a own i g) {b:Int} (hb:b ∈ ndL l g own) (h0:0 <= b):∃ p, a.bs[b.toNat]? = some p /\ abh a.rs p.l = 0:=by
 have h1:=a8o h.li h.ok b hb;obtain ⟨p,hp⟩:=ab5 (l:=a.bs) (i:=b.toNat) (by have:=h.ln; omega);have h2:=h.nd b hb;unfold ndE at h2;rw [if_neg oz,aah hp] at h2;exact ⟨p,hp,h2⟩
theorem bly (n:Nat):4000 <= lm n:=by have:=apw n; omega
theorem bl5 {k:Int} {n:Nat} (h:cond (aaa .lss k 0) true (aaa .geq k (n:Int)) = true):k < 0 \/ (n:Int) <= k:=by
 by_cases h1:k < 0
 ·exact .inl h1
 ·refine .inr ?_;have h2:aaa .lss k 0 = false:=decide_eq_false h1;rw [h2] at h;exact of_decide_eq_true (p:=k >= n) h
theorem bov {k:Int} {n:Nat} (h:cond (aaa .lss k 0) true (aaa .geq k (n:Int)) = false):¬ (k < 0 \/ (n:Int) <= k):=by
 intro h1
 by_cases h2:k < 0
 ·rw [show aaa .lss k 0 = true from decide_eq_true h2] at h; cases h
 ·rw [show aaa .lss k 0 = false from decide_eq_false h2] at h;have h3:¬ (k >= n):=of_decide_eq_false h;omega
theorem bgv {k:Int} {n:Nat} (h:¬ (k < 0 \/ (n:Int) <= k)):∃ i:Nat,k = i /\ i < n:=⟨k.toNat,by omega,by omega⟩
theorem bgh {a b:Nat} (h:aaa .neq (a:Int) (b:Int) = true):a ≠ b:=by
 have h1:((a:Int) != (b:Int)) = true:=h;have h2:=bne_iff_ne.1 h1;omega
theorem bgi {a b:Nat} (h:aaa .neq (a:Int) (b:Int) = false):a = b:=by
 have h1:((a:Int) != (b:Int)) = false:=h;have h2:(a:Int) = b:=by simpa only [bne_eq_false_iff_eq] using h1
 omega
end Go.Lw
namespace Go.Lw
theorem a9o {r:(k:Nat) -> T k} {n:Nat} (p q:Rat):(qE (p + q):E r n) = qE p + qE q:=T.ofQ_add n p q
theorem bl9 {r:(k:Nat) -> T k} {n:Nat} (p:Rat):(qE (-p):E r n) = -qE p:=T.ofQ_neg n p
theorem a13 {r:(k:Nat) -> T k} {n:Nat} (p q:Rat):(qE (p - q):E r n) = qE p - qE q:=by
 rw [Rat.sub_eq_add_neg,a9o,bl9]; grind
theorem atv {r:(k:Nat) -> T k} {n:Nat} (p q:Rat):(qE (p * q):E r n) = qE p * qE q:=(T.mul_ofQ r n p q).symm
def mkQ (l:Li) (body pt:Int):Rat × Rat:=(((aen l body).getD pt.toNat default).x.q,((aen l body).getD pt.toNat default).y.q)
abbrev qC (p:Rat × Rat):List AV:=[bl (rt p.1).neg,ws (rt p.1).num,ws (rt p.1).den,bl (rt p.2).neg,ws (rt p.2).num,ws (rt p.2).den]
abbrev qP (p:Rat × Rat):AV:=.agg (qC p)
structure Sm (e:Nat) (p:Rat × Rat):Prop where
  x:Qb e p.1
  y:Qb e p.2
structure MkP (l:Li) (body pt:Int) (n k:Nat) (bd:Bd) (m:Mk):Prop where
  hn:body = n
  hk:pt = k
  gbd:l.bodies[n]? = some bd
  gm:bd.pts[k]? = some m
  ex:m.x = rt (mkQ l body pt).1
  ey:m.y = rt (mkQ l body pt).2
  sm:Sm 1000 (mkQ l body pt)
theorem bd3 {l:Li} (hl:l.ok) (hli:liE l = 0) {body pt:Int} (h1:inB body l.bodies.length = true) (h2:inB pt (aen l body).length = true):∃ n k bd m, MkP l body pt n k bd m:=by
 obtain ⟨bd,g1,g2,g3,g4⟩:=atr h1;rw [g2] at h2;obtain ⟨m,g5,g6,g7,g8⟩:=aww h2;have hv:=bb9 hli g1 g5;have ho:=(hl.bodies bd g3).pts m g7;have e:mkQ l body pt = (m.x.q,m.y.q):=by unfold mkQ; rw [g2,g6]
 exact ⟨body.toNat,pt.toNat,bd,m,by omega,by omega,g1,g5,by rw [e]; exact Rt.eq_rt ho.x hv.1,by rw [e]; exact Rt.eq_rt ho.y hv.2,by rw [e]; exact ⟨ho.qx.mono oz,ho.qy.mono oz⟩⟩
theorem ajg {l:Li} (hl:l.ok) (hli:liE l = 0) {body pt:Int} (h1:inB body l.bodies.length = true) (h2:inB pt (aen l body).length = true):Sm 1000 (mkQ l body pt):=by
 obtain ⟨n,k,bd,m,h⟩:=bd3 hl hli h1 h2;exact h.sm
def plE (l:Li) (a:As) (body pt:Int):Et (llq a.rs) × Et (llq a.rs):=bjq l a body pt
structure PlP (l:Li) (a:As) (body pt:Int) (n k:Nat) (bd:Bd) (m:Mk) (b:Pl):Prop where
  mp:MkP l body pt n k bd m
  gb:a.bs[n]? = some b
  eq:bjq l a body pt = atP (llq a.rs) b m
  av:b.av = Pq.av ⟨lq b.c,lq b.s,lq b.x,lq b.y⟩
  ok:Pq.ok (llq a.rs).length 4000 ⟨lq b.c,lq b.s,lq b.x,lq b.y⟩
def Pd (a:As) (body:Int):Prop:=∃ p,a.bs[body.toNat]? = some p /\ abh a.rs p.l = 0
theorem bhg {l:Li} (hl:l.ok) (hli:liE l = 0) {a:As} (al:AL a) (hc:aer a.rs = 0) {body pt:Int} (h1:inB body l.bodies.length = true) (h2:inB pt (aen l body).length = true) (hb:Pd a body):∃ n k bd m b, PlP l a body pt n k bd m b:=by
 obtain ⟨n,k,bd,m,h⟩:=bd3 hl hli h1 h2;obtain ⟨b,gb,hb⟩:=hb;obtain ⟨tw,_⟩:=abr al.tr hc;have h5:a.rs.length <= 5:=by have:=tw.five; rwa [a1r] at this
 have h9:=bcn hb (al.nr b (mem_of_getElem? gb)) h5;have e:body.toNat = n:=by have:=h.hn; omega
 have e2:pt.toNat = k:=by have:=h.hk; omega
 rw [e] at gb;obtain ⟨bd',g1,g2,_,_⟩:=atr h1;rw [e] at g1;have:bd' = bd:=Option.some.inj (g1.symm.trans h.gbd);subst this;refine ⟨n,k,bd',m,b,h,gb,?_,h9.1,by rw [a1r]; exact h9.2⟩;unfold bjq;rw [e,e2,aah gb,g2,aah h.gm]
theorem agu {l:Li} (hl:l.ok) (hli:liE l = 0) {a:As} (al:AL a) (hc:aer a.rs = 0) {body pt:Int} (h1:inB body l.bodies.length = true) (h2:inB pt (aen l body).length = true) (hb:Pd a body) :
  Zu 4000 300000 (plE l a body pt).1 40 40 /\ Zu 4000 300000 (plE l a body pt).2 40 40:=by
 obtain ⟨n,k,bd,m,b,hp⟩:=bhg hl hli al hc h1 h2 hb;obtain ⟨tw,_⟩:=abr al.tr hc;have kb:=kb4 tw.three;have qx:Qb 4000 m.x.q:=by rw [hp.mp.ex,agm]; exact hp.mp.sm.x.mono oz
 have qy:Qb 4000 m.y.q:=by rw [hp.mp.ey,agm]; exact hp.mp.sm.y.mono oz
 have h:=bqs tw hp.ok qx qy;unfold plE;rw [hp.eq];exact ⟨⟨h.1.mono oz⟩,⟨h.2.mono oz⟩⟩
theorem ar4 {rs:List (List Rt)} {r:Nat} (h:TR rs r) (hc:aer rs = 0):aa5 (llq rs) = .agg [.lst 1 (rs.map nR)]:=(abr h hc).2.symm
theorem bm6 {x y:Option Blk} {k:Nat} {z:Blk} (h:lk [(1000, x), (1001, y)] k = some z):1000 <= k:=by
 rw [aad] at h;split at h
 ·omega
 ·rw [aad] at h;split at h
  ·omega
  ·cases h
theorem bqc {s:AS} {k k':Nat} {x y:Blk} (h:lk s.hp k = some x) (h':lk s.hp k' = some y):∀ q z, lk [(k, some x), (k', some y)] q = some z -> lk s.hp q = some z:=by
 intro q z hz;rw [aad] at hz;split at hz
 ·rename_i e; cases hz; rw [e]; exact h
 ·rw [aad] at hz;split at hz
  ·rename_i e; cases hz; rw [e]; exact h'
  ·cases hz
def afp (p q:Rat × Rat):Rat × Rat:=(p.1 - q.1,p.2 - q.2)
def aht (p q:Rat × Rat):Rat:=p.1 * q.1 + p.2 * q.2
def aty (p q:Rat × Rat):Rat:=p.1 * q.2 - p.2 * q.1
theorem Sm.sub {e f:Nat} {p q:Rat × Rat} (hp:Sm e p) (hq:Sm f q):Sm (e + f + 1) (afp p q):=⟨hp.x.sub hq.x,hp.y.sub hq.y⟩
theorem Sm.dot {e f:Nat} {p q:Rat × Rat} (hp:Sm e p) (hq:Sm f q):Qb (e + f + (e + f) + 1) (aht p q):=(hp.x.mul hq.x).add (hp.y.mul hq.y)
theorem Sm.cross {e f:Nat} {p q:Rat × Rat} (hp:Sm e p) (hq:Sm f q):Qb (e + f + (e + f) + 1) (aty p q):=(hp.x.mul hq.y).sub (hp.y.mul hq.x)
theorem Sm.mono {e f:Nat} {p:Rat × Rat} (hp:Sm e p) (h:e <= f):Sm f p:=⟨hp.x.mono h,hp.y.mono h⟩
theorem aqn {q:Rat} {e w:Nat} (h:Qb e q) (he:e <= w * 4000):Qz 4000 q w:=⟨(Cb.one h).mono he⟩
end Go.Lw
namespace Go.Lw
def aak (l:Li) (j:Jt) (b:Int):Rat × Rat:=if j.a = b then mkQ l b j.point else mkQ l b j.on
def aa1 (l:Li) (a:As) (j:Jt) (b:Int):Et (llq a.rs) × Et (llq a.rs):=if j.a = b then plE l a j.b j.on else plE l a j.a j.point
structure PinP (l:Li) (a:As) (j:Jt) (b:Int):Prop where
  tie:(j.a = b /\ Pd a j.b) \/ (j.a ≠ b /\ j.b = b /\ Pd a j.a)
theorem PinP.or {l:Li} {a:As} {j:Jt} {b:Int} (h:PinP l a j b):j.a = b \/ j.b = b:=by
 rcases h.tie with h9 | h9
 ·exact .inl h9.1
 ·exact .inr h9.2.1
theorem aek {l:Li} (hl:l.ok) (hli:liE l = 0) {a:As} (al:AL a) (hc:aer a.rs = 0) {i:Nat} {j:Jt} (hj:l.joints[i]? = some j) {b:Int} (h:PinP l a j b) :
  Zu 4000 300000 (aa1 l a j b).1 40 40 /\ Zu 4000 300000 (aa1 l a j b).2 40 40:=by
 obtain ⟨i1,i2,i3,i4,_⟩:=afv hli hj;unfold aa1;rcases h.tie with ⟨e,hb⟩ | ⟨e,e2,hb⟩
 ·rw [if_pos e]; exact agu hl hli al hc i2 i4 hb
 ·rw [if_neg e]; exact agu hl hli al hc i1 i3 hb
theorem ach {l:Li} (hl:l.ok) (hli:liE l = 0) {i:Nat} {j:Jt} (hj:l.joints[i]? = some j) {b:Int} (h:j.a = b \/ j.b = b):Sm 1000 (aak l j b):=by
 obtain ⟨i1,i2,i3,i4,_⟩:=afv hli hj;unfold aak
 by_cases e:j.a = b
 ·rw [if_pos e]; subst e; exact ajg hl hli i1 i3
 ·rw [if_neg e];rcases h with h | h
  ·exact absurd h e
  ·subst h; exact ajg hl hli i2 i4
theorem bqo {bs:List Int} {b:Int} (h:b ∈ bs):bs.contains b = true:=List.contains_iff_mem.2 h
theorem bn4 {bs:List Int} {b:Int} (h:b ∉ bs):bs.contains b = false:=by
 cases hc:bs.contains b with
 | false=>rfl
 | true=>exact absurd (List.contains_iff_mem.1 hc) h
theorem DyOk.ancs {l:Li} {k:Int} {a:As} {own:Bool} {n:Nat} {g:Gr} (h:DyOk l k a own n g) {z b:Int} {j:Jt} (hz:z ∈ g.joints) (hj:l.joints[z.toNat]? = some j) (hb:anc g j = b) (h0:0 <= b):Pd a b:=by
 refine h.body ?_ h0;unfold ndL ajx;refine List.mem_append_left _ (List.mem_map.2 ⟨z,hz,?_⟩);rw [aah hj]; exact hb
theorem DyOk.pin {l:Li} {k:Int} {a:As} {own:Bool} {n:Nat} {g:Gr} (h:DyOk l k a own n g) {kd z b:Int} {j:Jt} {bs:List Int} (hbs:g.bodies = bs) (t:TieO l kd bs z b j) (hz:z ∈ g.joints) (hb:b ∈ bs):PinP l a j b:=by
 subst hbs;obtain ⟨i1,i2,_⟩:=afv h.li t.hj;have i1:=aiz i1;have i2:=aiz i2;rcases t.tie with ⟨e,hn⟩ | ⟨e,hn⟩
 ·refine ⟨.inl ⟨e, h.ancs hz t.hj ?_ i2.1⟩⟩;unfold anc;rw [if_pos (bqo (e ▸ hb)),if_neg (by rw [bn4 hn]; simp)]
 ·refine ⟨.inr ⟨fun e2=>hn (e2 ▸ hb), e, h.ancs hz t.hj ?_ i1.1⟩⟩;unfold anc;rw [if_neg (by rw [bn4 hn]; simp)]
theorem DyOk.own {l:Li} {k:Int} {a:As} {n:Nat} {g:Gr} (h:DyOk l k a true n g) {b:Int} (hb:b ∈ g.bodies):Pd a b:=by
 refine h.body ?_ (h.ok.b b hb).1;unfold ndL;rw [if_pos rfl];exact List.mem_append_right _ hb
structure RrrP (l:Li) (a:As) (g:Gr) (i k z0 z1 z2:Int) (j0 j1 j2:Jt):Prop where
  eq:g = ⟨1,[i,k],[z0,z1,z2],0⟩
  h0:l.joints[z0.toNat]? = some j0
  h1:l.joints[z1.toNat]? = some j1
  h2:l.joints[z2.toNat]? = some j2
  p0:PinP l a j0 i
  p1:PinP l a j1 k
  t1:j2.a = i \/ j2.b = i
  t2:j2.a = k \/ j2.b = k
structure SlP (l:Li) (a:As) (g:Gr) (kd i z0 z1:Int) (j0 j:Jt):Prop where
  eq:g = ⟨kd,[i],[z0,z1],0⟩
  h0:l.joints[z0.toNat]? = some j0
  h1:l.joints[z1.toNat]? = some j
  p0:PinP l a j0 i
  p1:PinP l a j i
  hk:j.kind ≠ 0
theorem DyOk.rrr {l:Li} {k:Int} {a:As} {own:Bool} {n:Nat} {g:Gr} (h:DyOk l k a own n g) (hk:g.kind = 1):∃ i k z0 z1 z2 j0 j1 j2, RrrP l a g i k z0 z1 z2 j0 j1 j2:=by
 have hd:=h.dy;cases hd with
 | drv _ _ _ _=>exact absurd hk (by simp)
 | pr _ _ _=>exact absurd hk (by simp)
 | rp _ _ _=>exact absurd hk (by simp)
 | @rrr i k z0 z1 z2 j0 j1 j2 ne t0 t1 h0 h2 kd tie =>
  refine ⟨i,k,z0,z1,z2,j0,j1,j2,rfl,t0.hj,t1.hj,h2,h.pin rfl t0 (by simp) (by simp),h.pin rfl t1 (by simp) (by simp),?_,?_⟩
  ·rcases tie with h9 | h9
   ·exact .inl h9.1
   ·exact .inr h9.1
  ·rcases tie with h9 | h9
   ·exact .inr h9.2
   ·exact .inl h9.2
theorem DyOk.pr {l:Li} {k:Int} {a:As} {own:Bool} {n:Nat} {g:Gr} (h:DyOk l k a own n g) (hk:g.kind = 2):∃ i z0 z1 j0 j, SlP l a g 2 i z0 z1 j0 j /\ j.a = i /\ Pd a j.b:=by
 have hd:=h.dy;cases hd with
 | drv _ _ _ _=>exact absurd hk (by simp)
 | rrr _ _ _ _ _ _ _=>exact absurd hk (by simp)
 | rp _ _ _=>exact absurd hk (by simp)
 | @pr i z0 z1 j0 j1 t0 t1 ha =>
  have p1:PinP l a j1 i:=h.pin rfl t1 (by simp) (by simp);refine ⟨i,z0,z1,j0,j1,⟨rfl,t0.hj,t1.hj,h.pin rfl t0 (by simp) (by simp),p1,by rw [t1.kd]; decide⟩,ha,?_⟩;rcases p1.tie with h9 | h9
  ·exact h9.2
  ·exact absurd ha h9.1
theorem DyOk.rp {l:Li} {k:Int} {a:As} {own:Bool} {n:Nat} {g:Gr} (h:DyOk l k a own n g) (h0:g.kind ≠ 0) (h1:g.kind ≠ 1) (h2:g.kind ≠ 2):∃ i z0 z1 j0 j, SlP l a g 3 i z0 z1 j0 j /\ j.a ≠ i /\ j.b = i /\ Pd a j.a:=by
 have hd:=h.dy;cases hd with
 | drv _ _ _ _=>exact absurd rfl h0
 | rrr _ _ _ _ _ _ _=>exact absurd rfl h1
 | pr _ _ _=>exact absurd rfl h2
 | @rp i z0 z1 j0 j1 t0 t1 ha =>
  have p1:PinP l a j1 i:=h.pin rfl t1 (by simp) (by simp);refine ⟨i,z0,z1,j0,j1,⟨rfl,t0.hj,t1.hj,h.pin rfl t0 (by simp) (by simp),p1,by rw [t1.kd]; decide⟩,ha,?_⟩;rcases p1.tie with h9 | h9
  ·exact absurd h9.1 ha
  ·exact ⟨h9.2.1,h9.2.2⟩
def sqQ (c p:Rat × Rat):Rat:=aht (afp c p) (afp c p)
theorem brv {e f:Nat} {c p:Rat × Rat} (hc:Sm e c) (hp:Sm f p):Qb (e + f + 1 + (e + f + 1) + (e + f + 1 + (e + f + 1)) + 1) (sqQ c p):=(hc.sub hp).dot (hc.sub hp)
def jAt (l:Li) (g:Gr) (n:Nat):Jt:=l.joints.getD (g.joints.getD n 0).toNat default
def bAt (g:Gr) (n:Nat):Int:=g.bodies.getD n 0
section
variable (l:Li) (a:As)
def rpV (i:Int) (j:Jt):Rat × Rat:=afp (mkQ l i j.to) (mkQ l i j.on)
def rpH (i:Int) (j0 j:Jt):Rat:=aty (rpV l i j) (afp (mkQ l i j.on) (aak l j0 i))
def rpN (i:Int) (j:Jt):Rat:=aht (rpV l i j) (rpV l i j)
def sbE {ts:LL} (p q:Et ts × Et ts):Et ts × Et ts:=(p.1 - q.1,p.2 - q.2)
def azw {ts:LL} (p q:Et ts × Et ts):Et ts:=dotE p.1 p.2 q.1 q.2
def a58 {ts:LL} (p q:Et ts × Et ts):Et ts:=crsE p.1 p.2 q.1 q.2
def rpW (i:Int) (j0 j:Jt):Et (llq a.rs) × Et (llq a.rs):=sbE (plE l a j.a j.point) (aa1 l a j0 i)
def rpD (i:Int) (j0 j:Jt):Et (llq a.rs):=azw (rpW l a i j0 j) (rpW l a i j0 j)
def a5x (g:Gr):Et (llq a.rs) :=
  if g.kind = 0 then qE 1
  else if g.kind = 1 then
    qE 4 * (qE (sqQ (aak l (jAt l g 2) (bAt g 0)) (aak l (jAt l g 0) (bAt g 0))) * azw (sbE (aa1 l a (jAt l g 0) (bAt g 0)) (aa1 l a (jAt l g 1) (bAt g 1))) (sbE (aa1 l a (jAt l g 0) (bAt g 0)) (aa1 l a (jAt l g 1) (bAt g 1))))
      - ((qE (sqQ (aak l (jAt l g 2) (bAt g 0)) (aak l (jAt l g 0) (bAt g 0))) + azw (sbE (aa1 l a (jAt l g 0) (bAt g 0)) (aa1 l a (jAt l g 1) (bAt g 1))) (sbE (aa1 l a (jAt l g 0) (bAt g 0)) (aa1 l a (jAt l g 1) (bAt g 1)))) - qE (sqQ (aak l (jAt l g 2) (bAt g 1)) (aak l (jAt l g 1) (bAt g 1))))
        * ((qE (sqQ (aak l (jAt l g 2) (bAt g 0)) (aak l (jAt l g 0) (bAt g 0))) + azw (sbE (aa1 l a (jAt l g 0) (bAt g 0)) (aa1 l a (jAt l g 1) (bAt g 1))) (sbE (aa1 l a (jAt l g 0) (bAt g 0)) (aa1 l a (jAt l g 1) (bAt g 1)))) - qE (sqQ (aak l (jAt l g 2) (bAt g 1)) (aak l (jAt l g 1) (bAt g 1))))
  else if g.kind = 2 then
    azw (sbE (plE l a (jAt l g 1).b (jAt l g 1).to) (plE l a (jAt l g 1).b (jAt l g 1).on)) (sbE (plE l a (jAt l g 1).b (jAt l g 1).to) (plE l a (jAt l g 1).b (jAt l g 1).on)) * qE (sqQ (mkQ l (bAt g 0) (jAt l g 1).point) (aak l (jAt l g 0) (bAt g 0)))
      - a58 (sbE (plE l a (jAt l g 1).b (jAt l g 1).to) (plE l a (jAt l g 1).b (jAt l g 1).on)) (sbE (aa1 l a (jAt l g 0) (bAt g 0)) (plE l a (jAt l g 1).b (jAt l g 1).on))
        * a58 (sbE (plE l a (jAt l g 1).b (jAt l g 1).to) (plE l a (jAt l g 1).b (jAt l g 1).on)) (sbE (aa1 l a (jAt l g 0) (bAt g 0)) (plE l a (jAt l g 1).b (jAt l g 1).on))
  else qE (rpN l (bAt g 0) (jAt l g 1)) * rpD l a (bAt g 0) (jAt l g 0) (jAt l g 1) - qE (rpH l (bAt g 0) (jAt l g 0) (jAt l g 1)) * qE (rpH l (bAt g 0) (jAt l g 0) (jAt l g 1))
end
section
variable {l:Li} {a:As} {g:Gr}
theorem RrrP.at {i k z0 z1 z2:Int} {j0 j1 j2:Jt} (h:RrrP l a g i k z0 z1 z2 j0 j1 j2):jAt l g 0 = j0 /\ jAt l g 1 = j1 /\ jAt l g 2 = j2 /\ bAt g 0 = i /\ bAt g 1 = k /\ g.kind = 1:=by
 rw [h.eq];exact ⟨aah h.h0,aah h.h1,aah h.h2,rfl,rfl,rfl⟩
theorem SlP.at {kd i z0 z1:Int} {j0 j:Jt} (h:SlP l a g kd i z0 z1 j0 j):jAt l g 0 = j0 /\ jAt l g 1 = j /\ bAt g 0 = i /\ g.kind = kd:=by
 rw [h.eq];exact ⟨aah h.h0,aah h.h1,rfl,rfl⟩
end
end Go.Lw
namespace Go.Lw
section
variable {ts:LL}
def qv (p:Rat × Rat):Et ts × Et ts:=(qE p.1,qE p.2)
theorem aju (p q:Rat × Rat):sbE (qv p:Et ts × Et ts) (qv q) = qv (afp p q):=by
 unfold sbE qv afp;rw [a13,a13]
theorem axr (p q:Rat × Rat):azw (qv p:Et ts × Et ts) (qv q) = qE (aht p q):=by
 unfold azw dotE qv aht;rw [a9o,atv,atv]
theorem a2o (p q:Rat × Rat):a58 (qv p:Et ts × Et ts) (qv q) = qE (aty p q):=by
 unfold a58 crsE qv aty;rw [a13,atv,atv]
def d2E (p q:Et ts × Et ts):Et ts:=azw (sbE p q) (sbE p q)
theorem auq (p q:Rat × Rat):d2E (qv p:Et ts × Et ts) (qv q) = qE (sqQ p q):=by
 unfold d2E sqQ;rw [aju,axr]
theorem brc (q:Rat):sgE (qE q:Et ts) = ag3 q:=T.sgn_ofQ _ _ q
theorem a3g (x:Rat):0 <= x * x:=by
 rcases (Rat.le_total:0 <= x \/ x <= 0) with h | h
 ·exact Rat.mul_nonneg h h
 ·have h1 : 0 <= -x := by grind
  have h2:=Rat.mul_nonneg h1 h1;grind
theorem bjd (p q:Rat × Rat):0 <= sqQ p q:=by
 unfold sqQ aht afp;have h1:=a3g (p.1 - q.1);have h2:=a3g (p.2 - q.2);dsimp only;grind
theorem axy (p q:Rat × Rat):0 <= sgE (qE (sqQ p q):Et ts):=by
 rw [brc];have h:=bjd p q;unfold ag3;split
 ·grind
 ·split <;> omega
def ajy (p:Et ts × Et ts) (r:Et ts) (q:Et ts × Et ts) (s:Et ts):Et ts:=qE 4 * (r * d2E p q) - ((r + d2E p q) - s) * ((r + d2E p q) - s)
end
section
variable {l:Li} {a:As} {g:Gr}
theorem bof {i k z0 z1 z2:Int} {j0 j1 j2:Jt} (h:RrrP l a g i k z0 z1 z2 j0 j1 j2) :
  a5x l a g = ajy (aa1 l a j0 i) (d2E (qv (aak l j2 i)) (qv (aak l j0 i))) (aa1 l a j1 k) (d2E (qv (aak l j2 k)) (qv (aak l j1 k))):=by
 obtain ⟨e0,e1,e2,b0,b1,hk⟩:=h.at;unfold a5x ajy;rw [if_neg oz,if_pos hk,e0,e1,e2,b0,b1,auq,auq];rfl
theorem bno {i z0 z1:Int} {j0 j:Jt} (h:SlP l a g 2 i z0 z1 j0 j) :
  a5x l a g = azw (sbE (plE l a j.b j.to) (plE l a j.b j.on)) (sbE (plE l a j.b j.to) (plE l a j.b j.on)) * d2E (qv (mkQ l i j.point)) (qv (aak l j0 i))
   - a58 (sbE (plE l a j.b j.to) (plE l a j.b j.on)) (sbE (aa1 l a j0 i) (plE l a j.b j.on)) * a58 (sbE (plE l a j.b j.to) (plE l a j.b j.on)) (sbE (aa1 l a j0 i) (plE l a j.b j.on)):=by
 obtain ⟨e0,e1,b0,hk⟩:=h.at;unfold a5x;rw [if_neg oz,if_neg oz,if_pos hk,e0,e1,b0,auq]
theorem bg0 {i z0 z1:Int} {j0 j:Jt} (h:SlP l a g 3 i z0 z1 j0 j) :
  a5x l a g = azw (sbE (qv (mkQ l i j.to)) (qv (mkQ l i j.on))) (sbE (qv (mkQ l i j.to)) (qv (mkQ l i j.on))) * d2E (plE l a j.a j.point) (aa1 l a j0 i)
   - a58 (sbE (qv (mkQ l i j.to)) (qv (mkQ l i j.on))) (sbE (qv (mkQ l i j.on)) (qv (aak l j0 i))) * a58 (sbE (qv (mkQ l i j.to)) (qv (mkQ l i j.on))) (sbE (qv (mkQ l i j.on)) (qv (aak l j0 i))):=by
 obtain ⟨e0,e1,b0,hk⟩:=h.at;unfold a5x;rw [if_neg oz,if_neg oz,if_neg oz,e0,e1,b0,aju,aju,axr,a2o];rfl
end
end Go.Lw
namespace Go.Lw
def mkN (n:Nat) (xs:List Int):List Bool:=(List.range n).map (fun i:Nat=>decide ((i:Int) ∈ xs))
theorem aoy (n:Nat) (xs:List Int):(mkN n xs).length = n:=by unfold mkN; rw [length_map,List.length_range]
theorem aom {n i:Nat} (h:i < n) (xs:List Int):(mkN n xs)[i]? = some (decide ((i:Int) ∈ xs)):=by
 unfold mkN; rw [getElem?_map,List.getElem?_range h]; rfl
theorem bh2 (n:Nat):mkN n [] = List.replicate n false:=by
 apply List.ext_getElem?;intro i
 by_cases h:i < n
 ·rw [aom h,List.getElem?_replicate,if_pos h]; simp
 ·rw [getElem?_eq_none (by rw [aoy]; omega),getElem?_eq_none (by rw [length_replicate]; omega)]
theorem a8d {n:Nat} {xs ys:List Int} {b:Int} {v:Bool} (h0:0 <= b) (hn:b < n) (h:∀ i:Nat, i < n -> decide ((i:Int) ∈ ys) = if (i:Int) = b then v else decide ((i:Int) ∈ xs)):mkN n ys = (mkN n xs).set b.toNat v:=by
 apply List.ext_getElem?;intro i
 by_cases hi:i < n
 ·rw [aom hi, h i hi, List.getElem?_set, aoy]
  by_cases e:(i:Int) = b
  ·rw [if_pos e,if_pos oz,if_pos oz]
  ·rw [if_neg e,if_neg oz,aom hi]
 ·rw [getElem?_eq_none (by rw [aoy]; omega),getElem?_eq_none (by rw [length_set,aoy]; omega)]
theorem bjf {n:Nat} {xs:List Int} {b:Int} (h:b < 0):mkN n (xs ++ [b]) = mkN n xs:=by
 unfold mkN;refine List.map_congr_left (fun i _=>decide_eq_decide.2 ?_);simp only [mem_append,List.mem_singleton];constructor
 ·rintro (h1 | h1)
  ·exact h1
  ·omega
 ·exact .inl
theorem bcf {n:Nat} {xs:List Int} {b:Int} (h0:0 <= b) (hn:b < n):mkN n (xs ++ [b]) = (mkN n xs).set b.toNat true :=
 a8d h0 hn fun i _=>by
  by_cases e:(i:Int) = b
  ·rw [if_pos e]; simp [e]
  ·rw [if_neg e]; simp [e]
theorem bhp {n:Nat} {xs ys:List Int} {q:Nat} {b:Int} {own:Bool} (hb:ys[q]? = some b) (h0:0 <= b) (hn:b < n) :
  mkN n (xs ++ (if own = true then ys.take (q + 1) else [])) = (mkN n (xs ++ (if own = true then ys.take q else []))).set b.toNat (cond (decide (b ∈ xs ++ (if own = true then ys.take q else []))) true own) :=
 a8d h0 hn fun i _=>by
  cases own
  ·simp only [Bool.false_eq_true, if_false, List.append_nil]
   by_cases e:(i:Int) = b
   ·rw [if_pos e,e]; cases decide (b ∈ xs) <;> rfl
   ·rw [if_neg e]
  ·simp only [if_true];rw [aaj hb]
   by_cases e:(i:Int) = b
   ·rw [if_pos e]; simp [e]
   ·rw [if_neg e]; simp [e]
def ndM (l:Li) (g:Gr) (a:As) (own:Bool) (i:Nat):Nat:=if (i:Int) ∈ ndL l g own then ndE a i else 0
theorem blb (a:As) (b:Int) (h:b < 0):ndE a b = 0:=by unfold ndE; rw [if_pos h]
theorem bd6 {l:Li} (hl:liE l = 0) {g:Gr} (hg:GrOk l g) {a:As} {own:Bool}:adi ((apr (ndL l g own)).map (ndE a)) = adi ((List.range l.bodies.length).map (ndM l g a own)) :=
 ay8 (a8o hl hg) (blb a)
def sdP (j:Jt) (b:Int):Int:=if j.a = b then j.point else j.on
def sdB (j:Jt) (b:Int):Int:=if j.a = b then j.b else j.a
def sdQ (j:Jt) (b:Int):Int:=if j.a = b then j.on else j.point
theorem DyOk.ne {l:Li} {k:Int} {a:As} {own:Bool} {n:Nat} {i k2 z0 z1 z2:Int} (h:DyOk l k a own n ⟨1, [i, k2], [z0, z1, z2], 0⟩):i ≠ k2:=by
 have hd:=h.dy;generalize hg:(⟨1,[i,k2],[z0,z1,z2],0⟩:Gr) = g at hd;cases hd with
 | drv _ _ _ _=>simp at hg
 | pr _ _ _=>simp at hg
 | rp _ _ _=>simp at hg
 | rrr ne _ _ _ _ _ _=>simp at hg; obtain ⟨⟨rfl,rfl⟩,_⟩:=hg; exact ne
def bfm (a:As):Bool:=a.bs.all (fun b=>ahc a.rs b.l) && (decide (a.bs.length <= 20) && ahc a.rs [] && decide (a.rs.length <= 1 \/ 5 < a.rs.length))
theorem bf6 {a:As} (h:bfm a = true) (ha:a.ok):AL a:=by
 unfold bfm at h;simp only [and_eq_true,decide_eq_true_eq,all_eq_true] at h;obtain ⟨h1,⟨h2,h3⟩,_⟩:=h;have hlt:=a2e h3 ha.rs a3v;exact ⟨hlt.tr,fun b hb=>(a2e (h1 b hb) ha.rs (ha.bs b hb)).nr,hlt.ll,h2⟩
theorem bkx {a:As} (h:a.bs.all (fun b=>ahc a.rs b.l) = true) :
  cond (cond (aaa .leq (a.bs.length:Int) 20) (ahc a.rs []) false) (cond (aaa .leq (a.rs.length:Int) 1) true (aaa .gtr (a.rs.length:Int) 5)) false = bfm a:=by
 have e1:=a63 (n:=a.bs.length) (k:=20);have e2:=a63 (n:=a.rs.length) (k:=1);have e3:=ba6 (n:=a.rs.length) (k:=5);unfold bfm;rw [h,Bool.true_and];rw [show aaa .leq (a.bs.length:Int) 20 = decide (a.bs.length <= 20) from e1,show aaa .leq (a.rs.length:Int) 1 = decide (a.rs.length <= 1) from e2,show aaa .gtr (a.rs.length:Int) 5 = decide (5 < a.rs.length) from e3];cases ahc a.rs [] <;> by_cases c1:a.bs.length <= 20 <;> by_cases c2:a.rs.length <= 1 <;> by_cases c3:5 < a.rs.length <;> simp [c1,c2,c3]
end Go.Lw
namespace Go.Lw
structure Bulk {H:Type} (bk:DataW H -> Nat) (bka:List (DataW H) -> Nat):Prop where
  one:∀ d,1 <= bk d
  nil:bka [] = 0
  cons:∀ d l,bka (d :: l) = bk d + bka l
  slice:∀ e s,bka e + 1 <= bk (.slice e s)
  agg:∀ l,bka l <= bk (.agg l)
section
variable {P:Program} {W:World} {H:Type} {enc:TypeId × Value -> H} {bk:DataW H -> Nat} {bka:List (DataW H) -> Nat}
theorem Bulk.pick (B:Bulk bk bka) {α:Type} {m:α -> Nat}:∀ {l:List α} {xs:List (DataW H)}, l.length <= xs.length -> (∀ (i:Nat) (a:α), l[i]? = some a -> ∃ x, xs[i]? = some x /\ m a <= bk x) -> (l.map m).sum <= bka xs
 | [],xs,_,_=>by simp
 | a :: l,[],hl,_=>by simp at hl
 | a :: l, x :: xs, hl, h=>by
  obtain ⟨y,hy,h1⟩:=h 0 a rfl;cases hy;have h2:=B.pick (l:=l) (xs:=xs) (by simpa using hl) (fun i b hb=>h (i + 1) b hb);rw [B.cons,map_cons,List.sum_cons];omega
def ay1 (P:Program) (W:World) (enc:TypeId × Value -> H) (bk:DataW H -> Nat) (t:TypeId) {α:Type} (f:α -> AV) (p:α -> Prop) (m:α -> Nat):Prop :=
  ∀ (sp:Nat -> Bool) (fuel:Nat) (cs:List Value) (x:DataW H × List MemPlace),DataW.trod enc P W 0 sp true fuel t cs = some x -> (∀ n ∈ x.1.weights P t,n <= reachBytes) -> ∃ a,p a /\ CRp W cs (f a).cells /\ m a <= bk x.1
theorem adz.m {t:TypeId} {α:Type} {f:α -> AV} {p:α -> Prop} (h:adz P W enc t f p):ay1 P W enc bk t f p (fun _=>0):=by
 intro sp fuel cs x hx hw;obtain ⟨a,h1,h2⟩:=h sp fuel cs x hx hw;exact ⟨a,h1,h2,zero_le _⟩
theorem adz.m1 (B:Bulk bk bka) {t:TypeId} {α:Type} {f:α -> AV} {p:α -> Prop} (h:adz P W enc t f p):ay1 P W enc bk t f p (fun _=>1):=by
 intro sp fuel cs x hx hw;obtain ⟨a,h1,h2⟩:=h sp fuel cs x hx hw;exact ⟨a,h1,h2,B.one _⟩
theorem ay1.map {α β:Type} {t:TypeId} {f:α -> AV} {p:α -> Prop} {m:α -> Nat} (h:ay1 P W enc bk t f p m) (g:α -> β) (f':β -> AV) (p':β -> Prop) (m':β -> Nat) (hg:∀ a, p a -> p' (g a) /\ f' (g a) = f a /\ m' (g a) <= m a):ay1 P W enc bk t f' p' m':=by
 intro sp fuel cs x hx hwt;obtain ⟨a,ha,hc,hm⟩:=h sp fuel cs x hx hwt;obtain ⟨h1,h2,h3⟩:=hg a ha;exact ⟨g a,h1,by rw [h2]; exact hc,le_trans h3 hm⟩
end
end Go.Lw
namespace Go.Lw
open Go.Proofs
section
variable {W:World} {H:Type} {enc:TypeId × Value -> H}
theorem bnx:adz prog W enc 218 (fun n:Nat=>u32 n) (fun n=>n < 4294967296) :=
 (ay0 (k:=.u32) Tryz.underlying218).map Int.toNat _ _ (fun n h=>by
  have h1:0 <= n /\ n <= 4294967295:=by simpa [Lit.wf,IntKind.min,IntKind.max,IntKind.signed,IntKind.bits] using h
  have h2:((n.toNat:Nat):Int) = n:=by omega
  exact ⟨by omega,by unfold u32; rw [h2]⟩)
theorem boz:adz prog W enc 27 ws (fun l=>Ws l /\ l.length <= 281474976710656) :=
 (adk Tryz.underlying27 (n:=1) (by kernel_rfl) oz (by kernel_rfl) bnx (fun _=>rfl)).map id _ _ (fun l h=>⟨⟨fun x hx=>h.1 x hx,h.2⟩,rfl⟩)
theorem a9l:adz prog W enc 4 bl (fun _=>True):=a5o Tryz.underlying4
theorem anx:adz prog W enc 3 i64 (fun _=>True):=(ay0 (k:=.i64) Tryz.underlying3).map id _ _ (fun n h=>⟨trivial,rfl⟩)
theorem azk:adz prog W enc 9 (fun s:ByteArray=>AV.v (.string s)) (fun s=>s.size <= 281474976710656):=aw8 Tryz.underlying9
theorem a2s:adz prog W enc 29 Rt.av Rt.wok :=
 (acd (n := 3) Tryz.underlying29 (by kernel_rfl)
  (.cons rfl (n:=1) (by kernel_rfl) a9l (fun _=>rfl) (.cons rfl (n:=1) (by kernel_rfl) boz (fun _=>rfl) (.cons rfl (n:=1) (by kernel_rfl) boz (fun _=>rfl) (.nil _)))) (fun _=>rfl)).map
  (fun z=>⟨z.1,z.2.1,z.2.2.1⟩) _ _ (fun z h=>⟨⟨h.2.1.1,h.2.2.1.1⟩,rfl⟩)
def bqx (x:List Rt):Prop:=(∀ r ∈ x,r.wok) /\ x.length <= 281474976710656
theorem azo:adz prog W enc 46 nR bqx:=adk Tryz.underlying46 (n:=3) (by kernel_rfl) oz (by kernel_rfl) a2s (fun _=>rfl)
theorem bix:adz prog W enc 34 (fun l:List (List Rt)=>.lst 1 (l.map nR)) (fun l=>apq l /\ l.length <= 281474976710656) :=
 adk Tryz.underlying34 (n:=1) (by kernel_rfl) oz (by kernel_rfl) azo (fun _=>rfl)
theorem bb0:adz prog W enc 36 ahu (fun l=>apq l /\ l.length <= 281474976710656) :=
 (acd (n:=1) Tryz.underlying36 (by kernel_rfl) (.cons rfl (n:=1) (by kernel_rfl) bix (fun _=>rfl) (.nil _)) (fun _=>rfl)).map (fun z=>z.1) _ _ (fun z h=>⟨h.1,rfl⟩)
theorem a7u:adz prog W enc 67 Pl.av (fun b=>apq b.l) :=
 (acd (n := 4) Tryz.underlying67 (by kernel_rfl)
  (.cons rfl (n:=1) (by kernel_rfl) azo (fun _=>rfl) (.cons rfl (n:=1) (by kernel_rfl) azo (fun _=>rfl) (.cons rfl (n:=1) (by kernel_rfl) azo (fun _=>rfl) (.cons rfl (n:=1) (by kernel_rfl) azo (fun _=>rfl) (.nil _))))) (fun _=>rfl)).map
  (fun z=>⟨z.1, z.2.1, z.2.2.1, z.2.2.2.1⟩) _ _ (fun z h=>⟨by
   intro x hx;simp only [Pl.l,mem_cons,not_mem_nil,or_false] at hx;rcases hx with rfl | rfl | rfl | rfl
   ·exact h.1
   ·exact h.2.1
   ·exact h.2.2.1
   ·exact h.2.2.2.1,rfl⟩)
theorem a4s:adz prog W enc 37 (fun l:List Pl=>.lst 4 (l.map Pl.av)) (fun l=>(∀ b ∈ l, apq b.l) /\ l.length <= 281474976710656) :=
 adk Tryz.underlying37 (n:=4) (by kernel_rfl) oz (by kernel_rfl) a7u (fun _=>rfl)
theorem bhy:adz prog W enc 38 (fun l:List Int=>.lst 1 (l.map i64)) (fun l=>(∀ b ∈ l, True) /\ l.length <= 281474976710656) :=
 adk Tryz.underlying38 (n:=1) (by kernel_rfl) oz (by kernel_rfl) anx (fun _=>rfl)
abbrev asG (a:As):List AV:=[.lst 1 (a.rs.map nR),.lst 4 (a.bs.map Pl.av),.lst 1 (a.ms.map i64)]
theorem bm9:adz prog W enc 40 (fun a:As=>.agg (asG a)) As.ok :=
 (acd (n := 3) Tryz.underlying40 (by kernel_rfl)
  (.cons rfl (n:=1) (by kernel_rfl) bb0 (fun _=>rfl) (.cons rfl (n:=1) (by kernel_rfl) a4s (fun _=>rfl) (.cons rfl (n:=1) (by kernel_rfl) bhy (fun _=>rfl) (.nil _)))) (fun _=>rfl)).map
  (fun z=>⟨z.1,z.2.1,z.2.2.1⟩) _ _ (fun z h=>⟨⟨h.1.1,h.1.2,h.2.1.1,h.2.1.2⟩,rfl⟩)
theorem bha:adz prog W enc 31 Tn.av (fun x=>x.t.wok) :=
 (acd (n := 4) Tryz.underlying31 (by kernel_rfl) (.cons rfl (n := 3) (by kernel_rfl) a2s (fun _ => rfl) (.cons rfl (n := 1) (by kernel_rfl) a9l (fun _ => rfl) (.nil _))) (fun _ => rfl)).map
  (fun z=>⟨z.1,z.2.1⟩) _ _ (fun z h=>⟨h.1,rfl⟩)
theorem bhx:adz prog W enc 79 Mk.av (fun m=>m.name.size <= 281474976710656 /\ m.x.wok /\ m.y.wok) :=
 (acd (n := 7) Tryz.underlying79 (by kernel_rfl)
  (.cons rfl (n:=1) (by kernel_rfl) azk (fun _=>rfl) (.cons rfl (n:=3) (by kernel_rfl) a2s (fun _=>rfl) (.cons rfl (n:=3) (by kernel_rfl) a2s (fun _=>rfl) (.nil _)))) (fun _=>rfl)).map
  (fun z=>⟨z.1,z.2.1,z.2.2.1⟩) _ _ (fun z h=>⟨⟨h.1,h.2.1,h.2.2.1⟩,rfl⟩)
theorem bkh:adz prog W enc 77 Bd.av (fun b=>b.name.size <= 281474976710656 /\ b.pts.length <= 281474976710656 /\ ∀ m ∈ b.pts, m.name.size <= 281474976710656 /\ m.x.wok /\ m.y.wok) :=
 (acd (n := 2) Tryz.underlying77 (by kernel_rfl)
  (.cons rfl (n:=1) (by kernel_rfl) azk (fun _=>rfl) (.cons rfl (n:=1) (by kernel_rfl) (adk Tryz.underlying75 (n:=7) (by kernel_rfl) oz (by kernel_rfl) bhx (fun _=>rfl)) (fun _=>rfl) (.nil _))) (fun _=>rfl)).map
  (fun z=>⟨z.1,z.2.1⟩) _ _ (fun z h=>⟨⟨h.1,h.2.1.2,h.2.1.1⟩,rfl⟩)
theorem bcb:adz prog W enc 126 Jt.av (fun j=>j.name.size <= 281474976710656) :=
 (acd (n := 7) Tryz.underlying126 (by kernel_rfl)
  (.cons rfl (n := 1) (by kernel_rfl) azk (fun _ => rfl) (.cons rfl (n := 1) (by kernel_rfl) anx (fun _ => rfl) (.cons rfl (n := 1) (by kernel_rfl) anx (fun _ => rfl) (.cons rfl (n := 1) (by kernel_rfl) anx (fun _ => rfl)
   (.cons rfl (n:=1) (by kernel_rfl) anx (fun _=>rfl) (.cons rfl (n:=1) (by kernel_rfl) anx (fun _=>rfl) (.cons rfl (n:=1) (by kernel_rfl) anx (fun _=>rfl) (.nil _)))))))) (fun _=>rfl)).map
  (fun z=>⟨z.1,z.2.1,z.2.2.1,z.2.2.2.1,z.2.2.2.2.1,z.2.2.2.2.2.1,z.2.2.2.2.2.2.1⟩) _ _ (fun z h=>⟨h.1,rfl⟩)
theorem a94:adz prog W enc 128 Dr.av (fun d=>d.name.size <= 281474976710656) :=
 (acd (n := 2) Tryz.underlying128 (by kernel_rfl) (.cons rfl (n := 1) (by kernel_rfl) azk (fun _ => rfl) (.cons rfl (n := 1) (by kernel_rfl) anx (fun _ => rfl) (.nil _))) (fun _ => rfl)).map
  (fun z=>⟨z.1,z.2.1⟩) _ _ (fun z h=>⟨h.1,rfl⟩)
abbrev liG (l:Li):List AV:=[.v (.string l.name),.lst 2 (l.bodies.map Bd.av),.lst 7 (l.joints.map Jt.av),.lst 2 (l.drivers.map Dr.av)]
theorem biq:adz prog W enc 26 (fun l:Li=>.agg (liG l)) Li.okw :=
 (acd (n := 4) Tryz.underlying26 (by kernel_rfl)
  (.cons rfl (n := 1) (by kernel_rfl) azk (fun _ => rfl)
   (.cons rfl (n := 1) (by kernel_rfl) (adk Tryz.underlying22 (n := 2) (by kernel_rfl) oz (by kernel_rfl) bkh (fun _ => rfl)) (fun _ => rfl)
    (.cons rfl (n := 1) (by kernel_rfl) (adk Tryz.underlying23 (n := 7) (by kernel_rfl) oz (by kernel_rfl) bcb (fun _ => rfl)) (fun _ => rfl)
     (.cons rfl (n:=1) (by kernel_rfl) (adk Tryz.underlying24 (n:=2) (by kernel_rfl) oz (by kernel_rfl) a94 (fun _=>rfl)) (fun _=>rfl) (.nil _))))) (fun _=>rfl)).map
  (fun z=>⟨z.1,z.2.1,z.2.2.1,z.2.2.2.1⟩) _ _ (fun z h=>⟨⟨h.1,h.2.1.1,h.2.2.1.1,h.2.2.2.1.1,h.2.1.2,h.2.2.1.2,h.2.2.2.1.2⟩,rfl⟩)
end
end Go.Lw
namespace Go.Lw
open Go.Proofs Go.Proofs.YtnhbhlcebbmdoaaGreat
open Go.ChangeShapes Go.WideShapes Go.ChangeAt Go.RowKit
theorem own:ownKnob prog.godebug = none:=by kernel_rfl
theorem baf:laidOutB prog = true:=by kernel_rfl
theorem bc5:prog.stopsHeard = true:=by kernel_rfl
theorem bfc:prog.plainKeys = true:=by kernel_rfl
theorem bjj:mapsRowed prog = true:=by kernel_rfl
theorem bda:prog.mayEnter = true:=by kernel_rfl
theorem bdi:prog.liftsFinal = false:=by kernel_rfl
theorem avw {H:Type} {enc:TypeId × Value -> H} {W W':World} {t:TypeId} {v:Value} {d:DataW H} {ps:List MemPlace} {sp':Nat -> Bool} (hr:prog.readableRec t = true) (ht:t < prog.types.size)
  (h:DataW.Trod enc prog W 0 (fun _=>true) true t v d ps) (hb:Below W.heap.size W W') (hlt:∀ x ∈ ps,x.block < W.heap.size) (hs:∀ p ∈ ps,sp' p.block = true):DataW.Trod enc prog W' 0 sp' true t v d ps :=
 WideElems.Trod_stays baf hr ht h (fun x hx=>hb.same (hlt x hx)) hs
end Go.Lw
