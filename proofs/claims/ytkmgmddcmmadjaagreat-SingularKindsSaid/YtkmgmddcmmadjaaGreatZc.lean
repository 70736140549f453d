/- SingularKinds: for any linkage, any turns, any assembly and any group the law returns true and leaves its arguments as they were. No other condition. Part 3 of 7: what the later parts need -/
import Derived.Test.YtkmgmddcmmadjaaGreatZb
import Derived.Laws.Strings
set_option linter.unusedVariables false
open List (mem_of_getElem? mem_append mem_cons length_cons length_append length_nil getD_eq_getElem?_getD getElem?_append_left getElem?_eq_none all_eq_true getElem?_take getElem?_drop getElem?_map append_assoc getElem?_append_right getElem?_eq_getElem drop_eq_nil_of_le nil_append map_append length_take take_of_length_le drop_zero take_length not_mem_nil length_map drop_drop map_take all_append map_map map_replicate map_set)
open Nat (eq_of_beq_eq_true le_refl lt_of_lt_of_le lt_or_ge le_trans mul_le_mul_right mul_le_mul_left zero_le pow_add lt_of_le_of_lt)
open Option (map_eq_some_iff)
open Bool (and_eq_true or_eq_true)
open Array (getD_eq_getD_getElem?)
open Int (toNat_natCast natAbs_natCast)
namespace Go.Lw
theorem ab6 {l:List Nat} {i x:Nat} (h:i < l.length):val ((l.set i x).take (i + 1)) = val (l.take i) + 4294967296 ^ i * x:=by
 rw [al2 (x:=x) (by simp [h]),List.take_set_of_le (le_refl _)]
theorem ae6 {l:List Nat} {i x:Nat} (h:Ws l) (hx:x < 4294967296):Ws (l.set i x):=by
 intro y hy
 rcases List.mem_or_eq_of_mem_set hy with h1 | h1
 ·exact h y h1
 ·omega
theorem akt (n:Nat):Ws (List.replicate n 0):=fun x hx=>by rw [(List.mem_replicate.1 hx).2]; omega
theorem avq:Ws []:=fun _ h=>nomatch h
theorem ac8 {l:List Nat} (h:Ws l) (n:Nat):Ws (l.take n):=fun x hx=>h x (List.mem_of_mem_take hx)
theorem avu {x:Nat} (h:x < 4294967296):Ws [x]:=fun y hy=>by rw [List.mem_singleton.1 hy]; exact h
structure Wh where
  neg:Bool
  mag:List Nat
namespace Wh
def valid (w:Wh):Bool:=if w.mag = [] then !w.neg else w.mag.getLast? != some 0
def m (w:Wh):List Nat:=if w.valid then w.mag else []
def n (w:Wh):Bool:=w.valid && w.neg
def z (w:Wh):Int:=if w.n then -(val w.m:Int) else val w.m
def av (w:Wh):AV:=.agg [bl w.neg,ws w.mag]
def ok (w:Wh):Prop:=Ws w.mag /\ w.mag.length <= acr
end Wh
def sgn (b:Bool) (n:Nat):Int:=if b then -(n:Int) else n
def ofInt (z:Int):Wh:=⟨decide (z < 0),ofNat z.natAbs⟩
def zA (z:Int):AV:=(ofInt z).av
theorem Wh.nz (w:Wh):Nz w.m:=by
 unfold Wh.m Wh.valid
 intro x hx
 by_cases h:w.mag = []
 ·rw [h] at hx; split at hx <;> simp at hx
 ·rw [if_neg h] at hx
  split at hx
  ·next h'=>rw [hx] at h'; simpa using h'
  ·simp at hx
theorem Wh.ws {w:Wh} (h:w.ok):Ws w.m:=by
 unfold Wh.m; split
 ·exact h.1
 ·exact avq
theorem Wh.m_le {w:Wh}:w.m.length <= w.mag.length:=by
 unfold Wh.m; split <;> simp
theorem Wh.ofNat_m {w:Wh} (h:w.ok):ofNat (val w.m) = w.m:=ahy (Wh.ws h) w.nz
theorem Wh.n_val {w:Wh} (hn:w.n = true):val w.m ≠ 0:=by
 have h1:w.m ≠ []:=by
  intro h0
  unfold Wh.n at hn
  rw [and_eq_true] at hn
  unfold Wh.m at h0
  rw [if_pos hn.1] at h0
  have:=hn.1
  unfold Wh.valid at this
  rw [if_pos h0,hn.2] at this
  cases this
 have:=ak8 w.nz h1
 omega
theorem Wh.n_eq {w:Wh}:w.n = decide (w.z < 0):=by
 unfold Wh.z
 cases h:w.n with
 | true=>have:=Wh.n_val h; simp; omega
 | false=>simp
theorem Wh.abs {w:Wh}:w.z.natAbs = val w.m:=by
 unfold Wh.z; split <;> omega
theorem Wh.z_eq {w:Wh}:w.z = sgn w.n (val w.m):=rfl
theorem aqy (z:Int):(ofInt z).valid = true:=by
 unfold ofInt Wh.valid
 dsimp only
 split
 ·next h =>
  have h1:=aak z.natAbs
  rw [h] at h1
  have:z = 0:=by simp [val] at h1; omega
  subst this; rfl
 ·next h =>
  have:=akd z.natAbs
  cases hl:(ofNat z.natAbs).getLast? with
  | none=>rfl
  | some x=>have:=this x hl; simp [this]
theorem bg2 (z:Int):(ofInt z).m = ofNat z.natAbs:=by unfold Wh.m; rw [if_pos (aqy z)]; rfl
theorem bia (z:Int):(ofInt z).n = decide (z < 0):=by unfold Wh.n; rw [aqy z]; rfl
theorem abr (z:Int):(ofInt z).z = z:=by
 unfold Wh.z
 rw [bia,bg2,aak]
 split
 ·next h=>simp at h; omega
 ·next h=>simp at h; omega
def Lz (k:Nat) (z:Int):Prop:=z.natAbs < 4294967296 ^ k
theorem Lz.len {k:Nat} {z:Int} (h:Lz k z):(ofNat z.natAbs).length <= k:=aai h
theorem Wh.lz {w:Wh} (h:w.ok):Lz w.mag.length w.z:=by
 unfold Lz
 rw [Wh.abs]
 have h1:=abk w.m (Wh.ws h)
 exact lt_of_lt_of_le h1 (Nat.pow_le_pow_right (by omega) Wh.m_le)
theorem Lz.mono {k l:Nat} {z:Int} (h:Lz k z) (hk:k <= l):Lz l z:=lt_of_lt_of_le h (Nat.pow_le_pow_right (by omega) hk)
theorem Lz.add {k l:Nat} {x y:Int} (h:Lz k x) (h':Lz l y):Lz (max k l + 1) (x + y):=by
 have h1:=h.mono (Nat.le_max_left k l)
 have h2:=h'.mono (Nat.le_max_right k l)
 unfold Lz at *
 rw [Nat.pow_succ]
 have:=Int.natAbs_add_le x y
 omega
theorem Lz.neg {k:Nat} {x:Int} (h:Lz k x):Lz k (-x):=by unfold Lz at *; omega
theorem Lz.sub {k l:Nat} {x y:Int} (h:Lz k x) (h':Lz l y):Lz (max k l + 1) (x - y):=Int.sub_eq_add_neg ▸ h.add h'.neg
theorem Lz.mul {k l:Nat} {x y:Int} (h:Lz k x) (h':Lz l y):Lz (k + l) (x * y):=by
 unfold Lz at *
 rw [Int.natAbs_mul,pow_add]
 exact Nat.mul_lt_mul'' h h'
theorem Lz.of_le {k:Nat} {x y:Int} (h:Lz k x) (h':y.natAbs <= x.natAbs):Lz k y:=lt_of_le_of_lt h' h
theorem agt {a b:List Nat} (ha:Ws a) (hb:Nz b) (h:a.length < b.length):val a < val b:=by
 have h1:=abk a ha
 have hb0:b ≠ []:=by intro h0; rw [h0] at h; simp at h
 have h2:∃ c x,b = c ++ [x]:=⟨b.dropLast,b.getLast hb0,(List.dropLast_concat_getLast hb0).symm⟩
 obtain ⟨c,x,rfl⟩:=h2
 have hx:x ≠ 0:=hb x (by simp)
 rw [agc]
 simp at h
 have h3:4294967296 ^ a.length <= 4294967296 ^ c.length:=Nat.pow_le_pow_right (by omega) (by omega)
 have h4:4294967296 ^ c.length * 1 <= 4294967296 ^ c.length * val [x]:=mul_le_mul_left _ (by simp [val]; omega)
 omega
theorem aqw {a b:List Nat} {i:Nat} (ha:Ws a) (hx:aab a i < aab b i):val (a.take (i + 1)) < val (b.take (i + 1)):=by
 rw [aag,aag]
 have h1:=abk (a.take i) (ac8 ha i)
 have h2:4294967296 ^ (a.take i).length <= 4294967296 ^ i:=Nat.pow_le_pow_right (by omega) (by simp; omega)
 have h3:4294967296 ^ i * (aab a i + 1) <= 4294967296 ^ i * aab b i:=mul_le_mul_left _ hx
 rw [Nat.mul_add,Nat.mul_one] at h3
 omega
theorem ai5 (l:List Nat) (i:Nat):val l = val (l.take i) + 4294967296 ^ (min i l.length) * val (l.drop i):=by
 conv=>lhs; rw [<- List.take_append_drop i l]
 rw [agc,length_take]
theorem aqh {a b:List Nat} {i:Nat} (ha:Ws a) (hl:a.length = b.length) (hi:i < a.length) (he:a.drop (i + 1) = b.drop (i + 1)) (hx:aab a i < aab b i):val a < val b:=by
 rw [ai5 a (i + 1),ai5 b (i + 1),he,hl]
 have:=aqw ha hx
 omega
theorem apa {o c P x y u w:Nat} (h:o + c * P = x + y) :
  (o + P * ((c + (u + w)) % 4294967296)) + ((c + (u + w)) / 4294967296) * (P * 4294967296) = (x + P * u) + (y + P * w):=by
 have:=Nat.div_add_mod (c + (u + w)) 4294967296
 generalize (c + (u + w)) % 4294967296 = r at *
 generalize (c + (u + w)) / 4294967296 = q at *
 grind
theorem a2f {a b out:List Nat} {c n:Nat} (ha:Ws a) (hb:Ws b) (hn:n = max a.length b.length + 1) (ho:out.length = n)
  (h:val (out.take n) + c * 4294967296 ^ n = val (a.take n) + val (b.take n)):val out = val a + val b:=by
 rw [aav (by omega),aav (by omega),aav (by omega)] at h
 have h1:=abk a ha
 have h2:=abk b hb
 have h3:4294967296 ^ a.length <= 4294967296 ^ max a.length b.length:=Nat.pow_le_pow_right (by omega) (by omega)
 have h4:4294967296 ^ b.length <= 4294967296 ^ max a.length b.length:=Nat.pow_le_pow_right (by omega) (by omega)
 subst hn
 rw [Nat.pow_succ] at h
 cases c with
 | zero=>omega
 | succ c =>
  rw [Nat.succ_mul] at h
  omega
theorem avg {o c P x y u w:Nat} (hu:u < 4294967296) (hw:w < 4294967296) (hc:c <= 1) (h:o + y = x + c * P) :
  let d:=if w + c <= u then u - w - c else u + 18446744073709551616 - w - c
  (o + P * (d % 4294967296)) + (y + P * w) = (x + P * u) + (d / 2 ^ 63) * (P * 4294967296):=by
 intro d
 have h0:d % 4294967296 + w + c = u + (d / 2 ^ 63) * 4294967296:=by
  show d % 4294967296 + w + c = _
  by_cases h1:w + c <= u
  ·rw [show d = u - w - c from if_pos h1]; omega
  ·rw [show d = u + 18446744073709551616 - w - c from if_neg h1]; omega
 generalize d / 2 ^ 63 = q at *
 generalize d % 4294967296 = r at *
 grind
theorem bdk {a b out:List Nat} {c:Nat} (ha:Ws out) (ho:out.length = a.length) (hle:val b <= val a) (hlb:b.length <= a.length)
  (h:val (out.take a.length) + val (b.take a.length) = val (a.take a.length) + c * 4294967296 ^ a.length):val out = val a - val b:=by
 rw [aav (by omega),aav (by omega),aav (by omega)] at h
 have h1:=abk out ha
 rw [ho] at h1
 cases c with
 | zero=>omega
 | succ c=>rw [Nat.succ_mul] at h; omega
theorem ah3 {x y:Nat} (hx:x < 18446744073709551616) (hy:y < 18446744073709551616):ath .or .u64 (x:Int) (y:Int) = ((x ||| y:Nat):Int):=by
 show IntKind.u64.wrap (((BitVec.ofInt 64 (x:Int)) ||| (BitVec.ofInt 64 (y:Int))).toNat:Int) = _
 simp only [BitVec.toNat_or,BitVec.ofInt_natCast,BitVec.toNat_ofNat]
 rw [Nat.mod_eq_of_lt (by omega),Nat.mod_eq_of_lt (by omega)]
 exact u64_in (Nat.or_lt_two_pow (n:=64) hx hy)
theorem am1 {x y:Nat} (hx:x < 4294967296) (hy:y < 4294967296):ath .or .u32 (x:Int) (y:Int) = ((x ||| y:Nat):Int):=by
 show IntKind.u32.wrap (((BitVec.ofInt 32 (x:Int)) ||| (BitVec.ofInt 32 (y:Int))).toNat:Int) = _
 simp only [BitVec.toNat_or,BitVec.ofInt_natCast,BitVec.toNat_ofNat]
 rw [Nat.mod_eq_of_lt (by omega),Nat.mod_eq_of_lt (by omega)]
 exact u32_in (Nat.or_lt_two_pow (n:=32) hx hy)
theorem aro {x y:Nat} (hx:x < 4294967296) (hy:y < 4294967296):ath .and .u32 (x:Int) (y:Int) = ((x &&& y:Nat):Int):=by
 show IntKind.u32.wrap (((BitVec.ofInt 32 (x:Int)) &&& (BitVec.ofInt 32 (y:Int))).toNat:Int) = _
 simp only [BitVec.toNat_and,BitVec.ofInt_natCast,BitVec.toNat_ofNat]
 rw [Nat.mod_eq_of_lt (by omega),Nat.mod_eq_of_lt (by omega)]
 exact u32_in (lt_of_le_of_lt Nat.and_le_left hx)
theorem avt {q y n:Nat} (hy:y < 2 ^ n):q * 2 ^ n ||| y = q * 2 ^ n + y:=by
 rw [Nat.mul_comm,Nat.two_pow_add_eq_or_of_lt hy]
theorem ayx {q y n:Nat} (hy:y < 2 ^ n):y ||| q * 2 ^ n = y + q * 2 ^ n:=by
 rw [Nat.or_comm,avt hy,Nat.add_comm]
theorem am8 {x n:Nat} (hn:n <= 64) (h:x * 2 ^ n < 18446744073709551616):IntKind.u64.wrap ((x:Int) * 2 ^ (min (n:Int).toNat IntKind.u64.bits)) = ((x * 2 ^ n:Nat):Int):=by
 have:min (n:Int).toNat IntKind.u64.bits = n:=by simp [IntKind.bits]; omega
 rw [this,show (x:Int) * 2 ^ n = ((x * 2 ^ n:Nat):Int) by simp,u64_in h]
theorem a79 {x n:Nat} (hn:n <= 32):IntKind.u32.wrap ((x:Int) * 2 ^ (min (n:Int).toNat IntKind.u32.bits)) = ((x * 2 ^ n % 4294967296:Nat):Int):=by
 have:min (n:Int).toNat IntKind.u32.bits = n:=by simp [IntKind.bits]; omega
 rw [this,show (x:Int) * 2 ^ n = ((x * 2 ^ n:Nat):Int) by simp,aa7]
theorem an0 (x n:Nat) (hn:n <= 32):(x:Int).fdiv (2 ^ (min (n:Int).toNat IntKind.u32.bits)) = ((x / 2 ^ n:Nat):Int):=by
 have:min (n:Int).toNat IntKind.u32.bits = n:=by simp [IntKind.bits]; omega
 rw [this,Int.fdiv_eq_ediv_of_nonneg _ (Int.le_of_lt (Int.pow_pos (by decide)))]
 simp
theorem a96 {x y:Nat} (hx:x < 18446744073709551616):IntKind.u64.wrap ((x:Int).tdiv y) = ((x / y:Nat):Int):=by
 rw [<- Int.ofNat_tdiv,u64_in (lt_of_le_of_lt (Nat.div_le_self _ _) hx)]
theorem a6j {x y:Nat}:(x:Int).tmod y = ((x % y:Nat):Int):=(Int.ofNat_tmod _ _).symm
theorem azo:∀ {l:List Nat} {i x:Nat}, i < l.length -> val (l.set i x) + 4294967296 ^ i * aab l i = val l + 4294967296 ^ i * x
 | a :: l,0,x,_=>by simp [val,aab]; omega
 | a :: l, i + 1, x, h=>by
  have ih:=azo (l:=l) (i:=i) (x:=x) (by simpa using h)
  simp only [List.set_cons_succ,val]
  have hw:aab (a :: l) (i + 1) = aab l i:=by simp [aab]
  rw [hw,Nat.pow_succ]
  grind
theorem asr {l:List Nat} {i n x:Nat} (h:i < l.length) (hn:i < n):val ((l.set i x).take n) + 4294967296 ^ i * aab l i = val (l.take n) + 4294967296 ^ i * x:=by
 rw [List.take_set]
 have h1:aab (l.take n) i = aab l i:=by simp [aab,hn]
 rw [<- h1]
 exact azo (by simp; omega)
theorem a0m {o o' c V P u y w S:Nat} (ho:o' + P * w = o + P * (S % 4294967296)) (hS:S = c + (u * y + w)) (h:o + c * P = V) :
  o' + (S / 4294967296) * (P * 4294967296) = V + P * (u * y):=by
 have:=Nat.div_add_mod S 4294967296
 generalize S % 4294967296 = r at *
 generalize S / 4294967296 = q at *
 subst hS
 grind
theorem aox {x y:Nat} (hx:x < 4294967296) (hy:y < 4294967296):x * y <= 18446744065119617025:=by
 have:=Nat.mul_le_mul (show x <= 4294967295 by omega) (show y <= 4294967295 by omega)
 omega
theorem a9t {l:List Nat} {i:Nat} (h:i < l.length):l.drop i = aab l i :: l.drop (i + 1):=by
 rw [List.drop_eq_getElem_cons h]
 congr 1
 have:=ad0 h
 rw [getElem?_eq_getElem h] at this
 exact Option.some.inj this
theorem aj7 {l:List Nat} {i:Nat} (h:i < l.length):val (l.drop i) = aab l i + 4294967296 * val (l.drop (i + 1)):=by
 rw [a9t h]; rfl
theorem an9 {l:List Nat} {i x:Nat} (h:i < l.length):val ((l.set i x).drop i) = x + 4294967296 * val (l.drop (i + 1)):=by
 rw [aj7 (by simpa using h)]
 have h1:aab (l.set i x) i = x:=by simp [aab,h]
 have h2:(l.set i x).drop (i + 1) = l.drop (i + 1):=by rw [List.drop_set_of_lt (by omega)]
 rw [h1,h2]
theorem Fin.own1 {s:AS} {k d sz off len:Nat} {es es':List AV} (h:lk s.hp k = some (.row sz es)) (hd:Nat.blt d 1000 = true) (he:es = es') :
  Fin s (ali [.ms k sz off len]) (.ms d sz off len) [(d,some (.row sz es'))]:=by
 subst he
 rw [Nat.blt_eq] at hd
 intro ext m w v hh hext hx
 have hown:∀ (k':Nat) (z:Blk), lk [(d, some (Blk.row sz es))] k' = some z -> k' = d /\ z = .row sz es:=by
  intro k' z hz
  rw [aac] at hz
  split at hz
  ·rename_i h1; cases hz; exact ⟨h1,rfl⟩
  ·cases hz
 have him:=acb (ext:=ext) (Frame.refl (Own s.hp m) w) (hp':=[(d, some (.row sz es))]) (m':=fun x=>if x = d then m k else none) (by
  intro k' z b hz hb
  obtain ⟨rfl,rfl⟩:=hown k' z hz
  have hb':(if k' = k' then m k else none) = some b:=hb
  rw [if_pos rfl] at hb'
  exact .inl ⟨k,_,h,hb'⟩)
 refine ⟨fun x=>if x = d then m k else none,⟨?_,?_,?_⟩,?_,?_,?_⟩
 ·intro k' z hz
  obtain ⟨rfl,rfl⟩:=hown k' z hz
  rw [if_pos rfl]
  have h1:BlkRep (Im ext s.hp m w) (Sz w) m w (m k) (.row sz es):=hh.blk k _ h
  revert h1
  generalize hmk:m k = o
  suffices h2:∀ o, BlkRep (Im ext s.hp m w) (Sz w) m w o (.row sz es) -> BlkRep (Im ext [(k', some (.row sz es))] (fun x=>if x = k' then m k else none) w) (Sz w) (fun x=>if x = k' then m k else none) w o (.row sz es) by
   rw [hmk] at h2; exact h2 o
  clear hmk o
  intro o h1
  cases h1 with
  | none=>exact .none _
  | row hw hn hl hs h1 hr=>exact .row hw hn hl hs h1 (fun i j e u x he hx hu=>(hr i j e u x he hx hu).mono him (fun _ _ h=>h) (fun _ _ _ h=>h))
 ·intro k1 k2 z z' b h1 h2 _ _
  rw [(hown _ _ h1).1,(hown _ _ h2).1]
 ·intro k' z b hz hb
  obtain ⟨rfl,rfl⟩:=hown k' z hz
  have hb':(if k' = k' then m k else none) = some b:=hb
  rw [if_pos rfl] at hb'
  exact hh.sep k _ b h hb'
 ·intro k' z b hz hb
  obtain ⟨rfl,rfl⟩:=hown k' z hz
  have hb':(if k' = k' then m k else none) = some b:=hb
  rw [if_pos rfl] at hb'
  exact ⟨k,_,h,hb'⟩
 ·intro k' z hk hz
  obtain ⟨rfl,rfl⟩:=hown k' z hz
  omega
 ·cases hx with
  | ms0 a=>exact .ms0 a _ _ _
  | ms hm hc hS=>exact .ms (by simp; exact hm) hc hS
theorem acf {k:Nat} {x:Option Blk} {z:Blk} (h:lk [(1000, x)] k = some z):1000 <= k:=by
 rw [aac] at h
 split at h
 ·omega
 ·cases h
end Go.Lw
namespace Go.Lw
def adw:Nat -> Nat -> List Nat
  | 0,_=>[]
  | k + 1,v=>v % 4294967296 :: adw k (v / 4294967296)
theorem abv:∀ k v, (adw k v).length = k
 | 0,_=>rfl
 | k + 1,v=>by simp [adw,abv k]
theorem af2:∀ k v, Ws (adw k v)
 | 0,_=>avq
 | k + 1, v=>by
  intro x hx
  rcases List.mem_cons.1 hx with h | h
  ·omega
  ·exact af2 k _ x h
theorem afk:∀ k v, v < 4294967296 ^ k -> val (adw k v) = v
 | 0,v,h=>by simp at h; subst h; rfl
 | k + 1, v, h=>by
  rw [Nat.pow_succ] at h
  simp only [adw,val]
  rw [afk k _ (by omega)]
  omega
theorem arp:∀ (l:List Nat), Ws l -> l = adw l.length (val l)
 | [],_=>rfl
 | x :: l, h=>by
  have hx:=h x (by simp)
  have ih:=arp l (fun y hy=>h y (by simp [hy]))
  simp only [length_cons,adw,val]
  rw [show (x + 4294967296 * val l) % 4294967296 = x by omega,show (x + 4294967296 * val l) / 4294967296 = val l by omega,<- ih]
theorem atm {l:List Nat} {k v:Nat} (h:Ws l) (hk:l.length = k) (hv:val l = v):l = adw k v:=by
 subst hk; subst hv; exact arp l h
theorem aul {l:List Nat} (h:Ws l) (i:Nat) (hi:i <= l.length):val l / 4294967296 ^ i = val (l.drop i):=by
 rw [ai5 l i,Nat.min_eq_left hi]
 have h1:=abk (l.take i) (ac8 h i)
 rw [length_take,Nat.min_eq_left hi] at h1
 rw [Nat.add_mul_div_left _ _ (by omega),Nat.div_eq_of_lt h1,Nat.zero_add]
theorem amj {n k:Nat} (h:n <= k):2 ^ k = 2 ^ (k - n) * 2 ^ n:=by rw [<- pow_add]; congr 1; omega
theorem brd {x w n:Nat} (hn:n < 32) (hw:w < 2 ^ n):w ||| x * 2 ^ n % 4294967296 = w + x * 2 ^ n % 4294967296:=by
 have h1:x * 2 ^ n % 4294967296 = (x % 2 ^ (32 - n)) * 2 ^ n:=by
  rw [show 4294967296 = 2 ^ 32 from rfl,amj (show n <= 32 by omega),Nat.mul_mod_mul_right]
 rw [h1]; exact ayx hw
theorem brf {x n:Nat} (hx:x < 4294967296):x * 2 ^ n / 4294967296 < 2 ^ n:=by
 rw [Nat.div_lt_iff_lt_mul (by omega),Nat.mul_comm]
 exact Nat.mul_lt_mul_of_pos_left hx (Nat.pow_pos (by omega))
theorem afb {n k:Nat} (h:n <= k):2 ^ n <= 2 ^ k:=Nat.pow_le_pow_right (by omega) h
theorem biw {x w n:Nat} (hn:n < 32) (hw:w < 2 ^ n):w + x * 2 ^ n % 4294967296 < 4294967296:=by
 have h1:x * 2 ^ n % 4294967296 = (x % 2 ^ (32 - n)) * 2 ^ n:=by
  rw [show 4294967296 = 2 ^ 32 from rfl,amj (show n <= 32 by omega),Nat.mul_mod_mul_right]
 have h2:x % 2 ^ (32 - n) + 1 <= 2 ^ (32 - n):=Nat.mod_lt _ (Nat.pow_pos (by omega))
 have h3:=mul_le_mul_right (2 ^ n) h2
 rw [<- amj (show n <= 32 by omega),Nat.add_mul] at h3
 omega
theorem bkc {a out:List Nat} {i n:Nat} (hi:i + 1 < out.length) (h:val (out.take (i + 1)) = 2 ^ n * val (a.take i)) :
  val (((out.set i (aab out i + aab a i * 2 ^ n % 4294967296)).set (i + 1) (aab a i * 2 ^ n / 4294967296)).take (i + 1 + 1)) = 2 ^ n * val (a.take (i + 1)):=by
 rw [ab6 (by simpa using hi),ab6 (by omega),aag (l:=a)]
 rw [aag] at h
 have:=Nat.div_add_mod (aab a i * 2 ^ n) 4294967296
 generalize aab a i * 2 ^ n % 4294967296 = r at *
 generalize aab a i * 2 ^ n / 4294967296 = q at *
 rw [Nat.pow_succ]
 grind
theorem a9o {a:List Nat} {i n:Nat} (h:Ws a) (hi:i < a.length) (hn:n <= 32) :
  (aab a i + aab a (i + 1) * 2 ^ 32) / 2 ^ n % 4294967296 = (val a / 2 ^ n / 4294967296 ^ i) % 4294967296:=by
 rw [Nat.div_div_eq_div_mul,Nat.mul_comm (2 ^ n),<- Nat.div_div_eq_div_mul,aul h i (by omega),aj7 hi]
 have h1:val (a.drop (i + 1)) = aab a (i + 1) + 4294967296 * val (a.drop (i + 2)):=by
  rcases lt_or_ge (i + 1) a.length with h | h
  ·exact aj7 h
  ·rw [ajw h,drop_eq_nil_of_le (by omega),drop_eq_nil_of_le (by omega)]; rfl
 rw [h1]
 generalize val (a.drop (i + 2)) = R
 have h2:aab a i + 4294967296 * (aab a (i + 1) + 4294967296 * R) = (aab a i + aab a (i + 1) * 2 ^ 32) + 2 ^ n * (2 ^ (32 - n) * R * 4294967296):=by
  have h3:=amj hn
  rw [show (2:Nat) ^ n * (2 ^ (32 - n) * R * 4294967296) = (2 ^ (32 - n) * 2 ^ n) * R * 4294967296 by grind,<- h3]
  omega
 rw [h2,Nat.add_mul_div_left _ _ (Nat.pow_pos (by omega)),Nat.add_mul_mod_self_right]
theorem axc {a out:List Nat} {i n:Nat} (h:Ws a) (hi:i < a.length) (ho:i < out.length) (hn:n <= 32) (hv:val (out.take i) = val a / 2 ^ n % 4294967296 ^ i) :
  val ((out.set i ((aab a i + aab a (i + 1) * 2 ^ 32) / 2 ^ n % 4294967296)).take (i + 1)) = val a / 2 ^ n % 4294967296 ^ (i + 1):=by
 rw [ab6 ho,a9o h hi hn,Nat.pow_succ,Nat.mod_mul,hv]
theorem bbx {a out:List Nat} {n:Nat} (h:Ws a) (ho:out.length = a.length) (hv:val (out.take a.length) = val a / 2 ^ n % 4294967296 ^ a.length):val out = val a / 2 ^ n:=by
 rw [aav (by omega)] at hv
 rw [hv,Nat.mod_eq_of_lt]
 exact lt_of_le_of_lt (Nat.div_le_self _ _) (abk a h)
theorem a4v {a o:List Nat} {i r w:Nat} (hi:i < a.length) (ho:i < o.length) (h:val (a.drop (i + 1)) = w * val (o.drop (i + 1)) + r) :
  val (a.drop i) = w * val ((o.set i ((r * 2 ^ 32 + aab a i) / w)).drop i) + (r * 2 ^ 32 + aab a i) % w:=by
 rw [an9 ho,aj7 hi,h]
 have:=Nat.div_add_mod (r * 2 ^ 32 + aab a i) w
 generalize (r * 2 ^ 32 + aab a i) % w = r' at *
 generalize (r * 2 ^ 32 + aab a i) / w = q at *
 grind
theorem bds {r w x:Nat} (hr:r < w) (hx:x < 4294967296):(r * 2 ^ 32 + x) / w < 4294967296:=by
 rw [Nat.div_lt_iff_lt_mul (by omega)]
 have:=mul_le_mul_left 4294967296 (show r + 1 <= w from hr)
 omega
theorem aka {a q w r:Nat} (h:a = w * q + r) (hr:r < w):a / w = q /\ a % w = r:=by
 subst h
 rw [Nat.mul_add_div (by omega),Nat.mul_add_mod,Nat.div_eq_of_lt hr,Nat.mod_eq_of_lt hr]
 simp
theorem a6z {l:List Nat} {i x:Nat} (h:i < l.length):aab (l.set i x) i = x:=by simp [aab,h]
end Go.Lw
namespace Go.Lw
theorem Fin.own2 {s:AS} {k:Nat} {y z:Blk} {x r:AV} (h:lk s.hp k = some y) (hz:y = z) (hx:x = r):Fin s x r [(k, some z)]:=by
 subst hz; subst hx
 refine Fin.keep ?_
 intro k' z' h'
 rw [aac] at h'
 split at h'
 ·rename_i e; cases h'; rw [e]; exact h
 ·cases h'
def win (u:List Nat) (j n:Nat):List Nat:=(u.drop j).take n
def wr (u:List Nat) (j:Nat) (l:List Nat):List Nat:=u.take j ++ l ++ u.drop (j + l.length)
theorem bio {u o:List Nat} {j n:Nat} (h1:o.take j = u.take j) (h2:o.drop (j + n) = u.drop (j + n)) (hn:j + n <= o.length):o = wr u j (win o j n):=by
 have hl:(win o j n).length = n:=by simp [win]; omega
 unfold wr
 rw [hl,<- h1,<- h2]
 conv=>lhs; rw [<- List.take_append_drop j o]
 rw [append_assoc]
 congr 1
 unfold win
 conv=>lhs; rw [<- List.take_append_drop n (o.drop j)]
 rw [drop_drop]
theorem amb {u l:List Nat} {j:Nat} (h:j + l.length <= u.length):(wr u j l).length = u.length:=by simp [wr]; omega
theorem a0l {a b:List Nat} (ha:Ws a) (hb:Ws b):Ws (a ++ b):=fun x hx=>(List.mem_append.1 hx).elim (ha x) (hb x)
theorem a6d {l:List Nat} (h:Ws l) (n:Nat):Ws (l.drop n):=fun x hx=>h x (List.mem_of_mem_drop hx)
theorem aog {l:List Nat} (h:Ws l) (i n:Nat):Ws (win l i n):=ac8 (a6d h i) n
theorem a4u {u l:List Nat} {j:Nat} (hu:Ws u) (hl:Ws l):Ws (wr u j l):=a0l (a0l (ac8 hu _) hl) (a6d hu _)
theorem alb {u:List Nat} {j n:Nat} (h:j + n <= u.length):(win u j n).length = n:=by simp [win]; omega
theorem a0a {u l:List Nat} {j:Nat} (h:j + l.length <= u.length):val ((wr u j l).drop j) = val l + 4294967296 ^ l.length * val (u.drop (j + l.length)):=by
 unfold wr
 rw [append_assoc,List.drop_append_of_le_length (by simp; omega),drop_eq_nil_of_le (by simp; omega),nil_append,agc]
theorem aob {u:List Nat} {j n:Nat} (h:j + n <= u.length):val (u.drop j) = val (win u j n) + 4294967296 ^ n * val (u.drop (j + n)):=by
 rw [ai5 (u.drop j) n,drop_drop,Nat.min_eq_left (by simp; omega)]; rfl
theorem aig {u:List Nat} {j:Nat} (h:j <= u.length):val u = val (u.take j) + 4294967296 ^ j * val (u.drop j):=by
 rw [ai5 u j,Nat.min_eq_left h]
theorem a8d {u l:List Nat} {j:Nat} (h:j <= u.length):(wr u j l).take j = u.take j:=by
 unfold wr
 rw [append_assoc,List.take_append_of_le_length (by simp; omega),take_of_length_le (by simp; omega)]
theorem bjm {u l:List Nat} {j:Nat} (h:j <= u.length):(wr u j l).drop (j + l.length) = u.drop (j + l.length):=by
 unfold wr
 rw [List.drop_append,drop_eq_nil_of_le (by simp; omega)]
 simp [Nat.min_eq_left h]
theorem aj1 {l:List Nat} {j i:Nat}:aab (l.drop j) i = aab l (j + i):=by simp [aab]
theorem aep {u o:List Nat} {k:Nat} (h:o.drop k = u.drop k):aab o k = aab u k:=by
 have h1:=aj1 (l:=o) (j:=k) (i:=0)
 have h2:=aj1 (l:=u) (j:=k) (i:=0)
 rw [h] at h1
 simpa using h1.symm.trans h2
theorem aez {u o:List Nat} {k x:Nat} (h:o.drop k = u.drop k):(o.set k x).drop (k + 1) = u.drop (k + 1):=by
 rw [List.drop_set_of_lt (by omega)]
 have h1:(o.drop k).drop 1 = (u.drop k).drop 1:=by rw [h]
 rwa [drop_drop,drop_drop] at h1
theorem aqe {o:List Nat} {j i x:Nat} (h:j + i < o.length):val (win (o.set (j + i) x) j (i + 1)) = val (win o j i) + 4294967296 ^ i * x:=by
 unfold win
 rw [List.drop_set,if_neg (by omega),Nat.add_sub_cancel_left,ab6 (by simp; omega)]
theorem aoi {u:List Nat} {j i:Nat}:val (win u j (i + 1)) = val (win u j i) + 4294967296 ^ i * aab u (j + i):=by
 unfold win
 rw [aag,aj1]
theorem a3t {lo c P n V w:Nat} (h:lo + c * P = n * V):(lo + P * ((c + n * w) % 4294967296)) + ((c + n * w) / 4294967296) * (P * 4294967296) = n * (V + P * w):=by
 have:=Nat.div_add_mod (c + n * w) 4294967296
 generalize (c + n * w) % 4294967296 = r at *
 generalize (c + n * w) / 4294967296 = q at *
 grind
def a5a (n V W len:Nat):Nat:=if n * V <= W then W - n * V else W + 4294967296 ^ len - n * V
theorem a3e {u o v:List Nat} {off len n c b lo:Nat} (hu:Ws u) (ho:Ws o) (hl:o.length = u.length) (hj:off + len <= u.length) (hv:Ws v) (hvl:v.length + 1 <= len) (hn:n < 4294967296)
  (h1:o.take off = u.take off) (h2:o.drop (off + len) = u.drop (off + len)) (hb:b <= 1) (h3:lo + c * 4294967296 ^ len = n * val (v.take len))
  (h4:val (win o off len) + lo = val (win u off len) + b * 4294967296 ^ len) :
  o = wr u off (adw len (a5a n (val v) (val (win u off len)) len)) /\ (b = 1 ↔ val (win u off len) < n * val v):=by
 rw [aav (by omega)] at h3
 have hV:n * val v < 4294967296 ^ len:=by
  have h5:=abk v hv
  have h6:4294967296 ^ (v.length + 1) <= 4294967296 ^ len:=Nat.pow_le_pow_right (by omega) hvl
  rw [Nat.pow_succ,Nat.mul_comm] at h6
  exact lt_of_lt_of_le (Nat.mul_lt_mul'' hn h5) h6
 have hc:c = 0:=by
  cases c with
  | zero=>rfl
  | succ c=>rw [Nat.succ_mul] at h3; omega
 subst hc
 rw [Nat.zero_mul,Nat.add_zero] at h3
 subst h3
 have ho':=abk (win o off len) (aog ho _ _)
 have hu':=abk (win u off len) (aog hu _ _)
 rw [alb (by omega)] at ho' hu'
 have hb':b = 0 \/ b = 1:=by omega
 refine ⟨?_,?_⟩
 ·have h7:win o off len = adw len (a5a n (val v) (val (win u off len)) len):=by
   refine atm (aog ho _ _) (alb (by omega)) ?_
   unfold a5a
   rcases hb' with rfl | rfl
   ·rw [if_pos (by omega)]; omega
   ·rw [if_neg (by omega)]; omega
  rw [<- h7]
  exact bio h1 h2 (by omega)
 ·rcases hb' with rfl | rfl <;> omega
theorem bep {u o v:List Nat} {off len c:Nat} (ho:Ws o) (hl:o.length = u.length) (hj:off + len <= u.length) (hvl:v.length <= len)
  (h1:o.take off = u.take off) (h2:o.drop (off + len) = u.drop (off + len)) 
  (h4:val (win o off len) + c * 4294967296 ^ len = val (win u off len) + val (v.take len)) :
  o = wr u off (adw len ((val (win u off len) + val v) % 4294967296 ^ len)):=by
 rw [aav (by omega)] at h4
 have ho':=abk (win o off len) (aog ho _ _)
 rw [alb (by omega)] at ho'
 have h7:win o off len = adw len ((val (win u off len) + val v) % 4294967296 ^ len):=by
  refine atm (aog ho _ _) (alb (by omega)) ?_
  rw [<- h4,Nat.add_mul_mod_self_right,Nat.mod_eq_of_lt ho']
 rw [<- h7]
 exact bio h1 h2 (by omega)
end Go.Lw
namespace Go.Lw
def acy (x:Nat):Nat:=if x = 0 then 0 else x.log2 + 1
theorem anm {x:Nat} (h:x < 256):IntKind.u8.wrap (x:Int) = (x:Int):=by
 simp only [IntKind.wrap,IntKind.signed,IntKind.bits,Bool.false_and,if_false,Bool.false_eq_true]
 omega
theorem ato {x:Nat}:x < 2 ^ acy x:=by
 unfold acy
 split
 ·next h=>subst h; decide
 ·exact Nat.lt_log2_self
theorem atx {x:Nat} (h:x ≠ 0):2 ^ (acy x - 1) <= x:=by
 unfold acy
 rw [if_neg h,Nat.add_sub_cancel]
 exact Nat.log2_self_le h
theorem bim {x k:Nat} (h1:2 ^ k <= x) (h2:x < 2 ^ (k + 1)):acy x = k + 1:=by
 have hx:x ≠ 0:=by intro h; subst h; have:=Nat.pow_pos (n:=k) (show 0 < 2 by omega); omega
 unfold acy
 rw [if_neg hx,(Nat.log2_eq_iff hx).2 ⟨h1,h2⟩]
theorem amq {x k:Nat} (h:2 ^ k <= x):acy x = k + acy (x / 2 ^ k):=by
 have h0:x / 2 ^ k ≠ 0:=by
  have:=Nat.div_pos h (Nat.pow_pos (by omega)); omega
 have h1:=atx h0
 have h2:=ato (x:=x / 2 ^ k)
 have h3:1 <= acy (x / 2 ^ k):=by unfold acy; rw [if_neg h0]; omega
 generalize acy (x / 2 ^ k) = m at *
 obtain ⟨n,rfl⟩:∃ n,m = n + 1:=⟨m - 1,by omega⟩
 rw [Nat.add_sub_cancel] at h1
 rw [Nat.le_div_iff_mul_le (Nat.pow_pos (by omega)),<- pow_add] at h1
 rw [Nat.div_lt_iff_lt_mul (Nat.pow_pos (by omega)),<- pow_add] at h2
 rw [show k + (n + 1) = (n + k) + 1 by omega]
 exact bim h1 (by rw [show n + k + 1 = n + 1 + k by omega]; exact h2)
theorem azq {x:Nat} (h:x ≠ 0) (hx:x < 4294967296):acy x <= 32 /\ 1 <= acy x /\ 2147483648 <= 2 ^ (32 - acy x) * x /\ 2 ^ (32 - acy x) * x < 4294967296:=by
 have h1:=atx h
 have h2:=ato (x:=x)
 have h3:1 <= acy x:=by unfold acy; rw [if_neg h]; omega
 have h4:acy x <= 32:=by
  rcases lt_or_ge 32 (acy x) with h5 | h5
  ·have : 2 ^ 32 <= 2 ^ (acy x - 1) := afb (by omega)
   omega
  ·exact h5
 refine ⟨h4,h3,?_,?_⟩
 ·have:=mul_le_mul_left (2 ^ (32 - acy x)) h1
  rw [<- pow_add,show 32 - acy x + (acy x - 1) = 31 by omega] at this
  omega
 ·have := (Nat.mul_lt_mul_left (a := 2 ^ (32 - acy x)) (Nat.pow_pos (by omega))).2 h2
  rw [<- pow_add,show 32 - acy x + acy x = 32 by omega] at this
  omega
def bob (b:ByteArray):Bool:=Nat.beq b.data.toList.length 256 && (List.range 256).all fun y=>Nat.beq (b.data.toList.getD y 0).toNat (acy y)
theorem alp {P:Program} {N:Nat} {R:Array Oper} {s:AS} {d:Nat} {x ix:Operand} {kk:IntKind} {i:Int} {y:Nat} {b:ByteArray} {T t:TypeId} {ti:TI} {pos:String} {after:Array Edge}
  (hx:Ev s x (.v (.string b))) (hi:Ev s ix (.v (.int kk i))) (hT:aah P T = some ti) (hk:ti.k = .string)
  (hb:bob b = true) (h0:i = (y:Int)) (hy:y < 256) (hN:Nat.blt d N = true) :
  Step P N R s ⟨some d,.index T x ix,t,pos,after,none⟩ ⟨some (.v (.int .u8 (acy y))),[],aal x ++ aal ix,[]⟩:=by
 subst h0
 simp only [bob,and_eq_true,all_eq_true,List.mem_range] at hb
 have hs:b.size = 256:=by have:=eq_of_beq_eq_true hb.1; rw [Array.length_toList] at this; exact this
 have h1:=eq_of_beq_eq_true (hb.2 y hy)
 have:=amh (R:=R) (N:=N) (t:=t) (pos:=pos) (after:=after) hx hi hT hk (by omega) (by omega) hN
 rw [toNat_natCast] at this
 rw [getD_eq_getElem?_getD,Array.getElem?_toList,<- getD_eq_getD_getElem?] at h1
 rwa [h1] at this
theorem ade {x:Nat} (h:x < 256):acy x <= 8:=by
 rcases lt_or_ge 8 (acy x) with h5 | h5
 ·have h0 : x ≠ 0 := by intro h0; subst h0; simp [acy] at h5
  have h1:=atx h0
  have:2 ^ 8 <= 2 ^ (acy x - 1):=afb (by omega)
  omega
 ·exact h5
end Go.Lw
namespace Go.Lw
structure Dig (V W P V' W' top next third head:Nat):Prop where
  hV:V = V' + P * (next + 4294967296 * top)
  hW:W = W' + P * (third + 4294967296 * head)
  hV':V' < P
  hW':W' < P
  hnext:next < 4294967296
  hthird:third < 4294967296
  htop:2147483648 <= top
  htopB:top < 4294967296
  hlt:W < V * 4294967296
namespace Dig
variable {V W P V' W' top next third head:Nat}
theorem vpos (h:Dig V W P V' W' top next third head):0 < V:=by
 have:=h.hlt; omega
theorem q_lt (h:Dig V W P V' W' top next third head):W / V < 4294967296:=by
 rw [Nat.div_lt_iff_lt_mul h.vpos,Nat.mul_comm]; exact h.hlt
theorem mul_le (h:Dig V W P V' W' top next third head) {q:Nat} (hq:q * V <= W):q * (next + 4294967296 * top) <= third + 4294967296 * head:=by
 have h1:q * (P * (next + 4294967296 * top)) <= q * V:=mul_le_mul_left _ (by have:=h.hV; omega)
 have h2:=h.hW
 have h3:=h.hW'
 have h4:P * (q * (next + 4294967296 * top)) < P * (third + 4294967296 * head + 1):=by
  rw [Nat.mul_add P _ 1,Nat.mul_one]
  have:P * (q * (next + 4294967296 * top)) = q * (P * (next + 4294967296 * top)):=by grind
  omega
 have:=Nat.lt_of_mul_lt_mul_left h4
 omega
theorem up (h:Dig V W P V' W' top next third head) {q:Nat} (hq:q * V <= W):q * top <= head:=by
 have h1:=h.mul_le hq
 have h2:=h.hthird
 rw [Nat.mul_add,show q * (4294967296 * top) = 4294967296 * (q * top) by grind] at h1
 omega
theorem first (h:Dig V W P V' W' top next third head):W / V <= head / top:=by
 have:=h.htop
 rw [Nat.le_div_iff_mul_le (by omega)]
 exact h.up (Nat.div_mul_le_self W V)
theorem head_le (h:Dig V W P V' W' top next third head):head <= 4294967296 * top + next:=by
 have h1:=h.hlt
 have h2:=h.hV
 have h3:=h.hW
 have h4:=h.hV'
 have h5:P * (third + 4294967296 * head) < P * (4294967296 * (next + 4294967296 * top + 1)):=by
  have:V * 4294967296 < P * (4294967296 * (next + 4294967296 * top + 1)):=by
   rw [h2,Nat.add_mul,show P * (next + 4294967296 * top) * 4294967296 = P * (4294967296 * (next + 4294967296 * top)) by grind,Nat.mul_add 4294967296 _ 1,Nat.mul_add P]
   omega
  omega
 have:=Nat.lt_of_mul_lt_mul_left h5
 omega
theorem step (h:Dig V W P V' W' top next third head) {g r:Nat} (hg:W / V <= g) (he:g * top + r = head) (hc:4294967296 <= g \/ r * 4294967296 + third < g * next):W / V < g:=by
 rcases hc with hc | hc
 ·have:=h.q_lt; omega
 ·refine Nat.lt_of_le_of_ne hg ?_
  intro hq
  have h1:=h.mul_le (Nat.div_mul_le_self W V)
  rw [hq,<- he,Nat.mul_add,Nat.mul_add,show g * (4294967296 * top) = 4294967296 * (g * top) by grind] at h1
  omega
theorem last (h:Dig V W P V' W' top next third head) {g r:Nat} (he:g * top + r = head) (hc:¬ (r < 4294967296 /\ (4294967296 <= g \/ r * 4294967296 + third < g * next))) :
  g < 4294967296 /\ g <= W / V + 1:=by
 have hh:=h.head_le
 have hn:=h.hnext
 have htop:=h.htop
 have hg:g < 4294967296 /\ g * next <= r * 4294967296 + third:=by
  rcases lt_or_ge r 4294967296 with hr | hr
  ·have h1:¬ (4294967296 <= g \/ r * 4294967296 + third < g * next):=fun h'=>hc ⟨hr, h'⟩
   omega
  ·have h1:g < 4294967296:=by
    rcases lt_or_ge g 4294967296 with h2 | h2
    ·exact h2
    ·have:=mul_le_mul_right top h2
     omega
   refine ⟨h1,?_⟩
   have h2:g * next <= 4294967296 * 4294967296:=Nat.mul_le_mul (by omega) (by omega)
   have h3:4294967296 * 4294967296 <= r * 4294967296:=mul_le_mul_right _ hr
   omega
 refine ⟨hg.1,?_⟩
 have h1:g * (next + 4294967296 * top) <= third + 4294967296 * head:=by
  rw [<- he,Nat.mul_add,Nat.mul_add,show g * (4294967296 * top) = 4294967296 * (g * top) by grind]
  omega
 have h2:g * V <= W + V:=by
  have h3:g * V' <= 4294967296 * P:=Nat.mul_le_mul (by omega) (by have:=h.hV'; omega)
  have h4:P * (g * (next + 4294967296 * top)) <= P * (third + 4294967296 * head):=mul_le_mul_left _ h1
  have h5:P * 4294967296 <= P * (next + 4294967296 * top):=mul_le_mul_left _ (by omega)
  have h6:=h.hV
  have h7:=h.hW
  have h8:g * V = g * V' + P * (g * (next + 4294967296 * top)):=by rw [h6]; grind
  omega
 have h9:(g - 1) * V <= W:=by rw [Nat.sub_mul]; omega
 have:=(Nat.le_div_iff_mul_le h.vpos).2 h9
 omega
end Dig
theorem bas {l:List Nat} {n:Nat}:val (l.take (n + 2)) = val (l.take n) + 4294967296 ^ n * (aab l n + 4294967296 * aab l (n + 1)):=by
 rw [aag,aag,Nat.pow_succ]; grind
theorem a6n {l:List Nat} {n:Nat}:val (l.take (n + 3)) = val (l.take n) + 4294967296 ^ n * (aab l n + 4294967296 * (aab l (n + 2) * 4294967296 + aab l (n + 1))):=by
 rw [aag,bas,pow_add]; grind
theorem aej {l:List Nat} (h:Ws l) (n:Nat):val (l.take n) < 4294967296 ^ n:=by
 have h1:=abk (l.take n) (ac8 h n)
 exact lt_of_lt_of_le h1 (Nat.pow_le_pow_right (by omega) (by simp; omega))
theorem bo0 {v p:List Nat} {n:Nat} (hv:Ws v) (hp:Ws p) (hl:v.length = n + 2) (hpl:p.length = n + 3) (ht:2147483648 <= aab v (n + 1)) (h:val p < val v * 4294967296) :
  Dig (val v) (val p) (4294967296 ^ n) (val (v.take n)) (val (p.take n)) (aab v (n + 1)) (aab v n) (aab p n) (aab p (n + 2) * 4294967296 + aab p (n + 1)) where
 hV:=by rw [<- bas,aav (by omega)]
 hW:=by rw [<- a6n,aav (by omega)]
 hV':=aej hv n
 hW':=aej hp n
 hnext:=aam hv n
 hthird:=aam hp n
 htop:=ht
 htopB:=aam hv (n + 1)
 hlt:=h
theorem bmt {u l:List Nat} {j:Nat} (h:j <= u.length):win (wr u j l) j l.length = l:=by
 unfold win wr
 rw [append_assoc,List.drop_append,drop_eq_nil_of_le (by simp; omega)]
 simp [Nat.min_eq_left h]
theorem bq4 {u l l':List Nat} {j:Nat} (h:j <= u.length) (hl:l.length = l'.length):wr (wr u j l) j l' = wr u j l':=by
 have h1:=a8d (l:=l) h
 have h2:=bjm (l:=l) h
 rw [hl] at h2
 rw [wr,h1,h2,<- wr]
theorem ben {W V g len:Nat} (hV:0 < V) (hVl:V <= 4294967296 ^ len) (hW:W < 4294967296 ^ len) (h1:W / V <= g) (h2:g <= W / V + 1) :
  (W < g * V -> (a5a g V W len + V) % 4294967296 ^ len = W % V /\ g - 1 = W / V /\ 1 <= g) /\ (¬ W < g * V -> a5a g V W len = W % V /\ g = W / V):=by
 have h3:=Nat.div_add_mod W V
 have h4:=Nat.mod_lt W hV
 generalize W / V = q at *
 generalize W % V = r at *
 have h5:V * q = q * V:=Nat.mul_comm _ _
 refine ⟨fun h=>?_,fun h=>?_⟩
 ·have hg:g = q + 1:=by
   rcases lt_or_ge q g with h6 | h6
   ·omega
   ·have : g = q := by omega
    subst this; omega
  subst hg
  rw [Nat.succ_mul] at h
  refine ⟨?_,by omega,by omega⟩
  unfold a5a
  rw [Nat.succ_mul,if_neg (by omega),show W + 4294967296 ^ len - (q * V + V) + V = r + 4294967296 ^ len by omega,Nat.add_mod_right,Nat.mod_eq_of_lt (by omega)]
 ·have hg:g = q:=by
   rcases lt_or_ge q g with h6 | h6
   ·have : g = q + 1 := by omega
    subst this; rw [Nat.succ_mul] at h; omega
   ·omega
  subst hg
  refine ⟨?_,rfl⟩
  unfold a5a
  rw [if_pos (by omega)]; omega
theorem beb {u q:List Nat} {k lv V U:Nat} (hu:Ws u) (hk:k + lv + 1 <= u.length) (hq:k < q.length) (hV:V < 4294967296 ^ lv) (h1:val (u.drop (k + 1)) < V) (h2:U = V * (4294967296 ^ (k + 1) * val (q.drop (k + 1))) + val u) :
  val (win u k (lv + 1)) < V * 4294967296 /\ val ((wr u k (adw (lv + 1) (val (win u k (lv + 1)) % V))).drop k) < V /\
  U = V * (4294967296 ^ k * val ((q.set k (val (win u k (lv + 1)) / V)).drop k)) + val (wr u k (adw (lv + 1) (val (win u k (lv + 1)) % V))):=by
 have h0:val (u.drop (k + (lv + 1))) = 0:=by
  have h3:=aob (u:=u) (j:=k + 1) (n:=lv) (by omega)
  rw [show k + 1 + lv = k + (lv + 1) by omega] at h3
  rcases Nat.eq_zero_or_pos (val (u.drop (k + (lv + 1)))) with h4 | h4
  ·exact h4
  ·have:=mul_le_mul_left (4294967296 ^ lv) h4
   omega
 have hd:=aob (u:=u) (j:=k) (n:=lv + 1) (by omega)
 rw [h0,Nat.mul_zero,Nat.add_zero] at hd
 have hw:=aam hu k
 have hd2:=aj7 (l:=u) (i:=k) (by omega)
 have hW:val (win u k (lv + 1)) < V * 4294967296:=by rw [<- hd,hd2]; omega
 have hVp:0 < V:=by omega
 have hr:=Nat.mod_lt (val (win u k (lv + 1))) hVp
 have hm:=Nat.div_add_mod (val (win u k (lv + 1))) V
 have hlen:(adw (lv + 1) (val (win u k (lv + 1)) % V)).length = lv + 1:=abv _ _
 have hx:val (win u k (lv + 1)) % V < 4294967296 ^ (lv + 1):=by rw [Nat.pow_succ]; omega
 have hwd:val ((wr u k (adw (lv + 1) (val (win u k (lv + 1)) % V))).drop k) = val (win u k (lv + 1)) % V:=by
  rw [a0a (by omega),hlen,h0,afk _ _ hx]; omega
 refine ⟨hW,by omega,?_⟩
 rw [aig (u:=wr u k _) (j:=k) (by rw [amb (by omega)]; omega),a8d (by omega),hwd,an9 hq,h2,aig (u:=u) (j:=k) (by omega),hd]
 generalize val (win u k (lv + 1)) % V = r at *
 generalize val (win u k (lv + 1)) / V = d at *
 rw [<- hm,Nat.pow_succ]
 grind
theorem bha {A Bv n Q R:Nat} (h:2 ^ n * A = 2 ^ n * Bv * Q + R) (hR:R < 2 ^ n * Bv):Q = A / Bv /\ R / 2 ^ n = A % Bv:=by
 obtain ⟨h1,h2⟩:=aka h hR
 rw [Nat.mul_div_mul_left _ _ (Nat.pow_pos (by omega))] at h1
 rw [Nat.mul_mod_mul_left] at h2
 rw [<- h1,<- h2,Nat.mul_div_cancel_left _ (Nat.pow_pos (by omega))]
 exact ⟨rfl,rfl⟩
end Go.Lw
namespace Go.Lw
theorem axi:∀ k v, (adw (k + 1) v).take k = adw k v
 | 0,_=>by simp [adw]
 | k + 1, v=>by
  rw [adw,List.take_succ_cons,axi k]
  rfl
theorem bax {u:List Nat} {j n i:Nat} (h:i < n):aab (win u j n) i = aab u (j + i):=by
 rw [<- aj1]
 simp [win,aab,h]
theorem ba0 {u:List Nat} {j n i:Nat} (h:i < n) (h2:j + n <= u.length):(u.map u32)[j + i]? = some (u32 (aab (win u j n) i)):=by
 rw [bax h]; exact aho (by omega)
theorem bmu {b:List Nat} {n:Nat} (hb:Ws b) (nb:Nz b) (hl:b.length = n + 2) :
  ∃ sh v, sh = 32 - acy (aab b (n + 1)) /\ sh < 32 /\ v = adw (n + 2) (2 ^ sh * val b) /\ Ws v /\ v.length = n + 2 /\ val v = 2 ^ sh * val b /\ 2147483648 <= aab v (n + 1) /\ aab b (n + 1) ≠ 0 /\
   4294967296 ^ (n + 1) <= val b:=by
 have ht:aab b (n + 1) ≠ 0:=by
  refine nb _ ?_
  rw [List.getLast?_eq_getElem?,hl]
  exact ad0 (by omega)
 have htB:=aam hb (n + 1)
 obtain ⟨h1,h2,h3,h4⟩:=azq ht htB
 have h5:=ato (x:=aab b (n + 1))
 have hv:val b = val (b.take (n + 1)) + 4294967296 ^ (n + 1) * aab b (n + 1):=by
  rw [<- aag,aav (by omega)]
 have hlt:=aej hb (n + 1)
 have hmul:2 ^ (32 - acy (aab b (n + 1))) * (aab b (n + 1) + 1) <= 4294967296:=by
  have:=mul_le_mul_left (2 ^ (32 - acy (aab b (n + 1)))) (show aab b (n + 1) + 1 <= 2 ^ acy (aab b (n + 1)) from h5)
  rw [<- pow_add,show 32 - acy (aab b (n + 1)) + acy (aab b (n + 1)) = 32 by omega] at this
  exact this
 have hlo:4294967296 ^ (n + 1) <= val b:=by
  have:=mul_le_mul_left (4294967296 ^ (n + 1)) (show 1 <= aab b (n + 1) by omega)
  omega
 generalize hsh:32 - acy (aab b (n + 1)) = sh at *
 have hX:2 ^ sh * val b < 4294967296 ^ (n + 2):=by
  have e1:val b < 4294967296 ^ (n + 1) * (aab b (n + 1) + 1):=by rw [Nat.mul_add]; omega
  have e2:2 ^ sh * val b < 2 ^ sh * (4294967296 ^ (n + 1) * (aab b (n + 1) + 1)):=(Nat.mul_lt_mul_left (Nat.pow_pos (by omega))).2 e1
  have e3:2 ^ sh * (4294967296 ^ (n + 1) * (aab b (n + 1) + 1)) = 4294967296 ^ (n + 1) * (2 ^ sh * (aab b (n + 1) + 1)):=by grind
  have e4:=mul_le_mul_left (4294967296 ^ (n + 1)) hmul
  rw [<- Nat.pow_succ] at e4
  rw [e3] at e2
  exact lt_of_lt_of_le e2 e4
 refine ⟨sh,_,rfl,by omega,rfl,af2 _ _,abv _ _,afk _ _ hX,?_,ht,hlo⟩
 have hv2:val (adw (n + 2) (2 ^ sh * val b)) = val ((adw (n + 2) (2 ^ sh * val b)).take (n + 1)) + 4294967296 ^ (n + 1) * aab (adw (n + 2) (2 ^ sh * val b)) (n + 1):=by
  rw [<- aag,aav (by rw [abv]; omega)]
 rw [afk _ _ hX] at hv2
 have hlt2:=aej (af2 (n + 2) (2 ^ sh * val b)) (n + 1)
 have e5:4294967296 ^ (n + 1) * (2 ^ sh * aab b (n + 1)) <= 2 ^ sh * val b:=by
  have:=mul_le_mul_left (2 ^ sh) (show 4294967296 ^ (n + 1) * aab b (n + 1) <= val b by omega)
  have e6:2 ^ sh * (4294967296 ^ (n + 1) * aab b (n + 1)) = 4294967296 ^ (n + 1) * (2 ^ sh * aab b (n + 1)):=by grind
  omega
 have e7:4294967296 ^ (n + 1) * (2 ^ sh * aab b (n + 1)) < 4294967296 ^ (n + 1) * (aab (adw (n + 2) (2 ^ sh * val b)) (n + 1) + 1):=by rw [Nat.mul_add (4294967296 ^ (n + 1)) _ 1]; omega
 have:=Nat.lt_of_mul_lt_mul_left e7
 omega
theorem bfl {a:List Nat} {sh lq n Bv:Nat} (ha:Ws a) (hsh:sh < 32) (hl:a.length + 1 = lq + (n + 2)) (hB:4294967296 ^ (n + 1) <= Bv) :
  val (adw (a.length + 1) (2 ^ sh * val a)) = 2 ^ sh * val a /\ val ((adw (a.length + 1) (2 ^ sh * val a)).drop lq) < 2 ^ sh * Bv:=by
 have h1:=abk a ha
 have h2:2 ^ sh <= 2 ^ 31:=afb (by omega)
 have hp:0 < 2 ^ sh:=Nat.pow_pos (by omega)
 have h3:2 ^ sh * val a < 2 ^ sh * 4294967296 ^ a.length:=(Nat.mul_lt_mul_left hp).2 h1
 have hX:2 ^ sh * val a < 4294967296 ^ (a.length + 1):=by
  have:=mul_le_mul_right (4294967296 ^ a.length) (show 2 ^ sh <= 4294967296 by omega)
  rw [Nat.pow_succ]; omega
 refine ⟨afk _ _ hX,?_⟩
 have h4:=aul (af2 (a.length + 1) (2 ^ sh * val a)) lq (by rw [abv]; omega)
 rw [afk _ _ hX] at h4
 rw [<- h4,Nat.div_lt_iff_lt_mul (Nat.pow_pos (by omega))]
 have h5:a.length = (n + 1) + lq:=by omega
 rw [h5,pow_add] at h3
 have h6:=mul_le_mul_left (2 ^ sh) (mul_le_mul_right (4294967296 ^ lq) hB)
 rw [Nat.mul_assoc]
 omega
theorem hH0 {s:AS}:∀ (k:Nat) (z:Blk),lk ([]:Hp) k = some z -> s.blk k = some z:=fun _ _ h=>by cases h
theorem hH1 {s:AS} {k0:Nat} {x:Blk} (h:s.blk k0 = some x):∀ (k:Nat) (z:Blk), lk [(k0, some x)] k = some z -> s.blk k = some z:=by
 intro k z hz
 rw [aac] at hz
 split at hz
 ·rename_i e; cases hz; rw [e]; exact h
 ·cases hz
theorem aoz {s:AS} {x y x' y':AV} (h:Sub x x') (h':Sub y y'):Fin s (ali [x, y]) (.tup [x', y']) []:=by
 refine Fin.pure.sub ?_
 intro g S m v hr
 cases hr with
 | tup hn hr =>
  refine .tup (by simpa using hn) ?_
  intro j u c hu hc
  match j,hc with
  | 0,hc=>cases hc; exact h _ _ _ _ (hr 0 u x hu rfl)
  | 1,hc=>cases hc; exact h' _ _ _ _ (hr 1 u y hu rfl)
theorem bl1 {b v:List Nat} {n X:Nat} (hn:b.length = n + 2) (h:v = adw (n + 2) X) :
  AV.fz 900 1 ((adw (b.length + 1) X).map u32) (.ms 900 1 0 b.length) = ws v:=by
 rw [bd9 (by simp [abv]),h,<- hn,drop_zero,<- map_take,axi,ws]
theorem a2n {x:Nat} (h:1 <= x) (hx:x < 18446744073709551616):IntKind.u64.wrap (aec .sub (x:Int) 1) = ((x - 1:Nat):Int):=by
 have h1:=agp (x:=x) (y:=1) hx (by omega)
 rw [if_pos h] at h1
 exact h1
theorem a1v {r g G R:Nat}:(cond (aaa .lss (r:Int) 4294967296) (cond (aaa .geq (g:Int) 4294967296) true (aaa .gtr (G:Int) (R:Int))) false) = true ↔
  (r < 4294967296 /\ (4294967296 <= g \/ R < G)):=by
 have e1:aaa .lss (r:Int) 4294967296 = decide (r < 4294967296):=by rw [Bool.eq_iff_iff]; simp only [aaa,decide_eq_true_eq]; omega
 have e2:aaa .geq (g:Int) 4294967296 = decide (4294967296 <= g):=by rw [Bool.eq_iff_iff]; simp only [aaa,decide_eq_true_eq]; omega
 have e3:aaa .gtr (G:Int) (R:Int) = decide (R < G):=by rw [Bool.eq_iff_iff]; simp only [aaa,decide_eq_true_eq]; omega
 rw [e1,e2,e3]
 by_cases h1:r < 4294967296
 ·by_cases h2:4294967296 <= g
  ·rw [decide_eq_true h1,decide_eq_true h2]; exact ⟨fun _=>⟨h1,.inl h2⟩,fun _=>rfl⟩
  ·rw [decide_eq_true h1, decide_eq_false h2]
   show decide (R < G) = true ↔ _
   rw [decide_eq_true_eq]
   exact ⟨fun h=>⟨h1,.inr h⟩,fun h=>h.2.resolve_left h2⟩
 ·rw [decide_eq_false h1]
  constructor
  ·intro h; exact Bool.noConfusion h
  ·intro h; exact absurd h.1 h1
theorem a7q {u:List Nat} {k n V r:Nat} {l:List Nat} (hk:k + n <= u.length) (hl:l.length = n) (h:(val l + V) % 4294967296 ^ n = r) :
  wr (wr u k l) k (adw n ((val (win (wr u k l) k n) + V) % 4294967296 ^ n)) = wr u k (adw n r):=by
 subst hl
 rw [bq4 (by omega) (by rw [abv]),bmt (by omega),h]
theorem hH2 {s:AS} {k1 k2:Nat} {x1 x2:Blk} (h1:s.blk k1 = some x1) (h2:s.blk k2 = some x2):∀ (k:Nat) (z:Blk), lk [(k1, some x1), (k2, some x2)] k = some z -> s.blk k = some z:=by
 intro k z hz
 rw [aac] at hz
 split at hz
 ·rename_i e; cases hz; rw [e]; exact h1
 ·rw [aac] at hz
  split at hz
  ·rename_i e; cases hz; rw [e]; exact h2
  ·cases hz
end Go.Lw
namespace Go.Lw
def axr (x y:Int):Int:=if x < y then -1 else if y < x then 1 else 0
theorem a8k (b:Bool) (n:Nat):sgn (!b) n = -(sgn b n):=by cases b <;> simp [sgn]
theorem Wh.small {w:Wh} (h:w.ok) (hl:w.mag.length < big):w.m.length < big:=lt_of_le_of_lt Wh.m_le hl
theorem a0y {w:Wh} (h:w.ok):(w.m.length = 0 -> w.z.sign = 0) /\ (w.m.length ≠ 0 -> w.neg = true -> w.z.sign = -1) /\ (w.m.length ≠ 0 -> w.neg = false -> w.z.sign = 1):=by
 have h1:w.m.length ≠ 0 -> w.valid = true:=by
  intro h0
  unfold Wh.m at h0
  split at h0
  ·assumption
  ·exact absurd rfl h0
 refine ⟨?_,?_,?_⟩
 ·intro h0
  have h2:w.m = []:=List.length_eq_zero_iff.1 h0
  have h3:val w.m = 0:=by rw [h2]; rfl
  have:w.z = 0:=by unfold Wh.z; rw [h3]; split <;> rfl
  rw [this]; rfl
 ·intro h0 hn
  have h2:w.n = true:=by unfold Wh.n; rw [h1 h0,hn]; rfl
  have h3:=Wh.n_val h2
  rw [Int.sign_eq_neg_one_iff_neg]
  unfold Wh.z; rw [if_pos h2]; omega
 ·intro h0 hn
  have h2:w.n = false:=by unfold Wh.n; rw [h1 h0,hn]; rfl
  have h3:=ak8 w.nz (fun h=>h0 (by rw [h]; rfl))
  rw [Int.sign_eq_one_iff_pos]
  unfold Wh.z; rw [h2]; simp; omega
theorem a1q {a b:Wh} (h:a.n = b.n):sgn a.n (val a.m + val b.m) = a.z + b.z:=by
 rw [Wh.z_eq,Wh.z_eq,<- h]
 unfold sgn; split <;> omega
theorem aut {a b:Wh} (h:a.n ≠ b.n) (hl:val b.m <= val a.m):sgn a.n (val a.m - val b.m) = a.z + b.z:=by
 rw [Wh.z_eq,Wh.z_eq]
 cases ha:a.n <;> cases hb:b.n <;> simp_all [sgn] <;> omega
theorem awi {a b:Wh} (h:a.n ≠ b.n) (hl:val a.m <= val b.m):sgn b.n (val b.m - val a.m) = a.z + b.z:=by
 rw [Int.add_comm]; exact aut (fun h'=>h h'.symm) hl
theorem a5e {a b:Wh}:sgn (a.n != b.n) (val a.m * val b.m) = a.z * b.z:=by
 rw [Wh.z_eq,Wh.z_eq]
 cases a.n <;> cases b.n <;> simp [sgn,Int.neg_mul,Int.mul_neg]
theorem anx (z:Int):(z.sign = 1 /\ 0 < z) \/ (z.sign = 0 /\ z = 0) \/ (z.sign = -1 /\ z < 0):=by
 rcases Int.lt_trichotomy z 0 with h | h | h
 ·exact .inr (.inr ⟨Int.sign_eq_neg_one_iff_neg.2 h,h⟩)
 ·subst h; exact .inr (.inl ⟨rfl,rfl⟩)
 ·exact .inl ⟨Int.sign_eq_one_iff_pos.2 h,h⟩
theorem bd4 {a b:Wh} (h:a.z.sign ≠ b.z.sign):(a.z.sign < b.z.sign -> axr a.z b.z = -1) /\ (¬ a.z.sign < b.z.sign -> axr a.z b.z = 1):=by
 have h1:=anx a.z
 have h2:=anx b.z
 unfold axr
 generalize a.z.sign = s at *
 generalize b.z.sign = t at *
 generalize a.z = x at *
 generalize b.z = y at *
 constructor <;> intro h3 <;> (repeat' split) <;> omega
theorem bdz {a b:Wh} (h:a.z.sign = b.z.sign):axr a.z b.z = (if a.n then -(if val a.m < val b.m then -1 else if val b.m < val a.m then 1 else 0:Int) else if val a.m < val b.m then -1 else if val b.m < val a.m then 1 else 0):=by
 have ha:=Wh.n_eq (w:=a)
 have hb:=Wh.n_eq (w:=b)
 have h1:=Int.sign_trichotomy a.z
 have hz1:=Wh.z_eq (w:=a)
 have hz2:=Wh.z_eq (w:=b)
 have hn:a.n = b.n:=by
  rw [ha,hb,decide_eq_decide,<- Int.sign_eq_neg_one_iff_neg,<- Int.sign_eq_neg_one_iff_neg,h]
 rw [<- hn] at hz2
 unfold axr
 rw [hz1,hz2]
 cases a.n <;> simp only [sgn,if_true,if_false,Bool.false_eq_true] <;> (repeat' split) <;> omega
theorem bap {a b q r:Int} (hb:b ≠ 0) (h:a = b * q + r) (h0:0 <= r) (h1:r < b.natAbs):a / b = q /\ a % b = r:=by
 have h2:=Int.mul_ediv_add_emod a b
 have h3:=Int.emod_nonneg a hb
 have h4:=Int.emod_lt a hb
 have h5:b * (a / b - q) = r - a % b:=by rw [Int.mul_sub]; omega
 have h6:a / b - q = 0:=by
  rcases Int.lt_trichotomy (a / b - q) 0 with h | h | h
  ·exfalso
   have:b.natAbs <= (r - a % b).natAbs:=by rw [<- h5,Int.natAbs_mul]; exact Nat.le_mul_of_pos_right _ (by omega)
   omega
  ·exact h
  ·exfalso
   have:b.natAbs <= (r - a % b).natAbs:=by rw [<- h5,Int.natAbs_mul]; exact Nat.le_mul_of_pos_right _ (by omega)
   omega
 rw [h6,Int.mul_zero] at h5
 omega
theorem a73 {a b:Wh} (hb:val b.m ≠ 0) (h:¬ (a.n = true /\ 0 < val a.m % val b.m)) :
  sgn (a.n != b.n) (val a.m / val b.m) = a.z / b.z /\ (val a.m % val b.m:Nat) = a.z % b.z:=by
 have h1:=Nat.div_add_mod (val a.m) (val b.m)
 have h2:=Nat.mod_lt (val a.m) (show 0 < val b.m by omega)
 have hz:=Wh.abs (w:=b)
 have hb0:b.z ≠ 0:=by omega
 obtain ⟨e1, e2⟩:=bap (a:=a.z) (b:=b.z) (q:=sgn (a.n != b.n) (val a.m / val b.m)) (r:=(val a.m % val b.m:Nat)) hb0 (by
  rw [Wh.z_eq,Wh.z_eq]
  generalize val a.m / val b.m = q at *
  generalize val a.m % val b.m = r at *
  rw [<- h1]
  have h9:a.n = true -> r = 0:=fun h3=>by
   rcases Nat.eq_zero_or_pos r with h4 | h4
   ·exact h4
   ·exact absurd ⟨h3,h4⟩ h
  cases ha:a.n with
  | false=>cases hbn:b.n <;> simp [sgn] <;> grind
  | true=>have:=h9 ha; subst this; cases hbn:b.n <;> simp [sgn] <;> grind) (by omega) (by omega)
 exact ⟨e1.symm,e2.symm⟩
theorem a00 {a b:Wh} (hb:val b.m ≠ 0) (ha:a.n = true) (hr:0 < val a.m % val b.m) :
  sgn (a.n != b.n) (val a.m / val b.m + 1) = a.z / b.z /\ ((val b.m - val a.m % val b.m:Nat):Int) = a.z % b.z:=by
 have h1:=Nat.div_add_mod (val a.m) (val b.m)
 have h2:=Nat.mod_lt (val a.m) (show 0 < val b.m by omega)
 have hz:=Wh.abs (w:=b)
 have hb0:b.z ≠ 0:=by omega
 obtain ⟨e1, e2⟩:=bap (a:=a.z) (b:=b.z) (q:=sgn (a.n != b.n) (val a.m / val b.m + 1)) (r:=(val b.m - val a.m % val b.m:Nat)) hb0 (by
  rw [Wh.z_eq,Wh.z_eq]
  generalize val a.m / val b.m = q at *
  generalize val a.m % val b.m = r at *
  rw [<- h1,ha]
  cases hbn:b.n <;> simp [sgn] <;> rw [Int.ofNat_sub (by omega)] <;> grind) (by omega) (by omega)
 exact ⟨e1.symm,e2.symm⟩
end Go.Lw
namespace Go.Lw
abbrev lim:Nat:=137438953472
def Zs (z:Int):Prop:=∃ k,k <= 274877906945 /\ Lz k z
theorem Zs.ok {z:Int} (h:Zs z):(ofInt z).ok:=by
 obtain ⟨k,hk,hz⟩:=h
 refine ⟨aa3 _,?_⟩
 have:=hz.len
 unfold acr
 show (ofNat z.natAbs).length <= _
 omega
theorem Zs.len {z:Int} (h:Zs z):(ofInt z).mag.length <= 274877906945:=by
 obtain ⟨k,hk,hz⟩:=h
 have:=hz.len
 show (ofNat z.natAbs).length <= _
 omega
theorem Zs.neg {z:Int} (h:Zs z):Zs (-z):=by
 obtain ⟨k,hk,hz⟩:=h
 exact ⟨k,hk,hz.neg⟩
theorem Zs.of_le {x y:Int} (h:Zs x) (h':y.natAbs <= x.natAbs):Zs y:=by
 obtain ⟨k,hk,hz⟩:=h
 exact ⟨k,hk,hz.of_le h'⟩
structure Rt where
  neg:Bool
  num:List Nat
  den:List Nat
namespace Rt
def av (r:Rt):AV:=.agg [bl r.neg,ws r.num,ws r.den]
def n0 (r:Rt):Wh:=⟨false,r.num⟩
def d0 (r:Rt):Wh:=⟨false,r.den⟩
def valid (r:Rt):Bool :=
  if r.num = [] /\ r.den = [] then !r.neg
  else if r.num = [] \/ r.den = [] then false
  else r.n0.valid && r.d0.valid && decide (Nat.gcd (val r.num) (val r.den) = 1)
def q (r:Rt):Rat:=if r.valid = true /\ r.num ≠ [] then mkRat (sgn r.neg (val r.num)) (val r.den) else 0
def ok (r:Rt):Prop:=Ws r.num /\ Ws r.den /\ r.num.length <= lim /\ r.den.length <= lim
end Rt
def rt (q:Rat):Rt:=⟨decide (q.num < 0),ofNat q.num.natAbs,if q.num = 0 then [] else ofNat q.den⟩
def qA (q:Rat):AV:=(rt q).av
def Qs (q:Rat):Prop:=∃ k,k <= lim /\ Lz k q.num /\ Lz k (q.den:Int)
theorem Qs.ok {q:Rat} (h:Qs q):(rt q).ok:=by
 obtain ⟨k,hk,h1,h2⟩:=h
 have h3:=h1.len
 have h4:=h2.len
 simp only [natAbs_natCast] at h4
 refine ⟨aa3 _,?_,by show (ofNat q.num.natAbs).length <= _; omega,?_⟩
 ·show Ws (if q.num = 0 then [] else ofNat q.den)
  split
  ·exact avq
  ·exact aa3 _
 ·show (if q.num = 0 then [] else ofNat q.den).length <= _
  split
  ·simp
  ·omega
theorem aqd {n:Nat}:ofNat n = [] ↔ n = 0:=by
 constructor
 ·intro h; have:=aak n; rw [h] at this; exact this.symm
 ·intro h; rw [h]; rfl
theorem api {l:List Nat} (h:l ≠ []) (hz:Nz l):(⟨false, l⟩:Wh).valid = true:=by
 unfold Wh.valid
 dsimp only
 rw [if_neg h]
 cases hl:l.getLast? with
 | none=>rfl
 | some x=>have:=hz x hl; simp [this]
theorem apf {l:List Nat} {b:Bool} (h:l ≠ []) (hv:(⟨b, l⟩:Wh).valid = true):Nz l:=by
 unfold Wh.valid at hv
 dsimp only at hv
 rw [if_neg h] at hv
 intro x hx hx0
 rw [hx,hx0] at hv
 simp at hv
theorem a0z (q:Rat):(rt q).valid = true:=by
 unfold rt Rt.valid Rt.n0 Rt.d0
 dsimp only
 by_cases h:q.num = 0
 ·rw [if_pos h,h]; rfl
 ·rw [if_neg h]
  have h1:ofNat q.num.natAbs ≠ []:=fun h'=>h (by have:=aqd.1 h'; omega)
  have h2:ofNat q.den ≠ []:=fun h'=>q.den_nz (aqd.1 h')
  rw [if_neg (fun h'=>h1 h'.1),if_neg (by simp [h1,h2]),api h1 (akd _),api h2 (akd _),aak,aak]
  have:=q.reduced
  unfold Nat.Coprime at this
  simp [this]
theorem agd (q:Rat):(rt q).q = q:=by
 unfold Rt.q
 by_cases h:q.num = 0
 ·rw [if_neg]
  ·exact (Rat.num_eq_zero.1 h).symm
  ·intro h'; exact h'.2 (by show ofNat _ = []; rw [h]; rfl)
 ·have h1 : ofNat q.num.natAbs ≠ [] := fun h' => h (by have := aqd.1 h'; omega)
  rw [if_pos ⟨a0z q,h1⟩]
  show mkRat (sgn (decide (q.num < 0)) (val (ofNat q.num.natAbs))) (val (if q.num = 0 then [] else ofNat q.den)) = q
  rw [if_neg h,aak,aak]
  have:sgn (decide (q.num < 0)) q.num.natAbs = q.num:=by
   unfold sgn
   generalize q.num = z
   by_cases h2:z < 0
   ·rw [if_pos (decide_eq_true h2)]; omega
   ·rw [if_neg (by rw [decide_eq_true_eq]; exact h2)]; omega
  rw [this,Rat.mkRat_self]
theorem Rt.parts {r:Rt} (h:r.ok) (hv:r.valid = true) (h0:r.num ≠ []) :
  r.q.num = sgn r.neg (val r.num) /\ r.q.den = val r.den /\ ofNat (val r.num) = r.num /\ ofNat (val r.den) = r.den /\ val r.num ≠ 0 /\ val r.den ≠ 0:=by
 have hv':=hv
 unfold Rt.valid at hv
 rw [if_neg (fun h'=>h0 h'.1)] at hv
 split at hv
 ·cases hv
 ·rename_i h1
  simp only [and_eq_true,decide_eq_true_eq] at hv
  obtain ⟨⟨hn,hd⟩,hg⟩:=hv
  have h2:r.den ≠ []:=fun h'=>h1 (.inr h')
  have nn:=apf h0 hn
  have nd:=apf h2 hd
  have pn:=ak8 nn h0
  have pd:=ak8 nd h2
  have hq:r.q = mkRat (sgn r.neg (val r.num)) (val r.den):=by unfold Rt.q; rw [if_pos ⟨hv',h0⟩]
  have hs:(sgn r.neg (val r.num)).natAbs = val r.num:=by unfold sgn; split <;> omega
  have hq2 : r.q = ⟨sgn r.neg (val r.num), val r.den, by omega, by unfold Nat.Coprime; rw [hs]; exact hg⟩ := by
   rw [hq]
   exact (Rat.mk_eq_mkRat _ _ _ _).symm
  refine ⟨by rw [hq2],by rw [hq2],ahy h.1 nn,ahy h.2.1 nd,by omega,by omega⟩
theorem Rt.zero {r:Rt} (h:¬ (r.valid = true /\ r.num ≠ [])):r.q = 0:=by unfold Rt.q; rw [if_neg h]
theorem Rt.eq_rt {r:Rt} (h:r.ok) (hv:r.valid = true):r = rt r.q:=by
 by_cases h0:r.num = []
 ·have hq:=Rt.zero (r:=r) (fun h'=>h'.2 h0)
  rw [hq]
  unfold Rt.valid at hv
  by_cases h1:r.den = []
  ·rw [if_pos ⟨h0, h1⟩] at hv
   obtain ⟨n,a,b⟩:=r
   dsimp only at *
   subst h0; subst h1
   cases n
   ·rfl
   ·cases hv
  ·rw [if_neg (fun h'=>h1 h'.2),if_pos (.inl h0)] at hv; cases hv
 ·obtain ⟨h1, h2, h3, h4, h5, h6⟩:=Rt.parts h hv h0
  unfold rt
  have hn:r.q.num ≠ 0:=by rw [h1]; unfold sgn; split <;> omega
  rw [if_neg hn,h2,h4]
  have h7:r.q.num.natAbs = val r.num:=by rw [h1]; unfold sgn; split <;> omega
  have h8:decide (r.q.num < 0) = r.neg:=by rw [h1]; unfold sgn; cases r.neg <;> simp <;> omega
  rw [h7,h3,h8]
theorem Rt.ok.qs {r:Rt} (h:r.ok):Qs r.q:=by
 by_cases h0:r.valid = true /\ r.num ≠ []
 ·obtain ⟨h1, h2, h3, h4, h5, h6⟩:=Rt.parts h h0.1 h0.2
  refine ⟨max r.num.length r.den.length,by have:=h.2.2; omega,?_,?_⟩
  ·unfold Lz
   have:r.q.num.natAbs = val r.num:=by rw [h1]; unfold sgn; split <;> omega
   rw [this]
   exact lt_of_lt_of_le (abk _ h.1) (Nat.pow_le_pow_right (by omega) (by omega))
  ·unfold Lz
   rw [h2]
   exact lt_of_lt_of_le (abk _ h.2.1) (Nat.pow_le_pow_right (by omega) (by omega))
 ·rw [Rt.zero h0]
  exact ⟨1,by unfold lim; omega,by unfold Lz; decide,by unfold Lz; decide⟩
theorem Qs.num {q:Rat} (h:Qs q):Zs q.num:=by
 obtain ⟨k,hk,h1,h2⟩:=h
 exact ⟨k,by unfold lim at hk; omega,h1⟩
theorem Qs.den {q:Rat} (h:Qs q):Zs q.den:=by
 obtain ⟨k,hk,h1,h2⟩:=h
 exact ⟨k,by unfold lim at hk; omega,h2⟩
theorem Qs.mul {p q:Rat} (h:Qs p) (h':Qs q):Zs (p.num * q.den) /\ Zs (p.num * q.num) /\ Zs ((p.den:Int) * q.den) /\ Zs ((p.den:Int) * q.num):=by
 obtain ⟨k,hk,h1,h2⟩:=h
 obtain ⟨l,hl,h3,h4⟩:=h'
 unfold lim at *
 exact ⟨⟨k + l,by omega,h1.mul h4⟩,⟨k + l,by omega,h1.mul h3⟩,⟨k + l,by omega,h2.mul h4⟩,⟨k + l,by omega,h2.mul h3⟩⟩
theorem Qs.cross {p q:Rat} (h:Qs p) (h':Qs q):Zs (p.num * q.den + q.num * p.den):=by
 obtain ⟨k,hk,h1,h2⟩:=h
 obtain ⟨l,hl,h3,h4⟩:=h'
 unfold lim at *
 have:=(h1.mul h4).add (h3.mul h2)
 exact ⟨_,by omega,this⟩
theorem Qs.neg {p:Rat} (h:Qs p):Qs (-p):=by
 obtain ⟨k,hk,h1,h2⟩:=h
 refine ⟨k,hk,?_,?_⟩
 ·rw [Rat.neg_num]; exact h1.neg
 ·rw [Rat.neg_den]; exact h2
theorem Qs.zero:Qs 0:=⟨1,by unfold lim; omega,by unfold Lz; decide,by unfold Lz; decide⟩
end Go.Lw
namespace Go.Lw
theorem Rt.ok.n0 {r:Rt} (h:r.ok):r.n0.ok:=⟨h.1,by have:=h.2.2.1; unfold lim at this; unfold acr; exact le_trans this (by omega)⟩
theorem Rt.ok.d0 {r:Rt} (h:r.ok):r.d0.ok:=⟨h.2.1,by have:=h.2.2.2; unfold lim at this; unfold acr; exact le_trans this (by omega)⟩
theorem Rt.ok.n0l {r:Rt} (h:r.ok):r.n0.mag.length < big:=by have:=h.2.2.1; unfold lim at this; unfold big; exact lt_of_le_of_lt this (by omega)
theorem Rt.ok.d0l {r:Rt} (h:r.ok):r.d0.mag.length < big:=by have:=h.2.2.2; unfold lim at this; unfold big; exact lt_of_le_of_lt this (by omega)
theorem zs1:Zs 1:=⟨1,by omega,by unfold Lz; decide⟩
theorem Rt.gcd_zs {r:Rt} (h:r.ok):Zs (Int.gcd r.n0.z r.d0.z):=by
 have h1:=Wh.lz h.n0
 have h2:=Wh.lz h.d0
 have h3:r.n0.mag.length <= 137438953472:=h.2.2.1
 have h4:r.d0.mag.length <= 137438953472:=h.2.2.2
 by_cases h0:r.n0.z = 0
 ·rw [h0, Int.gcd_zero_left]
  exact ⟨r.d0.mag.length,by omega,by unfold Lz at *; simpa using h2⟩
 ·refine ⟨r.n0.mag.length, by omega, h1.of_le ?_⟩
  simp only [natAbs_natCast]
  exact Nat.le_of_dvd (by omega) (Int.gcd_dvd_natAbs_left _ _)
theorem bb2 {n:Nat}:axr (n:Int) 1 = 0 ↔ n = 1:=by
 unfold axr; split
 ·constructor <;> intro h <;> omega
 ·split <;> constructor <;> intro h <;> omega
theorem bmn {l:List Nat} (h:(⟨false, l⟩:Wh).valid = true):(⟨false, l⟩:Wh).z = val l:=by
 unfold Wh.z Wh.n Wh.m
 simp [h]
theorem atz {r:Rt} (h0:¬ (r.num = [] /\ r.den = []))
  (h:cond (cond (cond (aaa .eql (r.num.length:Int) 0) true (aaa .eql (r.den.length:Int) 0)) true (!r.n0.valid)) true (!r.d0.valid) = true):r.valid = false:=by
 unfold Rt.valid
 rw [if_neg h0]
 split
 ·rfl
 ·next h1 =>
  have hn:r.num ≠ []:=fun h=>h1 (.inl h)
  have hd:r.den ≠ []:=fun h=>h1 (.inr h)
  have e1:aaa .eql (r.num.length:Int) 0 = false:=by simp [aaa,hn]
  have e2:aaa .eql (r.den.length:Int) 0 = false:=by simp [aaa,hd]
  rw [e1,e2] at h
  cases hv:r.n0.valid <;> cases hw:r.d0.valid <;> simp_all
theorem avn {r:Rt} (h0:¬ (r.num = [] /\ r.den = []))
  (h:cond (cond (cond (aaa .eql (r.num.length:Int) 0) true (aaa .eql (r.den.length:Int) 0)) true (!r.n0.valid)) true (!r.d0.valid) = false) :
  r.valid = aaa .eql (axr (Int.gcd r.n0.z r.d0.z) 1) 0:=by
 unfold Rt.valid
 rw [if_neg h0]
 cases e1:aaa .eql (r.num.length:Int) 0
 ·cases e2:aaa .eql (r.den.length:Int) 0
  ·have hn : r.num ≠ [] := by simpa [aaa] using e1
   have hd:r.den ≠ []:=by simpa [aaa] using e2
   rw [e1,e2] at h
   cases hv:r.n0.valid <;> cases hw:r.d0.valid <;> simp [hv,hw] at h
   rw [if_neg (by simp [hn,hd])]
   have z1:r.n0.z = val r.num:=bmn hv
   have z2:r.d0.z = val r.den:=bmn hw
   rw [z1,z2]
   show (true && true && decide _) = decide _
   simp only [Bool.and_self,Bool.true_and]
   rw [Bool.eq_iff_iff]
   simp only [decide_eq_true_eq]
   exact bb2.symm
  ·rw [e1,e2] at h; simp at h
 ·rw [e1] at h; simp at h
theorem a1a {b:Bool} {num den:List Nat} (e3:ofNat (val num) = num) (e4:ofNat (val den) = den) (e5:val num ≠ 0) :
  AV.tup [.agg [bl b,ws num],.agg [bl false,ws den]] = .tup [zA (sgn b (val num)),zA ((val den:Nat):Int)]:=by
 unfold zA ofInt Wh.av
 have h1:(sgn b (val num)).natAbs = val num:=by unfold sgn; split <;> omega
 have h2:decide (sgn b (val num) < 0) = b:=by unfold sgn; cases b <;> simp <;> omega
 have h3:decide (((val den:Nat):Int) < 0) = false:=by simp
 dsimp only
 rw [h1,h2,h3,e3,natAbs_natCast,e4]
inductive SubL:List AV -> List AV -> Prop
  | nil:SubL [] []
  | cons {x y:AV} {l l':List AV} (h:Sub x y) (hl:SubL l l'):SubL (x :: l) (y :: l')
theorem SubL.len {l l':List AV} (h:SubL l l'):l.length = l'.length:=by induction h with | nil=>rfl | cons _ _ ih=>simp [ih]
theorem SubL.get {l l':List AV} (h:SubL l l'):∀ (j:Nat) (x y:AV), l[j]? = some x -> l'[j]? = some y -> Sub x y:=by
 induction h with
 | nil=>intro j x y h; simp at h
 | cons h _ ih =>
  intro j x y hx hy
  cases j with
  | zero=>simp at hx hy; subst hx; subst hy; exact h
  | succ j=>simp at hx hy; exact ih j x y hx hy
theorem Sub.tup {l l':List AV} (h:SubL l l'):Sub (.tup l) (.tup l'):=by
 intro g S m v hv
 cases hv with
 | tup hn hr =>
  refine .tup (by rw [hn,h.len]) (fun j u y hu hy=>?_)
  obtain ⟨x,hx⟩:=aa8 h.len.symm hy
  exact h.get j x y hx hy _ _ _ _ (hr j u x hu hx)
theorem Sub.agg {l l':List AV} (h:SubL l l') (ho:l'.all AV.one = true):Sub (.agg l) (.agg l'):=by
 intro g S m v hv
 cases hv with
 | agg hn h1 hr =>
  refine .agg (by rw [hn,h.len]) (fun j c hc=>List.all_eq_true.1 ho c (mem_of_getElem? hc)) (fun j u y hu hy=>?_)
  obtain ⟨x,hx⟩:=aa8 h.len.symm hy
  exact h.get j x y hx hy _ _ _ _ (hr j u x hu hx)
theorem BlkSub.boxL {l l':List AV} (h:SubL l l') (ho:l'.all AV.one = true):BlkSub (.box l) (.box l') :=
 .box h.len (fun j c hc=>List.all_eq_true.1 ho c (mem_of_getElem? hc)) (fun j x y hx hy=>h.get j x y hx hy)
theorem bgo:Sub (.agg [.v (.bool false),.v (.slice none 0 0)]) (zA 0):=.agg (.cons (.refl _) (.cons (.nil _ _ _) .nil)) rfl
theorem ai2:Sub (.agg [.v (.bool false),.v (.slice none 0 0),.v (.slice none 0 0)]) (qA 0):=.agg (.cons (.refl _) (.cons (.nil _ _ _) (.cons (.nil _ _ _) .nil))) rfl
theorem apg {n d:Int} (hd:0 < d) (hn:n ≠ 0) :
  (Rat.divInt n d).num = n / (Int.gcd n d:Int) /\ (Rat.divInt n d).den = d.natAbs / Int.gcd n d:=by
 constructor
 ·rw [Rat.num_divInt,Int.sign_eq_one_of_pos hd,Int.one_mul,Int.gcd_comm]
 ·rw [Rat.den_divInt,if_neg (by omega),Int.gcd_comm]
theorem bjd {n d:Int} (hd:0 < d) (hn:n ≠ 0) :
  AV.agg [bl (decide (n < 0)),ws (ofNat (((n.natAbs:Int) / (Int.gcd n d:Int)).natAbs)),ws (ofNat ((d / (Int.gcd n d:Int)).natAbs))] = qA (Rat.divInt n d):=by
 obtain ⟨h1,h2⟩:=apg hd hn
 obtain ⟨g,hg⟩:∃ g,g = Int.gcd n d:=⟨_,rfl⟩
 have hg0:0 < g:=by rw [hg]; exact Int.gcd_pos_of_ne_zero_left _ hn
 have hgn:(g:Int) ∣ n:=by rw [hg]; exact Int.gcd_dvd_left ..
 rw [<- hg] at h1 h2 ⊢
 clear hg
 obtain ⟨k,hk⟩:=hgn
 have hk1:n / (g:Int) = k:=by rw [hk]; exact Int.mul_ediv_cancel_left _ (by omega)
 have hk0:k ≠ 0:=by intro h; rw [h] at hk; simp at hk; exact hn hk
 have hs:decide (n < 0) = decide (k < 0):=by
  rw [decide_eq_decide,hk]
  constructor
  ·intro h
   rcases Int.lt_trichotomy k 0 with h' | h' | h'
   ·exact h'
   ·exact absurd h' hk0
   ·exact absurd (Int.mul_nonneg (Int.natCast_nonneg g) (Int.le_of_lt h')) (by omega)
  ·intro h; exact Int.mul_neg_of_pos_of_neg (by omega) h
 have hna:((n.natAbs:Int) / (g:Int)).natAbs = k.natAbs:=by
  rw [hk,Int.natAbs_mul,natAbs_natCast]
  rw [show ((g * k.natAbs:Nat):Int) / (g:Int) = ((g * k.natAbs / g:Nat):Int) by exact (Int.natCast_ediv _ _).symm]
  rw [Nat.mul_div_cancel_left _ hg0]; omega
 have hda:(d / (g:Int)).natAbs = d.natAbs / g:=by
  have:d = (d.natAbs:Int):=by omega
  rw [this,<- Int.natCast_ediv,natAbs_natCast,natAbs_natCast]
 unfold qA rt Rt.av
 rw [h1,h2,hk1,hna,hda,hs]
 dsimp only
 rw [if_neg hk0]
theorem aqz (n d:Int):Rat.divInt (-n) (-d) = Rat.divInt n d:=Rat.neg_divInt_neg n d
theorem aze (p q:Rat):Rat.divInt (p.num * q.den + q.num * p.den) ((p.den:Int) * q.den) = p + q:=by
 rw [<- Rat.divInt_add_divInt _ _ (by have:=p.den_nz; omega) (by have:=q.den_nz; omega),Rat.num_divInt_den,Rat.num_divInt_den]
theorem az9 (p q:Rat):Rat.divInt (p.num * q.num) ((p.den:Int) * q.den) = p * q:=by
 rw [<- Rat.divInt_mul_divInt,Rat.num_divInt_den,Rat.num_divInt_den]
theorem a87 (p:Rat):Rat.divInt (-p.num) p.den = -p:=by
 rw [<- Rat.neg_num,<- Rat.neg_den,Rat.num_divInt_den]
theorem azt (p q:Rat):Rat.divInt (p.num * q.den) ((p.den:Int) * q.num) = p / q:=by
 rw [Rat.div_def,<- Rat.divInt_mul_divInt,Rat.num_divInt_den]
 congr 1
 rw [<- Rat.inv_divInt,Rat.num_divInt_den]
theorem bik (p:Rat):p.num < 0 ↔ p < 0:=by
 rw [Rat.lt_iff]; simp
theorem bip (p:Rat):0 < p.num ↔ 0 < p:=by
 rw [Rat.lt_iff]; simp
def af7 (p:Rat):Int:=if p < 0 then -1 else if 0 < p then 1 else 0
theorem a04 (p:Rat):p.num.sign = af7 p:=by
 unfold af7
 by_cases h:p < 0
 ·rw [if_pos h]; exact Int.sign_eq_neg_one_iff_neg.2 ((bik p).2 h)
 ·rw [if_neg h]
  by_cases h':0 < p
  ·rw [if_pos h']; exact Int.sign_eq_one_iff_pos.2 ((bip p).2 h')
  ·rw [if_neg h']
   have:p = 0:=by grind
   rw [this]; rfl
theorem bd5 (p q:Rat):af7 (p - q) = if p < q then -1 else if q < p then 1 else 0:=by
 unfold af7
 by_cases h:p < q
 ·rw [if_pos h,if_pos (by grind)]
 ·rw [if_neg h, if_neg (by grind)]
  by_cases h':q < p
  ·rw [if_pos h',if_pos (by grind)]
  ·rw [if_neg h',if_neg (by grind)]
theorem bgz (p q:Rat):axr (p.num * q.den) (q.num * p.den) = af7 (p - q):=by
 rw [bd5]
 unfold axr
 simp only [Rat.lt_iff]
theorem bdw {n d:Int} (hd:0 < d) (hn:n ≠ 0) :
  AV.agg [bl (decide (n / (Int.gcd n d:Int) < 0)),ws (ofNat ((n / (Int.gcd n d:Int)).natAbs)),ws (ofNat ((d / (Int.gcd n d:Int)).natAbs))] = qA (Rat.divInt n d):=by
 obtain ⟨h1,h2⟩:=apg hd hn
 have h3:(d / (Int.gcd n d:Int)).natAbs = d.natAbs / Int.gcd n d:=by
  have:d = (d.natAbs:Int):=by omega
  generalize Int.gcd n d = g
  rw [this,<- Int.natCast_ediv,natAbs_natCast,natAbs_natCast]
 have h4:n / (Int.gcd n d:Int) ≠ 0:=by
  rw [<- h1]; intro h
  have h5:=Rat.num_eq_zero.1 h
  have h6:=(Rat.divInt_eq_divInt_iff (show d ≠ 0 by omega) (show (1:Int) ≠ 0 by decide)).1 (h5.trans (Rat.zero_divInt 1).symm)
  omega
 unfold qA rt Rt.av
 rw [h1,h2,h3]
 dsimp only
 rw [if_neg h4]
def Qb (e:Nat) (q:Rat):Prop:=q.num.natAbs < 2 ^ e /\ q.den < 2 ^ e
theorem Qb.mono {e f:Nat} {q:Rat} (h:Qb e q) (hf:e <= f):Qb f q :=
 ⟨lt_of_lt_of_le h.1 (Nat.pow_le_pow_right (by omega) hf),lt_of_lt_of_le h.2 (Nat.pow_le_pow_right (by omega) hf)⟩
theorem Qb.qs {e:Nat} {q:Rat} (h:Qb e q) (he:e <= 4398046511104):Qs q:=by
 have h2:(4294967296:Nat) = 2 ^ 32:=by decide
 have h3:∀ x, x < 2 ^ e -> x < 4294967296 ^ (e / 32 + 1):=by
  intro x hx
  rw [h2,<- Nat.pow_mul]
  exact lt_of_lt_of_le hx (Nat.pow_le_pow_right (by omega) (by omega))
 by_cases h4:e = 4398046511104
 ·obtain ⟨k, hk⟩:∃ k, k = 137438953472:=⟨_, rfl⟩
  refine ⟨k,by unfold lim; omega,?_,?_⟩
  ·unfold Lz
   have:=h.1
   rw [h2,<- Nat.pow_mul]
   exact lt_of_lt_of_le this (Nat.pow_le_pow_right (by omega) (by omega))
  ·unfold Lz
   have:=h.2
   rw [h2,<- Nat.pow_mul]
   exact lt_of_lt_of_le this (Nat.pow_le_pow_right (by omega) (by omega))
 ·exact ⟨e / 32 + 1,by unfold lim; omega,h3 _ h.1,h3 _ h.2⟩
theorem Qb.neg {e:Nat} {q:Rat} (h:Qb e q):Qb e (-q):=by
 refine ⟨?_,?_⟩
 ·rw [Rat.neg_num,Int.natAbs_neg]; exact h.1
 ·rw [Rat.neg_den]; exact h.2
theorem ame {n d:Int} (h0:d ≠ 0):(Rat.divInt n d).num.natAbs <= n.natAbs /\ (Rat.divInt n d).den <= d.natAbs:=by
 constructor
 ·rw [Rat.num_divInt]
  have h1:(d.sign * n).natAbs = n.natAbs:=by
   rw [Int.natAbs_mul,Int.natAbs_sign_of_ne_zero h0,Nat.one_mul]
  rw [<- h1]
  exact Int.natAbs_ediv_le_natAbs _ _
 ·rw [Rat.den_divInt, if_neg h0]
  exact Nat.div_le_self _ _
theorem Qb.mul {e f:Nat} {p q:Rat} (h:Qb e p) (h':Qb f q):Qb (e + f) (p * q):=by
 rw [<- az9]
 have h0:((p.den:Int) * q.den) ≠ 0:=Int.mul_ne_zero (by have:=p.den_nz; omega) (by have:=q.den_nz; omega)
 obtain ⟨h1,h2⟩:=ame (n:=p.num * q.num) h0
 refine ⟨lt_of_le_of_lt h1 ?_,lt_of_le_of_lt h2 ?_⟩
 ·rw [Int.natAbs_mul,pow_add]; exact Nat.mul_lt_mul'' h.1 h'.1
 ·rw [Int.natAbs_mul,pow_add,natAbs_natCast,natAbs_natCast]; exact Nat.mul_lt_mul'' h.2 h'.2
theorem Qb.add {e f:Nat} {p q:Rat} (h:Qb e p) (h':Qb f q):Qb (e + f + 1) (p + q):=by
 rw [<- aze]
 have h0:((p.den:Int) * q.den) ≠ 0:=Int.mul_ne_zero (by have:=p.den_nz; omega) (by have:=q.den_nz; omega)
 obtain ⟨h1,h2⟩:=ame (n:=p.num * q.den + q.num * p.den) h0
 refine ⟨lt_of_le_of_lt h1 ?_,lt_of_le_of_lt h2 ?_⟩
 ·have h3:=Int.natAbs_add_le (p.num * q.den) (q.num * p.den)
  rw [Int.natAbs_mul,Int.natAbs_mul,natAbs_natCast,natAbs_natCast] at h3
  have h4:=Nat.mul_lt_mul'' h.1 h'.2
  have h5:=Nat.mul_lt_mul'' h'.1 h.2
  rw [Nat.pow_succ,pow_add]
  rw [Nat.mul_comm (2 ^ f)] at h5
  omega
 ·rw [Int.natAbs_mul, natAbs_natCast, natAbs_natCast, Nat.pow_succ, pow_add]
  have:=Nat.mul_lt_mul'' h.2 h'.2
  omega
theorem Qb.sub {e f:Nat} {p q:Rat} (h:Qb e p) (h':Qb f q):Qb (e + f + 1) (p - q):=by
 rw [Rat.sub_eq_add_neg]; exact h.add h'.neg
theorem Qb.div {e f:Nat} {p q:Rat} (h:Qb e p) (h':Qb f q):Qb (e + f) (p / q):=by
 by_cases h0:q = 0
 ·subst h0
  rw [Rat.div_def,Rat.inv_zero,Rat.mul_zero]
  have h1:0 < 2 ^ e:=Nat.two_pow_pos e
  have h2:=h.2
  have h3:=p.den_nz
  refine ⟨?_,?_⟩
  ·exact Nat.two_pow_pos _
  ·show 1 < 2 ^ (e + f)
   have:2 ^ e <= 2 ^ (e + f):=Nat.pow_le_pow_right (by omega) (by omega)
   omega
 ·rw [<- azt]
  have h0':((p.den:Int) * q.num) ≠ 0:=Int.mul_ne_zero (by have:=p.den_nz; omega) (fun h=>h0 (Rat.num_eq_zero.1 h))
  obtain ⟨h1,h2⟩:=ame (n:=p.num * q.den) h0'
  refine ⟨lt_of_le_of_lt h1 ?_,lt_of_le_of_lt h2 ?_⟩
  ·rw [Int.natAbs_mul,pow_add,natAbs_natCast]; exact Nat.mul_lt_mul'' h.1 h'.2
  ·rw [Int.natAbs_mul,pow_add,natAbs_natCast]; exact Nat.mul_lt_mul'' h.2 h'.1
theorem Qb.zero:Qb 1 0:=⟨by decide,by decide⟩
theorem Qb.one:Qb 1 1:=⟨by decide,by decide⟩
theorem Rt.qb {r:Rt} {k:Nat} (h:r.ok) (hk:1 <= k) (hn:r.num.length <= k) (hd:r.den.length <= k):Qb (32 * k) r.q:=by
 have hB:∀ {l:List Nat}, Ws l -> l.length <= k -> val l < 2 ^ (32 * k):=by
  intro l hw hl
  have h1:=abk l hw
  have h2:(4294967296:Nat) = 2 ^ 32:=by decide
  rw [h2,<- Nat.pow_mul] at h1
  exact lt_of_lt_of_le h1 (Nat.pow_le_pow_right (by omega) (by omega))
 by_cases h0:r.valid = true /\ r.num ≠ []
 ·obtain ⟨h1, h2, h3, h4, h5, h6⟩:=Rt.parts h h0.1 h0.2
  refine ⟨?_,?_⟩
  ·have : r.q.num.natAbs = val r.num := by rw [h1]; unfold sgn; split <;> omega
   rw [this]; exact hB h.1 hn
  ·rw [h2]; exact hB h.2.1 hd
 ·rw [Rt.zero h0]; exact Qb.zero.mono (by omega)
theorem a6u {r:Rt} (h0:¬ (r.num = [] /\ r.den = [])) :
  r.valid = cond (cond (!decide (r.num = []) && (⟨false,r.num⟩:Wh).valid) (!decide (r.den = []) && (⟨false,r.den⟩:Wh).valid) false) (aaa .eql (axr (Int.gcd r.n0.z r.d0.z) 1) 0) false:=by
 by_cases h1:r.num = []
 ·unfold Rt.valid; rw [if_neg h0,if_pos (.inl h1)]; simp [h1]
 ·by_cases h2:r.den = []
  ·unfold Rt.valid; rw [if_neg h0,if_pos (.inr h2)]; simp [h2]
  ·have e1 : aaa .eql (r.num.length : Int) 0 = false := by simp [aaa, h1]
   have e2:aaa .eql (r.den.length:Int) 0 = false:=by simp [aaa,h2]
   have n0:(⟨false,r.num⟩:Wh) = r.n0:=rfl
   have d0:(⟨false,r.den⟩:Wh) = r.d0:=rfl
   rw [n0,d0]
   cases hv:r.n0.valid
   ·rw [atz h0 (by simp [hv,e1,e2])]; simp
   ·cases hw:r.d0.valid
    ·rw [atz h0 (by simp [hv,hw,e1,e2])]; simp
    ·rw [avn h0 (by simp [hv,hw,e1,e2])]; simp [h1,h2]
theorem Con.subA {P:Program} {f:FuncId} {args args':List AV} {H H':Hp} {r:AV} (h:SubL args' args) (hc:Con P f args H r H'):Con P f args' H r H':=by
 refine ⟨hc.ok,?_⟩
 intro ext m w vs hext hheap hvs hrep
 refine hc.ret ext m w vs hext hheap (by rw [hvs,h.len]) (fun j v x hv hx=>?_)
 obtain ⟨y,hy⟩:=aa8 h.len.symm hx
 exact h.get j y x hy hx _ _ _ _ (hrep j v y hv hy)
end Go.Lw
namespace Go.Lw
@[reducible] def T:Nat -> Type
  | 0=>Rat
  | k + 1=>T k × T k
namespace T
def zero:(k:Nat) -> T k
  | 0=>(0:Rat)
  | k + 1=>(zero k,zero k)
def ofQ:(k:Nat) -> Rat -> T k
  | 0,q=>q
  | k + 1,q=>(ofQ k q,zero k)
def add:(k:Nat) -> T k -> T k -> T k
  | 0,x,y=>Rat.add x y
  | k + 1,x,y=>(add k x.1 y.1,add k x.2 y.2)
def neg:(k:Nat) -> T k -> T k
  | 0,x=>Rat.neg x
  | k + 1,x=>(neg k x.1,neg k x.2)
def mul (r:(k:Nat) -> T k):(k:Nat) -> T k -> T k -> T k
  | 0,x,y=>Rat.mul x y
  | k + 1,x,y=>(add k (mul r k x.1 y.1) (mul r k (mul r k x.2 y.2) (r k)),add k (mul r k x.1 y.2) (mul r k x.2 y.1))
def norm (r:(k:Nat) -> T k) (k:Nat) (x:T (k + 1)):T k:=add k (mul r k x.1 x.1) (neg k (mul r k (mul r k x.2 x.2) (r k)))
def sgn3 (sx sy sd sn:Int):Int:=if sd = 0 then sx else if sx = sy \/ sy = 0 then sx else if sx = 0 then sy else sx * sn
def sgn (r:(k:Nat) -> T k):(k:Nat) -> T k -> Int
  | 0,x=>af7 x
  | k + 1,x=>sgn3 (sgn r k x.1) (sgn r k x.2) (sgn r k (r k)) (sgn r k (norm r k x))
theorem add_zero:∀ (k:Nat) (x:T k), add k x (zero k) = x
 | 0,x=>Rat.add_zero x
 | k + 1,x=>by simp only [add,zero,add_zero k]
theorem zero_add:∀ (k:Nat) (x:T k), add k (zero k) x = x
 | 0,x=>Rat.zero_add x
 | k + 1,x=>by simp only [add,zero,zero_add k]
theorem add_comm:∀ (k:Nat) (x y:T k), add k x y = add k y x
 | 0,x,y=>Rat.add_comm x y
 | k + 1,x,y=>by simp only [add,add_comm k x.1,add_comm k x.2]
theorem add_assoc:∀ (k:Nat) (x y z:T k), add k (add k x y) z = add k x (add k y z)
 | 0,x,y,z=>Rat.add_assoc x y z
 | k + 1,x,y,z=>by simp only [add,add_assoc k]
theorem a2t:∀ (k:Nat), neg k (zero k) = zero k
 | 0=>by show -(0:Rat) = 0; grind
 | k + 1=>by simp only [neg,zero,a2t k]
theorem add_neg:∀ (k:Nat) (x:T k), add k x (neg k x) = zero k
 | 0,x=>by show (x:Rat) + -x = 0; grind
 | k + 1,x=>by simp only [add,neg,zero,add_neg k]
theorem zero_mul (r:(k:Nat) -> T k):∀ (k:Nat) (x:T k), mul r k (zero k) x = zero k
 | 0,x=>Rat.zero_mul x
 | k + 1,x=>by simp only [mul,zero,zero_mul r k,add_zero]
theorem mul_zero (r:(k:Nat) -> T k):∀ (k:Nat) (x:T k), mul r k x (zero k) = zero k
 | 0,x=>Rat.mul_zero x
 | k + 1, x=>by
  simp only [mul,zero,mul_zero r k,add_zero]
  have h:mul r k (zero k) (r k) = zero k:=by
   have:=zero_mul r k (r k)
   exact this
  rw [h]
  simp only [add_zero]
theorem mul_comm (r:(k:Nat) -> T k):∀ (k:Nat) (x y:T k), mul r k x y = mul r k y x
 | 0,x,y=>Rat.mul_comm x y
 | k + 1, x, y=>by
  simp only [mul]
  rw [mul_comm r k x.1 y.1,mul_comm r k x.2 y.2,mul_comm r k x.1 y.2,mul_comm r k x.2 y.1,add_comm k (mul r k y.2 x.1)]
theorem sgn_zero (r:(k:Nat) -> T k):∀ k, sgn r k (zero k) = 0
 | 0=>rfl
 | k + 1=>by
  simp only [sgn,zero,sgn_zero r k,sgn3]
  split
  ·rfl
  ·simp
theorem sgn_low (r:(k:Nat) -> T k) (k:Nat) (x:T k):sgn r (k + 1) (x, zero k) = sgn r k x:=by
 simp only [sgn,sgn_zero,sgn3]
 split
 ·rfl
 ·simp
theorem sgnQ_cases (q:Rat):af7 q = -1 \/ af7 q = 0 \/ af7 q = 1:=by
 unfold af7; split
 ·exact .inl rfl
 ·split
  ·exact .inr (.inr rfl)
  ·exact .inr (.inl rfl)
theorem sgn_cases (r:(k:Nat) -> T k):∀ (k:Nat) (x:T k), sgn r k x = -1 \/ sgn r k x = 0 \/ sgn r k x = 1
 | 0,x=>sgnQ_cases x
 | k + 1, x=>by
  simp only [sgn,sgn3]
  have h1:=sgn_cases r k x.1
  have h2:=sgn_cases r k x.2
  have h4:=sgn_cases r k (norm r k x)
  split
  ·exact h1
  ·split
   ·exact h1
   ·split
    ·exact h2
    ·rcases h1 with h | h | h <;> rcases h4 with h' | h' | h' <;> rw [h,h'] <;> simp
end T
def dec:(k:Nat) -> List Rat -> T k
  | 0,l=>l.getD 0 0
  | k + 1,l=>(dec k (l.take (2 ^ k)),dec k (l.drop (2 ^ k)))
theorem ae0 {l:List Rat} {n i:Nat}:(l.take n).getD i 0 = if i < n then l.getD i 0 else 0:=by
 simp only [getD_eq_getElem?_getD,getElem?_take]
 split <;> simp
theorem ae2 {l:List Rat} {n i:Nat}:(l.drop n).getD i 0 = l.getD (n + i) 0:=by
 simp only [getD_eq_getElem?_getD,getElem?_drop]
theorem ajq:∀ (k:Nat) {a b:List Rat}, (∀ i, i < 2 ^ k -> a.getD i 0 = b.getD i 0) -> dec k a = dec k b
 | 0,a,b,h=>h 0 (by decide)
 | k + 1, a, b, h=>by
  have h1:=ajq k (a:=a.take (2 ^ k)) (b:=b.take (2 ^ k)) (fun i hi=>by rw [ae0,ae0,if_pos hi,if_pos hi]; exact h i (by rw [Nat.pow_succ]; omega))
  have h2:=ajq k (a:=a.drop (2 ^ k)) (b:=b.drop (2 ^ k)) (fun i hi=>by rw [ae2,ae2]; exact h _ (by rw [Nat.pow_succ]; omega))
  simp only [dec,h1,h2]
theorem ayi:∀ (k:Nat) {a b c:List Rat}, (∀ i, i < 2 ^ k -> c.getD i 0 = a.getD i 0 + b.getD i 0) -> dec k c = T.add k (dec k a) (dec k b)
 | 0,a,b,c,h=>h 0 (by decide)
 | k + 1, a, b, c, h=>by
  have h1:=ayi k (a:=a.take (2 ^ k)) (b:=b.take (2 ^ k)) (c:=c.take (2 ^ k)) (fun i hi=>by rw [ae0,ae0,ae0,if_pos hi,if_pos hi,if_pos hi]; exact h i (by rw [Nat.pow_succ]; omega))
  have h2:=ayi k (a:=a.drop (2 ^ k)) (b:=b.drop (2 ^ k)) (c:=c.drop (2 ^ k)) (fun i hi=>by rw [ae2,ae2,ae2]; exact h _ (by rw [Nat.pow_succ]; omega))
  simp only [dec,T.add,h1,h2]
theorem ayq:∀ (k:Nat) {a c:List Rat}, (∀ i, i < 2 ^ k -> c.getD i 0 = -a.getD i 0) -> dec k c = T.neg k (dec k a)
 | 0,a,c,h=>h 0 (by decide)
 | k + 1, a, c, h=>by
  have h1:=ayq k (a:=a.take (2 ^ k)) (c:=c.take (2 ^ k)) (fun i hi=>by rw [ae0,ae0,if_pos hi,if_pos hi]; exact h i (by rw [Nat.pow_succ]; omega))
  have h2:=ayq k (a:=a.drop (2 ^ k)) (c:=c.drop (2 ^ k)) (fun i hi=>by rw [ae2,ae2]; exact h _ (by rw [Nat.pow_succ]; omega))
  simp only [dec,T.neg,h1,h2]
theorem ao8:∀ (k:Nat) {a:List Rat}, (∀ i, i < 2 ^ k -> a.getD i 0 = 0) -> dec k a = T.zero k
 | 0,a,h=>h 0 (by decide)
 | k + 1, a, h=>by
  have h1:=ao8 k (a:=a.take (2 ^ k)) (fun i hi=>by rw [ae0,if_pos hi]; exact h i (by rw [Nat.pow_succ]; omega))
  have h2:=ao8 k (a:=a.drop (2 ^ k)) (fun i hi=>by rw [ae2]; exact h _ (by rw [Nat.pow_succ]; omega))
  simp only [dec,T.zero,h1,h2]
theorem aue {l:List Rat} {i:Nat} (h:l.length <= i):l.getD i 0 = 0:=by
 simp [getD_eq_getElem?_getD,getElem?_eq_none h]
theorem agm (k:Nat):dec k [] = T.zero k:=ao8 k (fun i _=>by simp)
theorem akm {k:Nat} {a:List Rat} (h:a.length <= 2 ^ k):dec (k + 1) a = (dec k a, T.zero k):=by
 have h1:a.take (2 ^ k) = a:=take_of_length_le h
 have h2:a.drop (2 ^ k) = []:=drop_eq_nil_of_le h
 simp only [dec,h1,h2,agm]
theorem am7 (k:Nat) (q:Rat):dec k [q] = T.ofQ k q:=by
 induction k with
 | zero=>rfl
 | succ k ih=>rw [akm (by simp; exact Nat.one_le_two_pow),ih]; rfl
def aax (a:List Rat) (n:Nat):List Rat:=a ++ List.replicate (n - a.length) 0
def acz (a b:List Rat):List Rat:=List.zipWith (· + ·) (aax a (max a.length b.length)) (aax b (max a.length b.length))
def ab7 (a:List Rat):List Rat:=a.map (- ·)
def ai3 (a b:List Rat) (n:Nat):List Rat:=aax a n ++ aax b n
def abo (a:List Rat):Bool:=a.all (fun q=>decide (q = 0))
theorem abg {a:List Rat} {n:Nat} (h:a.length <= n):(aax a n).length = n:=by simp [aax]; omega
theorem abm {a b:List Rat}:(acz a b).length = max a.length b.length:=by
 simp only [acz,List.length_zipWith]
 rw [abg (by omega),abg (by omega)]; omega
theorem acx {a:List Rat}:(ab7 a).length = a.length:=by simp [ab7]
theorem ama {a b:List Rat} {n:Nat} (h:a.length <= n) (h':b.length <= n):(ai3 a b n).length = n + n:=by simp [ai3,abg h,abg h']
theorem ah8 {a:List Rat} {n i:Nat}:(aax a n).getD i 0 = a.getD i 0:=by
 simp only [aax,getD_eq_getElem?_getD]
 by_cases h:i < a.length
 ·rw [getElem?_append_left h]
 ·rw [getElem?_append_right (by omega), getElem?_eq_none (l := a) (by omega), List.getElem?_replicate]
  split <;> rfl
theorem a09 {a b:List Rat} {i:Nat}:(acz a b).getD i 0 = a.getD i 0 + b.getD i 0:=by
 by_cases h:i < max a.length b.length
 ·have e:(acz a b).getD i 0 = (aax a (max a.length b.length)).getD i 0 + (aax b (max a.length b.length)).getD i 0:=by
   have ha:i < (aax a (max a.length b.length)).length:=by rw [abg (by omega)]; exact h
   have hb:i < (aax b (max a.length b.length)).length:=by rw [abg (by omega)]; exact h
   simp only [acz,getD_eq_getElem?_getD,List.getElem?_zipWith,getElem?_eq_getElem ha,getElem?_eq_getElem hb,Option.getD_some]
  rw [e,ah8,ah8]
 ·rw [aue (by rw [abm]; omega),aue (by omega),aue (by omega),Rat.add_zero]
theorem axh {a:List Rat} {i:Nat}:(ab7 a).getD i 0 = -a.getD i 0:=by
 simp only [ab7,getD_eq_getElem?_getD,getElem?_map]
 cases a[i]? with
 | none=>show (0:Rat) = -0; grind
 | some x=>rfl
theorem a2u {a b:List Rat} {n i:Nat} (h:a.length <= n):(ai3 a b n).getD i 0 = if i < n then a.getD i 0 else b.getD (i - n) 0:=by
 have hl:=abg h
 simp only [ai3]
 split
 ·rw [<- ah8 (a:=a) (n:=n),getD_eq_getElem?_getD,getD_eq_getElem?_getD,getElem?_append_left (by omega)]
 ·rw [<- ah8 (a:=b) (n:=n),getD_eq_getElem?_getD,getD_eq_getElem?_getD,getElem?_append_right (by omega),hl]
theorem at4 (k:Nat) {a:List Rat} {n:Nat}:dec k (aax a n) = dec k a:=ajq k (fun i _=>ah8)
theorem ada (k:Nat) {a b:List Rat}:dec k (acz a b) = T.add k (dec k a) (dec k b):=ayi k (fun i _=>a09)
theorem aex (k:Nat) {a:List Rat}:dec k (ab7 a) = T.neg k (dec k a):=ayq k (fun i _=>axh)
theorem auq {k:Nat} {a b:List Rat} (h:a.length <= 2 ^ k):dec (k + 1) (ai3 a b (2 ^ k)) = (dec k a, dec k b):=by
 have h1:dec k ((ai3 a b (2 ^ k)).take (2 ^ k)) = dec k a:=ajq k (fun i hi=>by rw [ae0,if_pos hi,a2u h,if_pos hi])
 have h2:dec k ((ai3 a b (2 ^ k)).drop (2 ^ k)) = dec k b:=ajq k (fun i hi=>by rw [ae2,a2u h,if_neg (by omega)]; congr 1; omega)
 simp only [dec,h1,h2]
theorem aph {k:Nat} {a:List Rat} (h:abo a = true):dec k a = T.zero k:=by
 refine ao8 k (fun i _=>?_)
 rw [getD_eq_getElem?_getD]
 cases hx:a[i]? with
 | none=>rfl
 | some x =>
  have:=List.all_eq_true.1 h x (mem_of_getElem? hx)
  simpa using this
def Nl (k:Nat) (a:List Rat):Prop:=a = [] \/ ∃ j,j <= k /\ a.length = 2 ^ j
theorem Nl.le {k:Nat} {a:List Rat} (h:Nl k a):a.length <= 2 ^ k:=by
 rcases h with rfl | ⟨j,hj,h⟩
 ·simp
 ·rw [h]; exact Nat.pow_le_pow_right (by omega) hj
theorem Nl.mono {k l:Nat} {a:List Rat} (h:Nl k a) (hl:k <= l):Nl l a:=by
 rcases h with h | ⟨j,hj,h⟩
 ·exact .inl h
 ·exact .inr ⟨j,by omega,h⟩
def aan (ts:List (List Rat)) (k:Nat):T k:=dec k (ts.getD k [])
def pT (ts:List (List Rat)):Nat -> List Rat -> List Rat -> List Rat
  | k, a, b =>
    let x:=if a.length < b.length then b else a
    let y:=if a.length < b.length then a else b
    if abo x || abo y then [] else if x.length = 1 then [x.getD 0 0 * y.getD 0 0]
    else match k with
      | 0=>[]
      | k + 1 =>
        if y.length <= x.length / 2 then ai3 (pT ts k (x.take (x.length / 2)) y) (pT ts k (x.drop (x.length / 2)) y) (x.length / 2)
        else ai3 (acz (pT ts k (x.take (x.length / 2)) (y.take (x.length / 2))) (pT ts k (pT ts k (x.drop (x.length / 2)) (y.drop (x.length / 2))) (ts.getD (x.length.log2 - 1) [])))
          (acz (pT ts k (x.take (x.length / 2)) (y.drop (x.length / 2))) (pT ts k (x.drop (x.length / 2)) (y.take (x.length / 2)))) (x.length / 2)
end Go.Lw
namespace Go.Lw
theorem T.mul_low (r:(k:Nat) -> T k) (k:Nat) (x u:T k):T.mul r (k + 1) (x, T.zero k) (u, T.zero k) = (T.mul r k x u, T.zero k):=by
 simp only [T.mul,T.mul_zero,T.zero_mul,T.add_zero]
theorem T.mul_half (r:(k:Nat) -> T k) (k:Nat) (x y u:T k):T.mul r (k + 1) (x, y) (u, T.zero k) = (T.mul r k x u, T.mul r k y u):=by
 simp only [T.mul,T.mul_zero,T.zero_mul,T.add_zero,T.zero_add]
theorem T.mul_ofQ (r:(k:Nat) -> T k):∀ (k:Nat) (p q:Rat), T.mul r k (T.ofQ k p) (T.ofQ k q) = T.ofQ k (p * q)
 | 0,p,q=>rfl
 | k + 1,p,q=>by simp only [T.ofQ]; rw [T.mul_low,T.mul_ofQ r k]
theorem a7f:abo [] = true:=rfl
theorem az2 (j:Nat):(2 ^ (j + 1)).log2 - 1 = j:=by rw [Nat.log2_two_pow]; omega
theorem adt {j:Nat} {a:List Rat} (h:a.length = 2 ^ (j + 1)):(a.take (2 ^ j)).length = 2 ^ j:=by
 simp [h,Nat.pow_succ]; omega
theorem ad9 {j:Nat} {a:List Rat} (h:a.length = 2 ^ (j + 1)):(a.drop (2 ^ j)).length = 2 ^ j:=by
 simp [h,Nat.pow_succ]; omega
theorem ab5 (j:Nat):2 ^ (j + 1) / 2 = 2 ^ j:=by rw [Nat.pow_succ]; omega
theorem a0i (ts:List (List Rat)) (k:Nat) (a b:List Rat) (h:a.length < b.length):pT ts k a b = pT ts k b a:=by
 unfold pT
 simp only [if_pos h,if_neg (show ¬ b.length < a.length by omega)]
theorem bgf (ts:List (List Rat)) (Q:Nat -> List Rat -> List Rat -> List Rat -> Prop)
  (hcomm:∀ j a b c,Q j a b c -> Q j b a c)
  (hzero:∀ j a b,Nl j a -> Nl j b -> (abo a = true \/ abo b = true) -> Q j a b [])
  (hone:∀ j p q,Q j [p] [q] [p * q])
  (hup:∀ j a b c,Nl j a -> Nl j b -> Q j a b c -> Q (j + 1) a b c)
  (hhalf:∀ j a b c d,a.length = 2 ^ (j + 1) -> Nl j b -> Q j (a.take (2 ^ j)) b c -> Q j (a.drop (2 ^ j)) b d -> Q (j + 1) a b (ai3 c d (2 ^ j)))
  (hfull:∀ j a b c1 c2 c3 c4 c5, a.length = 2 ^ (j + 1) -> b.length = 2 ^ (j + 1) -> Q j (a.take (2 ^ j)) (b.take (2 ^ j)) c1 -> Q j (a.drop (2 ^ j)) (b.drop (2 ^ j)) c2 ->
   Q j c2 (ts.getD j []) c3 -> Q j (a.take (2 ^ j)) (b.drop (2 ^ j)) c4 -> Q j (a.drop (2 ^ j)) (b.take (2 ^ j)) c5 -> Q (j + 1) a b (ai3 (acz c1 c3) (acz c4 c5) (2 ^ j)))
  (hnl:∀ j a b c,Q j a b c -> Nl j c) (m:Nat) (hr:∀ j,j < m -> Nl j (ts.getD j [])) :
  ∀ (j k:Nat) (a b:List Rat),j <= m -> j <= k -> Nl j a -> Nl j b -> Q j a b (pT ts k a b):=by
 intro j
 induction j with
 | zero =>
  intro k a b _ _ ha hb
  have hla:=ha.le
  have hlb:=hb.le
  have key:∀ a b:List Rat, Nl 0 a -> Nl 0 b -> ¬ a.length < b.length -> Q 0 a b (pT ts k a b):=by
   intro a b ha hb hlt
   have hla:=ha.le
   have hlb:=hb.le
   unfold pT
   simp only [if_neg hlt]
   split
   ·rename_i h
    rw [or_eq_true] at h
    exact hzero 0 a b ha hb h
   ·rename_i h
    simp only [or_eq_true,not_or,Bool.not_eq_true] at h
    have h1:a ≠ []:=fun h'=>by rw [h'] at h; cases h.1
    have h2:b ≠ []:=fun h'=>by rw [h'] at h; cases h.2
    obtain ⟨p,rfl⟩:∃ p,a = [p]:=List.length_eq_one_iff.1 (by have:=List.length_pos_iff.2 h1; omega)
    obtain ⟨q,rfl⟩:∃ q,b = [q]:=List.length_eq_one_iff.1 (by have:=List.length_pos_iff.2 h2; omega)
    simp only [length_cons,length_nil,if_true]
    exact hone 0 p q
  by_cases hlt:a.length < b.length
  ·rw [a0i ts k a b hlt]; exact hcomm _ _ _ _ (key b a hb ha (by omega))
  ·exact key a b ha hb hlt
 | succ j ih =>
  intro k a b hjm hjk ha hb
  have key:∀ a b:List Rat, Nl (j + 1) a -> Nl (j + 1) b -> ¬ a.length < b.length -> Q (j + 1) a b (pT ts k a b):=by
   intro a b ha hb hlt
   by_cases hs:Nl j a
   ·have hbs:Nl j b:=by
     rcases hb with rfl | ⟨i,hi,h⟩
     ·exact .inl rfl
     ·by_cases hij:i <= j
      ·exact .inr ⟨i,hij,h⟩
      ·have h1:=hs.le
       have h2:2 ^ (j + 1) <= 2 ^ i:=Nat.pow_le_pow_right (by omega) (by omega)
       rw [Nat.pow_succ] at h2
       have:=Nat.two_pow_pos j
       omega
    exact hup j a b _ hs hbs (ih k a b (by omega) (by omega) hs hbs)
   ·have hal:a.length = 2 ^ (j + 1):=by
     rcases ha with rfl | ⟨i,hi,h⟩
     ·exact absurd (.inl rfl) hs
     ·by_cases hij:i <= j
      ·exact absurd (.inr ⟨i,hij,h⟩) hs
      ·rw [h,show i = j + 1 by omega]
    obtain ⟨k,rfl⟩:∃ k',k = k' + 1:=⟨k - 1,by omega⟩
    have h2j:=Nat.two_pow_pos j
    have hx:Nl j (a.take (2 ^ j)):=.inr ⟨j,le_refl _,adt hal⟩
    have hy:Nl j (a.drop (2 ^ j)):=.inr ⟨j,le_refl _,ad9 hal⟩
    unfold pT
    simp only [if_neg hlt]
    split
    ·rename_i h
     rw [or_eq_true] at h
     exact hzero _ a b ha hb h
    ·rename_i h
     simp only [or_eq_true,not_or,Bool.not_eq_true] at h
     rw [if_neg (by rw [hal,Nat.pow_succ]; omega)]
     simp only [hal,ab5,az2]
     split
     ·rename_i hbl
      have hbs:Nl j b:=by
       rcases hb with rfl | ⟨i,hi,h'⟩
       ·exact .inl rfl
       ·by_cases hij:i <= j
        ·exact .inr ⟨i,hij,h'⟩
        ·have h2 : 2 ^ (j + 1) <= 2 ^ i := Nat.pow_le_pow_right (by omega) (by omega)
         rw [Nat.pow_succ] at h2
         omega
      exact hhalf j a b _ _ hal hbs (ih k _ _ (by omega) (by omega) hx hbs) (ih k _ _ (by omega) (by omega) hy hbs)
     ·rename_i hbl
      have hbl':b.length = 2 ^ (j + 1):=by
       rcases hb with rfl | ⟨i,hi,h'⟩
       ·simp at hbl
       ·by_cases hij:i <= j
        ·have : 2 ^ i <= 2 ^ j := Nat.pow_le_pow_right (by omega) hij
         omega
        ·rw [h',show i = j + 1 by omega]
      have hu:Nl j (b.take (2 ^ j)):=.inr ⟨j,le_refl _,adt hbl'⟩
      have hv:Nl j (b.drop (2 ^ j)):=.inr ⟨j,le_refl _,ad9 hbl'⟩
      have h2:=ih k _ _ (by omega) (by omega) hy hv
      exact hfull j a b _ _ _ _ _ hal hbl' (ih k _ _ (by omega) (by omega) hx hu) h2 (ih k _ _ (by omega) (by omega) (hnl _ _ _ _ h2) (hr j (by omega))) (ih k _ _ (by omega) (by omega) hx hv) (ih k _ _ (by omega) (by omega) hy hu)
  by_cases hlt:a.length < b.length
  ·rw [a0i ts k a b hlt]; exact hcomm _ _ _ _ (key b a hb ha (by omega))
  ·exact key a b ha hb hlt
theorem aek (ts:List (List Rat)) (m:Nat) (hr:∀ j, j < m -> Nl j (ts.getD j [])) (j k:Nat) (a b:List Rat) (hj:j <= m) (hk:j <= k) (ha:Nl j a) (hb:Nl j b) :
  Nl j (pT ts k a b) /\ dec j (pT ts k a b) = T.mul (aan ts) j (dec j a) (dec j b):=by
 refine bgf ts (fun j a b c=>Nl j c /\ dec j c = T.mul (aan ts) j (dec j a) (dec j b)) ?_ ?_ ?_ ?_ ?_ ?_ (fun _ _ _ _ h=>h.1) m hr j k a b hj hk ha hb
 ·intro j a b c h; exact ⟨h.1,by rw [h.2,T.mul_comm]⟩
 ·intro j a b ha hb h
  refine ⟨.inl rfl,?_⟩
  rw [agm]
  rcases h with h | h
  ·rw [aph h,T.zero_mul]
  ·rw [aph h,T.mul_zero]
 ·intro j p q
  exact ⟨.inr ⟨0,zero_le _,rfl⟩,by rw [am7,am7,am7,T.mul_ofQ]⟩
 ·intro j a b c ha hb h
  refine ⟨h.1.mono (by omega),?_⟩
  rw [akm ha.le,akm hb.le,akm h.1.le,T.mul_low,h.2]
 ·intro j a b c d ha hb hc hd
  refine ⟨.inr ⟨j + 1,le_refl _,?_⟩,?_⟩
  ·rw [ama hc.1.le hd.1.le,Nat.pow_succ]; omega
  ·rw [auq hc.1.le, akm hb.le, hc.2, hd.2]
   simp only [dec]
   rw [T.mul_half]
 ·intro j a b c1 c2 c3 c4 c5 ha hb h1 h2 h3 h4 h5
  refine ⟨.inr ⟨j + 1,le_refl _,?_⟩,?_⟩
  ·have l1:=h1.1.le
   have l3:=h3.1.le
   have l4:=h4.1.le
   have l5:=h5.1.le
   rw [ama (by rw [abm]; omega) (by rw [abm]; omega),Nat.pow_succ]; omega
  ·have l1:=h1.1.le
   have l3:=h3.1.le
   rw [auq (by rw [abm]; omega),ada,ada,h1.2,h3.2,h4.2,h5.2,h2.2]
   rfl
def aar:Nat -> List Rat -> List Rat
  | 0,a=>if abo a then [] else a
  | j + 1,a=>if abo (a.drop (2 ^ j)) then aar j (a.take (2 ^ j)) else a
def T.isZ:(k:Nat) -> T k -> Bool
  | 0,q=>decide ((q:Rat) = 0)
  | k + 1,x=>isZ k x.1 && isZ k x.2
theorem T.isZ_iff:∀ (k:Nat) (x:T k), T.isZ k x = true ↔ x = T.zero k
 | 0,x=>by simp only [T.isZ,decide_eq_true_eq]; rfl
 | k + 1, x=>by
  simp only [T.isZ,and_eq_true,T.isZ_iff k,T.zero]
  constructor
  ·intro h; exact Prod.ext h.1 h.2
  ·intro h; rw [h]; exact ⟨rfl,rfl⟩
def enc:(k:Nat) -> T k -> List Rat
  | 0,q=>[q]
  | k + 1,x=>enc k x.1 ++ enc k x.2
def sh:(k:Nat) -> T k -> List Rat
  | 0,q=>if (q:Rat) = 0 then [] else [q]
  | k + 1,x=>if T.isZ k x.2 then sh k x.1 else enc k x.1 ++ enc k x.2
theorem ald:∀ (k:Nat) (x:T k), (enc k x).length = 2 ^ k
 | 0,x=>rfl
 | k + 1,x=>by simp only [enc,length_append,ald k]; rw [Nat.pow_succ]; omega
theorem atf:∀ (k:Nat) (x:T k), dec k (enc k x) = x
 | 0,x=>rfl
 | k + 1, x=>by
  simp only [enc,dec]
  rw [List.take_append_of_le_length (by rw [ald]; exact le_refl _), take_of_length_le (by rw [ald]; exact le_refl _), List.drop_append_of_le_length (by rw [ald]; exact le_refl _),
   drop_eq_nil_of_le (by rw [ald]; exact le_refl _),nil_append,atf k,atf k]
theorem ant:∀ (k:Nat) (a:List Rat), a.length = 2 ^ k -> enc k (dec k a) = a
 | 0, a, h=>by
  obtain ⟨p,rfl⟩:=List.length_eq_one_iff.1 h
  rfl
 | k + 1, a, h=>by
  simp only [enc,dec]
  rw [ant k _ (adt h),ant k _ (ad9 h),List.take_append_drop]
theorem a9q {k:Nat} {a:List Rat} (h:a.length <= 2 ^ k):abo a = T.isZ k (dec k a):=by
 rw [Bool.eq_iff_iff,T.isZ_iff]
 constructor
 ·exact aph
 ·intro h0
  have h1:enc k (dec k (aax a (2 ^ k))) = aax a (2 ^ k):=ant k _ (abg h)
  rw [at4,h0] at h1
  have h2:∀ k, abo (enc k (T.zero k)) = true:=by
   intro k
   induction k with
   | zero=>rfl
   | succ k ih=>simp only [enc,T.zero,abo,all_append,and_eq_true] at ih ⊢; exact ⟨ih,ih⟩
  have h3:=h2 k
  rw [h1] at h3
  simp only [abo,aax,all_append,and_eq_true] at h3
  exact h3.1
theorem ard:∀ (k:Nat) {a:List Rat}, Nl k a -> aar k a = sh k (dec k a)
 | 0, a, h=>by
  have hl:=h.le
  simp only [aar,sh]
  match a,hl with
  | [],_=>rfl
  | [p],_=>simp [abo,dec]
 | k + 1, a, h=>by
  have hl:=h.le
  have h1:(a.drop (2 ^ k)).length <= 2 ^ k:=by simp; rw [Nat.pow_succ] at hl; omega
  have e1:aar (k + 1) a = if abo (a.drop (2 ^ k)) = true then aar k (a.take (2 ^ k)) else a:=rfl
  have e2:∀ x y:T k,sh (k + 1) (x,y) = if T.isZ k y = true then sh k x else enc k x ++ enc k y:=fun _ _=>rfl
  rw [e1,show dec (k + 1) a = (dec k (a.take (2 ^ k)),dec k (a.drop (2 ^ k))) from rfl,e2,a9q h1]
  by_cases hz:T.isZ k (dec k (a.drop (2 ^ k))) = true
  ·rw [if_pos hz, if_pos hz]
   refine ard k ?_
   rcases h with rfl | ⟨j,hj,h⟩
   ·exact .inl (by simp)
   ·by_cases hjk:j <= k
    ·rw [take_of_length_le (by rw [h]; exact Nat.pow_le_pow_right (by omega) hjk)]
     exact .inr ⟨j,hjk,h⟩
    ·exact .inr ⟨k,le_refl _,adt (by rw [h,show j = k + 1 by omega])⟩
  ·rw [if_neg hz, if_neg hz]
   have hlen:a.length = 2 ^ (k + 1):=by
    rcases h with rfl | ⟨j,hj,h⟩
    ·exfalso; apply hz
     rw [List.drop_nil,T.isZ_iff,agm]
    ·by_cases hjk:j <= k
     ·exfalso; apply hz
      rw [drop_eq_nil_of_le (by rw [h]; exact Nat.pow_le_pow_right (by omega) hjk),T.isZ_iff,agm]
     ·rw [h,show j = k + 1 by omega]
   rw [ant k _ (adt hlen),ant k _ (ad9 hlen),List.take_append_drop]
theorem ang:∀ (k:Nat) (x:T k), Nl k (sh k x)
 | 0, q=>by
  simp only [sh]; split
  ·exact .inl rfl
  ·exact .inr ⟨0,le_refl _,rfl⟩
 | k + 1, x=>by
  simp only [sh]; split
  ·exact (ang k x.1).mono (by omega)
  ·exact .inr ⟨k + 1,le_refl _,by rw [length_append,ald,ald,Nat.pow_succ]; omega⟩
theorem aby:∀ (k:Nat) (x:T k), dec k (sh k x) = x
 | 0, q=>by
  simp only [sh]; split
  ·rename_i h; exact h.symm
  ·rfl
 | k + 1, x=>by
  simp only [sh]; split
  ·rename_i h
   rw [T.isZ_iff] at h
   rw [akm (ang k x.1).le,aby k,<- h]
  ·exact atf (k + 1) x
end Go.Lw
namespace Go.Lw
def Cd (D N:Nat) (l:List Rat):Prop:=0 < D /\ ∀ q ∈ l,∃ n:Int,q * ((D:Int):Rat) = (n:Rat) /\ n.natAbs <= N
theorem Cd.mono {D N N':Nat} {l:List Rat} (h:Cd D N l) (hn:N <= N'):Cd D N' l :=
 ⟨h.1,fun q hq=>by obtain ⟨n,h1,h2⟩:=h.2 q hq; exact ⟨n,h1,by omega⟩⟩
theorem Cd.sub {D N:Nat} {l l':List Rat} (h:Cd D N l) (hs:∀ q ∈ l',q ∈ l):Cd D N l':=⟨h.1,fun q hq=>h.2 q (hs q hq)⟩
theorem Cd.scale {D N c:Nat} {l:List Rat} (h:Cd D N l) (hc:0 < c):Cd (D * c) (N * c) l:=by
 refine ⟨Nat.mul_pos h.1 hc,fun q hq=>?_⟩
 obtain ⟨n,h1,h2⟩:=h.2 q hq
 refine ⟨n * c,?_,?_⟩
 ·rw [Int.natCast_mul,Rat.intCast_mul,<- Rat.mul_assoc,h1,Rat.intCast_mul]
 ·rw [Int.natAbs_mul,natAbs_natCast]; exact mul_le_mul_right _ h2
theorem Cd.nil {D N:Nat} (h:0 < D):Cd D N []:=⟨h,fun q hq=>by cases hq⟩
theorem Cd.app {D N:Nat} {a b:List Rat} (h:Cd D N a) (h':Cd D N b):Cd D N (a ++ b) :=
 ⟨h.1,fun q hq=>by rcases List.mem_append.1 hq with hq | hq; exact h.2 q hq; exact h'.2 q hq⟩
theorem Cd.zeros {D N n:Nat} (h:0 < D):Cd D N (List.replicate n 0) :=
 ⟨h,fun q hq=>⟨0,by rw [(List.mem_replicate.1 hq).2,Rat.zero_mul]; rfl,by simp⟩⟩
theorem Cd.wide {D N n:Nat} {a:List Rat} (h:Cd D N a):Cd D N (aax a n):=h.app (Cd.zeros h.1)
theorem Cd.join {D N n:Nat} {a b:List Rat} (h:Cd D N a) (h':Cd D N b):Cd D N (ai3 a b n):=h.wide.app h'.wide
theorem Cd.minus {D N:Nat} {a:List Rat} (h:Cd D N a):Cd D N (ab7 a):=by
 refine ⟨h.1,fun q hq=>?_⟩
 obtain ⟨p,hp,rfl⟩:=List.mem_map.1 hq
 obtain ⟨n,h1,h2⟩:=h.2 p hp
 refine ⟨-n,?_,by omega⟩
 rw [Rat.intCast_neg,<- h1,Rat.neg_mul]
theorem Cd.plus {D N N':Nat} {a b:List Rat} (h:Cd D N a) (h':Cd D N' b):Cd D (N + N') (acz a b):=by
 refine ⟨h.1,fun q hq=>?_⟩
 have h1:Cd D N (aax a (max a.length b.length)):=h.wide
 have h2:Cd D N' (aax b (max a.length b.length)):=h'.wide
 unfold acz at hq
 obtain ⟨i,hi,rfl⟩:=List.mem_iff_getElem.1 hq
 rw [List.getElem_zipWith]
 obtain ⟨n,e1,e2⟩:=h1.2 _ (List.getElem_mem (by simp at hi; omega:i < (aax a (max a.length b.length)).length))
 obtain ⟨m,e3,e4⟩:=h2.2 _ (List.getElem_mem (by simp at hi; omega:i < (aax b (max a.length b.length)).length))
 refine ⟨n + m,?_,by have:=Int.natAbs_add_le n m; omega⟩
 rw [Rat.add_mul,e1,e3,Rat.intCast_add]
theorem Cd.mul1 {D N D' N':Nat} {p q:Rat} (h:Cd D N [p]) (h':Cd D' N' [q]):Cd (D * D') (N * N') [p * q]:=by
 refine ⟨Nat.mul_pos h.1 h'.1,fun x hx=>?_⟩
 rw [List.mem_singleton.1 hx]
 obtain ⟨n,e1,e2⟩:=h.2 p (by simp)
 obtain ⟨m,e3,e4⟩:=h'.2 q (by simp)
 refine ⟨n * m,?_,by rw [Int.natAbs_mul]; exact Nat.mul_le_mul e2 e4⟩
 rw [Rat.intCast_mul,<- e1,<- e3,Int.natCast_mul,Rat.intCast_mul]
 grind
theorem Cd.qb {D N e:Nat} {l:List Rat} (h:Cd D N l) (hD:D < 2 ^ e) (hN:N < 2 ^ e) {q:Rat} (hq:q ∈ l):Qb e q:=by
 obtain ⟨n,h1,h2⟩:=h.2 q hq
 have hD0:((D:Int):Rat) ≠ 0:=by
  intro h0
  have:(D:Int) = 0:=Rat.intCast_eq_zero_iff.1 h0
  have:=h.1; omega
 have hq2:q = Rat.divInt n D:=by
  rw [Rat.divInt_eq_div,<- h1,Rat.mul_div_cancel hD0]
 have h0:=h.1
 obtain ⟨e1,e2⟩:=ame (n:=n) (d:=(D:Int)) (by omega)
 rw [hq2]
 refine ⟨by omega,by rw [natAbs_natCast] at e2; omega⟩
def rR (D:Nat):Nat -> Nat
  | 0=>1
  | j + 1=>rR D j * rR D j * D
def rM (D N:Nat):Nat -> Nat
  | 0=>1
  | j + 1=>2 * (rM D N j * rM D N j * (D + N))
theorem agn {D:Nat} (h:0 < D):∀ j, 0 < rR D j
 | 0=>by simp [rR]
 | j + 1=>Nat.mul_pos (Nat.mul_pos (agn h j) (agn h j)) h
theorem aqi (D N:Nat):∀ j, rR D j <= rM D N j
 | 0=>le_refl _
 | j + 1=>by
  have h1:=Nat.mul_le_mul (Nat.mul_le_mul (aqi D N j) (aqi D N j)) (Nat.le_add_right D N)
  simp only [rR,rM]; omega
theorem bqk (ts:List (List Rat)) (m D N:Nat) (hts:∀ j, j < m -> Nl j (ts.getD j []) /\ Cd D N (ts.getD j [])) (hD:0 < D) (j k:Nat) (a b:List Rat) (hj:j <= m) (hk:j <= k) (ha:Nl j a) (hb:Nl j b)
  {Da Na Db Nb:Nat} (ca:Cd Da Na a) (cb:Cd Db Nb b):Cd (Da * Db * rR D j) (Na * Nb * rM D N j) (pT ts k a b):=by
 have key:=bgf ts (fun j a b c=>Nl j c /\ (j <= m -> ∀ Da Na Db Nb:Nat,Cd Da Na a -> Cd Db Nb b -> Cd (Da * Db * rR D j) (Na * Nb * rM D N j) c)) ?_ ?_ ?_ ?_ ?_ ?_ (fun _ _ _ _ h=>h.1) m (fun j hj=>(hts j hj).1) j k a b hj hk ha hb
 ·exact key.2 hj _ _ _ _ ca cb
 ·intro j a b c h
  refine ⟨h.1,fun hj Da Na Db Nb ca cb=>?_⟩
  rw [Nat.mul_comm Da,Nat.mul_comm Na]; exact h.2 hj _ _ _ _ cb ca
 ·intro j a b ha hb h
  exact ⟨.inl rfl,fun hj Da Na Db Nb ca cb=>Cd.nil (Nat.mul_pos (Nat.mul_pos ca.1 cb.1) (agn hD j))⟩
 ·intro j p q
  refine ⟨.inr ⟨0,zero_le _,rfl⟩,fun hj Da Na Db Nb ca cb=>?_⟩
  have h1:=(ca.mul1 cb).scale (agn hD j)
  exact h1.mono (mul_le_mul_left _ (aqi D N j))
 ·intro j a b c ha hb h
  refine ⟨h.1.mono (by omega),fun hj Da Na Db Nb ca cb=>?_⟩
  have h1:=(h.2 (by omega) _ _ _ _ ca cb).scale (Nat.mul_pos (agn hD j) hD)
  have e1:Da * Db * rR D j * (rR D j * D) = Da * Db * rR D (j + 1):=by simp only [rR]; grind
  rw [e1] at h1
  refine h1.mono ?_
  have h2:=mul_le_mul_left (rM D N j) (Nat.mul_le_mul (aqi D N j) (Nat.le_add_right D N))
  have h3:rM D N j * (rR D j * D) <= rM D N (j + 1):=by simp only [rM,Nat.mul_assoc] at *; omega
  rw [Nat.mul_assoc (Na * Nb)]
  exact mul_le_mul_left _ h3
 ·intro j a b c d ha hb hc hd
  refine ⟨.inr ⟨j + 1,le_refl _,by rw [ama hc.1.le hd.1.le,Nat.pow_succ]; omega⟩,fun hj Da Na Db Nb ca cb=>?_⟩
  have ca1:Cd Da Na (a.take (2 ^ j)):=ca.sub (fun q hq=>List.mem_of_mem_take hq)
  have ca2:Cd Da Na (a.drop (2 ^ j)):=ca.sub (fun q hq=>List.mem_of_mem_drop hq)
  have h1:=((hc.2 (by omega) _ _ _ _ ca1 cb).join (hd.2 (by omega) _ _ _ _ ca2 cb) (n:=2 ^ j)).scale (Nat.mul_pos (agn hD j) hD)
  have e1:Da * Db * rR D j * (rR D j * D) = Da * Db * rR D (j + 1):=by simp only [rR]; grind
  rw [e1] at h1
  refine h1.mono ?_
  have h2:=mul_le_mul_left (rM D N j) (Nat.mul_le_mul (aqi D N j) (Nat.le_add_right D N))
  have h3:rM D N j * (rR D j * D) <= rM D N (j + 1):=by simp only [rM,Nat.mul_assoc] at *; omega
  rw [Nat.mul_assoc (Na * Nb)]
  exact mul_le_mul_left _ h3
 ·intro j a b c1 c2 c3 c4 c5 ha hb h1 h2 h3 h4 h5
  refine ⟨.inr ⟨j + 1,le_refl _,?_⟩,fun hj Da Na Db Nb ca cb=>?_⟩
  ·have l1:=h1.1.le
   have l3:=h3.1.le
   have l4:=h4.1.le
   have l5:=h5.1.le
   rw [ama (by rw [abm]; omega) (by rw [abm]; omega),Nat.pow_succ]; omega
  have ca1:Cd Da Na (a.take (2 ^ j)):=ca.sub (fun q hq=>List.mem_of_mem_take hq)
  have ca2:Cd Da Na (a.drop (2 ^ j)):=ca.sub (fun q hq=>List.mem_of_mem_drop hq)
  have cb1:Cd Db Nb (b.take (2 ^ j)):=cb.sub (fun q hq=>List.mem_of_mem_take hq)
  have cb2:Cd Db Nb (b.drop (2 ^ j)):=cb.sub (fun q hq=>List.mem_of_mem_drop hq)
  have k2:=h2.2 (by omega) _ _ _ _ ca2 cb2
  have k3:=h3.2 (by omega) _ _ _ _ k2 (hts j (by omega)).2
  have k1:=(h1.2 (by omega) _ _ _ _ ca1 cb1).scale (Nat.mul_pos (agn hD j) hD)
  have k4:=(h4.2 (by omega) _ _ _ _ ca1 cb2).scale (Nat.mul_pos (agn hD j) hD)
  have k5:=(h5.2 (by omega) _ _ _ _ ca2 cb1).scale (Nat.mul_pos (agn hD j) hD)
  have e1:Da * Db * rR D j * (rR D j * D) = Da * Db * rR D (j + 1):=by simp only [rR]; grind
  have e3:Da * Db * rR D j * D * rR D j = Da * Db * rR D (j + 1):=by simp only [rR]; grind
  rw [e1] at k1 k4 k5
  rw [e3] at k3
  have b1:rM D N j * (rR D j * D) <= rM D N j * rM D N j * D:=by rw [Nat.mul_assoc]; exact mul_le_mul_left _ (mul_le_mul_right _ (aqi D N j))
  have b2:∀ x, Na * Nb * rM D N j * (rR D j * D) + Na * Nb * x <= Na * Nb * (rM D N j * rM D N j * D + x):=by
   intro x
   rw [Nat.mul_add,Nat.mul_assoc (Na * Nb)]
   exact Nat.add_le_add_right (mul_le_mul_left _ b1) _
  refine Cd.join (Cd.mono (k1.plus k3) ?_) (Cd.mono (k4.plus k5) ?_)
  ·have e4 : Na * Nb * rM D N j * N * rM D N j = Na * Nb * (rM D N j * rM D N j * N) := by grind
   rw [e4]
   refine le_trans (b2 _) (mul_le_mul_left _ ?_)
   simp only [rM]; rw [<- Nat.mul_add]; omega
  ·have e4 : Na * Nb * rM D N j * (rR D j * D) <= Na * Nb * (rM D N j * rM D N j * D) := by rw [Nat.mul_assoc (Na * Nb)]; exact mul_le_mul_left _ b1
   refine le_trans (Nat.add_le_add e4 e4) ?_
   rw [<- Nat.mul_add]
   refine mul_le_mul_left _ ?_
   simp only [rM]
   have:=mul_le_mul_left (rM D N j * rM D N j) (Nat.le_add_right D N)
   omega
def eB (r:Nat):Nat -> Nat
  | 0=>0
  | j + 1=>2 * eB r j + r + 2
theorem baf {D N r:Nat} (hD:D <= 2 ^ r) (hN:N <= 2 ^ r):∀ j, rM D N j <= 2 ^ eB r j
 | 0=>le_refl _
 | j + 1=>by
  have h1:=baf hD hN j
  have h2:=Nat.mul_le_mul (Nat.mul_le_mul h1 h1) (Nat.add_le_add hD hN)
  simp only [rM,eB]
  have e:2 ^ (2 * eB r j + r + 2) = 2 * (2 ^ eB r j * 2 ^ eB r j * (2 ^ r + 2 ^ r)):=by
   rw [pow_add,pow_add,Nat.two_mul,pow_add]; grind
  rw [e]
  exact mul_le_mul_left _ h2
def Cb (e:Nat) (l:List Rat):Prop:=∃ D N,Cd D N l /\ D <= 2 ^ e /\ N <= 2 ^ e
def RB (r:Nat) (ts:List (List Rat)):Prop:=∃ D N,0 < D /\ (∀ d ∈ ts,Cd D N d) /\ D <= 2 ^ r /\ N <= 2 ^ r
theorem abf {a b:Nat} (h:a <= b):2 ^ a <= 2 ^ b:=Nat.pow_le_pow_right (by omega) h
theorem Cb.mono {e f:Nat} {l:List Rat} (h:Cb e l) (hf:e <= f):Cb f l:=by
 obtain ⟨D,N,h1,h2,h3⟩:=h
 exact ⟨D,N,h1,le_trans h2 (abf hf),le_trans h3 (abf hf)⟩
theorem Cb.sub {e:Nat} {l l':List Rat} (h:Cb e l) (hs:∀ q ∈ l', q ∈ l):Cb e l':=by
 obtain ⟨D,N,h1,h2,h3⟩:=h
 exact ⟨D,N,h1.sub hs,h2,h3⟩
theorem Cb.take {e n:Nat} {l:List Rat} (h:Cb e l):Cb e (l.take n):=h.sub (fun q hq=>List.mem_of_mem_take hq)
theorem Cb.drop {e n:Nat} {l:List Rat} (h:Cb e l):Cb e (l.drop n):=h.sub (fun q hq=>List.mem_of_mem_drop hq)
theorem Cb.nil:Cb 0 []:=⟨1,1,Cd.nil (by omega),by simp,by simp⟩
theorem Cb.wide {e n:Nat} {a:List Rat} (h:Cb e a):Cb e (aax a n):=by
 obtain ⟨D,N,h1,h2,h3⟩:=h
 exact ⟨D,N,h1.wide,h2,h3⟩
theorem Cb.minus {e:Nat} {a:List Rat} (h:Cb e a):Cb e (ab7 a):=by
 obtain ⟨D,N,h1,h2,h3⟩:=h
 exact ⟨D,N,h1.minus,h2,h3⟩
theorem Cb.plus {e f:Nat} {a b:List Rat} (h:Cb e a) (h':Cb f b):Cb (e + f + 1) (acz a b):=by
 obtain ⟨D,N,h1,h2,h3⟩:=h
 obtain ⟨D',N',h4,h5,h6⟩:=h'
 have k1:=h1.scale h4.1
 have k2:=h4.scale h1.1
 rw [Nat.mul_comm D'] at k2
 refine ⟨_,_,k1.plus k2,?_,?_⟩
 ·rw [Nat.pow_succ,pow_add]; have:=Nat.mul_le_mul h2 h5; omega
 ·rw [Nat.pow_succ, pow_add]
  have e1:=Nat.mul_le_mul h3 h5
  have e2:=Nat.mul_le_mul h6 h2
  rw [Nat.mul_comm (2 ^ f)] at e2
  omega
theorem Cb.qb {e:Nat} {l:List Rat} (h:Cb e l) {q:Rat} (hq:q ∈ l):Qb (e + 1) q:=by
 obtain ⟨D,N,h1,h2,h3⟩:=h
 have:=Nat.two_pow_pos e
 exact h1.qb (by rw [Nat.pow_succ]; omega) (by rw [Nat.pow_succ]; omega) hq
theorem Cb.qs {e:Nat} {l:List Rat} (h:Cb e l) (he:e < 4398046511104) {q:Rat} (hq:q ∈ l):Qs q:=(h.qb hq).qs he
def a49 (ts:List (List Rat)) (m r:Nat):Prop:=(∀ j,j < m -> Nl j (ts.getD j [])) /\ RB r ts
theorem RB.get {r:Nat} {ts:List (List Rat)} (h:RB r ts):∃ D N, 0 < D /\ (∀ j, Cd D N (ts.getD j [])) /\ D <= 2 ^ r /\ N <= 2 ^ r:=by
 obtain ⟨D,N,h0,h1,h2,h3⟩:=h
 refine ⟨D,N,h0,fun j=>?_,h2,h3⟩
 rw [getD_eq_getElem?_getD]
 cases hx:ts[j]? with
 | none=>exact Cd.nil h0
 | some d=>exact h1 d (mem_of_getElem? hx)
theorem RB.cb {r:Nat} {ts:List (List Rat)} (h:RB r ts) (j:Nat):Cb r (ts.getD j []):=by
 obtain ⟨D,N,h0,h1,h2,h3⟩:=h.get
 exact ⟨D,N,h1 j,h2,h3⟩
theorem Cb.mul {ts:List (List Rat)} {m r:Nat} (ht:a49 ts m r) {j k e f:Nat} {a b:List Rat} (hj:j <= m) (hk:j <= k) (ha:Nl j a) (hb:Nl j b) (ca:Cb e a) (cb:Cb f b) :
  Cb (e + f + eB r j) (pT ts k a b):=by
 obtain ⟨D,N,h0,h1,h2,h3⟩:=ht.2.get
 obtain ⟨Da,Na,a1,a2,a3⟩:=ca
 obtain ⟨Db,Nb,b1,b2,b3⟩:=cb
 refine ⟨_,_,bqk ts m D N (fun j hj=>⟨ht.1 j hj,h1 j⟩) h0 j k a b hj hk ha hb a1 b1,?_,?_⟩
 ·rw [pow_add, pow_add]
  exact Nat.mul_le_mul (Nat.mul_le_mul a2 b2) (le_trans (aqi D N j) (baf h2 h3 j))
 ·rw [pow_add, pow_add]
  exact Nat.mul_le_mul (Nat.mul_le_mul a3 b3) (baf h2 h3 j)
theorem a94 (r:Nat):∀ j,eB r j <= eB r (j + 1):=fun j=>by simp only [eB]; omega
def sB (r:Nat):Nat -> Nat -> Nat
  | 0,e=>e
  | j + 1,e=>sB r j (4 * e + 3 * eB r j + r + 1)
theorem a5h (r:Nat):∀ j e, e <= sB r j e
 | 0,e=>le_refl _
 | j + 1,e=>by have:=a5h r j (4 * e + 3 * eB r j + r + 1); simp only [sB]; omega
theorem anf (r:Nat):∀ j {e f:Nat}, e <= f -> sB r j e <= sB r j f
 | 0,e,f,h=>h
 | j + 1,e,f,h=>by simp only [sB]; exact anf r j (by omega)
theorem brg (r j e:Nat):sB r j e <= sB r (j + 1) e:=by simp only [sB]; exact anf r j (by omega)
theorem a1z (r e:Nat) {i j:Nat} (h:i <= j):sB r i e <= sB r j e:=by
  induction j with
  | zero => have : i = 0 := by omega
            subst this; exact le_refl _
  | succ j ih =>
    by_cases hij:i = j + 1
    · rw [hij]; exact le_refl _
    · exact le_trans (ih (by omega)) (brg r j e)
theorem bnu (r e:Nat) {j:Nat} (h:j <= 2):sB r j e <= 16 * e + 17 * r + 29:=by
 refine le_trans (a1z r e h) ?_
 simp only [sB,eB]; omega
theorem bdj (r e:Nat) {j:Nat} (h:j <= 3):sB r j e <= 64 * e + 177 * r + 333:=by
 refine le_trans (a1z r e h) ?_
 simp only [sB,eB]; omega
theorem a2a (r:Nat) {j:Nat} (h:j <= 3):eB r j <= 7 * (r + 2):=by
 match j,h with
 | 0,_=>simp only [eB]; omega
 | 1,_=>simp only [eB]; omega
 | 2,_=>simp only [eB]; omega
 | 3,_=>simp only [eB]; omega
def lm (n:Nat):Nat:=if n <= 2 then 200000000000 else 50000000000
theorem aln (n:Nat):lm n <= 200000000000:=by unfold lm; split <;> omega
theorem aea (n:Nat):50000000000 <= lm n:=by unfold lm; split <;> omega
theorem a95 (r:Nat) {j:Nat} (h:j <= 5):eB r j <= 31 * (r + 2):=by
 have:∀ i,eB r i <= eB r (i + 1):=a94 r
 have h5:eB r j <= eB r 5:=by
  match j,h with
  | 0,_=>simp only [eB]; omega
  | 1,_=>simp only [eB]; omega
  | 2,_=>simp only [eB]; omega
  | 3,_=>simp only [eB]; omega
  | 4,_=>simp only [eB]; omega
  | 5,_=>exact le_refl _
 refine le_trans h5 ?_
 simp only [eB]; omega
end Go.Lw
namespace Go.Lw
def nA (l:List Rat):AV:=.lst 3 (l.map qA)
def nR (l:List Rt):AV:=.lst 3 (l.map Rt.av)
def ad7 (ts:List (List Rat)):AV:=.agg [.lst 1 (ts.map nA)]
def ae5 (ts:List (List Rt)):AV:=.agg [.lst 1 (ts.map nR)]
def bkx (n:Nat):Nat:=if n <= 1 then 0 else (n - 1).log2 + 1
theorem a74 {n k:Nat} (h1:∀ j, j < k -> 2 ^ j < n) (h2:n <= 2 ^ k):bkx n = k:=by
 unfold bkx
 split
 ·rename_i h
  cases k with
  | zero=>rfl
  | succ k=>have:=h1 0 (by omega); omega
 ·rename_i h
  cases k with
  | zero=>simp at h2; omega
  | succ k =>
   have h3:=h1 k (by omega)
   congr 1
   rw [Nat.log2_eq_iff (by omega)]
   omega
def lvl (n:Nat):Int:=if 2 ^ bkx n = n then (bkx n:Int) else -1
theorem bca (j:Nat):bkx (2 ^ j) = j:=a74 (fun i hi=>Nat.pow_lt_pow_right (by omega) hi) (le_refl _)
theorem am4 (j:Nat):lvl (2 ^ j) = j:=by unfold lvl; rw [bca,if_pos rfl]
theorem ash {n:Nat} (h:0 <= lvl n):∃ j:Nat, n = 2 ^ j /\ lvl n = (j:Int):=by
 unfold lvl at h ⊢
 split at h
 ·rename_i h1; exact ⟨bkx n,h1.symm,by rw [if_pos h1]⟩
 ·omega
theorem aj9 {k:Nat} (hk:k <= 62):IntKind.i64.wrap ((1:Int) * 2 ^ (min (k:Int).toNat IntKind.i64.bits)) = ((2 ^ k:Nat):Int):=by
 have h1:min (k:Int).toNat IntKind.i64.bits = k:=by simp [IntKind.bits]; omega
 have h2:2 ^ k <= 2 ^ 62:=abf hk
 have h3:(2:Nat) ^ 62 = 4611686018427387904:=by decide
 have h4:((2:Int) ^ k) = ((2 ^ k:Nat):Int):=by simp
 rw [h1,Int.one_mul,h4]
 generalize 2 ^ k = x at *
 exact i64_in (by omega)
def agk (m:Nat) (a:List Rt):Nat:=if a ≠ [] /\ (lvl a.length < 0 \/ (m:Int) < lvl a.length) then 10 else if a.all Rt.valid then 0 else 2
theorem atp {m:Nat} {a:List Rt} (h:agk m a = 0) (hok:∀ r ∈ a, r.ok):a = (a.map Rt.q).map rt /\ Nl m (a.map Rt.q):=by
 unfold agk at h
 split at h
 ·cases h
 ·rename_i h1
  split at h
  ·rename_i h2
   rw [all_eq_true] at h2
   refine ⟨?_,?_⟩
   ·rw [map_map]
    refine (List.map_id _).symm.trans ?_
    exact List.map_congr_left (fun r hr=>Rt.eq_rt (hok r hr) (h2 r hr))
   ·by_cases h0:a = []
    ·subst h0; exact .inl rfl
    ·have h3:0 <= lvl a.length /\ lvl a.length <= m:=by
      constructor
      ·exact Int.not_lt.1 (fun h=>h1 ⟨h0,.inl h⟩)
      ·exact Int.not_lt.1 (fun h=>h1 ⟨h0,.inr h⟩)
     obtain ⟨j,e1,e2⟩:=ash h3.1
     exact .inr ⟨j,by omega,by rw [length_map,e1]⟩
  ·cases h
theorem af5 (l:List Rat):nR (l.map rt) = nA l:=by
 unfold nR nA
 rw [map_map]; rfl
theorem Nl.len5 {k:Nat} {a:List Rat} (h:Nl k a) (hk:k <= 5):a.length <= 32:=le_trans h.le (abf (b:=5) hk)
theorem qZ:aev (.agg [.v (.bool false), .v (.slice none 0 0), .v (.slice none 0 0)]) (qA 0):=by
 refine ⟨rfl,?_⟩
 intro j x y hx hy
 match j,hx,hy with
 | 0,hx,hy=>cases hx; cases hy; exact ⟨rfl,.refl _⟩
 | 1,hx,hy=>cases hx; cases hy; exact ⟨rfl,.nil _ _ _⟩
 | 2,hx,hy=>cases hx; cases hy; exact ⟨rfl,.nil _ _ _⟩
theorem aev.refl {e:AV} (h:∀ c ∈ e.cells, c.one = true):aev e e :=
 ⟨rfl,fun j x y hx hy=>by rw [hx] at hy; cases hy; exact ⟨h x (mem_of_getElem? hx),.refl _⟩⟩
theorem bfw (q:Rat):∀ c ∈ (qA q).cells, c.one = true:=by
 intro c hc
 have:c = bl (rt q).neg \/ c = ws (rt q).num \/ c = ws (rt q).den:=by simpa [qA,Rt.av,AV.cells] using hc
 rcases this with rfl | rfl | rfl <;> rfl
theorem a07 (a:List Rat) (n:Nat) (h:a.length <= n) :
  BlkSub (.row 3 (a.map qA ++ (List.replicate n (.agg [.v (.bool false),.v (.slice none 0 0),.v (.slice none 0 0)])).drop (a.map qA).length)) (.row 3 ((aax a n).map qA)):=by
 refine .row ?_ ?_
 ·simp only [aax,length_append,length_map,List.length_drop,List.length_replicate]
 ·intro i e e' he he'
  by_cases hi:i < a.length
  ·rw [getElem?_append_left (by simpa using hi)] at he
   simp only [aax,map_append] at he'
   rw [getElem?_append_left (by simpa using hi),he] at he'
   cases he'
   simp only [getElem?_map,map_eq_some_iff] at he
   obtain ⟨q,_,rfl⟩:=he
   exact aev.refl (bfw q)
  ·rw [getElem?_append_right (by simpa using hi), List.drop_replicate, List.getElem?_replicate] at he
   simp only [aax,map_append] at he'
   rw [getElem?_append_right (by simpa using hi),map_replicate,List.getElem?_replicate] at he'
   split at he
   ·cases he
    split at he'
    ·cases he'; exact qZ
    ·cases he'
   ·cases he
theorem atw {p w:List Rat} {i:Nat} {s:Rat} (hl:p.length = w.length) (hi:i < p.length) (hs:p[i] = s) :
  ((p.take i ++ w.drop i).map qA).set i (qA s) = (p.take (i + 1) ++ w.drop (i + 1)).map qA:=by
 rw [<- map_set]
 congr 1
 subst hs
 rw [List.set_append_right i _ (by simp; omega)]
 have h1:i - (p.take i).length = 0:=by simp; omega
 rw [h1,List.drop_eq_getElem_cons (by omega),List.set_cons_zero,List.take_succ_eq_append_getElem hi,append_assoc]
 rfl
theorem a19 {a b:List Rat} {i:Nat} (hi:i < (acz a b).length) :
  (acz a b)[i] = (aax a (max a.length b.length)).getD i 0 + (aax b (max a.length b.length)).getD i 0:=by
 have h:=a09 (a:=a) (b:=b) (i:=i)
 rw [getD_eq_getElem?_getD,getElem?_eq_getElem hi,Option.getD_some] at h
 rw [h,ah8,ah8]
theorem getD_some {l:List Rat} {i:Nat} (h:i < l.length):l[i]? = some (l.getD i 0):=by
 rw [getD_eq_getElem?_getD,getElem?_eq_getElem h]; rfl
theorem aly {l:List Rat} {i:Nat} (h:i < l.length):l.getD i 0 ∈ l:=by
 rw [getD_eq_getElem?_getD,getElem?_eq_getElem h]; exact List.getElem_mem h
theorem azv {p w:List Rat} {i:Nat} (hl:p.length = w.length) (hi:i < p.length):(p.take i ++ w.drop i)[i]? = some (w.getD i 0):=by
 rw [getElem?_append_right (by simp; omega),getElem?_drop]
 have:i + (i - (p.take i).length) = i:=by simp; omega
 rw [this]
 exact getD_some (by omega)
theorem aao {α:Type} {l:List α} {i:Nat} {x:α} (h:l[i]? = some x):l.take (i + 1) = l.take i ++ [x]:=by
 obtain ⟨hi,rfl⟩:=List.getElem?_eq_some_iff.1 h
 exact List.take_succ_eq_append_getElem hi
theorem ai7 {q:Rat} (h:af7 q = 0):q = 0:=by
 unfold af7 at h
 split at h
 ·cases h
 ·split at h
  ·cases h
  ·grind
theorem bj0:rt 0 = ⟨false,[],[]⟩:=rfl
theorem a0s {q:Rat} (h:cond (cond (rt q).neg true (aaa .gtr ((rt q).num.length:Int) 0)) true (aaa .gtr ((rt q).den.length:Int) 0) = true):q ≠ 0:=by
 intro h0
 rw [h0,bj0] at h
 cases h
theorem awh {q:Rat} (h:cond (cond (rt q).neg true (aaa .gtr ((rt q).num.length:Int) 0)) true (aaa .gtr ((rt q).den.length:Int) 0) = false):q = 0:=by
 cases hn:(rt q).neg
 ·rw [hn] at h
  cases hm:aaa .gtr ((rt q).num.length:Int) 0
  ·have h1:(rt q).num = []:=by
    cases hl:(rt q).num with
    | nil=>rfl
    | cons x l=>rw [hl] at hm; simp [aaa] at hm
   rw [<- agd q]
   exact Rt.zero (fun h=>h.2 h1)
  ·rw [hm] at h; cases h
 ·rw [hn] at h; cases h
theorem acj {n:Nat} (h:n <= 281474976710656):IntKind.i64.wrap ((n:Int).tdiv 2) = ((n / 2:Nat):Int):=by
 rw [show ((n:Int).tdiv 2) = ((n / 2:Nat):Int) from (Int.ofNat_tdiv n 2).symm]
 exact i64_in (by omega)
theorem asz {m j:Nat} {a:List Rat} (h:a.length <= 2 ^ j) (hj:j <= m):aar m a = aar j a:=by
  induction m with
  | zero => have : j = 0 := by omega
            subst this; rfl
  | succ m ih =>
    by_cases hjm:j = m + 1
    · rw [hjm]
    · have h1 : a.length <= 2 ^ m := le_trans h (abf (by omega))
      have h2:aar (m + 1) a = if abo (a.drop (2 ^ m)) = true then aar m (a.take (2 ^ m)) else a:=rfl
      rw [h2,drop_eq_nil_of_le h1,if_pos a7f,take_of_length_le h1]
      exact ih (by omega)
def bet (a:List Rat) (n:Nat):Prop:=(n = 0 /\ a = []) \/ ∃ i,n = 2 ^ i /\ i <= 5 /\ n <= a.length /\ aar 5 a = aar i (a.take n)
theorem a7o {a:List Rat} (h:Nl 5 a):bet a a.length:=by
 rcases h with rfl | ⟨j,hj,h⟩
 ·exact .inl ⟨rfl,rfl⟩
 ·exact .inr ⟨j,h,hj,le_refl _,by rw [take_length]; exact asz (by omega) hj⟩
theorem bft {a:List Rat} {i:Nat}:(a.drop (2 ^ i)).take (2 ^ (i + 1) - 2 ^ i) = (a.take (2 ^ (i + 1))).drop (2 ^ i):=by
 rw [List.drop_take]
theorem a5u {a:List Rat} {n:Nat} (h:bet a n) (h1:1 < n) (hz:abo ((a.drop (n / 2)).take (n - n / 2)) = true):bet a (n / 2):=by
 rcases h with ⟨h,_⟩ | ⟨i,rfl,hi,hl,hs⟩
 ·omega
 ·cases i with
  | zero=>simp at h1
  | succ i =>
   rw [ab5] at hz ⊢
   rw [bft] at hz
   have h2:aar (i + 1) (a.take (2 ^ (i + 1))) = if abo ((a.take (2 ^ (i + 1))).drop (2 ^ i)) = true then aar i ((a.take (2 ^ (i + 1))).take (2 ^ i)) else a.take (2 ^ (i + 1)):=rfl
   rw [h2,if_pos hz,List.take_take,Nat.min_eq_left (abf (by omega))] at hs
   exact .inr ⟨i,rfl,by omega,le_trans (abf (by omega)) hl,hs⟩
theorem a83 {a:List Rat} (h:bet a 1) (hz:abo (a.take 1) = true):aar 5 a = []:=by
 rcases h with ⟨h,_⟩ | ⟨i,h0,hi,hl,hs⟩
 ·omega
 ·have:i = 0:=by
   cases i with
   | zero=>rfl
   | succ i=>rw [Nat.pow_succ] at h0; omega
  subst this
  rw [hs]
  show (if abo (a.take 1) = true then [] else _) = _
  rw [if_pos hz]
theorem a7j {a:List Rat} {n:Nat} (h:bet a n) (h1:1 < n -> abo ((a.drop (n / 2)).take (n - n / 2)) = false) (h2:n = 1 -> abo (a.take 1) = false):aar 5 a = a.take n:=by
 rcases h with ⟨rfl,rfl⟩ | ⟨i,rfl,hi,hl,hs⟩
 ·rfl
 ·cases i with
  | zero =>
   rw [hs]
   show (if abo (a.take 1) = true then [] else _) = _
   rw [h2 rfl]; rfl
  | succ i =>
   have h3:=h1 (by have:=Nat.two_pow_pos i; rw [Nat.pow_succ]; omega)
   rw [ab5,bft] at h3
   rw [hs]
   have h4:aar (i + 1) (a.take (2 ^ (i + 1))) = if abo ((a.take (2 ^ (i + 1))).drop (2 ^ i)) = true then aar i ((a.take (2 ^ (i + 1))).take (2 ^ i)) else a.take (2 ^ (i + 1)):=rfl
   rw [h4,h3]; rfl
theorem bet.le {a:List Rat} {n:Nat} (h:bet a n):n <= a.length:=by
 rcases h with ⟨rfl,rfl⟩ | ⟨i,rfl,hi,hl,hs⟩
 ·exact le_refl _
 ·exact hl
theorem axn (a:List Rat) (l m:Nat):AV.lst 3 (((a.map qA).drop l).take m) = nA ((a.drop l).take m):=by
 unfold nA; rw [map_take,List.map_drop]
theorem ajl {n:Nat} {a:List Rat} (h:Nl n a) (hn:n <= 5):aar 5 a = sh n (dec n a):=by
 rw [asz h.le hn,ard n h]
theorem BlkSub.of_ {x y z:Blk} (h:BlkSub x y) (e:z = x):BlkSub z y:=e ▸ h
theorem a9a {a:List Rat} {i:Nat} (hi:i < (ab7 a).length):(ab7 a)[i] = -(a.getD i 0):=by
 have h:=axh (a:=a) (i:=i)
 rw [getD_eq_getElem?_getD,getElem?_eq_getElem hi,Option.getD_some] at h
 exact h
end Go.Lw
namespace Go.Lw
theorem bjo {ts:List (List Rat)} {k:Nat} {x y:List Rat} (hl:y.length <= x.length) (h:abo x = true \/ abo y = true):pT ts k x y = []:=by
 unfold pT
 simp only [if_neg (show ¬ x.length < y.length by omega)]
 rw [if_pos (by rw [or_eq_true]; exact h)]
theorem bl4 {ts:List (List Rat)} {k:Nat} {p q:Rat} (h:¬ (abo [p] = true \/ abo [q] = true)):pT ts k [p] [q] = [p * q]:=by
 unfold pT
 simp only [length_cons,length_nil,Nat.lt_irrefl,if_false]
 rw [if_neg (by rw [or_eq_true]; exact h)]
 simp
theorem bhr {ts:List (List Rat)} {k i:Nat} {x y:List Rat} (hx:x.length = 2 ^ (i + 1)) (hl:y.length <= 2 ^ i) (h:¬ (abo x = true \/ abo y = true)) :
  pT ts (k + 1) x y = ai3 (pT ts k (x.take (2 ^ i)) y) (pT ts k (x.drop (2 ^ i)) y) (2 ^ i):=by
 have h2:=Nat.two_pow_pos i
 have hlt:¬ x.length < y.length:=by rw [hx,Nat.pow_succ]; omega
 conv=>lhs; unfold pT
 simp only [if_neg hlt]
 rw [if_neg (by rw [or_eq_true]; exact h),if_neg (by rw [hx,Nat.pow_succ]; omega)]
 simp only [hx,ab5]
 rw [if_pos hl]
theorem bg1 {ts:List (List Rat)} {k i:Nat} {x y:List Rat} (hx:x.length = 2 ^ (i + 1)) (hl:¬ y.length <= 2 ^ i) (hyx:y.length <= x.length) (h:¬ (abo x = true \/ abo y = true)) :
  pT ts (k + 1) x y = ai3 (acz (pT ts k (x.take (2 ^ i)) (y.take (2 ^ i))) (pT ts k (pT ts k (x.drop (2 ^ i)) (y.drop (2 ^ i))) (ts.getD i [])))
   (acz (pT ts k (x.take (2 ^ i)) (y.drop (2 ^ i))) (pT ts k (x.drop (2 ^ i)) (y.take (2 ^ i)))) (2 ^ i):=by
 conv=>lhs; unfold pT
 simp only [if_neg (show ¬ x.length < y.length by omega)]
 have h2:=Nat.two_pow_pos i
 rw [if_neg (by rw [or_eq_true]; exact h),if_neg (by rw [hx,Nat.pow_succ]; omega)]
 simp only [hx,ab5,az2]
 rw [if_neg hl]
theorem bfk (r:Nat) {i j:Nat} (h:i <= j):eB r i <= eB r j:=by
  induction j with
  | zero => have : i = 0 := by omega
            subst this; exact le_refl _
  | succ j ih =>
    by_cases hij:i = j + 1
    · rw [hij]; exact le_refl _
    · exact le_trans (ih (by omega)) (a94 r j)
theorem akb {j:Nat} {x:List Rat} (h:Nl j x):x.length = 0 \/ x.length = 1 \/ ∃ i, i + 1 <= j /\ x.length = 2 ^ (i + 1):=by
 rcases h with rfl | ⟨i,hi,h⟩
 ·exact .inl rfl
 ·cases i with
  | zero=>exact .inr (.inl h)
  | succ i=>exact .inr (.inr ⟨i,hi,h⟩)
theorem bba {j i:Nat} {x:List Rat} (h:Nl j x) (hl:x.length <= 2 ^ i):Nl i x:=by
 rcases h with rfl | ⟨l,hl',h⟩
 ·exact .inl rfl
 ·refine .inr ⟨l, ?_, h⟩
  rcases lt_or_ge i l with h1 | h1
  ·have := Nat.pow_lt_pow_right (a := 2) (by omega) h1
   omega
  ·exact h1
theorem bja {j i:Nat} {x:List Rat} (h:Nl j x) (hl:¬ x.length <= 2 ^ i) (hu:x.length <= 2 ^ (i + 1)):x.length = 2 ^ (i + 1):=by
 rcases h with rfl | ⟨l,hl',h⟩
 ·simp at hl
 ·rcases lt_or_ge i l with h1 | h1
  ·rcases lt_or_ge (i + 1) l with h2 | h2
   ·have := Nat.pow_lt_pow_right (a := 2) (by omega) h2
    omega
   ·rw [h,show l = i + 1 by omega]
  ·have:=abf h1
   omega
theorem as3 {ts:List (List Rat)} {j:Nat} (h:j < ts.length):(ts.map nA)[j]? = some (nA (ts.getD j [])):=by
 rw [getElem?_map,getD_eq_getElem?_getD,getElem?_eq_getElem h]; rfl
theorem ajr (x:List Rat) (n:Nat):AV.lst 3 (((x.map qA).drop 0).take (n - 0)) = nA (x.take n):=by
 rw [Nat.sub_zero,drop_zero,<- map_take]; rfl
theorem ag0 (x:List Rat) (n:Nat):AV.lst 3 (((x.map qA).drop n).take ((x.map qA).length - n)) = nA (x.drop n):=by
 rw [<- List.map_drop,take_of_length_le (by simp)]; rfl
def ap0 (ts:List (List Rat)) (i:Nat) (a:List Rat):List Rat :=
  acz (pT ts i (a.take (2 ^ i)) (a.take (2 ^ i))) (ab7 (pT ts i (pT ts i (a.drop (2 ^ i)) (a.drop (2 ^ i))) (ts.getD i [])))
theorem a48 {ts:List (List Rat)} {m r:Nat} (ht:a49 ts m r) {i e:Nat} {a:List Rat} (hi:i + 1 <= m) (ha:a.length = 2 ^ (i + 1)) (ca:Cb e a) :
  Nl i (ap0 ts i a) /\ dec i (ap0 ts i a) = T.norm (aan ts) i (dec (i + 1) a) /\ Cb (4 * e + 3 * eB r i + r + 1) (ap0 ts i a):=by
 have n1:Nl i (a.take (2 ^ i)):=.inr ⟨i,le_refl _,adt ha⟩
 have n2:Nl i (a.drop (2 ^ i)):=.inr ⟨i,le_refl _,ad9 ha⟩
 have s1:=aek ts m ht.1 i i _ _ (by omega) (by omega) n1 n1
 have s2:=aek ts m ht.1 i i _ _ (by omega) (by omega) n2 n2
 have s3:=aek ts m ht.1 i i _ _ (by omega) (by omega) s2.1 (ht.1 i (by omega))
 have c1:=Cb.mul ht (k:=i) (show i <= m by omega) (by omega) n1 n1 ca.take ca.take
 have c2:=Cb.mul ht (k:=i) (show i <= m by omega) (by omega) n2 n2 ca.drop ca.drop
 have c3:=Cb.mul ht (k:=i) (show i <= m by omega) (by omega) s2.1 (ht.1 i (by omega)) c2 (ht.2.cb i)
 refine ⟨?_,?_,?_⟩
 ·have l1:=s1.1.le
  have l3:=s3.1.le
  rcases s1.1 with h1 | ⟨j1,hj1,h1⟩ <;> rcases s3.1 with h3 | ⟨j3,hj3,h3⟩
  ·refine .inl ?_
   apply List.eq_nil_of_length_eq_zero
   unfold ap0
   rw [abm,acx,h1,h3]; rfl
  ·refine .inr ⟨j3, hj3, ?_⟩
   unfold ap0
   rw [abm,acx,h1,h3]; simp
  ·refine .inr ⟨j1, hj1, ?_⟩
   unfold ap0
   rw [abm,acx,h1,h3]; simp
  ·refine .inr ⟨max j1 j3, by omega, ?_⟩
   unfold ap0
   rw [abm,acx,h1,h3]
   rcases Nat.le_total j1 j3 with h | h
   ·rw [Nat.max_eq_right h,Nat.max_eq_right (abf h)]
   ·rw [Nat.max_eq_left h,Nat.max_eq_left (abf h)]
 ·unfold ap0 T.norm
  rw [ada,aex,s1.2,s3.2,s2.2]
  rfl
 ·exact (c1.plus c3.minus).mono (by omega)
theorem T.sgn_ofQ (r:(k:Nat) -> T k):∀ (k:Nat) (q:Rat), T.sgn r k (T.ofQ k q) = af7 q
 | 0,q=>rfl
 | k + 1,q=>by simp only [T.ofQ]; rw [T.sgn_low,T.sgn_ofQ r k]
theorem a6h (r:(k:Nat) -> T k) {i j:Nat} {a:List Rat} (h:a.length <= 2 ^ i) (hij:i <= j):T.sgn r j (dec j a) = T.sgn r i (dec i a):=by
  induction j with
  | zero => have : i = 0 := by omega
            subst this; rfl
  | succ j ih =>
    by_cases h':i = j + 1
    · rw [h']
    · rw [akm (le_trans h (abf (by omega))), T.sgn_low]
      exact ih (by omega)
theorem ah6:∀ (k:Nat) {a:List Rat} {q:Rat}, q ∈ aar k a -> q ∈ a
 | 0, a, q, h=>by
  have e:aar 0 a = if abo a = true then [] else a:=rfl
  rw [e] at h
  split at h
  ·cases h
  ·exact h
 | k + 1, a, q, h=>by
  have e:aar (k + 1) a = if abo (a.drop (2 ^ k)) = true then aar k (a.take (2 ^ k)) else a:=rfl
  rw [e] at h
  split at h
  ·exact List.mem_of_mem_take (ah6 k h)
  ·exact h
theorem Cb.sh {e k:Nat} {a:List Rat} (h:Cb e a) (hn:Nl k a):Cb e (sh k (dec k a)):=by
 rw [<- ard k hn]; exact Cb.sub h (fun q hq=>ah6 k hq)
theorem apz {x y:Int} (hx:x = -1 \/ x = 0 \/ x = 1) (hy:y = -1 \/ y = 0 \/ y = 1):IntKind.i64.wrap (aec .mul x y) = x * y:=by
 apply a02
 rcases hx with rfl | rfl | rfl <;> rcases hy with rfl | rfl | rfl <;> simp
theorem azs {x y z w:Int} (h:cond (aaa .eql x y) true (aaa .eql z w) = true):x = y \/ z = w:=by
 cases hx:aaa .eql x y
 ·rw [hx] at h; exact .inr (by simpa [aaa] using h)
 ·exact .inl (by simpa [aaa] using hx)
theorem att {x y z w:Int} (h:cond (aaa .eql x y) true (aaa .eql z w) = false):¬ (x = y \/ z = w):=by
 cases hx:aaa .eql x y
 ·rw [hx] at h
  have h1:x ≠ y:=by simpa [aaa] using hx
  have h2:z ≠ w:=by simpa [aaa] using h
  exact fun h=>h.elim h1 h2
 ·rw [hx] at h; cases h
end Go.Lw
namespace Go.Lw
abbrev lq (a:List Rt):List Rat:=a.map Rt.q
abbrev llq (rs:List (List Rt)):List (List Rat):=rs.map lq
def bgs (rs:List (List Rt)):Nat -> Nat -> Nat
  | 0,_=>0
  | f + 1, k=>if (rs.getD k []).length ≠ 2 ^ k then 10 else if agk k (rs.getD k []) ≠ 0 then agk k (rs.getD k [])
    else if T.sgn (aan (llq rs)) k (aan (llq rs) k) < 0 then 3 else bgs rs f (k + 1)
def aeb (rs:List (List Rt)):Nat:=if 5 < rs.length then 4 else bgs rs rs.length 0
def aed:List Nat -> Nat
  | []=>0
  | e :: l=>if e ≠ 0 then e else aed l
def aaz (rs:List (List Rt)) (xs:List (List Rt)):Nat:=if aeb rs ≠ 0 then aeb rs else aed (xs.map (agk rs.length))
theorem T.mul_congr {r r':(k:Nat) -> T k}:∀ (k:Nat), (∀ j, j < k -> r j = r' j) -> ∀ x y, T.mul r k x y = T.mul r' k x y
 | 0,_,x,y=>rfl
 | k + 1, h, x, y=>by
  have ih:=T.mul_congr k (fun j hj=>h j (by omega))
  simp only [T.mul,ih,h k (by omega)]
theorem T.sgn_congr {r r':(k:Nat) -> T k}:∀ (k:Nat), (∀ j, j < k -> r j = r' j) -> ∀ x, T.sgn r k x = T.sgn r' k x
 | 0,_,x=>rfl
 | k + 1, h, x=>by
  have ih:=T.sgn_congr k (fun j hj=>h j (by omega))
  have im:=T.mul_congr k (fun j hj=>h j (by omega))
  simp only [T.sgn,T.norm,ih,im,h k (by omega)]
theorem ajy {ts:List (List Rat)} {k j:Nat} (h:j < k):aan (ts.take k) j = aan ts j:=by
 unfold aan
 simp only [getD_eq_getElem?_getD,getElem?_take,if_pos h]
theorem ami (rs:List (List Rt)) (k:Nat):(llq rs).getD k [] = lq (rs.getD k []):=by
 simp only [getD_eq_getElem?_getD,getElem?_map]
 cases rs[k]? <;> rfl
def a0f (rs:List (List Rt)) (k:Nat):Prop:=(rs.getD k []).length = 2 ^ k /\ agk k (rs.getD k []) = 0 /\ 0 <= T.sgn (aan (llq rs)) k (aan (llq rs) k)
theorem av1 {rs:List (List Rt)} {f k:Nat} (h:a0f rs k):bgs rs (f + 1) k = bgs rs f (k + 1):=by
 obtain ⟨h1,h2,h3⟩:=h
 show (if _ then _ else _) = _
 rw [if_neg (by rw [h1]; simp),if_neg (by rw [h2]; simp),if_neg (by omega)]
theorem a8z:∀ {f k:Nat} {rs:List (List Rt)}, bgs rs f k = 0 -> ∀ j, k <= j -> j < k + f -> a0f rs j
 | 0,k,rs,_,j,h1,h2=>by omega
 | f + 1, k, rs, h, j, h1, h2=>by
  have h':(if (rs.getD k []).length ≠ 2 ^ k then 10 else if agk k (rs.getD k []) ≠ 0 then agk k (rs.getD k [])
   else if T.sgn (aan (llq rs)) k (aan (llq rs) k) < 0 then 3 else bgs rs f (k + 1)) = 0:=h
  split at h'
  ·cases h'
  ·rename_i e1
   split at h'
   ·rename_i e2; exact absurd h' e2
   ·rename_i e2
    split at h'
    ·cases h'
    ·rename_i e3
     by_cases hj:j = k
     ·subst hj
      exact ⟨Decidable.not_not.1 e1,Decidable.not_not.1 e2,by omega⟩
     ·exact a8z h' j (by omega) (by omega)
theorem a7t:∀ {f k:Nat} {rs:List (List Rt)}, (∀ j, k <= j -> j < k + f -> a0f rs j) -> bgs rs f k = 0
 | 0,k,rs,_=>rfl
 | f + 1, k, rs, h=>by
  rw [av1 (h k (by omega) (by omega))]
  exact a7t (fun j h1 h2=>h j (by omega) (by omega))
theorem at2 {rs:List (List Rt)} (hok:∀ d ∈ rs, ∀ x ∈ d, x.ok) {k:Nat} (hk:k <= rs.length) (h:∀ j, j < k -> agk j (rs.getD j []) = 0):(rs.take k).map nR = ((llq rs).take k).map nA:=by
 apply List.ext_getElem?
 intro j
 simp only [getElem?_map,getElem?_take]
 by_cases hj:j < k
 ·rw [if_pos hj, if_pos hj]
  have hjl:j < rs.length:=by omega
  have h1:=h j hj
  rw [getD_eq_getElem?_getD,getElem?_eq_getElem hjl,Option.getD_some] at h1
  rw [getElem?_eq_getElem hjl]
  simp only [Option.map_some]
  congr 1
  have:=(atp h1 (fun x hx=>hok _ (List.getElem_mem hjl) x hx)).1
  rw [<- af5,<- this]
 ·rw [if_neg hj,if_neg hj]; rfl
theorem a0f.nl {rs:List (List Rt)} {k:Nat} (h:a0f rs k):Nl k ((llq rs).getD k []):=by
 rw [ami]; exact .inr ⟨k,le_refl _,by rw [length_map,h.1]⟩
theorem aw3 {ts:List (List Rat)} {k r:Nat} (h:∀ j, j < k -> Nl j (ts.getD j [])) (hr:RB r ts):a49 (ts.take k) k r:=by
 refine ⟨fun j hj=>?_,?_⟩
 ·have:=h j hj
  simp only [getD_eq_getElem?_getD,getElem?_take,if_pos hj] at this ⊢
  exact this
 ·obtain ⟨D, N, h0, h1, h2, h3⟩:=hr
  exact ⟨D,N,h0,fun d hd=>h1 d (List.mem_of_mem_take hd),h2,h3⟩
structure Tw (ts:List (List Rat)) (r:Nat):Prop where
  three:ts.length <= 3
  len:∀ j,j < ts.length -> (ts.getD j []).length = 2 ^ j
  pos:∀ j,j < ts.length -> 0 <= T.sgn (aan ts) j (aan ts j)
  rb:RB r ts
  le:r <= 5000000000
theorem Tw.five {ts:List (List Rat)} {r:Nat} (h:Tw ts r):ts.length <= 5:=le_trans h.three (by omega)
theorem Tw.ok {ts:List (List Rat)} {r:Nat} (h:Tw ts r):a49 ts ts.length r :=
 ⟨fun j hj=>.inr ⟨j,le_refl _,h.len j hj⟩,h.rb⟩
structure TR (rs:List (List Rt)) (r:Nat):Prop where
  ok:∀ d ∈ rs,∀ x ∈ d,x.ok
  len:∀ d ∈ rs,d.length <= 281474976710656
  ll:rs.length <= 281474976710656
  rb:RB r (llq rs)
  le:r <= 5000000000
  three:rs.length <= 3 \/ 5 < rs.length
theorem ab3 {rs:List (List Rt)} {r:Nat} (h:TR rs r) (hc:aeb rs = 0):Tw (llq rs) r /\ ae5 rs = ad7 (llq rs):=by
 unfold aeb at hc
 split at hc
 ·cases hc
 ·rename_i h5
  have hk:=a8z hc
  have hl:(llq rs).length = rs.length:=length_map _
  refine ⟨⟨by have:=h.three; rw [hl]; omega,fun j hj=>?_,fun j hj=>?_,h.rb,h.le⟩,?_⟩
  ·rw [ami,length_map]; exact (hk j (by omega) (by omega)).1
  ·exact (hk j (by omega) (by omega)).2.2
  ·unfold ae5 ad7
   have:=at2 h.ok (le_refl rs.length) (fun j hj=>(hk j (by omega) (by omega)).2.1)
   rw [take_length,take_of_length_le (by omega)] at this
   rw [this]
theorem a8x {m:Nat} {a:List Rat} (h:Nl m a):agk m (a.map rt) = 0:=by
 unfold agk
 rw [if_neg,if_pos]
 ·rw [all_eq_true]
  intro x hx
  obtain ⟨q,_,rfl⟩:=List.mem_map.1 hx
  exact a0z q
 ·rintro ⟨h0, h1⟩
  rw [length_map] at h1
  rcases h with rfl | ⟨j,hj,h⟩
  ·exact h0 rfl
  ·rw [h,am4] at h1; omega
theorem aha (a:List Rat):lq (a.map rt) = a:=by
 unfold lq
 rw [map_map]
 refine (List.map_congr_left (fun q _=>agd q)).trans (List.map_id _)
theorem an3 (ts:List (List Rat)):llq (ts.map (List.map rt)) = ts:=by
 unfold llq
 rw [map_map]
 refine (List.map_congr_left (fun a _=>aha a)).trans (List.map_id _)
theorem af1 (ts:List (List Rat)):ae5 (ts.map (List.map rt)) = ad7 ts:=by
 unfold ae5 ad7
 rw [map_map]
 congr 3
 exact List.map_congr_left (fun a _=>af5 a)
theorem Tw.chk {ts:List (List Rat)} {r:Nat} (h:Tw ts r):aeb (ts.map (List.map rt)) = 0:=by
 unfold aeb
 rw [length_map,if_neg (by have:=h.five; omega)]
 refine a7t (fun j _ hj=>?_)
 have e1:(ts.map (List.map rt)).getD j [] = (ts.getD j []).map rt:=by
  simp only [getD_eq_getElem?_getD,getElem?_map]
  cases ts[j]? <;> rfl
 refine ⟨?_,?_,?_⟩
 ·rw [e1,length_map]; exact h.len j (by omega)
 ·rw [e1]; exact a8x (.inr ⟨j,le_refl _,h.len j (by omega)⟩)
 ·rw [an3]; exact h.pos j (by omega)
theorem RB.qs {r:Nat} {ts:List (List Rat)} (h:RB r ts) (hr:r <= 5000000000):∀ d ∈ ts, ∀ q ∈ d, Qs q:=by
 obtain ⟨D,N,h0,h1,h2,h3⟩:=h
 intro d hd q hq
 exact Cb.qs ⟨D,N,h1 d hd,h2,h3⟩ (by omega) hq
theorem Tw.tr {ts:List (List Rat)} {r:Nat} (h:Tw ts r):TR (ts.map (List.map rt)) r:=by
 refine ⟨?_,?_,by rw [length_map]; have:=h.five; omega,by rw [an3]; exact h.rb,h.le,by rw [length_map]; exact .inl h.three⟩
 ·intro d hd x hx
  obtain ⟨a,ha,rfl⟩:=List.mem_map.1 hd
  obtain ⟨q,hq,rfl⟩:=List.mem_map.1 hx
  exact (h.rb.qs h.le a ha q hq).ok
 ·intro d hd
  obtain ⟨a,ha,rfl⟩:=List.mem_map.1 hd
  obtain ⟨j,hj,rfl⟩:=List.mem_iff_getElem.1 ha
  have:=h.len j hj
  rw [getD_eq_getElem?_getD,getElem?_eq_getElem hj,Option.getD_some] at this
  rw [length_map,this]
  have:=h.five
  have:2 ^ j <= 2 ^ 5:=abf (by omega)
  omega
theorem aei:∀ {l:List Nat}, aed l = 0 -> ∀ e ∈ l, e = 0
 | [],_,e,he=>by cases he
 | x :: l, h, e, he=>by
  have h':(if x ≠ 0 then x else aed l) = 0:=h
  split at h'
  ·rename_i hx; exact absurd h' hx
  ·rename_i hx
   rcases List.mem_cons.1 he with rfl | he
   ·exact Decidable.not_not.1 hx
   ·exact aei h' e he
theorem afz:∀ {l:List Nat}, (∀ e ∈ l, e = 0) -> aed l = 0
 | [],_=>rfl
 | x :: l, h=>by
  show (if x ≠ 0 then x else aed l) = 0
  rw [if_neg (by rw [h x (by simp)]; simp)]
  exact afz (fun e he=>h e (by simp [he]))
theorem ahv:∀ (l l':List Nat), aed l = 0 -> aed (l ++ l') = aed l'
 | [],l',_=>rfl
 | x :: l, l', h=>by
  have h0:=aei h x (by simp)
  show (if x ≠ 0 then x else aed (l ++ l')) = _
  rw [if_neg (by rw [h0]; simp)]
  exact ahv l l' (afz (fun e he=>aei h e (by simp [he])))
theorem ado {rs xs:List (List Rt)} (h:aaz rs xs = 0):aeb rs = 0 /\ ∀ a ∈ xs, agk rs.length a = 0:=by
 unfold aaz at h
 split at h
 ·rename_i h1; exact absurd h h1
 ·rename_i h1
  exact ⟨Decidable.not_not.1 h1,fun a ha=>aei h _ (List.mem_map.2 ⟨a,ha,rfl⟩)⟩
theorem ai6 {rs xs:List (List Rt)} (h1:aeb rs = 0) (h2:∀ a ∈ xs, agk rs.length a = 0):aaz rs xs = 0:=by
 unfold aaz
 rw [if_neg (by rw [h1]; simp)]
 refine afz (fun e he=>?_)
 obtain ⟨a,ha,rfl⟩:=List.mem_map.1 he
 exact h2 a ha
structure NR (a:List Rt) (e:Nat):Prop where
  ok:∀ x ∈ a,x.ok
  len:a.length <= 281474976710656
  cb:Cb e (lq a)
theorem NR.num {a:List Rt} {e m:Nat} (h:NR a e) (hn:agk m a = 0):nR a = nA (lq a) /\ Nl m (lq a):=by
 obtain ⟨h1,h2⟩:=atp hn h.ok
 refine ⟨?_,h2⟩
 rw [<- af5,<- h1]
theorem a3v {r j n e:Nat} (hj:j <= n) (h3:n <= 3) (hr:r <= 5000000000) (he:e <= lm n):sB r j e < 4398046511104:=by
 unfold lm at he
 split at he
 ·have := bnu r e (j := j) (by omega)
  omega
 ·have := bdj r e (j := j) (by omega)
  omega
theorem aq8 {rs:List (List Rt)} (h5:rs.length <= 5):∀ {k:Nat}, k <= rs.length -> (∀ j, j < k -> a0f rs j) -> aeb rs = bgs rs (rs.length - k) k
 | 0,_,_=>by unfold aeb; rw [if_neg (by omega)]; rfl
 | k + 1, hk, h=>by
  rw [aq8 h5 (k:=k) (by omega) (fun j hj=>h j (by omega)),show rs.length - k = (rs.length - (k + 1)) + 1 by omega,av1 (h k (by omega))]
theorem a1o {rs:List (List Rt)} (h5:rs.length <= 5) (h:∀ j, j < rs.length -> a0f rs j):aeb rs = 0:=by
 rw [aq8 h5 (le_refl _) h,Nat.sub_self]; rfl
theorem a1e {rs:List (List Rt)} (h5:rs.length <= 5) {k:Nat} {d:List Rt} (hd:rs[k]? = some d) (h:∀ j, j < k -> a0f rs j) (hl:d.length ≠ 2 ^ k):aeb rs = 10:=by
 have hk:=(List.getElem?_eq_some_iff.1 hd).1
 have e:rs.getD k [] = d:=by rw [getD_eq_getElem?_getD,hd]; rfl
 rw [aq8 h5 (k:=k) (by omega) h,show rs.length - k = (rs.length - (k + 1)) + 1 by omega]
 show (if _ then _ else _) = _
 rw [e,if_pos hl]
theorem a2v {rs:List (List Rt)} (h5:rs.length <= 5) {k:Nat} {d:List Rt} (hd:rs[k]? = some d) (h:∀ j, j < k -> a0f rs j) (hl:d.length = 2 ^ k) (hn:agk k d ≠ 0):aeb rs = agk k d:=by
 have hk:=(List.getElem?_eq_some_iff.1 hd).1
 have e:rs.getD k [] = d:=by rw [getD_eq_getElem?_getD,hd]; rfl
 rw [aq8 h5 (k:=k) (by omega) h,show rs.length - k = (rs.length - (k + 1)) + 1 by omega]
 show (if _ then _ else _) = _
 rw [e,if_neg (by rw [hl]; simp),if_pos hn]
theorem bf5 {rs:List (List Rt)} {k:Nat} {d:List Rt} (hd:rs[k]? = some d):aan (llq rs) k = dec k (lq d):=by
 unfold aan
 rw [ami,getD_eq_getElem?_getD,hd]; rfl
theorem a1h {rs:List (List Rt)} (h5:rs.length <= 5) {k:Nat} {d:List Rt} (hd:rs[k]? = some d) (h:∀ j, j < k -> a0f rs j) (hl:d.length = 2 ^ k) (hn:agk k d = 0)
  (hs:T.sgn (aan (llq rs)) k (dec k (lq d)) < 0):aeb rs = 3:=by
 have hk:=(List.getElem?_eq_some_iff.1 hd).1
 have e:rs.getD k [] = d:=by rw [getD_eq_getElem?_getD,hd]; rfl
 rw [aq8 h5 (k:=k) (by omega) h,show rs.length - k = (rs.length - (k + 1)) + 1 by omega]
 show (if _ then _ else _) = _
 rw [e,if_neg (by rw [hl]; simp),if_neg (by rw [hn]; simp),bf5 hd,if_pos hs]
theorem a8g {rs:List (List Rt)} {k:Nat} {d:List Rt} (hd:rs[k]? = some d) (hl:d.length = 2 ^ k) (hn:agk k d = 0)
  (hs:¬ T.sgn (aan (llq rs)) k (dec k (lq d)) < 0):a0f rs k:=by
 have e:rs.getD k [] = d:=by rw [getD_eq_getElem?_getD,hd]; rfl
 exact ⟨by rw [e]; exact hl,by rw [e]; exact hn,by rw [bf5 hd]; omega⟩
theorem a76 {rs:List (List Rt)} (hok:∀ d ∈ rs, ∀ x ∈ d, x.ok) {k:Nat} (hk:k <= rs.length) (h:∀ j, j < k -> a0f rs j):ae5 (rs.take k) = ad7 ((llq rs).take k):=by
 unfold ae5 ad7
 rw [at2 hok hk (fun j hj=>(h j hj).2.1)]
theorem bbl {α:Type} (f:α -> AV) (l:List α) (n:Nat):AV.lst 1 (((l.map f).drop 0).take (n - 0)) = .lst 1 ((l.take n).map f):=by
 rw [Nat.sub_zero,drop_zero,map_take]
theorem a1x {rs:List (List Rt)} (h:5 < rs.length):aeb rs = 4:=by unfold aeb; rw [if_pos h]
theorem atr {rs xs:List (List Rt)} (h:aeb rs ≠ 0):aaz rs xs = aeb rs:=by unfold aaz; rw [if_pos h]
theorem apl {rs xs:List (List Rt)} {i:Nat} {a:List Rt} (h:aeb rs = 0) (ha:xs[i]? = some a) (hb:∀ x ∈ xs.take i, agk rs.length x = 0) (hn:agk rs.length a ≠ 0):aaz rs xs = agk rs.length a:=by
 unfold aaz
 rw [if_neg (by rw [h]; simp)]
 have e:xs = xs.take i ++ xs.drop i:=(List.take_append_drop i xs).symm
 have hi:=(List.getElem?_eq_some_iff.1 ha).1
 rw [e,map_append,ahv _ _ (afz (fun e he=>by obtain ⟨x,hx,rfl⟩:=List.mem_map.1 he; exact hb x hx)),List.drop_eq_getElem_cons hi]
 have ha':xs[i] = a:=by rw [getElem?_eq_getElem hi] at ha; exact Option.some.inj ha
 rw [ha']
 show (if _ then _ else _) = _
 rw [if_pos hn]
theorem ag7 {n:Nat} {a:List Rat} (h:Nl n a):Nl n (ab7 a):=by
 rcases h with rfl | ⟨j,hj,h⟩
 ·exact .inl rfl
 ·exact .inr ⟨j,hj,by rw [acx,h]⟩
theorem aii {n:Nat} {a b:List Rat} (h:Nl n a) (h':Nl n b):Nl n (acz a b):=by
 rcases h with rfl | ⟨j,hj,h⟩ <;> rcases h' with rfl | ⟨i,hi,h'⟩
 ·exact .inl (List.eq_nil_of_length_eq_zero (by rw [abm]; rfl))
 ·exact .inr ⟨i,hi,by rw [abm,h']; simp⟩
 ·exact .inr ⟨j,hj,by rw [abm,h]; simp⟩
 ·refine .inr ⟨max j i, by omega, ?_⟩
  rw [abm,h,h']
  rcases Nat.le_total j i with g | g
  ·rw [Nat.max_eq_right g,Nat.max_eq_right (abf g)]
  ·rw [Nat.max_eq_left g,Nat.max_eq_left (abf g)]
theorem an6 {a b:List Rt} {e f:Nat} (ha:NR a e) (hb:NR b f):∀ x ∈ [a, b], (∀ y ∈ x, y.ok) /\ x.length <= 281474976710656:=by
 intro x hx
 simp only [mem_cons,not_mem_nil,or_false] at hx
 rcases hx with rfl | rfl
 ·exact ⟨ha.ok,ha.len⟩
 ·exact ⟨hb.ok,hb.len⟩
theorem anw {rs:List (List Rt)} (h:ae5 rs = ad7 (llq rs)):AV.lst 1 (rs.map nR) = .lst 1 ((llq rs).map nA):=by
 unfold ae5 ad7 at h
 injection h with h
 injection h
theorem bl3 {x:Rt}:x.q + (rt 0).q = x.q:=by rw [agd,Rat.add_zero]
end Go.Lw
namespace Go.Lw
def rT (ts:List (List Rat)):Nat -> List Rat -> List Rat -> List Rat
  | k, a, b =>
    if (aar 5 a).length = 0 \/ (aar 5 b).length = 0 then []
    else if max (aar 5 a).length (aar 5 b).length = 1 then [(aar 5 a).getD 0 0 * (aar 5 b).getD 0 0]
    else match k with
      | 0=>[]
      | k + 1 =>
        let n:=max (aar 5 a).length (aar 5 b).length
        let X:=aax (aar 5 a) n
        let Y:=aax (aar 5 b) n
        ai3 (acz (rT ts k (X.take (n / 2)) (Y.take (n / 2))) (rT ts k (rT ts k (X.drop (n / 2)) (Y.drop (n / 2))) (ts.getD (n.log2 - 1) [])))
          (acz (rT ts k (X.take (n / 2)) (Y.drop (n / 2))) (rT ts k (X.drop (n / 2)) (Y.take (n / 2)))) (n / 2)
theorem a7w {ts:List (List Rat)} {k:Nat} {a b:List Rat} (h:(aar 5 a).length = 0 \/ (aar 5 b).length = 0):rT ts k a b = []:=by
 unfold rT; rw [if_pos h]
theorem be6 {ts:List (List Rat)} {k:Nat} {a b:List Rat} (h:¬ ((aar 5 a).length = 0 \/ (aar 5 b).length = 0)) (h1:max (aar 5 a).length (aar 5 b).length = 1) :
  rT ts k a b = [(aar 5 a).getD 0 0 * (aar 5 b).getD 0 0]:=by
 unfold rT; rw [if_neg h,if_pos h1]
theorem bbd {ts:List (List Rat)} {k n i:Nat} {a b:List Rat} (hn:n = 2 ^ i) (h:¬ ((aar 5 a).length = 0 \/ (aar 5 b).length = 0)) (h1:max (aar 5 a).length (aar 5 b).length = 2 ^ (i + 1)) :
  rT ts (k + 1) a b = ai3 (acz (rT ts k ((aax (aar 5 a) (2 ^ (i + 1))).take n) ((aax (aar 5 b) (2 ^ (i + 1))).take n))
    (rT ts k (rT ts k ((aax (aar 5 a) (2 ^ (i + 1))).drop n) ((aax (aar 5 b) (2 ^ (i + 1))).drop n)) (ts.getD i [])))
   (acz (rT ts k ((aax (aar 5 a) (2 ^ (i + 1))).take n) ((aax (aar 5 b) (2 ^ (i + 1))).drop n)) (rT ts k ((aax (aar 5 a) (2 ^ (i + 1))).drop n) ((aax (aar 5 b) (2 ^ (i + 1))).take n))) n:=by
 have h2:=Nat.two_pow_pos i
 conv=>lhs; unfold rT
 rw [if_neg h,if_neg (by rw [h1,Nat.pow_succ]; omega)]
 simp only [h1,ab5,az2]
 rw [<- hn]
structure PrOk (ts:List (List Rat)) (D N j:Nat) (a b c:List Rat):Prop where
  nl:Nl j c
  eq:dec j c = T.mul (aan ts) j (dec j a) (dec j b)
  cd:∀ Da Na Db Nb:Nat,Cd Da Na a -> Cd Db Nb b -> Cd (Da * Db * rR D j) (Na * Nb * rM D N j) c
theorem PrOk.up {ts:List (List Rat)} {D N j:Nat} {a b c:List Rat} (hD:0 < D) (ha:a.length <= 2 ^ j) (hb:b.length <= 2 ^ j) (h:PrOk ts D N j a b c):PrOk ts D N (j + 1) a b c:=by
 refine ⟨h.nl.mono (by omega),?_,fun Da Na Db Nb ca cb=>?_⟩
 ·rw [akm ha,akm hb,akm h.nl.le,T.mul_low,h.eq]
 ·have h1:=(h.cd _ _ _ _ ca cb).scale (Nat.mul_pos (agn hD j) hD)
  have e1:Da * Db * rR D j * (rR D j * D) = Da * Db * rR D (j + 1):=by simp only [rR]; grind
  rw [e1] at h1
  refine h1.mono ?_
  have h2:=mul_le_mul_left (rM D N j) (Nat.mul_le_mul (aqi D N j) (Nat.le_add_right D N))
  have h3:rM D N j * (rR D j * D) <= rM D N (j + 1):=by simp only [rM,Nat.mul_assoc] at *; omega
  rw [Nat.mul_assoc (Na * Nb)]
  exact mul_le_mul_left _ h3
theorem PrOk.ups {ts:List (List Rat)} {D N i j:Nat} {a b c:List Rat} (hD:0 < D) (ha:a.length <= 2 ^ i) (hb:b.length <= 2 ^ i) (h:PrOk ts D N i a b c) (hij:i <= j):PrOk ts D N j a b c:=by
  induction j with
  | zero => have : i = 0 := by omega
            subst this; exact h
  | succ j ih =>
    by_cases h':i = j + 1
    · subst h'; exact h
    · exact (ih (by omega)).up hD (le_trans ha (abf (by omega))) (le_trans hb (abf (by omega)))
theorem PrOk.of {ts:List (List Rat)} {D N j:Nat} {a b a' b' c:List Rat} (h:PrOk ts D N j a b c) (ea:dec j a = dec j a') (eb:dec j b = dec j b')
  (ca:∀ D N,Cd D N a' -> Cd D N a) (cb:∀ D N,Cd D N b' -> Cd D N b):PrOk ts D N j a' b' c :=
 ⟨h.nl,by rw [h.eq,ea,eb],fun Da Na Db Nb h1 h2=>h.cd _ _ _ _ (ca _ _ h1) (cb _ _ h2)⟩
theorem PrOk.full {ts:List (List Rat)} {D N j:Nat} {a b c1 c2 c3 c4 c5:List Rat} (hD:0 < D) (hr:Cd D N (ts.getD j [])) (ha:a.length = 2 ^ (j + 1)) (hb:b.length = 2 ^ (j + 1))
  (h1:PrOk ts D N j (a.take (2 ^ j)) (b.take (2 ^ j)) c1) (h2:PrOk ts D N j (a.drop (2 ^ j)) (b.drop (2 ^ j)) c2) (h3:PrOk ts D N j c2 (ts.getD j []) c3)
  (h4:PrOk ts D N j (a.take (2 ^ j)) (b.drop (2 ^ j)) c4) (h5:PrOk ts D N j (a.drop (2 ^ j)) (b.take (2 ^ j)) c5):PrOk ts D N (j + 1) a b (ai3 (acz c1 c3) (acz c4 c5) (2 ^ j)):=by
 have l1:=h1.nl.le
 have l3:=h3.nl.le
 have l4:=h4.nl.le
 have l5:=h5.nl.le
 refine ⟨.inr ⟨j + 1,le_refl _,by rw [ama (by rw [abm]; omega) (by rw [abm]; omega),Nat.pow_succ]; omega⟩,?_,fun Da Na Db Nb ca cb=>?_⟩
 ·rw [auq (by rw [abm]; omega), ada, ada, h1.eq, h3.eq, h4.eq, h5.eq, h2.eq]
  rfl
 ·have ca1:Cd Da Na (a.take (2 ^ j)):=ca.sub (fun q hq=>List.mem_of_mem_take hq)
  have ca2:Cd Da Na (a.drop (2 ^ j)):=ca.sub (fun q hq=>List.mem_of_mem_drop hq)
  have cb1:Cd Db Nb (b.take (2 ^ j)):=cb.sub (fun q hq=>List.mem_of_mem_take hq)
  have cb2:Cd Db Nb (b.drop (2 ^ j)):=cb.sub (fun q hq=>List.mem_of_mem_drop hq)
  have k2:=h2.cd _ _ _ _ ca2 cb2
  have k3:=h3.cd _ _ _ _ k2 hr
  have k1:=(h1.cd _ _ _ _ ca1 cb1).scale (Nat.mul_pos (agn hD j) hD)
  have k4:=(h4.cd _ _ _ _ ca1 cb2).scale (Nat.mul_pos (agn hD j) hD)
  have k5:=(h5.cd _ _ _ _ ca2 cb1).scale (Nat.mul_pos (agn hD j) hD)
  have e1:Da * Db * rR D j * (rR D j * D) = Da * Db * rR D (j + 1):=by simp only [rR]; grind
  have e3:Da * Db * rR D j * D * rR D j = Da * Db * rR D (j + 1):=by simp only [rR]; grind
  rw [e1] at k1 k4 k5
  rw [e3] at k3
  have b1:rM D N j * (rR D j * D) <= rM D N j * rM D N j * D:=by rw [Nat.mul_assoc]; exact mul_le_mul_left _ (mul_le_mul_right _ (aqi D N j))
  have b2:∀ x, Na * Nb * rM D N j * (rR D j * D) + Na * Nb * x <= Na * Nb * (rM D N j * rM D N j * D + x):=by
   intro x
   rw [Nat.mul_add,Nat.mul_assoc (Na * Nb)]
   exact Nat.add_le_add_right (mul_le_mul_left _ b1) _
  refine Cd.join (Cd.mono (k1.plus k3) ?_) (Cd.mono (k4.plus k5) ?_)
  ·have e4 : Na * Nb * rM D N j * N * rM D N j = Na * Nb * (rM D N j * rM D N j * N) := by grind
   rw [e4]
   refine le_trans (b2 _) (mul_le_mul_left _ ?_)
   simp only [rM]; rw [<- Nat.mul_add]; omega
  ·have e4 : Na * Nb * rM D N j * (rR D j * D) <= Na * Nb * (rM D N j * rM D N j * D) := by rw [Nat.mul_assoc (Na * Nb)]; exact mul_le_mul_left _ b1
   refine le_trans (Nat.add_le_add e4 e4) ?_
   rw [<- Nat.mul_add]
   refine mul_le_mul_left _ ?_
   simp only [rM]
   have:=mul_le_mul_left (rM D N j * rM D N j) (Nat.le_add_right D N)
   omega
theorem Cd.short {D N k:Nat} {a:List Rat} (h:Cd D N a):Cd D N (aar k a):=h.sub (fun q hq=>ah6 k hq)
theorem ao6 {j:Nat} {a:List Rat} (h:Nl j a) (hj:j <= 5):Nl j (aar 5 a) /\ dec j (aar 5 a) = dec j a:=by
 rw [ajl h hj]; exact ⟨ang j _,aby j _⟩
theorem bfv {j:Nat} {x y:List Rat} (hx:Nl j x) (hy:Nl j y) (h:¬ (x.length = 0 \/ y.length = 0)):max x.length y.length = 1 \/ ∃ i, i + 1 <= j /\ max x.length y.length = 2 ^ (i + 1):=by
 rcases akb hx with h1 | h1 | ⟨i1,hi1,h1⟩
 ·exact absurd (.inl h1) h
 ·rcases akb hy with h2 | h2 | ⟨i2, hi2, h2⟩
  ·exact absurd (.inr h2) h
  ·exact .inl (by omega)
  ·exact .inr ⟨i2,hi2,by have:=Nat.two_pow_pos (i2 + 1); omega⟩
 ·rcases akb hy with h2 | h2 | ⟨i2, hi2, h2⟩
  ·exact absurd (.inr h2) h
  ·exact .inr ⟨i1,hi1,by have:=Nat.two_pow_pos (i1 + 1); omega⟩
  ·rcases Nat.le_total i1 i2 with g | g
   ·exact .inr ⟨i2,hi2,by have:=abf (show i1 + 1 <= i2 + 1 by omega); omega⟩
   ·exact .inr ⟨i1,hi1,by have:=abf (show i2 + 1 <= i1 + 1 by omega); omega⟩
theorem bq0 (ts:List (List Rat)) (m D N:Nat) (hm:m <= 5) (hts:∀ j, j < m -> Nl j (ts.getD j []) /\ Cd D N (ts.getD j [])) (hD:0 < D) :
  ∀ (k j:Nat) (a b:List Rat),j <= m -> j <= k -> Nl j a -> Nl j b -> PrOk ts D N j a b (rT ts k a b):=by
 intro k
 induction k using Nat.strongRecOn with
 | _ k ih =>
  intro j a b hj hjk ha hb
  obtain ⟨nx,dx⟩:=ao6 ha (by omega)
  obtain ⟨ny,dy⟩:=ao6 hb (by omega)
  by_cases h0:(aar 5 a).length = 0 \/ (aar 5 b).length = 0
  ·rw [a7w h0]
   refine ⟨.inl rfl,?_,fun Da Na Db Nb ca cb=>Cd.nil (Nat.mul_pos (Nat.mul_pos ca.1 cb.1) (agn hD j))⟩
   rw [agm]
   rcases h0 with h | h
   ·rw [<- dx,List.length_eq_zero_iff.1 h,agm,T.zero_mul]
   ·rw [<- dy,List.length_eq_zero_iff.1 h,agm,T.mul_zero]
  rcases bfv nx ny h0 with h1 | ⟨i,hi,h1⟩
  ·rw [be6 h0 h1]
   obtain ⟨p,hp⟩:∃ p,aar 5 a = [p]:=List.length_eq_one_iff.1 (by omega)
   obtain ⟨q,hq⟩:∃ q,aar 5 b = [q]:=List.length_eq_one_iff.1 (by omega)
   have base:PrOk ts D N 0 [p] [q] [p * q]:=by
    refine ⟨.inr ⟨0,zero_le _,rfl⟩,rfl,fun Da Na Db Nb ca cb=>?_⟩
    have h1:=(ca.mul1 cb).scale (agn hD 0)
    exact h1.mono (mul_le_mul_left _ (aqi D N 0))
   have h2:=base.ups hD (by simp) (by simp) (zero_le j)
   rw [hp,hq]
   refine h2.of (by rw [<- hp]; exact dx) (by rw [<- hq]; exact dy) (fun D N h=>?_) (fun D N h=>?_)
   ·rw [<- hp]; exact h.short
   ·rw [<- hq]; exact h.short
  ·obtain ⟨k', rfl⟩ : ∃ k', k = k' + 1 := ⟨k - 1, by omega⟩
   rw [bbd rfl h0 h1]
   have lx:(aax (aar 5 a) (2 ^ (i + 1))).length = 2 ^ (i + 1):=abg (by omega)
   have ly:(aax (aar 5 b) (2 ^ (i + 1))).length = 2 ^ (i + 1):=abg (by omega)
   have n1:Nl i ((aax (aar 5 a) (2 ^ (i + 1))).take (2 ^ i)):=.inr ⟨i,le_refl _,adt lx⟩
   have n2:Nl i ((aax (aar 5 a) (2 ^ (i + 1))).drop (2 ^ i)):=.inr ⟨i,le_refl _,ad9 lx⟩
   have n3:Nl i ((aax (aar 5 b) (2 ^ (i + 1))).take (2 ^ i)):=.inr ⟨i,le_refl _,adt ly⟩
   have n4:Nl i ((aax (aar 5 b) (2 ^ (i + 1))).drop (2 ^ i)):=.inr ⟨i,le_refl _,ad9 ly⟩
   have g2:=ih k' (by omega) i _ _ (by omega) (by omega) n2 n4
   have hfull := PrOk.full hD (hts i (by omega)).2 lx ly (ih k' (by omega) i _ _ (by omega) (by omega) n1 n3) g2 (ih k' (by omega) i _ _ (by omega) (by omega) g2.nl (hts i (by omega)).1)
    (ih k' (by omega) i _ _ (by omega) (by omega) n1 n4) (ih k' (by omega) i _ _ (by omega) (by omega) n2 n3)
   have h2:=hfull.ups hD (by omega) (by omega) hi
   exact h2.of (by rw [at4]; exact dx) (by rw [at4]; exact dy) (fun D N h=>h.short.wide) (fun D N h=>h.short.wide)
theorem af3 {ts:List (List Rat)} {m r:Nat} (hm:m <= 5) (ht:a49 ts m r) {k j e f:Nat} {a b:List Rat} (hj:j <= m) (hk:j <= k) (ha:Nl j a) (hb:Nl j b) (ca:Cb e a) (cb:Cb f b) :
  Nl j (rT ts k a b) /\ dec j (rT ts k a b) = T.mul (aan ts) j (dec j a) (dec j b) /\ Cb (e + f + eB r j) (rT ts k a b):=by
 obtain ⟨D,N,h0,h1,h2,h3⟩:=ht.2.get
 obtain ⟨Da,Na,a1,a2,a3⟩:=ca
 obtain ⟨Db,Nb,b1,b2,b3⟩:=cb
 have h:=bq0 ts m D N hm (fun j hj=>⟨ht.1 j hj,h1 j⟩) h0 k j a b hj hk ha hb
 refine ⟨h.nl,h.eq,_,_,h.cd _ _ _ _ a1 b1,?_,?_⟩
 ·rw [pow_add, pow_add]
  exact Nat.mul_le_mul (Nat.mul_le_mul a2 b2) (le_trans (aqi D N j) (baf h2 h3 j))
 ·rw [pow_add, pow_add]
  exact Nat.mul_le_mul (Nat.mul_le_mul a3 b3) (baf h2 h3 j)
def aq1 (ts:List (List Rat)) (i:Nat) (a:List Rat):List Rat :=
  acz (rT ts i (a.take (2 ^ i)) (a.take (2 ^ i))) (ab7 (rT ts i (rT ts i (a.drop (2 ^ i)) (a.drop (2 ^ i))) (ts.getD i [])))
theorem azi {ts:List (List Rat)} {m r:Nat} (hm:m <= 5) (ht:a49 ts m r) {i e:Nat} {a:List Rat} (hi:i + 1 <= m) (ha:a.length = 2 ^ (i + 1)) (ca:Cb e a) :
  Nl i (aq1 ts i a) /\ dec i (aq1 ts i a) = T.norm (aan ts) i (dec (i + 1) a) /\ Cb (4 * e + 3 * eB r i + r + 1) (aq1 ts i a):=by
 have n1:Nl i (a.take (2 ^ i)):=.inr ⟨i,le_refl _,adt ha⟩
 have n2:Nl i (a.drop (2 ^ i)):=.inr ⟨i,le_refl _,ad9 ha⟩
 have s1:=af3 hm ht (k:=i) (show i <= m by omega) (by omega) n1 n1 ca.take ca.take
 have s2:=af3 hm ht (k:=i) (show i <= m by omega) (by omega) n2 n2 ca.drop ca.drop
 have s3:=af3 hm ht (k:=i) (show i <= m by omega) (by omega) s2.1 (ht.1 i (by omega)) s2.2.2 (ht.2.cb i)
 refine ⟨aii s1.1 (ag7 s3.1),?_,?_⟩
 ·unfold aq1 T.norm
  rw [ada,aex,s1.2.1,s3.2.1,s2.2.1]
  rfl
 ·exact (s1.2.2.plus s3.2.2.minus).mono (by omega)
theorem bb4 {sx sy sd sn:Int} (hd:sd = 0 \/ sd = 1):T.sgn3 sx sy sd sn = if sx = sy * sd \/ sy * sd = 0 then sx else if sx = 0 then sy * sd else sx * sn:=by
 unfold T.sgn3
 rcases hd with rfl | rfl
 ·rw [if_pos rfl,if_pos (by simp)]
 ·rw [if_neg (by decide),Int.mul_one]
def pwk (n:Nat):Nat:=if 0 <= lvl n /\ lvl n <= 5 then (lvl n).toNat else 0
def pwb (n:Nat):Bool:=decide (0 <= lvl n /\ lvl n <= 5)
theorem aug {k:Nat} (h:k <= 5):pwk (2 ^ k) = k /\ pwb (2 ^ k) = true:=by
 unfold pwk pwb
 rw [am4,if_pos (by omega)]
 exact ⟨by omega,by rw [decide_eq_true_eq]; omega⟩
theorem bbb {n:Nat} (h:∀ k, k < 6 -> n ≠ 2 ^ k):pwk n = 0 /\ pwb n = false:=by
 have h1:¬ (0 <= lvl n /\ lvl n <= 5):=by
  intro h1
  obtain ⟨j,e1,e2⟩:=ash h1.1
  exact h j (by omega) e1
 unfold pwk pwb
 rw [if_neg h1]
 exact ⟨rfl,decide_eq_false h1⟩
theorem a16 {m:Nat} (hm:m <= 5) (a:List Rt):(a ≠ [] /\ (lvl a.length < 0 \/ (m:Int) < lvl a.length)) ↔ (a.length ≠ 0 /\ (pwb a.length = false \/ m < pwk a.length)):=by
 have h0:a ≠ [] ↔ a.length ≠ 0:=by
  rw [ne_eq,ne_eq,List.length_eq_zero_iff]
 rw [h0]
 have h1:(lvl a.length < 0 \/ (m:Int) < lvl a.length) ↔ (pwb a.length = false \/ m < pwk a.length):=by
  unfold pwb pwk
  rw [decide_eq_false_iff_not]
  generalize lvl a.length = z
  by_cases h:0 <= z /\ z <= 5
  ·rw [if_pos h]
   constructor
   ·rintro (h' | h')
    ·omega
    ·exact .inr (by omega)
   ·rintro (h' | h')
    ·exact absurd h h'
    ·exact .inr (by omega)
  ·rw [if_neg h]
   constructor
   ·intro _; exact .inl h
   ·intro _; omega
 rw [h1]
theorem bg9 {l m k:Nat} {b:Bool} (h:cond (aaa .neq (l:Int) 0) (cond (!b) true (aaa .gtr (k:Int) (m:Int))) false = true):l ≠ 0 /\ (b = false \/ m < k):=by
 cases h1:aaa .neq (l:Int) 0
 ·rw [h1] at h; cases h
 ·rw [h1] at h
  refine ⟨by simpa [aaa] using h1,?_⟩
  cases b
  ·exact .inl rfl
  ·exact .inr (by simpa [aaa] using h)
theorem boa {l m k:Nat} {b:Bool} (h:cond (aaa .neq (l:Int) 0) (cond (!b) true (aaa .gtr (k:Int) (m:Int))) false = false):¬ (l ≠ 0 /\ (b = false \/ m < k)):=by
 rintro ⟨h1,h2⟩
 have e1:aaa .neq (l:Int) 0 = true:=by simpa [aaa] using h1
 rw [e1] at h
 rcases h2 with rfl | h2
 ·cases h
 ·have e2 : aaa .gtr (k : Int) (m : Int) = true := by simpa [aaa] using h2
  rw [e2] at h
  cases b <;> cases h
theorem bcu (a:List Rat) (i:Nat) (h:a.length <= i) :
  BlkSub (.row 3 ((aax a i).map qA ++ [.agg [.v (.bool false),.v (.slice none 0 0),.v (.slice none 0 0)]])) (.row 3 ((aax a (i + 1)).map qA)):=by
 have e:aax a (i + 1) = aax a i ++ [0]:=by
  unfold aax
  rw [show i + 1 - a.length = (i - a.length) + 1 by omega,List.replicate_succ',append_assoc]
 rw [e,map_append]
 refine .row (by simp) ?_
 intro j x y hx hy
 by_cases hj:j < ((aax a i).map qA).length
 ·rw [getElem?_append_left hj] at hx hy
  rw [hx] at hy; cases hy
  simp only [getElem?_map,map_eq_some_iff] at hx
  obtain ⟨q,_,rfl⟩:=hx
  exact aev.refl (bfw q)
 ·rw [getElem?_append_right (by omega)] at hx hy
  cases hk:j - ((aax a i).map qA).length with
  | zero=>rw [hk] at hx hy; cases hx; cases hy; exact qZ
  | succ n=>rw [hk] at hx; simp at hx
theorem auf (n:Nat):aaa .neq (n:Int) 0 = aaa .gtr (n:Int) 0:=by
 show (((n:Int) != 0):Bool) = decide ((n:Int) > 0)
 cases n with
 | zero=>rfl
 | succ n =>
  have h1:((((n + 1:Nat):Int) != 0):Bool) = true:=by rw [bne_iff_ne]; omega
  rw [h1]
  exact (decide_eq_true (by omega)).symm
theorem bc4 {q:Rat} (h:cond (cond (rt q).neg true (aaa .neq ((rt q).num.length:Int) 0)) true (aaa .neq ((rt q).den.length:Int) 0) = true):q ≠ 0:=by
 rw [auf,auf] at h; exact a0s h
theorem a8c {q:Rat} (h:cond (cond (rt q).neg true (aaa .neq ((rt q).num.length:Int) 0)) true (aaa .neq ((rt q).den.length:Int) 0) = false):q = 0:=by
 rw [auf,auf] at h; exact awh h
theorem af6 {e:Nat} (h:aaa .neq (e:Int) 0 = true):e ≠ 0:=by
 have:(e:Int) ≠ 0:=by simpa [aaa] using h
 omega
theorem af0 {e:Nat} (h:aaa .neq (e:Int) 0 = false):e = 0:=by
 have:(e:Int) = 0:=by simpa [aaa] using h
 omega
theorem bh2 {rs:List (List Rt)} (hok:∀ d ∈ rs, ∀ x ∈ d, x.ok) {k j:Nat} (hk:k <= rs.length) (h:∀ j, j < k -> a0f rs j) (hj:j < k):(rs.map nR)[j]? = some (nA (((llq rs).take k).getD j [])):=by
 have h1:=at2 hok hk (fun j hj=>(h j hj).2.1)
 have h2:((rs.take k).map nR)[j]? = (((llq rs).take k).map nA)[j]?:=by rw [h1]
 simp only [getElem?_map,getElem?_take,if_pos hj] at h2 ⊢
 rw [h2]
 have hl:j < (llq rs).length:=by rw [length_map]; omega
 simp only [getD_eq_getElem?_getD,getElem?_take,if_pos hj]
 rw [<- getElem?_map,getElem?_eq_getElem hl]; rfl
end Go.Lw
namespace Go.Lw
structure Tn where
  t:Rt
  half:Bool
namespace Tn
def av (x:Tn):AV:=.agg [bl x.t.neg,ws x.t.num,ws x.t.den,bl x.half]
def err (x:Tn):Nat:=if x.t.valid = true /\ (x.half = true -> x.t.q = 0) then 0 else 2
end Tn
def bbg (half:Bool) (t:Rat):Rat:=if half then -1 else (1 - t * t) / (1 + t * t)
def bbi (half:Bool) (t:Rat):Rat:=if half then 0 else (t + t) / (1 + t * t)
theorem Tn.err_yes {x:Tn} (h:cond (!x.t.valid) true (cond x.half (aaa .neq (af7 x.t.q) 0) false) = true):x.err = 2:=by
 unfold Tn.err
 rw [if_neg]
 rintro ⟨h1,h2⟩
 rw [h1] at h
 cases hh:x.half
 ·rw [hh] at h; cases h
 ·rw [hh,h2 hh] at h; cases h
theorem Tn.err_no {x:Tn} (h:cond (!x.t.valid) true (cond x.half (aaa .neq (af7 x.t.q) 0) false) = false):x.err = 0:=by
 unfold Tn.err
 rw [if_pos]
 cases hv:x.t.valid
 ·rw [hv] at h; cases h
 ·rw [hv] at h
  refine ⟨rfl,fun hh=>?_⟩
  rw [hh] at h
  have:af7 x.t.q = 0:=by simpa [aaa] using h
  exact ai7 this
theorem Tn.ok_valid {x:Tn} (h:x.err = 0):x.t.valid = true:=by
 unfold Tn.err at h
 split at h
 ·rename_i h1; exact h1.1
 ·cases h
theorem bc5 (p:Rat):p / 0 = 0:=by rw [Rat.div_def,Rat.inv_zero,Rat.mul_zero]
structure Plc where
  x:Rt
  y:Rt
def Plc.av (p:Plc):AV:=.agg [bl p.x.neg,ws p.x.num,ws p.x.den,bl p.y.neg,ws p.y.num,ws p.y.den]
structure Pse where
  turn:Tn
  at_:Plc
def Pse.av (p:Pse):AV:=.agg [bl p.turn.t.neg,ws p.turn.t.num,ws p.turn.t.den,bl p.turn.half,bl p.at_.x.neg,ws p.at_.x.num,ws p.at_.x.den,bl p.at_.y.neg,ws p.at_.y.num,ws p.at_.y.den]
def Pse.ok (p:Pse):Bool:=decide (p.turn.err = 0) && p.at_.x.valid && p.at_.y.valid
theorem adf (a b:Bool):cond a b false = (a && b):=by cases a <;> rfl
end Go.Lw
namespace Go.Lw
theorem alg {x:Blk} (hx:x.nm = []) {k:Nat} (h:x.Names k):False:=by
 have:=h.mem; rw [hx] at this; cases this
theorem avj {ext:Nat -> Prop} {k d:Nat} {x:Blk} {m m2:Nat -> Option Nat} {w:World} (hx:x.nm = []) (h:m2 d = m k) (hr:HeapRel ext [(k, some x)] m w):HeapRel ext [(d, some x)] m2 w:=by
 refine ⟨?_,?_,?_⟩
 ·intro k' z hz
  obtain ⟨rfl,h9⟩:=ae7 hz
  cases h9
  have h1:=hr.blk k _ (by rw [aac,if_pos rfl])
  rw [akw h (y:=x) (x:=x)]
  exact BlkRep.mono (w:=w) (fun _ _ h=>h) (fun _ _ h=>h) (fun _ _ hn=>(alg hx hn).elim) h (fun _ _=>rfl) h1
 ·intro k1 k2 z z' b h1 h2 _ _
  rw [(ae7 h1).1,(ae7 h2).1]
 ·intro k' z b hz hb
  obtain ⟨rfl,h9⟩:=ae7 hz
  cases h9
  exact hr.sep k _ b (by rw [aac,if_pos rfl]) (h ▸ hb)
theorem Con.rekeyB {P:Program} {f:FuncId} {k off:Nat} {x x':Blk} {xs:List AV} {r:AV} (d:Nat) (hx:x.nm = []) (hx':x'.nm = []) (hxs:(xs.all fun x=>x.nm.isEmpty) = true) (hr:r.nm = [])
  (h:Con P f (.ptr k off :: xs) [(k,some x)] r [(k,some x')]):Con P f (.ptr d off :: xs) [(d,some x)] r [(d,some x')]:=by
 refine ⟨h.ok,?_⟩
 intro ext m w vs hext hheap hvs hrep
 have h1 := h.ret ext (fun _ => m d) w vs hext (avj (k := d) hx rfl hheap) (by simpa using hvs) (by
  intro j v y hv hy
  rw [akw (d:=k) (k:=d) (y:=x) (x:=x) (m2:=fun _=>m d) (m:=m) rfl]
  match j,hy with
  | 0, hy =>
   cases hy
   have h2:=hrep 0 v _ hv rfl
   cases h2 with
   | ptr hm=>exact .ptr hm
  | j + 1, hy =>
   have h2:=hrep (j + 1) v y hv hy
   refine ads ?_ h2
   have:=List.all_eq_true.1 hxs y (mem_of_getElem? hy)
   simpa using this)
 refine Calls.mono h1 ?_
 rintro e w' ⟨v,m',rfl,hf,hh,hn,hk,hrr⟩
 have ho:Own [(k, some x)] (fun _=>m d) = Own [(d, some x)] m:=by
  funext b; apply propext; rw [ahd,ahd]
 refine ⟨v,fun _=>m' k,rfl,ho ▸ hf,avj (k:=k) hx' rfl hh,?_,?_,?_⟩
 ·intro k' x b hx hb
  rw [<- ho]
  exact hn k _ b (by rw [aac,if_pos rfl]) hb
 ·intro k' x y hx hy
  obtain ⟨rfl,_⟩:=ae7 hx
  exact hk k _ _ (by rw [aac,if_pos rfl]) (by rw [aac,if_pos rfl])
 ·rw [akw (d:=d) (k:=k) (y:=x') (x:=x') (m2:=fun _=>m' k) (m:=m') rfl]
  exact ads hr hrr
end Go.Lw
namespace Go.Lw
structure Nm (n e:Nat) (l:List Rat):Prop where
  five:n <= 5
  nl:Nl n l
  cb:Cb e l
theorem Nm.mono {n e f:Nat} {l:List Rat} (h:Nm n e l) (hf:e <= f):Nm n f l:=⟨h.five,h.nl,h.cb.mono hf⟩
theorem Nm.rt {n e:Nat} {l:List Rat} (h:Nm n e l) (he:e <= lm n):NR (l.map Go.Lw.rt) e:=by
 have hlm:=aln n
 refine ⟨?_,by have:=h.nl.len5 h.five; rw [length_map]; omega,by rw [aha]; exact h.cb⟩
 intro x hx
 obtain ⟨q,hq,rfl⟩:=List.mem_map.1 hx
 exact (h.cb.qs (by omega) hq).ok
theorem Nm.chk {n e:Nat} {l:List Rat} (h:Nm n e l):agk n (l.map Go.Lw.rt) = 0:=a8x h.nl
theorem Nm.add {n e f:Nat} {a b:List Rat} (ha:Nm n e a) (hb:Nm n f b):Nm n (e + f + 1) (sh n (T.add n (dec n a) (dec n b))):=by
 refine ⟨ha.five,ang _ _,?_⟩
 rw [<- ada]
 exact (ha.cb.plus hb.cb).sh (aii ha.nl hb.nl)
theorem Nm.neg {n e:Nat} {a:List Rat} (ha:Nm n e a):Nm n e (sh n (T.neg n (dec n a))):=by
 refine ⟨ha.five,ang _ _,?_⟩
 rw [<- aex]
 exact ha.cb.minus.sh (ag7 ha.nl)
theorem Nm.sub {n e f:Nat} {a b:List Rat} (ha:Nm n e a) (hb:Nm n f b):Nm n (e + f + 1) (sh n (T.add n (dec n a) (T.neg n (dec n b)))):=by
 refine ⟨ha.five,ang _ _,?_⟩
 rw [<- aex,<- ada]
 exact (ha.cb.plus hb.cb.minus).sh (aii ha.nl (ag7 hb.nl))
abbrev kB (r n:Nat):Nat:=eB r n
theorem Nm.mul {ts:List (List Rat)} {r n e f:Nat} (tw:Tw ts r) (hn:n = ts.length) {a b:List Rat} (ha:Nm n e a) (hb:Nm n f b):Nm n (e + f + kB r n) (sh n (T.mul (aan ts) n (dec n a) (dec n b))):=by
 subst hn
 refine ⟨ha.five,ang _ _,?_⟩
 have h1:=aek ts ts.length tw.ok.1 ts.length ts.length a b (le_refl _) (le_refl _) ha.nl hb.nl
 have h2:=Cb.mul tw.ok (k:=ts.length) (le_refl ts.length) (le_refl _) ha.nl hb.nl ha.cb hb.cb
 rw [<- h1.2]
 exact h2.sh h1.1
theorem Nm.ofQ {n e:Nat} (hn:n <= 5) {q:Rat} (h:Cb e [q]):Nm n e (sh 0 (q:Rat)):=by
 refine ⟨hn,(ang 0 q).mono (zero_le _),?_⟩
 have:=h.sh (k:=0) (.inr ⟨0,le_refl _,rfl⟩)
 exact this
theorem Cb.one {e:Nat} {q:Rat} (h:Qb e q):Cb e [q]:=by
 refine ⟨q.den,q.num.natAbs,⟨by have:=q.den_nz; omega,?_⟩,Nat.le_of_lt h.2,Nat.le_of_lt h.1⟩
 intro x hx
 rw [List.mem_singleton.1 hx]
 refine ⟨q.num,?_,le_refl _⟩
 have hd:((q.den:Int):Rat) ≠ 0:=by
  intro h0
  have:(q.den:Int) = 0:=Rat.intCast_eq_zero_iff.1 h0
  have:=q.den_nz; omega
 have hq:q = (q.num:Rat) / ((q.den:Int):Rat):=by
  rw [<- Rat.divInt_eq_div,Rat.num_divInt_den]
 have h1:(q.num:Rat) / ((q.den:Int):Rat) * ((q.den:Int):Rat) = (q.num:Rat):=Rat.div_mul_cancel hd
 rw [<- hq] at h1
 exact h1
theorem am2 (n:Nat) (q:Rat):dec n (sh 0 (q:Rat)) = T.ofQ n q:=by
 show dec n (if q = 0 then [] else [q]) = _
 split
 ·rename_i h
  subst h
  rw [agm]
  induction n with
  | zero=>rfl
  | succ n ih=>simp only [T.zero,T.ofQ,ih]
 ·exact am7 n q
def ptA (x y:List Rat):AV:=.agg [nA x,nA y]
def au8 (ts:List (List Rat)):Blk:=.box [.lst 1 (ts.map nA),.v .nilIface]
theorem ayf {ts:List (List Rat)} {r e:Nat} (tw:Tw ts r) {a:List Rat} (ha:Nm ts.length e a):aaz (ts.map (List.map rt)) [a.map rt] = 0:=by
 refine ai6 tw.chk (fun x hx=>?_)
 rw [List.mem_singleton.1 hx,length_map]; exact ha.chk
theorem ajh {ts:List (List Rat)} {r e f:Nat} (tw:Tw ts r) {a b:List Rat} (ha:Nm ts.length e a) (hb:Nm ts.length f b):aaz (ts.map (List.map rt)) [a.map rt, b.map rt] = 0:=by
 refine ai6 tw.chk (fun x hx=>?_)
 rw [length_map]
 simp only [mem_cons,not_mem_nil,or_false] at hx
 rcases hx with rfl | rfl
 ·exact ha.chk
 ·exact hb.chk
def als:List (List Rat × List Rat) -> List (List Rat)
  | []=>[]
  | p :: l=>p.1 :: p.2 :: als l
theorem axt:∀ (a b:List (List Rat × List Rat)), als (a ++ b) = als a ++ als b
 | [],b=>rfl
 | p :: a,b=>by simp only [List.cons_append,als,axt a b]
theorem amg:∀ (a:List (List Rat × List Rat)), (als a).length = 2 * a.length
 | []=>rfl
 | p :: a=>by simp only [als,length_cons,amg a]; omega
theorem axm {P:List Rat -> Prop}:∀ {ps:List (List Rat × List Rat)}, (∀ p ∈ ps, P p.1 /\ P p.2) -> ∀ l ∈ als ps, P l
 | [],_,l,h=>by cases h
 | p :: ps, hp, l, h=>by
  simp only [als,mem_cons] at h
  rcases h with rfl | rfl | h
  ·exact (hp p (by simp)).1
  ·exact (hp p (by simp)).2
  ·exact axm (fun q hq=>hp q (by simp [hq])) l h
theorem aeu {s:AS} {k:Nat} {x:Blk} (h:lk s.hp k = some x):∀ k' z, lk [(k, some x)] k' = some z -> lk s.hp k' = some z:=by
 intro k' z hz
 obtain ⟨rfl,h9⟩:=ae7 hz
 cases h9; exact h
def bfa (ts:List (List Rat)) (a b c d:T ts.length):T ts.length:=T.add ts.length (T.mul (aan ts) ts.length a c) (T.mul (aan ts) ts.length b d)
def aoh (ts:List (List Rat)) (a b c d:T ts.length):T ts.length:=T.add ts.length (T.mul (aan ts) ts.length a d) (T.neg ts.length (T.mul (aan ts) ts.length b c))
theorem awc {ts:List (List Rat)} {a b c d:T ts.length}:T.add ts.length (dec ts.length (sh ts.length (T.mul (aan ts) ts.length a c))) (dec ts.length (sh ts.length (T.mul (aan ts) ts.length b d))) = bfa ts a b c d:=by
 rw [aby,aby]; rfl
theorem amk {ts:List (List Rat)} {a b c d:T ts.length}:T.add ts.length (dec ts.length (sh ts.length (T.mul (aan ts) ts.length a d))) (T.neg ts.length (dec ts.length (sh ts.length (T.mul (aan ts) ts.length b c)))) = aoh ts a b c d:=by
 rw [aby,aby]; rfl
abbrev subT (ts:List (List Rat)) (x y:T ts.length):T ts.length:=T.add ts.length x (T.neg ts.length y)
def aib (ts:List (List Rat)) (a b c d p q:T ts.length):T ts.length:=aoh ts (subT ts c a) (subT ts d b) (subT ts p a) (subT ts q b)
theorem ark {ts:List (List Rat)} {a b c d p q:T ts.length} :
  aoh ts (dec ts.length (sh ts.length (subT ts c a))) (dec ts.length (sh ts.length (subT ts d b))) (dec ts.length (sh ts.length (subT ts p a))) (dec ts.length (sh ts.length (subT ts q b))) = aib ts a b c d p q:=by
 rw [aby,aby,aby,aby]; rfl
theorem avp {ts:List (List Rat)} {r e f:Nat} (tw:Tw ts r) {a b c d:List Rat} (ha:Nm ts.length e a) (hb:Nm ts.length e b) (hc:Nm ts.length f c) (hd:Nm ts.length f d) :
  Nm ts.length (2 * (e + f + kB r ts.length) + 1) (sh ts.length (bfa ts (dec ts.length a) (dec ts.length b) (dec ts.length c) (dec ts.length d))):=by
 have h:=(ha.mul tw rfl hc).add (hb.mul tw rfl hd)
 rw [awc] at h
 exact h.mono (by omega)
theorem a17 {ts:List (List Rat)} {r e f:Nat} (tw:Tw ts r) {a b c d:List Rat} (ha:Nm ts.length e a) (hb:Nm ts.length e b) (hc:Nm ts.length f c) (hd:Nm ts.length f d) :
  Nm ts.length (2 * (e + f + kB r ts.length) + 1) (sh ts.length (aoh ts (dec ts.length a) (dec ts.length b) (dec ts.length c) (dec ts.length d))):=by
 have h:=(ha.mul tw rfl hd).sub (hb.mul tw rfl hc)
 rw [amk] at h
 exact h.mono (by omega)
theorem aq9 {ts:List (List Rat)} {r e:Nat} (tw:Tw ts r) {a b c d p q:List Rat} (ha:Nm ts.length e a) (hb:Nm ts.length e b) (hc:Nm ts.length e c) (hd:Nm ts.length e d) (hp:Nm ts.length e p) (hq:Nm ts.length e q) :
  Nm ts.length (8 * e + 5 + 2 * kB r ts.length) (sh ts.length (aib ts (dec ts.length a) (dec ts.length b) (dec ts.length c) (dec ts.length d) (dec ts.length p) (dec ts.length q))):=by
 have h:=a17 tw (hc.sub ha) (hd.sub hb) (hp.sub ha) (hq.sub hb)
 rw [ark] at h
 exact h.mono (by omega)
theorem a70 {x y:Int}:cond (cond (aaa .eql x 0) (aaa .eql y 0) false) true false = decide (x = 0 /\ y = 0):=by
 by_cases hx:x = 0
 ·subst hx
  by_cases hy:y = 0
  ·subst hy; rfl
  ·have : aaa .eql y 0 = false := by simpa [aaa] using hy
   rw [this]; simp [hy]
 ·have : aaa .eql x 0 = false := by simpa [aaa] using hx
  rw [this]; simp [hx]
def a9w (ts:List (List Rat)) (cos sin x y:T ts.length):T ts.length:=aoh ts cos sin y x
def bab (ts:List (List Rat)) (cos sin x y:T ts.length):T ts.length:=bfa ts sin cos x y
theorem ajz {ts:List (List Rat)} {r e f:Nat} (tw:Tw ts r) {a b c d:List Rat} (ha:Nm ts.length e a) (hb:Nm ts.length e b) (hc:Nm ts.length f c) (hd:Nm ts.length f d) :
  Nm ts.length (2 * (e + f + kB r ts.length) + 1) (sh ts.length (a9w ts (dec ts.length a) (dec ts.length b) (dec ts.length c) (dec ts.length d))):=a17 tw ha hb hd hc
theorem aj3 {ts:List (List Rat)} {r e f:Nat} (tw:Tw ts r) {a b c d:List Rat} (ha:Nm ts.length e a) (hb:Nm ts.length e b) (hc:Nm ts.length f c) (hd:Nm ts.length f d) :
  Nm ts.length (2 * (e + f + kB r ts.length) + 1) (sh ts.length (bab ts (dec ts.length a) (dec ts.length b) (dec ts.length c) (dec ts.length d))):=avp tw hb ha hc hd
def atX (ts:List (List Rat)) (cos sin X:T ts.length) (x y:Rat):T ts.length:=T.add ts.length (a9w ts cos sin (T.ofQ ts.length x) (T.ofQ ts.length y)) X
def atY (ts:List (List Rat)) (cos sin Y:T ts.length) (x y:Rat):T ts.length:=T.add ts.length (bab ts cos sin (T.ofQ ts.length x) (T.ofQ ts.length y)) Y
theorem ast {ts:List (List Rat)} {cos sin X:T ts.length} {x y:Rat}:T.add ts.length (dec ts.length (sh ts.length (a9w ts cos sin (dec ts.length (sh 0 (x:Rat))) (dec ts.length (sh 0 (y:Rat)))))) X = atX ts cos sin X x y:=by
 rw [aby,am2,am2]; rfl
theorem as4 {ts:List (List Rat)} {cos sin Y:T ts.length} {x y:Rat}:T.add ts.length (dec ts.length (sh ts.length (bab ts cos sin (dec ts.length (sh 0 (x:Rat))) (dec ts.length (sh 0 (y:Rat)))))) Y = atY ts cos sin Y x y:=by
 rw [aby,am2,am2]; rfl
theorem Sub.fn0 (f:FuncId):Sub (.v (.func (.func f) #[] #[])) (.fn f []):=fun g S m v h=>by
 cases h
 exact .fn rfl (fun j u c hu hc=>by simp at hc)
theorem a5j {e k m:Nat} (h:8 * e + 4 * k + 4 <= m):2 * (2 * (e + e + k) + 1) <= m:=by omega
theorem as8 {rs:List (List Rt)} {a:List Rt} (h:aeb rs = 0):aaz rs [a] = agk rs.length a:=by
 unfold aaz
 rw [if_neg (by rw [h]; simp)]
 show (if _ then _ else 0) = _
 split
 ·rfl
 ·rename_i h1; exact (Decidable.not_not.1 h1).symm
def eqT (ts:List (List Rat)) (x y:T ts.length):Bool:=decide (T.sgn (aan ts) ts.length (subT ts x y) = 0)
theorem ayd (z:Int):cond true (aaa .eql z 0) false = decide (z = 0):=by
 by_cases h:z = 0
 ·subst h; rfl
 ·rw [decide_eq_false h]; simpa [aaa] using h
theorem awf {n:Int} (h:-9223372036854775808 <= n /\ n <= 9223372036854775807):Qs ((n:Rat)):=by
 refine ⟨2,by unfold lim; omega,?_,?_⟩
 ·unfold Lz; simp only [Rat.num_intCast,Nat.reducePow]; omega
 ·unfold Lz; simp only [Rat.den_intCast]; decide
theorem ax6 (a b c d:Bool):cond (cond (cond a b false) c false) d false = (a && b && c && d):=by cases a <;> cases b <;> cases c <;> rfl
end Go.Lw
namespace Go.Lw
open Lean.Grind
def E (r:(k:Nat) -> T k) (n:Nat):Type:=T n
namespace T
theorem ofQ_zero:∀ n, ofQ n 0 = zero n
 | 0=>rfl
 | n + 1=>by simp only [ofQ,zero,ofQ_zero n]
theorem ofQ_add:∀ n (p q:Rat), ofQ n (p + q) = add n (ofQ n p) (ofQ n q)
 | 0,p,q=>rfl
 | n + 1,p,q=>by simp only [ofQ,add,ofQ_add n,add_zero]
theorem ofQ_neg:∀ n (p:Rat), ofQ n (-p) = neg n (ofQ n p)
 | 0,p=>rfl
 | n + 1,p=>by simp only [ofQ,neg,ofQ_neg n,a2t]
end T
structure Laws (r:(k:Nat) -> T k) (n:Nat):Prop where
  assoc:∀ x y z,T.mul r n (T.mul r n x y) z = T.mul r n x (T.mul r n y z)
  dist:∀ x y z,T.mul r n x (T.add n y z) = T.add n (T.mul r n x y) (T.mul r n x z)
  one:∀ x,T.mul r n (T.ofQ n 1) x = x
theorem T.neg_mul' {r:(k:Nat) -> T k} {n:Nat} (h:Laws r n) (x y:T n):T.mul r n (T.neg n x) y = T.neg n (T.mul r n x y):=by
 have h1:T.add n (T.mul r n x y) (T.mul r n (T.neg n x) y) = T.zero n:=by
  rw [T.mul_comm r n x,T.mul_comm r n (T.neg n x),<- h.dist,T.add_neg,T.mul_zero]
 have h2:=congrArg (fun z=>T.add n (T.neg n (T.mul r n x y)) z) h1
 simp only [T.add_zero] at h2
 rw [<- T.add_assoc,T.add_comm n (T.neg n _),T.add_neg,T.zero_add] at h2
 exact h2
theorem T.mul_addr {r:(k:Nat) -> T k} {n:Nat} (h:Laws r n) (a b c:T n):T.mul r n (T.add n a b) c = T.add n (T.mul r n a c) (T.mul r n b c):=by
 rw [T.mul_comm r n _ c,h.dist,T.mul_comm r n c,T.mul_comm r n c]
instance (r:(k:Nat) -> T k) (n:Nat):Add (E r n):=⟨T.add n⟩
instance (r:(k:Nat) -> T k) (n:Nat):Mul (E r n):=⟨T.mul r n⟩
instance (r:(k:Nat) -> T k) (n:Nat):Neg (E r n):=⟨T.neg n⟩
instance (r:(k:Nat) -> T k) (n:Nat):_root_.Sub (E r n):=⟨fun x y=>T.add n x (T.neg n y)⟩
instance (r:(k:Nat) -> T k) (n c:Nat):OfNat (E r n) c:=⟨T.ofQ n (c:Rat)⟩
instance (r:(k:Nat) -> T k) (n:Nat):NatCast (E r n):=⟨fun c=>T.ofQ n (c:Rat)⟩
instance (r:(k:Nat) -> T k) (n:Nat):IntCast (E r n):=⟨fun c=>T.ofQ n (c:Rat)⟩
instance (r:(k:Nat) -> T k) (n:Nat):SMul Nat (E r n):=⟨fun c x=>T.mul r n (T.ofQ n (c:Rat)) x⟩
instance (r:(k:Nat) -> T k) (n:Nat):SMul Int (E r n):=⟨fun c x=>T.mul r n (T.ofQ n (c:Rat)) x⟩
def E.pow {r:(k:Nat) -> T k} {n:Nat} (x:E r n):Nat -> E r n
  | 0=>T.ofQ n 1
  | c + 1=>T.mul r n (E.pow x c) x
instance (r:(k:Nat) -> T k) (n:Nat):HPow (E r n) Nat (E r n):=⟨E.pow⟩
@[reducible] def Laws.ring {r:(k:Nat) -> T k} {n:Nat} (h:Laws r n):CommRing (E r n) where
  add_zero a:=by
    show T.add n a (T.ofQ n ((0:Nat):Rat)) = a
    rw [show (((0:Nat):Rat)) = 0 from rfl,T.ofQ_zero]; exact T.add_zero n a
  add_comm a b:=T.add_comm n a b
  add_assoc a b c:=T.add_assoc n a b c
  mul_assoc a b c:=h.assoc a b c
  mul_one a:=(T.mul_comm r n a _).trans (h.one a)
  one_mul a:=h.one a
  left_distrib a b c:=h.dist a b c
  right_distrib a b c:=T.mul_addr h a b c
  zero_mul a:=by
    show T.mul r n (T.ofQ n ((0:Nat):Rat)) a = T.ofQ n ((0:Nat):Rat)
    rw [show (((0:Nat):Rat)) = 0 from rfl,T.ofQ_zero]; exact T.zero_mul r n a
  mul_zero a:=by
    show T.mul r n a (T.ofQ n ((0:Nat):Rat)) = T.ofQ n ((0:Nat):Rat)
    rw [show (((0:Nat):Rat)) = 0 from rfl,T.ofQ_zero]; exact T.mul_zero r n a
  pow_zero a:=rfl
  pow_succ a c:=rfl
  ofNat_succ c:=by
    show T.ofQ n ((c + 1:Nat):Rat) = T.add n (T.ofQ n (c:Rat)) (T.ofQ n ((1:Nat):Rat))
    rw [<- T.ofQ_add]; congr 1; exact Rat.natCast_add c 1
  ofNat_eq_natCast c:=rfl
  nsmul_eq_natCast_mul c a:=rfl
  neg_add_cancel a:=(T.add_comm n (T.neg n a) a).trans ((T.add_neg n a).trans (T.ofQ_zero n).symm)
  sub a b:=T.add n a (T.neg n b)
  sub_eq_add_neg a b:=rfl
  neg_zsmul i a:=(congrArg (fun z=>T.mul r n z a) (show T.ofQ n ((-i:Int):Rat) = T.neg n (T.ofQ n (i:Rat)) by rw [Rat.intCast_neg,T.ofQ_neg])).trans (T.neg_mul' h _ a)
  zsmul_natCast_eq_nsmul c a:=rfl
  intCast_ofNat c:=rfl
  intCast_neg i:=by
    show T.ofQ n ((-i:Int):Rat) = T.neg n (T.ofQ n (i:Rat))
    rw [Rat.intCast_neg,T.ofQ_neg]
  mul_comm a b:=T.mul_comm r n a b
section
variable {R:Type} [CommRing R] (x y u v p q d:R)
theorem bj1:(x * u + y * v * d) * p + (x * v + y * u) * q * d = x * (u * p + v * q * d) + y * (u * q + v * p) * d:=by grind
theorem bis:(x * u + y * v * d) * q + (x * v + y * u) * p = x * (u * q + v * p) + y * (u * p + v * q * d):=by grind
theorem bhp:x * (u + p) + y * (v + q) * d = (x * u + y * v * d) + (x * p + y * q * d):=by grind
theorem bht:x * (v + q) + y * (u + p) = (x * v + y * u) + (x * q + y * p):=by grind
end
theorem bh9 (r:(k:Nat) -> T k):∀ n, Laws r n
 | 0=>⟨fun x y z=>Rat.mul_assoc x y z,fun x y z=>Rat.mul_add x y z,fun x=>Rat.one_mul x⟩
 | n + 1=>by
  have I:=(bh9 r n).ring
  have h1:=(bh9 r n).one
  refine ⟨?_,?_,?_⟩
  ·rintro ⟨x, y⟩ ⟨u, v⟩ ⟨p, q⟩
   exact Prod.ext (@bj1 (E r n) (bh9 r n).ring x y u v p q (r n)) (@bis (E r n) (bh9 r n).ring x y u v p q (r n))
  ·rintro ⟨x, y⟩ ⟨u, v⟩ ⟨p, q⟩
   exact Prod.ext (@bhp (E r n) (bh9 r n).ring x y u v p q (r n)) (@bht (E r n) (bh9 r n).ring x y u v p q)
  ·rintro ⟨u, v⟩
   refine Prod.ext ?_ ?_
   ·show T.add n (T.mul r n (T.ofQ n 1) u) (T.mul r n (T.mul r n (T.zero n) v) (r n)) = u
    rw [h1,T.zero_mul,T.zero_mul,T.add_zero]
   ·show T.add n (T.mul r n (T.ofQ n 1) v) (T.mul r n (T.zero n) u) = v
    rw [h1,T.zero_mul,T.add_zero]
instance eRing (r:(k:Nat) -> T k) (n:Nat):CommRing (E r n):=(bh9 r n).ring
structure Sg (R:Type) [CommRing R] (s:R -> Int):Prop where
  cs:∀ x,s x = -1 \/ s x = 0 \/ s x = 1
  one:s 1 = 1
  neg:∀ x,s (-x) = -s x
  mul:∀ x y,s (x * y) = s x * s y
  add:∀ x y,0 <= s x -> 0 <= s y -> 0 <= s (x + y)
namespace Sg
variable {R:Type} [CommRing R] {s:R -> Int}
theorem zero (h:Sg R s):s 0 = 0:=by
 have h1:=h.neg 0
 rw [show -(0:R) = 0 by grind] at h1
 omega
theorem zadd (h:Sg R s) {x y:R} (hx:s x = 0):s (x + y) = s y:=by
 have h1:=h.cs y
 have h2:=h.cs (x + y)
 have n1:=h.neg x
 have n2:=h.neg y
 have n3:=h.neg (x + y)
 have a1:=h.add x y
 have a2:=h.add (-x) (-y)
 have a3:=h.add (-x) (x + y)
 have a4:=h.add x (-(x + y))
 rw [show -x + -y = -(x + y) by grind] at a2
 rw [show -x + (x + y) = y by grind] at a3
 rw [show x + -(x + y) = -y by grind] at a4
 omega
theorem padd (h:Sg R s) {x y:R} (hx:s x = 1) (hy:0 <= s y):s (x + y) = 1:=by
 have h2:=h.cs (x + y)
 have a1:=h.add x y
 have n2:=h.neg y
 have n3:=h.neg (x + y)
 have a4:=h.add (-(x + y)) y
 have e:-(x + y) + y = -x:=by grind
 have n1:=h.neg x
 rw [e] at a4
 rcases h2 with h2 | h2 | h2
 ·omega
 ·have := h.zadd (x := -(x + y)) (y := y) (by omega)
  rw [e] at this
  omega
 ·exact h2
theorem sq (h:Sg R s) (x:R):0 <= s (x * x):=by
 rw [h.mul]; rcases h.cs x with e | e | e <;> rw [e] <;> decide
theorem sub0 (h:Sg R s) {x y:R} (hx:s (x - y) = 0):s x = s y:=by
 have:=h.zadd (y:=y) hx
 rwa [show x - y + y = x by grind] at this
theorem sqle (h:Sg R s) {a b:R} (ha:0 <= s a) (hb:0 <= s (a * a - b * b)):0 <= s (a + b):=by
 have c1:=h.cs (a + b)
 rcases c1 with c1 | c1 | c1
 ·exfalso
  have n1:=h.neg (a + b)
  have p1:s (-(a + b) + a) = 1:=h.padd (by omega) ha
  rw [show -(a + b) + a = -b by grind] at p1
  have p2:s (-b + a) = 1:=h.padd p1 ha
  have m:=h.mul (-b + a) (a + b)
  rw [show (-b + a) * (a + b) = a * a - b * b by grind,p2,c1] at m
  omega
 ·omega
 ·omega
theorem cancel (h:Sg R s) {p x:R} (hp:s p = 1) (hx:0 <= s (p * x)):0 <= s x:=by
 rw [h.mul,hp] at hx; omega
end Sg
def mkX {r:(k:Nat) -> T k} {n:Nat} (x y:E r n):E r (n + 1):=((x,y):T n × T n)
def sg (r:(k:Nat) -> T k) (n:Nat) (x:E r n):Int:=T.sgn r n x
def rtE (r:(k:Nat) -> T k) (n:Nat):E r n:=r n
variable {r:(k:Nat) -> T k} {n:Nat}
theorem adu (z:E r (n + 1)):∃ x y:E r n,z = mkX x y:=⟨z.1,z.2,rfl⟩
theorem az1 (x y u v:E r n):mkX x y + mkX u v = mkX (x + u) (y + v):=rfl
theorem bjb (x y:E r n):-mkX x y = mkX (-x) (-y):=rfl
theorem anj (x y u v:E r n):mkX x y * mkX u v = mkX (x * u + y * v * rtE r n) (x * v + y * u):=rfl
theorem E.zero_def:(0:E r n) = T.zero n:=T.ofQ_zero n
theorem bi0:(1:E r (n + 1)) = mkX 1 0:=by
 show T.ofQ (n + 1) ((1:Nat):Rat) = (T.ofQ n ((1:Nat):Rat),T.ofQ n ((0:Nat):Rat))
 rw [show (((0:Nat):Rat)) = 0 from rfl,T.ofQ_zero]; rfl
def nnE (x y:E r n):E r n:=x * x + -(y * y * rtE r n)
theorem at9 (x y:E r n):sg r (n + 1) (mkX x y) = T.sgn3 (sg r n x) (sg r n y) (sg r n (rtE r n)) (sg r n (nnE x y)):=rfl
def PE (x y:E r n):Prop:=(0 <= sg r n x /\ 0 <= sg r n (nnE x y)) \/ (0 <= sg r n y /\ 0 <= -sg r n (nnE x y))
theorem a44 (h:Sg (E r n) (sg r n)) (hd:sg r n (rtE r n) = 1) (x y:E r n):0 <= sg r (n + 1) (mkX x y) ↔ PE x y:=by
 rw [at9,hd]
 unfold PE
 have f1:sg r n y = 0 -> sg r n (nnE x y) = sg r n x * sg r n x:=by
  intro hy
  have h1:sg r n (-(y * y * rtE r n)) = 0:=by rw [h.neg,h.mul,h.mul,hy]; simp
  have:=h.zadd (y:=x * x) h1
  unfold nnE
  rw [show x * x + -(y * y * rtE r n) = -(y * y * rtE r n) + x * x by grind,this,h.mul]
 have f2:sg r n x = 0 -> sg r n (nnE x y) = -(sg r n y * sg r n y):=by
  intro hx
  have h1:sg r n (x * x) = 0:=by rw [h.mul,hx]; simp
  have:=h.zadd (y:=-(y * y * rtE r n)) h1
  unfold nnE
  rw [this,h.neg,h.mul,h.mul,hd]; simp
 have c1:=h.cs x
 have c2:=h.cs y
 have c3:=h.cs (nnE x y)
 revert f1 f2 c1 c2 c3
 generalize sg r n x = a
 generalize sg r n y = b
 generalize sg r n (nnE x y) = c
 intro f1 f2 c1 c2 c3
 rcases c1 with rfl | rfl | rfl <;> rcases c2 with rfl | rfl | rfl <;> rcases c3 with rfl | rfl | rfl <;> first | decide | (exfalso; revert f1 f2; decide)
theorem bo7 (h:Sg (E r n) (sg r n)) (hd:sg r n (rtE r n) = 1) {x y u v:E r n} (h1:PE x y) (h2:PE u v):PE (x * u + y * v * rtE r n) (x * v + y * u):=by
 have nm:nnE (x * u + y * v * rtE r n) (x * v + y * u) = nnE x y * nnE u v:=by unfold nnE; grind
 have hn:=h.mul (nnE x y) (nnE u v)
 have d0:0 <= sg r n (rtE r n):=by omega
 unfold PE
 rw [nm,hn]
 rcases h1 with ⟨a1,a2⟩ | ⟨a1,a2⟩ <;> rcases h2 with ⟨b1,b2⟩ | ⟨b1,b2⟩
 ·refine .inl ⟨h.sqle ?_ ?_, Int.mul_nonneg a2 b2⟩
  ·rw [h.mul]; exact Int.mul_nonneg a1 b1
  ·have e : x * u * (x * u) - y * v * rtE r n * (y * v * rtE r n) = nnE x y * (u * u) + y * y * rtE r n * nnE u v := by unfold nnE; grind
   rw [e]
   refine h.add _ _ ?_ ?_
   ·rw [h.mul]; exact Int.mul_nonneg a2 (h.sq u)
   ·rw [h.mul,h.mul]; exact Int.mul_nonneg (Int.mul_nonneg (h.sq y) d0) b2
 ·refine .inr ⟨h.sqle ?_ ?_, ?_⟩
  ·rw [h.mul]; exact Int.mul_nonneg a1 b1
  ·have e : x * v * (x * v) - y * u * (y * u) = nnE x y * (v * v) + y * y * -nnE u v := by unfold nnE; grind
   rw [e]
   refine h.add _ _ ?_ ?_
   ·rw [h.mul]; exact Int.mul_nonneg a2 (h.sq v)
   ·rw [h.mul,h.neg]; exact Int.mul_nonneg (h.sq y) b2
  ·rw [<- Int.mul_neg]; exact Int.mul_nonneg a2 b2
 ·refine .inr ⟨?_, ?_⟩
  ·rw [show x * v + y * u = y * u + x * v by grind]
   refine h.sqle ?_ ?_
   ·rw [h.mul]; exact Int.mul_nonneg a1 b1
   ·have e : y * u * (y * u) - x * v * (x * v) = nnE u v * (y * y) + v * v * -nnE x y := by unfold nnE; grind
    rw [e]
    refine h.add _ _ ?_ ?_
    ·rw [h.mul]; exact Int.mul_nonneg b2 (h.sq y)
    ·rw [h.mul,h.neg]; exact Int.mul_nonneg (h.sq v) a2
  ·rw [<- Int.neg_mul]; exact Int.mul_nonneg a2 b2
 ·refine .inl ⟨?_, ?_⟩
  ·rw [show x * u + y * v * rtE r n = y * v * rtE r n + x * u by grind]
   refine h.sqle ?_ ?_
   ·rw [h.mul,h.mul]; exact Int.mul_nonneg (Int.mul_nonneg a1 b1) d0
   ·have e : y * v * rtE r n * (y * v * rtE r n) - x * u * (x * u) = -nnE x y * (v * v * rtE r n) + x * x * -nnE u v := by unfold nnE; grind
    rw [e]
    refine h.add _ _ ?_ ?_
    ·rw [h.mul,h.neg,h.mul]; exact Int.mul_nonneg a2 (Int.mul_nonneg (h.sq v) d0)
    ·rw [h.mul,h.neg]; exact Int.mul_nonneg (h.sq x) b2
  ·rw [<- Int.neg_mul_neg]; exact Int.mul_nonneg a2 b2
theorem be1 (h:Sg (E r n) (sg r n)) (hd:sg r n (rtE r n) = 1) {x y u v:E r n} (a1:0 <= sg r n x) (a2:0 <= sg r n (nnE x y)) (b1:0 <= sg r n v) (b2:0 <= -sg r n (nnE u v)):PE (x + u) (y + v):=by
  have cX:=h.cs (x + u)
  have cY:=h.cs (y + v)
  have cN:=h.cs (nnE (x + u) (y + v))
  unfold PE
  by_cases hX:0 <= sg r n (x + u)
  · by_cases hN:0 <= sg r n (nnE (x + u) (y + v))
    · exact .inl ⟨hX,hN⟩
    · by_cases hY:0 <= sg r n (y + v)
      · exact .inr ⟨hY,by omega⟩
      · -- Y < 0: then N is at least 0
        exfalso
        have hY':sg r n (-(y + v)) = 1:=by rw [h.neg]; omega
        have ny:sg r n (-y) = 1:=by
          have:=h.padd hY' b1
          rwa [show -(y + v) + v = -y by grind] at this
        have k1:0 <= sg r n (x * v + y * u):=by
          refine h.sqle (by rw [h.mul]; exact Int.mul_nonneg a1 b1) ?_
          have e:x * v * (x * v) - y * u * (y * u) = nnE x y * (v * v) + y * y * -nnE u v:=by unfold nnE; grind
          rw [e]
          refine h.add _ _ ?_ ?_
          · rw [h.mul]; exact Int.mul_nonneg a2 (h.sq v)
          · rw [h.mul,h.neg]; exact Int.mul_nonneg (h.sq y) b2
        have k2:0 <= sg r n (x * v + -(y * u)):=by
          refine h.sqle (by rw [h.mul]; exact Int.mul_nonneg a1 b1) ?_
          have e:x * v * (x * v) - -(y * u) * -(y * u) = nnE x y * (v * v) + y * y * -nnE u v:=by unfold nnE; grind
          rw [e]
          refine h.add _ _ ?_ ?_
          · rw [h.mul]; exact Int.mul_nonneg a2 (h.sq v)
          · rw [h.mul,h.neg]; exact Int.mul_nonneg (h.sq y) b2
        have k3:0 <= sg r n (-y * (x + u) - x * -(y + v)):=by
          rw [show -y * (x + u) - x * -(y + v) = x * v + -(y * u) by grind]; exact k2
        have k4:0 <= sg r n (-y * (x + u) + x * -(y + v)):=by
          rw [show -y * (x + u) + x * -(y + v) = (-y * (x + u) - x * -(y + v)) + (x * -(y + v) + x * -(y + v)) by grind]
          refine h.add _ _ k3 (h.add _ _ ?_ ?_) <;> (rw [h.mul,hY']; omega)
        have k5:0 <= sg r n ((y * y) * nnE (x + u) (y + v)):=by
          have e:(y * y) * nnE (x + u) (y + v) = (-y * (x + u) - x * -(y + v)) * (-y * (x + u) + x * -(y + v)) + nnE x y * (-(y + v) * -(y + v)):=by unfold nnE; grind
          rw [e]
          refine h.add _ _ (by rw [h.mul]; exact Int.mul_nonneg k3 k4) (by rw [h.mul]; exact Int.mul_nonneg a2 (h.sq _))
        have k6 := h.cancel (by rw [h.mul]; rw [h.neg] at ny; have : sg r n y = -1 := by omega
                                rw [this]; rfl) k5
        exact hN k6
  · have hX' : sg r n (-(x + u)) = 1 := by rw [h.neg]; omega
    have nu:sg r n (-u) = 1:=by
      have:=h.padd hX' a1
      rwa [show -(x + u) + x = -u by grind] at this
    have su:sg r n u = -1:=by rw [h.neg] at nu; omega
    have hv:sg r n v = 1:=by
      rcases h.cs v with e | e | e
      · omega
      · exfalso
        have h1:sg r n (-(v * v * rtE r n)) = 0:=by rw [h.neg,h.mul,h.mul,e]; simp
        have:=h.zadd (y:=u * u) h1
        rw [show -(v * v * rtE r n) + u * u = nnE u v by unfold nnE; grind,h.mul,su] at this
        omega
      · exact e
    have k1:0 <= sg r n (x * v + y * -u):=by
      refine h.sqle (by rw [h.mul]; exact Int.mul_nonneg a1 b1) ?_
      have e:x * v * (x * v) - y * -u * (y * -u) = nnE x y * (v * v) + y * y * -nnE u v:=by unfold nnE; grind
      rw [e]
      refine h.add _ _ ?_ ?_
      · rw [h.mul]; exact Int.mul_nonneg a2 (h.sq v)
      · rw [h.mul,h.neg]; exact Int.mul_nonneg (h.sq y) b2
    have k3:0 <= sg r n (-u * (y + v) - v * -(x + u)):=by
      rw [show -u * (y + v) - v * -(x + u) = x * v + y * -u by grind]; exact k1
    have k4:0 <= sg r n (v * -(x + u)):=by rw [h.mul,hv,hX']; decide
    have kY:0 <= sg r n (y + v):=by
      refine h.cancel nu ?_
      rw [show -u * (y + v) = (-u * (y + v) - v * -(x + u)) + v * -(x + u) by grind]
      exact h.add _ _ k3 k4
    refine .inr ⟨kY,?_⟩
    have k5:0 <= sg r n ((v * v) * -nnE (x + u) (y + v)):=by
      have e:(v * v) * -nnE (x + u) (y + v) = (-u * (y + v) - v * -(x + u)) * (-u * (y + v) + v * -(x + u)) + -nnE u v * ((y + v) * (y + v)):=by unfold nnE; grind
      rw [e]
      have k6:0 <= sg r n (-u * (y + v) + v * -(x + u)):=h.add _ _ (by rw [h.mul,nu]; omega) k4
      refine h.add _ _ (by rw [h.mul]; exact Int.mul_nonneg k3 k6) (by rw [h.mul,h.neg]; exact Int.mul_nonneg b2 (h.sq _))
    have k7:=h.cancel (by rw [h.mul,hv]; rfl) k5
    rwa [h.neg] at k7
theorem bm2 (h:Sg (E r n) (sg r n)) (hd:sg r n (rtE r n) = 1) {x y u v:E r n} (h1:PE x y) (h2:PE u v):PE (x + u) (y + v):=by
 have d0:0 <= sg r n (rtE r n):=by omega
 rcases h1 with ⟨a1,a2⟩ | ⟨a1,a2⟩ <;> rcases h2 with ⟨b1,b2⟩ | ⟨b1,b2⟩
 ·refine .inl ⟨h.add _ _ a1 b1, ?_⟩
  have k:0 <= sg r n (x * u + -(y * v * rtE r n)):=by
   refine h.sqle (by rw [h.mul]; exact Int.mul_nonneg a1 b1) ?_
   have e:x * u * (x * u) - -(y * v * rtE r n) * -(y * v * rtE r n) = nnE x y * (u * u) + y * y * rtE r n * nnE u v:=by unfold nnE; grind
   rw [e]
   refine h.add _ _ ?_ ?_
   ·rw [h.mul]; exact Int.mul_nonneg a2 (h.sq u)
   ·rw [h.mul,h.mul]; exact Int.mul_nonneg (Int.mul_nonneg (h.sq y) d0) b2
  rw [show nnE (x + u) (y + v) = (nnE x y + nnE u v) + ((x * u + -(y * v * rtE r n)) + (x * u + -(y * v * rtE r n))) by unfold nnE; grind]
  exact h.add _ _ (h.add _ _ a2 b2) (h.add _ _ k k)
 ·exact be1 h hd a1 a2 b1 b2
 ·rw [show x + u = u + x by grind, show y + v = v + y by grind]
  exact be1 h hd b1 b2 a1 a2
 ·refine .inr ⟨h.add _ _ a1 b1, ?_⟩
  have k:0 <= sg r n (y * v * rtE r n + -(x * u)):=by
   refine h.sqle (by rw [h.mul,h.mul]; exact Int.mul_nonneg (Int.mul_nonneg a1 b1) d0) ?_
   have e:y * v * rtE r n * (y * v * rtE r n) - -(x * u) * -(x * u) = -nnE x y * (v * v * rtE r n) + x * x * -nnE u v:=by unfold nnE; grind
   rw [e]
   refine h.add _ _ ?_ ?_
   ·rw [h.mul,h.neg,h.mul]; exact Int.mul_nonneg a2 (Int.mul_nonneg (h.sq v) d0)
   ·rw [h.mul,h.neg]; exact Int.mul_nonneg (h.sq x) b2
  have k2:0 <= sg r n (-nnE (x + u) (y + v)):=by
   rw [show -nnE (x + u) (y + v) = (-nnE x y + -nnE u v) + ((y * v * rtE r n + -(x * u)) + (y * v * rtE r n + -(x * u))) by unfold nnE; grind]
   exact h.add _ _ (h.add _ _ (by rw [h.neg]; exact a2) (by rw [h.neg]; exact b2)) (h.add _ _ k k)
  rwa [h.neg] at k2
theorem bcy (a b c d:Int):T.sgn3 (-a) (-b) c d = -T.sgn3 a b c d:=by
 unfold T.sgn3
 have e:(-a = -b \/ -b = 0) ↔ (a = b \/ b = 0):=by omega
 simp only [e]
 split
 ·rfl
 ·split
  ·rfl
  ·by_cases h:a = 0
   ·rw [if_pos (by omega),if_pos h]
   ·rw [if_neg (by omega),if_neg h,Int.neg_mul]
theorem bjr (h:Sg (E r n) (sg r n)) (hd:0 <= sg r n (rtE r n)):Sg (E r (n + 1)) (sg r (n + 1)):=by
 have hcs:∀ z:E r (n + 1),sg r (n + 1) z = -1 \/ sg r (n + 1) z = 0 \/ sg r (n + 1) z = 1:=fun z=>T.sgn_cases r (n + 1) z
 have hone:sg r (n + 1) 1 = 1:=by
  rw [bi0,at9,h.one,h.zero]
  unfold T.sgn3
  split
  ·rfl
  ·simp
 have hneg:∀ z:E r (n + 1), sg r (n + 1) (-z) = -sg r (n + 1) z:=by
  intro z
  obtain ⟨x,y,rfl⟩:=adu z
  rw [bjb,at9,at9,h.neg,h.neg,show nnE (-x) (-y) = nnE x y by unfold nnE; grind,bcy]
 by_cases hd0:sg r n (rtE r n) = 0
 ·have e0:∀ x y:E r n, sg r (n + 1) (mkX x y) = sg r n x:=by
   intro x y; rw [at9,hd0]; unfold T.sgn3; rw [if_pos rfl]
  refine ⟨hcs,hone,hneg,?_,?_⟩
  ·intro z w
   obtain ⟨x,y,rfl⟩:=adu z
   obtain ⟨u,v,rfl⟩:=adu w
   rw [anj,e0,e0,e0]
   have h1:sg r n (y * v * rtE r n) = 0:=by rw [h.mul,hd0]; simp
   have:=h.zadd (y:=x * u) h1
   rw [show x * u + y * v * rtE r n = y * v * rtE r n + x * u by grind,this,h.mul]
  ·intro z w
   obtain ⟨x,y,rfl⟩:=adu z
   obtain ⟨u,v,rfl⟩:=adu w
   rw [az1,e0,e0,e0]
   exact h.add x u
 ·have hd1 : sg r n (rtE r n) = 1 := by rcases h.cs (rtE r n) with e | e | e <;> omega
  have hadd:∀ z w:E r (n + 1), 0 <= sg r (n + 1) z -> 0 <= sg r (n + 1) w -> 0 <= sg r (n + 1) (z + w):=by
   intro z w
   obtain ⟨x,y,rfl⟩:=adu z
   obtain ⟨u,v,rfl⟩:=adu w
   rw [az1,a44 h hd1,a44 h hd1,a44 h hd1]
   exact bm2 h hd1
  have hpm:∀ z w:E r (n + 1), 0 <= sg r (n + 1) z -> 0 <= sg r (n + 1) w -> 0 <= sg r (n + 1) (z * w):=by
   intro z w
   obtain ⟨x,y,rfl⟩:=adu z
   obtain ⟨u,v,rfl⟩:=adu w
   rw [anj,a44 h hd1,a44 h hd1,a44 h hd1]
   exact bo7 h hd1
  have hzm:∀ z w:E r (n + 1), sg r (n + 1) z = 0 -> sg r (n + 1) (w * z) = 0:=by
   intro z w hz
   have n1:=hneg z
   have n2:=hneg w
   have n3:=hneg (w * z)
   have m1:=hpm w z
   have m2:=hpm w (-z)
   have m3:=hpm (-w) z
   have m4:=hpm (-w) (-z)
   rw [show w * -z = -(w * z) by grind] at m2
   rw [show -w * z = -(w * z) by grind] at m3
   rw [show -w * -z = w * z by grind] at m4
   rcases hcs w with e | e | e <;> omega
  have hsc:∀ (a u v:E r n), sg r (n + 1) (mkX (a * u) (a * v)) = sg r n a * sg r (n + 1) (mkX u v):=by
   intro a u v
   rw [at9,at9,show nnE (a * u) (a * v) = a * a * nnE u v by unfold nnE; grind,h.mul,h.mul,h.mul,h.mul,hd1]
   have f1:sg r n v = 0 -> sg r n (nnE u v) = sg r n u * sg r n u:=by
    intro hy
    have h1:sg r n (-(v * v * rtE r n)) = 0:=by rw [h.neg,h.mul,h.mul,hy]; simp
    have:=h.zadd (y:=u * u) h1
    unfold nnE
    rw [show u * u + -(v * v * rtE r n) = -(v * v * rtE r n) + u * u by grind,this,h.mul]
   have c1:=h.cs u
   have c2:=h.cs v
   have c3:=h.cs (nnE u v)
   have c4:=h.cs a
   revert c1 c2 c3 c4
   generalize sg r n u = a1
   generalize sg r n v = b1
   generalize sg r n (nnE u v) = c1
   generalize sg r n a = e1
   intro c1 c2 c3 c4
   rcases c1 with rfl | rfl | rfl <;> rcases c2 with rfl | rfl | rfl <;> rcases c3 with rfl | rfl | rfl <;> rcases c4 with rfl | rfl | rfl <;> decide
  have hpadd:∀ z w:E r (n + 1), sg r (n + 1) z = 1 -> 0 <= sg r (n + 1) w -> sg r (n + 1) (z + w) = 1:=by
   intro z w hz hw
   have a1:=hadd z w (by omega) hw
   rcases hcs (z + w) with e | e | e
   ·omega
   ·exfalso
    have n1:=hneg z
    have n2:=hneg (z + w)
    have a2:=hadd (-(z + w)) w (by omega) hw
    rw [show -(z + w) + w = -z by grind] at a2
    omega
   ·exact e
  have hpp:∀ z w:E r (n + 1), sg r (n + 1) z = 1 -> sg r (n + 1) w = 1 -> sg r (n + 1) (z * w) = 1:=by
   intro z w hz hw
   obtain ⟨x,y,rfl⟩:=adu z
   obtain ⟨u,v,rfl⟩:=adu w
   have p0:=hpm _ _ (by omega:0 <= sg r (n + 1) (mkX x y)) (by omega:0 <= sg r (n + 1) (mkX u v))
   rcases hcs (mkX x y * mkX u v) with e | e | e
   ·omega
   ·exfalso
    by_cases hN:sg r n (nnE x y) = 0
    ·have hxy:sg r n x = 1 /\ sg r n y = 1:=by
      rw [at9,hd1,hN] at hz
      have f1:sg r n y = 0 -> sg r n (nnE x y) = sg r n x * sg r n x:=by
       intro hy
       have h1:sg r n (-(y * y * rtE r n)) = 0:=by rw [h.neg,h.mul,h.mul,hy]; simp
       have:=h.zadd (y:=x * x) h1
       unfold nnE
       rw [show x * x + -(y * y * rtE r n) = -(y * y * rtE r n) + x * x by grind,this,h.mul]
      have f2:sg r n x = 0 -> sg r n (nnE x y) = -(sg r n y * sg r n y):=by
       intro hx
       have h1:sg r n (x * x) = 0:=by rw [h.mul,hx]; simp
       have:=h.zadd (y:=-(y * y * rtE r n)) h1
       unfold nnE
       rw [this,h.neg,h.mul,h.mul,hd1]; simp
      rw [hN] at f1 f2
      have c1:=h.cs x
      have c2:=h.cs y
      revert hz f1 f2 c1 c2
      generalize sg r n x = a
      generalize sg r n y = b
      intro hz f1 f2 c1 c2
      rcases c1 with rfl | rfl | rfl <;> rcases c2 with rfl | rfl | rfl <;> revert hz f1 f2 <;> decide
     have k1:sg r (n + 1) (mkX (x * u) (x * v)) = 1:=by rw [hsc,hxy.1,hw]; rfl
     have k2:0 <= sg r (n + 1) (mkX 0 y):=by
      rw [at9,h.zero,hxy.2,hd1]; unfold T.sgn3; simp
     have k3:=hpm _ _ k2 (by omega:0 <= sg r (n + 1) (mkX u v))
     have k4:=hpadd _ _ k1 k3
     rw [anj,az1] at k4
     rw [anj] at e
     rw [show x * u + (0 * u + y * v * rtE r n) = x * u + y * v * rtE r n by grind,show x * v + (0 * v + y * u) = x * v + y * u by grind] at k4
     omega
    ·have k1:=hzm _ (mkX x (-y)) e
     rw [show mkX x (-y) * (mkX x y * mkX u v) = mkX (nnE x y * u) (nnE x y * v) by rw [anj,anj]; unfold nnE; congr 1 <;> grind,hsc,hw] at k1
     omega
   ·exact e
  refine ⟨hcs,hone,hneg,?_,hadd⟩
  intro z w
  rcases hcs w with e | e | e
  ·rcases hcs z with e' | e' | e'
   ·have := hpp (-z) (-w) (by rw [hneg]; omega) (by rw [hneg]; omega)
    rw [show -z * -w = z * w by grind] at this
    rw [this,e,e']; rfl
   ·have:=hzm z w e'
    rw [show w * z = z * w by grind] at this
    rw [this,e']; simp
   ·have := hpp z (-w) e' (by rw [hneg]; omega)
    rw [show z * -w = -(z * w) by grind,hneg] at this
    rw [e,e']; omega
  ·rw [hzm w z e,e]; simp
  ·rcases hcs z with e' | e' | e'
   ·have := hpp (-z) w (by rw [hneg]; omega) e
    rw [show -z * w = -(z * w) by grind,hneg] at this
    rw [e,e']; omega
   ·have:=hzm z w e'
    rw [show w * z = z * w by grind] at this
    rw [this,e']; simp
   ·rw [hpp z w e' e,e,e']; rfl
theorem aoj (q:Rat):af7 q = -1 /\ q < 0 \/ af7 q = 0 /\ q = 0 \/ af7 q = 1 /\ 0 < q:=by
 unfold af7
 split
 ·exact .inl ⟨rfl,by assumption⟩
 ·split
  ·exact .inr (.inr ⟨rfl,by assumption⟩)
  ·exact .inr (.inl ⟨rfl,by grind⟩)
theorem a90 {q:Rat} (h:0 < q):af7 q = 1:=by
 rcases aoj q with ⟨_,h'⟩ | ⟨_,h'⟩ | ⟨e,_⟩
 ·grind
 ·grind
 ·exact e
theorem a6s {q:Rat} (h:q < 0):af7 q = -1:=by
 rcases aoj q with ⟨e,_⟩ | ⟨_,h'⟩ | ⟨_,h'⟩
 ·exact e
 ·grind
 ·grind
theorem bdi (q:Rat):af7 (-q) = -af7 q:=by
 rcases aoj q with ⟨e,h⟩ | ⟨e,h⟩ | ⟨e,h⟩
 ·rw [e,a90 (by grind)]; rfl
 ·rw [h]; rfl
 ·rw [e,a6s (by grind)]
theorem bbr (p q:Rat):af7 (p * q) = af7 p * af7 q:=by
 have h0:af7 0 = 0:=rfl
 rcases aoj p with ⟨e,h⟩ | ⟨e,h⟩ | ⟨e,h⟩ <;> rcases aoj q with ⟨e',h'⟩ | ⟨e',h'⟩ | ⟨e',h'⟩
 ·have := Rat.mul_pos (a := -p) (b := -q) (by grind) (by grind)
  rw [e,e',a90 (by grind)]; rfl
 ·rw [h',Rat.mul_zero,h0]; simp
 ·have := Rat.mul_pos (a := -p) (b := q) (by grind) h'
  rw [e,e',a6s (by grind)]; rfl
 ·rw [h,Rat.zero_mul,h0]; simp
 ·rw [h,Rat.zero_mul,h0]; simp
 ·rw [h,Rat.zero_mul,h0]; simp
 ·have := Rat.mul_pos (a := p) (b := -q) h (by grind)
  rw [e,e',a6s (by grind)]; rfl
 ·rw [h',Rat.mul_zero,h0]; simp
 ·rw [e,e',a90 (Rat.mul_pos h h')]; rfl
theorem bcm (p q:Rat) (h1:0 <= af7 p) (h2:0 <= af7 q):0 <= af7 (p + q):=by
 rcases aoj (p + q) with ⟨e,h⟩ | ⟨e,h⟩ | ⟨e,h⟩
 ·exfalso
  rcases aoj p with ⟨e1,g1⟩ | ⟨e1,g1⟩ | ⟨e1,g1⟩ <;> rcases aoj q with ⟨e2,g2⟩ | ⟨e2,g2⟩ | ⟨e2,g2⟩ <;> first | omega | grind
 ·omega
 ·omega
theorem bk4 (r:(k:Nat) -> T k):Sg (E r 0) (sg r 0) :=
 ⟨fun q=>T.sgnQ_cases q,rfl,fun q=>bdi q,fun p q=>bbr p q,fun p q=>bcm p q⟩
def Pos (r:(k:Nat) -> T k) (n:Nat):Prop:=∀ j,j < n -> 0 <= T.sgn r j (r j)
theorem bgw (r:(k:Nat) -> T k):∀ n, Pos r n -> Sg (E r n) (sg r n)
 | 0,_=>bk4 r
 | n + 1,h=>bjr (bgw r n (fun j hj=>h j (by omega))) (h n (by omega))
end Go.Lw
namespace Go.Lw
def xA {r:(k:Nat) -> T k} {n:Nat} (x:E r n):AV:=nA (sh n x)
abbrev Pn (r:(k:Nat) -> T k) (n:Nat):Type:=E r n × E r n
def tsX (r:(k:Nat) -> T k) (n:Nat):List (List Rat):=(List.range n).map fun k=>enc k (r k)
def qE {r:(k:Nat) -> T k} {n:Nat} (q:Rat):E r n:=T.ofQ n q
theorem bfx:∀ (n:Nat) (q:Rat), sh n (T.ofQ n q) = sh 0 (q:Rat)
 | 0,q=>rfl
 | n + 1, q=>by
  show (if T.isZ n (T.zero n) = true then sh n (T.ofQ n q) else _) = _
  rw [if_pos ((T.isZ_iff n _).2 rfl),bfx n q]
theorem ban:∀ n:Nat, sh n (T.zero n) = []
 | 0=>rfl
 | n + 1=>by
  show (if T.isZ n (T.zero n) = true then sh n (T.zero n) else _) = _
  rw [if_pos ((T.isZ_iff n _).2 rfl),ban n]
theorem arq (r:(k:Nat) -> T k) (n:Nat):(tsX r n).length = n:=by simp [tsX]
theorem a6k {r:(k:Nat) -> T k} {n j:Nat} (h:j < n):(tsX r n).getD j [] = enc j (r j):=by
 unfold tsX
 rw [getD_eq_getElem?_getD,getElem?_map,List.getElem?_range h]; rfl
theorem bhq {r:(k:Nat) -> T k} {n j:Nat} (h:j < n):aan (tsX r n) j = r j:=by
 unfold aan; rw [a6k h,atf]
theorem blm {ts:List (List Rat)} {R:Nat} (tw:Tw ts R):ts = tsX (aan ts) ts.length:=by
 apply List.ext_getElem?
 intro j
 by_cases hj:j < ts.length
 ·have h1:=a6k (r:=aan ts) hj
  have h2:=tw.len j hj
  rw [getD_eq_getElem?_getD] at h1
  rw [getElem?_eq_getElem (show j < (tsX (aan ts) ts.length).length by rw [arq]; exact hj)] at h1 ⊢
  rw [Option.getD_some] at h1
  rw [h1,getElem?_eq_getElem hj]
  unfold aan
  rw [ant _ _ h2,getD_eq_getElem?_getD,getElem?_eq_getElem hj]; rfl
 ·rw [getElem?_eq_none (by omega),getElem?_eq_none (by rw [arq]; omega)]
class Cx (r:(k:Nat) -> T k) (n:Nat) (u k:outParam Nat):Prop where
  ex:∃ R,Tw (tsX r n) R /\ eB R n <= k
  k1:1 <= k
  u3:3 <= u
class Zu (u k:Nat) {r:(k:Nat) -> T k} {n:Nat} (x:E r n) (w v:outParam Nat):Prop where
  nm:Nm n (w * u + v * k) (sh n x)
class Zp (u k:Nat) {r:(k:Nat) -> T k} {n:Nat} (p:Pn r n) (w v:outParam Nat):Prop where
  x:Nm n (w * u + v * k) (sh n p.1)
  y:Nm n (w * u + v * k) (sh n p.2)
class Qz (u:Nat) (q:Rat) (w:outParam Nat):Prop where
  cb:Cb (w * u) [q]
section
variable {r:(k:Nat) -> T k} {n u k:Nat}
theorem Cx.five (c:Cx r n u k):n <= 5:=by obtain ⟨R,tw,_⟩:=c.ex; have:=tw.five; rwa [arq] at this
theorem Cx.three (c:Cx r n u k):n <= 3:=by obtain ⟨R,tw,_⟩:=c.ex; have:=tw.three; rwa [arq] at this
theorem a7s (w v w' v' u k:Nat):(w * u + v * k) + (w' * u + v' * k) = (w + w') * u + (v + v') * k:=by
 rw [Nat.add_mul,Nat.add_mul]; omega
theorem Nm.eq {n e f:Nat} {l:List Rat} (h:Nm n e l) (hf:e = f):Nm n f l:=hf ▸ h
theorem Nm.addT {e f:Nat} {x y:T n} (hx:Nm n e (sh n x)) (hy:Nm n f (sh n y)):Nm n (e + f + 1) (sh n (T.add n x y)):=by
 have h:=hx.add hy
 rwa [aby,aby] at h
theorem Nm.subT {e f:Nat} {x y:T n} (hx:Nm n e (sh n x)) (hy:Nm n f (sh n y)):Nm n (e + f + 1) (sh n (T.add n x (T.neg n y))):=by
 have h:=hx.sub hy
 rwa [aby,aby] at h
theorem Nm.negT {e:Nat} {x:T n} (hx:Nm n e (sh n x)):Nm n e (sh n (T.neg n x)):=by
 have h:=hx.neg
 rwa [aby] at h
theorem Nm.mulT {R e f:Nat} (tw:Tw (tsX r n) R) {x y:T n} (hx:Nm n e (sh n x)) (hy:Nm n f (sh n y)):Nm n (e + f + eB R n) (sh n (T.mul r n x y)):=by
 have h:=Nm.mul tw (arq r n).symm hx hy
 rwa [aby,aby,T.mul_congr n (fun j hj=>bhq hj)] at h
instance Zu.add [c:Cx r n u k] {x y:E r n} {w v w' v':Nat} [hx:Zu u k x w v] [hy:Zu u k y w' v']:Zu u k (x + y) (w + w') (v + v' + 1) :=
  ⟨(Nm.addT hx.nm hy.nm).mono (by rw [a7s,Nat.add_mul _ 1]; have:=c.k1; omega)⟩
instance Zu.sub [c:Cx r n u k] {x y:E r n} {w v w' v':Nat} [hx:Zu u k x w v] [hy:Zu u k y w' v']:Zu u k (x - y) (w + w') (v + v' + 1) :=
  ⟨(Nm.subT hx.nm hy.nm).mono (by rw [a7s,Nat.add_mul _ 1]; have:=c.k1; omega)⟩
instance Zu.neg {x:E r n} {w v:Nat} [hx:Zu u k x w v]:Zu u k (-x) w v:=⟨Nm.negT hx.nm⟩
instance Zu.mul [c:Cx r n u k] {x y:E r n} {w v w' v':Nat} [hx:Zu u k x w v] [hy:Zu u k y w' v']:Zu u k (x * y) (w + w') (v + v' + 1):=by
  obtain ⟨R,tw,hk⟩:=c.ex
  exact ⟨(Nm.mulT tw hx.nm hy.nm).mono (by rw [a7s,Nat.add_mul _ 1]; omega)⟩
instance Zu.qE [c:Cx r n u k] {q:Rat} {w:Nat} [h:Qz u q w]:Zu u k (qE q:E r n) w 0:=⟨by
  show Nm n _ (sh n (T.ofQ n q))
  rw [bfx]
  exact (Nm.ofQ c.five h.cb).eq (by omega)⟩
theorem Cb.int {e:Nat} {z:Int} (h:z.natAbs <= 2 ^ e):Cb e [(z:Rat)] :=
 ⟨1,z.natAbs,⟨by omega,fun q hq=>⟨z,by rw [List.mem_singleton.1 hq]; exact Rat.mul_one _,le_refl _⟩⟩,Nat.one_le_two_pow,h⟩
theorem Qz.int [c:Cx r n u k] {z:Int} (h:z.natAbs <= 8):Qz u (z:Rat) 1:=⟨Cb.int (le_trans h (show 2 ^ 3 <= _ from abf (by have:=c.u3; omega)))⟩
instance Zu.c0 [c:Cx r n u k]:Zu u k (0:E r n) 0 0:=⟨by
  show Nm n _ (sh n (T.ofQ n ((0:Nat):Rat)))
  rw [show (((0:Nat):Rat)) = 0 from rfl,T.ofQ_zero,ban]
  exact ⟨c.five,.inl rfl,Cb.nil.mono (zero_le _)⟩⟩
instance Zu.c1 [c:Cx r n u k]:Zu u k (1:E r n) 1 0:=by
  haveI:Qz u ((1:Nat):Rat) 1:=Qz.int (c:=c) (z:=1) (by decide)
  exact (inferInstance:Zu u k (Go.Lw.qE ((1:Nat):Rat):E r n) 1 0)
instance Zu.c2 [c:Cx r n u k]:Zu u k (2:E r n) 1 0:=by
  haveI:Qz u ((2:Nat):Rat) 1:=Qz.int (c:=c) (z:=2) (by decide)
  exact (inferInstance:Zu u k (Go.Lw.qE ((2:Nat):Rat):E r n) 1 0)
instance Zu.c4 [c:Cx r n u k]:Zu u k (4:E r n) 1 0:=by
  haveI:Qz u ((4:Nat):Rat) 1:=Qz.int (c:=c) (z:=4) (by decide)
  exact (inferInstance:Zu u k (Go.Lw.qE ((4:Nat):Rat):E r n) 1 0)
instance Zu.px {p:Pn r n} {w v:Nat} [h:Zp u k p w v]:Zu u k p.1 w v:=⟨h.x⟩
instance Zu.py {p:Pn r n} {w v:Nat} [h:Zp u k p w v]:Zu u k p.2 w v:=⟨h.y⟩
theorem bf9 {w v w' v' u k:Nat} (h:w <= w') (h':v <= v'):w * u + v * k <= w' * u + v' * k:=Nat.add_le_add (mul_le_mul_right _ h) (mul_le_mul_right _ h')
instance Zp.mk' {x y:E r n} {w v w' v':Nat} [hx:Zu u k x w v] [hy:Zu u k y w' v']:Zp u k ((x, y):Pn r n) (max w w') (max v v') :=
  ⟨hx.nm.mono (bf9 (Nat.le_max_left ..) (Nat.le_max_left ..)),hy.nm.mono (bf9 (Nat.le_max_right ..) (Nat.le_max_right ..))⟩
def bsx (p q:Pn r n):Pn r n:=(p.1 + q.1,p.2 + q.2)
def bsu (p q:Pn r n):Pn r n:=(p.1 - q.1,p.2 - q.2)
def bnb (c:E r n) (p:Pn r n):Pn r n:=(c * p.1,c * p.2)
def bso (p q:Pn r n):E r n:=p.1 * q.1 + p.2 * q.2
def blw (p q:Pn r n):E r n:=p.1 * q.2 - p.2 * q.1
def brl (c s:E r n) (p:Pn r n):Pn r n:=(c * p.1 - s * p.2,s * p.1 + c * p.2)
def pQ (x y:Rat):Pn r n:=(qE x,qE y)
def bow (p:Pn r n):Pn r n:=(-p.2,p.1)
instance Zp.add [c:Cx r n u k] {p q:Pn r n} {w v w' v':Nat} [hp:Zp u k p w v] [hq:Zp u k q w' v']:Zp u k (bsx p q) (w + w') (v + v' + 1) :=
  ⟨(inferInstance:Zu u k (p.1 + q.1) (w + w') (v + v' + 1)).nm,(inferInstance:Zu u k (p.2 + q.2) (w + w') (v + v' + 1)).nm⟩
instance Zp.sub [c:Cx r n u k] {p q:Pn r n} {w v w' v':Nat} [hp:Zp u k p w v] [hq:Zp u k q w' v']:Zp u k (bsu p q) (w + w') (v + v' + 1) :=
  ⟨(inferInstance:Zu u k (p.1 - q.1) (w + w') (v + v' + 1)).nm,(inferInstance:Zu u k (p.2 - q.2) (w + w') (v + v' + 1)).nm⟩
instance Zp.scale [c:Cx r n u k] {a:E r n} {q:Pn r n} {w v w' v':Nat} [hp:Zu u k a w v] [hq:Zp u k q w' v']:Zp u k (bnb a q) (w + w') (v + v' + 1) :=
  ⟨(inferInstance:Zu u k (a * q.1) (w + w') (v + v' + 1)).nm,(inferInstance:Zu u k (a * q.2) (w + w') (v + v' + 1)).nm⟩
instance Zu.dot [c:Cx r n u k] {p q:Pn r n} {w v w' v':Nat} [hp:Zp u k p w v] [hq:Zp u k q w' v']:Zu u k (bso p q) (w + w' + (w + w')) (v + v' + 1 + (v + v' + 1) + 1) :=
  (inferInstance:Zu u k (p.1 * q.1 + p.2 * q.2) _ _)
instance Zu.cross [c:Cx r n u k] {p q:Pn r n} {w v w' v':Nat} [hp:Zp u k p w v] [hq:Zp u k q w' v']:Zu u k (blw p q) (w + w' + (w + w')) (v + v' + 1 + (v + v' + 1) + 1) :=
  (inferInstance:Zu u k (p.1 * q.2 - p.2 * q.1) _ _)
instance Zp.turn [c:Cx r n u k] {a b:E r n} {p:Pn r n} {w v w' v' w2 v2:Nat} [ha:Zu u k a w v] [hb:Zu u k b w' v'] [hp:Zp u k p w2 v2] :
    Zp u k (brl a b p) (w + w2 + (w' + w2)) (v + v2 + 1 + (v' + v2 + 1) + 1) :=
  ⟨(inferInstance:Zu u k (a * p.1 - b * p.2) _ _).nm, by
    have h:=(inferInstance:Zu u k (b * p.1 + a * p.2) _ _).nm
    exact h.eq (by rw [Nat.add_comm (w' + w2),Nat.add_comm (v' + v2 + 1)])⟩
instance Zp.ofQ [c:Cx r n u k] {x y:Rat} {w w':Nat} [hx:Qz u x w] [hy:Qz u y w']:Zp u k (pQ x y:Pn r n) (max w w') (max 0 0) :=
  (inferInstance:Zp u k ((qE x,qE y):Pn r n) _ _)
instance Zp.quart {p:Pn r n} {w v:Nat} [hp:Zp u k p w v]:Zp u k (bow p) w v:=⟨(inferInstance:Zu u k (-p.2) w v).nm,hp.x⟩
end
end Go.Lw
namespace Go.Lw
def acv (s:ByteArray) (i:Nat):Nat:=(s.data.getD i 0).toNat
def ab9 (c:Nat):Bool:=decide (97 <= c /\ c <= 122) || decide (65 <= c /\ c <= 90)
def ar8 (c:Nat):Bool:=decide (48 <= c /\ c <= 57)
def apv (c:Nat):Bool:=ab9 c || ar8 c || decide (c = 95)
def aft (s:ByteArray):Nat -> Nat -> Bool
  | _,0=>true
  | i,n + 1=>apv (acv s i) && aft s (i + 1) n
def alm (s:ByteArray):Bool:=decide (0 < s.size /\ s.size <= 24) && ab9 (acv s 0) && aft s 0 s.size
def ahj (s:ByteArray):Nat -> Nat -> Nat
  | i,0=>i
  | i,n + 1=>if apv (acv s i) then ahj s (i + 1) n else i
theorem a0p (s:ByteArray):∀ (n i:Nat), i <= ahj s i n /\ ahj s i n <= i + n
 | 0,i=>⟨le_refl _,le_refl _⟩
 | n + 1, i=>by
  simp only [ahj]
  split
  ·have:=a0p s n (i + 1); omega
  ·omega
theorem anl (s:ByteArray):∀ (n i:Nat), ahj s i n = i + n ↔ aft s i n = true
 | 0,i=>by simp [ahj,aft]
 | n + 1, i=>by
  simp only [ahj,aft,and_eq_true]
  split
  ·rename_i h
   rw [<- anl s n (i + 1),show i + (n + 1) = i + 1 + n by omega]
   simp [h]
  ·rename_i h
   constructor
   ·intro h'; omega
   ·intro h'; exact absurd h'.1 h
theorem az3 {c:Nat} (h:ab9 c = true):apv c = true:=by unfold apv; rw [h]; rfl
def agy (s:ByteArray):Nat:=if 0 < s.size /\ ab9 (acv s 0) = true then ahj s 1 (s.size - 1) else 0
theorem ba4 (s:ByteArray):alm s = decide (0 < agy s /\ agy s = s.size /\ agy s <= 24):=by
 unfold alm agy
 rw [Bool.eq_iff_iff]
 simp only [and_eq_true,decide_eq_true_eq]
 by_cases h:0 < s.size /\ ab9 (acv s 0) = true
 ·rw [if_pos h]
  obtain ⟨h1,h2⟩:=h
  have h3:=anl s (s.size - 1) 1
  have h4:aft s 0 s.size = aft s 1 (s.size - 1):=by
   obtain ⟨n,hn⟩:∃ n,s.size = n + 1:=⟨s.size - 1,by omega⟩
   rw [hn]
   simp only [aft,az3 h2,Bool.true_and,Nat.add_sub_cancel]
  have h5:=a0p s (s.size - 1) 1
  rw [h4,<- h3]
  constructor
  ·rintro ⟨⟨h6,h7⟩,h8⟩; omega
  ·rintro ⟨h6,h7,h8⟩; exact ⟨⟨by omega,h2⟩,by omega⟩
 ·rw [if_neg h]
  constructor
  ·rintro ⟨⟨h1,h2⟩,h3⟩; exact absurd ⟨h1.1,h2⟩ h
  ·rintro ⟨h1,_⟩; omega
theorem bcw (s:ByteArray) (h0:0 < s.size) (h24:s.size <= 24):alm s = decide ((if ab9 (acv s 0) then ahj s 0 s.size else 0) = s.size):=by
 unfold alm
 rw [Bool.eq_iff_iff]
 simp only [and_eq_true,decide_eq_true_eq]
 have h3:=anl s s.size 0
 rw [Nat.zero_add] at h3
 by_cases h:ab9 (acv s 0) = true
 ·rw [if_pos h, h3]
  exact ⟨fun h=>h.2,fun h'=>⟨⟨⟨h0,h24⟩,h⟩,h'⟩⟩
 ·rw [if_neg h]
  exact ⟨fun h'=>absurd h'.1.2 h,fun h'=>by omega⟩
def eqS (a b:ByteArray):Bool:=a.toList == b.toList
def ad6 (n:Nat) (err:Nat -> Nat):Nat:=aed ((List.range n).map err)
theorem aa2 {n i:Nat} {err:Nat -> Nat} (hi:i < n) (h:∀ j, j < i -> err j = 0) (he:err i ≠ 0):ad6 n err = err i:=by
 unfold ad6
 have e:List.range n = List.range i ++ (i :: (List.range' (i + 1) (n - (i + 1)))):=by
  obtain ⟨d,rfl⟩:∃ d,n = i + (d + 1):=⟨n - i - 1,by omega⟩
  rw [List.range_eq_range',List.range_eq_range',<- List.range'_append_1,Nat.zero_add,List.range'_succ,show i + (d + 1) - (i + 1) = d by omega]
 rw [e, map_append, ahv _ _ (afz (fun x hx=>by
  obtain ⟨j,hj,rfl⟩:=List.mem_map.1 hx
  exact h j (List.mem_range.1 hj)))]
 show (if err i ≠ 0 then err i else _) = _
 rw [if_pos he]
theorem aeo {n:Nat} {err:Nat -> Nat} (h:∀ j, j < n -> err j = 0):ad6 n err = 0 :=
 afz (fun x hx=>by obtain ⟨j,hj,rfl⟩:=List.mem_map.1 hx; exact h j (List.mem_range.1 hj))
theorem ail {n:Nat} {err:Nat -> Nat} (h:ad6 n err = 0):∀ j, j < n -> err j = 0:=fun j hj =>
 aei h _ (List.mem_map.2 ⟨j,List.mem_range.2 hj,rfl⟩)
structure Mk where
  name:ByteArray
  x:Rt
  y:Rt
instance:Inhabited Mk:=⟨⟨default,⟨false,[],[]⟩,⟨false,[],[]⟩⟩⟩
def Mk.av (m:Mk):AV:=.agg [.v (.string m.name),bl m.x.neg,ws m.x.num,ws m.x.den,bl m.y.neg,ws m.y.num,ws m.y.den]
structure Bd where
  name:ByteArray
  pts:List Mk
instance:Inhabited Bd:=⟨⟨default,[]⟩⟩
def Bd.av (b:Bd):AV:=.agg [.v (.string b.name),.lst 7 (b.pts.map Mk.av)]
structure Jt where
  name:ByteArray
  kind:Int
  a:Int
  point:Int
  b:Int
  on:Int
  to:Int
instance:Inhabited Jt:=⟨⟨default,0,0,0,0,0,0⟩⟩
def Jt.av (j:Jt):AV:=.agg [.v (.string j.name),i64 j.kind,i64 j.a,i64 j.point,i64 j.b,i64 j.on,i64 j.to]
structure Dr where
  name:ByteArray
  body:Int
instance:Inhabited Dr:=⟨⟨default,0⟩⟩
def Dr.av (d:Dr):AV:=.agg [.v (.string d.name),i64 d.body]
structure Li where
  name:ByteArray
  bodies:List Bd
  joints:List Jt
  drivers:List Dr
def Li.av (l:Li):AV:=.agg [.v (.string l.name),.lst 2 (l.bodies.map Bd.av),.lst 7 (l.joints.map Jt.av),.lst 2 (l.drivers.map Dr.av)]
structure Mk.ok (m:Mk):Prop where
  x:m.x.ok
  y:m.y.ok
  qx:Qb 1000 m.x.q
  qy:Qb 1000 m.y.q
structure Bd.ok (b:Bd):Prop where
  pts:∀ m ∈ b.pts,m.ok
  names:∀ m ∈ b.pts,m.name.size <= 281474976710656
  ll:b.pts.length <= 281474976710656
  name:b.name.size <= 281474976710656
structure Li.ok (l:Li):Prop where
  name:l.name.size <= 281474976710656
  bodies:∀ b ∈ l.bodies,b.ok
  jnames:∀ j ∈ l.joints,j.name.size <= 281474976710656
  dnames:∀ d ∈ l.drivers,d.name.size <= 281474976710656
  lb:l.bodies.length <= 281474976710656
  lj:l.joints.length <= 281474976710656
  ld:l.drivers.length <= 281474976710656
def axb (l:List ByteArray) (i:Nat):Bool:=(l.take i).any (fun n=>eqS n (l.getD i default))
def mkE (ps:List Mk) (i:Nat):Nat :=
  if alm (ps.getD i default).name = false then 5 else if axb (ps.map Mk.name) i = true then 6
  else if (ps.getD i default).x.valid = true /\ (ps.getD i default).y.valid = true then 0 else 3
def bdE (bs:List Bd) (i:Nat):Nat :=
  if alm (bs.getD i default).name = false then 5 else if axb (bs.map Bd.name) i = true then 6
  else if 8 < (bs.getD i default).pts.length then 4 else ad6 (bs.getD i default).pts.length (mkE (bs.getD i default).pts)
def inB (i:Int) (n:Nat):Bool:=decide (0 <= i /\ i < n)
def adz (l:Li) (i:Int):List Mk:=(l.bodies.getD i.toNat default).pts
def jt0 (l:Li) (j:Jt):Nat :=
  if j.kind ≠ 0 /\ j.kind ≠ 1 then 7
  else if inB j.a l.bodies.length = false \/ inB j.b l.bodies.length = false then 9
  else if j.a = j.b then 13
  else if inB j.point (adz l j.a).length = false \/ inB j.on (adz l j.b).length = false then 9
  else if j.kind = 0 then (if j.to ≠ 0 then 2 else 0)
  else if inB j.to (adz l j.b).length = false then 9
  else if ((adz l j.b).getD j.on.toNat default).x.q = ((adz l j.b).getD j.to.toNat default).x.q /\ ((adz l j.b).getD j.on.toNat default).y.q = ((adz l j.b).getD j.to.toNat default).y.q then 8
  else 0
def jtE (l:Li) (i:Nat):Nat :=
  if alm (l.joints.getD i default).name = false then 5 else if axb (l.joints.map Jt.name) i = true then 6 else jt0 l (l.joints.getD i default)
def drE (l:Li) (i:Nat):Nat :=
  if alm (l.drivers.getD i default).name = false then 5 else if axb (l.drivers.map Dr.name) i = true then 6
  else if inB (l.drivers.getD i default).body l.bodies.length = false then 9
  else if (l.drivers.getD i default).body = 0 then 7
  else if (l.drivers.take i).any (fun d=>decide (d.body = (l.drivers.getD i default).body)) = true then 6 else 0
def ayb (l:Li):Nat:=ad6 l.bodies.length (bdE l.bodies)
def aq0 (l:Li):Nat:=if 16 < l.joints.length then 4 else ad6 l.joints.length (jtE l)
def azh (l:Li):Nat:=if 2 < l.drivers.length then 4 else ad6 l.drivers.length (drE l)
def liE (l:Li):Nat :=
  if alm l.name = false then 5 else if l.bodies.length = 0 then 10 else if 8 < l.bodies.length then 4
  else if ayb l ≠ 0 then ayb l else if aq0 l ≠ 0 then aq0 l else azh l
theorem aaf {α:Type} {l:List α} {i:Nat} {x d:α} (h:l[i]? = some x):l.getD i d = x:=by rw [getD_eq_getElem?_getD,h]; rfl
theorem afp {α:Type} (f:α -> ByteArray) {l:List α} {i:Nat} {x:α} (h:l[i]? = some x):axb (l.map f) i = (l.take i).any (fun y=>eqS (f y) (f x)):=by
 unfold axb
 have h1:(l.map f).getD i default = f x:=aaf (by rw [getElem?_map,h]; rfl)
 rw [h1,<- map_take,List.any_map]; rfl
theorem aew {α:Type} {p:α -> Bool} {l:List α} {k:Nat} {x:α} (h:l[k]? = some x) (hn:(l.take k).any p = false) (hp:p x = false):(l.take (k + 1)).any p = false:=by
 rw [aao h,List.any_append,hn]; simp [hp]
theorem ahn {α:Type} {p:α -> Bool} {l:List α} {k i:Nat} {x:α} (h:l[k]? = some x) (hk:k < i) (hp:p x = true):(l.take i).any p = true:=by
 rw [List.any_eq_true]
 exact ⟨x,mem_of_getElem? (by rw [getElem?_take,if_pos hk]; exact h),hp⟩
theorem avy (s:ByteArray):(s.toList == ByteArray.toList ⟨#[]⟩) = decide (s.size = 0):=by
 have e:ByteArray.toList ⟨#[]⟩ = []:=Go.ByteArray.toList_eq _
 have h:s.toList.length = s.size:=by rw [Go.ByteArray.toList_eq]; cases s; rfl
 rw [e,Bool.eq_iff_iff,beq_iff_eq,decide_eq_true_eq]
 constructor
 ·intro h'; rw [h'] at h; simpa using h.symm
 ·intro h'; exact List.eq_nil_of_length_eq_zero (by omega)
theorem a5m {s:ByteArray} (h:(s.toList == ByteArray.toList ⟨#[]⟩) = false):0 < s.size:=by
 rw [avy,decide_eq_false_iff_not] at h; omega
theorem abd {a b:Nat} (h:aaa .lss (a:Int) (b:Int) = true):a < b:=by
 have:(a:Int) < b:=of_decide_eq_true h
 omega
theorem a6e {a b:Nat} (h:aaa .lss (a:Int) (b:Int) = false):b <= a:=by
 have:¬ (a:Int) < b:=of_decide_eq_false h
 omega
theorem bce {a b:Nat} {p:Bool} (h:cond (aaa .lss (a:Int) (b:Int)) p false = true):a < b /\ p = true:=by
 cases h1:aaa .lss (a:Int) (b:Int)
 ·rw [h1] at h; cases h
 ·rw [h1] at h; exact ⟨abd h1,h⟩
theorem a5z {a b:Nat} {p:Bool} (h:cond (aaa .lss (a:Int) (b:Int)) p false = false):a < b -> p = false:=by
 intro h0
 have h1:aaa .lss (a:Int) (b:Int) = true:=decide_eq_true (by omega:(a:Int) < b)
 rw [h1] at h; exact h
theorem a5r {s:ByteArray} (h:cond (s.toList == ByteArray.toList ⟨#[]⟩) true (!ab9 (acv s 0)) = true):agy s = 0:=by
 unfold agy
 rw [if_neg]
 rintro ⟨h1,h2⟩
 rw [avy,decide_eq_false (by omega),h2] at h
 cases h
theorem a68 {s:ByteArray} (h:cond (s.toList == ByteArray.toList ⟨#[]⟩) true (!ab9 (acv s 0)) = false):0 < s.size /\ ab9 (acv s 0) = true:=by
 cases h1:(s.toList == ByteArray.toList ⟨#[]⟩)
 ·rw [h1] at h
  exact ⟨a5m h1,by simpa using h⟩
 ·rw [h1] at h; cases h
theorem a2e {s:ByteArray} {i:Nat} (h:s.size <= i):acv s i = 0:=by
 unfold acv
 have:s.data.size <= i:=h
 simp [getD_eq_getD_getElem?,Array.getElem?_eq_none this]
theorem a9v (s:ByteArray):cond (cond (aaa .gtr (agy s:Int) 0) (aaa .eql (agy s:Int) (s.size:Int)) false) (aaa .leq (agy s:Int) 24) false = alm s:=by
 rw [ba4,Bool.eq_iff_iff,decide_eq_true_eq]
 cases h1:aaa .gtr (agy s:Int) 0
 ·have:¬ (agy s:Int) > 0:=of_decide_eq_false h1
  simp; omega
 ·have h1:(agy s:Int) > 0:=of_decide_eq_true h1
  cases h2:aaa .eql (agy s:Int) (s.size:Int)
  ·have : (agy s : Int) ≠ s.size := by simpa [aaa] using h2
   simp; omega
  ·have h2:(agy s:Int) = s.size:=eq_of_beq h2
   have h3:aaa .leq (agy s:Int) 24 = true ↔ agy s <= 24:=by
    show decide ((agy s:Int) <= 24) = true ↔ _
    rw [decide_eq_true_eq]; omega
   simp only [cond_true,h3]; omega
theorem a3g (s:ByteArray):cond (cond (aaa .gtr (s.size:Int) 0) (aaa .leq (s.size:Int) 24) false) (aaa .eql (((if ab9 (acv s 0) then ahj s 0 s.size else 0:Nat)):Int) (s.size:Int)) false = alm s:=by
 cases h1:aaa .gtr (s.size:Int) 0
 ·have h1:¬ (s.size:Int) > 0:=of_decide_eq_false h1
  unfold alm
  rw [decide_eq_false (show ¬ (0 < s.size /\ s.size <= 24) by omega)]; rfl
 ·have h1:(s.size:Int) > 0:=of_decide_eq_true h1
  cases h2:aaa .leq (s.size:Int) 24
  ·have h2:¬ (s.size:Int) <= 24:=of_decide_eq_false h2
   unfold alm
   rw [decide_eq_false (show ¬ (0 < s.size /\ s.size <= 24) by omega)]; rfl
  ·have h2:(s.size:Int) <= 24:=of_decide_eq_true h2
   rw [bcw s (by omega) (by omega)]
   simp only [cond_true]
   rw [Bool.eq_iff_iff,decide_eq_true_eq]
   generalize (if ab9 (acv s 0) = true then ahj s 0 s.size else 0) = m
   show (((m:Int) == (s.size:Int)) = true) ↔ _
   rw [beq_iff_eq]; omega
theorem bm9 {α:Type} (sz:Nat) (f:α -> AV) (l:List α) (n:Nat):AV.lst sz (((l.map f).drop 0).take (n - 0)) = .lst sz ((l.take n).map f):=by
 rw [Nat.sub_zero,drop_zero,map_take]
theorem amm {α:Type} {l:List α} {i k:Nat} {x:α} (h:(l.take i)[k]? = some x):l[k]? = some x /\ k < i:=by
 rw [getElem?_take] at h
 split at h
 ·rename_i hk; exact ⟨h,hk⟩
 ·cases h
theorem a1c (i:Int) (n:Nat):cond (aaa .geq i 0) (aaa .lss i (n:Int)) false = inB i n:=by
 unfold inB
 rw [Bool.eq_iff_iff,decide_eq_true_eq]
 cases h:aaa .geq i 0
 ·have:¬ i >= 0:=of_decide_eq_false h
  simp; omega
 ·have h:i >= 0:=of_decide_eq_true h
  show decide (i < (n:Int)) = true ↔ _
  rw [decide_eq_true_eq]; omega
theorem ahg {i:Int} {n:Nat} (h:inB i n = true):0 <= i /\ i < n:=of_decide_eq_true h
theorem bfd {p q:Bool} (h:cond (!p) true (!q) = true):p = false \/ q = false:=by cases p <;> cases q <;> simp_all
theorem bf8 {p q:Bool} (h:cond (!p) true (!q) = false):p = true /\ q = true:=by cases p <;> cases q <;> simp_all
theorem adh {p:Bool} (h:(!p) = true):p = false:=by cases p <;> simp_all
theorem adi {p:Bool} (h:(!p) = false):p = true:=by cases p <;> simp_all
theorem alq {a b:Nat} (h:aaa .gtr (a:Int) (b:Int) = true):b < a:=by
 have:(a:Int) > b:=of_decide_eq_true h
 omega
theorem anq {a b:Nat} (h:aaa .gtr (a:Int) (b:Int) = false):a <= b:=by
 have:¬ (a:Int) > b:=of_decide_eq_false h
 omega
theorem aaj {a b:Nat} (hle:a <= b) (h:aaa .lss (a:Int) (b:Int) = false):a = b:=by have:=a6e h; omega
theorem aes {x y:Int} (h:aaa .eql x y = true):x = y:=by simpa [aaa] using h
theorem afr {x y:Int} (h:aaa .eql x y = false):x ≠ y:=by simpa [aaa] using h
theorem ajb {x y:Int} (h:aaa .neq x y = true):x ≠ y:=by simpa [aaa] using h
theorem ams {x y:Int} (h:aaa .neq x y = false):x = y:=by simpa [aaa] using h
theorem bgj {k:Int} (h:cond (aaa .neq k 0) (aaa .neq k 1) false = true):k ≠ 0 /\ k ≠ 1:=by
 cases h1:aaa .neq k 0
 ·rw [h1] at h; cases h
 ·rw [h1] at h; exact ⟨ajb h1,ajb h⟩
theorem bfy {k:Int} (h:cond (aaa .neq k 0) (aaa .neq k 1) false = false):¬ (k ≠ 0 /\ k ≠ 1):=by
 rintro ⟨h1,h2⟩
 have e1:aaa .neq k 0 = true:=by simpa [aaa] using h1
 have e2:aaa .neq k 1 = true:=by simpa [aaa] using h2
 rw [e1,e2] at h; cases h
theorem bfp {p q r s:Rat} (h:cond (aaa .eql (af7 (p - q)) 0) (aaa .eql (af7 (r - s)) 0) false = true):p = q /\ r = s:=by
 cases h1:aaa .eql (af7 (p - q)) 0
 ·rw [h1] at h; cases h
 ·rw [h1] at h
  have e1:=ai7 (aes h1)
  have e2:=ai7 (aes h)
  exact ⟨by grind,by grind⟩
theorem bfb {p q r s:Rat} (h:cond (aaa .eql (af7 (p - q)) 0) (aaa .eql (af7 (r - s)) 0) false = false):¬ (p = q /\ r = s):=by
 rintro ⟨rfl,rfl⟩
 rw [Rat.sub_self,Rat.sub_self] at h; cases h
theorem aps {l:Li} {i:Int} (h:inB i l.bodies.length = true):∃ b, l.bodies[i.toNat]? = some b /\ adz l i = b.pts /\ b ∈ l.bodies /\ 0 <= i:=by
 have h1:=ahg h
 obtain ⟨b,hb⟩:=abt (l:=l.bodies) (i:=i.toNat) (by omega)
 exact ⟨b,hb,by unfold adz; rw [aaf hb],mem_of_getElem? hb,h1.1⟩
theorem asg {ps:List Mk} {i:Int} (h:inB i ps.length = true):∃ m, ps[i.toNat]? = some m /\ ps.getD i.toNat default = m /\ m ∈ ps /\ 0 <= i:=by
 have h1:=ahg h
 obtain ⟨m,hm⟩:=abt (l:=ps) (i:=i.toNat) (by omega)
 exact ⟨m,hm,aaf hm,mem_of_getElem? hm,h1.1⟩
theorem ak6 {x y:Int}:aaa .eql x y = decide (x = y):=by
 show (x == y) = decide (x = y)
 rw [Bool.eq_iff_iff,beq_iff_eq,decide_eq_true_eq]
theorem bgh {n:Nat} (h:aaa .eql (n:Int) 0 = true):n = 0:=by have:=aes h; omega
theorem bgd {n:Nat} (h:aaa .eql (n:Int) 0 = false):n ≠ 0:=by have:=afr h; omega
theorem bde {p q r s:Rat}:cond (aaa .eql (af7 (p - q)) 0) (aaa .eql (af7 (r - s)) 0) false = decide (p = q /\ r = s):=by
 cases h:cond (aaa .eql (af7 (p - q)) 0) (aaa .eql (af7 (r - s)) 0) false
 ·exact (decide_eq_false (bfb h)).symm
 ·exact (decide_eq_true (bfp h)).symm
end Go.Lw
