/- VelocityHolds: for any linkage, assembly and velocities the law returns true and leaves its arguments as they were. No other condition. Part 4 of 7: what the later parts need -/
import Derived.Test.YtohejbfhhanckaaGreatXc
import Derived.Laws.Strings
set_option linter.unusedVariables false
namespace Go.Lw
structure Nm (n e : Nat) (l : List Rat) : Prop where
  five : n <= 5
  nl : Nl n l
  cb : Cb e l
theorem Nm.mono {n e f : Nat} {l : List Rat} (h : Nm n e l) (hf : e <= f) : Nm n f l := ⟨h.five,h.nl,h.cb.mono hf⟩
theorem Nm.rt {n e : Nat} {l : List Rat} (h : Nm n e l) (he : e <= lm n) : NR (l.map Go.Lw.rt) e := by
 have hlm := lm_le n
 refine ⟨?_,by have := h.nl.len5 h.five; rw [List.length_map]; omega,by rw [lq_rt]; exact h.cb⟩
 intro x hx
 obtain ⟨q,hq,rfl⟩ := List.mem_map.1 hx
 exact (h.cb.qs (by omega) hq).ok
theorem Nm.chk {n e : Nat} {l : List Rat} (h : Nm n e l) : numE n (l.map Go.Lw.rt) = 0 := numE_rt h.nl
theorem Nm.add {n e f : Nat} {a b : List Rat} (ha : Nm n e a) (hb : Nm n f b) : Nm n (e + f + 1) (sh n (T.add n (dec n a) (dec n b))) := by
 refine ⟨ha.five,sh_nl _ _,?_⟩
 rw [<- dec_plus]
 exact (ha.cb.plus hb.cb).sh (nl_plus ha.nl hb.nl)
theorem Nm.neg {n e : Nat} {a : List Rat} (ha : Nm n e a) : Nm n e (sh n (T.neg n (dec n a))) := by
 refine ⟨ha.five,sh_nl _ _,?_⟩
 rw [<- dec_minus]
 exact ha.cb.minus.sh (nl_minus ha.nl)
theorem Nm.sub {n e f : Nat} {a b : List Rat} (ha : Nm n e a) (hb : Nm n f b) : Nm n (e + f + 1) (sh n (T.add n (dec n a) (T.neg n (dec n b)))) := by
 refine ⟨ha.five,sh_nl _ _,?_⟩
 rw [<- dec_minus,<- dec_plus]
 exact (ha.cb.plus hb.cb.minus).sh (nl_plus ha.nl (nl_minus hb.nl))
abbrev kB (r n : Nat) : Nat := eB r n
theorem Nm.mul {ts : List (List Rat)} {r n e f : Nat} (tw : Tw ts r) (hn : n = ts.length) {a b : List Rat} (ha : Nm n e a) (hb : Nm n f b) : Nm n (e + f + kB r n) (sh n (T.mul (rtsOf ts) n (dec n a) (dec n b))) := by
 subst hn
 refine ⟨ha.five,sh_nl _ _,?_⟩
 have h1 := pT_spec ts ts.length tw.ok.1 ts.length ts.length a b (Nat.le_refl _) (Nat.le_refl _) ha.nl hb.nl
 have h2 := Cb.mul tw.ok (k := ts.length) (Nat.le_refl ts.length) (Nat.le_refl _) ha.nl hb.nl ha.cb hb.cb
 rw [<- h1.2]
 exact h2.sh h1.1
theorem Nm.ofQ {n e : Nat} (hn : n <= 5) {q : Rat} (h : Cb e [q]) : Nm n e (sh 0 (q : Rat)) := by
 refine ⟨hn,(sh_nl 0 q).mono (Nat.zero_le _),?_⟩
 have := h.sh (k := 0) (.inr ⟨0,Nat.le_refl _,rfl⟩)
 exact this
theorem Cb.one {e : Nat} {q : Rat} (h : Qb e q) : Cb e [q] := by
 refine ⟨q.den,q.num.natAbs,⟨by have := q.den_nz; omega,?_⟩,Nat.le_of_lt h.2,Nat.le_of_lt h.1⟩
 intro x hx
 rw [List.mem_singleton.1 hx]
 refine ⟨q.num,?_,Nat.le_refl _⟩
 have hd : ((q.den : Int) : Rat) ≠ 0 := by
  intro h0
  have : (q.den : Int) = 0 := Rat.intCast_eq_zero_iff.1 h0
  have := q.den_nz; omega
 have hq : q = (q.num : Rat) / ((q.den : Int) : Rat) := by
  rw [<- Rat.divInt_eq_div,Rat.num_divInt_den]
 have h1 : (q.num : Rat) / ((q.den : Int) : Rat) * ((q.den : Int) : Rat) = (q.num : Rat) := Rat.div_mul_cancel hd
 rw [<- hq] at h1
 exact h1
theorem dec_sh0 (n : Nat) (q : Rat) : dec n (sh 0 (q : Rat)) = T.ofQ n q := by
 show dec n (if q = 0 then [] else [q]) = _
 split
 ·rename_i h
  subst h
  rw [dec_nil]
  induction n with
  | zero => rfl
  | succ n ih => simp only [T.zero,T.ofQ,ih]
 ·exact dec_one n q
def ptA (x y : List Rat) : AV := .agg [nA x,nA y]
def sumB (ts : List (List Rat)) : Blk := .box [.lst 1 (ts.map nA),.v .nilIface]
theorem one_chk {ts : List (List Rat)} {r e : Nat} (tw : Tw ts r) {a : List Rat} (ha : Nm ts.length e a) : chksE (ts.map (List.map rt)) [a.map rt] = 0 := by
 refine chks_of tw.chk (fun x hx => ?_)
 rw [List.mem_singleton.1 hx,List.length_map]; exact ha.chk
theorem two_chk {ts : List (List Rat)} {r e f : Nat} (tw : Tw ts r) {a b : List Rat} (ha : Nm ts.length e a) (hb : Nm ts.length f b) : chksE (ts.map (List.map rt)) [a.map rt, b.map rt] = 0 := by
 refine chks_of tw.chk (fun x hx => ?_)
 rw [List.length_map]
 simp only [List.mem_cons,List.not_mem_nil,or_false] at hx
 rcases hx with rfl | rfl
 ·exact ha.chk
 ·exact hb.chk
def flat2 : List (List Rat × List Rat) -> List (List Rat)
  | [] => []
  | p :: l => p.1 :: p.2 :: flat2 l
theorem flat2_app : ∀ (a b : List (List Rat × List Rat)), flat2 (a ++ b) = flat2 a ++ flat2 b
 | [],b => rfl
 | p :: a,b => by simp only [List.cons_append,flat2,flat2_app a b]
theorem len_flat2 : ∀ (a : List (List Rat × List Rat)), (flat2 a).length = 2 * a.length
 | [] => rfl
 | p :: a => by simp only [flat2,List.length_cons,len_flat2 a]; omega
theorem flat2_all {P : List Rat -> Prop} : ∀ {ps : List (List Rat × List Rat)}, (∀ p ∈ ps, P p.1 /\ P p.2) -> ∀ l ∈ flat2 ps, P l
 | [],_,l,h => by cases h
 | p :: ps, hp, l, h => by
  simp only [flat2,List.mem_cons] at h
  rcases h with rfl | rfl | h
  ·exact (hp p (by simp)).1
  ·exact (hp p (by simp)).2
  ·exact flat2_all (fun q hq => hp q (by simp [hq])) l h
theorem keep1 {s : AS} {k : Nat} {x : Blk} (h : lk s.hp k = some x) : ∀ k' z, lk [(k, some x)] k' = some z -> lk s.hp k' = some z := by
 intro k' z hz
 obtain ⟨rfl,h9⟩ := lk_one hz
 cases h9; exact h
def dotT (ts : List (List Rat)) (a b c d : T ts.length) : T ts.length := T.add ts.length (T.mul (rtsOf ts) ts.length a c) (T.mul (rtsOf ts) ts.length b d)
def crossT (ts : List (List Rat)) (a b c d : T ts.length) : T ts.length := T.add ts.length (T.mul (rtsOf ts) ts.length a d) (T.neg ts.length (T.mul (rtsOf ts) ts.length b c))
theorem dot_ap {ts : List (List Rat)} {a b c d : T ts.length} : T.add ts.length (dec ts.length (sh ts.length (T.mul (rtsOf ts) ts.length a c))) (dec ts.length (sh ts.length (T.mul (rtsOf ts) ts.length b d))) = dotT ts a b c d := by
 rw [dec_sh,dec_sh]; rfl
theorem cross_ap {ts : List (List Rat)} {a b c d : T ts.length} : T.add ts.length (dec ts.length (sh ts.length (T.mul (rtsOf ts) ts.length a d))) (T.neg ts.length (dec ts.length (sh ts.length (T.mul (rtsOf ts) ts.length b c)))) = crossT ts a b c d := by
 rw [dec_sh,dec_sh]; rfl
abbrev subT (ts : List (List Rat)) (x y : T ts.length) : T ts.length := T.add ts.length x (T.neg ts.length y)
theorem dot_nm {ts : List (List Rat)} {r e f : Nat} (tw : Tw ts r) {a b c d : List Rat} (ha : Nm ts.length e a) (hb : Nm ts.length e b) (hc : Nm ts.length f c) (hd : Nm ts.length f d) :
  Nm ts.length (2 * (e + f + kB r ts.length) + 1) (sh ts.length (dotT ts (dec ts.length a) (dec ts.length b) (dec ts.length c) (dec ts.length d))) := by
 have h := (ha.mul tw rfl hc).add (hb.mul tw rfl hd)
 rw [dot_ap] at h
 exact h.mono (by omega)
theorem cross_nm {ts : List (List Rat)} {r e f : Nat} (tw : Tw ts r) {a b c d : List Rat} (ha : Nm ts.length e a) (hb : Nm ts.length e b) (hc : Nm ts.length f c) (hd : Nm ts.length f d) :
  Nm ts.length (2 * (e + f + kB r ts.length) + 1) (sh ts.length (crossT ts (dec ts.length a) (dec ts.length b) (dec ts.length c) (dec ts.length d))) := by
 have h := (ha.mul tw rfl hd).sub (hb.mul tw rfl hc)
 rw [cross_ap] at h
 exact h.mono (by omega)
def turnX (ts : List (List Rat)) (cos sin x y : T ts.length) : T ts.length := crossT ts cos sin y x
def turnY (ts : List (List Rat)) (cos sin x y : T ts.length) : T ts.length := dotT ts sin cos x y
theorem turn_nmX {ts : List (List Rat)} {r e f : Nat} (tw : Tw ts r) {a b c d : List Rat} (ha : Nm ts.length e a) (hb : Nm ts.length e b) (hc : Nm ts.length f c) (hd : Nm ts.length f d) :
  Nm ts.length (2 * (e + f + kB r ts.length) + 1) (sh ts.length (turnX ts (dec ts.length a) (dec ts.length b) (dec ts.length c) (dec ts.length d))) := cross_nm tw ha hb hd hc
theorem turn_nmY {ts : List (List Rat)} {r e f : Nat} (tw : Tw ts r) {a b c d : List Rat} (ha : Nm ts.length e a) (hb : Nm ts.length e b) (hc : Nm ts.length f c) (hd : Nm ts.length f d) :
  Nm ts.length (2 * (e + f + kB r ts.length) + 1) (sh ts.length (turnY ts (dec ts.length a) (dec ts.length b) (dec ts.length c) (dec ts.length d))) := dot_nm tw hb ha hc hd
def atX (ts : List (List Rat)) (cos sin X : T ts.length) (x y : Rat) : T ts.length := T.add ts.length (turnX ts cos sin (T.ofQ ts.length x) (T.ofQ ts.length y)) X
def atY (ts : List (List Rat)) (cos sin Y : T ts.length) (x y : Rat) : T ts.length := T.add ts.length (turnY ts cos sin (T.ofQ ts.length x) (T.ofQ ts.length y)) Y
theorem at_ap1 {ts : List (List Rat)} {cos sin X : T ts.length} {x y : Rat} : T.add ts.length (dec ts.length (sh ts.length (turnX ts cos sin (dec ts.length (sh 0 (x : Rat))) (dec ts.length (sh 0 (y : Rat)))))) X = atX ts cos sin X x y := by
 rw [dec_sh,dec_sh0,dec_sh0]; rfl
theorem at_ap2 {ts : List (List Rat)} {cos sin Y : T ts.length} {x y : Rat} : T.add ts.length (dec ts.length (sh ts.length (turnY ts cos sin (dec ts.length (sh 0 (x : Rat))) (dec ts.length (sh 0 (y : Rat)))))) Y = atY ts cos sin Y x y := by
 rw [dec_sh,dec_sh0,dec_sh0]; rfl
theorem Sub.fn0 (f : FuncId) : Sub (.v (.func (.func f) #[] #[])) (.fn f []) := fun g S m v h => by
 cases h
 exact .fn rfl (fun j u c hu hc => by simp at hc)
theorem at_size {e k m : Nat} (h : 8 * e + 4 * k + 4 <= m) : 2 * (2 * (e + e + k) + 1) <= m:=by omega
theorem chks_one {rs : List (List Rt)} {a : List Rt} (h : chkE rs = 0) : chksE rs [a] = numE rs.length a := by
 unfold chksE
 rw [if_neg (by rw [h]; simp)]
 show (if _ then _ else 0) = _
 split
 ·rfl
 ·rename_i h1; exact (Decidable.not_not.1 h1).symm
def eqT (ts : List (List Rat)) (x y : T ts.length) : Bool := decide (T.sgn (rtsOf ts) ts.length (subT ts x y) = 0)
theorem sgn_dec (z : Int) : cond true (icmp .eql z 0) false = decide (z = 0) := by
 by_cases h : z = 0
 ·subst h; rfl
 ·rw [decide_eq_false h]; simpa [icmp] using h
theorem int_qs {n : Int} (h : -9223372036854775808 <= n /\ n <= 9223372036854775807) : Qs ((n : Rat)) := by
 refine ⟨2,by unfold lim; omega,?_,?_⟩
 ·unfold Lz; simp only [Rat.num_intCast,Nat.reducePow]; omega
 ·unfold Lz; simp only [Rat.den_intCast]; decide
end Go.Lw
namespace Go.Lw
open Lean.Grind
def E (r : (k : Nat) -> T k) (n : Nat) : Type := T n
namespace T
theorem ofQ_zero : ∀ n, ofQ n 0 = zero n
 | 0 => rfl
 | n + 1 => by simp only [ofQ,zero,ofQ_zero n]
theorem ofQ_add : ∀ n (p q : Rat), ofQ n (p + q) = add n (ofQ n p) (ofQ n q)
 | 0,p,q => rfl
 | n + 1,p,q => by simp only [ofQ,add,ofQ_add n,add_zero]
theorem ofQ_neg : ∀ n (p : Rat), ofQ n (-p) = neg n (ofQ n p)
 | 0,p => rfl
 | n + 1,p => by simp only [ofQ,neg,ofQ_neg n,neg_zero]
end T
structure Laws (r : (k : Nat) -> T k) (n : Nat) : Prop where
  assoc : ∀ x y z,T.mul r n (T.mul r n x y) z = T.mul r n x (T.mul r n y z)
  dist : ∀ x y z,T.mul r n x (T.add n y z) = T.add n (T.mul r n x y) (T.mul r n x z)
  one : ∀ x,T.mul r n (T.ofQ n 1) x = x
theorem T.neg_mul' {r : (k : Nat) -> T k} {n : Nat} (h : Laws r n) (x y : T n) : T.mul r n (T.neg n x) y = T.neg n (T.mul r n x y) := by
 have h1 : T.add n (T.mul r n x y) (T.mul r n (T.neg n x) y) = T.zero n := by
  rw [T.mul_comm r n x,T.mul_comm r n (T.neg n x),<- h.dist,T.add_neg,T.mul_zero]
 have h2 := congrArg (fun z => T.add n (T.neg n (T.mul r n x y)) z) h1
 simp only [T.add_zero] at h2
 rw [<- T.add_assoc,T.add_comm n (T.neg n _),T.add_neg,T.zero_add] at h2
 exact h2
theorem T.mul_addr {r : (k : Nat) -> T k} {n : Nat} (h : Laws r n) (a b c : T n) : T.mul r n (T.add n a b) c = T.add n (T.mul r n a c) (T.mul r n b c) := by
 rw [T.mul_comm r n _ c,h.dist,T.mul_comm r n c,T.mul_comm r n c]
instance (r : (k : Nat) -> T k) (n : Nat) : Add (E r n) := ⟨T.add n⟩
instance (r : (k : Nat) -> T k) (n : Nat) : Mul (E r n) := ⟨T.mul r n⟩
instance (r : (k : Nat) -> T k) (n : Nat) : Neg (E r n) := ⟨T.neg n⟩
instance (r : (k : Nat) -> T k) (n : Nat) : _root_.Sub (E r n) := ⟨fun x y => T.add n x (T.neg n y)⟩
instance (r : (k : Nat) -> T k) (n c : Nat) : OfNat (E r n) c := ⟨T.ofQ n (c : Rat)⟩
instance (r : (k : Nat) -> T k) (n : Nat) : NatCast (E r n) := ⟨fun c => T.ofQ n (c : Rat)⟩
instance (r : (k : Nat) -> T k) (n : Nat) : IntCast (E r n) := ⟨fun c => T.ofQ n (c : Rat)⟩
instance (r : (k : Nat) -> T k) (n : Nat) : SMul Nat (E r n) := ⟨fun c x => T.mul r n (T.ofQ n (c : Rat)) x⟩
instance (r : (k : Nat) -> T k) (n : Nat) : SMul Int (E r n) := ⟨fun c x => T.mul r n (T.ofQ n (c : Rat)) x⟩
def E.pow {r : (k : Nat) -> T k} {n : Nat} (x : E r n) : Nat -> E r n
  | 0 => T.ofQ n 1
  | c + 1 => T.mul r n (E.pow x c) x
instance (r : (k : Nat) -> T k) (n : Nat) : HPow (E r n) Nat (E r n) := ⟨E.pow⟩
@[reducible] def Laws.ring {r : (k : Nat) -> T k} {n : Nat} (h : Laws r n) : CommRing (E r n) where
  add_zero a := by
    show T.add n a (T.ofQ n ((0 : Nat) : Rat)) = a
    rw [show (((0 : Nat) : Rat)) = 0 from rfl,T.ofQ_zero]; exact T.add_zero n a
  add_comm a b := T.add_comm n a b
  add_assoc a b c := T.add_assoc n a b c
  mul_assoc a b c := h.assoc a b c
  mul_one a := (T.mul_comm r n a _).trans (h.one a)
  one_mul a := h.one a
  left_distrib a b c := h.dist a b c
  right_distrib a b c := T.mul_addr h a b c
  zero_mul a := by
    show T.mul r n (T.ofQ n ((0 : Nat) : Rat)) a = T.ofQ n ((0 : Nat) : Rat)
    rw [show (((0 : Nat) : Rat)) = 0 from rfl,T.ofQ_zero]; exact T.zero_mul r n a
  mul_zero a := by
    show T.mul r n a (T.ofQ n ((0 : Nat) : Rat)) = T.ofQ n ((0 : Nat) : Rat)
    rw [show (((0 : Nat) : Rat)) = 0 from rfl,T.ofQ_zero]; exact T.mul_zero r n a
  pow_zero a := rfl
  pow_succ a c := rfl
  ofNat_succ c := by
    show T.ofQ n ((c + 1 : Nat) : Rat) = T.add n (T.ofQ n (c : Rat)) (T.ofQ n ((1 : Nat) : Rat))
    rw [<- T.ofQ_add]; congr 1; exact Rat.natCast_add c 1
  ofNat_eq_natCast c := rfl
  nsmul_eq_natCast_mul c a := rfl
  neg_add_cancel a := (T.add_comm n (T.neg n a) a).trans ((T.add_neg n a).trans (T.ofQ_zero n).symm)
  sub a b := T.add n a (T.neg n b)
  sub_eq_add_neg a b := rfl
  neg_zsmul i a := (congrArg (fun z => T.mul r n z a) (show T.ofQ n ((-i : Int) : Rat) = T.neg n (T.ofQ n (i : Rat)) by rw [Rat.intCast_neg,T.ofQ_neg])).trans (T.neg_mul' h _ a)
  zsmul_natCast_eq_nsmul c a := rfl
  intCast_ofNat c := rfl
  intCast_neg i := by
    show T.ofQ n ((-i : Int) : Rat) = T.neg n (T.ofQ n (i : Rat))
    rw [Rat.intCast_neg,T.ofQ_neg]
  mul_comm a b := T.mul_comm r n a b
section
variable {R : Type} [CommRing R] (x y u v p q d : R)
theorem ring_a1 : (x * u + y * v * d) * p + (x * v + y * u) * q * d = x * (u * p + v * q * d) + y * (u * q + v * p) * d:=by grind
theorem ring_a2 : (x * u + y * v * d) * q + (x * v + y * u) * p = x * (u * q + v * p) + y * (u * p + v * q * d):=by grind
theorem ring_d1 : x * (u + p) + y * (v + q) * d = (x * u + y * v * d) + (x * p + y * q * d):=by grind
theorem ring_d2 : x * (v + q) + y * (u + p) = (x * v + y * u) + (x * q + y * p):=by grind
end
theorem laws (r : (k : Nat) -> T k) : ∀ n, Laws r n
 | 0 => ⟨fun x y z => Rat.mul_assoc x y z,fun x y z => Rat.mul_add x y z,fun x => Rat.one_mul x⟩
 | n + 1 => by
  have I := (laws r n).ring
  have h1 := (laws r n).one
  refine ⟨?_,?_,?_⟩
  ·rintro ⟨x, y⟩ ⟨u, v⟩ ⟨p, q⟩
   exact Prod.ext (@ring_a1 (E r n) (laws r n).ring x y u v p q (r n)) (@ring_a2 (E r n) (laws r n).ring x y u v p q (r n))
  ·rintro ⟨x, y⟩ ⟨u, v⟩ ⟨p, q⟩
   exact Prod.ext (@ring_d1 (E r n) (laws r n).ring x y u v p q (r n)) (@ring_d2 (E r n) (laws r n).ring x y u v p q)
  ·rintro ⟨u, v⟩
   refine Prod.ext ?_ ?_
   ·show T.add n (T.mul r n (T.ofQ n 1) u) (T.mul r n (T.mul r n (T.zero n) v) (r n)) = u
    rw [h1,T.zero_mul,T.zero_mul,T.add_zero]
   ·show T.add n (T.mul r n (T.ofQ n 1) v) (T.mul r n (T.zero n) u) = v
    rw [h1,T.zero_mul,T.add_zero]
instance eRing (r : (k : Nat) -> T k) (n : Nat) : CommRing (E r n) := (laws r n).ring
structure Sg (R : Type) [CommRing R] (s : R -> Int) : Prop where
  cs : ∀ x,s x = -1 \/ s x = 0 \/ s x = 1
  one : s 1 = 1
  neg : ∀ x,s (-x) = -s x
  mul : ∀ x y,s (x * y) = s x * s y
  add : ∀ x y,0 <= s x -> 0 <= s y -> 0 <= s (x + y)
namespace Sg
variable {R : Type} [CommRing R] {s : R -> Int}
theorem zero (h : Sg R s) : s 0 = 0 := by
 have h1 := h.neg 0
 rw [show -(0 : R) = 0 by grind] at h1
 omega
end Sg
def sg (r : (k : Nat) -> T k) (n : Nat) (x : E r n) : Int := T.sgn r n x
variable {r : (k : Nat) -> T k} {n : Nat}
theorem E.zero_def : (0 : E r n) = T.zero n := T.ofQ_zero n
end Go.Lw
namespace Go.Lw
def xA {r : (k : Nat) -> T k} {n : Nat} (x : E r n) : AV := nA (sh n x)
abbrev Pn (r : (k : Nat) -> T k) (n : Nat) : Type := E r n × E r n
def tsX (r : (k : Nat) -> T k) (n : Nat) : List (List Rat) := (List.range n).map fun k => enc k (r k)
def qE {r : (k : Nat) -> T k} {n : Nat} (q : Rat) : E r n := T.ofQ n q
theorem sh_ofQ : ∀ (n : Nat) (q : Rat), sh n (T.ofQ n q) = sh 0 (q : Rat)
 | 0,q => rfl
 | n + 1, q => by
  show (if T.isZ n (T.zero n) = true then sh n (T.ofQ n q) else _) = _
  rw [if_pos ((T.isZ_iff n _).2 rfl),sh_ofQ n q]
theorem sh_zero : ∀ n : Nat, sh n (T.zero n) = []
 | 0 => rfl
 | n + 1 => by
  show (if T.isZ n (T.zero n) = true then sh n (T.zero n) else _) = _
  rw [if_pos ((T.isZ_iff n _).2 rfl),sh_zero n]
theorem len_tsX (r : (k : Nat) -> T k) (n : Nat) : (tsX r n).length = n:=by simp [tsX]
theorem get_tsX {r : (k : Nat) -> T k} {n j : Nat} (h : j < n) : (tsX r n).getD j [] = enc j (r j) := by
 unfold tsX
 rw [List.getD_eq_getElem?_getD,List.getElem?_map,List.getElem?_range h]; rfl
theorem rts_tsX {r : (k : Nat) -> T k} {n j : Nat} (h : j < n) : rtsOf (tsX r n) j = r j := by
 unfold rtsOf; rw [get_tsX h,dec_enc]
theorem tsX_of {ts : List (List Rat)} {R : Nat} (tw : Tw ts R) : ts = tsX (rtsOf ts) ts.length := by
 apply List.ext_getElem?
 intro j
 by_cases hj : j < ts.length
 ·have h1 := get_tsX (r := rtsOf ts) hj
  have h2 := tw.len j hj
  rw [List.getD_eq_getElem?_getD] at h1
  rw [List.getElem?_eq_getElem (show j < (tsX (rtsOf ts) ts.length).length by rw [len_tsX]; exact hj)] at h1 ⊢
  rw [Option.getD_some] at h1
  rw [h1,List.getElem?_eq_getElem hj]
  unfold rtsOf
  rw [enc_dec _ _ h2,List.getD_eq_getElem?_getD,List.getElem?_eq_getElem hj]; rfl
 ·rw [List.getElem?_eq_none (by omega),List.getElem?_eq_none (by rw [len_tsX]; omega)]
class Cx (r : (k : Nat) -> T k) (n : Nat) (u k : outParam Nat) : Prop where
  ex : ∃ R,Tw (tsX r n) R /\ eB R n <= k
  k1 : 1 <= k
  u3 : 3 <= u
class Zu (u k : Nat) {r : (k : Nat) -> T k} {n : Nat} (x : E r n) (w v : outParam Nat) : Prop where
  nm : Nm n (w * u + v * k) (sh n x)
class Zp (u k : Nat) {r : (k : Nat) -> T k} {n : Nat} (p : Pn r n) (w v : outParam Nat) : Prop where
  x : Nm n (w * u + v * k) (sh n p.1)
  y : Nm n (w * u + v * k) (sh n p.2)
class Qz (u : Nat) (q : Rat) (w : outParam Nat) : Prop where
  cb : Cb (w * u) [q]
section
variable {r : (k : Nat) -> T k} {n u k : Nat}
theorem Cx.five (c : Cx r n u k) : n <= 5:=by obtain ⟨R,tw,_⟩ := c.ex; have := tw.five; rwa [len_tsX] at this
theorem Cx.three (c : Cx r n u k) : n <= 3:=by obtain ⟨R,tw,_⟩ := c.ex; have := tw.three; rwa [len_tsX] at this
theorem wv_add (w v w' v' u k : Nat) : (w * u + v * k) + (w' * u + v' * k) = (w + w') * u + (v + v') * k := by
 rw [Nat.add_mul,Nat.add_mul]; omega
theorem Nm.eq {n e f : Nat} {l : List Rat} (h : Nm n e l) (hf : e = f) : Nm n f l := hf ▸ h
theorem Nm.addT {e f : Nat} {x y : T n} (hx : Nm n e (sh n x)) (hy : Nm n f (sh n y)) : Nm n (e + f + 1) (sh n (T.add n x y)) := by
 have h := hx.add hy
 rwa [dec_sh,dec_sh] at h
theorem Nm.subT {e f : Nat} {x y : T n} (hx : Nm n e (sh n x)) (hy : Nm n f (sh n y)) : Nm n (e + f + 1) (sh n (T.add n x (T.neg n y))) := by
 have h := hx.sub hy
 rwa [dec_sh,dec_sh] at h
theorem Nm.negT {e : Nat} {x : T n} (hx : Nm n e (sh n x)) : Nm n e (sh n (T.neg n x)) := by
 have h := hx.neg
 rwa [dec_sh] at h
theorem Nm.mulT {R e f : Nat} (tw : Tw (tsX r n) R) {x y : T n} (hx : Nm n e (sh n x)) (hy : Nm n f (sh n y)) : Nm n (e + f + eB R n) (sh n (T.mul r n x y)) := by
 have h := Nm.mul tw (len_tsX r n).symm hx hy
 rwa [dec_sh,dec_sh,T.mul_congr n (fun j hj => rts_tsX hj)] at h
instance Zu.add [c : Cx r n u k] {x y : E r n} {w v w' v' : Nat} [hx : Zu u k x w v] [hy : Zu u k y w' v'] : Zu u k (x + y) (w + w') (v + v' + 1) :=
  ⟨(Nm.addT hx.nm hy.nm).mono (by rw [wv_add,Nat.add_mul _ 1]; have := c.k1; omega)⟩
instance Zu.sub [c : Cx r n u k] {x y : E r n} {w v w' v' : Nat} [hx : Zu u k x w v] [hy : Zu u k y w' v'] : Zu u k (x - y) (w + w') (v + v' + 1) :=
  ⟨(Nm.subT hx.nm hy.nm).mono (by rw [wv_add,Nat.add_mul _ 1]; have := c.k1; omega)⟩
instance Zu.neg {x : E r n} {w v : Nat} [hx : Zu u k x w v] : Zu u k (-x) w v := ⟨Nm.negT hx.nm⟩
instance Zu.mul [c : Cx r n u k] {x y : E r n} {w v w' v' : Nat} [hx : Zu u k x w v] [hy : Zu u k y w' v'] : Zu u k (x * y) (w + w') (v + v' + 1) := by
  obtain ⟨R,tw,hk⟩ := c.ex
  exact ⟨(Nm.mulT tw hx.nm hy.nm).mono (by rw [wv_add,Nat.add_mul _ 1]; omega)⟩
instance Zu.qE [c : Cx r n u k] {q : Rat} {w : Nat} [h : Qz u q w] : Zu u k (qE q : E r n) w 0 := ⟨by
  show Nm n _ (sh n (T.ofQ n q))
  rw [sh_ofQ]
  exact (Nm.ofQ c.five h.cb).eq (by omega)⟩
theorem Cb.int {e : Nat} {z : Int} (h : z.natAbs <= 2 ^ e) : Cb e [(z : Rat)] :=
 ⟨1,z.natAbs,⟨by omega,fun q hq => ⟨z,by rw [List.mem_singleton.1 hq]; exact Rat.mul_one _,Nat.le_refl _⟩⟩,Nat.one_le_two_pow,h⟩
theorem Qz.int [c : Cx r n u k] {z : Int} (h : z.natAbs <= 8) : Qz u (z : Rat) 1 := ⟨Cb.int (Nat.le_trans h (show 2 ^ 3 <= _ from pow_le2 (by have := c.u3; omega)))⟩
instance Zu.c0 [c : Cx r n u k] : Zu u k (0 : E r n) 0 0 := ⟨by
  show Nm n _ (sh n (T.ofQ n ((0 : Nat) : Rat)))
  rw [show (((0 : Nat) : Rat)) = 0 from rfl,T.ofQ_zero,sh_zero]
  exact ⟨c.five,.inl rfl,Cb.nil.mono (Nat.zero_le _)⟩⟩
instance Zu.c1 [c : Cx r n u k] : Zu u k (1 : E r n) 1 0 := by
  haveI : Qz u ((1 : Nat) : Rat) 1 := Qz.int (c := c) (z := 1) (by decide)
  exact (inferInstance : Zu u k (Go.Lw.qE ((1 : Nat) : Rat) : E r n) 1 0)
instance Zu.c2 [c : Cx r n u k] : Zu u k (2 : E r n) 1 0 := by
  haveI : Qz u ((2 : Nat) : Rat) 1 := Qz.int (c := c) (z := 2) (by decide)
  exact (inferInstance : Zu u k (Go.Lw.qE ((2 : Nat) : Rat) : E r n) 1 0)
instance Zu.c4 [c : Cx r n u k] : Zu u k (4 : E r n) 1 0 := by
  haveI : Qz u ((4 : Nat) : Rat) 1 := Qz.int (c := c) (z := 4) (by decide)
  exact (inferInstance : Zu u k (Go.Lw.qE ((4 : Nat) : Rat) : E r n) 1 0)
instance Zu.px {p : Pn r n} {w v : Nat} [h : Zp u k p w v] : Zu u k p.1 w v := ⟨h.x⟩
instance Zu.py {p : Pn r n} {w v : Nat} [h : Zp u k p w v] : Zu u k p.2 w v := ⟨h.y⟩
theorem wv_max {w v w' v' u k : Nat} (h : w <= w') (h' : v <= v') : w * u + v * k <= w' * u + v' * k := Nat.add_le_add (Nat.mul_le_mul_right _ h) (Nat.mul_le_mul_right _ h')
instance Zp.mk' {x y : E r n} {w v w' v' : Nat} [hx : Zu u k x w v] [hy : Zu u k y w' v'] : Zp u k ((x, y) : Pn r n) (max w w') (max v v') :=
  ⟨hx.nm.mono (wv_max (Nat.le_max_left ..) (Nat.le_max_left ..)),hy.nm.mono (wv_max (Nat.le_max_right ..) (Nat.le_max_right ..))⟩
def pAdd (p q : Pn r n) : Pn r n := (p.1 + q.1,p.2 + q.2)
def pSub (p q : Pn r n) : Pn r n := (p.1 - q.1,p.2 - q.2)
def pScale (c : E r n) (p : Pn r n) : Pn r n := (c * p.1,c * p.2)
def pDot (p q : Pn r n) : E r n := p.1 * q.1 + p.2 * q.2
def pCross (p q : Pn r n) : E r n := p.1 * q.2 - p.2 * q.1
def pTurn (c s : E r n) (p : Pn r n) : Pn r n := (c * p.1 - s * p.2,s * p.1 + c * p.2)
def pQ (x y : Rat) : Pn r n := (qE x,qE y)
def pQuart (p : Pn r n) : Pn r n := (-p.2,p.1)
instance Zp.add [c : Cx r n u k] {p q : Pn r n} {w v w' v' : Nat} [hp : Zp u k p w v] [hq : Zp u k q w' v'] : Zp u k (pAdd p q) (w + w') (v + v' + 1) :=
  ⟨(inferInstance : Zu u k (p.1 + q.1) (w + w') (v + v' + 1)).nm,(inferInstance : Zu u k (p.2 + q.2) (w + w') (v + v' + 1)).nm⟩
instance Zp.sub [c : Cx r n u k] {p q : Pn r n} {w v w' v' : Nat} [hp : Zp u k p w v] [hq : Zp u k q w' v'] : Zp u k (pSub p q) (w + w') (v + v' + 1) :=
  ⟨(inferInstance : Zu u k (p.1 - q.1) (w + w') (v + v' + 1)).nm,(inferInstance : Zu u k (p.2 - q.2) (w + w') (v + v' + 1)).nm⟩
instance Zp.scale [c : Cx r n u k] {a : E r n} {q : Pn r n} {w v w' v' : Nat} [hp : Zu u k a w v] [hq : Zp u k q w' v'] : Zp u k (pScale a q) (w + w') (v + v' + 1) :=
  ⟨(inferInstance : Zu u k (a * q.1) (w + w') (v + v' + 1)).nm,(inferInstance : Zu u k (a * q.2) (w + w') (v + v' + 1)).nm⟩
instance Zu.dot [c : Cx r n u k] {p q : Pn r n} {w v w' v' : Nat} [hp : Zp u k p w v] [hq : Zp u k q w' v'] : Zu u k (pDot p q) (w + w' + (w + w')) (v + v' + 1 + (v + v' + 1) + 1) :=
  (inferInstance : Zu u k (p.1 * q.1 + p.2 * q.2) _ _)
instance Zu.cross [c : Cx r n u k] {p q : Pn r n} {w v w' v' : Nat} [hp : Zp u k p w v] [hq : Zp u k q w' v'] : Zu u k (pCross p q) (w + w' + (w + w')) (v + v' + 1 + (v + v' + 1) + 1) :=
  (inferInstance : Zu u k (p.1 * q.2 - p.2 * q.1) _ _)
instance Zp.turn [c : Cx r n u k] {a b : E r n} {p : Pn r n} {w v w' v' w2 v2 : Nat} [ha : Zu u k a w v] [hb : Zu u k b w' v'] [hp : Zp u k p w2 v2] :
    Zp u k (pTurn a b p) (w + w2 + (w' + w2)) (v + v2 + 1 + (v' + v2 + 1) + 1) :=
  ⟨(inferInstance : Zu u k (a * p.1 - b * p.2) _ _).nm, by
    have h := (inferInstance : Zu u k (b * p.1 + a * p.2) _ _).nm
    exact h.eq (by rw [Nat.add_comm (w' + w2),Nat.add_comm (v' + v2 + 1)])⟩
instance Zp.ofQ [c : Cx r n u k] {x y : Rat} {w w' : Nat} [hx : Qz u x w] [hy : Qz u y w'] : Zp u k (pQ x y : Pn r n) (max w w') (max 0 0) :=
  (inferInstance : Zp u k ((qE x,qE y) : Pn r n) _ _)
instance Zp.quart {p : Pn r n} {w v : Nat} [hp : Zp u k p w v] : Zp u k (pQuart p) w v := ⟨(inferInstance : Zu u k (-p.2) w v).nm,hp.x⟩
end
end Go.Lw
namespace Go.Lw
def byteAt (s : ByteArray) (i : Nat) : Nat := (s.data.getD i 0).toNat
def letterB (c : Nat) : Bool := decide (97 <= c /\ c <= 122) || decide (65 <= c /\ c <= 90)
def digitB (c : Nat) : Bool := decide (48 <= c /\ c <= 57)
def partB (c : Nat) : Bool := letterB c || digitB c || decide (c = 95)
def partsFrom (s : ByteArray) : Nat -> Nat -> Bool
  | _,0 => true
  | i,n + 1 => partB (byteAt s i) && partsFrom s (i + 1) n
def nameB (s : ByteArray) : Bool := decide (0 < s.size /\ s.size <= 24) && letterB (byteAt s 0) && partsFrom s 0 s.size
def wordN (s : ByteArray) : Nat -> Nat -> Nat
  | i,0 => i
  | i,n + 1 => if partB (byteAt s i) then wordN s (i + 1) n else i
theorem wordN_le (s : ByteArray) : ∀ (n i : Nat), i <= wordN s i n /\ wordN s i n <= i + n
 | 0,i => ⟨Nat.le_refl _,Nat.le_refl _⟩
 | n + 1, i => by
  simp only [wordN]
  split
  ·have := wordN_le s n (i + 1); omega
  ·omega
theorem wordN_full (s : ByteArray) : ∀ (n i : Nat), wordN s i n = i + n ↔ partsFrom s i n = true
 | 0,i => by simp [wordN,partsFrom]
 | n + 1, i => by
  simp only [wordN,partsFrom,Bool.and_eq_true]
  split
  ·rename_i h
   rw [<- wordN_full s n (i + 1),show i + (n + 1) = i + 1 + n by omega]
   simp [h]
  ·rename_i h
   constructor
   ·intro h'; omega
   ·intro h'; exact absurd h'.1 h
theorem letter_part {c : Nat} (h : letterB c = true) : partB c = true:=by unfold partB; rw [h]; rfl
def wordL (s : ByteArray) : Nat := if 0 < s.size /\ letterB (byteAt s 0) = true then wordN s 1 (s.size - 1) else 0
theorem name_word (s : ByteArray) : nameB s = decide (0 < wordL s /\ wordL s = s.size /\ wordL s <= 24) := by
 unfold nameB wordL
 rw [Bool.eq_iff_iff]
 simp only [Bool.and_eq_true,decide_eq_true_eq]
 by_cases h : 0 < s.size /\ letterB (byteAt s 0) = true
 ·rw [if_pos h]
  obtain ⟨h1,h2⟩ := h
  have h3 := wordN_full s (s.size - 1) 1
  have h4 : partsFrom s 0 s.size = partsFrom s 1 (s.size - 1) := by
   obtain ⟨n,hn⟩ : ∃ n,s.size = n + 1 := ⟨s.size - 1,by omega⟩
   rw [hn]
   simp only [partsFrom,letter_part h2,Bool.true_and,Nat.add_sub_cancel]
  have h5 := wordN_le s (s.size - 1) 1
  rw [h4,<- h3]
  constructor
  ·rintro ⟨⟨h6,h7⟩,h8⟩; omega
  ·rintro ⟨h6,h7,h8⟩; exact ⟨⟨by omega,h2⟩,by omega⟩
 ·rw [if_neg h]
  constructor
  ·rintro ⟨⟨h1,h2⟩,h3⟩; exact absurd ⟨h1.1,h2⟩ h
  ·rintro ⟨h1,_⟩; omega
theorem name_ref (s : ByteArray) (h0 : 0 < s.size) (h24 : s.size <= 24) : nameB s = decide ((if letterB (byteAt s 0) then wordN s 0 s.size else 0) = s.size) := by
 unfold nameB
 rw [Bool.eq_iff_iff]
 simp only [Bool.and_eq_true,decide_eq_true_eq]
 have h3 := wordN_full s s.size 0
 rw [Nat.zero_add] at h3
 by_cases h : letterB (byteAt s 0) = true
 ·rw [if_pos h, h3]
  exact ⟨fun h => h.2,fun h' => ⟨⟨⟨h0,h24⟩,h⟩,h'⟩⟩
 ·rw [if_neg h]
  exact ⟨fun h' => absurd h'.1.2 h,fun h' => by omega⟩
def eqS (a b : ByteArray) : Bool := a.toList == b.toList
def firstN (n : Nat) (err : Nat -> Nat) : Nat := firstE ((List.range n).map err)
theorem firstN_at {n i : Nat} {err : Nat -> Nat} (hi : i < n) (h : ∀ j, j < i -> err j = 0) (he : err i ≠ 0) : firstN n err = err i := by
 unfold firstN
 have e : List.range n = List.range i ++ (i :: (List.range' (i + 1) (n - (i + 1)))) := by
  obtain ⟨d,rfl⟩ : ∃ d,n = i + (d + 1) := ⟨n - i - 1,by omega⟩
  rw [List.range_eq_range',List.range_eq_range',<- List.range'_append_1,Nat.zero_add,List.range'_succ,show i + (d + 1) - (i + 1) = d by omega]
 rw [e, List.map_append, firstE_app _ _ (firstE_of (fun x hx => by
  obtain ⟨j,hj,rfl⟩ := List.mem_map.1 hx
  exact h j (List.mem_range.1 hj)))]
 show (if err i ≠ 0 then err i else _) = _
 rw [if_pos he]
theorem firstN_all {n : Nat} {err : Nat -> Nat} (h : ∀ j, j < n -> err j = 0) : firstN n err = 0 :=
 firstE_of (fun x hx => by obtain ⟨j,hj,rfl⟩ := List.mem_map.1 hx; exact h j (List.mem_range.1 hj))
theorem firstN_zero {n : Nat} {err : Nat -> Nat} (h : firstN n err = 0) : ∀ j, j < n -> err j = 0 := fun j hj =>
 firstE_zero h _ (List.mem_map.2 ⟨j,List.mem_range.2 hj,rfl⟩)
structure Mk where
  name : ByteArray
  x : Rt
  y : Rt
instance : Inhabited Mk := ⟨⟨default,⟨false,[],[]⟩,⟨false,[],[]⟩⟩⟩
def Mk.av (m : Mk) : AV := .agg [.v (.string m.name),bl m.x.neg,ws m.x.num,ws m.x.den,bl m.y.neg,ws m.y.num,ws m.y.den]
structure Bd where
  name : ByteArray
  pts : List Mk
instance : Inhabited Bd := ⟨⟨default,[]⟩⟩
def Bd.av (b : Bd) : AV := .agg [.v (.string b.name),.lst 7 (b.pts.map Mk.av)]
structure Jt where
  name : ByteArray
  kind : Int
  a : Int
  point : Int
  b : Int
  on : Int
  to : Int
instance : Inhabited Jt := ⟨⟨default,0,0,0,0,0,0⟩⟩
def Jt.av (j : Jt) : AV := .agg [.v (.string j.name),i64 j.kind,i64 j.a,i64 j.point,i64 j.b,i64 j.on,i64 j.to]
structure Dr where
  name : ByteArray
  body : Int
instance : Inhabited Dr := ⟨⟨default,0⟩⟩
def Dr.av (d : Dr) : AV := .agg [.v (.string d.name),i64 d.body]
structure Li where
  name : ByteArray
  bodies : List Bd
  joints : List Jt
  drivers : List Dr
def Li.av (l : Li) : AV := .agg [.v (.string l.name),.lst 2 (l.bodies.map Bd.av),.lst 7 (l.joints.map Jt.av),.lst 2 (l.drivers.map Dr.av)]
structure Mk.ok (m : Mk) : Prop where
  x : m.x.ok
  y : m.y.ok
  qx : Qb 1000 m.x.q
  qy : Qb 1000 m.y.q
structure Bd.ok (b : Bd) : Prop where
  pts : ∀ m ∈ b.pts,m.ok
  names : ∀ m ∈ b.pts,m.name.size <= 281474976710656
  ll : b.pts.length <= 281474976710656
  name : b.name.size <= 281474976710656
structure Li.ok (l : Li) : Prop where
  name : l.name.size <= 281474976710656
  bodies : ∀ b ∈ l.bodies,b.ok
  jnames : ∀ j ∈ l.joints,j.name.size <= 281474976710656
  dnames : ∀ d ∈ l.drivers,d.name.size <= 281474976710656
  lb : l.bodies.length <= 281474976710656
  lj : l.joints.length <= 281474976710656
  ld : l.drivers.length <= 281474976710656
def dupB (l : List ByteArray) (i : Nat) : Bool := (l.take i).any (fun n => eqS n (l.getD i default))
def mkE (ps : List Mk) (i : Nat) : Nat :=
  if nameB (ps.getD i default).name = false then 5 else if dupB (ps.map Mk.name) i = true then 6
  else if (ps.getD i default).x.valid = true /\ (ps.getD i default).y.valid = true then 0 else 3
def bdE (bs : List Bd) (i : Nat) : Nat :=
  if nameB (bs.getD i default).name = false then 5 else if dupB (bs.map Bd.name) i = true then 6
  else if 8 < (bs.getD i default).pts.length then 4 else firstN (bs.getD i default).pts.length (mkE (bs.getD i default).pts)
def inB (i : Int) (n : Nat) : Bool := decide (0 <= i /\ i < n)
def ptsAt (l : Li) (i : Int) : List Mk := (l.bodies.getD i.toNat default).pts
def jt0 (l : Li) (j : Jt) : Nat :=
  if j.kind ≠ 0 /\ j.kind ≠ 1 then 7
  else if inB j.a l.bodies.length = false \/ inB j.b l.bodies.length = false then 9
  else if j.a = j.b then 13
  else if inB j.point (ptsAt l j.a).length = false \/ inB j.on (ptsAt l j.b).length = false then 9
  else if j.kind = 0 then (if j.to ≠ 0 then 2 else 0)
  else if inB j.to (ptsAt l j.b).length = false then 9
  else if ((ptsAt l j.b).getD j.on.toNat default).x.q = ((ptsAt l j.b).getD j.to.toNat default).x.q /\ ((ptsAt l j.b).getD j.on.toNat default).y.q = ((ptsAt l j.b).getD j.to.toNat default).y.q then 8
  else 0
def jtE (l : Li) (i : Nat) : Nat :=
  if nameB (l.joints.getD i default).name = false then 5 else if dupB (l.joints.map Jt.name) i = true then 6 else jt0 l (l.joints.getD i default)
def drE (l : Li) (i : Nat) : Nat :=
  if nameB (l.drivers.getD i default).name = false then 5 else if dupB (l.drivers.map Dr.name) i = true then 6
  else if inB (l.drivers.getD i default).body l.bodies.length = false then 9
  else if (l.drivers.getD i default).body = 0 then 7
  else if (l.drivers.take i).any (fun d => decide (d.body = (l.drivers.getD i default).body)) = true then 6 else 0
def bdsE (l : Li) : Nat := firstN l.bodies.length (bdE l.bodies)
def jtsE (l : Li) : Nat := if 16 < l.joints.length then 4 else firstN l.joints.length (jtE l)
def drsE (l : Li) : Nat := if 2 < l.drivers.length then 4 else firstN l.drivers.length (drE l)
def liE (l : Li) : Nat :=
  if nameB l.name = false then 5 else if l.bodies.length = 0 then 10 else if 8 < l.bodies.length then 4
  else if bdsE l ≠ 0 then bdsE l else if jtsE l ≠ 0 then jtsE l else drsE l
theorem getD_of {α : Type} {l : List α} {i : Nat} {x d : α} (h : l[i]? = some x) : l.getD i d = x:=by rw [List.getD_eq_getElem?_getD,h]; rfl
theorem dup_names {α : Type} (f : α -> ByteArray) {l : List α} {i : Nat} {x : α} (h : l[i]? = some x) : dupB (l.map f) i = (l.take i).any (fun y => eqS (f y) (f x)) := by
 unfold dupB
 have h1 : (l.map f).getD i default = f x := getD_of (by rw [List.getElem?_map,h]; rfl)
 rw [h1,<- List.map_take,List.any_map]; rfl
theorem any_step {α : Type} {p : α -> Bool} {l : List α} {k : Nat} {x : α} (h : l[k]? = some x) (hn : (l.take k).any p = false) (hp : p x = false) : (l.take (k + 1)).any p = false := by
 rw [take_succ_get h,List.any_append,hn]; simp [hp]
theorem any_hit {α : Type} {p : α -> Bool} {l : List α} {k i : Nat} {x : α} (h : l[k]? = some x) (hk : k < i) (hp : p x = true) : (l.take i).any p = true := by
 rw [List.any_eq_true]
 exact ⟨x,List.mem_of_getElem? (by rw [List.getElem?_take,if_pos hk]; exact h),hp⟩
theorem str_empty (s : ByteArray) : (s.toList == ByteArray.toList ⟨#[]⟩) = decide (s.size = 0) := by
 have e : ByteArray.toList ⟨#[]⟩ = [] := Go.ByteArray.toList_eq _
 have h : s.toList.length = s.size:=by rw [Go.ByteArray.toList_eq]; cases s; rfl
 rw [e,Bool.eq_iff_iff,beq_iff_eq,decide_eq_true_eq]
 constructor
 ·intro h'; rw [h'] at h; simpa using h.symm
 ·intro h'; exact List.eq_nil_of_length_eq_zero (by omega)
theorem empty_f {s : ByteArray} (h : (s.toList == ByteArray.toList ⟨#[]⟩) = false) : 0 < s.size := by
 rw [str_empty,decide_eq_false_iff_not] at h; omega
theorem lss_t {a b : Nat} (h : icmp .lss (a : Int) (b : Int) = true) : a < b := by
 have : (a : Int) < b := of_decide_eq_true h
 omega
theorem lss_f {a b : Nat} (h : icmp .lss (a : Int) (b : Int) = false) : b <= a := by
 have : ¬ (a : Int) < b := of_decide_eq_false h
 omega
theorem cond_lss {a b : Nat} {p : Bool} (h : cond (icmp .lss (a : Int) (b : Int)) p false = true) : a < b /\ p = true := by
 cases h1 : icmp .lss (a : Int) (b : Int)
 ·rw [h1] at h; cases h
 ·rw [h1] at h; exact ⟨lss_t h1,h⟩
theorem cond_nlss {a b : Nat} {p : Bool} (h : cond (icmp .lss (a : Int) (b : Int)) p false = false) : a < b -> p = false := by
 intro h0
 have h1 : icmp .lss (a : Int) (b : Int) = true := decide_eq_true (by omega : (a : Int) < b)
 rw [h1] at h; exact h
theorem word_none {s : ByteArray} (h : cond (s.toList == ByteArray.toList ⟨#[]⟩) true (!letterB (byteAt s 0)) = true) : wordL s = 0 := by
 unfold wordL
 rw [if_neg]
 rintro ⟨h1,h2⟩
 rw [str_empty,decide_eq_false (by omega),h2] at h
 cases h
theorem word_some {s : ByteArray} (h : cond (s.toList == ByteArray.toList ⟨#[]⟩) true (!letterB (byteAt s 0)) = false) : 0 < s.size /\ letterB (byteAt s 0) = true := by
 cases h1 : (s.toList == ByteArray.toList ⟨#[]⟩)
 ·rw [h1] at h
  exact ⟨empty_f h1,by simpa using h⟩
 ·rw [h1] at h; cases h
theorem byte_out {s : ByteArray} {i : Nat} (h : s.size <= i) : byteAt s i = 0 := by
 unfold byteAt
 have : s.data.size <= i := h
 simp [Array.getD_eq_getD_getElem?,Array.getElem?_eq_none this]
theorem name_cond (s : ByteArray) : cond (cond (icmp .gtr (wordL s : Int) 0) (icmp .eql (wordL s : Int) (s.size : Int)) false) (icmp .leq (wordL s : Int) 24) false = nameB s := by
 rw [name_word,Bool.eq_iff_iff,decide_eq_true_eq]
 cases h1 : icmp .gtr (wordL s : Int) 0
 ·have : ¬ (wordL s : Int) > 0 := of_decide_eq_false h1
  simp; omega
 ·have h1 : (wordL s : Int) > 0 := of_decide_eq_true h1
  cases h2 : icmp .eql (wordL s : Int) (s.size : Int)
  ·have : (wordL s : Int) ≠ s.size := by simpa [icmp] using h2
   simp; omega
  ·have h2 : (wordL s : Int) = s.size := eq_of_beq h2
   have h3 : icmp .leq (wordL s : Int) 24 = true ↔ wordL s <= 24 := by
    show decide ((wordL s : Int) <= 24) = true ↔ _
    rw [decide_eq_true_eq]; omega
   simp only [cond_true,h3]; omega
theorem name_cond2 (s : ByteArray) : cond (cond (icmp .gtr (s.size : Int) 0) (icmp .leq (s.size : Int) 24) false) (icmp .eql (((if letterB (byteAt s 0) then wordN s 0 s.size else 0 : Nat)) : Int) (s.size : Int)) false = nameB s := by
 cases h1 : icmp .gtr (s.size : Int) 0
 ·have h1 : ¬ (s.size : Int) > 0 := of_decide_eq_false h1
  unfold nameB
  rw [decide_eq_false (show ¬ (0 < s.size /\ s.size <= 24) by omega)]; rfl
 ·have h1 : (s.size : Int) > 0 := of_decide_eq_true h1
  cases h2 : icmp .leq (s.size : Int) 24
  ·have h2 : ¬ (s.size : Int) <= 24 := of_decide_eq_false h2
   unfold nameB
   rw [decide_eq_false (show ¬ (0 < s.size /\ s.size <= 24) by omega)]; rfl
  ·have h2 : (s.size : Int) <= 24 := of_decide_eq_true h2
   rw [name_ref s (by omega) (by omega)]
   simp only [cond_true]
   rw [Bool.eq_iff_iff,decide_eq_true_eq]
   generalize (if letterB (byteAt s 0) = true then wordN s 0 s.size else 0) = m
   show (((m : Int) == (s.size : Int)) = true) ↔ _
   rw [beq_iff_eq]; omega
theorem cutT {α : Type} (sz : Nat) (f : α -> AV) (l : List α) (n : Nat) : AV.lst sz (((l.map f).drop 0).take (n - 0)) = .lst sz ((l.take n).map f) := by
 rw [Nat.sub_zero,List.drop_zero,List.map_take]
theorem get_take {α : Type} {l : List α} {i k : Nat} {x : α} (h : (l.take i)[k]? = some x) : l[k]? = some x /\ k < i := by
 rw [List.getElem?_take] at h
 split at h
 ·rename_i hk; exact ⟨h,hk⟩
 ·cases h
theorem inB_cond (i : Int) (n : Nat) : cond (icmp .geq i 0) (icmp .lss i (n : Int)) false = inB i n := by
 unfold inB
 rw [Bool.eq_iff_iff,decide_eq_true_eq]
 cases h : icmp .geq i 0
 ·have : ¬ i >= 0 := of_decide_eq_false h
  simp; omega
 ·have h : i >= 0 := of_decide_eq_true h
  show decide (i < (n : Int)) = true ↔ _
  rw [decide_eq_true_eq]; omega
theorem inB_t {i : Int} {n : Nat} (h : inB i n = true) : 0 <= i /\ i < n := of_decide_eq_true h
theorem or_t {p q : Bool} (h : cond (!p) true (!q) = true) : p = false \/ q = false:=by cases p <;> cases q <;> simp_all
theorem or_f {p q : Bool} (h : cond (!p) true (!q) = false) : p = true /\ q = true:=by cases p <;> cases q <;> simp_all
theorem not_t {p : Bool} (h : (!p) = true) : p = false:=by cases p <;> simp_all
theorem not_f {p : Bool} (h : (!p) = false) : p = true:=by cases p <;> simp_all
theorem gtr_t {a b : Nat} (h : icmp .gtr (a : Int) (b : Int) = true) : b < a := by
 have : (a : Int) > b := of_decide_eq_true h
 omega
theorem gtr_f {a b : Nat} (h : icmp .gtr (a : Int) (b : Int) = false) : a <= b := by
 have : ¬ (a : Int) > b := of_decide_eq_false h
 omega
theorem lss_end {a b : Nat} (hle : a <= b) (h : icmp .lss (a : Int) (b : Int) = false) : a = b:=by have := lss_f h; omega
theorem eql_t {x y : Int} (h : icmp .eql x y = true) : x = y:=by simpa [icmp] using h
theorem eql_f {x y : Int} (h : icmp .eql x y = false) : x ≠ y:=by simpa [icmp] using h
theorem neq_t' {x y : Int} (h : icmp .neq x y = true) : x ≠ y:=by simpa [icmp] using h
theorem neq_f' {x y : Int} (h : icmp .neq x y = false) : x = y:=by simpa [icmp] using h
theorem kind_t {k : Int} (h : cond (icmp .neq k 0) (icmp .neq k 1) false = true) : k ≠ 0 /\ k ≠ 1 := by
 cases h1 : icmp .neq k 0
 ·rw [h1] at h; cases h
 ·rw [h1] at h; exact ⟨neq_t' h1,neq_t' h⟩
theorem kind_f {k : Int} (h : cond (icmp .neq k 0) (icmp .neq k 1) false = false) : ¬ (k ≠ 0 /\ k ≠ 1) := by
 rintro ⟨h1,h2⟩
 have e1 : icmp .neq k 0 = true:=by simpa [icmp] using h1
 have e2 : icmp .neq k 1 = true:=by simpa [icmp] using h2
 rw [e1,e2] at h; cases h
theorem both_t {p q r s : Rat} (h : cond (icmp .eql (sgnQ (p - q)) 0) (icmp .eql (sgnQ (r - s)) 0) false = true) : p = q /\ r = s := by
 cases h1 : icmp .eql (sgnQ (p - q)) 0
 ·rw [h1] at h; cases h
 ·rw [h1] at h
  have e1 := sgnQ_zero (eql_t h1)
  have e2 := sgnQ_zero (eql_t h)
  exact ⟨by grind,by grind⟩
theorem both_f {p q r s : Rat} (h : cond (icmp .eql (sgnQ (p - q)) 0) (icmp .eql (sgnQ (r - s)) 0) false = false) : ¬ (p = q /\ r = s) := by
 rintro ⟨rfl,rfl⟩
 rw [Rat.sub_self,Rat.sub_self] at h; cases h
theorem bodyAt {l : Li} {i : Int} (h : inB i l.bodies.length = true) : ∃ b, l.bodies[i.toNat]? = some b /\ ptsAt l i = b.pts /\ b ∈ l.bodies /\ 0 <= i := by
 have h1 := inB_t h
 obtain ⟨b,hb⟩ := getx (l := l.bodies) (i := i.toNat) (by omega)
 exact ⟨b,hb,by unfold ptsAt; rw [getD_of hb],List.mem_of_getElem? hb,h1.1⟩
theorem markAt {ps : List Mk} {i : Int} (h : inB i ps.length = true) : ∃ m, ps[i.toNat]? = some m /\ ps.getD i.toNat default = m /\ m ∈ ps /\ 0 <= i := by
 have h1 := inB_t h
 obtain ⟨m,hm⟩ := getx (l := ps) (i := i.toNat) (by omega)
 exact ⟨m,hm,getD_of hm,List.mem_of_getElem? hm,h1.1⟩
theorem int_eqb {x y : Int} : icmp .eql x y = decide (x = y) := by
 show (x == y) = decide (x = y)
 rw [Bool.eq_iff_iff,beq_iff_eq,decide_eq_true_eq]
theorem eql0_t {n : Nat} (h : icmp .eql (n : Int) 0 = true) : n = 0:=by have := eql_t h; omega
theorem eql0_f {n : Nat} (h : icmp .eql (n : Int) 0 = false) : n ≠ 0:=by have := eql_f h; omega
theorem both_dec {p q r s : Rat} : cond (icmp .eql (sgnQ (p - q)) 0) (icmp .eql (sgnQ (r - s)) 0) false = decide (p = q /\ r = s) := by
 cases h : cond (icmp .eql (sgnQ (p - q)) 0) (icmp .eql (sgnQ (r - s)) 0) false
 ·exact (decide_eq_false (both_f h)).symm
 ·exact (decide_eq_true (both_t h)).symm
end Go.Lw
namespace Go.Lw
theorem cd_one {e : Nat} {q : Rat} (h : Qb e q) : Cd q.den (2 ^ e) [q] := by
 refine ⟨Nat.pos_of_ne_zero q.den_nz,fun p hp => ?_⟩
 rw [List.mem_singleton.1 hp]
 refine ⟨q.num,?_,Nat.le_of_lt h.1⟩
 have h0 : ((q.den : Int) : Rat) ≠ 0 := by
  intro h0
  have : (q.den : Int) = 0 := Rat.intCast_eq_zero_iff.1 h0
  have := q.den_nz; omega
 have h1 : q = (q.num : Rat) / ((q.den : Int) : Rat) := by
  rw [<- Rat.divInt_eq_div]; exact (Rat.num_divInt_den q).symm
 have h2 := Rat.div_mul_cancel (a := (q.num : Rat)) h0
 rw [<- h1] at h2
 exact h2
theorem cd_list {e : Nat} : ∀ {l : List Rat}, (∀ q ∈ l, Qb e q) -> ∃ D N, Cd D N l /\ D <= 2 ^ (e * l.length) /\ N <= 2 ^ (e * l.length + e)
 | [],_ => ⟨1,1,Cd.nil (by omega),by simp,Nat.one_le_two_pow⟩
 | q :: l, h => by
  obtain ⟨D,N,h1,h2,h3⟩ := cd_list (l := l) (fun p hp => h p (List.mem_cons_of_mem _ hp))
  have hq := h q (List.mem_cons_self ..)
  have e1 : e * (q :: l).length = e * l.length + e:=by rw [List.length_cons,Nat.mul_add,Nat.mul_one]
  have k1 := (h1.scale (Nat.pos_of_ne_zero q.den_nz))
  have k2 := ((cd_one hq).scale h1.1)
  rw [Nat.mul_comm] at k2
  refine ⟨D * q.den,2 ^ (e * l.length + e + e),?_,?_,?_⟩
  ·refine (Cd.app (a := [q]) (k2.mono ?_) (k1.mono ?_))
   ·refine Nat.le_trans (Nat.mul_le_mul_left _ h2) ?_
    rw [<- Nat.pow_add]; exact pow_le2 (by omega)
   ·refine Nat.le_trans (Nat.mul_le_mul h3 (Nat.le_of_lt hq.2)) ?_
    rw [<- Nat.pow_add]; exact Nat.le_refl _
  ·rw [e1,Nat.pow_add]; exact Nat.mul_le_mul h2 (Nat.le_of_lt hq.2)
  ·rw [e1]; exact Nat.le_refl _
def briefX (w m : Nat) (x : List Rt) : Bool := decide (x.length <= m) && x.all (fun r => decide (r.num.length <= w /\ r.den.length <= w))
def briefB (w m : Nat) (l : List (List Rt)) : Bool := l.all (briefX w m)
def lightB (rs xs : List (List Rt)) : Bool :=
  if rs.length <= 1 \/ (5 < rs.length /\ rs.length <= 8) then briefB 3 40 (rs ++ xs)
  else if rs.length = 2 then briefB 1 40 (rs ++ xs) else if rs.length = 3 then briefB 1 4 (rs ++ xs) else false
def wideB (rs xs : List (List Rt)) : Bool := if rs.length = 2 then briefB 2 40 (rs ++ xs) else lightB rs xs
def Rt.wok (r : Rt) : Prop := Ws r.num /\ Ws r.den
theorem Rt.wok.ok {r : Rt} {k : Nat} (h : r.wok) (hn : r.num.length <= k) (hd : r.den.length <= k) (hk : k <= 100) : r.ok := ⟨h.1,h.2,by unfold lim; omega,by unfold lim; omega⟩
theorem Rt.ok.wok {r : Rt} (h : r.ok) : r.wok := ⟨h.1,h.2.1⟩
def RsOk (l : List (List Rt)) : Prop := ∀ x ∈ l,(∀ r ∈ x,r.wok) /\ x.length <= 281474976710656
theorem RsOk.app {a b : List (List Rt)} (ha : RsOk a) (hb : RsOk b) : RsOk (a ++ b) := fun x hx => by
 rcases List.mem_append.1 hx with h | h
 ·exact ha x h
 ·exact hb x h
theorem brief_x {w m : Nat} {x : List Rt} (h : briefX w m x = true) (hw : 1 <= w) (hw3 : w <= 3) (hok : ∀ r ∈ x, r.wok) : x.length <= m /\ (∀ q ∈ lq x, Qb (32 * w) q) /\ ∀ r ∈ x, r.ok := by
 unfold briefX at h
 simp only [Bool.and_eq_true,decide_eq_true_eq,List.all_eq_true] at h
 have ho : ∀ r ∈ x,r.ok := fun r hr => (hok r hr).ok (h.2 r hr).1 (h.2 r hr).2 (by omega)
 refine ⟨h.1,fun q hq => ?_,ho⟩
 obtain ⟨r,hr,rfl⟩ := List.mem_map.1 hq
 exact Rt.qb (ho r hr) hw (h.2 r hr).1 (h.2 r hr).2
theorem brief_nr {w m : Nat} {x : List Rt} (h : briefX w m x = true) (hw : 1 <= w) (hw3 : w <= 3) (hm : m <= 40) (hok : ∀ r ∈ x, r.wok) : NR x 4000 := by
 obtain ⟨h1,h2,ho⟩ := brief_x h hw hw3 hok
 obtain ⟨D,N,h3,h4,h5⟩ := cd_list h2
 have h6 : (lq x).length <= 40:=by rw [List.length_map]; omega
 have h7 : 32 * w * (lq x).length <= 96 * 40 := Nat.mul_le_mul (by omega) h6
 obtain ⟨k,hk⟩ : ∃ k,k = 4000 := ⟨_,rfl⟩
 rw [<- hk]
 exact ⟨ho,by omega,D,N,h3,Nat.le_trans h4 (pow_le2 (by omega)),Nat.le_trans h5 (pow_le2 (by omega))⟩
theorem llq_flat : ∀ (rs : List (List Rt)) {m : Nat}, (∀ x ∈ rs, x.length <= m) -> (llq rs).flatten.length <= m * rs.length
 | [],_,_ => by simp
 | x :: rs, m, h => by
  have h1 := llq_flat rs (fun y hy => h y (List.mem_cons_of_mem _ hy))
  have h2 := h x (List.mem_cons_self ..)
  have : (llq (x :: rs)).flatten.length = x.length + (llq rs).flatten.length:=by simp [llq,lq]
  rw [this,List.length_cons,Nat.mul_add]; omega
theorem brief_tr {w m : Nat} {rs : List (List Rt)} (h : ∀ x ∈ rs, briefX w m x = true) (hw : 1 <= w) (hw3 : w <= 3) (hm : m <= 40) (hl : rs.length <= 8) (h38 : rs.length <= 3 \/ 5 < rs.length) (hok : RsOk rs) : TR rs 40000 := by
 have hq : ∀ q ∈ (llq rs).flatten, Qb (32 * w) q := by
  intro q hq
  obtain ⟨y,hy,hq⟩ := List.mem_flatten.1 hq
  obtain ⟨x,hx,rfl⟩ := List.mem_map.1 hy
  exact (brief_x (h x hx) hw hw3 (hok x hx).1).2.1 q hq
 obtain ⟨D,N,h3,h4,h5⟩ := cd_list hq
 have h6 : (llq rs).flatten.length <= 40 * 8 := by
  refine Nat.le_trans (llq_flat rs (m := m) (fun x hx => (brief_x (h x hx) hw hw3 (hok x hx).1).1)) ?_
  exact Nat.mul_le_mul hm hl
 have h7 : 32 * w * (llq rs).flatten.length <= 96 * (40 * 8) := Nat.mul_le_mul (by omega) h6
 obtain ⟨k,hk⟩ : ∃ k,k = 40000 := ⟨_,rfl⟩
 rw [<- hk]
 refine ⟨fun d hd => (brief_x (h d hd) hw hw3 (hok d hd).1).2.2,fun d hd => (hok d hd).2,by omega,⟨D,N,h3.1,fun d hd => h3.sub (fun q hq => List.mem_flatten.2 ⟨d,hd,hq⟩),Nat.le_trans h4 (pow_le2 (by omega)),Nat.le_trans h5 (pow_le2 (by omega))⟩,by omega,h38⟩
structure Lt (rs xs : List (List Rt)) : Prop where
  tr : TR rs 40000
  nr : ∀ x ∈ xs,NR x 4000
  ll : rs.length <= 8
theorem brief_lt {w m : Nat} {rs xs : List (List Rt)} (h : briefB w m (rs ++ xs) = true) (hw : 1 <= w) (hw3 : w <= 3) (hm : m <= 40) (hl : rs.length <= 8) (h38 : rs.length <= 3 \/ 5 < rs.length) (hr : RsOk rs) (hx : RsOk xs) : Lt rs xs := by
 unfold briefB at h
 rw [List.all_eq_true] at h
 exact ⟨brief_tr (fun x hx => h x (List.mem_append_left _ hx)) hw hw3 hm hl h38 hr,fun x hx' => brief_nr (h x (List.mem_append_right _ hx')) hw hw3 hm (hx x hx').1,hl⟩
theorem light_lt {rs xs : List (List Rt)} (h : lightB rs xs = true) (hr : RsOk rs) (hx : RsOk xs) : Lt rs xs := by
 unfold lightB at h
 split at h
 ·exact brief_lt h (by omega) (by omega) (by omega) (by omega) (by omega) hr hx
 ·split at h
  ·exact brief_lt h (by omega) (by omega) (by omega) (by omega) (by omega) hr hx
  ·split at h
   ·exact brief_lt h (by omega) (by omega) (by omega) (by omega) (by omega) hr hx
   ·cases h
theorem wide_lt {rs xs : List (List Rt)} (h : wideB rs xs = true) (hr : RsOk rs) (hx : RsOk xs) : Lt rs xs := by
 unfold wideB at h
 split at h
 ·exact brief_lt h (by omega) (by omega) (by omega) (by omega) (by omega) hr hx
 ·exact light_lt h hr hx
structure Pl where
  c : List Rt
  s : List Rt
  x : List Rt
  y : List Rt
instance : Inhabited Pl := ⟨⟨[],[],[],[]⟩⟩
def Pl.av (p : Pl) : AV := .agg [nR p.c,nR p.s,nR p.x,nR p.y]
def Pl.l (p : Pl) : List (List Rt) := [p.c,p.s,p.x,p.y]
structure As where
  rs : List (List Rt)
  bs : List Pl
  ms : List Int
def As.av (a : As) : AV := .agg [.lst 1 (a.rs.map nR),.lst 4 (a.bs.map Pl.av),.lst 1 (a.ms.map i64)]
structure As.ok (a : As) : Prop where
  rs : RsOk a.rs
  rl : a.rs.length <= 281474976710656
  bs : ∀ b ∈ a.bs,RsOk b.l
  bl : a.bs.length <= 281474976710656
def asB (a : As) : Bool :=
  a.bs.all (fun b => wideB a.rs b.l) && (decide (a.bs.length <= 20) && wideB a.rs [] && decide (a.rs.length <= 2 \/ 5 < a.rs.length))
structure AL (a : As) : Prop where
  tr : TR a.rs 40000
  nr : ∀ b ∈ a.bs,∀ x ∈ b.l,NR x 4000
  ll : a.rs.length <= 8
  bl : a.bs.length <= 20
theorem rs_nil : RsOk [] := fun x hx => by cases hx
theorem as_al {a : As} (h : asB a = true) (hok : a.ok) : AL a := by
 unfold asB at h
 simp only [Bool.and_eq_true,decide_eq_true_eq,List.all_eq_true] at h
 obtain ⟨h1,⟨h2,h3⟩,h4⟩ := h
 have h5 := wide_lt h3 hok.rs rs_nil
 exact ⟨h5.tr,fun b hb => (wide_lt (h1 b hb) hok.rs (hok.bs b hb)).nr,h5.ll,h2⟩
theorem all_step {α : Type} {l : List α} {p : α -> Bool} {i : Nat} {x : α} (h : (l.take i).all p = true) (hx : l[i]? = some x) (hp : p x = true) : (l.take (i + 1)).all p = true := by
 rw [take_succ_get hx,List.all_append,h]; simp [hp]
theorem all_miss {α : Type} {l : List α} {p : α -> Bool} {i : Nat} {x : α} (hx : l[i]? = some x) (hp : p x = false) : l.all p = false := by
 refine Bool.eq_false_iff.2 (fun h => ?_)
 rw [List.all_eq_true] at h
 rw [h x (List.mem_of_getElem? hx)] at hp; cases hp
theorem all_end {α : Type} {l : List α} {p : α -> Bool} {i : Nat} (hi : i = l.length) (h : (l.take i).all p = true) : l.all p = true := by
 rw [hi,List.take_length] at h; exact h
structure Li.okw (l : Li) : Prop where
  name : l.name.size <= 281474976710656
  pts : ∀ b ∈ l.bodies,b.name.size <= 281474976710656 /\ b.pts.length <= 281474976710656 /\ ∀ m ∈ b.pts,m.name.size <= 281474976710656 /\ m.x.wok /\ m.y.wok
  jnames : ∀ j ∈ l.joints,j.name.size <= 281474976710656
  dnames : ∀ d ∈ l.drivers,d.name.size <= 281474976710656
  lb : l.bodies.length <= 281474976710656
  lj : l.joints.length <= 281474976710656
  ld : l.drivers.length <= 281474976710656
def mkB (m : Mk) : Bool := decide (m.x.num.length <= 4 /\ m.x.den.length <= 4 /\ m.y.num.length <= 4 /\ m.y.den.length <= 4)
def bdB (b : Bd) : Bool := decide (b.pts.length <= 30) && b.pts.all mkB
def liB (l : Li) : Bool := l.bodies.all bdB && decide (l.bodies.length <= 30 /\ l.joints.length <= 60 /\ l.drivers.length <= 30)
theorem mk_ok {m : Mk} (h : mkB m = true) (hx' : m.x.wok) (hy' : m.y.wok) : m.ok := by
 unfold mkB at h
 rw [decide_eq_true_eq] at h
 have hx := hx'.ok h.1 h.2.1 (by omega)
 have hy := hy'.ok h.2.2.1 h.2.2.2 (by omega)
 exact ⟨hx,hy,(Rt.qb hx (k := 4) (by omega) h.1 h.2.1).mono (by omega),(Rt.qb hy (k := 4) (by omega) h.2.2.1 h.2.2.2).mono (by omega)⟩
theorem li_ok {l : Li} (h : liB l = true) (ho : l.okw) : l.ok := by
 unfold liB at h
 rw [Bool.and_eq_true,List.all_eq_true] at h
 refine ⟨ho.name,fun b hb => ?_,ho.jnames,ho.dnames,ho.lb,ho.lj,ho.ld⟩
 have h1 := h.1 b hb
 unfold bdB at h1
 rw [Bool.and_eq_true,List.all_eq_true] at h1
 obtain ⟨o1,o2,o3⟩ := ho.pts b hb
 exact ⟨fun m hm => mk_ok (h1.2 m hm) (o3 m hm).2.1 (o3 m hm).2.2,fun m hm => (o3 m hm).1,o2,o1⟩
structure Pse.wok (p : Pse) : Prop where
  t : p.turn.t.wok
  x : p.at_.x.wok
  y : p.at_.y.wok
theorem Pse.wok.rs {p : Pse} (h : p.wok) : RsOk [[p.turn.t, p.at_.x], [p.at_.y]] := by
 intro x hx
 simp only [List.mem_cons,List.not_mem_nil,or_false] at hx
 rcases hx with rfl | rfl
 ·refine ⟨fun r hr => ?_, by show 2 <= _; omega⟩
  simp only [List.mem_cons,List.not_mem_nil,or_false] at hr
  rcases hr with rfl | rfl
  ·exact h.t
  ·exact h.x
 ·refine ⟨fun r hr => ?_, by show 1 <= _; omega⟩
  simp only [List.mem_cons,List.not_mem_nil,or_false] at hr
  subst hr
  exact h.y
theorem orGt_t {a b w : Nat} (h : cond (icmp .gtr (a : Int) (w : Int)) true (icmp .gtr (b : Int) (w : Int)) = true) : ¬ (a <= w /\ b <= w) := by
 simp only [icmp] at h
 by_cases h1 : (w : Int) < a
 ·omega
 ·rw [decide_eq_false (by omega)] at h
  have : (w : Int) < b := of_decide_eq_true h
  omega
theorem orGt_f {a b w : Nat} (h : cond (icmp .gtr (a : Int) (w : Int)) true (icmp .gtr (b : Int) (w : Int)) = false) : a <= w /\ b <= w := by
 simp only [icmp] at h
 by_cases h1 : (w : Int) < a
 ·rw [decide_eq_true (by omega)] at h; cases h
 ·rw [decide_eq_false (by omega)] at h
  have : ¬ (w : Int) < b := of_decide_eq_false h
  omega
theorem few_b {n : Nat} : cond (icmp .leq (n : Int) 1) true (cond (icmp .gtr (n : Int) 5) (icmp .leq (n : Int) 8) false) = decide (n <= 1 \/ (5 < n /\ n <= 8)) := by
 have e1 : icmp .leq (n : Int) 1 = decide (n <= 1) := decide_eq_decide.2 (by omega)
 have e2 : icmp .gtr (n : Int) 5 = decide (5 < n) := decide_eq_decide.2 (by omega)
 have e3 : icmp .leq (n : Int) 8 = decide (n <= 8) := decide_eq_decide.2 (by omega)
 rw [e1,e2,e3,Bool.eq_iff_iff,decide_eq_true_eq]
 by_cases h1 : n <= 1
 ·rw [decide_eq_true h1]; exact ⟨fun _ => .inl h1,fun _ => rfl⟩
 ·rw [decide_eq_false h1]
  by_cases h2 : 5 < n
  ·rw [decide_eq_true h2]; exact ⟨fun h => .inr ⟨h2,of_decide_eq_true h⟩,fun h => decide_eq_true (by omega)⟩
  ·rw [decide_eq_false h2]; exact ⟨fun h => (by cases h),fun h => (by omega)⟩
theorem few_t {n : Nat} (h : cond (icmp .leq (n : Int) 1) true (cond (icmp .gtr (n : Int) 5) (icmp .leq (n : Int) 8) false) = true) : n <= 1 \/ (5 < n /\ n <= 8) := by
 rw [few_b] at h; exact of_decide_eq_true h
theorem few_f {n : Nat} (h : cond (icmp .leq (n : Int) 1) true (cond (icmp .gtr (n : Int) 5) (icmp .leq (n : Int) 8) false) = false) : ¬ (n <= 1 \/ (5 < n /\ n <= 8)) := by
 rw [few_b] at h; exact of_decide_eq_false h
theorem leq_b {n k : Nat} : icmp .leq (n : Int) (k : Int) = decide (n <= k):=by simp only [icmp]; exact decide_eq_decide.2 (by omega)
theorem gtr_b {n k : Nat} : icmp .gtr (n : Int) (k : Int) = decide (k < n):=by simp only [icmp]; exact decide_eq_decide.2 (by omega)
theorem or_cond (a b : Bool) : cond a true b = (a || b):=by cases a <;> rfl
theorem liB_end {l : Li} (h : l.bodies.all bdB = true) :
  cond (cond (icmp .leq (l.bodies.length : Int) 30) (icmp .leq (l.joints.length : Int) 60) false) (icmp .leq (l.drivers.length : Int) 30) false = liB l := by
 unfold liB
 have e1 := leq_b (n := l.bodies.length) (k := 30)
 have e2 := leq_b (n := l.joints.length) (k := 60)
 have e3 := leq_b (n := l.drivers.length) (k := 30)
 rw [h,Bool.true_and,and_cond,and_cond]
 refine (congr (congrArg _ (congr (congrArg _ e1) e2)) e3).trans ?_
 rw [<- Bool.decide_and,<- Bool.decide_and]
 exact decide_eq_decide.2 ⟨fun h => ⟨h.1.1,h.1.2,h.2⟩,fun h => ⟨⟨h.1,h.2.1⟩,h.2.2⟩⟩
theorem four_b {m : Mk} : cond (cond (cond (icmp .gtr (m.x.num.length : Int) 4) true (icmp .gtr (m.x.den.length : Int) 4)) true (icmp .gtr (m.y.num.length : Int) 4)) true (icmp .gtr (m.y.den.length : Int) 4) = !mkB m := by
 unfold mkB
 have e1 := gtr_b (n := m.x.num.length) (k := 4)
 have e2 := gtr_b (n := m.x.den.length) (k := 4)
 have e3 := gtr_b (n := m.y.num.length) (k := 4)
 have e4 := gtr_b (n := m.y.den.length) (k := 4)
 rw [or_cond,or_cond,or_cond]
 refine (congr (congrArg _ (congr (congrArg _ (congr (congrArg _ e1) e2)) e3)) e4).trans ?_
 rw [<- Bool.decide_or,<- Bool.decide_or,<- Bool.decide_or,<- decide_not]
 exact decide_eq_decide.2 (by omega)
theorem four_t {m : Mk} (h : cond (cond (cond (icmp .gtr (m.x.num.length : Int) 4) true (icmp .gtr (m.x.den.length : Int) 4)) true (icmp .gtr (m.y.num.length : Int) 4)) true (icmp .gtr (m.y.den.length : Int) 4) = true) : mkB m = false := by
 rw [four_b] at h; exact not_t h
theorem four_f {m : Mk} (h : cond (cond (cond (icmp .gtr (m.x.num.length : Int) 4) true (icmp .gtr (m.x.den.length : Int) 4)) true (icmp .gtr (m.y.num.length : Int) 4)) true (icmp .gtr (m.y.den.length : Int) 4) = false) : mkB m = true := by
 rw [four_b] at h; exact not_f h
end Go.Lw
namespace Go.Lw
open Go.Proofs
theorem trim_end {m : List Nat} {n : Nat} (hm : Ws m) (hn : n <= m.length) (hv : val (m.take n) = val m) (h0 : n ≠ 0) (hw : wordW m (n - 1) ≠ 0) :
  AV.fz 24 1 ([] ++ ((m.map u32).drop 0).take (n - 0)) (.ms 24 1 0 (0 + (((m.map u32).drop 0).take (n - 0)).length)) = ws (ofNat (val m)) := by
 have h1 : m.take n = ofNat (val m) := by
  refine ofNat_eq (fun x hx => hm x (List.mem_of_mem_take hx)) ?_ hv
  intro x hx
  rw [List.getLast?_eq_getElem?,List.length_take,Nat.min_eq_left hn,List.getElem?_take,if_pos (by omega),word_get (by omega)] at hx
  cases hx; exact hw
 rw [fz_ms (by simp),<- h1,ws]
 simp [List.map_take,Nat.min_eq_left hn,List.take_take]
theorem whole_end (b : Bool) (n : Nat) : AV.agg [bl (bif b then icmp BinOp.gtr (↑(ofNat n).length) 0 else false), ws (ofNat n)] = zA (sgn b n) := by
 have h1 : (sgn b n).natAbs = n:=by unfold sgn; split <;> omega
 unfold zA ofInt Wh.av
 dsimp only
 rw [h1]
 congr 3
 have h2 : (ofNat n).length = 0 ↔ n = 0 := by
  rw [List.length_eq_zero_iff]
  constructor
  ·intro h; have := val_ofNat n; rw [h] at this; exact this.symm
  ·intro h; rw [h]; rfl
 cases b with
 | false => simp [sgn]
 | true => simp [sgn,icmp]; omega
theorem c_word (m : List Nat) (i : Nat) (hm : Ws m) : FnC Tryz.prog 348 [ws m, i64 i] (u64 (wordW m i)) := by
 refine gF0 Tryz.func348 ?_
 refine gl ?_
 refine gC (fun ht8 => ?_) (fun ht8 => ?_)
 ·simp [icmp] at ht8
  have := wordW_lt hm i
  refine gi (getw (i := i) ht8) ?_
  refine gv (u64_in (by omega)) ?_
  refine gE1 ?_
  rfl
 ·simp [icmp] at ht8
  refine gE1 ?_
  simp [u64,word_out ht8]
theorem c_trim (m : List Nat) (hm : Ws m) (hb : m.length <= big) : FnC Tryz.prog 294 [ws m] (ws (ofNat (val m))) := by
 refine gF0 Tryz.func294 ?_ (0,0)
 refine gLen (t := 0) rfl (fun hl => ?_)
 refine go ?_
 refine gl ?_
 refine gL1 [0] [] (fun (n : Nat) => [(3,some (i64 n))]) (fun _ => []) (fun n => n <= m.length /\ val (m.take n) = val m) (fun n => n) m.length ⟨Nat.le_refl _,by rw [List.take_length]⟩ ?_
 rintro n ⟨hn,hv⟩ K1 hK1
 refine gaG (fun h => (i64_sub1 (by simp [icmp] at h; omega) (by omega))) ?_
 refine giG (fun h => (getw (i := n - 1) (by simp [icmp] at h; omega))) ?_
 refine gC (fun ht15 => ?_) (fun ht15 => ?_)
 ·have ht15 : 0 < n /\ wordW m (n - 1) = 0 := by simpa [icmp] using ht15
  refine ga (i64_sub1 (by omega) (by omega)) ?_
  exact gK1 hK1 (n - 1) ⟨by omega,by have h := @val_take_word m (n - 1); rw [show n - 1 + 1 = n by omega,ht15.2] at h; simp at h; omega⟩
 ·have ht15 : 0 < n -> wordW m (n - 1) ≠ 0 := by simpa [icmp] using ht15
  refine gC (fun ht19 => ?_) (fun ht19 => ?_)
  ·have h0 : n = 0 := by simpa [icmp] using ht19
   subst h0
   refine gR ?_
   exact fin_sub1 (by rw [show val m = 0 from hv.symm.trans rfl]; exact Sub.nil _ _ _)
  ·have h0 : n ≠ 0 := by simpa [icmp] using ht19
   refine gs (s_buildMs0 T29 rfl T204 rfl rfl rfl) ?_
   refine gs (s_sliceLst (.tmp rfl) (.none _) (.some _ (.tmp rfl) (by omega)) T29 rfl T204 rfl (by omega) (by simp; omega) rfl) ?_
   refine gs (s_append (.tmp rfl) rfl rfl (.tmp rfl) T29 rfl T204 rfl rfl (by unfold big at hb; simp only [List.length_take,List.length_drop,List.length_map]; omega) rfl rfl) ?_ (77777,0)
   refine gW (Wk.freeze (k := 24) rfl) ?_
   refine go ?_
   refine gR ?_
   exact fin_eq1 (trim_end hm hn hv h0 (ht15 (by omega)))
theorem c_integer_Valid (w : Wh) (h : w.ok) : FnC Tryz.prog 195 [w.av] (bl w.valid) := by
 have hl : w.mag.length <= maxL := h.2
 refine gF0 Tryz.func195 ?_
 refine gl ?_
 refine gC (fun ht6 => ?_) (fun ht6 => ?_)
 ·have h0 : w.mag = [] := by simpa [icmp] using ht6
  refine gE1 ?_
  simp [bl,Wh.valid,h0]
 ·have h0 : w.mag.length ≠ 0 := by simpa [icmp] using ht6
  refine gl ?_
  refine ga (i64_sub1 (by omega) (by omega)) ?_
  refine gi (getw (i := w.mag.length - 1) (by omega)) ?_
  refine gE1 ?_
  have h1 : w.mag ≠ [] := fun h => h0 (by rw [h]; rfl)
  simp only [bl,Wh.valid,if_neg h1,List.getLast?_eq_getElem?,word_get (show w.mag.length - 1 < w.mag.length by omega),icmp]
  congr 2
  generalize wordW w.mag _ = x
  rw [Bool.eq_iff_iff]; simp
theorem c_integer_mag (w : Wh) (h : w.ok) : FnC Tryz.prog 274 [w.av] (ws w.m) := by
 refine gF0 Tryz.func274 ?_
 refine gc (c_integer_Valid w h) ?_
 refine gC (fun ht5 => ?_) (fun ht5 => ?_)
 ·have h0 : w.valid = false := by simpa [icmp] using ht5
  refine gR ?_
  exact fin_sub1 (by rw [show w.m = [] by simp [Wh.m,h0]]; exact Sub.nil _ _ _)
 ·have h0 : w.valid = true := by simpa [icmp] using ht5
  refine gE1 ?_
  simp only [Wh.m,h0]; rfl
theorem c_integer_neg (w : Wh) (h : w.ok) : FnC Tryz.prog 275 [w.av] (bl w.n) := by
 refine gF0 Tryz.func275 ?_
 refine gc (c_integer_Valid w h) ?_
 refine gE1 ?_
 simp only [Wh.n,bl]; cases w.valid <;> rfl
theorem c_integer_whole (b : Bool) (m : List Nat) (hm : Ws m) (hb : m.length <= big) : FnC Tryz.prog 225 [bl b, ws m] (zA (sgn b (val m))) := by
 refine gF0 Tryz.func225 ?_
 refine gc (c_trim m hm hb) ?_
 refine glG ?_
 refine gE1 ?_
 exact whole_end b (val m)
theorem c_integer_compare (a b : List Nat) (ha : Ws a) (hb : Ws b) (na : Nz a) (nb : Nz b) : FnC Tryz.prog 273 [ws a, ws b] (i64 (if val a < val b then -1 else if val b < val a then 1 else 0)) := by
  refine gF0 Tryz.func273 ?_ (0,0)
  refine gLen (t := 0) rfl (fun hla => ?_)
  refine gLen (t := 1) rfl (fun hlb => ?_)
  unfold maxL at hla hlb
  refine go ?_
  refine gl ?_
  refine gl ?_
  refine gC (fun ht10 => ?_) (fun ht10 => ?_)
  · have h0 : a.length ≠ b.length := by simpa [icmp, Int.ofNat_inj] using ht10
    refine gl ?_
    refine gl ?_
    refine gC (fun ht15 => ?_) (fun ht15 => ?_)
    · have h1 : a.length < b.length := by simpa [icmp] using ht15
      have h2 := val_cmp_len ha nb h1
      refine gE1 ?_
      simp [i64,h2]
    · have h1 : b.length <= a.length := by simpa [icmp] using ht15
      have h2 := val_cmp_len hb na (show b.length < a.length by omega)
      refine gE1 ?_
      simp [i64,h2,Nat.lt_asymm h2]
  · have h0 : a.length = b.length := by simpa [icmp, Int.ofNat_inj] using ht10
    refine gl ?_
    refine ga (i64_subI (by omega)) ?_
    refine gL1 [0,1] [] (fun (n : Nat) => [(5,some (i64 ((n : Int) - 1)))]) (fun _ => []) (fun n => n <= a.length /\ a.drop n = b.drop n) (fun n => n) a.length ⟨Nat.le_refl _,by rw [List.drop_length,h0,List.drop_length]⟩ ?_ (h1 := (.cons rfl (Sub.int rfl) .nil))
    rintro n ⟨hn,hd⟩ K1 hK1
    refine gC (fun ht20 => ?_) (fun ht20 => ?_)
    · have hn0 : 1 <= n := by have := ht20; simp [icmp] at this; omega
      refine gi (getz (n := n - 1) (by omega) (by first | omega | (simp; omega))) ?_
      refine gi (getz (n := n - 1) (by omega) (by first | omega | (simp; omega))) ?_
      refine gD ?_
      refine gC (fun ht31 => ?_) (fun ht31 => ?_)
      · have h3 : wordW a (n - 1) ≠ wordW b (n - 1) := by simpa [icmp, Int.ofNat_inj] using ht31
        refine gi (getz (n := n - 1) (by omega) (by first | omega | (simp; omega))) ?_
        refine gi (getz (n := n - 1) (by omega) (by first | omega | (simp; omega))) ?_
        refine gD ?_
        refine gC (fun ht40 => ?_) (fun ht40 => ?_)
        · have h4 : wordW a (n - 1) < wordW b (n - 1) := by simpa [icmp] using ht40
          have h5 := lt_of_words ha h0 (by omega) (by rw [Nat.sub_add_cancel hn0]; exact hd) h4
          refine gE1 ?_
          simp [i64,h5]
        · have h4 : wordW b (n - 1) < wordW a (n - 1) := by have : wordW b (n - 1) <= wordW a (n - 1) := by simpa [icmp] using ht40
                                                            omega
          have h5 := lt_of_words hb h0.symm (by omega) (by rw [Nat.sub_add_cancel hn0]; exact hd.symm) h4
          refine gE1 ?_
          simp [i64,h5,Nat.lt_asymm h5]
      · have h3 : wordW a (n - 1) = wordW b (n - 1) := by simpa [icmp, Int.ofNat_inj] using ht31
        refine ga (i64_subI (by omega)) ?_
        exact gK1 hK1 (n - 1) ⟨by omega,by rw [List.drop_eq_getElem_cons (show n - 1 < a.length by omega),List.drop_eq_getElem_cons (show n - 1 < b.length by omega),Nat.sub_add_cancel hn0,hd]; congr 1; exact getElem_of_word (by omega) (by omega) h3⟩
    · have hn0 : n = 0 := by have := ht20; simp [icmp] at this; omega
      subst hn0
      refine gE1 ?_
      simp at hd; simp [i64,hd]
theorem c_integer_plus (a b : List Nat) (ha : Ws a) (hb : Ws b) (la : a.length < big) (lb : b.length < big) : FnC Tryz.prog 291 [ws a, ws b] (ws (ofNat (val a + val b))) := by
  unfold big at la lb
  obtain ⟨n,hn⟩ : ∃ n,n = max a.length b.length + 1 := ⟨_,rfl⟩
  refine gF0 Tryz.func291 ?_
  refine gl ?_
  refine gl ?_
  refine gs (s_max (.tmp rfl) (.tmp rfl) rfl) ?_
  refine ga (show _ = (n : Int) by rw [i64_addI (by omega)]; omega) ?_
  refine gs (s_make (.tmp rfl) T29 rfl T204 rfl rfl (by omega) (by dsimp only; omega) rfl) ?_
  refine gL3 [0,1,16] [] (fun (out : List Nat) (c i : Nat) => [(5,some (.ms 14 1 0 n)),(6,some (u64 c)),(17,some (i64 i))]) (fun out _ _ => [(14,some (.row 1 (out.map u32)))]) (fun out c i => out.length = n /\ i <= n /\ Ws out /\ c <= 1 /\ val (out.take i) + c * 4294967296 ^ i = val (a.take i) + val (b.take i)) (fun _ _ i => n - i) (List.replicate n 0) 0 0 ⟨by simp,by omega,ws_rep n,by omega,by simp [val]⟩ ?_ (h2 := (.cons rfl (BlkSub.of (by rw [List.map_replicate]; rfl)) .nil))
  rintro out c i ⟨ho,hi,hw,hc,hv⟩ K1 hK1
  refine gC (fun ht18 => ?_) (fun ht18 => ?_) (st2 := (10,0))
  · have hin : i < n := by simpa [icmp] using ht18
    have h1 := wordW_lt ha i
    have h2 := wordW_lt hb i
    refine gc (by apply c_word <;> assumption) ?_
    refine gc (by apply c_word <;> assumption) ?_
    refine ga (u64_add (by omega)) ?_
    refine ga (u64_add (by omega)) ?_
    refine gv (u32_wrap _) ?_
    refine gs (s_idxMs0 (n := i) (.tmp rfl) (.tmp rfl) T29 rfl T204 rfl (by omega) (by first | omega | (simp; omega)) rfl) ?_
    refine gs (s_stElem (.tmp rfl) rfl (getw (i := i) (by omega)) rfl (.tmp rfl) rfl rfl T204 rfl rfl) ?_
    refine gs (s_shrW (.tmp rfl) (.const _) (by omega) (u64_shr _ 32 (by omega)) rfl) ?_
    refine ga (i64_addI (by omega)) ?_
    exact gK3 hK1 (out.set i ((c + (wordW a i + wordW b i)) % 4294967296)) ((c + (wordW a i + wordW b i)) / 4294967296) (i + 1) ⟨by simp [ho],by omega,ws_set hw (by omega),by omega,by rw [val_set_take (by omega),val_take_word,val_take_word,Nat.pow_succ]; exact plus_step hv⟩ (hw := Wk.of (by repeat (first | exact SlW.nil | refine SlW.k ?_)) (.cons rfl (BlkSub.of (by rw [List.map_set]; rfl)) .nil))
  · have hin : i = n := by have : n <= i := by simpa [icmp] using ht18
                           omega
    refine gW ((Wk.freeze (k := 14) rfl).trans <| Wk.of (sl := [(5,some (ws out))]) (hp := []) (.cons rfl (Sub.of (fz_all (by simp [ho]))) .nil) .nil) ?_
    refine gc (c_trim out hw (by unfold big; omega)) ?_
    refine gE1 ?_
    rw [plus_end ha hb hn ho (hin ▸ hv)]
theorem c_integer_less (a b : List Nat) (ha : Ws a) (hb : Ws b) (la : a.length <= big) (lb : b.length <= a.length) (hle : val b <= val a) : FnC Tryz.prog 292 [ws a, ws b] (ws (ofNat (val a - val b))) := by
  have la' := la
  unfold big at la
  obtain ⟨n,hn⟩ : ∃ n,n = a.length := ⟨_,rfl⟩
  refine gF0 Tryz.func292 ?_
  refine gl ?_
  refine gs (s_make (.tmp rfl) T29 rfl T204 rfl rfl (by omega) (by dsimp only; omega) rfl) ?_
  refine gL3 [0,1,13] [] (fun (out : List Nat) (c i : Nat) => [(5,some (.ms 11 1 0 a.length)),(6,some (u64 c)),(14,some (i64 i))]) (fun out _ _ => [(11,some (.row 1 (out.map u32)))]) (fun out c i => out.length = a.length /\ i <= a.length /\ Ws out /\ c <= 1 /\ val (out.take i) + val (b.take i) = val (a.take i) + c * 4294967296 ^ i) (fun _ _ i => a.length - i) (List.replicate a.length 0) 0 0 ⟨by simp,by omega,ws_rep _,by omega,by simp [val]⟩ ?_ (h2 := (.cons rfl (BlkSub.of (by rw [List.map_replicate]; rfl)) .nil))
  rintro out c i ⟨ho,hi,hw,hc,hv⟩ K1 hK1
  refine gC (fun ht15 => ?_) (fun ht15 => ?_) (st2 := (10,0))
  · have hin : i < a.length := by simpa [icmp] using ht15
    have h1 := wordW_lt ha i
    have h2 := wordW_lt hb i
    have h3 := less_step h1 h2 hc hv
    obtain ⟨d,hd⟩ : ∃ d,d = if wordW b i + c <= wordW a i then wordW a i - wordW b i - c else wordW a i + 18446744073709551616 - wordW b i - c := ⟨_,rfl⟩
    rw [<- hd] at h3
    have hd1 : d < 18446744073709551616:=by rw [hd]; split <;> omega
    refine gi (getz (n := i) (by omega) (by first | omega | (simp; omega))) ?_
    refine gv (u64_in (by omega)) ?_
    refine gc (by apply c_word <;> assumption) ?_
    refine ga (u64_sub (by omega) (by omega)) ?_
    refine ga (show _ = (d : Int) by rw [u64_sub (by split <;> omega) (by omega),hd]; congr 1; (repeat' split) <;> omega) ?_
    refine gD ?_
    refine gv (u32_wrap _) ?_
    refine gs (s_idxMs0 (n := i) (.tmp rfl) (.tmp rfl) T29 rfl T204 rfl (by omega) (by first | omega | (simp; omega)) rfl) ?_
    refine gs (s_stElem (.tmp rfl) rfl (getw (i := i) (by omega)) rfl (.tmp rfl) rfl rfl T204 rfl rfl) ?_
    refine gs (s_shrW (.tmp rfl) (.const _) (by omega) (u64_shr _ 63 (by omega)) rfl) ?_
    refine ga (i64_addI (by omega)) ?_
    exact gK3 hK1 (out.set i (d % 4294967296)) (d / 2 ^ 63) (i + 1) ⟨by simp [ho],by omega,ws_set hw (by omega),by omega,by rw [val_set_take (by omega),val_take_word,val_take_word,Nat.pow_succ]; exact h3⟩ (hw := Wk.of (by repeat (first | exact SlW.nil | refine SlW.k ?_)) (.cons rfl (BlkSub.of (by rw [List.map_set]; rfl)) .nil))
  · have hin : i = a.length := by have : a.length <= i := by simpa [icmp] using ht15
                                  omega
    refine gW ((Wk.freeze (k := 11) rfl).trans <| Wk.of (sl := [(5,some (ws out))]) (hp := []) (.cons rfl (Sub.of (fz_all (by simp [ho]))) .nil) .nil) ?_
    refine gc (c_trim out hw (by rw [ho]; exact la')) ?_
    refine gE1 ?_
    rw [less_end hw ho hle lb (hin ▸ hv)]
end Go.Lw
namespace Go.Lw
open Go.Proofs
theorem c_integer_times (a b : List Nat) (ha : Ws a) (hb : Ws b) (la : a.length + b.length <= big) : FnC Tryz.prog 293 [ws a, ws b] (ws (ofNat (val a * val b))) := by
  have la' := la
  unfold big at la
  refine gF0 Tryz.func293 ?_
  refine gl ?_
  refine gl ?_
  refine ga (i64_addN (by unfold maxL; omega) (by unfold maxL; omega)) ?_
  refine gs (s_make (.tmp rfl) T29 rfl T204 rfl rfl (by omega) (by dsimp only; omega) rfl) ?_
  refine gl ?_
  refine gL2 [0,1,17,18] [] (fun (out : List Nat) (i : Nat) => [(5,some (.ms 16 1 0 (a.length + b.length))),(19,some (i64 i))]) (fun out _ => [(16,some (.row 1 (out.map u32)))]) (fun out i => out.length = a.length + b.length /\ i <= a.length /\ Ws out /\ val (out.take (i + b.length)) = val (a.take i) * val b) (fun _ i => a.length - i) (List.replicate (a.length + b.length) 0) 0 ⟨by simp,by omega,ws_rep _,by simp [val,val_zeros]⟩ ?_ (h2 := (.cons rfl (BlkSub.of (by rw [List.map_replicate]; rfl)) .nil))
  rintro out i ⟨ho,hi,hw,hv⟩ K1 hK1
  refine gC (fun ht20 => ?_) (fun ht20 => ?_) (st2 := (15,0))
  · have hin : i < a.length := by simpa [icmp] using ht20
    have h1 := wordW_lt ha i
    refine gi (getz (n := i) (by omega) (by first | omega | (simp; omega))) ?_
    refine gl ?_
    refine gL3 [0,1,17,18,19,6,7,24,25] [] (fun (o : List Nat) (c k : Nat) => [(5,some (.ms 16 1 0 (a.length + b.length))),(8,some (u64 c)),(26,some (i64 k))]) (fun o _ _ => [(16,some (.row 1 (o.map u32)))]) (fun o c k => o.length = a.length + b.length /\ k <= b.length /\ Ws o /\ c < 4294967296 /\ val (o.take (i + b.length)) + c * 4294967296 ^ (i + k) = val (out.take (i + b.length)) + 4294967296 ^ i * (wordW a i * val (b.take k))) (fun _ _ k => b.length - k) out 0 0 ⟨ho,by omega,hw,by omega,by simp [val]⟩ ?_
    rintro o c k ⟨ho2,hk,hw2,hc,hv2⟩ K2 hK2
    refine gC (fun ht27 => ?_) (fun ht27 => ?_)
    · have hkn : k < b.length := by simpa [icmp] using ht27
      have h2 := wordW_lt hb k
      have h3 := wordW_lt hw2 (i + k)
      have h4 := mul_word h1 h2
      have h5 := val_set_in (x := (c + (wordW a i * wordW b k + wordW o (i + k))) % 4294967296) (show i + k < o.length by omega) (show i + k < i + b.length by omega)
      have h6 := times_in h5 rfl hv2
      refine gi (getz (n := k) (by omega) (by first | omega | (simp; omega))) ?_
      refine gv (u64_in (by omega)) ?_
      refine gv (u64_in (by omega)) ?_
      refine ga (u64_mul (by omega)) ?_
      refine ga (i64_addN (by unfold maxL; omega) (by unfold maxL; omega)) ?_
      refine gs (s_idxMs0 (n := i + k) (.tmp rfl) (.tmp rfl) T29 rfl T204 rfl (by omega) (by first | omega | (simp; omega)) rfl) ?_
      refine gs (s_loadEptr (.tmp rfl) rfl (getw (i := i + k) (by omega)) T204 rfl rfl rfl) ?_
      refine gv (u64_in (by omega)) ?_
      refine ga (u64_add (by omega)) ?_
      refine ga (u64_add (by omega)) ?_
      refine ga (i64_addN (by unfold maxL; omega) (by unfold maxL; omega)) ?_
      refine gv (u32_wrap _) ?_
      refine gs (s_idxMs0 (n := i + k) (.tmp rfl) (.tmp rfl) T29 rfl T204 rfl (by omega) (by first | omega | (simp; omega)) rfl) ?_
      refine gs (s_stElem (.tmp rfl) rfl (getw (i := i + k) (by omega)) rfl (.tmp rfl) rfl rfl T204 rfl rfl) ?_
      refine gs (s_shrW (.tmp rfl) (.const _) (by omega) (u64_shr _ 32 (by omega)) rfl) ?_
      refine ga (i64_addI (by omega)) ?_
      exact gK3 hK2 (o.set (i + k) ((c + (wordW a i * wordW b k + wordW o (i + k))) % 4294967296)) ((c + (wordW a i * wordW b k + wordW o (i + k))) / 4294967296) (k + 1) ⟨by simp [ho2],by omega,ws_set hw2 (by omega),by omega,by rw [show i + (k + 1) = (i + k) + 1 from rfl,Nat.pow_succ,h6,val_take_word]; simp only [Nat.pow_add]; grind⟩ (hw := Wk.of (by repeat (first | exact SlW.nil | refine SlW.k ?_)) (.cons rfl (BlkSub.of (by rw [List.map_set]; rfl)) .nil))
    · have hkn : k = b.length := by have : b.length <= k := by simpa [icmp] using ht27
                                    omega
      subst hkn
      have h5 := val_set_take (x := c) (show i + b.length < o.length by omega)
      rw [List.take_length] at hv2
      refine gl ?_
      refine ga (i64_addN (by unfold maxL; omega) (by unfold maxL; omega)) ?_
      refine gv ((u32_wrap c).trans (by rw [Nat.mod_eq_of_lt hc])) ?_
      refine gs (s_idxMs0 (n := i + b.length) (.tmp rfl) (.tmp rfl) T29 rfl T204 rfl (by omega) (by first | omega | (simp; omega)) rfl) ?_
      refine gs (s_stElem (.tmp rfl) rfl (getw (i := i + b.length) (by omega)) rfl (.tmp rfl) rfl rfl T204 rfl rfl) ?_
      refine ga (i64_addI (by omega)) ?_
      exact gK2 hK1 (o.set (i + b.length) c) (i + 1) ⟨by simp [ho2],by omega,ws_set hw2 hc,by rw [show i + 1 + b.length = i + b.length + 1 by omega,h5,val_take_word]; simp only [Nat.pow_add] at *; grind⟩ (hw := Wk.of (by repeat (first | exact SlW.nil | refine SlW.k ?_)) (.cons rfl (BlkSub.of (by rw [List.map_set]; rfl)) .nil))
  · have hin : i = a.length := by have : a.length <= i := by simpa [icmp] using ht20
                                  omega
    subst hin
    rw [List.take_length,val_take_ge (by omega)] at hv
    refine gW ((Wk.freeze (k := 16) rfl).trans <| Wk.of (sl := [(5,some (ws out))]) (hp := []) (.cons rfl (Sub.of (fz_all (by simp [ho]))) .nil) .nil) ?_
    refine gc (c_trim out hw (by omega)) ?_
    refine gE1 ?_
    rw [hv]
theorem c_integer_short (a : List Nat) (w : Nat) (ha : Ws a) (la : a.length <= big) (hw0 : 0 < w) (hwB : w < 4294967296) : FnC Tryz.prog 334 [ws a, u32 w] (.tup [ws (ofNat (val a / w)), u32 (val a % w)]) := by
 have la' := la
 unfold big at la
 refine gF0 Tryz.func334 ?_
 refine gl ?_
 refine gs (s_make (.tmp rfl) T29 rfl T204 rfl rfl (by omega) (by dsimp only; omega) rfl) ?_
 refine gl ?_
 refine ga (i64_subI (by omega)) ?_
 refine gL3 [0,1] [] (fun (out : List Nat) (r i : Nat) => [(6,some (.ms 11 1 0 a.length)),(7,some (u64 r)),(8,some (i64 ((i : Int) - 1)))]) (fun out _ _ => [(11,some (.row 1 (out.map u32)))]) (fun out r i => out.length = a.length /\ i <= a.length /\ Ws out /\ r < w /\ val (a.drop i) = w * val (out.drop i) + r) (fun _ _ i => i) (List.replicate a.length 0) 0 a.length ⟨by simp,by omega,ws_rep _,by omega,by simp [val]⟩ ?_ (h2 := (.cons rfl (BlkSub.of (by rw [List.map_replicate]; rfl)) .nil))
 rintro out r i ⟨ho,hi,hw,hr,hv⟩ K1 hK1
 refine gC (fun ht16 => ?_) (fun ht16 => ?_) (st2 := (9,0))
 ·have hn0 : 1 <= i := by have := ht16; simp [icmp] at this; omega
  obtain ⟨k,rfl⟩ : ∃ k,i = k + 1 := ⟨i - 1,by omega⟩
  have h1 := wordW_lt ha k
  have h2 := short_lt hr h1
  refine gs (s_shlW (.tmp rfl) (.const _) (by omega) (u64_shl (n := 32) (by omega) (by omega)) rfl) ?_
  refine gi (getz (n := k) (by omega) (by first | omega | (simp; omega))) ?_
  refine gv (u64_in (by omega)) ?_
  refine gs (s_bitsW (.tmp rfl) (.tmp rfl) rfl ((ibits_or64 (by omega) (by omega)).trans (by rw [or_add (by omega)])) rfl) ?_
  refine gv (u64_in (by omega)) ?_
  refine gs (s_quoW (.tmp rfl) (.tmp rfl) (by omega) (u64_quo (by omega)) rfl) ?_
  refine gv ((u32_wrap _).trans (by rw [Nat.mod_eq_of_lt h2])) ?_
  refine gs (s_idxMs0 (n := k) (.tmp rfl) (.tmp rfl) T29 rfl T204 rfl (by omega) (by first | omega | (simp; omega)) rfl) ?_
  refine gs (s_stElem (.tmp rfl) rfl (getw (i := k) (by omega)) rfl (.tmp rfl) rfl rfl T204 rfl rfl) ?_
  refine gv (u64_in (by omega)) ?_
  refine gs (s_remW (.tmp rfl) (.tmp rfl) (by omega) nat_rem rfl) ?_
  refine ga (i64_subI (by omega)) ?_
  exact gK3 hK1 (out.set k ((r * 2 ^ 32 + wordW a k) / w)) ((r * 2 ^ 32 + wordW a k) % w) k ⟨by simp [ho],by omega,ws_set hw h2,Nat.mod_lt _ hw0,short_step (by omega) (by omega) hv⟩ (hw := Wk.of (by repeat (first | exact SlW.nil | refine SlW.k ?_)) (.cons rfl (BlkSub.of (by rw [List.map_set]; rfl)) .nil))
 ·have hin : i = 0 := by have := ht16; simp [icmp] at this; omega
  subst hin
  obtain ⟨h3,h4⟩ := div_mod_of hv hr
  simp only [List.drop_zero] at h3 h4
  refine gW ((Wk.freeze (k := 11) rfl).trans <| Wk.of (sl := [(6,some (ws out)),(7,some (u64 r))]) (hp := []) (.cons rfl (Sub.of (fz_all (by simp [ho]))) (.k .nil)) .nil) ?_
  refine gc (c_trim out hw (by omega)) ?_
  refine gv ((u32_wrap _).trans (by rw [Nat.mod_eq_of_lt (by omega)])) ?_
  refine gE2 ?_
  rw [h3,h4]; rfl
theorem c_integer_up (d : Nat) (hd : Nat.blt d 1000 = true) (a : List Nat) (n : Nat) (ha : Ws a) (la : a.length < big) (hn : n < 32) : Con Tryz.prog 336 [ws a, i64 n] [] (.ms d 1 0 (a.length + 1)) [(d, some (.row 1 ((fixw (a.length + 1) (2 ^ n * val a)).map u32)))] := by
  have la' := la
  unfold big at la
  refine gF Tryz.func336 (fun k z h => by cases h) ?_
  refine gl ?_
  refine ga (i64_addN (y := 1) (by unfold maxL; omega) (by unfold maxL; omega)) ?_
  refine gs (s_make (.tmp rfl) T29 rfl T204 rfl rfl (by omega) (by dsimp only; omega) rfl) ?_
  refine gl ?_
  refine gL2 [0,1,13,14] [] (fun (out : List Nat) (i : Nat) => [(5,some (.ms 12 1 0 (a.length + 1))),(15,some (i64 i))]) (fun out _ => [(12,some (.row 1 (out.map u32)))]) (fun out i => out.length = a.length + 1 /\ i <= a.length /\ Ws out /\ wordW out i < 2 ^ n /\ val (out.take (i + 1)) = 2 ^ n * val (a.take i)) (fun _ i => a.length - i) (List.replicate (a.length + 1) 0) 0 ⟨by simp,by omega,ws_rep _,by simp [wordW,Nat.pow_pos],by simp [val,List.replicate_succ]⟩ ?_ (h2 := (.cons rfl (BlkSub.of (by rw [List.map_replicate]; rfl)) .nil))
  rintro out i ⟨ho,hi,hw,hr,hv⟩ K1 hK1
  refine gC (fun ht16 => ?_) (fun ht16 => ?_)
  · have hin : i < a.length := by simpa [icmp] using ht16
    have h1 := wordW_lt ha i
    have h2 := up_step (a := a) (i := i) (n := n) (show i + 1 < out.length by omega) hv
    have h3 := up_word (x := wordW a i) hn hr
    have h4 := up_hi (n := n) h1
    have h5 : 2 ^ n <= 2 ^ 31 := two_pow_le (by omega)
    have h6 : wordW a i * 2 ^ n <= wordW a i * 2 ^ 31 := Nat.mul_le_mul_left _ h5
    have h7 := wordW_lt hw i
    refine gi (getz (n := i) (by omega) (by first | omega | (simp; omega))) ?_
    refine gv (u64_in (by omega)) ?_
    refine gs (s_shlW (.tmp rfl) (.tmp rfl) (by omega) (u64_shl (by omega) (by omega)) rfl) ?_
    refine gs (s_idxMs0 (n := i) (.tmp rfl) (.tmp rfl) T29 rfl T204 rfl (by omega) (by first | omega | (simp; omega)) rfl) ?_
    refine gs (s_loadEptr (.tmp rfl) rfl (getw (i := i) (by omega)) T204 rfl rfl rfl) ?_
    refine gv (u32_wrap _) ?_
    refine gs (s_bitsW (.tmp rfl) (.tmp rfl) rfl ((ibits_or32 (by omega) (by omega)).trans (by rw [up_or hn hr])) rfl) ?_
    refine gs (s_idxMs0 (n := i) (.tmp rfl) (.tmp rfl) T29 rfl T204 rfl (by omega) (by first | omega | (simp; omega)) rfl) ?_
    refine gs (s_stElem (.tmp rfl) rfl (getw (i := i) (by omega)) rfl (.tmp rfl) rfl rfl T204 rfl rfl) ?_
    refine ga (i64_addN (y := 1) (by unfold maxL; omega) (by unfold maxL; omega)) ?_
    refine gs (s_shrW (.tmp rfl) (.const _) (by omega) (u64_shr _ 32 (by omega)) rfl) ?_
    refine gv ((u32_wrap _).trans (by rw [Nat.mod_eq_of_lt (show wordW a i * 2 ^ n / 2 ^ 32 < 4294967296 by omega)])) ?_
    refine gs (s_idxMs0 (n := i + 1) (.tmp rfl) (.tmp rfl) T29 rfl T204 rfl (by omega) (by first | omega | (simp; omega)) rfl) ?_
    refine gs (s_stElem (.tmp rfl) rfl (by rw [List.getElem?_set_ne (by omega)]; exact getw (i := i + 1) (by omega)) rfl (.tmp rfl) rfl rfl T204 rfl rfl) ?_
    refine ga (i64_addI (by omega)) ?_
    exact gK2 hK1 ((out.set i (wordW out i + wordW a i * 2 ^ n % 4294967296)).set (i + 1) (wordW a i * 2 ^ n / 4294967296)) (i + 1) ⟨by simp [ho],by omega,ws_set (ws_set hw (by omega)) (by omega),by rw [wordW_set (by simp; omega)]; exact h4,h2⟩ (hw := Wk.of (by repeat (first | exact SlW.nil | refine SlW.k ?_)) (.cons rfl (BlkSub.of (by rw [List.map_set,List.map_set]; rfl)) .nil))
  · have hin : i = a.length := by have : a.length <= i := by simpa [icmp] using ht16
                                  omega
    subst hin
    rw [List.take_length,val_take_ge (by omega)] at hv
    refine gR ?_
    exact Fin.own1 rfl hd (by rw [fixw_of hw ho hv])
theorem c_integer_down (a : List Nat) (n : Nat) (ha : Ws a) (la : a.length <= big) (hn : n < 32) : FnC Tryz.prog 339 [ws a, i64 n] (ws (ofNat (val a / 2 ^ n))) := by
  have la' := la
  unfold big at la
  refine gF0 Tryz.func339 ?_
  refine gl ?_
  refine gs (s_make (.tmp rfl) T29 rfl T204 rfl rfl (by omega) (by dsimp only; omega) rfl) ?_
  refine gl ?_
  refine gL2 [0,1,11] [] (fun (out : List Nat) (i : Nat) => [(5,some (.ms 9 1 0 a.length)),(12,some (i64 i))]) (fun out _ => [(9,some (.row 1 (out.map u32)))]) (fun out i => out.length = a.length /\ i <= a.length /\ Ws out /\ val (out.take i) = val a / 2 ^ n % 4294967296 ^ i) (fun _ i => a.length - i) (List.replicate a.length 0) 0 ⟨by simp,by omega,ws_rep _,by simp [val,Nat.mod_one]⟩ ?_ (h2 := (.cons rfl (BlkSub.of (by rw [List.map_replicate]; rfl)) .nil))
  rintro out i ⟨ho,hi,hw,hv⟩ K1 hK1
  refine gC (fun ht13 => ?_) (fun ht13 => ?_) (st2 := (7,0))
  · have hin : i < a.length := by simpa [icmp] using ht13
    have h1 := wordW_lt ha i
    have h2 := wordW_lt ha (i + 1)
    have h3 := down_step ha hin (show i < out.length by omega) (show n <= 32 by omega) hv
    refine gi (getz (n := i) (by omega) (by first | omega | (simp; omega))) ?_
    refine gv (u64_in (by omega)) ?_
    refine ga (i64_addN (y := 1) (by unfold maxL; omega) (by unfold maxL; omega)) ?_
    refine gc (c_word a (i + 1) ha) ?_
    refine gs (s_shlW (.tmp rfl) (.const _) (by omega) (u64_shl (n := 32) (by omega) (by omega)) rfl) ?_
    refine gs (s_bitsW (.tmp rfl) (.tmp rfl) rfl ((ibits_or64 (by omega) (by omega)).trans (by rw [or_add' (by omega)])) rfl) ?_
    refine gs (s_shrW (.tmp rfl) (.tmp rfl) (by omega) (u64_shr _ _ (by omega)) rfl) ?_
    refine gv (u32_wrap _) ?_
    refine gs (s_idxMs0 (n := i) (.tmp rfl) (.tmp rfl) T29 rfl T204 rfl (by omega) (by first | omega | (simp; omega)) rfl) ?_
    refine gs (s_stElem (.tmp rfl) rfl (getw (i := i) (by omega)) rfl (.tmp rfl) rfl rfl T204 rfl rfl) ?_
    refine gD ?_
    refine ga (i64_addI (by omega)) ?_
    exact gK2 hK1 (out.set i ((wordW a i + wordW a (i + 1) * 2 ^ 32) / 2 ^ n % 4294967296)) (i + 1) ⟨by simp [ho],by omega,ws_set hw (by omega),h3⟩ (hw := Wk.of (by repeat (first | exact SlW.nil | refine SlW.k ?_)) (.cons rfl (BlkSub.of (by rw [List.map_set]; rfl)) .nil))
  · have hin : i = a.length := by have : a.length <= i := by simpa [icmp] using ht13
                                  omega
    refine gW ((Wk.freeze (k := 9) rfl).trans <| Wk.of (sl := [(5,some (ws out))]) (hp := []) (.cons rfl (Sub.of (fz_all (by simp [ho]))) .nil) .nil) ?_
    refine gc (c_trim out hw (by omega)) ?_
    refine gE1 ?_
    rw [down_end ha ho (hin ▸ hv)]
end Go.Lw
namespace Go.Lw
open Go.Proofs
theorem bl_one {b : Nat} {p : Prop} [Decidable p] (h : b = 1 ↔ p) : resT [AV.v (Value.bool (icmp BinOp.eql (b : Int) 1))] = bl (decide p) := by
 have : ((b : Int) == 1) = decide (b = 1):=by rw [Bool.eq_iff_iff]; simp; omega
 simp only [resT,icmp,this,bl]
 rw [decide_eq_decide.2 h]
theorem c_integer_remove (u v : List Nat) (off len n : Nat) (hu : Ws u) (hv : Ws v) (hvl : v.length + 1 <= len) (hj : off + len <= u.length) (hn : n < 4294967296) (lu : u.length <= maxL) :
    Con Tryz.prog 337 [.ms 1000 1 off len, ws v, u64 n] [(1000, some (.row 1 (u.map u32)))] (bl (decide (val (win u off len) < n * val v)))
      [(1000,some (.row 1 ((wr u off (fixw len (remW n (val v) (val (win u off len)) len))).map u32)))] := by
  unfold maxL at lu
  refine gF Tryz.func337 (fun k z h => lk1000 h) ?_
  refine gL5 [1,2,12] [] (fun (o : List Nat) (c b lo i : Nat) => [(0,some (.ms 1000 1 off len)),(7,some (u64 c)),(8,some (u64 b)),(13,some (i64 i))]) (fun o _ _ _ _ => [(1000,some (.row 1 (o.map u32)))]) (fun o c b lo i => o.length = u.length /\ i <= len /\ Ws o /\ c < 4294967296 /\ b <= 1 /\ o.take off = u.take off /\ o.drop (off + i) = u.drop (off + i) /\ lo + c * 4294967296 ^ i = n * val (v.take i) /\ val (win o off i) + lo = val (win u off i) + b * 4294967296 ^ i) (fun _ _ _ _ i => len - i) u 0 0 0 0 ⟨rfl,by omega,hu,by omega,by omega,rfl,rfl,by simp [val],by simp [val]⟩ ?_
  rintro o c b lo i ⟨ho,hi,hw,hc,hb,hd1,hd2,hv1,hv2⟩ K1 hK1
  refine gC (fun ht14 => ?_) (fun ht14 => ?_)
  · have hin : i < len := by simpa [icmp] using ht14
    have h1 := wordW_lt hu (off + i)
    have h2 := wordW_lt hv i
    have h0 := word_of_drop hd2
    have h4 := mul_word hn h2
    obtain ⟨c1,hc1⟩ : ∃ c1,c1 = c + n * wordW v i := ⟨_,rfl⟩
    have h3 := less_step h1 (show c1 % 4294967296 < 4294967296 by omega) hb hv2
    obtain ⟨d,hd⟩ : ∃ d,d = if c1 % 4294967296 + b <= wordW u (off + i) then wordW u (off + i) - c1 % 4294967296 - b else wordW u (off + i) + 18446744073709551616 - c1 % 4294967296 - b := ⟨_,rfl⟩
    rw [<- hd] at h3
    have hd3 : d < 18446744073709551616:=by rw [hd]; split <;> omega
    have h5 := carry_step (w := wordW v i) hv1
    refine gc (by apply c_word <;> assumption) ?_
    refine ga (u64_mul (by omega)) ?_
    refine ga ((u64_add (by omega)).trans (by rw [<- hc1])) ?_
    refine gs (s_idxMsN (n := i) (.tmp rfl) (.tmp rfl) T29 rfl T204 rfl (by omega) (by first | omega | (simp; omega)) rfl) ?_
    refine gs (s_loadEptr (.tmp rfl) rfl (by rw [getw (show off + i < o.length by omega),h0]) T204 rfl rfl rfl) ?_
    refine gv (u64_in (by omega)) ?_
    refine gv (u32_wrap _) ?_
    refine gv (u64_in (by omega)) ?_
    refine ga (u64_sub (by omega) (by omega)) ?_
    refine ga (show _ = (d : Int) by rw [u64_sub (by split <;> omega) (by omega),hd]; congr 1; (repeat' split) <;> omega) ?_
    refine gv (u32_wrap _) ?_
    refine gs (s_idxMsN (n := i) (.tmp rfl) (.tmp rfl) T29 rfl T204 rfl (by omega) (by first | omega | (simp; omega)) rfl) ?_
    refine gs (s_stElem (.tmp rfl) rfl (getw (i := off + i) (by omega)) rfl (.tmp rfl) rfl rfl T204 rfl rfl) ?_
    refine gs (s_shrW (.tmp rfl) (.const _) (by omega) (u64_shr _ 63 (by omega)) rfl) ?_
    refine gs (s_shrW (.tmp rfl) (.const _) (by omega) (u64_shr _ 32 (by omega)) rfl) ?_
    refine ga (i64_addI (by omega)) ?_
    exact gK5 hK1 (o.set (off + i) (d % 4294967296)) (c1 / 4294967296) (d / 2 ^ 63) (lo + 4294967296 ^ i * (c1 % 4294967296)) (i + 1) ⟨by simp [ho],by omega,ws_set hw (by omega),by omega,by omega,by rw [List.take_set_of_le (by omega)]; exact hd1,drop_set_next hd2,by rw [val_take_word,Nat.pow_succ,hc1]; exact h5,by rw [val_win_set (by omega),val_win_word,Nat.pow_succ]; exact h3⟩ (hw := Wk.of (by repeat (first | exact SlW.nil | refine SlW.k ?_)) (.cons rfl (BlkSub.of (by rw [List.map_set]; rfl)) .nil))
  · have hin : i = len := by have : len <= i := by simpa [icmp] using ht14
                             omega
    subst hin
    obtain ⟨h6,h7⟩ := remove_end hu hw ho hj hv hvl hn hd1 hd2 hb hv1 hv2
    refine gR ?_
    exact Fin.own2 rfl (by rw [<- h6]) (bl_one h7)
theorem c_integer_back (u v : List Nat) (off len : Nat) (hu : Ws u) (hv : Ws v) (hvl : v.length <= len) (hj : off + len <= u.length) (lu : u.length <= maxL) :
    Con Tryz.prog 338 [.ms 1000 1 off len, ws v] [(1000, some (.row 1 (u.map u32)))] (.tup [])
      [(1000,some (.row 1 ((wr u off (fixw len ((val (win u off len) + val v) % 4294967296 ^ len))).map u32)))] := by
  unfold maxL at lu
  refine gF Tryz.func338 (fun k z h => lk1000 h) ?_
  refine gL3 [1,7] [] (fun (o : List Nat) (c i : Nat) => [(0,some (.ms 1000 1 off len)),(4,some (u64 c)),(8,some (i64 i))]) (fun o _ _ => [(1000,some (.row 1 (o.map u32)))]) (fun o c i => o.length = u.length /\ i <= len /\ Ws o /\ c <= 1 /\ o.take off = u.take off /\ o.drop (off + i) = u.drop (off + i) /\ val (win o off i) + c * 4294967296 ^ i = val (win u off i) + val (v.take i)) (fun _ _ i => len - i) u 0 0 ⟨rfl,by omega,hu,by omega,rfl,rfl,by simp [val]⟩ ?_
  rintro o c i ⟨ho,hi,hw,hc,hd1,hd2,hv2⟩ K1 hK1
  refine gC (fun ht9 => ?_) (fun ht9 => ?_)
  · have hin : i < len := by simpa [icmp] using ht9
    have h1 := wordW_lt hu (off + i)
    have h2 := wordW_lt hv i
    have h0 := word_of_drop hd2
    have h3 := plus_step (u := wordW u (off + i)) (w := wordW v i) hv2
    refine gs (s_idxMsN (n := i) (.tmp rfl) (.tmp rfl) T29 rfl T204 rfl (by omega) (by first | omega | (simp; omega)) rfl) ?_
    refine gs (s_loadEptr (.tmp rfl) rfl (by rw [getw (show off + i < o.length by omega),h0]) T204 rfl rfl rfl) ?_
    refine gv (u64_in (by omega)) ?_
    refine gc (by apply c_word <;> assumption) ?_
    refine ga (u64_add (by omega)) ?_
    refine ga (u64_add (by omega)) ?_
    refine gD ?_
    refine gv (u32_wrap _) ?_
    refine gs (s_idxMsN (n := i) (.tmp rfl) (.tmp rfl) T29 rfl T204 rfl (by omega) (by first | omega | (simp; omega)) rfl) ?_
    refine gs (s_stElem (.tmp rfl) rfl (getw (i := off + i) (by omega)) rfl (.tmp rfl) rfl rfl T204 rfl rfl) ?_
    refine gs (s_shrW (.tmp rfl) (.const _) (by omega) (u64_shr _ 32 (by omega)) rfl) ?_
    refine ga (i64_addI (by omega)) ?_
    exact gK3 hK1 (o.set (off + i) ((c + (wordW u (off + i) + wordW v i)) % 4294967296)) ((c + (wordW u (off + i) + wordW v i)) / 4294967296) (i + 1) ⟨by simp [ho],by omega,ws_set hw (by omega),by omega,by rw [List.take_set_of_le (by omega)]; exact hd1,drop_set_next hd2,by rw [val_win_set (by omega),val_win_word,val_take_word,Nat.pow_succ]; exact h3⟩ (hw := Wk.of (by repeat (first | exact SlW.nil | refine SlW.k ?_)) (.cons rfl (BlkSub.of (by rw [List.map_set]; rfl)) .nil))
  · have hin : i = len := by have : len <= i := by simpa [icmp] using ht9
                             omega
    subst hin
    have h6 := back_end hw ho hj hvl hd1 hd2 hv2
    refine gR ?_
    exact Fin.own2 rfl (by rw [<- h6]) rfl
end Go.Lw
namespace Go.Lw
open Go.Proofs
theorem c_Len32 (x : Nat) (hx : x < 4294967296) : FnC Tryz.prog 361 [u32 x] (i64 (blen x)) := by
 refine gF0 Tryz.func361 ?_
 refine gC (fun ht4 => ?_) (fun ht4 => ?_)
 ·obtain ⟨y, hy, h2, h3⟩ : ∃ y, y = x / 2 ^ 16 /\ y < 65536 /\ blen x = 16 + blen y := ⟨_, rfl, by omega, blen_shr (by have := ht4; simp [icmp] at this; omega)⟩
  refine gs (s_shrW (.tmp rfl) (.const _) (by omega) ((u32_shr x 16 (by omega)).trans (by rw [<- hy])) rfl) ?_
  refine gC (fun ht8 => ?_) (fun ht8 => ?_)
  ·have h5 : 2 ^ 8 <= y := by simp [icmp] at ht8; omega
   obtain ⟨z,hz,h6,h7⟩ : ∃ z,z = y / 2 ^ 8 /\ z < 256 /\ blen x = (blen x - blen y) + 8 + blen z := ⟨_,rfl,by omega,by have := blen_shr h5; omega⟩
   refine gs (s_shrW (.tmp rfl) (.const _) (by omega) ((u32_shr _ 8 (by omega)).trans (show _ = (z : Int) by first | (rw [hz]; done) | (rw [hz,hy]; done))) rfl) ?_
   refine ga (i64_addI (by omega)) ?_
   refine gv (show IntKind.u8.wrap _ = (z : Int) by first | exact u8_in h6 | (rw [hz]; exact u8_in (by omega)) | (rw [hz,hy]; exact u8_in (by omega))) ?_
   refine gs (s_idxTab (y := z) (.const _) (.tmp rfl) T9 rfl (by kernel_rfl) (by first | rfl | omega) (by omega) rfl) ?_
   refine gv (i64_in (by have := blen_le8 h6; omega)) ?_
   refine ga (i64_addI (by have := blen_le8 h6; omega)) ?_
   refine gE1 ?_
   simp only [resT,i64]; congr 2; have := blen_le8 h6; omega
  ·have h5 : y < 2 ^ 8 := by simp [icmp] at ht8; omega
   obtain ⟨z,hz,h6,h7⟩ : ∃ z,z = y /\ z < 256 /\ blen x = (blen x - blen y) + blen z := ⟨_,rfl,by omega,by omega⟩
   refine gv (show IntKind.u8.wrap _ = (z : Int) by first | exact u8_in h6 | (rw [hz]; exact u8_in (by omega)) | (rw [hz,hy]; exact u8_in (by omega))) ?_
   refine gs (s_idxTab (y := z) (.const _) (.tmp rfl) T9 rfl (by kernel_rfl) (by first | rfl | omega) (by omega) rfl) ?_
   refine gv (i64_in (by have := blen_le8 h6; omega)) ?_
   refine ga (i64_addI (by have := blen_le8 h6; omega)) ?_
   refine gE1 ?_
   simp only [resT,i64]; congr 2; have := blen_le8 h6; omega
 ·obtain ⟨y, hy, h2, h3⟩ : ∃ y, y = x /\ y < 65536 /\ blen x = 0 + blen y := ⟨_, rfl, by have := ht4; simp [icmp] at this; omega, by omega⟩
  refine gC (fun ht8 => ?_) (fun ht8 => ?_)
  ·have h5 : 2 ^ 8 <= y := by simp [icmp] at ht8; omega
   obtain ⟨z,hz,h6,h7⟩ : ∃ z,z = y / 2 ^ 8 /\ z < 256 /\ blen x = (blen x - blen y) + 8 + blen z := ⟨_,rfl,by omega,by have := blen_shr h5; omega⟩
   refine gs (s_shrW (.tmp rfl) (.const _) (by omega) ((u32_shr _ 8 (by omega)).trans (show _ = (z : Int) by first | (rw [hz]; done) | (rw [hz,hy]; done))) rfl) ?_
   refine ga (i64_addI (by omega)) ?_
   refine gv (show IntKind.u8.wrap _ = (z : Int) by first | exact u8_in h6 | (rw [hz]; exact u8_in (by omega)) | (rw [hz,hy]; exact u8_in (by omega))) ?_
   refine gs (s_idxTab (y := z) (.const _) (.tmp rfl) T9 rfl (by kernel_rfl) (by first | rfl | omega) (by omega) rfl) ?_
   refine gv (i64_in (by have := blen_le8 h6; omega)) ?_
   refine ga (i64_addI (by have := blen_le8 h6; omega)) ?_
   refine gE1 ?_
   simp only [resT,i64]; congr 2; have := blen_le8 h6; omega
  ·have h5 : y < 2 ^ 8 := by simp [icmp] at ht8; omega
   obtain ⟨z,hz,h6,h7⟩ : ∃ z,z = y /\ z < 256 /\ blen x = (blen x - blen y) + blen z := ⟨_,rfl,by omega,by omega⟩
   refine gv (show IntKind.u8.wrap _ = (z : Int) by first | exact u8_in h6 | (rw [hz]; exact u8_in (by omega)) | (rw [hz,hy]; exact u8_in (by omega))) ?_
   refine gs (s_idxTab (y := z) (.const _) (.tmp rfl) T9 rfl (by kernel_rfl) (by first | rfl | omega) (by omega) rfl) ?_
   refine gv (i64_in (by have := blen_le8 h6; omega)) ?_
   refine ga (i64_addI (by have := blen_le8 h6; omega)) ?_
   refine gE1 ?_
   simp only [resT,i64]; congr 2; have := blen_le8 h6; omega
theorem c_LeadingZeros32 (x : Nat) (hx : x < 4294967296) : FnC Tryz.prog 335 [u32 x] (i64 (32 - blen x : Nat)) := by
 have h1 : blen x <= 32 := by
  by_cases h : x = 0
  ·subst h; decide
  ·exact (lead_le h hx).1
 refine gF0 Tryz.func335 ?_
 refine gc (c_Len32 x hx) ?_
 refine ga (i64_in (by simp only [iarith]; omega)) ?_
 refine gE1 ?_
 simp only [resT,i64,iarith]; congr 2; omega
end Go.Lw
namespace Go.Lw
open Go.Proofs
theorem c_integer_divide (a b : List Nat) (ha : Ws a) (hb : Ws b) (na : Nz a) (nb : Nz b) (hb0 : b ≠ []) (la : a.length < big) (lb : b.length < big) :
  FnC Tryz.prog 276 [ws a,ws b] (.tup [ws (ofNat (val a / val b)),ws (ofNat (val a % val b))]) := by
 have la' := la
 unfold big at la lb
 refine gF0 Tryz.func276 ?_
 refine gc (c_integer_compare a b ha hb na nb) ?_
 refine gC (fun ht22 => ?_) (fun ht22 => ?_)
 ·have h1 : val a < val b := by
   simp only [icmp] at ht22
   split at ht22
   ·assumption
   ·split at ht22 <;> simp at ht22
  refine gc (c_trim a ha (by omega)) ?_
  refine gR ?_
  exact fin_sub2 (by rw [Nat.div_eq_of_lt h1]; exact Sub.nil _ _ _) (by rw [Nat.mod_eq_of_lt h1]; exact Sub.refl _)
 ·have h1 : val b <= val a := by
   simp only [icmp] at ht22
   split at ht22
   ·simp at ht22
   ·omega
  refine gl ?_
  refine gC (fun ht27 => ?_) (fun ht27 => ?_)
  ·have hl : b.length = 1 := by have := ht27; simp [icmp] at this; omega
   obtain ⟨x,rfl⟩ : ∃ x,b = [x] := List.length_eq_one_iff.1 hl
   have hx : x ≠ 0 := nb x rfl
   have hxB : x < 4294967296 := hb x (by simp)
   have hv : val [x] = x:=by simp [val]
   have hm := Nat.mod_lt (val a) (show 0 < x by omega)
   refine gi (show _ = some (u32 x) from rfl) ?_
   refine gc (c_integer_short a x ha (by omega) (by omega) hxB) ?_
   refine gc (c_trim [val a % x] (ws_one (by omega)) (by simp [big])) ?_
   refine gE2 ?_
   rw [hv]; simp [val,resT]
  ·have hl : b.length ≠ 1 := by have := ht27; simp [icmp] at this; omega
   obtain ⟨n,hn⟩ : ∃ n,b.length = n + 2 := ⟨b.length - 2,by have := List.length_pos_iff.2 hb0; omega⟩
   obtain ⟨sh,v,hsh,hsh2,hv,wv,lv,vv,hvt,htop,hlo⟩ := norm_b hb nb hn
   have hab : b.length <= a.length := by
    rcases Nat.lt_or_ge a.length b.length with h2 | h2
    ·have := val_cmp_len ha nb h2; omega
    ·exact h2
   obtain ⟨lq,hlq⟩ : ∃ lq,a.length + 1 = lq + (n + 2) := ⟨a.length + 1 - (n + 2),by omega⟩
   have hbt := wordW_lt hb (n + 1)
   refine gl ?_
   refine ga (show _ = ((n + 1 : Nat) : Int) by rw [i64_subI (by omega)]; omega) ?_
   refine gi (getz (n := n + 1) (by omega) (by first | omega | (simp; omega))) ?_
   refine gc (show FnC _ _ _ (i64 (sh : Nat)) by rw [hsh]; exact c_LeadingZeros32 _ hbt) ?_
   refine gt (s_callH (c_integer_up 900 rfl b sh hb (by unfold big; omega) hsh2) (.cons (.tmp rfl) (.cons (.tmp rfl) .nil)) (by first | exact hH0 | exact hH1 rfl | exact hH2 rfl rfl) rfl rfl) ?_
   refine gl ?_
   refine gs (s_sliceMs (.tmp rfl) (.none _) (.some _ (.tmp rfl) (by omega)) T29 rfl T204 rfl (by omega) (by omega) rfl) ?_
   refine gt (s_callH (c_integer_up 901 rfl a sh ha (by unfold big; omega) hsh2) (.cons (.tmp rfl) (.cons (.tmp rfl) .nil)) (by first | exact hH0 | exact hH1 rfl | exact hH2 rfl rfl) rfl rfl) ?_
   refine gD ?_ (8,0)
   refine gW ((Wk.freeze (k := 900) rfl).trans <| Wk.of (sl := [(0,some (ws a)),(1,some (ws b)),(8,some (i64 sh)),(9,some (ws v)),(10,some (.ms 901 1 0 (a.length + 1)))]) (hp := [(901,some (.row 1 ((fixw (a.length + 1) (2 ^ sh * val a)).map u32)))]) (.k (.k (.k (.cons rfl (Sub.of (take_v hn hv)) (.k .nil))))) (.cons rfl (.refl _) .nil)) ?_
   refine gl ?_
   refine ga (show _ = (lq : Int) by rw [lv,i64_subI (by omega)]; omega) ?_
   refine gs (s_make (.tmp rfl) T29 rfl T204 rfl rfl (by omega) (by dsimp only; omega) rfl) ?_
   refine gl ?_
   refine ga (show _ = ((n + 1 : Nat) : Int) by rw [lv,i64_subI (by omega)]; omega) ?_
   refine gi (getz (n := n + 1) (by omega) (by first | omega | (simp; omega))) ?_
   refine gv (u64_in (by have := wordW_lt wv (n + 1); omega)) ?_
   refine gl ?_
   refine ga (show _ = (n : Int) by rw [lv,i64_subI (by omega)]; omega) ?_
   refine gi (getz (n := n) (by omega) (by first | omega | (simp; omega))) ?_
   refine gv (u64_in (by have := wordW_lt wv n; omega)) ?_
   refine gD ?_
   refine ga (i64_subI (by omega)) ?_
   refine gL3 [8,9,12,13] [] (fun (q u : List Nat) (j : Nat) => [(10,some (.ms 901 1 0 (a.length + 1))),(11,some (.ms 61 1 0 lq)),(14,some (i64 ((j : Int) - 1)))]) (fun q u _ => [(901,some (.row 1 (u.map u32))),(61,some (.row 1 (q.map u32)))]) (fun q u j => q.length = lq /\ u.length = a.length + 1 /\ Ws q /\ Ws u /\ j <= lq /\ val (u.drop j) < val v /\ 2 ^ sh * val a = val v * (4294967296 ^ j * val (q.drop j)) + val u) (fun _ _ j => j) (List.replicate lq 0) (fixw (a.length + 1) (2 ^ sh * val a)) lq ⟨by simp,len_fixw _ _,ws_rep _,ws_fixw _ _,Nat.le_refl _,by rw [vv]; exact (init_u ha hsh2 hlq hlo).2,by rw [(init_u ha hsh2 hlq hlo).1]; simp [val]⟩ ?_ (h2 := (.cons rfl (.refl _) (.cons rfl (BlkSub.of (by rw [List.map_replicate]; rfl)) .nil)))
   rintro q u j ⟨hql,hul,wq,wu,hj,hlt,hU⟩ K1 hK1
   refine gC (fun ht80 => ?_) (fun ht80 => ?_) (st2 := (23,0))
   ·have hj0 : 1 <= j := by have := ht80; simp [icmp] at this; omega
    obtain ⟨k,rfl⟩ : ∃ k,j = k + 1 := ⟨j - 1,by omega⟩
    obtain ⟨W,hW⟩ : ∃ W,W = val (win u k (n + 3)) := ⟨_,rfl⟩
    have hVl : val v < 4294967296 ^ (n + 2):=by have := val_lt v wv; rwa [lv] at this
    obtain ⟨e1,e2,e3⟩ := div_step (u := u) (q := q) (k := k) (lv := n + 2) wu (by omega) (by omega) hVl hlt hU
    simp only [show n + 2 + 1 = n + 3 from rfl] at e1 e2 e3
    have hdig := dig_of wv (ws_win wu k (n + 3)) lv (len_win (by omega)) hvt e1
    rw [<- hW] at e1 e2 e3 hdig
    have wp := ws_win wu k (n + 3)
    have b1 := wordW_lt wp n
    have b2 := wordW_lt wp (n + 1)
    have b3 := wordW_lt wp (n + 2)
    have b4 := hdig.htop
    have b5 := hdig.htopB
    have b6 := hdig.hnext
    obtain ⟨top,htop'⟩ : ∃ top,top = wordW v (n + 1) := ⟨_,rfl⟩
    obtain ⟨nx,hnx⟩ : ∃ nx,nx = wordW v n := ⟨_,rfl⟩
    obtain ⟨hd,hhd⟩ : ∃ hd,hd = wordW (win u k (n + 3)) (n + 2) * 4294967296 + wordW (win u k (n + 3)) (n + 1) := ⟨_,rfl⟩
    obtain ⟨th,hth⟩ : ∃ th,th = wordW (win u k (n + 3)) n := ⟨_,rfl⟩
    rw [<- htop',<- hnx,<- hhd,<- hth] at hdig
    rw [<- htop'] at b4 b5 ⊢
    rw [<- hnx] at b6 ⊢
    rw [<- hth] at b1
    have hdB : hd < 18446744073709551616:=by omega
    refine gl ?_
    refine ga (show _ = ((k + n + 2 : Nat) : Int) by rw [lv,i64_addI (by omega)]; omega) ?_
    refine ga (show _ = ((k + n + 3 : Nat) : Int) by rw [i64_addI (by omega)]; omega) ?_
    refine gs (s_sliceMs (.tmp rfl) (.some _ (.tmp rfl) (by omega)) (.some _ (.tmp rfl) (by omega)) T29 rfl T204 rfl (by omega) (by omega) rfl) ?_ (14,0)
    refine gW (Wk.of (sl := [(8,some (i64 sh)),(9,some (ws v)),(10,some (.ms 901 1 0 (a.length + 1))),(11,some (.ms 61 1 0 lq)),(12,some (u64 top)),(13,some (u64 nx)),(14,some (i64 k)),(15,some (.ms 901 1 k (n + 3)))]) (hp := [(901,some (.row 1 (u.map u32))),(61,some (.row 1 (q.map u32)))]) (.k (.k (.k (.k (.k (.k (.cons rfl (Sub.int (by omega)) (.cons rfl (Sub.of (by congr 1 <;> omega)) .nil)))))))) (.cons rfl (.refl _) (.cons rfl (.refl _) .nil))) ?_
    refine gl ?_
    refine gs (s_idxMsN (n := n + 2) (.tmp rfl) (.tmp rfl) T29 rfl T204 rfl (by omega) (by omega) rfl) ?_
    refine gs (s_loadEptr (.tmp rfl) rfl (getwin (n := n + 3) (i := n + 2) (by omega) (by omega)) T204 rfl rfl rfl) ?_
    refine gv (u64_in (by omega)) ?_
    refine gs (s_shlW (.tmp rfl) (.const _) (by omega) (u64_shl (n := 32) (by omega) (by omega)) rfl) ?_
    refine gl ?_
    refine ga (show _ = ((n + 1 : Nat) : Int) by rw [lv,i64_subI (by omega)]; omega) ?_
    refine gs (s_idxMsN (n := n + 1) (.tmp rfl) (.tmp rfl) T29 rfl T204 rfl (by omega) (by omega) rfl) ?_
    refine gs (s_loadEptr (.tmp rfl) rfl (getwin (n := n + 3) (i := n + 1) (by omega) (by omega)) T204 rfl rfl rfl) ?_
    refine gv (u64_in (by omega)) ?_
    refine gs (s_bitsW (.tmp rfl) (.tmp rfl) rfl ((ibits_or64 (by omega) (by omega)).trans (show _ = (hd : Int) by rw [or_add (by omega),hhd])) rfl) ?_
    refine gD ?_
    refine gs (s_quoW (.tmp rfl) (.tmp rfl) (by omega) (u64_quo hdB) rfl) ?_
    refine gs (s_remW (.tmp rfl) (.tmp rfl) (by omega) nat_rem rfl) ?_
    refine gD ?_
    refine gL2 [8,9,12,13,14] [901,61] (fun (g r : Nat) => [(10,some (.ms 901 1 0 (a.length + 1))),(11,some (.ms 61 1 0 lq)),(15,some (.ms 901 1 k (n + 3))),(17,some (u64 g)),(18,some (u64 r))]) (fun _ _ => []) (fun g r => W / val v <= g /\ g * top + r = hd /\ g < 18446744073709551616 /\ r < 8589934592) (fun g _ => g) (hd / top) (hd % top) ⟨hdig.first,by rw [Nat.mul_comm]; exact Nat.div_add_mod _ _,by have := Nat.div_le_self hd top; omega,by have := Nat.mod_lt hd (show 0 < top by omega); omega⟩ ?_
    rintro g r ⟨hg,hgr,hgB,hrB⟩ K2 hK2
    refine gaG (fun ⟨h,h2⟩ => (u64_mul (by simp [icmp] at h2; have := mul_word (x := g) (y := nx) (by omega) b6; omega))) ?_
    refine gs (s_guardO rfl rfl rfl (fun h h2 => s_shlW (.opt rfl (o2 h h2)) (.const _) (by omega) (u64_shl (n := 32) (by omega) (by simp [icmp] at h; omega)) rfl)) ?_
    refine glG ?_
    refine gaG (fun _ => (show _ = (n : Int) by rw [lv,i64_subI (by omega)]; omega)) ?_
    refine gs (s_guardO rfl rfl rfl (fun h h2 => s_idxMsN (n := n) (.opt rfl (o2 h h2)) (.opt rfl (o2 h h2)) T29 rfl T204 rfl (by omega) (by omega) rfl)) ?_
    refine gs (s_guardO rfl rfl rfl (fun h h2 => s_loadEptr (.opt rfl (o2 h h2)) rfl (getwin (n := n + 3) (i := n) (by omega) (by omega)) T204 rfl rfl rfl)) ?_
    refine gvG (fun _ => (u64_in (by omega))) ?_
    refine gs (s_guardO rfl rfl rfl (fun h h2 => s_bitsW (.opt rfl (o2 h h2)) (.opt rfl (o2 h h2)) rfl ((ibits_or64 (by simp [icmp] at h; omega) (by omega)).trans (by rw [or_add (by omega)])) rfl)) ?_
    refine gC (fun ht133 => ?_) (fun ht133 => ?_)
    ·have hc : r < 4294967296 /\ (4294967296 <= g \/ r * 4294967296 + th < g * nx) := by
      rw [hth]
      have h9 := dig_cond.1 ht133
      rwa [show r * 2 ^ 32 = r * 4294967296 from rfl] at h9
     have hg1 := hdig.step hg hgr hc.2
     have hg0 : 1 <= g := Nat.succ_le_of_lt (Nat.lt_of_le_of_lt (Nat.zero_le _) hg1)
     refine ga (u64_sub1 (by omega) (by omega)) ?_
     refine ga (u64_add (by omega)) ?_
     exact gK2 hK2 (g - 1) (r + top) ⟨Nat.le_sub_one_of_lt hg1,by rw [Nat.sub_mul]; have := Nat.mul_le_mul_right top (show 1 <= g by omega); omega,by omega,by omega⟩
    ·have hc : ¬ (r < 4294967296 /\ (4294967296 <= g \/ r * 4294967296 + th < g * nx)) := by
      rw [hth]
      intro hh
      rw [show r * 4294967296 = r * 2 ^ 32 from rfl] at hh
      exact Bool.eq_false_iff.1 ht133 (dig_cond.2 hh)
     obtain ⟨hgB2,hgq⟩ := hdig.last hgr hc
     have hVp := hdig.vpos
     have hWl : val (win u k (n + 3)) < 4294967296 ^ (n + 3):=by have := val_lt _ wp; rwa [len_win (by omega)] at this
     obtain ⟨p1,p2⟩ := part_end hVp (show val v <= 4294967296 ^ (n + 3) by have := Nat.pow_le_pow_right (show 0 < 4294967296 by omega) (show n + 2 <= n + 3 by omega); omega) (hW ▸ hWl) hg hgq
     have hwul : k + (n + 3) <= u.length:=by omega
     have hwr : (wr u k (fixw (n + 3) (remW g (val v) W (n + 3)))).length = a.length + 1:=by rw [len_wr (by rw [len_fixw]; omega),hul]
     refine gt (s_callH (Con.rekey 901 rfl rfl (c_integer_remove u v k (n + 3) g wu wv (by omega) hwul hgB2 (by unfold maxL; omega))) (.cons (.tmp rfl) (.cons (.tmp rfl) (.cons (.tmp rfl) .nil))) (by first | exact hH0 | exact hH1 rfl | exact hH2 rfl rfl) rfl rfl) ?_
     refine gC (fun ht142 => ?_) (fun ht142 => ?_)
     ·have hlt2 : W < g * val v := by rw [hW]; simpa using ht142
      obtain ⟨q1,q2,q3⟩ := p1 hlt2
      have hrl : remW g (val v) W (n + 3) < 4294967296 ^ (n + 3):=by unfold remW; rw [if_neg (by omega)]; rw [<- hW] at hWl; omega
      refine ga (u64_sub1 (by omega) (by omega)) ?_
      refine gt (s_callH (Con.rekey 901 rfl rfl (c_integer_back (wr u k (fixw (n + 3) (remW g (val v) (val (win u k (n + 3))) (n + 3)))) v k (n + 3) (ws_wr wu (ws_fixw _ _)) wv (by omega) (by rw [<- hW,hwr]; omega) (by rw [<- hW,hwr]; unfold maxL; omega))) (.cons (.tmp rfl) (.cons (.tmp rfl) .nil)) (by first | exact hH0 | exact hH1 rfl | exact hH2 rfl rfl) rfl rfl) ?_
      refine gv ((u32_wrap _).trans (by rw [Nat.mod_eq_of_lt (by omega)])) ?_
      refine gs (s_idxMs0 (n := k) (.tmp rfl) (.tmp rfl) T29 rfl T204 rfl (by omega) (by omega) rfl) ?_
      refine gs (s_stElem (.tmp rfl) rfl (getw (i := k) (by omega)) rfl (.tmp rfl) rfl rfl T204 rfl rfl) ?_
      refine ga (i64_subI (by omega)) ?_
      exact gK3 hK1 (q.set k (W / val v)) (wr u k (fixw (n + 3) (W % val v))) k ⟨by simp [hql],by rw [len_wr (by rw [len_fixw]; omega),hul],ws_set wq hdig.q_lt,ws_wr wu (ws_fixw _ _),by omega,e2,e3⟩ (hw := Wk.of (by repeat (first | exact SlW.nil | refine SlW.k ?_)) (.cons rfl (BlkSub.of (by rw [<- hW]; first | (rw [q1]; done) | (rw [wr_back (r := W % val v) hwul (len_fixw _ _) (by rw [val_fixw _ _ hrl]; exact q1)]; done))) (.cons rfl (BlkSub.of (by rw [List.map_set,q2]; rfl)) .nil)))
     ·have hlt2 : ¬ W < g * val v := by rw [hW]; simpa using ht142
      obtain ⟨q1,q2⟩ := p2 hlt2
      refine gv ((u32_wrap _).trans (by rw [Nat.mod_eq_of_lt (by omega)])) ?_
      refine gs (s_idxMs0 (n := k) (.tmp rfl) (.tmp rfl) T29 rfl T204 rfl (by omega) (by omega) rfl) ?_
      refine gs (s_stElem (.tmp rfl) rfl (getw (i := k) (by omega)) rfl (.tmp rfl) rfl rfl T204 rfl rfl) ?_
      refine ga (i64_subI (by omega)) ?_
      exact gK3 hK1 (q.set k (W / val v)) (wr u k (fixw (n + 3) (W % val v))) k ⟨by simp [hql],by rw [len_wr (by rw [len_fixw]; omega),hul],ws_set wq hdig.q_lt,ws_wr wu (ws_fixw _ _),by omega,e2,e3⟩ (hw := Wk.of (by repeat (first | exact SlW.nil | refine SlW.k ?_)) (.cons rfl (BlkSub.of (by rw [<- hW]; first | (rw [q1]; done) | (rw [wr_back (r := W % val v) hwul (len_fixw _ _) (by rw [val_fixw _ _ hrl]; exact q1)]; done))) (.cons rfl (BlkSub.of (by rw [List.map_set,q2]; rfl)) .nil)))
   ·have hj0 : j = 0 := by have := ht80; simp [icmp] at this; omega
    subst hj0
    have hU' : 2 ^ sh * val a = 2 ^ sh * val b * val q + val u:=by rw [<- vv]; simpa using hU
    obtain ⟨hQ,hR⟩ := div_end hU' (by rw [<- vv]; simpa using hlt)
    refine gW ((Wk.freeze (k := 61) rfl).trans <| (Wk.freeze (k := 901) rfl).trans <| Wk.of (sl := [(8,some (i64 sh)),(10,some (ws u)),(11,some (ws q))]) (hp := []) (.k (.cons rfl (Sub.of (fz_all (by simp [hul]))) (.cons rfl (Sub.of (by rw [show AV.fz 61 1 (q.map u32) (.ms 61 1 0 lq) = ws q from fz_all (by simp [hql])]; rfl)) .nil))) .nil) ?_
    refine gc (c_trim q wq (by unfold big; omega)) ?_
    refine gc (c_integer_down u sh wu (by unfold big; omega) hsh2) ?_
    refine gE2 ?_
    rw [<- hQ,<- hR]
end Go.Lw
namespace Go.Lw
open Go.Proofs
theorem div_cond {b : Bool} {n : Nat} : (cond b (icmp .gtr ((ofNat n).length : Int) 0) false) = true ↔ (b = true /\ 0 < n) := by
 have h : icmp .gtr ((ofNat n).length : Int) 0 = true ↔ 0 < n := by
  simp only [icmp,decide_eq_true_eq]
  constructor
  ·intro h; rcases Nat.eq_zero_or_pos n with h1 | h1; (subst h1; simp [ofNat_zero] at h); exact h1
  ·intro h
   have : ofNat n ≠ []:=by intro h1; have := val_ofNat n; rw [h1] at this; simp [val] at this; omega
   have := List.length_pos_iff.2 this
   omega
 cases b with
 | false => simp
 | true => exact ⟨fun h1 => ⟨rfl,h.1 h1⟩,fun h1 => h.2 h1.2⟩
theorem c_integer_Sign (a : Wh) (ha : a.ok) : FnC Tryz.prog 201 [a.av] (i64 a.z.sign) := by
 obtain ⟨e1,e2,e3⟩ := sign_end ha
 refine gF0 Tryz.func201 ?_
 refine gc (c_integer_mag a ha) ?_
 refine gl ?_
 refine gC (fun ht3 => ?_) (fun ht3 => ?_)
 ·have h0 : a.m.length = 0 := by simpa [icmp] using ht3
  refine gE1 ?_
  rw [e1 h0]; rfl
 ·have h0 : a.m.length ≠ 0 := by simpa [icmp] using ht3
  refine gC (fun ht8 => ?_) (fun ht8 => ?_)
  ·refine gE1 ?_
   rw [e2 h0 ht8]; rfl
  ·refine gE1 ?_
   rw [e3 h0 ht8]; rfl
theorem c_integer_Cmp (a b : Wh) (ha : a.ok) (hb : b.ok) : FnC Tryz.prog 196 [a.av, b.av] (i64 (cmp3 a.z b.z)) := by
 refine gF0 Tryz.func196 ?_
 refine gc (c_integer_Sign a ha) ?_
 refine gc (c_integer_Sign b hb) ?_
 refine gD ?_
 refine gC (fun ht14 => ?_) (fun ht14 => ?_)
 ·have h0 : a.z.sign ≠ b.z.sign := by simpa [icmp] using ht14
  obtain ⟨e1,e2⟩ := cmp_sign h0
  refine gC (fun ht17 => ?_) (fun ht17 => ?_)
  ·have h1 : a.z.sign < b.z.sign := by simpa [icmp] using ht17
   refine gE1 ?_
   rw [e1 h1]; rfl
  ·have h1 : ¬ a.z.sign < b.z.sign := by simpa [icmp] using ht17
   refine gE1 ?_
   rw [e2 h1]; rfl
 ·have h0 : a.z.sign = b.z.sign := by simpa [icmp] using ht14
  have e1 := cmp_same h0
  refine gc (c_integer_mag a ha) ?_
  refine gc (c_integer_mag b hb) ?_
  refine gc (c_integer_compare a.m b.m (Wh.ws ha) (Wh.ws hb) a.nz b.nz) ?_
  refine gD ?_
  refine gc (c_integer_neg a ha) ?_
  refine gC (fun ht24 => ?_) (fun ht24 => ?_)
  ·rw [ht24, if_pos rfl] at e1
   refine gs (s_neg (.tmp rfl) rfl) ?_
   refine gE1 ?_
   rw [e1]
   split
   ·rfl
   ·split <;> rfl
  ·rw [ht24, if_neg Bool.false_ne_true] at e1
   refine gE1 ?_
   first | (rw [e1]; done) | (rw [e1]; rfl)
theorem c_integer_Neg (a : Wh) (ha : a.ok) (la : a.mag.length < big) : FnC Tryz.prog 223 [a.av] (zA (-a.z)) := by
 refine gF0 Tryz.func223 ?_
 refine gc (c_integer_neg a ha) ?_
 refine gc (c_integer_mag a ha) ?_
 refine gc (c_integer_whole _ a.m (Wh.ws ha) (Nat.le_of_lt (Wh.small ha la))) ?_
 refine gD ?_
 refine gE1 ?_
 rw [Wh.z_eq,<- sgn_neg]; rfl
theorem c_integer_Mul (a b : Wh) (ha : a.ok) (hb : b.ok) (la : a.mag.length + b.mag.length <= big) : FnC Tryz.prog 222 [a.av, b.av] (zA (a.z * b.z)) := by
 have h1 := Wh.m_le (w := a)
 have h2 := Wh.m_le (w := b)
 have h3 : (ofNat (val a.m * val b.m)).length <= a.m.length + b.m.length := ofNat_length_le (by rw [Nat.pow_add]; exact Nat.mul_lt_mul'' (val_lt _ (Wh.ws ha)) (val_lt _ (Wh.ws hb)))
 refine gF0 Tryz.func222 ?_
 refine gc (c_integer_neg a ha) ?_
 refine gc (c_integer_neg b hb) ?_
 refine gc (c_integer_mag a ha) ?_
 refine gc (c_integer_mag b hb) ?_
 refine gc (c_integer_times a.m b.m (Wh.ws ha) (Wh.ws hb) (by omega)) ?_
 refine gc (c_integer_whole _ _ (ws_ofNat _) (by omega)) ?_
 refine gD ?_
 refine gE1 ?_
 rw [val_ofNat,mul_sgn]; rfl
theorem c_integer_Add (a b : Wh) (ha : a.ok) (hb : b.ok) (la : a.mag.length < big) (lb : b.mag.length < big) : FnC Tryz.prog 221 [a.av, b.av] (zA (a.z + b.z)) := by
 have h1 := Wh.m_le (w := a)
 have h2 := Wh.m_le (w := b)
 have hla : val a.m < 4294967296 ^ (max a.m.length b.m.length) := Nat.lt_of_lt_of_le (val_lt _ (Wh.ws ha)) (Nat.pow_le_pow_right (by omega) (by omega))
 have hlb : val b.m < 4294967296 ^ (max a.m.length b.m.length) := Nat.lt_of_lt_of_le (val_lt _ (Wh.ws hb)) (Nat.pow_le_pow_right (by omega) (by omega))
 have h3 : (ofNat (val a.m + val b.m)).length <= max a.m.length b.m.length + 1 := ofNat_length_le (by rw [Nat.pow_succ]; omega)
 have h4 : (ofNat (val a.m - val b.m)).length <= max a.m.length b.m.length := ofNat_length_le (by omega)
 have h5 : (ofNat (val b.m - val a.m)).length <= max a.m.length b.m.length := ofNat_length_le (by omega)
 refine gF0 Tryz.func221 ?_
 refine gc (c_integer_mag a ha) ?_
 refine gc (c_integer_mag b hb) ?_
 refine gD ?_
 refine gc (c_integer_neg a ha) ?_
 refine gc (c_integer_neg b hb) ?_
 refine gD ?_
 refine gC (fun ht11 => ?_) (fun ht11 => ?_)
 ·have h0 : a.n = b.n := by simpa using ht11
  refine gc (c_integer_neg a ha) ?_
  refine gc (c_integer_plus a.m b.m (Wh.ws ha) (Wh.ws hb) (by omega) (by omega)) ?_
  refine gc (c_integer_whole _ _ (ws_ofNat _) (by omega)) ?_
  refine gE1 ?_
  rw [val_ofNat,add_same h0]; rfl
 ·have h0 : a.n ≠ b.n := by simpa using ht11
  refine gc (c_integer_compare a.m b.m (Wh.ws ha) (Wh.ws hb) a.nz b.nz) ?_
  refine gC (fun ht23 => ?_) (fun ht23 => ?_)
  ·have h6 : val b.m <= val a.m := by
    rcases Nat.lt_or_ge (val a.m) (val b.m) with h | h
    ·rw [if_pos h] at ht23; cases ht23
    ·exact h
   refine gc (c_integer_neg a ha) ?_
   refine gc (c_integer_less a.m b.m (Wh.ws ha) (Wh.ws hb) (by omega) (by rcases Nat.lt_or_ge a.m.length b.m.length with h | h; (have := val_cmp_len (Wh.ws ha) b.nz h; omega); exact h) h6) ?_
   refine gc (c_integer_whole _ _ (ws_ofNat _) (by omega)) ?_
   refine gE1 ?_
   rw [val_ofNat,add_left h0 h6]; rfl
  ·have h6 : val a.m < val b.m := by
    rcases Nat.lt_or_ge (val a.m) (val b.m) with h | h
    ·exact h
    ·rw [if_neg (by omega)] at ht23; split at ht23 <;> cases ht23
   refine gc (c_integer_neg b hb) ?_
   refine gc (c_integer_less b.m a.m (Wh.ws hb) (Wh.ws ha) (by omega) (by rcases Nat.lt_or_ge b.m.length a.m.length with h | h; (have := val_cmp_len (Wh.ws hb) a.nz h; omega); exact h) (by omega)) ?_
   refine gc (c_integer_whole _ _ (ws_ofNat _) (by omega)) ?_
   refine gE1 ?_
   rw [val_ofNat,add_right h0 (by omega)]; rfl
theorem c_integer_Gcd (a b : Wh) (ha : a.ok) (hb : b.ok) (la : a.mag.length < big) (lb : b.mag.length < big) : FnC Tryz.prog 197 [a.av, b.av] (zA (Int.gcd a.z b.z)) := by
 refine gF0 Tryz.func197 ?_
 refine gc (c_integer_mag a ha) ?_
 refine gc (c_integer_mag b hb) ?_
 refine gD ?_
 refine gL2 [4] [4] (fun (x y : List Nat) => [(5,some (ws x)),(6,some (ws y))]) (fun _ _ => []) (fun x y => Ws x /\ Ws y /\ Nz x /\ Nz y /\ x.length < big /\ y.length < big /\ Nat.gcd (val x) (val y) = Int.gcd a.z b.z) (fun _ y => val y) a.m b.m ⟨Wh.ws ha,Wh.ws hb,a.nz,b.nz,Wh.small ha la,Wh.small hb lb,by rw [Int.gcd,Wh.abs,Wh.abs]⟩ ?_
 rintro x y ⟨wx,wy,nx,ny,lx,ly,hg⟩ K1 hK1
 refine gl ?_
 refine gC (fun ht15 => ?_) (fun ht15 => ?_)
 ·have hy : y ≠ [] := by intro h; subst h; simp [icmp] at ht15
  have hy0 := val_pos ny hy
  have hm := Nat.mod_lt (val x) hy0
  refine gc (c_integer_divide x y wx wy nx ny hy lx ly) ?_
  exact gK2 hK1 y (ofNat (val x % val y)) ⟨wy,ws_ofNat _,ny,nz_ofNat _,ly,Nat.lt_of_le_of_lt (ofNat_length_le (Nat.lt_trans hm (val_lt y wy))) ly,by rw [val_ofNat,<- hg,Nat.gcd_comm (val x) (val y),Nat.gcd_comm (val y) (val x % val y)]; exact (Nat.gcd_rec _ _).symm⟩ (by show val (ofNat _) < val y; rw [val_ofNat]; exact hm)
 ·have hy : y = [] := by
   cases y with
   | nil => rfl
   | cons c l => simp [icmp] at ht15
  subst hy
  have hg' : val x = Int.gcd a.z b.z:=by rw [<- hg]; simp [val]
  refine gc (c_integer_whole false x wx (Nat.le_of_lt lx)) ?_
  refine gE1 ?_
  rw [hg']; rfl
theorem c_integer_Div (a b : Wh) (ha : a.ok) (hb : b.ok) (la : a.mag.length + 1 < big) (lb : b.mag.length < big) (h0 : b.z ≠ 0) : FnC Tryz.prog 224 [a.av, b.av] (.tup [zA (a.z / b.z), zA (a.z % b.z), .v .nilIface]) := by
 have hm1 := Wh.m_le (w := a)
 have hm2 := Wh.m_le (w := b)
 have hb1 : val b.m ≠ 0:=by have := Wh.abs (w := b); omega
 have hb2 : b.m ≠ [] := fun h => hb1 (by rw [h]; rfl)
 have hl1 : (ofNat (val a.m / val b.m)).length <= a.m.length := ofNat_length_le (Nat.lt_of_le_of_lt (Nat.div_le_self _ _) (val_lt _ (Wh.ws ha)))
 have hmod := Nat.mod_lt (val a.m) (show 0 < val b.m by omega)
 have hl2 : (ofNat (val a.m % val b.m)).length <= b.m.length := ofNat_length_le (Nat.lt_trans hmod (val_lt _ (Wh.ws hb)))
 have hl3 : (ofNat (val a.m / val b.m + 1)).length <= a.m.length + 1 := ofNat_length_le (by have h7 := Nat.lt_of_le_of_lt (Nat.div_le_self (val a.m) (val b.m)) (val_lt _ (Wh.ws ha)); rw [Nat.pow_succ]; generalize val a.m / val b.m = m at *; omega)
 have hl4 : (ofNat (val b.m - val a.m % val b.m)).length <= b.m.length := ofNat_length_le (by have := val_lt _ (Wh.ws hb); omega)
 have hv1 : val [1] = 1 := rfl
 refine gF0 Tryz.func224 ?_
 refine gc (c_integer_mag b hb) ?_
 refine gl ?_
 refine gC (fun ht14 => ?_) (fun ht14 => ?_) (st1 := (3,0))
 ·exact absurd (List.length_eq_zero_iff.1 (by simpa [icmp] using ht14)) hb2
 ·refine gc (c_integer_mag a ha) ?_
  refine gc (c_integer_divide a.m b.m (Wh.ws ha) (Wh.ws hb) a.nz b.nz hb2 (by omega) (by omega)) ?_
  refine gc (c_integer_neg a ha) ?_
  refine glG ?_
  refine gC (fun ht31 => ?_) (fun ht31 => ?_)
  ·have h1 : a.n = true /\ 0 < val a.m % val b.m := div_cond.1 ht31
   obtain ⟨e1,e2⟩ := div_high hb1 h1.1 h1.2
   refine gc (c_integer_plus (ofNat (val a.m / val b.m)) [1] (ws_ofNat _) (ws_one (by omega)) (by omega) (by unfold big; simp)) ?_
   refine gc (c_integer_less b.m (ofNat (val a.m % val b.m)) (Wh.ws hb) (ws_ofNat _) (by omega) hl2 (by rw [val_ofNat]; omega)) ?_ (7,0)
   refine gW (Wk.of (sl := [(2,some (.ptr 2 0)),(3,some (.ptr 3 0)),(4,some (.ptr 4 0)),(5,some (.ptr 5 0)),(8,some (ws (ofNat (val a.m / val b.m + 1)))),(9,some (ws (ofNat (val b.m - val a.m % val b.m))))]) (hp := [(2,some (.box [bl a.neg,ws a.mag])),(3,some (.box [bl b.neg,ws b.mag])),(4,some (.box [.v (.bool false),.v (.slice none 0 0)])),(5,some (.box [.v (.bool false),.v (.slice none 0 0)]))]) (.k (.k (.k (.k (.cons rfl (Sub.of (by rw [val_ofNat,hv1])) (.cons rfl (Sub.of (by rw [val_ofNat])) .nil)))))) (.cons rfl (.refl _) (.cons rfl (.refl _) (.cons rfl (.refl _) (.cons rfl (.refl _) .nil))))) ?_
   refine gc (c_integer_neg a ha) ?_
   refine gc (c_integer_neg b hb) ?_
   refine gc (by apply c_integer_whole _ _ (ws_ofNat _) (by omega)) ?_
   refine gc (by apply c_integer_whole _ _ (ws_ofNat _) (by omega)) ?_
   refine gD ?_
   refine gR ?_
   exact fin_eq3 (by rw [val_ofNat,val_ofNat,e1,show sgn false _ = _ from e2]; rfl)
  ·have h1 : ¬ (a.n = true /\ 0 < val a.m % val b.m) := fun h => Bool.eq_false_iff.1 ht31 (div_cond.2 h)
   obtain ⟨e1,e2⟩ := div_low hb1 h1
   refine gc (c_integer_neg a ha) ?_
   refine gc (c_integer_neg b hb) ?_
   refine gc (by apply c_integer_whole _ _ (ws_ofNat _) (by omega)) ?_
   refine gc (by apply c_integer_whole _ _ (ws_ofNat _) (by omega)) ?_
   refine gD ?_
   refine gR ?_
   exact fin_eq3 (by rw [val_ofNat,val_ofNat,e1,show sgn false _ = _ from e2]; rfl)
end Go.Lw
namespace Go.Lw
open Go.Proofs
theorem of_val {N : Nat} (h : N < 18446744073709551616) : val [N % 4294967296, N / 2 ^ 32] = N := by
 simp only [val]; omega
theorem of_ws {N : Nat} (h : N < 18446744073709551616) : Ws [N % 4294967296, N / 2 ^ 32] := by
 intro x hx
 simp only [List.mem_cons,List.not_mem_nil,or_false] at hx
 rcases hx with rfl | rfl <;> omega
theorem c_integer_Of (n : Int) (h : -9223372036854775808 <= n /\ n <= 9223372036854775807) : FnC Tryz.prog 151 [i64 n] (zA n) := by
 obtain ⟨N,hN⟩ : ∃ N,N = n.natAbs := ⟨_,rfl⟩
 have hNB : N < 18446744073709551616:=by omega
 refine gF0 Tryz.func151 ?_
 refine gv (show IntKind.u64.wrap n = ((n % 18446744073709551616 : Int)) by simp only [IntKind.wrap,IntKind.signed,IntKind.bits,Bool.false_and,if_false,Bool.false_eq_true]; omega) ?_
 refine gC (fun ht7 => ?_) (fun ht7 => ?_) (st2 := (77777,0))
 ·have hn : n < 0 := by simpa [icmp] using ht7
  refine gs (s_neg (.tmp rfl) rfl) ?_ (4,0)
  refine gW (Wk.of (sl := [(0,some (i64 n)),(2,some (.ptr 2 0)),(3,some (u64 N))]) (hp := [(2,some (.box [.v (.bool false),.v (.slice none 0 0)]))]) (.k (.k (.cons rfl (Sub.int (by simp only [IntKind.wrap,IntKind.signed,IntKind.bits,Bool.false_and,if_false,Bool.false_eq_true]; omega)) .nil))) (.cons rfl (.refl _) .nil)) ?_
  refine gv (u32_wrap _) ?_
  refine gs (s_shrW (.tmp rfl) (.const _) (by omega) (u64_shr _ 32 (by omega)) rfl) ?_
  refine gv ((u32_wrap _).trans (by rw [Nat.mod_eq_of_lt (show N / 2 ^ 32 < 4294967296 by omega)])) ?_
  refine gc (c_integer_whole (icmp .lss n 0) [N % 4294967296,N / 2 ^ 32] (of_ws hNB) (by unfold big; simp)) ?_
  refine gE1 ?_
  rw [of_val hNB,show sgn (icmp .lss n 0) N = n by simp only [sgn,icmp,decide_eq_true_eq]; split <;> omega]; rfl
 ·have hn : ¬ n < 0 := by simpa [icmp] using ht7
  refine gW (Wk.of (sl := [(0,some (i64 n)),(2,some (.ptr 2 0)),(3,some (u64 N))]) (hp := [(2,some (.box [.v (.bool false),.v (.slice none 0 0)]))]) (.k (.k (.cons rfl (Sub.int (by omega)) .nil))) (.cons rfl (.refl _) .nil)) ?_
  refine gv (u32_wrap _) ?_
  refine gs (s_shrW (.tmp rfl) (.const _) (by omega) (u64_shr _ 32 (by omega)) rfl) ?_
  refine gv ((u32_wrap _).trans (by rw [Nat.mod_eq_of_lt (show N / 2 ^ 32 < 4294967296 by omega)])) ?_
  refine gc (c_integer_whole (icmp .lss n 0) [N % 4294967296,N / 2 ^ 32] (of_ws hNB) (by unfold big; simp)) ?_
  refine gE1 ?_
  rw [of_val hNB,show sgn (icmp .lss n 0) N = n by simp only [sgn,icmp,decide_eq_true_eq]; split <;> omega]; rfl
end Go.Lw
namespace Go.Lw
theorem fixw_takes : ∀ (j k v : Nat), j <= k -> (fixw k v).take j = fixw j v
 | 0,_,_,_ => by simp [fixw]
 | j + 1,0,_,h => by omega
 | j + 1, k + 1, v, h => by
  rw [fixw,fixw,List.take_succ_cons,fixw_takes j k _ (by omega)]
theorem trim_len {m : List Nat} (h : Ws m) : (ofNat (val m)).length <= m.length := ofNat_length_le (val_lt m h)
theorem take_trim {m : List Nat} (h : Ws m) : m.take (ofNat (val m)).length = ofNat (val m) := by
 have h1 := eq_fixw m h
 have h2 := eq_fixw (ofNat (val m)) (ws_ofNat _)
 rw [val_ofNat] at h2
 have h3 := fixw_takes _ _ (val m) (trim_len h)
 rw [<- h1,<- h2] at h3
 exact h3
theorem trim_is {m : List Nat} {n : Nat} (h : Ws m) (hn : n <= m.length) (hv : val (m.take n) = val m) (h0 : n = 0 \/ wordW m (n - 1) ≠ 0) : n = (ofNat (val m)).length := by
 have h1 : m.take n = ofNat (val m) := by
  refine ofNat_eq (ws_take h n) ?_ hv
  intro x hx
  rcases h0 with h0 | h0
  ·subst h0; simp at hx
  ·have hn0 : n ≠ 0 := by intro h3; subst h3; simp at hx
   rw [List.getLast?_eq_getElem?,List.length_take,Nat.min_eq_left hn,List.getElem?_take,if_pos (by omega),word_get (by omega)] at hx
   cases hx; exact h0
 rw [<- h1,List.length_take,Nat.min_eq_left hn]
theorem val_td (l : List Nat) (i : Nat) : val l = val (l.take i) + 4294967296 ^ i * val (l.drop i) := by
 rcases Nat.lt_or_ge i l.length with h | h
 ·exact val_take_drop (by omega)
 ·rw [val_take_ge h,List.drop_eq_nil_of_le h]; simp [val]
theorem val_drops (l : List Nat) (i : Nat) : val (l.drop i) = wordW l i + 4294967296 * val (l.drop (i + 1)) := by
 rcases Nat.lt_or_ge i l.length with h | h
 ·exact val_drop h
 ·rw [word_out h,List.drop_eq_nil_of_le h,List.drop_eq_nil_of_le (by omega)]; rfl
theorem cmp_word {a b : List Nat} {i : Nat} (ha : Ws a) (he : val (a.drop (i + 1)) = val (b.drop (i + 1))) (hx : wordW a i < wordW b i) : val a < val b := by
 rw [val_td a (i + 1),val_td b (i + 1),he]
 have := val_lt_word ha hx
 omega
theorem sub_agg {xs ys : List AV} (hl : xs.length = ys.length) (h1 : ∀ (j : Nat) (y : AV), ys[j]? = some y -> y.one = true) (h : ∀ (j : Nat) (x y : AV), xs[j]? = some x -> ys[j]? = some y -> Sub x y) : Sub (.agg xs) (.agg ys) := by
 intro g S m v hr
 cases hr with
 | agg hn h2 hr =>
  refine .agg (hn.trans hl) h1 ?_
  intro j u c hu hc
  have hj : j < xs.length := by
   rw [hl]
   rcases Nat.lt_or_ge j ys.length with h | h
   ·exact h
   ·rw [List.getElem?_eq_none h] at hc; cases hc
  exact h j _ c (List.getElem?_eq_getElem hj) hc _ _ _ _ (hr j u _ hu (List.getElem?_eq_getElem hj))
theorem sub_z0 : Sub (.agg [.v (.bool false), .v (.slice none 0 0)]) (zA 0) := by
 show Sub (.agg [.v (.bool false),.v (.slice none 0 0)]) (.agg [bl false,ws []])
 refine sub_agg rfl ?_ ?_
 ·intro j y hy
  match j,hy with
  | 0,hy => cases hy; rfl
  | 1,hy => cases hy; rfl
 ·intro j x y hx hy
  match j,hx,hy with
  | 0,hx,hy => cases hx; cases hy; exact Sub.refl _
  | 1,hx,hy => cases hx; cases hy; exact Sub.nil _ _ _
theorem plus_app {out : List Nat} {i x : Nat} (h : out.length = i) : val (out ++ [x]) = val out + 4294967296 ^ i * x := by
 rw [val_append,h]; simp [val]
theorem minus_step {o c P x y u w : Nat} (hu : u < 4294967296) (hw : w < 4294967296) (hc : c <= 1) (h : o + y = x + c * P) :
  (o + P * ((4294967296 + u - w - c) % 4294967296)) + (y + P * w) = (x + P * u) + (1 - (4294967296 + u - w - c) / 2 ^ 32) * (P * 4294967296) := by
 have h0 : (4294967296 + u - w - c) % 4294967296 + w + c = u + (1 - (4294967296 + u - w - c) / 2 ^ 32) * 4294967296:=by omega
 generalize (1 - (4294967296 + u - w - c) / 2 ^ 32) = q at *
 generalize (4294967296 + u - w - c) % 4294967296 = r at *
 grind
theorem minus_end {a b out : List Nat} {c : Nat} (ha : Ws a) (hw : Ws out) (ho : out.length = a.length) (hle : val b <= val a)
  (h : val out + val (b.take a.length) = val (a.take a.length) + c * 4294967296 ^ a.length) : val out = val a - val b := by
 have hb := val_td b a.length
 have h2 := val_lt a ha
 have h3 : val (b.drop a.length) = 0 := by
  rcases Nat.eq_zero_or_pos (val (b.drop a.length)) with h4 | h4
  ·exact h4
  ·have := Nat.mul_le_mul_left (4294967296 ^ a.length) h4; omega
 rw [h3,Nat.mul_zero,Nat.add_zero] at hb
 rw [<- hb,List.take_length] at h
 have h1 := val_lt out hw
 rw [ho] at h1
 cases c with
 | zero => omega
 | succ c => rw [Nat.succ_mul] at h; omega
theorem ofInt_ok {z : Int} {k : Nat} (h : Lz k z) (hk : k <= maxL) : (ofInt z).ok := ⟨ws_ofNat _,Nat.le_trans h.len hk⟩
theorem ofInt_len {z : Int} {k : Nat} (h : Lz k z) : (ofInt z).mag.length <= k := h.len
theorem sign_sub (x y : Int) : (x - y).sign = cmp3 x y := by
 unfold cmp3
 have h := sign_cases (x - y)
 (repeat' split) <;> omega
end Go.Lw
namespace Go.Lw
open Go.Proofs
theorem c_r01_at (m : List Nat) (i : Nat) (hm : Ws m) : FnC Tryz.prog 271 [ws m, i64 i] (u64 (wordW m i)) := by
 refine gF0 Tryz.func271 ?_
 refine gl ?_
 refine gC (fun ht8 => ?_) (fun ht8 => ?_)
 ·simp [icmp] at ht8
  have := wordW_lt hm i
  refine gi (getw (i := i) ht8) ?_
  refine gv (u64_in (by omega)) ?_
  refine gE1 ?_
  rfl
 ·simp [icmp] at ht8
  refine gE1 ?_
  simp [u64,word_out ht8]
theorem c_r01_Valid (w : Wh) (h : w.ok) : FnC Tryz.prog 265 [w.av] (bl w.valid) := by
 have hl : w.mag.length <= maxL := h.2
 refine gF0 Tryz.func265 ?_
 refine gl ?_
 refine gC (fun ht6 => ?_) (fun ht6 => ?_)
 ·have h0 : w.mag = [] := by simpa [icmp] using ht6
  refine gE1 ?_
  simp [bl,Wh.valid,h0]
 ·have h0 : w.mag.length ≠ 0 := by simpa [icmp] using ht6
  refine gl ?_
  refine ga (i64_sub1 (by omega) (by omega)) ?_
  refine gi (getw (i := w.mag.length - 1) (by omega)) ?_
  refine gE1 ?_
  have h1 : w.mag ≠ [] := fun h => h0 (by rw [h]; rfl)
  simp only [bl,Wh.valid,if_neg h1,List.getLast?_eq_getElem?,word_get (show w.mag.length - 1 < w.mag.length by omega),icmp]
  congr 2
  generalize wordW w.mag _ = x
  rw [Bool.eq_iff_iff]; simp
theorem c_r01_mag (w : Wh) (h : w.ok) : FnC Tryz.prog 185 [w.av] (ws w.m) := by
 refine gF0 Tryz.func185 ?_
 refine gc (c_r01_Valid w h) ?_
 refine gC (fun ht5 => ?_) (fun ht5 => ?_)
 ·have h0 : w.valid = false := by simpa [icmp] using ht5
  refine gR ?_
  exact fin_sub1 (by rw [show w.m = [] by simp [Wh.m,h0]]; exact Sub.nil _ _ _)
 ·have h0 : w.valid = true := by simpa [icmp] using ht5
  refine gE1 ?_
  simp only [Wh.m,h0]; rfl
theorem c_r01_neg (w : Wh) (h : w.ok) : FnC Tryz.prog 186 [w.av] (bl w.n) := by
 refine gF0 Tryz.func186 ?_
 refine gc (c_r01_Valid w h) ?_
 refine gE1 ?_
 simp only [Wh.n,bl]; cases w.valid <;> rfl
theorem c_r01_trimO (d : Nat) (hd : Nat.blt d 1000 = true) (m : List Nat) (hm : Ws m) (hb : m.length <= big) :
  Con Tryz.prog 191 [ws m] [] (.ms d 1 0 (ofNat (val m)).length) [(d,some (.row 1 (m.map u32)))] := by
 have hb' := hb
 unfold big at hb
 refine gF Tryz.func191 (fun k z h => by cases h) ?_
 refine gs (s_buildMs0 T29 rfl T204 rfl rfl rfl) ?_
 refine gs (s_append (.tmp rfl) rfl rfl (.tmp rfl) T29 rfl T204 rfl rfl (by simp only [List.length_map]; omega) rfl rfl) ?_
 refine gL1 [] [6] (fun (n : Nat) => [(3,some (.ms 6 1 0 n))]) (fun _ => []) (fun n => n <= m.length /\ val (m.take n) = val m) (fun n => n) m.length ⟨Nat.le_refl _,by rw [List.take_length]⟩ ?_ (h1 := (.cons rfl (Sub.of (by rw [List.length_map,Nat.zero_add])) .nil))
 rintro n ⟨hn,hv⟩ K1 hK1
 refine gaG (fun h => (i64_sub1 (by simp [icmp] at h; omega) (by unfold maxL; omega))) ?_
 refine gs (s_guard rfl rfl rfl (fun h => s_idxMs0 (n := n - 1) (.opt rfl (o1 h)) (.opt rfl (o1 h)) T29 rfl T204 rfl (by omega) (by simp [icmp] at h; omega) rfl)) ?_
 refine gs (s_guard rfl rfl rfl (fun h => s_loadEptr (.opt rfl (o1 h)) rfl (getw (i := n - 1) (by simp [icmp] at h; omega)) T204 rfl rfl rfl)) ?_
 refine gC (fun ht18 => ?_) (fun ht18 => ?_)
 ·have ht18 : 0 < n /\ wordW m (n - 1) = 0 := by simpa [icmp] using ht18
  refine ga (i64_sub1 (by omega) (by unfold maxL; omega)) ?_
  refine gs (s_sliceMs (.tmp rfl) (.none _) (.some _ (.tmp rfl) (by omega)) T29 rfl T204 rfl (by omega) (by omega) rfl) ?_
  exact gK1 hK1 (n - 1) ⟨by omega,by have h := @val_take_word m (n - 1); rw [show n - 1 + 1 = n by omega,ht18.2] at h; simp at h; omega⟩ (hw := Wk.of (.cons rfl (Sub.of (by congr 1)) .nil) (.cons rfl (.refl _) .nil))
 ·have ht18 : 0 < n -> wordW m (n - 1) ≠ 0 := by simpa [icmp] using ht18
  have hn1 := trim_is hm hn hv (by rcases Nat.eq_zero_or_pos n with h | h; (exact .inl h); exact .inr (ht18 h))
  subst hn1
  refine gR ?_
  exact Fin.own1 rfl hd rfl
theorem c_r01_trim (m : List Nat) (hm : Ws m) (hb : m.length <= big) : FnC Tryz.prog 191 [ws m] (ws (ofNat (val m))) := by
 have h := Con.freeze (by rw [List.length_map,Nat.zero_add]; exact trim_len hm) (c_r01_trimO 0 rfl m hm hb)
 rwa [List.drop_zero,<- List.map_take,take_trim hm] at h
theorem c_r01_form (b : Bool) (m : List Nat) (hm : Ws m) (hb : m.length <= big) : FnC Tryz.prog 130 [bl b, ws m] (zA (sgn b (val m))) := by
 refine gF0 Tryz.func130 ?_
 refine gc (c_r01_trim m hm hb) ?_
 refine gl ?_
 refine gC (fun ht9 => ?_) (fun ht9 => ?_)
 ·have h0 : val m = 0 := by
   have := val_ofNat (val m)
   have h9 : ofNat (val m) = [] := List.length_eq_zero_iff.1 (by simpa [icmp] using ht9)
   rw [h9] at this
   exact this.symm
  refine gR ?_
  exact fin_sub1 (by rw [h0,show sgn b 0 = 0 by cases b <;> rfl]; exact sub_z0)
 ·have h0 : val m ≠ 0 := by
   intro h
   rw [h] at ht9
   cases ht9
  refine gE1 ?_
  rw [show zA (sgn b (val m)) = .agg [bl b, ws (ofNat (val m))] by
   unfold zA ofInt Wh.av
   rw [show (sgn b (val m)).natAbs = val m by unfold sgn; split <;> omega,show decide (sgn b (val m) < 0) = b by cases b <;> simp [sgn] <;> omega]]
theorem c_r01_compare (a b : List Nat) (ha : Ws a) (hb : Ws b) : FnC Tryz.prog 267 [ws a, ws b] (i64 (if val a < val b then -1 else if val b < val a then 1 else 0)) := by
  refine gF0 Tryz.func267 ?_ (0,0)
  refine gLen (t := 0) rfl (fun hla => ?_)
  refine gLen (t := 1) rfl (fun hlb => ?_)
  unfold maxL at hla hlb
  refine go ?_
  refine gl ?_
  refine gl ?_
  refine gs (s_max (.tmp rfl) (.tmp rfl) rfl) ?_
  refine ga (i64_subI (by omega)) ?_
  refine gL1 [0,1] [] (fun (n : Nat) => [(5,some (i64 ((n : Int) - 1)))]) (fun _ => []) (fun n => n <= 281474976710656 /\ val (a.drop n) = val (b.drop n)) (fun n => n) (max a.length b.length) ⟨by omega,by rw [List.drop_eq_nil_of_le (by omega),List.drop_eq_nil_of_le (by omega)]⟩ ?_ (h1 := (.cons rfl (Sub.int (by omega)) .nil))
  rintro n ⟨hn,hd⟩ K1 hK1
  refine gC (fun ht13 => ?_) (fun ht13 => ?_)
  · have hn0 : 1 <= n := by have := ht13; simp [icmp] at this; omega
    obtain ⟨k,rfl⟩ : ∃ k,n = k + 1 := ⟨n - 1,by omega⟩
    have hk : ((k + 1 : Nat) : Int) - 1 = (k : Int):=by omega
    rw [hk]
    refine gc (c_r01_at a k ha) ?_
    refine gc (c_r01_at b k hb) ?_
    refine gC (fun ht22 => ?_) (fun ht22 => ?_)
    · have h3 : wordW a k ≠ wordW b k := by simpa [icmp, Int.ofNat_inj] using ht22
      refine gc (c_r01_at a k ha) ?_
      refine gc (c_r01_at b k hb) ?_
      refine gC (fun ht29 => ?_) (fun ht29 => ?_)
      · have h4 : wordW a k < wordW b k := by simpa [icmp] using ht29
        have h5 := cmp_word ha hd h4
        refine gE1 ?_
        simp [i64,h5]
      · have h4 : wordW b k < wordW a k := by have : wordW b k <= wordW a k := by simpa [icmp] using ht29
                                              omega
        have h5 := cmp_word hb hd.symm h4
        refine gE1 ?_
        simp [i64,h5,Nat.lt_asymm h5]
    · have h3 : wordW a k = wordW b k := by simpa [icmp, Int.ofNat_inj] using ht22
      refine ga (i64_subI (by omega)) ?_
      exact gK1 hK1 k ⟨by omega,by rw [val_drops a,val_drops b,hd,h3]⟩
  · have hn0 : n = 0 := by have := ht13; simp [icmp] at this; omega
    subst hn0
    refine gE1 ?_
    simp at hd; simp [i64,hd]
end Go.Lw
namespace Go.Lw
open Go.Proofs
theorem c_r01_plus (a b : List Nat) (ha : Ws a) (hb : Ws b) (la : a.length < big) (lb : b.length < big) : FnC Tryz.prog 189 [ws a, ws b] (ws (ofNat (val a + val b))) := by
  unfold big at la lb
  obtain ⟨n,hn⟩ : ∃ n,n = max a.length b.length + 1 := ⟨_,rfl⟩
  refine gF0 Tryz.func189 ?_
  refine gl ?_
  refine gl ?_
  refine gs (s_max (.tmp rfl) (.tmp rfl) rfl) ?_
  refine ga (show _ = (n : Int) by rw [i64_addI (by omega)]; omega) ?_
  refine gW (Wk.virt 900 1 rfl) ?_
  refine gL3 [0,1,14] [] (fun (out : List Nat) (c i : Nat) => [(5,some (.ms 900 1 0 i)),(6,some (u64 c)),(15,some (i64 i))]) (fun out _ _ => [(900,some (.row 1 (out.map u32)))]) (fun out c i => out.length = i /\ i <= n /\ Ws out /\ c <= 1 /\ val out + c * 4294967296 ^ i = val (a.take i) + val (b.take i)) (fun _ _ i => n - i) ([]) 0 0 ⟨rfl,by omega,ws_nil,by omega,by simp [val]⟩ ?_
  rintro out c i ⟨ho,hi,hw,hc,hv⟩ K1 hK1
  refine gC (fun ht16 => ?_) (fun ht16 => ?_) (st2 := (9,0))
  · have hin : i < n := by simpa [icmp] using ht16
    have h1 := wordW_lt ha i
    have h2 := wordW_lt hb i
    obtain ⟨s,hs⟩ : ∃ s,s = c + (wordW a i + wordW b i) := ⟨_,rfl⟩
    have h3 := plus_step (u := wordW a i) (w := wordW b i) hv
    rw [<- hs] at h3
    refine gc (by apply c_r01_at <;> assumption) ?_
    refine gc (by apply c_r01_at <;> assumption) ?_
    refine ga (u64_add (by omega)) ?_
    refine ga ((u64_add (by omega)).trans (show _ = (s : Int) by congr 1; omega)) ?_
    refine gv (u32_wrap _) ?_
    refine gs (s_append (.tmp rfl) rfl (by rw [List.length_map,ho]) (.tmp rfl) T29 rfl T204 rfl rfl (by simp; omega) rfl rfl) ?_
    refine gs (s_shrW (.tmp rfl) (.const _) (by omega) (u64_shr _ 32 (by omega)) rfl) ?_ (8,0)
    refine gW (Wk.of (sl := [(0,some (ws a)),(1,some (ws b)),(5,some (.ms 31 1 0 (i + 1))),(6,some (u64 (s / 2 ^ 32))),(14,some (i64 n)),(15,some (i64 i))]) (hp := [(31,some (.row 1 ((out ++ [s % 4294967296]).map u32)))]) (by repeat (first | exact SlW.nil | refine SlW.k ?_)) (.cons rfl (BlkSub.of (by rw [List.map_append]; rfl)) .nil)) ?_ (8,0)
    refine gW (Wk.rekey (k := 31) (d := 900) rfl rfl) ?_
    refine ga (i64_addI (by omega)) ?_
    exact gK3 hK1 (out ++ [s % 4294967296]) (s / 2 ^ 32) (i + 1) ⟨by simp [ho],by omega,ws_app hw (ws_one (by omega)),by omega,by rw [plus_app ho,val_take_word,val_take_word,Nat.pow_succ]; exact h3⟩
  · have hin : i = n := by have : n <= i := by simpa [icmp] using ht16
                           omega
    refine gW ((Wk.freeze (k := 900) rfl).trans <| Wk.of (sl := [(5,some (ws out))]) (hp := []) (.cons rfl (Sub.of (fz_all (by simp [ho]))) .nil) .nil) ?_
    refine gc (c_r01_trim out hw (by unfold big; omega)) ?_
    refine gE1 ?_
    subst hin
    rw [plus_end ha hb hn ho (by rw [val_take_ge (l := out) (by omega)]; exact hv)]
theorem c_r01_minus (a b : List Nat) (ha : Ws a) (hb : Ws b) (la : a.length < big) (hle : val b <= val a) : FnC Tryz.prog 190 [ws a, ws b] (ws (ofNat (val a - val b))) := by
  unfold big at la
  obtain ⟨n,hn⟩ : ∃ n,n = a.length := ⟨_,rfl⟩
  refine gF0 Tryz.func190 ?_
  refine gl ?_
  refine gW (Wk.virt 900 1 rfl) ?_
  refine gL3 [0,1] [] (fun (out : List Nat) (c i : Nat) => [(5,some (.ms 900 1 0 i)),(6,some (u64 c)),(10,some (i64 n)),(11,some (i64 i))]) (fun out _ _ => [(900,some (.row 1 (out.map u32)))]) (fun out c i => out.length = i /\ i <= n /\ Ws out /\ c <= 1 /\ val out + val (b.take i) = val (a.take i) + c * 4294967296 ^ i) (fun _ _ i => n - i) ([]) 0 0 ⟨rfl,by omega,ws_nil,by omega,by simp [val]⟩ ?_ (h1 := (.k (.k (.cons rfl (Sub.int (by rw [hn])) (.k .nil)))))
  rintro out c i ⟨ho,hi,hw,hc,hv⟩ K1 hK1
  refine gC (fun ht12 => ?_) (fun ht12 => ?_) (st2 := (9,0))
  · have hin : i < n := by simpa [icmp] using ht12
    have h1 := wordW_lt ha i
    have h2 := wordW_lt hb i
    obtain ⟨s,hs⟩ : ∃ s,s = 4294967296 + wordW a i - wordW b i - c := ⟨_,rfl⟩
    have h3 := minus_step h1 h2 hc hv
    rw [<- hs] at h3
    refine gc (by apply c_r01_at <;> assumption) ?_
    refine ga ((u64_add (x := 4294967296) (by omega))) ?_
    refine gc (by apply c_r01_at <;> assumption) ?_
    refine ga ((u64_sub (by omega) (by omega)).trans (by rw [if_pos (by omega)])) ?_
    refine ga ((u64_sub (by omega) (by omega)).trans (show _ = (s : Int) by rw [if_pos (by omega)]; congr 1; omega)) ?_
    refine gv (u32_wrap _) ?_
    refine gs (s_append (.tmp rfl) rfl (by rw [List.length_map,ho]) (.tmp rfl) T29 rfl T204 rfl rfl (by simp; omega) rfl rfl) ?_
    refine gs (s_shrW (.tmp rfl) (.const _) (by omega) (u64_shr _ 32 (by omega)) rfl) ?_
    refine ga ((u64_sub (x := 1) (by omega) (by omega)).trans (by rw [if_pos (by omega)])) ?_ (8,0)
    refine gW (Wk.of (sl := [(0,some (ws a)),(1,some (ws b)),(5,some (.ms 28 1 0 (i + 1))),(6,some (u64 (1 - s / 2 ^ 32 : Nat))),(10,some (i64 n)),(11,some (i64 i))]) (hp := [(28,some (.row 1 ((out ++ [s % 4294967296]).map u32)))]) (by repeat (first | exact SlW.nil | refine SlW.k ?_)) (.cons rfl (BlkSub.of (by rw [List.map_append]; rfl)) .nil)) ?_ (8,0)
    refine gW (Wk.rekey (k := 28) (d := 900) rfl rfl) ?_
    refine ga (i64_addI (by omega)) ?_
    exact gK3 hK1 (out ++ [s % 4294967296]) (1 - s / 2 ^ 32) (i + 1) ⟨by simp [ho],by omega,ws_app hw (ws_one (by omega)),by omega,by rw [plus_app ho,val_take_word,val_take_word,Nat.pow_succ]; exact h3⟩
  · have hin : i = n := by have : n <= i := by simpa [icmp] using ht12
                           omega
    refine gW ((Wk.freeze (k := 900) rfl).trans <| Wk.of (sl := [(5,some (ws out))]) (hp := []) (.cons rfl (Sub.of (fz_all (by simp [ho]))) .nil) .nil) ?_
    refine gc (c_r01_trim out hw (by unfold big; omega)) ?_
    refine gE1 ?_
    subst hin
    subst hn
    rw [minus_end ha hw ho hle hv]
theorem c_r01_times (a b : List Nat) (ha : Ws a) (hb : Ws b) (la : a.length + b.length <= big) : FnC Tryz.prog 272 [ws a, ws b] (ws (ofNat (val a * val b))) := by
  have la' := la
  unfold big at la
  refine gF0 Tryz.func272 ?_
  refine gl ?_
  refine gl ?_
  refine ga (i64_addN (by unfold maxL; omega) (by unfold maxL; omega)) ?_
  refine gs (s_make (.tmp rfl) T29 rfl T204 rfl rfl (by omega) (by dsimp only; omega) rfl) ?_
  refine gl ?_
  refine gL2 [0,1,17] [] (fun (out : List Nat) (i : Nat) => [(5,some (.ms 15 1 0 (a.length + b.length))),(18,some (i64 i))]) (fun out _ => [(15,some (.row 1 (out.map u32)))]) (fun out i => out.length = a.length + b.length /\ i <= a.length /\ Ws out /\ val (out.take (i + b.length)) = val (a.take i) * val b) (fun _ i => a.length - i) (List.replicate (a.length + b.length) 0) 0 ⟨by simp,by omega,ws_rep _,by simp [val,val_zeros]⟩ ?_ (h2 := (.cons rfl (BlkSub.of (by rw [List.map_replicate]; rfl)) .nil))
  rintro out i ⟨ho,hi,hw,hv⟩ K1 hK1
  refine gC (fun ht19 => ?_) (fun ht19 => ?_) (st2 := (14,0))
  · have hin : i < a.length := by simpa [icmp] using ht19
    have h1 := wordW_lt ha i
    refine gl ?_
    refine gL3 [0,1,17,18,6,22] [] (fun (o : List Nat) (c k : Nat) => [(5,some (.ms 15 1 0 (a.length + b.length))),(7,some (u64 c)),(23,some (i64 k))]) (fun o _ _ => [(15,some (.row 1 (o.map u32)))]) (fun o c k => o.length = a.length + b.length /\ k <= b.length /\ Ws o /\ c < 4294967296 /\ val (o.take (i + b.length)) + c * 4294967296 ^ (i + k) = val (out.take (i + b.length)) + 4294967296 ^ i * (wordW a i * val (b.take k))) (fun _ _ k => b.length - k) out 0 0 ⟨ho,by omega,hw,by omega,by simp [val]⟩ ?_
    rintro o c k ⟨ho2,hk,hw2,hc,hv2⟩ K2 hK2
    refine gC (fun ht24 => ?_) (fun ht24 => ?_)
    · have hkn : k < b.length := by simpa [icmp] using ht24
      have h2 := wordW_lt hb k
      have h3 := wordW_lt hw2 (i + k)
      have h4 := mul_word h1 h2
      obtain ⟨s,hs⟩ : ∃ s,s = c + (wordW a i * wordW b k + wordW o (i + k)) := ⟨_,rfl⟩
      have h5 := val_set_in (x := s % 4294967296) (show i + k < o.length by omega) (show i + k < i + b.length by omega)
      have h6 := times_in h5 hs hv2
      refine gi (getz (n := i) (by omega) (by first | omega | (simp; omega))) ?_
      refine gv (u64_in (by omega)) ?_
      refine gi (getz (n := k) (by omega) (by first | omega | (simp; omega))) ?_
      refine gv (u64_in (by omega)) ?_
      refine ga (u64_mul (by omega)) ?_
      refine ga (i64_addN (by unfold maxL; omega) (by unfold maxL; omega)) ?_
      refine gs (s_idxMs0 (n := i + k) (.tmp rfl) (.tmp rfl) T29 rfl T204 rfl (by omega) (by first | omega | (simp; omega)) rfl) ?_
      refine gs (s_loadEptr (.tmp rfl) rfl (getw (i := i + k) (by omega)) T204 rfl rfl rfl) ?_
      refine gv (u64_in (by omega)) ?_
      refine ga (u64_add (by omega)) ?_
      refine ga ((u64_add (by omega)).trans (show _ = (s : Int) by congr 1; omega)) ?_
      refine gD ?_
      refine ga (i64_addN (by unfold maxL; omega) (by unfold maxL; omega)) ?_
      refine gv (u32_wrap _) ?_
      refine gs (s_shrW (.tmp rfl) (.const _) (by omega) (u64_shr _ 32 (by omega)) rfl) ?_
      refine gs (s_idxMs0 (n := i + k) (.tmp rfl) (.tmp rfl) T29 rfl T204 rfl (by omega) (by first | omega | (simp; omega)) rfl) ?_
      refine gs (s_stElem (.tmp rfl) rfl (getw (i := i + k) (by omega)) rfl (.tmp rfl) rfl rfl T204 rfl rfl) ?_
      refine ga (i64_addI (by omega)) ?_
      exact gK3 hK2 (o.set (i + k) (s % 4294967296)) (s / 2 ^ 32) (k + 1) ⟨by simp [ho2],by omega,ws_set hw2 (by omega),by omega,by rw [show i + (k + 1) = (i + k) + 1 from rfl,show s / 2 ^ 32 = s / 4294967296 from rfl,Nat.pow_succ,h6,val_take_word]; simp only [Nat.pow_add]; grind⟩ (hw := Wk.of (by repeat (first | exact SlW.nil | refine SlW.k ?_)) (.cons rfl (BlkSub.of (by rw [List.map_set]; rfl)) .nil))
    · have hkn : k = b.length := by have : b.length <= k := by simpa [icmp] using ht24
                                    omega
      subst hkn
      have h5 := val_set_take (x := c) (show i + b.length < o.length by omega)
      rw [List.take_length] at hv2
      refine gl ?_
      refine ga (i64_addN (by unfold maxL; omega) (by unfold maxL; omega)) ?_
      refine gv ((u32_wrap c).trans (by rw [Nat.mod_eq_of_lt hc])) ?_
      refine gs (s_idxMs0 (n := i + b.length) (.tmp rfl) (.tmp rfl) T29 rfl T204 rfl (by omega) (by first | omega | (simp; omega)) rfl) ?_
      refine gs (s_stElem (.tmp rfl) rfl (getw (i := i + b.length) (by omega)) rfl (.tmp rfl) rfl rfl T204 rfl rfl) ?_
      refine ga (i64_addI (by omega)) ?_
      exact gK2 hK1 (o.set (i + b.length) c) (i + 1) ⟨by simp [ho2],by omega,ws_set hw2 hc,by rw [show i + 1 + b.length = i + b.length + 1 by omega,h5,val_take_word]; simp only [Nat.pow_add] at *; grind⟩ (hw := Wk.of (by repeat (first | exact SlW.nil | refine SlW.k ?_)) (.cons rfl (BlkSub.of (by rw [List.map_set]; rfl)) .nil))
  · have hin : i = a.length := by have : a.length <= i := by simpa [icmp] using ht19
                                  omega
    subst hin
    rw [List.take_length,val_take_ge (by omega)] at hv
    refine gW ((Wk.freeze (k := 15) rfl).trans <| Wk.of (sl := [(5,some (ws out))]) (hp := []) (.cons rfl (Sub.of (fz_all (by simp [ho]))) .nil) .nil) ?_
    refine gc (c_r01_trim out hw (by omega)) ?_
    refine gE1 ?_
    rw [hv]
end Go.Lw
namespace Go.Lw
open Go.Proofs
theorem c_r01_Sign (a : Wh) (ha : a.ok) : FnC Tryz.prog 126 [a.av] (i64 a.z.sign) := by
 obtain ⟨e1,e2,e3⟩ := sign_end ha
 refine gF0 Tryz.func126 ?_
 refine gc (c_r01_mag a ha) ?_
 refine gl ?_
 refine gC (fun ht6 => ?_) (fun ht6 => ?_)
 ·have h0 : a.m.length = 0 := by simpa [icmp] using ht6
  refine gE1 ?_
  rw [e1 h0]; rfl
 ·have h0 : a.m.length ≠ 0 := by simpa [icmp] using ht6
  have hval : a.valid = true := by
   unfold Wh.m at h0
   split at h0
   ·assumption
   ·exact absurd rfl h0
  refine gc (c_r01_neg a ha) ?_
  refine gC (fun ht8 => ?_) (fun ht8 => ?_)
  ·have h1 : a.neg = true := by unfold Wh.n at ht8; rw [hval] at ht8; simpa using ht8
   refine gE1 ?_
   rw [e2 h0 h1]; rfl
  ·have h1 : a.neg = false := by unfold Wh.n at ht8; rw [hval] at ht8; simpa using ht8
   refine gE1 ?_
   rw [e3 h0 h1]; rfl
theorem c_r01_Neg (a : Wh) (ha : a.ok) (la : a.mag.length < big) : FnC Tryz.prog 127 [a.av] (zA (-a.z)) := by
 refine gF0 Tryz.func127 ?_
 refine gc (c_r01_neg a ha) ?_
 refine gc (c_r01_mag a ha) ?_
 refine gc (c_r01_form _ a.m (Wh.ws ha) (Nat.le_of_lt (Wh.small ha la))) ?_
 refine gD ?_
 refine gE1 ?_
 rw [Wh.z_eq,<- sgn_neg]; rfl
theorem c_r01_Mul (a b : Wh) (ha : a.ok) (hb : b.ok) (la : a.mag.length + b.mag.length <= big) : FnC Tryz.prog 194 [a.av, b.av] (zA (a.z * b.z)) := by
 have h1 := Wh.m_le (w := a)
 have h2 := Wh.m_le (w := b)
 have h3 : (ofNat (val a.m * val b.m)).length <= a.m.length + b.m.length := ofNat_length_le (by rw [Nat.pow_add]; exact Nat.mul_lt_mul'' (val_lt _ (Wh.ws ha)) (val_lt _ (Wh.ws hb)))
 refine gF0 Tryz.func194 ?_
 refine gc (c_r01_neg a ha) ?_
 refine gc (c_r01_neg b hb) ?_
 refine gc (c_r01_mag a ha) ?_
 refine gc (c_r01_mag b hb) ?_
 refine gc (c_r01_times a.m b.m (Wh.ws ha) (Wh.ws hb) (by omega)) ?_
 refine gc (c_r01_form _ _ (ws_ofNat _) (by omega)) ?_
 refine gD ?_
 refine gE1 ?_
 rw [val_ofNat,mul_sgn]; rfl
theorem c_r01_Add (a b : Wh) (ha : a.ok) (hb : b.ok) (la : a.mag.length < big) (lb : b.mag.length < big) : FnC Tryz.prog 193 [a.av, b.av] (zA (a.z + b.z)) := by
 have h1 := Wh.m_le (w := a)
 have h2 := Wh.m_le (w := b)
 have hla : val a.m < 4294967296 ^ (max a.m.length b.m.length) := Nat.lt_of_lt_of_le (val_lt _ (Wh.ws ha)) (Nat.pow_le_pow_right (by omega) (by omega))
 have hlb : val b.m < 4294967296 ^ (max a.m.length b.m.length) := Nat.lt_of_lt_of_le (val_lt _ (Wh.ws hb)) (Nat.pow_le_pow_right (by omega) (by omega))
 have h3 : (ofNat (val a.m + val b.m)).length <= max a.m.length b.m.length + 1 := ofNat_length_le (by rw [Nat.pow_succ]; omega)
 have h4 : (ofNat (val a.m - val b.m)).length <= max a.m.length b.m.length := ofNat_length_le (by omega)
 have h5 : (ofNat (val b.m - val a.m)).length <= max a.m.length b.m.length := ofNat_length_le (by omega)
 refine gF0 Tryz.func193 ?_
 refine gc (c_r01_mag a ha) ?_
 refine gc (c_r01_mag b hb) ?_
 refine gD ?_
 refine gc (c_r01_neg a ha) ?_
 refine gc (c_r01_neg b hb) ?_
 refine gD ?_
 refine gC (fun ht15 => ?_) (fun ht15 => ?_)
 ·have h0 : a.n = b.n := by simpa using ht15
  refine gc (c_r01_neg a ha) ?_
  refine gc (c_r01_plus a.m b.m (Wh.ws ha) (Wh.ws hb) (by omega) (by omega)) ?_
  refine gc (c_r01_form _ _ (ws_ofNat _) (by omega)) ?_
  refine gE1 ?_
  rw [val_ofNat,add_same h0]; rfl
 ·have h0 : a.n ≠ b.n := by simpa using ht15
  refine gc (c_r01_compare a.m b.m (Wh.ws ha) (Wh.ws hb)) ?_
  refine gC (fun ht25 => ?_) (fun ht25 => ?_)
  ·have h6 : val b.m <= val a.m := by
    rcases Nat.lt_or_ge (val a.m) (val b.m) with h | h
    ·rw [if_pos h] at ht25; cases ht25
    ·exact h
   refine gc (c_r01_neg a ha) ?_
   refine gc (c_r01_minus a.m b.m (Wh.ws ha) (Wh.ws hb) (by omega) (by omega)) ?_
   refine gc (c_r01_form _ _ (ws_ofNat _) (by omega)) ?_
   refine gE1 ?_
   rw [val_ofNat,add_left h0 h6]; rfl
  ·have h6 : val a.m < val b.m := by
    rcases Nat.lt_or_ge (val a.m) (val b.m) with h | h
    ·exact h
    ·rw [if_neg (by omega)] at ht25; split at ht25 <;> cases ht25
   refine gc (c_r01_neg b hb) ?_
   refine gc (c_r01_minus b.m a.m (Wh.ws hb) (Wh.ws ha) (by omega) (by omega)) ?_
   refine gc (c_r01_form _ _ (ws_ofNat _) (by omega)) ?_
   refine gE1 ?_
   rw [val_ofNat,add_right h0 (by omega)]; rfl
theorem c_r01_Of (n : Int) (h : -9223372036854775808 <= n /\ n <= 9223372036854775807) : FnC Tryz.prog 68 [i64 n] (zA n) := by
 obtain ⟨N,hN⟩ : ∃ N,N = n.natAbs := ⟨_,rfl⟩
 have hNB : N < 18446744073709551616:=by omega
 refine gF0 Tryz.func68 ?_
 refine gv (show IntKind.u64.wrap n = ((n % 18446744073709551616 : Int)) by simp only [IntKind.wrap,IntKind.signed,IntKind.bits,Bool.false_and,if_false,Bool.false_eq_true]; omega) ?_
 refine gC (fun ht7 => ?_) (fun ht7 => ?_) (st2 := (77777,0))
 ·have hn : n < 0 := by simpa [icmp] using ht7
  refine gs (s_neg (.tmp rfl) rfl) ?_ (4,0)
  refine gW (Wk.of (sl := [(0,some (i64 n)),(2,some (.ptr 2 0)),(3,some (u64 N))]) (hp := [(2,some (.box [.v (.bool false),.v (.slice none 0 0)]))]) (.k (.k (.cons rfl (Sub.int (by simp only [IntKind.wrap,IntKind.signed,IntKind.bits,Bool.false_and,if_false,Bool.false_eq_true]; omega)) .nil))) (.cons rfl (.refl _) .nil)) ?_
  refine gv (u32_wrap _) ?_
  refine gs (s_shrW (.tmp rfl) (.const _) (by omega) (u64_shr _ 32 (by omega)) rfl) ?_
  refine gv ((u32_wrap _).trans (by rw [Nat.mod_eq_of_lt (show N / 2 ^ 32 < 4294967296 by omega)])) ?_
  refine gc (c_r01_form (icmp .lss n 0) [N % 4294967296,N / 2 ^ 32] (of_ws hNB) (by unfold big; simp)) ?_
  refine gE1 ?_
  rw [of_val hNB,show sgn (icmp .lss n 0) N = n by simp only [sgn,icmp,decide_eq_true_eq]; split <;> omega]; rfl
 ·have hn : ¬ n < 0 := by simpa [icmp] using ht7
  refine gW (Wk.of (sl := [(0,some (i64 n)),(2,some (.ptr 2 0)),(3,some (u64 N))]) (hp := [(2,some (.box [.v (.bool false),.v (.slice none 0 0)]))]) (.k (.k (.cons rfl (Sub.int (by omega)) .nil))) (.cons rfl (.refl _) .nil)) ?_
  refine gv (u32_wrap _) ?_
  refine gs (s_shrW (.tmp rfl) (.const _) (by omega) (u64_shr _ 32 (by omega)) rfl) ?_
  refine gv ((u32_wrap _).trans (by rw [Nat.mod_eq_of_lt (show N / 2 ^ 32 < 4294967296 by omega)])) ?_
  refine gc (c_r01_form (icmp .lss n 0) [N % 4294967296,N / 2 ^ 32] (of_ws hNB) (by unfold big; simp)) ?_
  refine gE1 ?_
  rw [of_val hNB,show sgn (icmp .lss n 0) N = n by simp only [sgn,icmp,decide_eq_true_eq]; split <;> omega]; rfl
theorem c_r01_Sub (a b : Wh) (ha : a.ok) (hb : b.ok) (la : a.mag.length < big) (lb : b.mag.length < big) : FnC Tryz.prog 281 [a.av, b.av] (zA (a.z - b.z)) := by
 have h1 := (Wh.lz hb).neg
 have h2 := ofInt_len h1
 refine gF0 Tryz.func281 ?_
 refine gc (c_r01_Neg b hb lb) ?_
 refine gc (c_r01_Add a (ofInt (-b.z)) ha (ofInt_ok h1 hb.2) la (by omega)) ?_
 refine gD ?_
 refine gE1 ?_
 rw [ofInt_z,<- Int.sub_eq_add_neg]; rfl
theorem c_r01_Cmp (a b : Wh) (ha : a.ok) (hb : b.ok) (la : a.mag.length < big) (lb : b.mag.length < big) : FnC Tryz.prog 206 [a.av, b.av] (i64 (cmp3 a.z b.z)) := by
 have h1 := (Wh.lz ha).sub (Wh.lz hb)
 have h2 := ofInt_len h1
 refine gF0 Tryz.func206 ?_
 refine gc (c_r01_Sub a b ha hb la lb) ?_
 refine gc (c_r01_Sign (ofInt (a.z - b.z)) (ofInt_ok h1 (by unfold maxL; unfold big at la lb; omega))) ?_
 refine gE1 ?_
 rw [ofInt_z,sign_sub]
end Go.Lw
namespace Go.Lw
theorem lst_take {A : List Nat} {n : Nat} : AV.lst 1 (((A.map u32).drop 0).take n) = ws (A.take n) := by
 rw [List.drop_zero,<- List.map_take]; rfl
theorem sc_row (A : List Nat) : (Blk.row 1 (A.map u32)).sc = true := by
 simp only [Blk.sc,List.all_map]
 rw [List.all_eq_true]
 intro x _
 rfl
theorem wordW_take {A : List Nat} {n i : Nat} (h : i < n) : wordW (A.take n) i = wordW A i := by
 simp [wordW,List.getElem?_take,h]
theorem wordW_take_ge {A : List Nat} {n i : Nat} (h : n <= i) : wordW (A.take n) i = 0 := word_out (by simp; omega)
theorem blen_half {x : Nat} (h : 0 < x) : blen x = blen (x / 2) + 1 := by
 rcases Nat.lt_or_ge x 2 with h1 | h1
 ·have : x = 1 := by omega
  subst this; decide
 ·have := blen_shr (x := x) (k := 1) (by omega)
  rw [show x / 2 ^ 1 = x / 2 from rfl] at this
  omega
theorem blen_val {a : List Nat} {n : Nat} (ha : Ws a) (na : Nz a) (hl : a.length = n + 1) : blen (val a) = 32 * n + blen (wordW a n) := by
 have ht : wordW a n ≠ 0 := by
  refine na _ ?_
  rw [List.getLast?_eq_getElem?,hl]
  exact word_get (by omega)
 have hv : val a = val (a.take n) + 4294967296 ^ n * wordW a n:=by rw [<- val_take_word,val_take_ge (by omega)]
 have hlt := val_take_lt ha n
 have hp : (4294967296 : Nat) ^ n = 2 ^ (32 * n):=by rw [Nat.pow_mul]
 rw [hp] at hv hlt
 have h1 : val a / 2 ^ (32 * n) = wordW a n := by
  rw [hv,Nat.add_mul_div_left _ _ (Nat.pow_pos (by omega)),Nat.div_eq_of_lt hlt,Nat.zero_add]
 have h2 : 2 ^ (32 * n) <= val a := by
  have := Nat.mul_le_mul_left (2 ^ (32 * n)) (show 1 <= wordW a n by omega)
  omega
 rw [blen_shr h2,h1]
theorem wr0 {o A : List Nat} {n v : Nat} (ho : Ws o) (hl : o.length = A.length) (hn : n <= A.length) (hd : o.drop n = A.drop n) (hv : val (o.take n) = v) : o = wr A 0 (fixw n v) := by
 have h1 : win o 0 n = fixw n v := fixw_of (ws_win ho _ _) (len_win (by omega)) (by rw [win,List.drop_zero,hv])
 rw [<- h1]
 exact wr_of (by simp) (by rw [Nat.zero_add]; exact hd) (by omega)
end Go.Lw
namespace Go.Lw
open Go.Proofs
theorem c_r01_atO (k : Nat) (A : List Nat) (n i : Nat) (hA : Ws A) (hn : n <= A.length) :
  Con Tryz.prog 271 [.ms k 1 0 n,i64 i] [(k,some (.row 1 (A.map u32)))] (u64 (wordW (A.take n) i)) [(k,some (.row 1 (A.map u32)))] := by
 refine Con.borrow (args := [ws (A.take n),i64 i]) k 1 (A.map u32) rfl rfl rfl ?_ rfl (fun k' x h => by cases h) (c_r01_at (A.take n) i (ws_take hA n))
 intro j x' hj
 match j,hj with
 | 0,hj => cases hj; exact .inr ⟨0,n,rfl,by simpa using hn,by rw [lst_take]; rfl⟩
 | 1,hj => cases hj; exact .inl rfl
theorem c_r01_compareO (k1 k2 : Nat) (hk : k1 ≠ k2) (A D : List Nat) (n p : Nat) (hA : Ws A) (hD : Ws D) (hn : n <= A.length) (hp : p <= D.length) :
  Con Tryz.prog 267 [.ms k1 1 0 n, .ms k2 1 0 p] [(k1, some (.row 1 (A.map u32))), (k2, some (.row 1 (D.map u32)))]
   (i64 (if val (A.take n) < val (D.take p) then -1 else if val (D.take p) < val (A.take n) then 1 else 0)) [(k1,some (.row 1 (A.map u32))),(k2,some (.row 1 (D.map u32)))] := by
 have h1 : Con Tryz.prog 267 [ws (A.take n), .ms k2 1 0 p] [(k2, some (.row 1 (D.map u32)))]
   (i64 (if val (A.take n) < val (D.take p) then -1 else if val (D.take p) < val (A.take n) then 1 else 0)) [(k2,some (.row 1 (D.map u32)))] := by
  refine Con.borrow (args := [ws (A.take n),ws (D.take p)]) k2 1 (D.map u32) rfl rfl rfl ?_ rfl (fun k' x h => by cases h) (c_r01_compare (A.take n) (D.take p) (ws_take hA n) (ws_take hD p))
  intro j x' hj
  match j,hj with
  | 0,hj => cases hj; exact .inl rfl
  | 1,hj => cases hj; exact .inr ⟨0,p,rfl,by simpa using hp,by rw [lst_take]; rfl⟩
 refine Con.borrow (args := [ws (A.take n),.ms k2 1 0 p]) k1 1 (A.map u32) ?_ ?_ rfl ?_ rfl ?_ h1
 ·rw [lk_cons,if_neg hk]; rfl
 ·rw [lk_cons,if_neg hk]; rfl
 ·intro j x' hj
  match j,hj with
  | 0,hj => cases hj; exact .inr ⟨0,n,rfl,by simpa using hn,by rw [lst_take]; rfl⟩
  | 1,hj => cases hj; exact .inl rfl
 ·intro k' x h
  obtain ⟨_,h⟩ := lk_one h
  cases h; exact sc_row D
theorem c_r01_compareA (k : Nat) (A b : List Nat) (n : Nat) (hA : Ws A) (hb : Ws b) (hn : n <= A.length) :
  Con Tryz.prog 267 [.ms k 1 0 n, ws b] [(k, some (.row 1 (A.map u32)))]
   (i64 (if val (A.take n) < val b then -1 else if val b < val (A.take n) then 1 else 0)) [(k,some (.row 1 (A.map u32)))] := by
 refine Con.borrow (args := [ws (A.take n),ws b]) k 1 (A.map u32) rfl rfl rfl ?_ rfl (fun k' x h => by cases h) (c_r01_compare (A.take n) b (ws_take hA n) hb)
 intro j x' hj
 match j,hj with
 | 0,hj => cases hj; exact .inr ⟨0,n,rfl,by simpa using hn,by rw [lst_take]; rfl⟩
 | 1,hj => cases hj; exact .inl rfl
theorem c_r01_bits (a : List Nat) (ha : Ws a) (na : Nz a) (la : a.length <= big) : FnC Tryz.prog 270 [ws a] (i64 (blen (val a))) := by
  unfold big at la
  refine gF0 Tryz.func270 ?_
  refine gl ?_
  refine gC (fun ht7 => ?_) (fun ht7 => ?_)
  · have h0 : a = [] := List.length_eq_zero_iff.1 (by simpa [icmp] using ht7)
    refine gE1 ?_
    subst h0; rfl
  · have h0 : a.length ≠ 0 := by simpa [icmp] using ht7
    obtain ⟨n,hn⟩ : ∃ n,a.length = n + 1 := ⟨a.length - 1,by omega⟩
    have hB := blen_val ha na hn
    have ht := wordW_lt ha n
    refine gl ?_
    refine ga (show _ = (n : Int) by rw [i64_subI (by omega)]; omega) ?_
    refine ga (show _ = ((32 * n : Nat) : Int) by rw [i64_mulI (by omega)]; omega) ?_
    refine gl ?_
    refine ga (show _ = (n : Int) by rw [i64_subI (by omega)]; omega) ?_
    refine gi (getz (n := n) (by omega) (by first | omega | (simp; omega))) ?_
    refine gL2 [] [] (fun (x c : Nat) => [(3,some (i64 c)),(4,some (u32 x))]) (fun _ _ => []) (fun x c => x < 4294967296 /\ c <= 281474976710656 /\ c + blen x = blen (val a)) (fun x _ => x) (wordW a n) (32 * n) ⟨ht,by omega,hB.symm⟩ ?_
    rintro x c ⟨hx,hc,hv⟩ K1 hK1
    refine gC (fun ht19 => ?_) (fun ht19 => ?_)
    · have hx0 : 0 < x := by simpa [icmp] using ht19
      have h2 := blen_half hx0
      have h3 : blen (val a) <= 32 * n + 32 := by
        have := (lead_le (x := wordW a n)  (by
          refine na _ ?_
          rw [List.getLast?_eq_getElem?,hn]
          exact word_get (by omega)) ht).1
        omega
      refine ga (show _ = ((c + 1 : Nat) : Int) by rw [i64_addI (by omega)]; omega) ?_
      refine gs (s_shrW (.tmp rfl) (.const _) (by omega) (u32_shr x 1 (by omega)) rfl) ?_
      exact gK2 hK1 (x / 2 ^ 1) (c + 1) ⟨by omega,by omega,by rw [show x / 2 ^ 1 = x / 2 from rfl]; omega⟩
    · have hx0 : x = 0 := by have : x <= 0 := by simpa [icmp] using ht19
                             omega
      subst hx0
      refine gE1 ?_
      rw [<- hv]; rfl
theorem c_r01_cut (A : List Nat) (n : Nat) (hA : Ws A) (hn : n <= A.length) (la : A.length <= big) :
  Con Tryz.prog 269 [.ms 1000 1 0 n] [(1000,some (.row 1 (A.map u32)))] (.ms 1000 1 0 (ofNat (val (A.take n))).length) [(1000,some (.row 1 (A.map u32)))] := by
 unfold big at la
 refine gF Tryz.func269 (fun k z h => lk1000 h) ?_
 refine gL1 [] [1000] (fun (j : Nat) => [(0,some (.ms 1000 1 0 j))]) (fun _ => []) (fun j => j <= n /\ val (A.take j) = val (A.take n)) (fun j => j) n ⟨Nat.le_refl _,rfl⟩ ?_
 rintro j ⟨hj,hv⟩ K1 hK1
 refine gaG (fun h => (i64_sub1 (by simp [icmp] at h; omega) (by unfold maxL; omega))) ?_
 refine gs (s_guard rfl rfl rfl (fun h => s_idxMs0 (n := j - 1) (.opt rfl (o1 h)) (.opt rfl (o1 h)) T29 rfl T204 rfl (by omega) (by simp [icmp] at h; omega) rfl)) ?_
 refine gs (s_guard rfl rfl rfl (fun h => s_loadEptr (.opt rfl (o1 h)) rfl (getw (i := j - 1) (by simp [icmp] at h; omega)) T204 rfl rfl rfl)) ?_
 refine gC (fun ht14 => ?_) (fun ht14 => ?_)
 ·have ht14 : 0 < j /\ wordW A (j - 1) = 0 := by simpa [icmp] using ht14
  refine ga (i64_sub1 (by omega) (by unfold maxL; omega)) ?_
  refine gs (s_sliceMs (.tmp rfl) (.none _) (.some _ (.tmp rfl) (by omega)) T29 rfl T204 rfl (by omega) (by omega) rfl) ?_
  exact gK1 hK1 (j - 1) ⟨by omega,by have h := @val_take_word A (j - 1); rw [show j - 1 + 1 = j by omega,ht14.2] at h; simp at h; omega⟩ (hw := Wk.of (.cons rfl (Sub.of (by congr 1)) .nil) (.cons rfl (.refl _) .nil))
 ·have ht14 : 0 < j -> wordW A (j - 1) ≠ 0 := by simpa [icmp] using ht14
  have hn1 := trim_is (m := A.take n) (n := j) (ws_take hA n) (by simp; omega) (by rw [List.take_take, Nat.min_eq_left hj]; exact hv) (by
   rcases Nat.eq_zero_or_pos j with h | h
   ·exact .inl h
   ·exact .inr (by rw [wordW_take (by omega)]; exact ht14 h))
  subst hn1
  refine gR ?_
  exact Fin.own2 rfl rfl rfl
theorem c_r01_halve (A : List Nat) (n : Nat) (hA : Ws A) (hn : n <= A.length) (la : A.length <= big) :
    Con Tryz.prog 266 [.ms 1000 1 0 n] [(1000,some (.row 1 (A.map u32)))] (.ms 1000 1 0 (ofNat (val (A.take n) / 2)).length) [(1000,some (.row 1 ((wr A 0 (fixw n (val (A.take n) / 2))).map u32)))] := by
  have la' := la
  unfold big at la
  refine gF Tryz.func266 (fun k z h => lk1000 h) ?_
  refine gL2 [5] [] (fun (o : List Nat) (i : Nat) => [(0,some (.ms 1000 1 0 n)),(6,some (i64 i))]) (fun o _ => [(1000,some (.row 1 (o.map u32)))]) (fun o i => o.length = A.length /\ i <= n /\ Ws o /\ o.drop i = A.drop i /\ val (o.take i) = val (A.take n) / 2 ^ 1 % 4294967296 ^ i) (fun _ i => n - i) A 0 ⟨rfl,by omega,hA,rfl,by simp [val,Nat.mod_one]⟩ ?_
  rintro o i ⟨ho,hi,hw,hd,hv⟩ K1 hK1
  refine gC (fun ht7 => ?_) (fun ht7 => ?_)
  · have hin : i < n := by simpa [icmp] using ht7
    have e1 : wordW (o.take n) i = wordW (A.take n) i:=by rw [wordW_take hin,wordW_take hin]; exact word_of_drop hd
    have hd2 : o.drop (i + 1) = A.drop (i + 1) := by
      have h1 : (o.drop i).drop 1 = (A.drop i).drop 1:=by rw [hd]
      rwa [List.drop_drop,List.drop_drop] at h1
    have e2 : wordW (o.take n) (i + 1) = wordW (A.take n) (i + 1) := by
      rcases Nat.lt_or_ge (i + 1) n with h | h
      · rw [wordW_take h,wordW_take h]; exact word_of_drop hd2
      · rw [wordW_take_ge h,wordW_take_ge h]
    have b1 := wordW_lt (ws_take hA n) i
    have b2 := wordW_lt (ws_take hA n) (i + 1)
    have h3 := down_step (n := 1) (ws_take hA n) (show i < (A.take n).length by simp; omega) (show i < o.length by omega) (by omega) hv
    refine gt (s_callH (c_r01_atO 1000 o n i hw (by omega)) (.cons (.tmp rfl) (.cons (.tmp rfl) .nil)) (by first | exact hH0 | exact hH1 rfl | exact hH2 rfl rfl) rfl rfl) ?_
    refine gs (s_shrW (.tmp rfl) (.const _) (by omega) ((u64_shr _ 1 (by omega)).trans (by rw [e1])) rfl) ?_
    refine ga (i64_addN (y := 1) (by unfold maxL; omega) (by unfold maxL; omega)) ?_
    refine gt (s_callH (c_r01_atO 1000 o n (i + 1) hw (by omega)) (.cons (.tmp rfl) (.cons (.tmp rfl) .nil)) (by first | exact hH0 | exact hH1 rfl | exact hH2 rfl rfl) rfl rfl) ?_
    refine gs (s_shlW (.tmp rfl) (.const _) (by omega) ((u64_shl (n := 31) (by omega) (by omega)).trans (by rw [e2])) rfl) ?_
    refine gs (s_bitsW (.tmp rfl) (.tmp rfl) rfl ((ibits_or64 (by omega) (by omega)).trans (by rw [or_add' (by omega)])) rfl) ?_
    refine gv ((u32_wrap _).trans (show _ = (((wordW (A.take n) i + wordW (A.take n) (i + 1) * 2 ^ 32) / 2 ^ 1 % 4294967296 : Nat) : Int) by congr 1; omega)) ?_
    refine gs (s_idxMs0 (n := i) (.tmp rfl) (.tmp rfl) T29 rfl T204 rfl (by omega) (by first | omega | (simp; omega)) rfl) ?_
    refine gs (s_stElem (.tmp rfl) rfl (getw (i := i) (by omega)) rfl (.tmp rfl) rfl rfl T204 rfl rfl) ?_
    refine ga (i64_addI (by omega)) ?_
    exact gK2 hK1 (o.set i ((wordW (A.take n) i + wordW (A.take n) (i + 1) * 2 ^ 32) / 2 ^ 1 % 4294967296)) (i + 1) ⟨by simp [ho],by omega,ws_set hw (by omega),drop_set_next hd,h3⟩ (hw := Wk.of (by repeat (first | exact SlW.nil | refine SlW.k ?_)) (.cons rfl (BlkSub.of (by rw [List.map_set]; rfl)) .nil))
  · have hin : i = n := by have : n <= i := by simpa [icmp] using ht7
                           omega
    subst hin
    have hlt := val_take_lt hA i
    have hv' : val (o.take i) = val (A.take i) / 2:=by rw [hv,Nat.mod_eq_of_lt (by omega)]
    have h9 := wr0 hw ho hn hd hv'
    refine gt (s_callH (c_r01_cut o i hw (by omega) (by omega)) (.cons (.tmp rfl) .nil) (by first | exact hH0 | exact hH1 rfl | exact hH2 rfl rfl) rfl rfl) ?_
    refine gR ?_
    exact Fin.own2 rfl (by rw [<- h9]) (by rw [hv']; rfl)
theorem c_r01_take (A b : List Nat) (n : Nat) (hA : Ws A) (hb : Ws b) (hn : n <= A.length) (la : A.length <= big) (hle : val b <= val (A.take n)) :
    Con Tryz.prog 268 [.ms 1000 1 0 n,ws b] [(1000,some (.row 1 (A.map u32)))] (.tup []) [(1000,some (.row 1 ((wr A 0 (fixw n (val (A.take n) - val b))).map u32)))] := by
  unfold big at la
  refine gF Tryz.func268 (fun k z h => lk1000 h) ?_
  refine gL3 [1,8] [] (fun (o : List Nat) (c i : Nat) => [(0,some (.ms 1000 1 0 n)),(4,some (u64 c)),(9,some (i64 i))]) (fun o _ _ => [(1000,some (.row 1 (o.map u32)))]) (fun o c i => o.length = A.length /\ i <= n /\ Ws o /\ c <= 1 /\ o.drop i = A.drop i /\ val (o.take i) + val (b.take i) = val (A.take i) + c * 4294967296 ^ i) (fun _ _ i => n - i) A 0 0 ⟨rfl,by omega,hA,by omega,rfl,by simp [val]⟩ ?_
  rintro o c i ⟨ho,hi,hw,hc,hd,hv⟩ K1 hK1
  refine gC (fun ht10 => ?_) (fun ht10 => ?_)
  · have hin : i < n := by simpa [icmp] using ht10
    have e1 : wordW (o.take n) i = wordW A i:=by rw [wordW_take hin]; exact word_of_drop hd
    have h1 := wordW_lt hA i
    have h2 := wordW_lt hb i
    obtain ⟨s,hs⟩ : ∃ s,s = 4294967296 + wordW A i - wordW b i - c := ⟨_,rfl⟩
    have h3 := minus_step h1 h2 hc hv
    rw [<- hs] at h3
    refine gt (s_callH (c_r01_atO 1000 o n i hw (by omega)) (.cons (.tmp rfl) (.cons (.tmp rfl) .nil)) (by first | exact hH0 | exact hH1 rfl | exact hH2 rfl rfl) rfl rfl) ?_
    refine ga ((u64_add (x := 4294967296) (by omega)).trans (by rw [e1])) ?_
    refine gc (c_r01_at b i hb) ?_
    refine ga ((u64_sub (by omega) (by omega)).trans (by rw [if_pos (by omega)])) ?_
    refine ga ((u64_sub (by omega) (by omega)).trans (show _ = (s : Int) by rw [if_pos (by omega)]; congr 1; omega)) ?_
    refine gv (u32_wrap _) ?_
    refine gs (s_shrW (.tmp rfl) (.const _) (by omega) (u64_shr _ 32 (by omega)) rfl) ?_
    refine ga ((u64_sub (x := 1) (by omega) (by omega)).trans (by rw [if_pos (by omega)])) ?_
    refine gs (s_idxMs0 (n := i) (.tmp rfl) (.tmp rfl) T29 rfl T204 rfl (by omega) (by first | omega | (simp; omega)) rfl) ?_
    refine gs (s_stElem (.tmp rfl) rfl (getw (i := i) (by omega)) rfl (.tmp rfl) rfl rfl T204 rfl rfl) ?_
    refine ga (i64_addI (by omega)) ?_
    exact gK3 hK1 (o.set i (s % 4294967296)) (1 - s / 2 ^ 32) (i + 1) ⟨by simp [ho],by omega,ws_set hw (by omega),by omega,drop_set_next hd,by rw [val_set_take (by omega),val_take_word,val_take_word,Nat.pow_succ]; exact h3⟩ (hw := Wk.of (by repeat (first | exact SlW.nil | refine SlW.k ?_)) (.cons rfl (BlkSub.of (by rw [List.map_set]; rfl)) .nil))
  · have hin : i = n := by have : n <= i := by simpa [icmp] using ht10
                           omega
    subst hin
    have hl : (A.take i).length = i:=by simp; omega
    have h4 := minus_end (a := A.take i) (b := b) (out := o.take i) (ws_take hA i) (ws_take hw i) (by simp; omega) hle (by rw [hl,List.take_of_length_le (show (A.take i).length <= i by omega)]; exact hv)
    have h9 := wr0 hw ho hn hd h4
    refine gR ?_
    exact Fin.own2 rfl (by rw [<- h9]) rfl
end Go.Lw
namespace Go.Lw
theorem i64_quo32 {x : Nat} (h : x <= 9223372036854775807) : IntKind.i64.wrap ((x : Int).tdiv 32) = ((x / 32 : Nat) : Int) := by
 rw [show (32 : Int) = ((32 : Nat) : Int) from rfl,<- Int.ofNat_tdiv]
 exact i64_in (by omega)
theorem rem32 {x : Nat} : (x : Int).tmod 32 = ((x % 32 : Nat) : Int) := (Int.ofNat_tmod _ _).symm
theorem pow32 (i : Nat) : (4294967296 : Nat) ^ i = 2 ^ (32 * i):=by rw [Nat.pow_mul]
theorem bit_of {a : List Nat} (ha : Ws a) {k : Nat} (hk : k / 32 < a.length) : wordW a (k / 32) / 2 ^ (k % 32) % 2 = val a / 2 ^ k % 2 := by
 have h1 : val a / 2 ^ k = (val a / 4294967296 ^ (k / 32)) / 2 ^ (k % 32) := by
  rw [pow32,Nat.div_div_eq_div_mul,<- Nat.pow_add]; congr 2; omega
 rw [h1,val_div ha _ (by omega),val_drops]
 generalize val (a.drop (k / 32 + 1)) = R
 have h2 : 4294967296 * R = 2 ^ (k % 32) * (2 * (2 ^ (31 - k % 32) * R)) := by
  have : (4294967296 : Nat) = 2 ^ (k % 32) * (2 * 2 ^ (31 - k % 32)) := by
   rw [<- Nat.pow_succ',<- Nat.pow_add,show k % 32 + (31 - k % 32).succ = 32 by omega]
  conv => lhs; rw [this]
  grind
 rw [h2,Nat.add_mul_div_left _ _ (Nat.pow_pos (by omega)),Nat.add_mul_mod_self_left]
theorem dbl_or {w c : Nat} (hc : c <= 1) : w * 2 ^ 1 % 4294967296 ||| c = w * 2 ^ 1 % 4294967296 + c := by
 have h : w * 2 ^ 1 % 4294967296 = (w % 2147483648) * 2 ^ 1:=by omega
 rw [h]; exact or_add (by omega)
theorem dbl_step {o c P rt w bit : Nat} (hw : w < 4294967296) (h : o + c * P = 2 * rt + bit) :
  (o + P * (w * 2 ^ 1 % 4294967296 + c)) + (w / 2 ^ 31) * (P * 4294967296) = 2 * (rt + P * w) + bit := by
 have h0 : w * 2 ^ 1 % 4294967296 + (w / 2 ^ 31) * 4294967296 = 2 * w:=by omega
 generalize w * 2 ^ 1 % 4294967296 = r at *
 generalize w / 2 ^ 31 = q at *
 grind
theorem bit_word {q : List Nat} (hq : Ws q) {k Y : Nat} (hk : k / 32 < q.length) (h : val q = 2 ^ (k + 1) * Y) :
  wordW q (k / 32) ||| 2 ^ (k % 32) = wordW q (k / 32) + 2 ^ (k % 32) /\ wordW q (k / 32) + 2 ^ (k % 32) < 4294967296 := by
 have h1 := val_div hq (k / 32) (by omega)
 rw [val_drops,h,pow32,show k + 1 = 32 * (k / 32) + (k % 32 + 1) by omega,Nat.pow_add,Nat.mul_assoc,Nat.mul_div_cancel_left _ (Nat.pow_pos (by omega))] at h1
 have hw := wordW_lt hq (k / 32)
 generalize wordW q (k / 32) = w at *
 generalize val (q.drop (k / 32 + 1)) = R at *
 have hB : (4294967296 : Nat) = 2 ^ (k % 32 + 1) * 2 ^ (31 - k % 32) := by
  rw [<- Nat.pow_add,show k % 32 + 1 + (31 - k % 32) = 32 by omega]
 have h2 : w % 2 ^ (k % 32 + 1) = 0 := by
  have h3 : (w + 4294967296 * R) % 2 ^ (k % 32 + 1) = 0:=by rw [<- h1]; exact Nat.mul_mod_right _ _
  rw [hB,Nat.mul_assoc,Nat.add_mul_mod_self_left] at h3
  exact h3
 have h4 : w = 2 ^ (k % 32 + 1) * (w / 2 ^ (k % 32 + 1)) := by
  have := Nat.div_add_mod w (2 ^ (k % 32 + 1)); omega
 have h5 : 2 ^ (k % 32) < 2 ^ (k % 32 + 1):=by rw [Nat.pow_succ]; have := Nat.pow_pos (n := k % 32) (show 0 < 2 by omega); omega
 constructor
 ·rw [h4]; exact (Nat.two_pow_add_eq_or_of_lt h5 _).symm
 ·have h6 : w / 2 ^ (k % 32 + 1) < 2 ^ (31 - k % 32) := by
   rw [Nat.div_lt_iff_lt_mul (Nat.pow_pos (by omega)),Nat.mul_comm,<- hB]; exact hw
  have h7 := Nat.mul_le_mul_left (2 ^ (k % 32 + 1)) (show w / 2 ^ (k % 32 + 1) + 1 <= 2 ^ (31 - k % 32) from h6)
  rw [<- hB,Nat.mul_add,<- h4] at h7
  omega
theorem bit_set {q : List Nat} (hq : Ws q) {k Y : Nat} (hk : k / 32 < q.length) (h : val q = 2 ^ (k + 1) * Y) :
  val (q.set (k / 32) (wordW q (k / 32) + 2 ^ (k % 32))) = 2 ^ k * (2 * Y + 1) := by
 have h1 := val_set (x := wordW q (k / 32) + 2 ^ (k % 32)) hk
 rw [Nat.mul_add] at h1
 have h2 : 4294967296 ^ (k / 32) * 2 ^ (k % 32) = 2 ^ k:=by rw [pow32,<- Nat.pow_add]; congr 1; omega
 rw [h2,h,Nat.pow_succ] at h1
 grind
theorem bit_div {V Bv k : Nat} (hB : 0 < Bv) :
  (Bv <= 2 * (V / 2 ^ (k + 1) % Bv) + V / 2 ^ k % 2 -> V / 2 ^ k % Bv = 2 * (V / 2 ^ (k + 1) % Bv) + V / 2 ^ k % 2 - Bv /\ V / 2 ^ k / Bv = 2 * (V / 2 ^ (k + 1) / Bv) + 1) /\
  (2 * (V / 2 ^ (k + 1) % Bv) + V / 2 ^ k % 2 < Bv -> V / 2 ^ k % Bv = 2 * (V / 2 ^ (k + 1) % Bv) + V / 2 ^ k % 2 /\ V / 2 ^ k / Bv = 2 * (V / 2 ^ (k + 1) / Bv)) := by
 have h1 : V / 2 ^ (k + 1) = V / 2 ^ k / 2:=by rw [Nat.pow_succ,Nat.div_div_eq_div_mul]
 rw [h1]
 generalize V / 2 ^ k = X
 have h2 := Nat.div_add_mod X 2
 have h3 := Nat.div_add_mod (X / 2) Bv
 have h4 := Nat.mod_lt (X / 2) hB
 have h5 := Nat.mod_lt X (show 0 < 2 by omega)
 generalize X / 2 % Bv = r at *
 generalize X / 2 / Bv = q at *
 generalize X % 2 = b at *
 generalize X / 2 = Y at *
 constructor
 ·intro h
  have := div_mod_of (a := X) (w := Bv) (q := 2 * q + 1) (r := 2 * r + b - Bv) (by rw [Nat.mul_add,Nat.mul_one,show Bv * (2 * q) = 2 * (Bv * q) by grind]; omega) (by omega)
  exact ⟨this.2,this.1⟩
 ·intro h
  have := div_mod_of (a := X) (w := Bv) (q := 2 * q) (r := 2 * r + b) (by rw [show Bv * (2 * q) = 2 * (Bv * q) by grind]; omega) (by omega)
  exact ⟨this.2,this.1⟩
theorem wr_all {A l : List Nat} (h : l.length = A.length) : wr A 0 l = l := by
 unfold wr
 rw [List.drop_eq_nil_of_le (by omega)]; simp
theorem blen_pow {V : Nat} : V / 2 ^ blen V = 0 := Nat.div_eq_of_lt blen_lt
theorem bit_in {a : List Nat} (ha : Ws a) {k : Nat} (h : k < blen (val a)) : k / 32 < a.length := by
 rcases Nat.lt_or_ge (k / 32) a.length with h1 | h1
 ·exact h1
 ·exfalso
  have h2 := val_lt a ha
  rw [pow32] at h2
  have h3 : val a ≠ 0:=by intro h0; rw [h0] at h; simp [blen] at h
  have h4 := blen_le h3
  have h5 : 2 ^ (32 * a.length) <= 2 ^ (blen (val a) - 1) := two_pow_le (by omega)
  omega
end Go.Lw
namespace Go.Lw
open Go.Proofs
theorem c_r01_divide (a b : List Nat) (ha : Ws a) (hb : Ws b) (na : Nz a) (hb0 : val b ≠ 0) (la : a.length < big) (lb : b.length < big) :
    FnC Tryz.prog 188 [ws a,ws b] (.tup [ws (ofNat (val a / val b)),ws (ofNat (val a % val b))]) := by
  have la' := la
  have lb' := lb
  unfold big at la lb
  obtain ⟨V,hV⟩ : ∃ V,V = val a := ⟨_,rfl⟩
  obtain ⟨Bv,hBv⟩ : ∃ Bv,Bv = val b := ⟨_,rfl⟩
  have hBp : 0 < Bv:=by omega
  have hBl : 2 * Bv <= 4294967296 ^ (b.length + 1):=by have := val_lt b hb; rw [Nat.pow_succ]; omega
  have hbl : blen V <= 32 * a.length := by
    rcases Nat.eq_zero_or_pos (blen V) with h | h
    · omega
    · have := bit_in ha (k := blen V - 1) (by rw [<- hV]; omega)
      omega
  rw [<- hV,<- hBv]
  refine gF0 Tryz.func188 ?_
  refine gl ?_
  refine gs (s_make (.tmp rfl) T29 rfl T204 rfl rfl (by omega) (by dsimp only; omega) rfl) ?_
  refine gl ?_
  refine ga (i64_addN (y := 1) (by unfold maxL; omega) (by unfold maxL; omega)) ?_
  refine gs (s_make (.tmp rfl) T29 rfl T204 rfl rfl (by omega) (by dsimp only; omega) rfl) ?_
  refine gc (hV ▸ c_r01_bits a ha na (by omega)) ?_
  refine ga (i64_subI (by omega)) ?_
  refine gL3 [0,1] [] (fun (q r : List Nat) (i : Nat) => [(6,some (.ms 13 1 0 a.length)),(7,some (.ms 17 1 0 (b.length + 1))),(8,some (i64 ((i : Int) - 1)))]) (fun q r _ => [(13,some (.row 1 (q.map u32))),(17,some (.row 1 (r.map u32)))]) (fun q r i => q.length = a.length /\ r.length = b.length + 1 /\ Ws q /\ Ws r /\ i <= blen V /\ val r = V / 2 ^ i % Bv /\ val q = 2 ^ i * (V / 2 ^ i / Bv)) (fun _ _ i => i) (List.replicate a.length 0) (List.replicate (b.length + 1) 0) (blen V) ⟨by simp,by simp,ws_rep _,ws_rep _,Nat.le_refl _,by rw [val_zeros,blen_pow,Nat.zero_mod],by rw [val_zeros,blen_pow,Nat.zero_div,Nat.mul_zero]⟩ ?_ (h2 := (.cons rfl (BlkSub.of (by rw [List.map_replicate]; rfl)) (.cons rfl (BlkSub.of (by rw [List.map_replicate]; rfl)) .nil)))
  rintro q r i ⟨hql,hrl,wq,wr',hi,hr,hq⟩ K1 hK1
  refine gC (fun ht22 => ?_) (fun ht22 => ?_) (st2 := (15,0))
  · have hi0 : 1 <= i := by have := ht22; simp [icmp] at this; omega
    obtain ⟨k,rfl⟩ : ∃ k,i = k + 1 := ⟨i - 1,by omega⟩
    rw [show ((k + 1 : Nat) : Int) - 1 = (k : Int) by omega]
    have hka := bit_in ha (k := k) (by rw [<- hV]; omega)
    have hbit := bit_of ha hka
    have hwB := wordW_lt ha (k / 32)
    rw [<- hV] at hbit
    obtain ⟨bit,hbt⟩ : ∃ bit,bit = V / 2 ^ k % 2 := ⟨_,rfl⟩
    have hb1 : bit <= 1:=by omega
    have hrlt := Nat.mod_lt (V / 2 ^ (k + 1)) hBp
    have hdw : wordW a (k / 32) / 2 ^ (k % 32) <= wordW a (k / 32) := Nat.div_le_self _ _
    refine gs (s_quoW (.tmp rfl) (.const _) (by omega) (i64_quo32 (by omega)) rfl) ?_
    refine gi (getz (n := k / 32) (by omega) (by first | omega | (simp; omega))) ?_
    refine gs (s_remW (.tmp rfl) (.const _) (by omega) rem32 rfl) ?_
    refine gs (s_shrW (.tmp rfl) (.tmp rfl) (by omega) (u32_shr _ (k % 32) (by omega)) rfl) ?_
    refine gs (s_bitsW (.tmp rfl) (.const _) rfl ((ibits_and32 (y := 1) (by omega) (by omega)).trans (show _ = (bit : Int) by rw [Nat.and_one_is_mod,hbit,hbt])) rfl) ?_
    refine gL3 [0,1,8,35] [13] (fun (o : List Nat) (c j : Nat) => [(6,some (.ms 13 1 0 a.length)),(7,some (.ms 17 1 0 (b.length + 1))),(9,some (u32 c)),(36,some (i64 j))]) (fun o _ _ => [(17,some (.row 1 (o.map u32)))]) (fun o c j => o.length = b.length + 1 /\ Ws o /\ j <= b.length + 1 /\ c <= 1 /\ o.drop j = r.drop j /\ val (o.take j) + c * 4294967296 ^ j = 2 * val (r.take j) + bit) (fun _ _ j => b.length + 1 - j) r bit 0 ⟨hrl,wr',by omega,hb1,rfl,by simp [val]⟩ ?_
    rintro o c j ⟨hol,wo,hj,hc,hd,hv⟩ K2 hK2
    refine gC (fun ht37 => ?_) (fun ht37 => ?_)
    · have hjn : j < b.length + 1 := by have := ht37; simp [icmp] at this; omega
      have e1 : wordW o j = wordW r j := word_of_drop hd
      have h1 := wordW_lt wr' j
      have h3 := dbl_step (w := wordW r j) h1 hv
      refine gs (s_idxMs0 (n := j) (.tmp rfl) (.tmp rfl) T29 rfl T204 rfl (by omega) (by first | omega | (simp; omega)) rfl) ?_
      refine gs (s_loadEptr (.tmp rfl) rfl (by rw [getw (show j < o.length by omega),e1]) T204 rfl rfl rfl) ?_
      refine gs (s_shlW (.tmp rfl) (.const _) (by omega) (u32_shl (n := 1) (by omega)) rfl) ?_
      refine gs (s_bitsW (.tmp rfl) (.tmp rfl) rfl ((ibits_or32 (by omega) (by omega)).trans (by rw [dbl_or hc])) rfl) ?_
      refine gs (s_idxMs0 (n := j) (.tmp rfl) (.tmp rfl) T29 rfl T204 rfl (by omega) (by first | omega | (simp; omega)) rfl) ?_
      refine gs (s_loadEptr (.tmp rfl) rfl (by rw [getw (show j < o.length by omega),e1]) T204 rfl rfl rfl) ?_
      refine gs (s_shrW (.tmp rfl) (.const _) (by omega) (u32_shr _ 31 (by omega)) rfl) ?_
      refine gs (s_idxMs0 (n := j) (.tmp rfl) (.tmp rfl) T29 rfl T204 rfl (by omega) (by first | omega | (simp; omega)) rfl) ?_
      refine gs (s_stElem (.tmp rfl) rfl (getw (i := j) (by omega)) rfl (.tmp rfl) rfl rfl T204 rfl rfl) ?_
      refine gD ?_
      refine ga (i64_addI (by omega)) ?_
      exact gK3 hK2 (o.set j (wordW r j * 2 ^ 1 % 4294967296 + c)) (wordW r j / 2 ^ 31) (j + 1) ⟨by simp [hol],ws_set wo (by omega),by omega,by omega,drop_set_next hd,by rw [val_set_take (by omega),val_take_word]; rw [show 4294967296 ^ (j + 1) = 4294967296 ^ j * 4294967296 from Nat.pow_succ _ _]; exact h3⟩ (hw := Wk.of (by repeat (first | exact SlW.nil | refine SlW.k ?_)) (.cons rfl (BlkSub.of (by rw [List.map_set]; rfl)) (.cons rfl (.refl _) .nil)))
    · have hjn : j = b.length + 1 := by have : b.length + 1 <= j := by have := ht37; simp [icmp] at this; omega
                                        omega
      subst hjn
      rw [val_take_ge (l := r) (by omega),val_take_ge (l := o) (by omega),hr] at hv
      have hc0 : c = 0 := by
        cases c with
        | zero => rfl
        | succ c => rw [Nat.succ_mul] at hv; omega
      subst hc0
      rw [Nat.zero_mul,Nat.add_zero] at hv
      have hot : o.take (b.length + 1) = o := List.take_of_length_le (by omega)
      obtain ⟨d1,d2⟩ := bit_div (V := V) (k := k) hBp
      rw [<- hbt] at d1 d2
      have hcmp := c_r01_compareA 17 o b (b.length + 1) wo hb (by omega)
      rw [hot,<- hBv,hv] at hcmp
      have hqk : k / 32 < q.length:=by omega
      obtain ⟨w1,w2⟩ := bit_word wq hqk hq
      have w3 := bit_set wq hqk hq
      refine gt (s_callH hcmp (.cons (.tmp rfl) (.cons (.tmp rfl) .nil)) (by first | exact hH0 | exact hH1 rfl | exact hH2 rfl rfl) rfl rfl) ?_
      refine gC (fun ht58 => ?_) (fun ht58 => ?_)
      · have hge : Bv <= 2 * (V / 2 ^ (k + 1) % Bv) + bit := by
          rcases Nat.lt_or_ge (2 * (V / 2 ^ (k + 1) % Bv) + bit) Bv with h | h
          · rw [if_pos h] at ht58; cases ht58
          · exact h
        obtain ⟨d3,d4⟩ := d1 hge
        have htk := c_r01_take o b (b.length + 1) wo hb (by omega) (by unfold big; omega) (by rw [hot,<- hBv,hv]; exact hge)
        rw [hot,<- hBv,hv,<- d3,wr_all (by rw [len_fixw,hol])] at htk
        have hx2 : V / 2 ^ k % Bv < 4294967296 ^ (b.length + 1):=by have := Nat.mod_lt (V / 2 ^ k) hBp; omega
        refine gt (s_callH (Con.rekey 17 rfl rfl htk) (.cons (.tmp rfl) (.cons (.tmp rfl) .nil)) (by first | exact hH0 | exact hH1 rfl | exact hH2 rfl rfl) rfl rfl) ?_
        refine gs (s_quoW (.tmp rfl) (.const _) (by omega) (i64_quo32 (by omega)) rfl) ?_
        refine gs (s_idxMs0 (n := k / 32) (.tmp rfl) (.tmp rfl) T29 rfl T204 rfl (by omega) (by omega) rfl) ?_
        refine gs (s_loadEptr (.tmp rfl) rfl (getw (i := k / 32) hqk) T204 rfl rfl rfl) ?_
        refine gs (s_remW (.tmp rfl) (.const _) (by omega) rem32 rfl) ?_
        refine gs (s_shlW (.const _) (.tmp rfl) (by omega) ((u32_shl (x := 1) (n := k % 32) (by omega)).trans (show _ = ((2 ^ (k % 32) : Nat) : Int) by rw [Nat.one_mul,Nat.mod_eq_of_lt (Nat.lt_of_le_of_lt (Nat.le_add_left _ _) w2)])) rfl) ?_
        refine gs (s_bitsW (.tmp rfl) (.tmp rfl) rfl ((ibits_or32 (wordW_lt wq _) (Nat.lt_of_le_of_lt (Nat.le_add_left _ _) w2)).trans (by rw [w1])) rfl) ?_
        refine gs (s_idxMs0 (n := k / 32) (.tmp rfl) (.tmp rfl) T29 rfl T204 rfl (by omega) (by omega) rfl) ?_
        refine gs (s_stElem (.tmp rfl) rfl (getw (i := k / 32) hqk) rfl (.tmp rfl) rfl rfl T204 rfl rfl) ?_
        refine gD ?_
        refine ga (i64_subI (by omega)) ?_
        exact gK3 hK1 (q.set (k / 32) (wordW q (k / 32) + 2 ^ (k % 32))) (fixw (b.length + 1) (V / 2 ^ k % Bv)) k ⟨by simp [hql],len_fixw _ _,ws_set wq w2,ws_fixw _ _,by omega,val_fixw _ _ hx2,by rw [w3,d4]⟩ (hw := Wk.of (by repeat (first | exact SlW.nil | refine SlW.k ?_)) (.cons rfl (BlkSub.of (by first | rfl | (rw [List.map_set]; rfl))) (.cons rfl (.refl _) .nil)))
      · have hge : 2 * (V / 2 ^ (k + 1) % Bv) + bit < Bv := by
          rcases Nat.lt_or_ge (2 * (V / 2 ^ (k + 1) % Bv) + bit) Bv with h | h
          · exact h
          · rw [if_neg (by omega)] at ht58; split at ht58 <;> cases ht58
        obtain ⟨d3,d4⟩ := d2 hge
        refine ga (i64_subI (by omega)) ?_
        exact gK3 hK1 q o k ⟨hql,hol,wq,wo,by omega,by rw [hv,d3],by rw [hq,d4,Nat.pow_succ,Nat.mul_assoc]⟩ (hw := Wk.of (by repeat (first | exact SlW.nil | refine SlW.k ?_)) (.cons rfl (BlkSub.of (by first | rfl | (rw [List.map_set]; rfl))) (.cons rfl (.refl _) .nil)))
  · have hi0 : i = 0 := by have := ht22; simp [icmp] at this; omega
    subst hi0
    refine gW ((Wk.freeze (k := 13) rfl).trans <| (Wk.freeze (k := 17) rfl).trans <| Wk.of (sl := [(6,some (ws q)),(7,some (ws r))]) (hp := []) (.cons rfl (Sub.of (by rw [show AV.fz 13 1 (q.map u32) (.ms 13 1 0 a.length) = ws q from fz_all (by simp [hql])]; rfl)) (.cons rfl (Sub.of (fz_all (by simp [hrl]))) .nil)) .nil) ?_
    refine gc (c_r01_trim q wq (by omega)) ?_
    refine gc (c_r01_trim r wr' (by unfold big; omega)) ?_
    refine gE2 ?_
    rw [hr,hq]; simp [resT]
end Go.Lw
namespace Go.Lw
def GOk (L : Nat) (A : List Nat) (n : Nat) : Prop := Ws A /\ n <= A.length /\ A.length <= L /\ n = (ofNat (val (A.take n))).length
theorem ofNat_fixw (v : Nat) : ofNat v = fixw (ofNat v).length v := by
 have h := eq_fixw (ofNat v) (ws_ofNat _)
 rwa [val_ofNat] at h
theorem gok_fix {L : Nat} {A : List Nat} {n v : Nat} (h : GOk L A n) (hv : v <= val (A.take n)) :
  GOk L (wr A 0 (fixw n v)) (ofNat v).length /\ val ((wr A 0 (fixw n v)).take (ofNat v).length) = v /\ val ((wr A 0 (fixw n v)).take n) = v := by
 obtain ⟨hw,hn,hl,hN⟩ := h
 have hlt := val_take_lt hw n
 have hvl : v < 4294967296 ^ n:=by omega
 have hle : (ofNat v).length <= n := ofNat_length_le hvl
 have ht : (wr A 0 (fixw n v)).take n = fixw n v := by
  unfold wr
  rw [List.take_zero,List.nil_append,List.take_append_of_le_length (by rw [len_fixw]; omega),List.take_of_length_le (by rw [len_fixw]; omega)]
 have ht2 : (wr A 0 (fixw n v)).take (ofNat v).length = ofNat v := by
  have h1 : ((wr A 0 (fixw n v)).take n).take (ofNat v).length = (wr A 0 (fixw n v)).take (ofNat v).length:=by rw [List.take_take,Nat.min_eq_left hle]
  rw [<- h1,ht,fixw_takes _ _ _ hle,<- ofNat_fixw]
 have hlen : (wr A 0 (fixw n v)).length = A.length := len_wr (by rw [len_fixw]; omega)
 refine ⟨⟨ws_wr hw (ws_fixw _ _),by omega,by omega,by rw [ht2,val_ofNat]⟩,by rw [ht2,val_ofNat],by rw [ht,val_fixw _ _ hvl]⟩
theorem gok_par {L : Nat} {A : List Nat} {n : Nat} (h : GOk L A n) (hx : 0 < val (A.take n)) : 0 < n /\ val (A.take n) % 2 = wordW A 0 % 2 := by
 have hn : 0 < n := by
  rcases Nat.eq_zero_or_pos n with h0 | h0
  ·subst h0; simp [val] at hx
  ·exact h0
 refine ⟨hn,?_⟩
 have := val_drops (A.take n) 0
 rw [List.drop_zero,wordW_take hn] at this
 omega
theorem gok_take {L : Nat} {A : List Nat} {n : Nat} (h : GOk L A n) : A.take n = ofNat (val (A.take n)) := by
 obtain ⟨hw,hn,hl,hN⟩ := h
 have h1 := take_trim (ws_take hw n)
 rw [<- hN,List.take_take,Nat.min_self] at h1
 exact h1
theorem gok_zero {L : Nat} {A : List Nat} {n : Nat} (h : GOk L A n) : n = 0 ↔ val (A.take n) = 0 := by
 constructor
 ·intro h0; subst h0; rfl
 ·intro h0
  have h1 := h.2.2.2
  rw [h0] at h1
  exact h1
theorem gcd_even2 {x y : Nat} (hx : x % 2 = 0) (hy : y % 2 = 0) : Nat.gcd x y = 2 * Nat.gcd (x / 2) (y / 2) := by
 rw [<- Nat.gcd_mul_left,Nat.mul_div_cancel' (Nat.dvd_of_mod_eq_zero hx),Nat.mul_div_cancel' (Nat.dvd_of_mod_eq_zero hy)]
theorem gcd_even1 {x y : Nat} (hx : x % 2 = 0) (hy : y % 2 = 1) : Nat.gcd (x / 2) y = Nat.gcd x y := by
 have h1 : x = 2 * (x / 2):=by omega
 have h2 : Nat.Coprime 2 y := by
  rw [Nat.Coprime,Nat.gcd_rec,hy]; rfl
 conv => rhs; rw [h1]
 exact (Nat.Coprime.gcd_mul_left_cancel _ h2).symm
theorem gcd_sub {x y : Nat} (h : y <= x) : Nat.gcd (x - y) y = Nat.gcd x y := Nat.gcd_sub_self_left h
theorem c_pow_lt {t L g V : Nat} (hg : 0 < g) (h : 2 ^ t * g <= V) (hV : V < 4294967296 ^ L) : t < 32 * L := by
 rw [pow32] at hV
 have h1 := Nat.mul_le_mul_left (2 ^ t) (show 1 <= g from hg)
 rcases Nat.lt_or_ge t (32 * L) with h2 | h2
 ·exact h2
 ·have := two_pow_le h2; omega
end Go.Lw
namespace Go.Lw
open Go.Proofs
theorem c_r01_takeO (A D : List Nat) (n p : Nat) (hA : Ws A) (hD : Ws D) (hn : n <= A.length) (hp : p <= D.length) (la : A.length <= big) (hle : val (D.take p) <= val (A.take n)) :
  Con Tryz.prog 268 [.ms 901 1 0 n, .ms 902 1 0 p] [(902, some (.row 1 (D.map u32))), (901, some (.row 1 (A.map u32)))] (.tup [])
   [(902,some (.row 1 (D.map u32))),(901,some (.row 1 ((wr A 0 (fixw n (val (A.take n) - val (D.take p)))).map u32)))] := by
 have h1 := Con.rekey 901 rfl rfl (c_r01_take A (D.take p) n hA (ws_take hD p) hn la hle)
 refine Con.borrow (args := [.ms 901 1 0 n,ws (D.take p)]) 902 1 (D.map u32) rfl rfl rfl ?_ rfl ?_ h1
 ·intro j x' hj
  match j,hj with
  | 0,hj => cases hj; exact .inl rfl
  | 1,hj => cases hj; exact .inr ⟨0,p,rfl,by simpa using hp,by rw [lst_take]; rfl⟩
 ·intro k' x h
  obtain ⟨_,h⟩ := lk_one h
  cases h; exact sc_row _
theorem and1 {A : List Nat} (hA : Ws A) {i : Nat} : ibits .and .u32 (wordW A i : Int) 1 = ((wordW A i % 2 : Nat) : Int) :=
 (ibits_and32 (y := 1) (wordW_lt hA i) (by omega)).trans (by rw [Nat.and_one_is_mod])
theorem c_r01_gcd (a b : List Nat) (ha : Ws a) (hb : Ws b) (na : Nz a) (nb : Nz b) (la : a.length + b.length < big) : FnC Tryz.prog 187 [ws a, ws b] (ws (ofNat (Nat.gcd (val a) (val b)))) := by
  have la' := la
  unfold big at la
  have ea := ofNat_val ha na
  have eb := ofNat_val hb nb
  obtain ⟨L,hL⟩ : ∃ L,L = a.length + b.length := ⟨_,rfl⟩
  obtain ⟨G,hG⟩ : ∃ G,G = Nat.gcd (val a) (val b) := ⟨_,rfl⟩
  rw [<- hG]
  refine gF0 Tryz.func187 ?_
  refine gt (s_callH (c_r01_trimO 901 rfl a ha (by unfold big; omega)) (.cons (.tmp rfl) .nil) (by first | exact hH0 | exact hH1 rfl | exact hH2 rfl rfl) rfl rfl) ?_
  refine gt (s_callH (c_r01_trimO 902 rfl b hb (by unfold big; omega)) (.cons (.tmp rfl) .nil) (by first | exact hH0 | exact hH1 rfl | exact hH2 rfl rfl) rfl rfl) ?_ (2,0)
  refine gW (Wk.of (sl := [(0,some (.ms 901 1 0 a.length)),(1,some (.ms 902 1 0 b.length))]) (hp := [(901,some (.row 1 (a.map u32))),(902,some (.row 1 (b.map u32)))]) (.cons rfl (Sub.of (by rw [ea])) (.cons rfl (Sub.of (by rw [eb])) .nil)) (.cons rfl (.refl _) (.cons rfl (.refl _) .nil))) ?_
  refine gC (fun ht12 => ?_) (fun ht12 => ?_) (st1 := (3,0))
  · have h0 : a = [] := List.length_eq_zero_iff.1 (by simpa [icmp] using ht12)
    refine gW ((Wk.freeze (k := 902) rfl).trans <| Wk.of (sl := [(1,some (ws b))]) (hp := []) (.cons rfl (Sub.of (fz_all (by simp))) .nil) .nil) ?_
    refine gE1 ?_
    rw [hG,h0]; simp [val,resT,eb]
  · have h0 : a ≠ [] := fun h => by rw [h] at ht12; simp [icmp] at ht12
    refine gC (fun ht16 => ?_) (fun ht16 => ?_) (st1 := (5,0))
    · have h1 : b = [] := List.length_eq_zero_iff.1 (by simpa [icmp] using ht16)
      refine gW ((Wk.freeze (k := 901) rfl).trans <| Wk.of (sl := [(0,some (ws a))]) (hp := []) (.cons rfl (Sub.of (fz_all (by simp))) .nil) .nil) ?_
      refine gE1 ?_
      rw [hG,h1]; simp [val,resT,ea]
    · have h1 : b ≠ [] := fun h => by rw [h] at ht16; simp [icmp] at ht16
      have va := val_pos na h0
      have vb := val_pos nb h1
      have hGp : 0 < G:=by rw [hG]; exact Nat.gcd_pos_of_pos_left _ va
      have hGa : G <= val a:=by rw [hG]; exact Nat.gcd_le_left _ va
      have vla := val_lt a ha
      refine gL5 [] [] (fun (A D : List Nat) (n p t : Nat) => [(0,some (.ms 901 1 0 n)),(1,some (.ms 902 1 0 p)),(5,some (i64 t))]) (fun A D _ _ _ => [(901,some (.row 1 (A.map u32))),(902,some (.row 1 (D.map u32)))]) (fun A D n p t => GOk L A n /\ GOk L D p /\ 0 < val (A.take n) /\ 0 < val (D.take p) /\ G = 2 ^ t * Nat.gcd (val (A.take n)) (val (D.take p))) (fun A _ n _ _ => val (A.take n)) a b a.length b.length 0 ⟨⟨ha,Nat.le_refl _,by omega,by rw [List.take_length,ea]⟩,⟨hb,Nat.le_refl _,by omega,by rw [List.take_length,eb]⟩,by rw [List.take_length]; exact va,by rw [List.take_length]; exact vb,by rw [List.take_length,List.take_length,hG]; simp⟩ ?_
      rintro A D n p t ⟨gA,gD,pA,pD,hg⟩ K1 hK1
      refine gs (s_idxMs0 (n := 0) (.tmp rfl) (.const _) T29 rfl T204 rfl (by omega) (by have := (gok_par gA pA).1; omega) rfl) ?_
      refine gs (s_loadEptr (.tmp rfl) rfl (getw (i := 0) (by have := (gok_par gA pA).1; have := gA.2.1; omega)) T204 rfl rfl rfl) ?_
      refine gs (s_bitsW (.tmp rfl) (.const _) rfl (and1 gA.1) rfl) ?_
      refine gs (s_guard rfl rfl rfl (fun h => s_idxMs0 (n := 0) (.opt rfl (o1 h)) (.const _) T29 rfl T204 rfl (by omega) (by have := (gok_par gD pD).1; omega) rfl)) ?_
      refine gs (s_guard rfl rfl rfl (fun h => s_loadEptr (.opt rfl (o1 h)) rfl (getw (i := 0) (by have := (gok_par gD pD).1; have := gD.2.1; omega)) T204 rfl rfl rfl)) ?_
      refine gs (s_guard rfl rfl rfl (fun h => s_bitsW (.opt rfl (o1 h)) (.const _) rfl (and1 gD.1) rfl)) ?_
      refine gC (fun ht29 => ?_) (fun ht29 => ?_)
      · have hev : wordW A 0 % 2 = 0 /\ wordW D 0 % 2 = 0 := by
          have := ht29
          simp [icmp] at this
          omega
        have xA : val (A.take n) % 2 = 0:=by rw [(gok_par gA pA).2]; exact hev.1
        have xD : val (D.take p) % 2 = 0:=by rw [(gok_par gD pD).2]; exact hev.2
        obtain ⟨k1,k2,k3⟩ := gok_fix gA (v := val (A.take n) / 2) (by omega)
        obtain ⟨m1,m2,m3⟩ := gok_fix gD (v := val (D.take p) / 2) (by omega)
        have ht : t < 32 * a.length := c_pow_lt (Nat.gcd_pos_of_pos_left _ pA) (by rw [<- hg]; exact hGa) vla
        refine gt (s_callH (Con.rekeyR 901 rfl (c_r01_halve A n gA.1 gA.2.1 (by have := gA.2.2.1; unfold big; omega))) (.cons (.tmp rfl) .nil) (by first | exact hH0 | exact hH1 rfl | exact hH2 rfl rfl) rfl rfl) ?_
        refine gt (s_callH (Con.rekeyR 902 rfl (c_r01_halve D p gD.1 gD.2.1 (by have := gD.2.2.1; unfold big; omega))) (.cons (.tmp rfl) .nil) (by first | exact hH0 | exact hH1 rfl | exact hH2 rfl rfl) rfl rfl) ?_
        refine ga (show _ = ((t + 1 : Nat) : Int) by rw [i64_addI (by omega)]; omega) ?_
        exact gK5 hK1 (wr A 0 (fixw n (val (A.take n) / 2))) (wr D 0 (fixw p (val (D.take p) / 2))) ((ofNat (val (A.take n) / 2)).length) ((ofNat (val (D.take p) / 2)).length) (t + 1) ⟨k1,m1,by rw [k2]; omega,by rw [m2]; omega,by rw [k2,m2,hg,gcd_even2 xA xD,Nat.pow_succ]; grind⟩ (by rw [k2]; omega)
      · have hod : val (A.take n) % 2 = 1 \/ val (D.take p) % 2 = 1 := by
          rw [(gok_par gA pA).2,(gok_par gD pD).2]
          have := ht29
          simp [icmp] at this
          omega
        refine gL4 [5] [] (fun (A1 D1 : List Nat) (n1 p1 : Nat) => [(0,some (.ms 901 1 0 n1)),(1,some (.ms 902 1 0 p1))]) (fun A1 D1 _ _ => [(901,some (.row 1 (A1.map u32))),(902,some (.row 1 (D1.map u32)))]) (fun A1 D1 n1 p1 => GOk L A1 n1 /\ GOk L D1 p1 /\ 0 < val (D1.take p1) /\ (val (A1.take n1) % 2 = 1 \/ val (D1.take p1) % 2 = 1) /\ G = 2 ^ t * Nat.gcd (val (A1.take n1)) (val (D1.take p1))) (fun A1 D1 n1 p1 => val (A1.take n1) + val (D1.take p1)) A D n p ⟨gA,gD,pD,hod,hg⟩ ?_
        rintro A1 D1 n1 p1 ⟨gA1,gD1,pD1,hod1,hg1⟩ K2 hK2
        refine gC (fun ht38 => ?_) (fun ht38 => ?_) (st2 := (19,0))
        · have pA1 : 0 < val (A1.take n1) := by
            have h3 : n1 ≠ 0:=by have := ht38; simp [icmp] at this; omega
            exact Nat.pos_of_ne_zero (fun h => h3 ((gok_zero gA1).2 h))
          refine gL2 [5] [902] (fun (A2 : List Nat) (n2 : Nat) => [(0,some (.ms 901 1 0 n2)),(1,some (.ms 902 1 0 p1))]) (fun A2 _ => [(901,some (.row 1 (A2.map u32)))]) (fun A2 n2 => GOk L A2 n2 /\ 0 < val (A2.take n2) /\ val (A2.take n2) <= val (A1.take n1) /\ (val (A2.take n2) % 2 = 1 \/ val (D1.take p1) % 2 = 1) /\ Nat.gcd (val (A2.take n2)) (val (D1.take p1)) = Nat.gcd (val (A1.take n1)) (val (D1.take p1))) (fun A2 n2 => val (A2.take n2)) A1 n1 ⟨gA1,pA1,Nat.le_refl _,hod1,rfl⟩ ?_
          rintro A2 n2 ⟨gA2,pA2,lA2,hod2,hg2⟩ K3 hK3
          refine gs (s_idxMs0 (n := 0) (.tmp rfl) (.const _) T29 rfl T204 rfl (by omega) (by have := (gok_par gA2 pA2).1; omega) rfl) ?_
          refine gs (s_loadEptr (.tmp rfl) rfl (getw (i := 0) (by have := (gok_par gA2 pA2).1; have := gA2.2.1; omega)) T204 rfl rfl rfl) ?_
          refine gs (s_bitsW (.tmp rfl) (.const _) rfl (and1 gA2.1) rfl) ?_
          refine gC (fun ht43 => ?_) (fun ht43 => ?_)
          · have xA2 : val (A2.take n2) % 2 = 0 := by
              rw [(gok_par gA2 pA2).2]
              have := ht43
              simp [icmp] at this
              omega
            obtain ⟨k1,k2,k3⟩ := gok_fix gA2 (v := val (A2.take n2) / 2) (by omega)
            refine gt (s_callH (Con.rekeyR 901 rfl (c_r01_halve A2 n2 gA2.1 gA2.2.1 (by have := gA2.2.2.1; unfold big; omega))) (.cons (.tmp rfl) .nil) (by first | exact hH0 | exact hH1 rfl | exact hH2 rfl rfl) rfl rfl) ?_
            exact gK2 hK3 (wr A2 0 (fixw n2 (val (A2.take n2) / 2))) ((ofNat (val (A2.take n2) / 2)).length) ⟨k1,by rw [k2]; omega,by rw [k2]; omega,.inr (by omega),by rw [k2,gcd_even1 xA2 (by omega),hg2]⟩ (by rw [k2]; omega)
          · have xA2 : val (A2.take n2) % 2 = 1 := by
              rw [(gok_par gA2 pA2).2]
              have := ht43
              simp [icmp] at this
              omega
            refine gL2 [5] [901] (fun (D2 : List Nat) (p2 : Nat) => [(0,some (.ms 901 1 0 n2)),(1,some (.ms 902 1 0 p2))]) (fun D2 _ => [(902,some (.row 1 (D2.map u32)))]) (fun D2 p2 => GOk L D2 p2 /\ 0 < val (D2.take p2) /\ val (D2.take p2) <= val (D1.take p1) /\ Nat.gcd (val (A2.take n2)) (val (D2.take p2)) = Nat.gcd (val (A2.take n2)) (val (D1.take p1))) (fun D2 p2 => val (D2.take p2)) D1 p1 ⟨gD1,pD1,Nat.le_refl _,rfl⟩ ?_
            rintro D2 p2 ⟨gD2,pD2,lD2,hg3⟩ K4 hK4
            refine gs (s_idxMs0 (n := 0) (.tmp rfl) (.const _) T29 rfl T204 rfl (by omega) (by have := (gok_par gD2 pD2).1; omega) rfl) ?_
            refine gs (s_loadEptr (.tmp rfl) rfl (getw (i := 0) (by have := (gok_par gD2 pD2).1; have := gD2.2.1; omega)) T204 rfl rfl rfl) ?_
            refine gs (s_bitsW (.tmp rfl) (.const _) rfl (and1 gD2.1) rfl) ?_
            refine gC (fun ht50 => ?_) (fun ht50 => ?_)
            · have xD2 : val (D2.take p2) % 2 = 0 := by
                rw [(gok_par gD2 pD2).2]
                have := ht50
                simp [icmp] at this
                omega
              obtain ⟨k1,k2,k3⟩ := gok_fix gD2 (v := val (D2.take p2) / 2) (by omega)
              refine gt (s_callH (Con.rekeyR 902 rfl (c_r01_halve D2 p2 gD2.1 gD2.2.1 (by have := gD2.2.2.1; unfold big; omega))) (.cons (.tmp rfl) .nil) (by first | exact hH0 | exact hH1 rfl | exact hH2 rfl rfl) rfl rfl) ?_
              exact gK2 hK4 (wr D2 0 (fixw p2 (val (D2.take p2) / 2))) ((ofNat (val (D2.take p2) / 2)).length) ⟨k1,by rw [k2]; omega,by rw [k2]; omega,by rw [k2,Nat.gcd_comm,gcd_even1 xD2 xA2,Nat.gcd_comm,hg3]⟩ (by rw [k2]; omega)
            · have xD2 : val (D2.take p2) % 2 = 1 := by
                rw [(gok_par gD2 pD2).2]
                have := ht50
                simp [icmp] at this
                omega
              refine gt (s_callH (c_r01_compareO 901 902 (by omega) A2 D2 n2 p2 gA2.1 gD2.1 gA2.2.1 gD2.2.1) (.cons (.tmp rfl) (.cons (.tmp rfl) .nil)) (by first | exact hH0 | exact hH1 rfl | exact hH2 rfl rfl) rfl rfl) ?_
              refine gC (fun ht56 => ?_) (fun ht56 => ?_) (st1 := (17,0)) (st2 := (77777,0))
              · have hlt : val (A2.take n2) < val (D2.take p2) := by
                  rcases Nat.lt_or_ge (val (A2.take n2)) (val (D2.take p2)) with h | h
                  · exact h
                  · rw [if_neg (by omega)] at ht56; split at ht56 <;> cases ht56
                refine gW (Wk.o (sl := [(0,some (.ms 902 1 0 p2)),(1,some (.ms 901 1 0 n2)),(5,some (i64 t))]) (hp := [(901,some (.row 1 (A2.map u32))),(902,some (.row 1 (D2.map u32)))])) ?_ (17,0)
                refine gW (Wk.rekey (k := 901) (d := 903) rfl rfl) ?_ (17,0)
                refine gW (Wk.rekey (k := 902) (d := 901) rfl rfl) ?_ (17,0)
                refine gW (Wk.rekey (k := 903) (d := 902) rfl rfl) ?_ (17,0)
                refine gW (Wk.of (sl := [(0,some (.ms 901 1 0 p2)),(1,some (.ms 902 1 0 n2)),(5,some (i64 t))]) (hp := [(901,some (.row 1 (D2.map u32))),(902,some (.row 1 (A2.map u32)))]) (.cons rfl (Sub.refl _) (.cons rfl (Sub.refl _) (.cons rfl (Sub.refl _) .nil))) (.cons rfl (.refl _) (.cons rfl (.refl _) .nil))) ?_ (17,0)
                obtain ⟨A3,D3,n3,p3,gA3,gD3,xA3,xD3,hle3,hg4,hs3,e1,e2,e3,e4⟩ : ∃ A3 D3 n3 p3,GOk L A3 n3 /\ GOk L D3 p3 /\ val (A3.take n3) % 2 = 1 /\ val (D3.take p3) % 2 = 1 /\ val (D3.take p3) <= val (A3.take n3) /\ Nat.gcd (val (A3.take n3)) (val (D3.take p3)) = Nat.gcd (val (A2.take n2)) (val (D2.take p2)) /\ val (A3.take n3) + val (D3.take p3) = val (A2.take n2) + val (D2.take p2) /\ A3 = D2 /\ n3 = p2 /\ D3 = A2 /\ p3 = n2 := ⟨D2,A2,p2,n2,gD2,gA2,xD2,xA2,by omega,Nat.gcd_comm _ _,Nat.add_comm _ _,rfl,rfl,rfl,rfl⟩
                rw [<- e1,<- e2,<- e3,<- e4]
                refine go ?_
                refine gt (s_callH (c_r01_takeO A3 D3 n3 p3 gA3.1 gD3.1 gA3.2.1 gD3.2.1 (by have := gA3.2.2.1; unfold big; omega) hle3) (.cons (.tmp rfl) (.cons (.tmp rfl) .nil)) (by first | exact hH0 | exact hH1 rfl | exact hH2 rfl rfl) rfl rfl) ?_
                refine gt (s_callH (Con.rekeyR 901 rfl (c_r01_cut (wr A3 0 (fixw n3 (val (A3.take n3) - val (D3.take p3)))) n3 (ws_wr gA3.1 (ws_fixw _ _)) (by rw [len_wr (by rw [len_fixw]; have := gA3.2.1; omega)]; exact gA3.2.1) (by rw [len_wr (by rw [len_fixw]; have := gA3.2.1; omega)]; have := gA3.2.2.1; unfold big; omega))) (.cons (.tmp rfl) .nil) (by first | exact hH0 | exact hH1 rfl | exact hH2 rfl rfl) rfl rfl) ?_
                exact gK4 hK2 (wr A3 0 (fixw n3 (val (A3.take n3) - val (D3.take p3)))) D3 ((ofNat (val (A3.take n3) - val (D3.take p3))).length) p3 ⟨(gok_fix gA3 (by omega)).1,gD3,by omega,.inr xD3,by rw [(gok_fix gA3 (v := val (A3.take n3) - val (D3.take p3)) (by omega)).2.1,gcd_sub hle3,hg4,hg3,hg2,hg1]⟩ (by rw [(gok_fix gA3 (v := val (A3.take n3) - val (D3.take p3)) (by omega)).2.1]; omega) (hw := Wk.of (.cons rfl (Sub.of (by rw [(gok_fix gA3 (v := val (A3.take n3) - val (D3.take p3)) (by omega)).2.2])) (.k (.k .nil))) (.cons rfl (.refl _) (.cons rfl (.refl _) .nil)))
              · have hlt : val (D2.take p2) <= val (A2.take n2) := by
                  rcases Nat.lt_or_ge (val (A2.take n2)) (val (D2.take p2)) with h | h
                  · rw [if_pos h] at ht56; cases ht56
                  · exact h
                refine gW (Wk.o (sl := [(0,some (.ms 901 1 0 n2)),(1,some (.ms 902 1 0 p2)),(5,some (i64 t))]) (hp := [(901,some (.row 1 (A2.map u32))),(902,some (.row 1 (D2.map u32)))])) ?_ (77777,0)
                obtain ⟨A3,D3,n3,p3,gA3,gD3,xA3,xD3,hle3,hg4,hs3,e1,e2,e3,e4⟩ : ∃ A3 D3 n3 p3,GOk L A3 n3 /\ GOk L D3 p3 /\ val (A3.take n3) % 2 = 1 /\ val (D3.take p3) % 2 = 1 /\ val (D3.take p3) <= val (A3.take n3) /\ Nat.gcd (val (A3.take n3)) (val (D3.take p3)) = Nat.gcd (val (A2.take n2)) (val (D2.take p2)) /\ val (A3.take n3) + val (D3.take p3) = val (A2.take n2) + val (D2.take p2) /\ A3 = A2 /\ n3 = n2 /\ D3 = D2 /\ p3 = p2 := ⟨A2,D2,n2,p2,gA2,gD2,xA2,xD2,hlt,rfl,rfl,rfl,rfl,rfl,rfl⟩
                rw [<- e1,<- e2,<- e3,<- e4]
                obtain ⟨k1,k2,k3⟩ := gok_fix gA3 (v := val (A3.take n3) - val (D3.take p3)) (by omega)
                refine go ?_
                refine gt (s_callH (c_r01_takeO A3 D3 n3 p3 gA3.1 gD3.1 gA3.2.1 gD3.2.1 (by have := gA3.2.2.1; unfold big; omega) hle3) (.cons (.tmp rfl) (.cons (.tmp rfl) .nil)) (by first | exact hH0 | exact hH1 rfl | exact hH2 rfl rfl) rfl rfl) ?_
                refine gt (s_callH (Con.rekeyR 901 rfl (c_r01_cut (wr A3 0 (fixw n3 (val (A3.take n3) - val (D3.take p3)))) n3 (ws_wr gA3.1 (ws_fixw _ _)) (by rw [len_wr (by rw [len_fixw]; have := gA3.2.1; omega)]; exact gA3.2.1) (by rw [len_wr (by rw [len_fixw]; have := gA3.2.1; omega)]; have := gA3.2.2.1; unfold big; omega))) (.cons (.tmp rfl) .nil) (by first | exact hH0 | exact hH1 rfl | exact hH2 rfl rfl) rfl rfl) ?_
                exact gK4 hK2 (wr A3 0 (fixw n3 (val (A3.take n3) - val (D3.take p3)))) D3 ((ofNat (val (A3.take n3) - val (D3.take p3))).length) p3 ⟨(gok_fix gA3 (by omega)).1,gD3,by omega,.inr xD3,by rw [(gok_fix gA3 (v := val (A3.take n3) - val (D3.take p3)) (by omega)).2.1,gcd_sub hle3,hg4,hg3,hg2,hg1]⟩ (by rw [(gok_fix gA3 (v := val (A3.take n3) - val (D3.take p3)) (by omega)).2.1]; omega) (hw := Wk.of (.cons rfl (Sub.of (by rw [(gok_fix gA3 (v := val (A3.take n3) - val (D3.take p3)) (by omega)).2.2])) (.k (.k .nil))) (.cons rfl (.refl _) (.cons rfl (.refl _) .nil)))
        · have zA1 : val (A1.take n1) = 0 := by
            have h3 : n1 = 0:=by have := ht38; simp [icmp] at this; omega
            exact (gok_zero gA1).1 h3
          rw [zA1,Nat.gcd_zero_left] at hg1
          refine gW ((Wk.freeze (k := 902) rfl).trans <| Wk.of (sl := [(1,some (ws (ofNat (val (D1.take p1))))),(5,some (i64 t))]) (hp := []) (.cons rfl (Sub.of (by rw [fz_ms (by rw [List.length_map]; have := gD1.2.1; omega),lst_take,<- gok_take gD1])) (.k .nil)) .nil) ?_
          refine gL1 [64] [] (fun (i : Nat) => [(1,some (ws (ofNat (2 ^ i * val (D1.take p1))))),(65,some (i64 i))]) (fun _ => []) (fun i => i <= t) (fun i => t - i) 0 (Nat.zero_le _) ?_ (h1 := (.cons rfl (Sub.of (by rw [Nat.pow_zero,Nat.one_mul])) (.k .nil)))
          rintro i hit K5 hK5
          refine gC (fun ht66 => ?_) (fun ht66 => ?_)
          · have hin : i < t := by simpa [icmp] using ht66
            have h3 : 2 ^ i * val (D1.take p1) <= G:=by rw [hg1]; exact Nat.mul_le_mul_right _ (two_pow_le (by omega))
            have h4 : (ofNat (2 ^ i * val (D1.take p1))).length <= a.length := ofNat_length_le (by omega)
            have ht : t < 32 * a.length := c_pow_lt pD1 (by rw [<- hg1]; exact hGa) vla
            refine gc (c_r01_plus _ _ (ws_ofNat _) (ws_ofNat _) (by unfold big; omega) (by unfold big; omega)) ?_
            refine ga (i64_addI (by omega)) ?_
            exact gK1 hK5 (i + 1) hin (hw := Wk.of (.cons rfl (Sub.of (by rw [val_ofNat,Nat.pow_succ]; congr 2; grind)) (.k (.k .nil))) .nil)
          · have hin : i = t := by have : t <= i := by simpa [icmp] using ht66
                                   omega
            subst hin
            refine gE1 ?_
            rw [hg1]
end Go.Lw
namespace Go.Lw
open Go.Proofs
theorem c_r01_Gcd (a b : Wh) (ha : a.ok) (hb : b.ok) (la : a.mag.length + b.mag.length < big) : FnC Tryz.prog 128 [a.av, b.av] (zA (Int.gcd a.z b.z)) := by
 have h1 := Wh.m_le (w := a)
 have h2 := Wh.m_le (w := b)
 have h3 : Int.gcd a.z b.z = Nat.gcd (val a.m) (val b.m):=by rw [Int.gcd,Wh.abs,Wh.abs]
 have h4 : (ofNat (Nat.gcd (val a.m) (val b.m))).length <= a.m.length + b.m.length := by
  rcases Nat.eq_zero_or_pos (val a.m) with h | h
  ·rw [h,Nat.gcd_zero_left,Wh.ofNat_m hb]; omega
  ·exact Nat.le_trans (ofNat_length_le (Nat.lt_of_le_of_lt (Nat.gcd_le_left _ h) (val_lt _ (Wh.ws ha)))) (by omega)
 refine gF0 Tryz.func128 ?_
 refine gc (c_r01_mag a ha) ?_
 refine gc (c_r01_mag b hb) ?_
 refine gc (c_r01_gcd a.m b.m (Wh.ws ha) (Wh.ws hb) a.nz b.nz (by omega)) ?_
 refine gc (c_r01_form false _ (ws_ofNat _) (by omega)) ?_
 refine gD ?_
 refine gE1 ?_
 rw [val_ofNat,h3]; rfl
theorem c_r01_Div (a b : Wh) (ha : a.ok) (hb : b.ok) (la : a.mag.length + 1 < big) (lb : b.mag.length < big) (h0 : b.z ≠ 0) : FnC Tryz.prog 129 [a.av, b.av] (.tup [zA (a.z / b.z), zA (a.z % b.z), i64 0]) := by
 have hm1 := Wh.m_le (w := a)
 have hm2 := Wh.m_le (w := b)
 have hb1 : val b.m ≠ 0:=by have := Wh.abs (w := b); omega
 have hl1 : (ofNat (val a.m / val b.m)).length <= a.m.length := ofNat_length_le (Nat.lt_of_le_of_lt (Nat.div_le_self _ _) (val_lt _ (Wh.ws ha)))
 have hmod := Nat.mod_lt (val a.m) (show 0 < val b.m by omega)
 have hl2 : (ofNat (val a.m % val b.m)).length <= b.m.length := ofNat_length_le (Nat.lt_trans hmod (val_lt _ (Wh.ws hb)))
 have hl3 : (ofNat (val a.m / val b.m + 1)).length <= a.m.length + 1 := ofNat_length_le (by have h7 := Nat.lt_of_le_of_lt (Nat.div_le_self (val a.m) (val b.m)) (val_lt _ (Wh.ws ha)); rw [Nat.pow_succ]; generalize val a.m / val b.m = m at *; omega)
 have hl4 : (ofNat (val b.m - val a.m % val b.m)).length <= b.m.length := ofNat_length_le (by have := val_lt _ (Wh.ws hb); omega)
 have hv1 : val [1] = 1 := rfl
 refine gF0 Tryz.func129 ?_
 refine gc (c_r01_Sign b hb) ?_
 refine gC (fun ht11 => ?_) (fun ht11 => ?_) (st1 := (2,0))
 ·exact absurd (Int.sign_eq_zero_iff_zero.1 (by simpa [icmp] using ht11)) h0
 ·refine gc (c_r01_mag a ha) ?_
  refine gc (c_r01_mag b hb) ?_
  refine gc (c_r01_divide a.m b.m (Wh.ws ha) (Wh.ws hb) a.nz hb1 (by omega) (by omega)) ?_
  refine gD ?_
  refine gc (c_r01_neg a ha) ?_
  refine glG ?_
  refine gC (fun ht28 => ?_) (fun ht28 => ?_)
  ·have h1 : a.n = true /\ 0 < val a.m % val b.m := div_cond.1 ht28
   obtain ⟨e1,e2⟩ := div_high hb1 h1.1 h1.2
   refine gc (c_r01_plus (ofNat (val a.m / val b.m)) [1] (ws_ofNat _) (ws_one (by omega)) (by omega) (by unfold big; simp)) ?_
   refine gc (c_r01_mag b hb) ?_
   refine gc (c_r01_minus b.m (ofNat (val a.m % val b.m)) (Wh.ws hb) (ws_ofNat _) (by omega) (by rw [val_ofNat]; omega)) ?_
   refine gD ?_ (6,0)
   refine gW (Wk.of (sl := [(2,some (.ptr 2 0)),(3,some (.ptr 3 0)),(4,some (.ptr 4 0)),(5,some (.ptr 5 0)),(7,some (ws (ofNat (val a.m / val b.m + 1)))),(8,some (ws (ofNat (val b.m - val a.m % val b.m))))]) (hp := [(2,some (.box [bl a.neg,ws a.mag])),(3,some (.box [bl b.neg,ws b.mag])),(4,some (.box [.v (.bool false),.v (.slice none 0 0)])),(5,some (.box [.v (.bool false),.v (.slice none 0 0)]))]) (.k (.k (.k (.k (.cons rfl (Sub.of (by rw [val_ofNat,hv1])) (.cons rfl (Sub.of (by rw [val_ofNat])) .nil)))))) (.cons rfl (.refl _) (.cons rfl (.refl _) (.cons rfl (.refl _) (.cons rfl (.refl _) .nil))))) ?_
   refine gc (c_r01_neg a ha) ?_
   refine gc (c_r01_neg b hb) ?_
   refine gc (by apply c_r01_form _ _ (ws_ofNat _) (by omega)) ?_
   refine gc (by apply c_r01_form _ _ (ws_ofNat _) (by omega)) ?_
   refine gD ?_
   refine gR ?_
   exact fin_eq3 (by rw [val_ofNat,val_ofNat,e1,show sgn false _ = _ from e2]; rfl)
  ·have h1 : ¬ (a.n = true /\ 0 < val a.m % val b.m) := fun h => Bool.eq_false_iff.1 ht28 (div_cond.2 h)
   obtain ⟨e1,e2⟩ := div_low hb1 h1
   refine gc (c_r01_neg a ha) ?_
   refine gc (c_r01_neg b hb) ?_
   refine gc (by apply c_r01_form _ _ (ws_ofNat _) (by omega)) ?_
   refine gc (by apply c_r01_form _ _ (ws_ofNat _) (by omega)) ?_
   refine gD ?_
   refine gR ?_
   exact fin_eq3 (by rw [val_ofNat,val_ofNat,e1,show sgn false _ = _ from e2]; rfl)
end Go.Lw
namespace Go.Lw
open Go.Proofs
theorem z_Sign {x : Int} (hx : Zs x) : FnC Tryz.prog 201 [zA x] (i64 x.sign) := by
 have h := c_integer_Sign (ofInt x) hx.ok
 rw [ofInt_z] at h
 exact h
theorem z_Neg {x : Int} (hx : Zs x) : FnC Tryz.prog 223 [zA x] (zA (-x)) := by
 have h := c_integer_Neg (ofInt x) hx.ok (by have := hx.len; unfold big; omega)
 rw [ofInt_z] at h
 exact h
theorem z_Cmp {x y : Int} (hx : Zs x) (hy : Zs y) : FnC Tryz.prog 196 [zA x, zA y] (i64 (cmp3 x y)) := by
 have h := c_integer_Cmp (ofInt x) (ofInt y) hx.ok hy.ok
 rw [ofInt_z,ofInt_z] at h
 exact h
theorem z_Add {x y : Int} (hx : Zs x) (hy : Zs y) : FnC Tryz.prog 221 [zA x, zA y] (zA (x + y)) := by
 have h := c_integer_Add (ofInt x) (ofInt y) hx.ok hy.ok (by have := hx.len; unfold big; omega) (by have := hy.len; unfold big; omega)
 rw [ofInt_z,ofInt_z] at h
 exact h
theorem z_Mul {x y : Int} (hx : Zs x) (hy : Zs y) : FnC Tryz.prog 222 [zA x, zA y] (zA (x * y)) := by
 have h := c_integer_Mul (ofInt x) (ofInt y) hx.ok hy.ok (by have := hx.len; have := hy.len; unfold big; omega)
 rw [ofInt_z,ofInt_z] at h
 exact h
theorem z_Gcd {x y : Int} (hx : Zs x) (hy : Zs y) : FnC Tryz.prog 197 [zA x, zA y] (zA (Int.gcd x y)) := by
 have h := c_integer_Gcd (ofInt x) (ofInt y) hx.ok hy.ok (by have := hx.len; unfold big; omega) (by have := hy.len; unfold big; omega)
 rw [ofInt_z,ofInt_z] at h
 exact h
theorem z_Div {x y : Int} (hx : Zs x) (hy : Zs y) (h0 : y ≠ 0) : FnC Tryz.prog 224 [zA x, zA y] (.tup [zA (x / y), zA (x % y), .v .nilIface]) := by
 have h := c_integer_Div (ofInt x) (ofInt y) hx.ok hy.ok (by have := hx.len; unfold big; omega) (by have := hy.len; unfold big; omega) (by rw [ofInt_z]; exact h0)
 rw [ofInt_z,ofInt_z] at h
 exact h
theorem zr_Sign {x : Int} (hx : Zs x) : FnC Tryz.prog 126 [zA x] (i64 x.sign) := by
 have h := c_r01_Sign (ofInt x) hx.ok
 rw [ofInt_z] at h
 exact h
theorem zr_Neg {x : Int} (hx : Zs x) : FnC Tryz.prog 127 [zA x] (zA (-x)) := by
 have h := c_r01_Neg (ofInt x) hx.ok (by have := hx.len; unfold big; omega)
 rw [ofInt_z] at h
 exact h
theorem zr_Cmp {x y : Int} (hx : Zs x) (hy : Zs y) : FnC Tryz.prog 206 [zA x, zA y] (i64 (cmp3 x y)) := by
 have h := c_r01_Cmp (ofInt x) (ofInt y) hx.ok hy.ok (by have := hx.len; unfold big; omega) (by have := hy.len; unfold big; omega)
 rw [ofInt_z,ofInt_z] at h
 exact h
theorem zr_Add {x y : Int} (hx : Zs x) (hy : Zs y) : FnC Tryz.prog 193 [zA x, zA y] (zA (x + y)) := by
 have h := c_r01_Add (ofInt x) (ofInt y) hx.ok hy.ok (by have := hx.len; unfold big; omega) (by have := hy.len; unfold big; omega)
 rw [ofInt_z,ofInt_z] at h
 exact h
theorem zr_Mul {x y : Int} (hx : Zs x) (hy : Zs y) : FnC Tryz.prog 194 [zA x, zA y] (zA (x * y)) := by
 have h := c_r01_Mul (ofInt x) (ofInt y) hx.ok hy.ok (by have := hx.len; have := hy.len; unfold big; omega)
 rw [ofInt_z,ofInt_z] at h
 exact h
theorem zr_Gcd {x y : Int} (hx : Zs x) (hy : Zs y) : FnC Tryz.prog 128 [zA x, zA y] (zA (Int.gcd x y)) := by
 have h := c_r01_Gcd (ofInt x) (ofInt y) hx.ok hy.ok (by have := hx.len; have := hy.len; unfold big; omega)
 rw [ofInt_z,ofInt_z] at h
 exact h
theorem zr_Div {x y : Int} (hx : Zs x) (hy : Zs y) (h0 : y ≠ 0) : FnC Tryz.prog 129 [zA x, zA y] (.tup [zA (x / y), zA (x % y), i64 0]) := by
 have h := c_r01_Div (ofInt x) (ofInt y) hx.ok hy.ok (by have := hx.len; unfold big; omega) (by have := hy.len; unfold big; omega) (by rw [ofInt_z]; exact h0)
 rw [ofInt_z,ofInt_z] at h
 exact h
end Go.Lw
namespace Go.Lw
open Go.Proofs
def errV (e : Nat) : Value := match e with | 0 => .nilIface | e + 1 => .iface 93 (.int .i64 ((e + 1 : Nat) : Int))
def errA (e : Nat) : AV := .v (errV e)
theorem errV_or (e : Nat) : errV e = .nilIface \/ ∃ T u,errV e = .iface T u:=by cases e; exact .inl rfl; exact .inr ⟨_,_,rfl⟩
theorem isNil_err (e : Nat) : isNil (errV e) = decide (e = 0):=by cases e <;> simp [errV,isNil]
theorem isNil_t {e : Nat} (h : isNil (errV e) = true) : e = 0:=by rw [isNil_err] at h; exact of_decide_eq_true h
theorem isNil_f {e : Nat} (h : isNil (errV e) = false) : e ≠ 0:=by rw [isNil_err] at h; exact of_decide_eq_false h
theorem nNil_t {e : Nat} (h : (!isNil (errV e)) = true) : e ≠ 0 := isNil_f (by cases h' : isNil (errV e) <;> simp_all)
theorem nNil_f {e : Nat} (h : (!isNil (errV e)) = false) : e = 0 := isNil_t (by cases h' : isNil (errV e) <;> simp_all)
theorem c_fraction_one : FnC Tryz.prog 152 [] (zA 1) := by
 refine gF0 Tryz.func152 ?_
 refine gc (c_integer_Of 1 (by omega)) ?_
 refine gE1 ?_
 first | rfl | (simp; done)
theorem c_fraction_Valid (r : Rt) (h : r.ok) : FnC Tryz.prog 134 [r.av] (bl r.valid) := by
 have hn := h.n0
 have hd := h.d0
 refine gF0 Tryz.func134 ?_
 refine gl ?_
 refine glG ?_
 refine gC (fun ht14 => ?_) (fun ht14 => ?_)
 ·have h0 : r.num = [] /\ r.den = [] := by simpa [icmp] using ht14
  refine gE1 ?_
  unfold Rt.valid; rw [if_pos h0]; rfl
 ·have h0 : ¬ (r.num = [] /\ r.den = []) := by
   have := ht14
   simp [icmp] at this
   exact fun h => this h.1 h.2
  refine gD ?_
  refine gl ?_
  refine glG ?_
  refine gcG (fun _ => (c_integer_Valid r.n0 hn)) ?_
  refine gcG (fun _ => (c_integer_Valid r.d0 hd)) ?_
  refine gC (fun ht43 => ?_) (fun ht43 => ?_)
  ·have h1 : r.valid = false := valid_no h0 ht43
   refine gE1 ?_
   rw [h1]; rfl
  ·have h1 := valid_yes h0 ht43
   refine gc (c_integer_Gcd r.n0 r.d0 hn hd h.n0l h.d0l) ?_
   refine gc (by apply c_fraction_one) ?_
   refine gc (z_Cmp (Rt.gcd_zs h) zs1) ?_
   refine gE1 ?_
   rw [h1]; rfl
theorem c_fraction_Parts (r : Rt) (h : r.ok) : FnC Tryz.prog 200 [r.av] (.tup [zA r.q.num, zA r.q.den]) := by
 have hl1 : r.num.length <= 137438953472 := h.2.2.1
 have hl2 : r.den.length <= 137438953472 := h.2.2.2
 refine gF0 Tryz.func200 ?_
 refine gc (c_fraction_Valid r h) ?_
 refine glG ?_
 refine gC (fun ht12 => ?_) (fun ht12 => ?_)
 ·have h0 : ¬ (r.valid = true /\ r.num ≠ []) := by
   have := ht12
   intro h'
   simp [icmp,h'.1,h'.2] at this
  refine gc c_fraction_one ?_
  refine gR ?_
  exact fin_sub (by rw [Rt.zero h0]; exact Sub.tup (.cons sub_zz (.cons (.refl _) .nil)))
 ·have h0 : r.valid = true /\ r.num ≠ [] := by
   have := ht12
   cases hv : r.valid
   ·rw [hv] at this; cases this
   ·rw [hv] at this; exact ⟨rfl,by simpa [icmp] using this⟩
  obtain ⟨e1,e2,e3,e4,e5,e6⟩ := Rt.parts h h0.1 h0.2
  refine gs (s_buildMs0 T29 rfl T204 rfl rfl rfl) ?_
  refine gs (s_append (.tmp rfl) rfl rfl (.tmp rfl) T29 rfl T204 rfl rfl (by simp only [List.length_map]; omega) rfl rfl) ?_
  refine gD ?_ (4,0)
  refine gW ((Wk.freeze (k := 20) rfl).trans <| Wk.of (sl := [(1,some (.ptr 1 0)),(2,some (.ptr 2 0)),(3,some (.ptr 3 0))]) (hp := [(1,some (.box [bl r.neg,ws r.num,ws r.den])),(2,some (.box [bl r.neg,ws r.num])),(3,some (.box [bl false,.v (.slice none 0 0)]))]) (by repeat (first | exact SlW.nil | refine SlW.k ?_)) (.cons rfl (.refl _) (.cons rfl (BlkSub.boxL (.cons (.refl _) (.cons (.of (fz_all (by simp))) .nil)) rfl) (.cons rfl (.refl _) .nil)))) ?_
  refine gs (s_buildMs0 T29 rfl T204 rfl rfl rfl) ?_
  refine gs (s_append (.tmp rfl) rfl rfl (.tmp rfl) T29 rfl T204 rfl rfl (by simp only [List.length_map]; omega) rfl rfl) ?_
  refine gD ?_ (77777,0)
  refine gW ((Wk.freeze (k := 26) rfl).trans <| Wk.of (sl := [(2,some (.ptr 2 0)),(3,some (.ptr 3 0))]) (hp := [(2,some (.box [bl r.neg,ws r.num])),(3,some (.box [bl false,ws r.den]))]) (by repeat (first | exact SlW.nil | refine SlW.k ?_)) (.cons rfl (.refl _) (.cons rfl (BlkSub.boxL (.cons (.refl _) (.cons (.of (fz_all (by simp))) .nil)) rfl) .nil))) ?_
  refine gE2 ?_
  rw [e1,e2]; exact parts_av e3 e4 e5
theorem c_fraction_form {n d : Int} (hn : Zs n) (hd : Zs d) (h0 : d ≠ 0) : FnC Tryz.prog 150 [zA n, zA d] (qA (Rat.divInt n d)) := by
  refine gF0 Tryz.func150 ?_
  refine gc (z_Sign hn) ?_
  refine gC (fun ht9 => ?_) (fun ht9 => ?_)
  · have e0 : n = 0 := Int.sign_eq_zero_iff_zero.1 (by simpa [icmp] using ht9)
    refine gR ?_
    exact fin_sub1 (by rw [e0,Rat.zero_divInt]; exact sub_q0)
  · have e0 : n ≠ 0 := fun h => by rw [h] at ht9; cases ht9
    refine gc (z_Sign hd) ?_
    refine gJ2 [2,3,4] [4] (fun (n1 d1 : Int) => []) (fun n1 d1 => [(2,some (.box (zA n1).cells)),(3,some (.box (zA d1).cells))]) (fun n1 d1 => 0 < d1 /\ n1 ≠ 0 /\ Zs n1 /\ Zs d1 /\ Rat.divInt n1 d1 = Rat.divInt n d) ?_ ?_
    · intro K1 hK1
      refine gC (fun ht13 => ?_) (fun ht13 => ?_)
      · have e1 : d < 0 := Int.sign_eq_neg_one_iff_neg.1 (by have := Int.sign_trichotomy d; have h9 : d.sign < 0 := by simpa [icmp] using ht13
                                                             omega)
        refine gc (z_Neg hn) ?_
        refine gc (z_Neg hd) ?_
        refine gD ?_
        exact jK2 hK1 (-n) (-d) ⟨by omega,by omega,hn.neg,hd.neg,divInt_neg2 n d⟩
      · have e1 : 0 < d := by
          have h9 : 0 <= d.sign:=by simpa [icmp] using ht13
          have := Int.sign_nonneg_iff.1 h9
          omega
        exact jK2 hK1 n d ⟨e1,e0,hn,hd,rfl⟩
    · rintro n1 d1 ⟨f1, f2, f3, f4, f5⟩
      refine gc (z_Gcd f3 f4) ?_
      refine gc (z_Sign f3) ?_
      refine gJ1 [2,3,4,5] [3,4,5] (fun (n2 : Int) => [(6,some (bl (decide (n1 < 0))))]) (fun n2 => [(2,some (.box (zA n2).cells))]) (fun n2 => n2 = (n1.natAbs : Int)) ?_ ?_
      · intro K2 hK2
        refine gC (fun ht24 => ?_) (fun ht24 => ?_)
        · have e2 : n1 < 0 := Int.sign_eq_neg_one_iff_neg.1 (by have := Int.sign_trichotomy n1; have h9 : n1.sign < 0 := by simpa [icmp] using ht24
                                                                omega)
          refine gc (z_Neg f3) ?_
          exact jK1 hK2 (-n1) (by omega) (hw := Wk.of (.cons rfl (Sub.of (by rw [show icmp .lss n1.sign 0 = true from ht24,decide_eq_true e2]; rfl)) (.k (.k (.k (.k .nil))))) (.cons rfl (.refl _) (.cons rfl (.refl _) (.cons rfl (.refl _) (.cons rfl (.refl _) .nil)))))
        · have e2 : 0 < n1 := by
            have h9 : 0 <= n1.sign:=by simpa [icmp] using ht24
            have := Int.sign_nonneg_iff.1 h9
            omega
          exact jK1 hK2 n1 (by omega) (hw := Wk.of (.cons rfl (Sub.of (by rw [show icmp .lss n1.sign 0 = false from ht24,decide_eq_false (by omega)]; rfl)) (.k (.k (.k (.k .nil))))) (.cons rfl (.refl _) (.cons rfl (.refl _) (.cons rfl (.refl _) (.cons rfl (.refl _) .nil)))))
      · rintro n2 g1
        have g2 : Zs (Int.gcd n1 d1 : Int) := f3.of_le (by rw [Int.natAbs_natCast]; exact Nat.le_of_dvd (by omega) (Int.gcd_dvd_natAbs_left _ _))
        have g3 : (Int.gcd n1 d1 : Int) ≠ 0:=by have := Int.gcd_pos_of_ne_zero_left d1 f2; omega
        have g4 : Zs n2 := f3.of_le (by omega)
        refine gc (z_Div g4 g2 g3) ?_
        refine gc (z_Div f4 g2 g3) ?_
        refine gE1 ?_
        rw [<- f5,<- form_av f1 f2,<- g1]; rfl
theorem c_fraction_From {n d : Int} (hn : Zs n) (hd : Zs d) : FnC Tryz.prog 372 [zA n, zA d] (.tup [qA (Rat.divInt n d), errA (if d = 0 then 8 else 0)]) := by
 refine gF0 Tryz.func372 ?_
 refine gc (z_Sign hd) ?_
 refine gC (fun ht8 => ?_) (fun ht8 => ?_)
 ·have h0 : d = 0 := Int.sign_eq_zero_iff_zero.1 (by simpa [icmp] using ht8)
  refine gR ?_
  exact fin_sub (by rw [if_pos h0,h0,Rat.divInt_zero]; exact Sub.tup (.cons sub_q0 (.cons (.refl _) .nil)))
 ·have h0 : d ≠ 0 := fun h => by rw [h] at ht8; cases ht8
  refine gc (c_fraction_form hn hd h0) ?_
  refine gE2 ?_
  rw [if_neg h0]; rfl
theorem c_fraction_Of (n : Int) (h : -9223372036854775808 <= n /\ n <= 9223372036854775807) : FnC Tryz.prog 88 [i64 n] (qA n) := by
 have hz : Zs n := ⟨2,by omega,by unfold Lz; simp only [Nat.reducePow]; omega⟩
 refine gF0 Tryz.func88 ?_
 refine gc (c_integer_Of n h) ?_
 refine gc c_fraction_one ?_
 refine gc (c_fraction_form hz zs1 (by omega)) ?_
 refine gE1 ?_
 exact congrArg qA (Rat.num_divInt_den (n : Rat))
theorem c_fraction_Neg (a : Rt) (ha : a.ok) : FnC Tryz.prog 228 [a.av] (qA (-a.q)) := by
 have za := ha.qs
 refine gF0 Tryz.func228 ?_
 refine gc (c_fraction_Parts a ha) ?_
 refine gc (z_Neg za.num) ?_
 refine gc (c_fraction_form za.num.neg za.den (by have := a.q.den_nz; omega)) ?_
 refine gD ?_
 refine gE1 ?_
 rw [rat_neg]; rfl
theorem c_fraction_Sign (a : Rt) (ha : a.ok) : FnC Tryz.prog 136 [a.av] (i64 (sgnQ a.q)) := by
 refine gF0 Tryz.func136 ?_
 refine gc (c_fraction_Parts a ha) ?_
 refine gc (z_Sign ha.qs.num) ?_
 refine gE1 ?_
 rw [rat_sign]
theorem c_fraction_Cmp (a b : Rt) (ha : a.ok) (hb : b.ok) : FnC Tryz.prog 235 [a.av, b.av] (i64 (sgnQ (a.q - b.q))) := by
 have za := ha.qs
 have zb := hb.qs
 have m1 := za.mul zb
 have m2 := zb.mul za
 refine gF0 Tryz.func235 ?_
 refine gc (c_fraction_Parts a ha) ?_
 refine gc (c_fraction_Parts b hb) ?_
 refine gc (z_Mul za.num zb.den) ?_
 refine gc (z_Mul zb.num za.den) ?_
 refine gc (z_Cmp m1.1 m2.1) ?_
 refine gD ?_
 refine gE1 ?_
 rw [rat_cmp]
theorem c_fraction_Add (a b : Rt) (ha : a.ok) (hb : b.ok) : FnC Tryz.prog 149 [a.av, b.av] (qA (a.q + b.q)) := by
 have za := ha.qs
 have zb := hb.qs
 have m1 := za.mul zb
 have m2 := zb.mul za
 refine gF0 Tryz.func149 ?_
 refine gc (c_fraction_Parts a ha) ?_
 refine gc (c_fraction_Parts b hb) ?_
 refine gc (z_Mul za.num zb.den) ?_
 refine gc (z_Mul zb.num za.den) ?_
 refine gc (z_Add m1.1 m2.1) ?_
 refine gc (z_Mul za.den zb.den) ?_
 refine gc (c_fraction_form (za.cross zb) m1.2.2.1 (Int.mul_ne_zero (by have := a.q.den_nz; omega) (by have := b.q.den_nz; omega))) ?_
 refine gD ?_
 refine gE1 ?_
 rw [rat_add]; rfl
theorem c_fraction_Sub (a b : Rt) (ha : a.ok) (hb : b.ok) : FnC Tryz.prog 313 [a.av, b.av] (qA (a.q - b.q)) := by
 refine gF0 Tryz.func313 ?_
 refine gc (c_fraction_Neg b hb) ?_
 refine gc (c_fraction_Add a (rt (-b.q)) ha hb.qs.neg.ok) ?_
 refine gD ?_
 refine gE1 ?_
 rw [rt_q,<- Rat.sub_eq_add_neg]; rfl
theorem c_fraction_Mul (a b : Rt) (ha : a.ok) (hb : b.ok) : FnC Tryz.prog 279 [a.av, b.av] (qA (a.q * b.q)) := by
 have za := ha.qs
 have zb := hb.qs
 have m1 := za.mul zb
 refine gF0 Tryz.func279 ?_
 refine gc (c_fraction_Parts a ha) ?_
 refine gc (c_fraction_Parts b hb) ?_
 refine gc (z_Mul za.num zb.num) ?_
 refine gc (z_Mul za.den zb.den) ?_
 refine gc (c_fraction_form m1.2.1 m1.2.2.1 (Int.mul_ne_zero (by have := a.q.den_nz; omega) (by have := b.q.den_nz; omega))) ?_
 refine gD ?_
 refine gE1 ?_
 rw [rat_mul]; rfl
theorem c_fraction_Div (a b : Rt) (ha : a.ok) (hb : b.ok) : FnC Tryz.prog 349 [a.av, b.av] (.tup [qA (a.q / b.q), errA (if b.q = 0 then 8 else 0)]) := by
 have za := ha.qs
 have zb := hb.qs
 have m1 := za.mul zb
 refine gF0 Tryz.func349 ?_
 refine gc (c_fraction_Parts a ha) ?_
 refine gc (c_fraction_Parts b hb) ?_
 refine gc (z_Mul za.num zb.den) ?_
 refine gc (z_Mul za.den zb.num) ?_
 refine gc (c_fraction_From m1.1 m1.2.2.2) ?_
 refine gD ?_
 refine gE2 ?_
 have e1 : ((a.q.den : Int) * b.q.num = 0) = (b.q = 0) := by
  apply propext
  rw [<- Rat.num_eq_zero,Int.mul_eq_zero]
  exact ⟨fun h => h.resolve_left (by have := a.q.den_nz; omega),.inr⟩
 simp only [rat_div,e1]
 rfl
end Go.Lw
namespace Go.Lw
structure Pq where
  c : List Rat
  s : List Rat
  x : List Rat
  y : List Rat
def Pq.av (p : Pq) : AV := .agg [nA p.c,nA p.s,nA p.x,nA p.y]
structure Pq.ok (n e : Nat) (p : Pq) : Prop where
  c : Nm n e p.c
  s : Nm n e p.s
  x : Nm n e p.x
  y : Nm n e p.y
def posed (p : Pse) : Pq := ⟨sh 0 (cosQ p.turn.half p.turn.t.q : Rat),sh 0 (sinQ p.turn.half p.turn.t.q : Rat),sh 0 (p.at_.x.q : Rat),sh 0 (p.at_.y.q : Rat)⟩
def ofE (ps : List Pse) : Nat := if ps.all Pse.ok = true then 0 else 2
def sameP (ts : List (List Rat)) (b : Pl) (w : Pq) : Bool :=
  eqT ts (dec ts.length (lq b.c)) (dec ts.length w.c) && eqT ts (dec ts.length (lq b.s)) (dec ts.length w.s) && eqT ts (dec ts.length (lq b.x)) (dec ts.length w.x) && eqT ts (dec ts.length (lq b.y)) (dec ts.length w.y)
def mE (a : As) (ps : List Pse) : Nat :=
  if chkE a.rs ≠ 0 then chkE a.rs else if ofE ps ≠ 0 then ofE ps else if a.bs.length ≠ ps.length then 10 else firstE (a.bs.map (fun b => chksE a.rs b.l))
def mB (a : As) (ps : List Pse) : Bool := decide (mE a ps = 0) && (a.bs.zip ps).all (fun z => sameP (llq a.rs) z.1 (posed z.2))
theorem pl_canon {rs : List (List Rt)} {b : Pl} (h : chksE rs b.l = 0) (hb : ∀ x ∈ b.l, NR x 4000) (h5 : rs.length <= 5) :
  b.av = Pq.av ⟨lq b.c,lq b.s,lq b.x,lq b.y⟩ /\ Pq.ok rs.length 4000 ⟨lq b.c,lq b.s,lq b.x,lq b.y⟩ := by
 have h1 := (chks_ok h).2
 have g : ∀ x ∈ b.l, nR x = nA (lq x) /\ Nm rs.length 4000 (lq x) := fun x hx => by
  obtain ⟨e1,e2⟩ := (hb x hx).num (h1 x hx)
  exact ⟨e1,h5,e2,(hb x hx).cb⟩
 have c := g b.c (by simp [Pl.l])
 have s := g b.s (by simp [Pl.l])
 have x := g b.x (by simp [Pl.l])
 have y := g b.y (by simp [Pl.l])
 exact ⟨by unfold Pl.av Pq.av; rw [c.1,s.1,x.1,y.1],c.2,s.2,x.2,y.2⟩
end Go.Lw
namespace Go.Lw
instance : Inhabited Tn := ⟨⟨⟨false,[],[]⟩,false⟩⟩
def firstB (n : Nat) (ok : Nat -> Bool) : Option Nat := (List.range n).find? (fun i => !ok i)
theorem firstB_at {n i : Nat} {ok : Nat -> Bool} (hi : i < n) (h : ∀ j, j < i -> ok j = true) (he : ok i = false) : firstB n ok = some i := by
 unfold firstB
 rw [List.find?_range_eq_some]
 exact ⟨by rw [he]; rfl,by simpa using hi,fun j hj => by rw [h j hj]; rfl⟩
theorem firstB_all {n : Nat} {ok : Nat -> Bool} (h : ∀ j, j < n -> ok j = true) : firstB n ok = none := by
 unfold firstB
 rw [List.find?_range_eq_none]
 exact fun j hj => by rw [h j hj]; rfl
def ixI : Option Nat -> Int
  | none => -1
  | some i => i
abbrev decL (ts : List (List Rat)) (x : List Rt) : T ts.length := dec ts.length (lq x)
def atP (ts : List (List Rat)) (b : Pl) (m : Mk) : T ts.length × T ts.length := (atX ts (decL ts b.c) (decL ts b.s) (decL ts b.x) m.x.q m.y.q,atY ts (decL ts b.c) (decL ts b.s) (decL ts b.y) m.x.q m.y.q)
def ptAt (l : Li) (a : As) (body pt : Int) : T (llq a.rs).length × T (llq a.rs).length := atP (llq a.rs) (a.bs.getD body.toNat default) ((ptsAt l body).getD pt.toNat default)
theorem li_parts {l : Li} (h : liE l = 0) : bdsE l = 0 /\ jtsE l = 0 /\ drsE l = 0 /\ l.bodies.length <= 8 /\ l.bodies.length ≠ 0 := by
 unfold liE at h
 split at h
 ·cases h
 ·split at h
  ·cases h
  ·split at h
   ·cases h
   ·split at h
    ·rename_i h1; exact absurd h h1
    ·rename_i g1 _ h1
     split at h
     ·rename_i h2; exact absurd h h2
     ·rename_i h2; exact ⟨Decidable.not_not.1 h1,Decidable.not_not.1 h2,h,by omega,by omega⟩
theorem jt_at {l : Li} (h : liE l = 0) {i : Nat} {j : Jt} (hj : l.joints[i]? = some j) : jt0 l j = 0 := by
 have h1 := (li_parts h).2.1
 unfold jtsE at h1
 split at h1
 ·cases h1
 ·have h2 := firstN_zero h1 i (List.getElem?_eq_some_iff.1 hj).1
  unfold jtE at h2
  rw [getD_of hj] at h2
  split at h2
  ·cases h2
  ·split at h2
   ·cases h2
   ·exact h2
theorem jt_in {l : Li} (h : liE l = 0) {i : Nat} {j : Jt} (hj : l.joints[i]? = some j) :
  inB j.a l.bodies.length = true /\ inB j.b l.bodies.length = true /\ inB j.point (ptsAt l j.a).length = true /\ inB j.on (ptsAt l j.b).length = true /\ (j.kind ≠ 0 -> inB j.to (ptsAt l j.b).length = true) := by
 have h1 := jt_at h hj
 unfold jt0 at h1
 split at h1
 ·cases h1
 ·split at h1
  ·cases h1
  ·rename_i h2
   split at h1
   ·cases h1
   ·split at h1
    ·cases h1
    ·rename_i h3
     have a1 : inB j.a l.bodies.length = true:=by cases h : inB j.a l.bodies.length <;> simp_all
     have a2 : inB j.b l.bodies.length = true:=by cases h : inB j.b l.bodies.length <;> simp_all
     have a3 : inB j.point (ptsAt l j.a).length = true:=by cases h : inB j.point (ptsAt l j.a).length <;> simp_all
     have a4 : inB j.on (ptsAt l j.b).length = true:=by cases h : inB j.on (ptsAt l j.b).length <;> simp_all
     refine ⟨a1,a2,a3,a4,fun hk => ?_⟩
     rw [if_neg hk] at h1
     split at h1
     ·cases h1
     ·rename_i h4; cases h : inB j.to (ptsAt l j.b).length <;> simp_all
theorem dr_in {l : Li} (h : liE l = 0) {i : Nat} {d : Dr} (hd : l.drivers[i]? = some d) : inB d.body l.bodies.length = true := by
 have h1 := (li_parts h).2.2.1
 unfold drsE at h1
 split at h1
 ·cases h1
 ·have h2 := firstN_zero h1 i (List.getElem?_eq_some_iff.1 hd).1
  unfold drE at h2
  rw [getD_of hd] at h2
  split at h2
  ·cases h2
  ·split at h2
   ·cases h2
   ·split at h2
    ·cases h2
    ·rename_i h3; cases h : inB d.body l.bodies.length <;> simp_all
theorem mk_valid {l : Li} (h : liE l = 0) {n k : Nat} {b : Bd} {m : Mk} (hb : l.bodies[n]? = some b) (hm : b.pts[k]? = some m) : m.x.valid = true /\ m.y.valid = true := by
 have h2 := firstN_zero (li_parts h).1 n (List.getElem?_eq_some_iff.1 hb).1
 unfold bdE at h2
 rw [getD_of hb] at h2
 split at h2
 ·cases h2
 ·split at h2
  ·cases h2
  ·split at h2
   ·cases h2
   ·have h3 := firstN_zero h2 k (List.getElem?_eq_some_iff.1 hm).1
    unfold mkE at h3
    rw [getD_of hm] at h3
    split at h3
    ·cases h3
    ·split at h3
     ·cases h3
     ·split at h3
      ·assumption
      ·cases h3
structure Good (l : Li) (a : As) : Prop where
  lo : l.ok
  li : liE l = 0
  al : AL a
  ck : chkE a.rs = 0
  cb : ∀ b ∈ a.bs,chksE a.rs b.l = 0
  ln : a.bs.length = l.bodies.length
theorem Good.tw {l : Li} {a : As} (h : Good l a) : Tw (llq a.rs) 40000 /\ towR a.rs = towA (llq a.rs) /\ a.rs.length <= 5 /\ (llq a.rs).length = a.rs.length := by
 obtain ⟨tw,hta⟩ := chk_tw h.al.tr h.ck
 have h5 : a.rs.length <= 5:=by have := tw.five; rwa [List.length_map] at this
 exact ⟨tw,hta,h5,List.length_map _⟩
theorem Good.pl {l : Li} {a : As} (h : Good l a) {n : Nat} {b : Pl} (hb : a.bs[n]? = some b) :
  b.av = Pq.av ⟨lq b.c,lq b.s,lq b.x,lq b.y⟩ /\ Pq.ok (llq a.rs).length 4000 ⟨lq b.c,lq b.s,lq b.x,lq b.y⟩ := by
 have h1 := pl_canon (h.cb b (List.mem_of_getElem? hb)) (h.al.nr b (List.mem_of_getElem? hb)) h.tw.2.2.1
 rw [h.tw.2.2.2]
 exact h1
structure AtP (l : Li) (a : As) (body pt : Int) (n k : Nat) (bd : Bd) (m : Mk) (b : Pl) : Prop where
  hn : body = n
  hk : pt = k
  gbd : l.bodies[n]? = some bd
  gm : bd.pts[k]? = some m
  gb : a.bs[n]? = some b
  eq : ptAt l a body pt = atP (llq a.rs) b m
  mx : m.x.av = qA m.x.q
  my : m.y.av = qA m.y.q
  qx : Qb 4000 m.x.q
  qy : Qb 4000 m.y.q
theorem Good.at {l : Li} {a : As} (h : Good l a) {body pt : Int} (h1 : inB body l.bodies.length = true) (h2 : inB pt (ptsAt l body).length = true) : ∃ n k bd m b, AtP l a body pt n k bd m b := by
 obtain ⟨bd,g1,g2,g3,g4⟩ := bodyAt h1
 rw [g2] at h2
 obtain ⟨m,g5,g6,g7,g8⟩ := markAt h2
 obtain ⟨b,hb⟩ := getx (l := a.bs) (i := body.toNat) (by rw [h.ln]; exact (List.getElem?_eq_some_iff.1 g1).1)
 have hv := mk_valid h.li g1 g5
 have ho := (h.lo.bodies bd g3).pts m g7
 exact ⟨body.toNat, pt.toNat, bd, m, b, by omega, by omega, g1, g5, hb, by unfold ptAt; rw [getD_of hb, g2, g6],
  by rw [show qA m.x.q = (rt m.x.q).av from rfl,<- Rt.eq_rt ho.x hv.1],by rw [show qA m.y.q = (rt m.y.q).av from rfl,<- Rt.eq_rt ho.y hv.2],ho.qx.mono (by omega),ho.qy.mono (by omega)⟩
theorem kb4 {n : Nat} (h : n <= 3) : kB 40000 n <= 280014 := eB_three 40000 h
theorem at_nm {ts : List (List Rat)} {r : Nat} (tw : Tw ts r) {b : Pl} {m : Mk} (hb : Pq.ok ts.length 4000 ⟨lq b.c, lq b.s, lq b.x, lq b.y⟩) (hx : Qb 4000 m.x.q) (hy : Qb 4000 m.y.q) :
  Nm ts.length (4 * (4000 + 4000 + kB r ts.length) + 10000) (sh ts.length (atP ts b m).1) /\ Nm ts.length (4 * (4000 + 4000 + kB r ts.length) + 10000) (sh ts.length (atP ts b m).2) := by
 have nx := Nm.ofQ tw.five (Cb.one hx)
 have ny := Nm.ofQ tw.five (Cb.one hy)
 have nX := turn_nmX tw hb.c hb.s nx ny
 have nY := turn_nmY tw hb.c hb.s nx ny
 have h1 := nX.add hb.x
 rw [at_ap1] at h1
 have h2 := nY.add hb.y
 rw [at_ap2] at h2
 exact ⟨h1.mono (by omega),h2.mono (by omega)⟩
end Go.Lw
namespace Go.Lw
theorem llq_len (rs : List (List Rt)) : (llq rs).length = rs.length:=by simp [llq]
abbrev Et (ts : List (List Rat)) : Type := E (rtsOf ts) ts.length
def dE (ts : List (List Rat)) (a : List Rat) : Et ts := dec ts.length a
def sX {ts : List (List Rat)} (x : Et ts) : List Rat := sh ts.length x
def sgE {ts : List (List Rat)} (x : Et ts) : Int := T.sgn (rtsOf ts) ts.length x
def eqE {ts : List (List Rat)} (x y : Et ts) : Bool := decide (sgE (x - y) = 0)
class Ct (ts : List (List Rat)) (u k : outParam Nat) : Prop where
  ex : ∃ R,Tw ts R /\ eB R ts.length <= k
  k1 : 1 <= k
  u3 : 3 <= u
  ub : u <= 1000000
  kb : k <= 1000000
instance Ct.cx {ts : List (List Rat)} {u k : Nat} [c : Ct ts u k] : Cx (rtsOf ts) ts.length u k := by
  obtain ⟨R,tw,h⟩ := c.ex
  exact ⟨⟨R,tsX_of tw ▸ tw,h⟩,c.k1,c.u3⟩
class Zl (ts : List (List Rat)) (u k : Nat) (a : List Rat) (x : outParam (Et ts)) (w v : outParam Nat) : Prop where
  eq : dec ts.length a = x
  nm : Nm ts.length (w * u + v * k) a
section
variable {ts : List (List Rat)} {u k : Nat}
instance Zl.sX {x : Et ts} {w v : Nat} [h : Zu u k x w v] : Zl ts u k (sX x) x w v := ⟨dec_sh _ _,h.nm⟩
instance Zl.q [c : Ct ts u k] {q : Rat} {w : Nat} [h : Qz u q w] : Zl ts u k (sh 0 (q : Rat)) (qE q : Et ts) w 0 := ⟨dec_sh0 _ q, by
  obtain ⟨R,tw,_⟩ := c.ex
  exact (Nm.ofQ tw.five h.cb).eq (by omega)⟩
instance Zl.nil [c : Ct ts u k] : Zl ts u k [] (0 : Et ts) 0 0 := ⟨by rw [dec_nil]; exact E.zero_def.symm, by
  obtain ⟨R,tw,_⟩ := c.ex
  exact ⟨tw.five,.inl rfl,Cb.nil.mono (Nat.zero_le _)⟩⟩
theorem Zl.zu {a : List Rat} {x : Et ts} {w v : Nat} (h : Zl ts u k a x w v) : Zu u k x w v := ⟨by
 have h1 := h.nm
 have h2 := Cb.sh h1.cb h1.nl
 rw [h.eq] at h2
 exact ⟨h1.five,sh_nl _ _,h2⟩⟩
theorem Zl.at {a : List Rat} {e : Nat} (h : Nm ts.length e a) (he : e <= u) : Zl ts u k a (dE ts a) 1 0 := ⟨rfl,h.mono (by omega)⟩
theorem zl_le (c : Ct ts u k) {w v m : Nat} (h : w + v <= m) : w * u + v * k <= m * 1000000 := by
 have h1 : w * u <= w * 1000000 := Nat.mul_le_mul_left _ c.ub
 have h2 : v * k <= v * 1000000 := Nat.mul_le_mul_left _ c.kb
 omega
theorem zl_lm (c : Ct ts u k) {w v : Nat} (h : w + v <= 10000) : w * u + v * k <= lm ts.length := by
 have h1 := zl_le c h
 have h2 := lm_ge ts.length
 omega
theorem Zl.up (c : Ct ts u k) {a : List Rat} {x : Et ts} {w v m : Nat} (h : Zl ts u k a x w v) (hm : w + v <= m) : Nm ts.length (m * 1000000) a := h.nm.mono (zl_le c hm)
theorem Ct.kk (c : Ct ts u k) {R : Nat} (h : eB R ts.length <= k) : kB R ts.length <= 1000000 := Nat.le_trans h c.kb
def dotE (x y z t : Et ts) : Et ts := x * z + y * t
def crsE (x y z t : Et ts) : Et ts := x * t - y * z
instance Zu.dotE [c : Ct ts u k] {x y z t : Et ts} {w1 v1 w2 v2 w3 v3 w4 v4 : Nat} [Zu u k x w1 v1] [Zu u k y w2 v2] [Zu u k z w3 v3] [Zu u k t w4 v4] : Zu u k (dotE x y z t) (w1 + w3 + (w2 + w4)) (v1 + v3 + 1 + (v2 + v4 + 1) + 1) :=
  (inferInstance : Zu u k (x * z + y * t) _ _)
instance Zu.crsE [c : Ct ts u k] {x y z t : Et ts} {w1 v1 w2 v2 w3 v3 w4 v4 : Nat} [Zu u k x w1 v1] [Zu u k y w2 v2] [Zu u k z w3 v3] [Zu u k t w4 v4] : Zu u k (crsE x y z t) (w1 + w4 + (w2 + w3)) (v1 + v4 + 1 + (v2 + v3 + 1) + 1) :=
  (inferInstance : Zu u k (x * t - y * z) _ _)
end
end Go.Lw
