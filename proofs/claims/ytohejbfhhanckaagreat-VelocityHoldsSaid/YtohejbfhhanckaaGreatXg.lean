/- VelocityHolds: for any linkage, assembly and velocities the law returns true and leaves its arguments as they were. No other condition. Part 7 of 7: the statement -/
import Derived.Test.YtohejbfhhanckaaGreatXf
set_option linter.unusedVariables false
namespace Go.Lw
open Go.Proofs
def feG (P : Program) (n : Nat) : Option (FE P) := match h : P.funcs[n]? with
  | none => none
  | some fn => match hb : fn.body with
    | none => none
    | some c => match hn : (fn.name == "runtime.NumGoroutine") with
      | true => none
      | false => some ⟨n,fn,c,fn.results.toList,h,hb,hn,by simp⟩
def smQ (q : Rat) : Bool := Nat.blt q.num.natAbs 18446744073709551616 && Nat.blt q.den 18446744073709551616
theorem smQ_qb {q : Rat} (h : smQ q = true) : Qb 64 q := by
 simp only [smQ,Bool.and_eq_true,Nat.blt_eq] at h
 exact ⟨h.1,h.2⟩
theorem smQ_qs {q : Rat} (h : smQ q = true) : Qs q := (smQ_qb h).qs (by omega)
def n0 (q : Rat) : AV := nA (sh 0 (q : Rat))
def z0 : AV := towA []
theorem smQ_nm {q : Rat} (h : smQ q = true) : Nm ([] : List (List Rat)).length 64 (sh 0 (q : Rat)) := Nm.ofQ (by decide) (Cb.one (smQ_qb h))
theorem dec0 (q : Rat) : dec ([] : List (List Rat)).length (sh 0 (q : Rat)) = q := dec_sh0 0 q
theorem tw00 : Tw [] 1 where
 three:=by decide
 len := fun j hj => absurd hj (Nat.not_lt_zero j)
 pos := fun j hj => absurd hj (Nat.not_lt_zero j)
 rb := ⟨1,1,by omega,fun d hd => absurd hd List.not_mem_nil,by decide,by decide⟩
 le:=by decide
theorem lm0 : lm ([] : List (List Rat)).length = 200000000000 := rfl
def dW : List AV -> Nat
  | [] => 0
  | x :: l => match x with
    | .v (.int _ (.ofNat n)) => n + 4294967296 * dW l
    | _ => 0
def dWs : AV -> Nat
  | .lst _ l => dW l
  | _ => 0
def dQ (x : AV) : Rat := match x with
  | .agg (.v (.bool s) :: n :: d :: _) => match s with
    | true => mkRat (-(dWs n : Int)) (dWs d)
    | false => mkRat (dWs n : Int) (dWs d)
  | _ => 0
def dN (x : AV) : Rat := match x with
  | .lst _ (x :: _) => dQ x
  | _ => 0
abbrev En := Option (Ent Tryz.prog)
def w2 (f : FuncId) (g : Rat -> Rat -> AV) (h : ∀ p q, smQ p = true -> smQ q = true -> FnC Tryz.prog f [qA p, qA q] (g p q)) (p q : Rat) : En := match hh : smQ p && smQ q with
  | true => some ⟨f,[qA p,qA q],g p q,[],h p q (by rw [Bool.and_eq_true] at hh; exact hh.1) (by rw [Bool.and_eq_true] at hh; exact hh.2)⟩
  | false => none
def oQ2 (f : FuncId) (g : Rat -> Rat -> AV) (h : ∀ p q, smQ p = true -> smQ q = true -> FnC Tryz.prog f [qA p, qA q] (g p q)) (xs : List AV) : En := match xs with
  | [a,b] => w2 f g h (dQ a) (dQ b)
  | _ => none
def w1 (f : FuncId) (a : Rat -> AV) (g : Rat -> AV) (h : ∀ p, smQ p = true -> FnC Tryz.prog f [a p] (g p)) (p : Rat) : En := match hh : smQ p with
  | true => some ⟨f,[a p],g p,[],h p hh⟩
  | false => none
def oQ1 (f : FuncId) (g : Rat -> AV) (h : ∀ p, smQ p = true -> FnC Tryz.prog f [qA p] (g p)) (xs : List AV) : En := match xs with
  | [a] => w1 f qA g h (dQ a)
  | _ => none
def w3 (f : FuncId) (g : Rat -> Rat -> AV) (h : ∀ p q, smQ p = true -> smQ q = true -> FnC Tryz.prog f [z0, n0 p, n0 q] (g p q)) (p q : Rat) : En := match hh : smQ p && smQ q with
  | true => some ⟨f,[z0,n0 p,n0 q],g p q,[],h p q (by rw [Bool.and_eq_true] at hh; exact hh.1) (by rw [Bool.and_eq_true] at hh; exact hh.2)⟩
  | false => none
def oT2 (f : FuncId) (g : Rat -> Rat -> AV) (h : ∀ p q, smQ p = true -> smQ q = true -> FnC Tryz.prog f [z0, n0 p, n0 q] (g p q)) (xs : List AV) : En := match xs with
  | [_,a,b] => w3 f g h (dN a) (dN b)
  | _ => none
def w4 (f : FuncId) (g : Rat -> AV) (h : ∀ p, smQ p = true -> FnC Tryz.prog f [z0, n0 p] (g p)) (p : Rat) : En := match hh : smQ p with
  | true => some ⟨f,[z0,n0 p],g p,[],h p hh⟩
  | false => none
def oT1 (f : FuncId) (g : Rat -> AV) (h : ∀ p, smQ p = true -> FnC Tryz.prog f [z0, n0 p] (g p)) (xs : List AV) : En := match xs with
  | [_,a] => w4 f g h (dN a)
  | _ => none
def oC (f : FuncId) (ys : List AV) (r : AV) (h : FnC Tryz.prog f ys r) (xs : List AV) : En := some ⟨f,ys,r,[],h⟩
def dI (x : AV) : Int := match x with
  | .v (.int _ z) => z
  | _ => 0
def oI (f : FuncId) (g : Int -> AV) (h : ∀ z, (-9223372036854775808 <= z /\ z <= 9223372036854775807) -> FnC Tryz.prog f [i64 z] (g z)) (xs : List AV) : En := match xs with
  | [a] => match (inferInstance : Decidable (-9223372036854775808 <= dI a /\ dI a <= 9223372036854775807)) with
    | .isTrue hh => some ⟨f,[i64 (dI a)],g (dI a),[],h (dI a) hh⟩
    | .isFalse _ => none
  | _ => none
theorem e_Add (p q : Rat) (hp : smQ p = true) (hq : smQ q = true) : FnC Tryz.prog 160 [z0, n0 p, n0 q] (.tup [n0 (p + q), .v .nilIface]) := by
 have h := tw_Add tw00 (smQ_nm hp) (smQ_nm hq) (by rw [lm0]; omega)
 rw [dec0,dec0] at h; exact h
theorem e_Sub (p q : Rat) (hp : smQ p = true) (hq : smQ q = true) : FnC Tryz.prog 158 [z0, n0 p, n0 q] (.tup [n0 (p + -q), .v .nilIface]) := by
 have h := tw_Sub tw00 (smQ_nm hp) (smQ_nm hq) (by rw [lm0]; omega)
 rw [dec0,dec0] at h; exact h
theorem e_Mul (p q : Rat) (hp : smQ p = true) (hq : smQ q = true) : FnC Tryz.prog 159 [z0, n0 p, n0 q] (.tup [n0 (p * q), .v .nilIface]) := by
 have h := tw_Mul tw00 (smQ_nm hp) (smQ_nm hq) (by rw [lm0]; omega)
 rw [dec0,dec0] at h; exact h
theorem e_Sign (p : Rat) (hp : smQ p = true) : FnC Tryz.prog 110 [z0, n0 p] (.tup [i64 (sgnQ p), .v .nilIface]) := by
 have h := tw_Sign tw00 (smQ_nm hp) (by rw [lm0]; omega)
 rw [dec0] at h; exact h
theorem e_Neg (p : Rat) (hp : smQ p = true) : FnC Tryz.prog 92 [z0, n0 p] (.tup [n0 (-p), .v .nilIface]) := by
 have h := tw_Neg tw00 (smQ_nm hp) (by rw [lm0]; omega)
 rw [dec0] at h; exact h
theorem e_Equal (p q : Rat) (hp : smQ p = true) (hq : smQ q = true) : FnC Tryz.prog 24 [z0, n0 p, n0 q] (bl (decide (sgnQ (p + -q) = 0))) := by
 have h := c_r11_Equal tw00 (smQ_nm hp) (smQ_nm hq) (by rw [lm0]; omega)
 rw [dec0,dec0] at h; exact h
def orcL : FuncId -> Option (List AV -> En)
  | 160 => some (oT2 160 _ e_Add)
  | 158 => some (oT2 158 _ e_Sub)
  | 159 => some (oT2 159 _ e_Mul)
  | 110 => some (oT1 110 _ e_Sign)
  | 92 => some (oT1 92 _ e_Neg)
  | 36 => some (oC 36 [z0] (.v .nilIface) (tw_Check tw00))
  | 87 => some (oQ1 87 n0 fun _ h => tw_Of (smQ_qs h))
  | 24 => some (oT2 24 _ e_Equal)
  | 88 => some (oI 88 (fun z => qA z) c_fraction_Of)
  | 33 => some (oI 33 (fun z => qA z) c_r02_Of)
  | 70 => some (oQ1 70 n0 fun _ h => r4_Of (smQ_qs h))
  | 149 => some (oQ2 149 (fun p q => qA (p + q)) fun _ _ h h' => q_Add (smQ_qs h) (smQ_qs h'))
  | 313 => some (oQ2 313 (fun p q => qA (p - q)) fun _ _ h h' => q_Sub (smQ_qs h) (smQ_qs h'))
  | 279 => some (oQ2 279 (fun p q => qA (p * q)) fun _ _ h h' => q_Mul (smQ_qs h) (smQ_qs h'))
  | 349 => some (oQ2 349 (fun p q => .tup [qA (p / q),errA (if q = 0 then 8 else 0)]) fun _ _ h h' => q_Div (smQ_qs h) (smQ_qs h'))
  | 228 => some (oQ1 228 (fun p => qA (-p)) fun _ h => q_Neg (smQ_qs h))
  | 136 => some (oQ1 136 (fun p => i64 (sgnQ p)) fun _ h => q_Sign (smQ_qs h))
  | _ => none
def dIs (x : AV) : List Int := match x with
  | .lst _ es => es.map dI
  | _ => []
def dG (x : AV) : Gr := match x with
  | .agg [k,b,j,d] => ⟨dI k,dIs b,dIs j,dI d⟩
  | _ => default
def rngB (n : Nat) (l : List Int) : Bool := l.all fun z => icmp .leq 0 z && icmp .lss z n
theorem rngB_ok {n : Nat} {l : List Int} (h : rngB n l = true) : ∀ x ∈ l, 0 <= x /\ x < n := by
 intro x hx
 have := List.all_eq_true.1 h x hx
 simp only [Bool.and_eq_true,icmp,decide_eq_true_eq] at this
 exact this
def grB (l : Li) (g : Gr) : Bool := rngB l.bodies.length g.bodies && rngB l.joints.length g.joints && Nat.ble g.bodies.length 2 && Nat.ble g.joints.length 3
theorem grB_ok {l : Li} {g : Gr} (h : grB l g = true) : GrOk l g := by
 simp only [grB,Bool.and_eq_true,Nat.ble_eq] at h
 exact ⟨rngB_ok h.1.1.1,rngB_ok h.1.1.2,h.1.2,h.2⟩
def ancE (l : Li) (hl : l.ok) (hli : liE l = 0) (g : Gr) : En := match hh : grB l g with
  | true => some ⟨241,[l.av,g.av],_,_,c_g_Anchors l hl hli g (grB_ok hh)⟩
  | false => none
def oAnc (l : Li) (hl : l.ok) (hli : liE l = 0) (xs : List AV) : En := match xs with
  | [_,g] => ancE l hl hli (dG g)
  | _ => none
theorem e_Split (l : Li) (hl : l.ok) (hli : liE l = 0) : FnC Tryz.prog 83 [l.av] (.tup [.lst 4 ((splitG l).map Gr.av), errA (splitE l)]) := by
 have h := c_g_Split l hl
 rw [if_pos hli,if_pos hli] at h; exact h
def orcG (l : Li) (hl : l.ok) (hli : liE l = 0) : FuncId -> Option (List AV -> En)
  | 83 => some (oC 83 [l.av] _ (e_Split l hl hli))
  | 241 => some (oAnc l hl hli)
  | 134 => some (oQ1 134 (fun p => bl (rt p).valid) fun _ h => c_fraction_Valid _ (smQ_qs h).ok)
  | f => orcL f
def orP : List (Ent Tryz.prog) -> FuncId -> Bool
  | [],_ => false
  | e :: l, f => match Nat.beq e.f f with
    | true => true
    | false => orP l f
def orS (xs : List AV) (f : FuncId) : List (Ent Tryz.prog) -> En
  | [] => none
  | e :: l => match Nat.beq e.f f && subLB xs e.xs with
    | true => some e
    | false => orS xs f l
def orF (L : List (Ent Tryz.prog)) (o : FuncId -> Option (List AV -> En)) (f : FuncId) : Option (List AV -> En) := match orP L f with
  | true => some fun xs => match orS xs f L with
    | some e => some e
    | none => match o f with
      | some g => g xs
      | none => none
  | false => o f
def mutF (n : FuncId) : Bool := Nat.beq n 242 || (Nat.beq n 302 || Nat.beq n 352)
end Go.Lw
namespace Go.Lw
open Go.Proofs
set_option maxRecDepth 20000
end Go.Lw
namespace Go.Lw
open Go.Proofs
theorem c_base_Num0 : FnC Tryz.prog 11 [.v .nilIface] (i64 0) := by
 refine gF0 Tryz.func11 ?_
 refine gC (fun ht6 => ?_) (fun ht6 => ?_) (st2 := (77777,0))
 ·refine gE1 ?_
  first | rfl | (simp; done)
 ·cases ht6
theorem c_base_Num1 (n : Int) : FnC Tryz.prog 11 [.v (.iface 93 (.int .i64 n))] (i64 n) := by
 refine gF0 Tryz.func11 ?_
 refine gC (fun ht6 => ?_) (fun ht6 => ?_) (st1 := (2,0))
 ·cases ht6
 ·refine gs (s_assert (.tmp rfl) T93 rfl rfl) ?_
  refine gC (fun ht13 => ?_) (fun ht13 => ?_) (st1 := (5,0))
  ·cases ht13
  ·refine gE1 ?_
   rfl
theorem c_base_Num (e : Nat) : FnC Tryz.prog 11 [errA e] (i64 e) := by
 cases e with
 | zero => exact c_base_Num0
 | succ e => exact c_base_Num1 _
end Go.Lw
namespace Go.Lw
open Go.Proofs
theorem chks0 (rs : List (List Rt)) : chksE rs [] = chkE rs := by
 unfold chksE
 by_cases h : chkE rs = 0
 ·rw [if_neg (by omega),h]; rfl
 ·rw [if_pos h]
end Go.Lw
namespace Go.Lw
open Go.Proofs
theorem len_flP (bs : List Pl) : (bs.flatMap Pl.l).length = 4 * bs.length := by
 induction bs with
 | nil => rfl
 | cons p ps ih =>
  have h : (Pl.l p).length = 4 := rfl
  rw [List.flatMap_cons,List.length_append,ih,h,List.length_cons]; omega
theorem len_flV (vs : List Vr) : (vs.flatMap Vr.l).length = 3 * vs.length := by
 induction vs with
 | nil => rfl
 | cons p ps ih =>
  have h : (Vr.l p).length = 3 := rfl
  rw [List.flatMap_cons,List.length_append,ih,h,List.length_cons]; omega
theorem flat_take {α : Type} {f : α -> List (List Rt)} {l : List α} {i : Nat} {x : α} (h : l[i]? = some x) : (l.take (i + 1)).flatMap f = (l.take i).flatMap f ++ f x := by
 rw [take_succ_get h,List.flatMap_append]; simp
theorem velL_nr {a : As} {r : List Vr} (vl : VL a r) : ∀ x ∈ velL a r, NR x 4000 := by
 intro x hx
 rcases List.mem_append.1 hx with h | h
 ·obtain ⟨b,hb,hx⟩ := List.mem_flatMap.1 h; exact vl.al.nr b hb x hx
 ·obtain ⟨b,hb,hx⟩ := List.mem_flatMap.1 h; exact vl.nr b hb x hx
theorem c_vel_check (a : As) (r : List Vr) (vl : VL a r) : FnC Tryz.prog 46 [a.av, .lst 3 (r.map Vr.av)] (errA (velE a r)) := by
 have hbl := vl.al.bl
 have hrl := vl.rl
 refine gF0 Tryz.func46 ?_
 refine gc (c_tower_Check a.rs 40000 vl.al.tr) ?_
 refine gC (fun ht19 => ?_) (fun ht19 => ?_)
 ·have h1 := nNil_t ht19
  refine gE1 ?_
  rw [vel_chk h1]
 ·have h1 := nNil_f ht19
  refine gl ?_
  refine gl ?_
  refine gC (fun ht26 => ?_) (fun ht26 => ?_)
  ·have h2 := neqn_t ht26
   refine gE1 ?_
   rw [vel_len h1 h2]; rfl
  ·have h2 := neqn_f ht26
   refine gl ?_
   refine gW (Wk.virt 900 1 rfl) ?_
   refine gL1 [1,2,29,30] [2] (fun (i : Nat) => [(6,some (.ms 900 1 0 (4 * i))),(31,some (i64 i))]) (fun i => [(900,some (.row 1 (((a.bs.take i).flatMap Pl.l).map nR)))]) (fun i => i <= a.bs.length) (fun i => a.bs.length - i) 0 (Nat.zero_le _) ?_
   rintro i hi K1 hK1
   refine gC (fun ht32 => ?_) (fun ht32 => ?_) (st2 := (12,0))
   ·have hin := lss_t ht32
    obtain ⟨b,hb⟩ := getx hin
    have hfl : ((a.bs.take i).flatMap Pl.l).length = 4 * i:=by rw [len_flP,List.length_take]; omega
    refine gi (getmap hb) ?_
    refine gs (s_append (.tmp rfl) rfl (by rw [List.length_map,hfl]) (.tmp rfl) T22 rfl T37 rfl rfl (by simp; omega) rfl rfl) ?_ (11,0)
    refine gW (Wk.of (sl := [(1,some (.lst 3 (r.map Vr.av))),(2,some (.ptr 2 0)),(6,some (.ms 45 1 0 (4 * i + 4))),(29,some (.lst 4 (a.bs.map Pl.av))),(30,some (i64 a.bs.length)),(31,some (i64 i))]) (hp := [(2,some (.box a.av.cells)),(45,some (.row 1 (((a.bs.take (i + 1)).flatMap Pl.l).map nR)))]) (by repeat (first | exact SlW.nil | refine SlW.k ?_)) (.cons rfl (.refl _) (.cons rfl (BlkSub.of (by rw [flat_take hb,List.map_append]; rfl)) .nil))) ?_ (11,0)
    refine gW (Wk.rekey (k := 45) (d := 900) rfl rfl) ?_
    refine ga (i64_add1 (by unfold maxL; omega)) ?_
    exact gK1 hK1 (i + 1) hin
   ·have hin := lss_end hi ht32
    subst hin
    refine gW (Wk.of (sl := [(1,some (.lst 3 (r.map Vr.av))),(2,some (.ptr 2 0)),(6,some (.ms 900 1 0 (4 * a.bs.length + 3 * 0)))]) (hp := [(2,some (.box a.av.cells)),(900,some (.row 1 ((a.bs.flatMap Pl.l ++ (r.take 0).flatMap Vr.l).map nR)))]) (by repeat (first | exact SlW.nil | refine SlW.k ?_)) (.cons rfl (.refl _) (.cons rfl (BlkSub.of (by rw [List.take_length]; simp)) .nil))) ?_
    refine gl ?_
    refine gL1 [2,47,48] [2] (fun (i : Nat) => [(6,some (.ms 900 1 0 (4 * a.bs.length + 3 * i))),(49,some (i64 i))]) (fun i => [(900,some (.row 1 ((a.bs.flatMap Pl.l ++ (r.take i).flatMap Vr.l).map nR)))]) (fun i => i <= r.length) (fun i => r.length - i) 0 (Nat.zero_le _) ?_
    rintro i hi K2 hK2
    refine gC (fun ht50 => ?_) (fun ht50 => ?_) (st2 := (17,0))
    ·have hin := lss_t ht50
     obtain ⟨v,hv⟩ := getx hin
     have hfl : (a.bs.flatMap Pl.l ++ (r.take i).flatMap Vr.l).length = 4 * a.bs.length + 3 * i:=by rw [List.length_append,len_flP,len_flV,List.length_take]; omega
     refine gi (getmap hv) ?_
     refine gs (s_append (.tmp rfl) rfl (by rw [List.length_map,hfl]) (.tmp rfl) T22 rfl T37 rfl rfl (by simp; omega) rfl rfl) ?_ (16,0)
     refine gW (Wk.of (sl := [(2,some (.ptr 2 0)),(6,some (.ms 61 1 0 (4 * a.bs.length + 3 * i + 3))),(47,some (.lst 3 (r.map Vr.av))),(48,some (i64 r.length)),(49,some (i64 i))]) (hp := [(2,some (.box a.av.cells)),(61,some (.row 1 ((a.bs.flatMap Pl.l ++ (r.take (i + 1)).flatMap Vr.l).map nR)))]) (by repeat (first | exact SlW.nil | refine SlW.k ?_)) (.cons rfl (.refl _) (.cons rfl (BlkSub.of (by rw [flat_take hv,<- List.append_assoc,List.map_append (l₂ := v.l)]; rfl)) .nil))) ?_ (16,0)
     refine gW (Wk.rekey (k := 61) (d := 900) rfl rfl) ?_
     refine ga (i64_add1 (by unfold maxL; omega)) ?_
     exact gK1 hK2 (i + 1) hin
    ·have hin := lss_end hi ht50
     subst hin
     refine gW ((Wk.freeze (k := 900) rfl).trans <| Wk.of (sl := [(2,some (.ptr 2 0)),(6,some (.lst 1 ((velL a r).map nR)))]) (hp := [(2,some (.box a.av.cells))]) (.k (.cons rfl (Sub.of (by rw [fz_all (by rw [List.length_map,List.length_append,len_flP,len_flV,List.length_take]; omega),List.take_length]; rfl)) .nil)) (.cons rfl (.refl _) .nil)) ?_
     refine gl ?_
     have hvl : (velL a r).length = 4 * a.bs.length + 3 * r.length:=by show (a.bs.flatMap Pl.l ++ r.flatMap Vr.l).length = _; rw [List.length_append,len_flP,len_flV]
     refine gL1 [2,63,64] [2] (fun (i : Nat) => [(65,some (i64 i))]) (fun _ => []) (fun i => i <= (velL a r).length /\ ∀ x ∈ (velL a r).take i,numE a.rs.length x = 0) (fun i => (velL a r).length - i) 0 ⟨Nat.zero_le _,fun x hx => by simp at hx⟩ ?_
     rintro i ⟨hi,hj⟩ K3 hK3
     refine gC (fun ht66 => ?_) (fun ht66 => ?_)
     ·have hin := lss_t ht66
      obtain ⟨x,hx⟩ := getx hin
      have hok := velL_nr vl x (List.mem_of_getElem? hx)
      have hone : chksE a.rs [x] = numE a.rs.length x := chks_one h1
      refine gi (getmap hx) ?_
      refine gc (c_tower_Neg a.rs 40000 vl.al.tr x 4000 hok (e4_lm _)) ?_
      refine gC (fun ht77 => ?_) (fun ht77 => ?_)
      ·have h3 := nNil_t ht77
       refine gE1 ?_
       rw [hone] at h3 ⊢; rw [vel_flat h1 h2,chks_at h1 hx hj h3]
      ·have h3 := nNil_f ht77
       rw [hone] at h3
       refine ga (i64_add1 (by unfold maxL; omega)) ?_
       exact gK1 hK3 (i + 1) ⟨hin,fun z hz => by rw [take_succ_get hx] at hz; rcases List.mem_append.1 hz with h9 | h9; exact hj z h9; (rw [List.mem_singleton.1 h9]; exact h3)⟩
     ·have hin := lss_end hi ht66
      rw [hin,List.take_length] at hj
      refine gE1 ?_
      rw [vel_flat h1 h2,chks_of h1 hj]; rfl
theorem c_r42_Bad (a : As) (r : List Vr) (vl : VL a r) : FnC Tryz.prog 18 [a.av, .lst 3 (r.map Vr.av)] (i64 (velE a r)) := by
 have hbl := vl.al.bl
 have hrl := vl.rl
 refine gF0 Tryz.func18 ?_
 refine gc (Con.subA (.cons (.refl _) (.cons (Sub.nil 1 none 0) .nil)) (c_r11_Bad a.rs 40000 0 vl.al.tr [] (fun x hx => by cases hx) (Nat.zero_le _) (by show 0 <= 1000; omega))) ?_
 refine gC (fun ht16 => ?_) (fun ht16 => ?_)
 ·have h1 := neq_t ht16
  rw [chks0] at h1
  refine gE1 ?_
  rw [vel_chk h1,chks0]
 ·have h1 := neq_f ht16
  rw [chks0] at h1
  refine gl ?_
  refine gl ?_
  refine gC (fun ht23 => ?_) (fun ht23 => ?_)
  ·have h2 := neqn_t ht23
   refine gE1 ?_
   rw [vel_len h1 h2]; rfl
  ·have h2 := neqn_f ht23
   refine gl ?_
   refine gL1 [1,2,25,26] [2] (fun (i : Nat) => [(27,some (i64 i))]) (fun _ => []) (fun i => i <= a.bs.length /\ ∀ b ∈ a.bs.take i,chksE a.rs b.l = 0) (fun i => a.bs.length - i) 0 ⟨Nat.zero_le _,fun x hx => by simp at hx⟩ ?_
   rintro i ⟨hi,hj⟩ K1 hK1
   refine gC (fun ht28 => ?_) (fun ht28 => ?_)
   ·have hin := lss_t ht28
    obtain ⟨b,hb⟩ := getx hin
    refine gi (getmap hb) ?_
    refine gc (c_r11_Bad a.rs 40000 4000 vl.al.tr b.l (vl.al.nr b (List.mem_of_getElem? hb)) (e4_lm _) (by show 4 <= 1000; omega)) ?_
    refine gC (fun ht44 => ?_) (fun ht44 => ?_)
    ·have h3 := neq_t ht44
     refine gE1 ?_
     rw [vel_b h1 h2 hb hj h3]
    ·have h3 := neq_f ht44
     refine ga (i64_add1 (by unfold maxL; omega)) ?_
     exact gK1 hK1 (i + 1) ⟨hin,fun y hy => by rw [take_succ_get hb] at hy; rcases List.mem_append.1 hy with h9 | h9; exact hj y h9; (rw [List.mem_singleton.1 h9]; exact h3)⟩
   ·have hin := lss_end hi ht28
    rw [hin,List.take_length] at hj
    refine gl ?_
    refine gL1 [2,47,48] [2] (fun (i : Nat) => [(49,some (i64 i))]) (fun _ => []) (fun i => i <= r.length /\ ∀ b ∈ r.take i,chksE a.rs b.l = 0) (fun i => r.length - i) 0 ⟨Nat.zero_le _,fun x hx => by simp at hx⟩ ?_
    rintro i ⟨hk,hkj⟩ K2 hK2
    refine gC (fun ht50 => ?_) (fun ht50 => ?_)
    ·have hkn := lss_t ht50
     obtain ⟨v,hv⟩ := getx hkn
     refine gi (getmap hv) ?_
     refine gc (c_r11_Bad a.rs 40000 4000 vl.al.tr v.l (vl.nr v (List.mem_of_getElem? hv)) (e4_lm _) (by show 3 <= 1000; omega)) ?_
     refine gC (fun ht64 => ?_) (fun ht64 => ?_)
     ·have h3 := neq_t ht64
      refine gE1 ?_
      rw [vel_r h1 h2 hj hv hkj h3]
     ·have h3 := neq_f ht64
      refine ga (i64_add1 (by unfold maxL; omega)) ?_
      exact gK1 hK2 (i + 1) ⟨hkn,fun y hy => by rw [take_succ_get hv] at hy; rcases List.mem_append.1 hy with h9 | h9; exact hkj y h9; (rw [List.mem_singleton.1 h9]; exact h3)⟩
    ·have hkn := lss_end hk ht50
     rw [hkn,List.take_length] at hkj
     refine gE1 ?_
     rw [vel_0 h1 h2 hj hkj]; rfl
theorem vl_end {a : As} {r : List Vr} (h : a.bs.all (fun b => wideB a.rs b.l) = true) (h2 : r.all (fun b => wideB a.rs b.l) = true) :
  cond (cond (cond (icmp .leq (a.bs.length : Int) 20) (icmp .leq (r.length : Int) 20) false) (wideB a.rs []) false) (cond (icmp .leq (a.rs.length : Int) 2) true (icmp .gtr (a.rs.length : Int) 5)) false = vlB a r := by
 have e1 := leq_b (n := a.bs.length) (k := 20)
 have e4 := leq_b (n := r.length) (k := 20)
 have e2 := leq_b (n := a.rs.length) (k := 2)
 have e3 := gtr_b (n := a.rs.length) (k := 5)
 unfold vlB
 rw [h,h2,Bool.true_and,Bool.true_and]
 rw [show icmp .leq (a.bs.length : Int) 20 = decide (a.bs.length <= 20) from e1,show icmp .leq (r.length : Int) 20 = decide (r.length <= 20) from e4,show icmp .leq (a.rs.length : Int) 2 = decide (a.rs.length <= 2) from e2,show icmp .gtr (a.rs.length : Int) 5 = decide (5 < a.rs.length) from e3]
 cases wideB a.rs [] <;> by_cases c1 : a.bs.length <= 20 <;> by_cases c2 : r.length <= 20 <;> by_cases c3 : a.rs.length <= 2 <;> by_cases c4 : 5 < a.rs.length <;> simp [c1,c2,c3,c4]
theorem c_l42_Light (a : As) (ha : a.ok) (r : List Vr) (hr : ∀ x ∈ r, RsOk x.l) (hrl : r.length <= 281474976710656) : FnC Tryz.prog 15 [a.av, .lst 3 (r.map Vr.av)] (bl (vlB a r)) := by
 have hbl := ha.bl
 refine gF0 Tryz.func15 ?_
 refine gl ?_
 refine gL1 [1,2,10,11] [2] (fun (i : Nat) => [(12,some (i64 i))]) (fun _ => []) (fun i => i <= a.bs.length /\ (a.bs.take i).all (fun b => wideB a.rs b.l) = true) (fun i => a.bs.length - i) 0 ⟨Nat.zero_le _,rfl⟩ ?_
 rintro i ⟨hi,hj⟩ K1 hK1
 refine gC (fun ht13 => ?_) (fun ht13 => ?_)
 ·have hin := lss_t ht13
  obtain ⟨b,hb⟩ := getx hin
  have hbo := ha.bs b (List.mem_of_getElem? hb)
  refine gi (getmap hb) ?_
  refine gc (c_l11_Wide a.rs b.l ha.rs hbo ha.rl (by show 4 <= 100; omega)) ?_
  refine gC (fun ht28 => ?_) (fun ht28 => ?_)
  ·have h1 := not_t ht28
   refine gE1 ?_
   unfold vlB; rw [all_miss hb h1]; rfl
  ·have h1 := not_f ht28
   refine ga (i64_add1 (by unfold maxL; omega)) ?_
   exact gK1 hK1 (i + 1) ⟨hin,all_step hj hb h1⟩
 ·have hall := all_end (lss_end hi ht13) hj
  refine gl ?_
  refine gL1 [1,2,30,31] [2] (fun (i : Nat) => [(32,some (i64 i))]) (fun _ => []) (fun i => i <= r.length /\ (r.take i).all (fun b => wideB a.rs b.l) = true) (fun i => r.length - i) 0 ⟨Nat.zero_le _,rfl⟩ ?_
  rintro i ⟨hk,hkj⟩ K2 hK2
  refine gC (fun ht33 => ?_) (fun ht33 => ?_)
  ·have hkn := lss_t ht33
   obtain ⟨v,hv⟩ := getx hkn
   have hvo := hr v (List.mem_of_getElem? hv)
   refine gi (getmap hv) ?_
   refine gc (c_l11_Wide a.rs v.l ha.rs hvo ha.rl (by show 3 <= 100; omega)) ?_
   refine gC (fun ht46 => ?_) (fun ht46 => ?_)
   ·have h1 := not_t ht46
    refine gE1 ?_
    unfold vlB; rw [hall,all_miss hv h1]; rfl
   ·have h1 := not_f ht46
    refine ga (i64_add1 (by unfold maxL; omega)) ?_
    exact gK1 hK2 (i + 1) ⟨hkn,all_step hkj hv h1⟩
  ·have hall2 := all_end (lss_end hk ht33) hkj
   refine gl ?_
   refine glG ?_
   refine gcG (fun _ => (Con.subA (.cons (.refl _) (.cons (Sub.nil 1 none 0) .nil)) (c_l11_Wide a.rs [] ha.rs rs_nil ha.rl (by show 0 <= 100; omega)))) ?_
   refine glG ?_
   refine glG ?_
   refine gE1 ?_
   exact congrArg bl (vl_end hall hall2)
end Go.Lw
namespace Go.Lw
def plE (l : Li) (a : As) (body pt : Int) : Et (llq a.rs) × Et (llq a.rs) := ptAt l a body pt
theorem tow_eq {rs : List (List Rt)} {r : Nat} (h : TR rs r) (hc : chkE rs = 0) : towA (llq rs) = .agg [.lst 1 (rs.map nR)] := (chk_tw h hc).2.symm
end Go.Lw
namespace Go.Lw
open Go.Proofs
section
variable {rs : List (List Rt)} {r u k : Nat} {a b c d e : List Rat} {x y z s t : Et (llq rs)} {w v w' v' w2 v2 w3 v3 w4 v4 : Nat}
theorem c_r42_At {ts : List (List Rat)} {x y z s t : Et ts} [c0 : Ct ts u k] [ha : Zl ts u k a x w v] [hb : Zl ts u k b y w' v'] [hc2 : Zl ts u k c z w2 v2] [hd : Zl ts u k d s w3 v3] [he : Zl ts u k e t w4 v4]
  (hs : w + v + (w' + v' + (w2 + v2)) + (w3 + v3 + (w4 + v4)) <= 1000) :
  FnC Tryz.prog 19 [towA ts,.agg [nA a,nA b,nA c],ptA d e] (ptA (sX (y - x * t)) (sX (z + x * s))) := by
 haveI i1 := ha.zu
 haveI i2 := hb.zu
 haveI i3 := hc2.zu
 haveI i4 := hd.zu
 haveI i5 := he.zu
 refine gF0 Tryz.func19 ?_
 refine gc (xr_Times (ha := ha) (hb := he) (by omega)) ?_
 refine gc (xr_Minus (ha := hb) (b := sX (x * t)) (y := x * t) (by omega)) ?_
 refine gc (xr_Times (ha := ha) (hb := hd) (by omega)) ?_
 refine gc (xr_Plus (ha := hc2) (b := sX (x * s)) (y := x * s) (by omega)) ?_
 refine gD ?_
 refine gE1 ?_
 first | rfl | (simp; done)
end
structure VZ (rs : List (List Rt)) (v : Vr) : Prop where
  av : v.av = .agg [nA (lq v.w),nA (lq v.x),nA (lq v.y)]
  w : Zl (llq rs) 4000 300000 (lq v.w) (dE (llq rs) (lq v.w)) 1 0
  x : Zl (llq rs) 4000 300000 (lq v.x) (dE (llq rs) (lq v.x)) 1 0
  y : Zl (llq rs) 4000 300000 (lq v.y) (dE (llq rs) (lq v.y)) 1 0
theorem vz_of {a : As} {r : List Vr} (vl : VL a r) (h : velE a r = 0) {v : Vr} (hv : v ∈ r) : VZ a.rs v := by
 have ok := vel_ok h
 have c := vl.al.ct ok.chk
 obtain ⟨_,h2⟩ := chks_ok (ok.rs v hv)
 have n := vl.nr v hv
 have e1 : ∀ x ∈ v.l,nR x = nA (lq x) := fun x hx => ((n x hx).num (h2 x hx)).1
 have e2 : ∀ x ∈ v.l,Zl (llq a.rs) 4000 300000 (lq x) (dE (llq a.rs) (lq x)) 1 0 := fun x hx => zl_num c (n x hx) (h2 x hx) (by omega)
 refine ⟨?_,e2 _ (by simp [Vr.l]),e2 _ (by simp [Vr.l]),e2 _ (by simp [Vr.l])⟩
 unfold Vr.av
 rw [e1 _ (by simp [Vr.l]),e1 _ (by simp [Vr.l]),e1 _ (by simp [Vr.l])]
end Go.Lw
namespace Go.Lw
open Go.Proofs
theorem c_point_Sub {ts : List (List Rat)} {r e : Nat} (tw : Tw ts r) {a b c d : List Rat} (ha : Nm ts.length e a) (hb : Nm ts.length e b) (hc : Nm ts.length e c) (hd : Nm ts.length e d) (he : 2 * e <= lm ts.length) :
  FnC Tryz.prog 112 [towA ts,ptA a b,ptA c d] (.tup [ptA (sh ts.length (subT ts (dec ts.length a) (dec ts.length c))) (sh ts.length (subT ts (dec ts.length b) (dec ts.length d))),.v .nilIface]) := by
 refine gF0 Tryz.func112 ?_
 refine gc (c_point_checkAll (e := e) tw [(a,b),(c,d)] (by simp only [List.mem_cons,List.not_mem_nil,or_false]; rintro p (rfl | rfl); exact ⟨ha,hb⟩; exact ⟨hc,hd⟩) (by omega) (by simp)) ?_
 refine gC (fun ht16 => ?_) (fun ht16 => ?_) (st1 := (3,0))
 ·cases ht16
 ·refine gt (s_callH (Con.rekeyB 21 rfl rfl rfl rfl (c_sum_less tw ha hb hc hd he)) (.cons (.tmp rfl) (.cons (.tmp rfl) (.cons (.tmp rfl) .nil))) (by first | exact hH0 | exact hH1 rfl | exact hH2 rfl rfl) rfl rfl) ?_
  refine gt (s_callH (Con.rekeyB 21 rfl rfl rfl rfl (c_sum_point _ _ _)) (.cons (.tmp rfl) (.cons (.tmp rfl) .nil)) (by first | exact hH0 | exact hH1 rfl | exact hH2 rfl rfl) rfl rfl) ?_
  refine gE2 ?_
  rfl
theorem c_point_Cross {ts : List (List Rat)} {r e : Nat} (tw : Tw ts r) {a b c d : List Rat} (ha : Nm ts.length e a) (hb : Nm ts.length e b) (hc : Nm ts.length e c) (hd : Nm ts.length e d) (he : 2 * (e + e + kB r ts.length) <= lm ts.length) :
  FnC Tryz.prog 114 [towA ts,ptA a b,ptA c d] (.tup [nA (sh ts.length (crossT ts (dec ts.length a) (dec ts.length b) (dec ts.length c) (dec ts.length d))),.v .nilIface]) := by
 refine gF0 Tryz.func114 ?_
 refine gc (Con.subA (.cons (.refl _) (.cons (.refl _) (.cons (.refl _) (.cons (Sub.fn0 _) .nil)))) (c_point_product tw ha hb hc hd (by omega) _ _ (c_sum_cross tw ha hb hc hd he))) ?_
 refine gE2 ?_
 first | rfl | (simp; done)
section
variable {ts : List (List Rat)} {u k : Nat} {a b a2 b2 : List Rat} {x y x2 y2 : Et ts} {w v w' v' w2 v2 w3 v3 : Nat}
end
end Go.Lw
namespace Go.Lw
open Go.Proofs
def lowR (r : Rt) : Bool := !(cond (cond (cond (icmp .gtr (r.num.length : Int) 1) true (icmp .gtr (r.den.length : Int) 1)) true (cond (icmp .eql (r.num.length : Int) 1) (icmp .gtr (wordW r.num 0 : Int) 400) false)) true
  (cond (icmp .eql (r.den.length : Int) 1) (icmp .gtr (wordW r.den 0 : Int) 20) false))
theorem c_r02_Low (rs : List Rt) (hl : rs.length <= 1000) : FnC Tryz.prog 166 [.lst 3 (rs.map Rt.av)] (bl (rs.all lowR)) := by
 refine gF0 Tryz.func166 ?_
 refine gl ?_
 refine gL1 [5,6] [] (fun (i : Nat) => [(7,some (i64 i))]) (fun _ => []) (fun i => i <= rs.length /\ (rs.take i).all lowR = true) (fun i => rs.length - i) 0 ⟨Nat.zero_le _,rfl⟩ ?_
 rintro i ⟨hi,hj⟩ K1 hK1
 refine gC (fun ht8 => ?_) (fun ht8 => ?_)
 ·have hin := lss_t ht8
  obtain ⟨r,hr⟩ := getx hin
  refine gi (getmap hr) ?_
  refine gl ?_
  refine glG ?_
  refine glG ?_
  refine giG (fun ⟨h,h2⟩ => (getw (by have := eql_t h2; have e : Int.toNat 0 = 0 := rfl; omega))) ?_
  refine glG ?_
  refine giG (fun ⟨h,h2⟩ => (getw (by have := eql_t h2; have e : Int.toNat 0 = 0 := rfl; omega))) ?_
  refine gC (fun ht46 => ?_) (fun ht46 => ?_)
  ·have h1 : lowR r = false := congrArg Bool.not ht46
   refine gE1 ?_
   rw [all_miss hr h1]; rfl
  ·have h1 : lowR r = true := congrArg Bool.not ht46
   refine ga (i64_add1 (by unfold maxL; omega)) ?_
   exact gK1 hK1 (i + 1) ⟨hin,all_step hj hr h1⟩
 ·have hin := lss_end hi ht8
  refine gE1 ?_
  rw [all_end hin hj]; rfl
def tnB (x : Tn) : Bool := decide (x.t.num.length <= 1 /\ x.t.den.length <= 1)
def mk1 (m : Mk) : Bool := decide (m.x.num.length <= 1 /\ m.x.den.length <= 1 /\ m.y.num.length <= 1 /\ m.y.den.length <= 1)
def lowT (xs : List Tn) : Bool := xs.all (fun x => [x.t].all lowR)
def lowP (ps : List Mk) : Bool := ps.all (fun p => [p.x,p.y].all lowR)
def lowL (l : Li) : Bool := l.bodies.all (fun b => lowP b.pts)
theorem c_l27_low (l : Li) (hl : l.ok) (xs : List Tn) (hxl : xs.length <= 281474976710656) : FnC Tryz.prog 105 [l.av, .lst 4 (xs.map Tn.av)] (bl (lowT xs && lowL l)) := by
 have hlb := hl.lb
 refine gF0 Tryz.func105 ?_
 refine gl ?_
 refine gL1 [2,11,12] [2] (fun (i : Nat) => [(13,some (i64 i))]) (fun _ => []) (fun i => i <= xs.length /\ (xs.take i).all (fun x => [x.t].all lowR) = true) (fun i => xs.length - i) 0 ⟨Nat.zero_le _,rfl⟩ ?_
 rintro i ⟨hi,hj⟩ K1 hK1
 refine gC (fun ht14 => ?_) (fun ht14 => ?_)
 ·have hin := lss_t ht14
  obtain ⟨x,hx⟩ := getx hin
  refine gi (getmap hx) ?_
  refine gc (c_r02_Low [x.t] (by show 1 <= _; omega)) ?_
  refine gC (fun ht21 => ?_) (fun ht21 => ?_)
  ·have h1 := not_t ht21
   refine gE1 ?_
   unfold lowT; rw [all_miss hx h1]; rfl
  ·have h1 := not_f ht21
   refine ga (i64_add1 (by unfold maxL; omega)) ?_
   exact gK1 hK1 (i + 1) ⟨hin,all_step hj hx h1⟩
 ·have hT : lowT xs = true := all_end (lss_end hi ht14) hj
  refine gl ?_
  refine gL1 [2,24,25] [2] (fun (i : Nat) => [(26,some (i64 i))]) (fun _ => []) (fun i => i <= l.bodies.length /\ (l.bodies.take i).all (fun b => lowP b.pts) = true) (fun i => l.bodies.length - i) 0 ⟨Nat.zero_le _,rfl⟩ ?_
  rintro i ⟨hi2,hj2⟩ K2 hK2
  refine gC (fun ht27 => ?_) (fun ht27 => ?_)
  ·have hin := lss_t ht27
   obtain ⟨b,hb⟩ := getx hin
   have hbl := (hl.bodies b (List.mem_of_getElem? hb)).ll
   refine gi (getmap hb) ?_
   refine gl ?_
   refine gL1 [2,24,25,26,31,32] [2] (fun (k : Nat) => [(33,some (i64 k))]) (fun _ => []) (fun k => k <= b.pts.length /\ (b.pts.take k).all (fun p => [p.x,p.y].all lowR) = true) (fun k => b.pts.length - k) 0 ⟨Nat.zero_le _,rfl⟩ ?_
   rintro k ⟨hk,hkj⟩ K3 hK3
   refine gC (fun ht34 => ?_) (fun ht34 => ?_)
   ·have hkn := lss_t ht34
    obtain ⟨p,hp⟩ := getx hkn
    refine gi (getmap hp) ?_
    refine gc (c_r02_Low [p.x,p.y] (by show 2 <= _; omega)) ?_
    refine gC (fun ht43 => ?_) (fun ht43 => ?_)
    ·have h1 := not_t ht43
     refine gE1 ?_
     rw [hT]; unfold lowL; rw [all_miss hb (by unfold lowP; exact all_miss hp h1)]; rfl
    ·have h1 := not_f ht43
     refine ga (i64_add1 (by unfold maxL; omega)) ?_
     exact gK1 hK3 (k + 1) ⟨hkn,all_step hkj hp h1⟩
   ·have hP : lowP b.pts = true := all_end (lss_end hk ht34) hkj
    refine ga (i64_add1 (by unfold maxL; omega)) ?_
    exact gK1 hK2 (i + 1) ⟨hin,all_step hj2 hb hP⟩
  ·have hL : lowL l = true := all_end (lss_end hi2 ht27) hj2
   refine gE1 ?_
   rw [hT,hL]; rfl
def resB (l : Li) (xs : List Tn) : Bool :=
  cond (cond (icmp .neq (splitE l : Int) 0) true (icmp .leq (((splitG l).length : Int) - l.drivers.length) 1)) true (cond (icmp .eql (((splitG l).length : Int) - l.drivers.length) 2) (lowT xs && lowL l) false)
def l27B (l : Li) (xs : List Tn) : Bool :=
  (liB l && decide (xs.length <= 20)) && (xs.all tnB && (l.bodies.all (fun b => b.pts.all mk1) && (if liE l = 0 then resB l xs else true)))
theorem l27_t {l : Li} {n : Nat} (h : cond (!liB l) true (icmp .gtr (n : Int) 20) = true) : (liB l && decide (n <= 20)) = false := by
 cases hb : liB l
 ·rfl
 ·rw [hb] at h
  have h1 : 20 < n := gtr_t (b := 20) h
  rw [decide_eq_false (by omega)]; rfl
theorem l27_f {l : Li} {n : Nat} (h : cond (!liB l) true (icmp .gtr (n : Int) 20) = false) : liB l = true /\ n <= 20 := by
 cases hb : liB l
 ·rw [hb] at h; cases h
 ·rw [hb] at h; exact ⟨rfl,gtr_f (b := 20) h⟩
theorem tn_b {x : Tn} : cond (icmp .gtr (x.t.num.length : Int) 1) true (icmp .gtr (x.t.den.length : Int) 1) = !tnB x := by
 unfold tnB
 have e1 := gtr_b (n := x.t.num.length) (k := 1)
 have e2 := gtr_b (n := x.t.den.length) (k := 1)
 rw [or_cond]
 refine (congr (congrArg _ e1) e2).trans ?_
 rw [<- Bool.decide_or,<- decide_not]
 exact decide_eq_decide.2 (by omega)
theorem mk1_b {m : Mk} : cond (cond (cond (icmp .gtr (m.x.num.length : Int) 1) true (icmp .gtr (m.x.den.length : Int) 1)) true (icmp .gtr (m.y.num.length : Int) 1)) true (icmp .gtr (m.y.den.length : Int) 1) = !mk1 m := by
 unfold mk1
 have e1 := gtr_b (n := m.x.num.length) (k := 1)
 have e2 := gtr_b (n := m.x.den.length) (k := 1)
 have e3 := gtr_b (n := m.y.num.length) (k := 1)
 have e4 := gtr_b (n := m.y.den.length) (k := 1)
 rw [or_cond,or_cond,or_cond]
 refine (congr (congrArg _ (congr (congrArg _ (congr (congrArg _ e1) e2)) e3)) e4).trans ?_
 rw [<- Bool.decide_or,<- Bool.decide_or,<- Bool.decide_or,<- decide_not]
 exact decide_eq_decide.2 (by omega)
theorem splitG_len {l : Li} (hl : liE l = 0) : (splitG l).length <= 8 := by
 unfold splitG; split
 ·exact (findG_ok hl).2
 ·exact Nat.zero_le _
theorem c_l27_Light (l : Li) (hw : l.okw) (xs : List Tn) (hxl : xs.length <= 281474976710656) : FnC Tryz.prog 54 [l.av, .lst 4 (xs.map Tn.av)] (bl (l27B l xs)) := by
 refine gF0 Tryz.func54 ?_
 refine gc (c_l25_Light l hw) ?_
 refine glG ?_
 refine gC (fun ht21 => ?_) (fun ht21 => ?_)
 ·have h1 := l27_t ht21
  refine gE1 ?_
  unfold l27B; rw [h1]; rfl
 ·obtain ⟨g1, g2⟩ := l27_f ht21
  have hl := li_ok g1 hw
  have hlb := hl.lb
  refine gl ?_
  refine gL1 [1,2,22,23] [2] (fun (i : Nat) => [(24,some (i64 i))]) (fun _ => []) (fun i => i <= xs.length /\ (xs.take i).all tnB = true) (fun i => xs.length - i) 0 ⟨Nat.zero_le _,rfl⟩ ?_
  rintro i ⟨hi,hj⟩ K1 hK1
  refine gC (fun ht25 => ?_) (fun ht25 => ?_)
  ·have hin := lss_t ht25
   obtain ⟨x,hx⟩ := getx hin
   refine gi (getmap hx) ?_
   refine gl ?_
   refine glG ?_
   refine gC (fun ht39 => ?_) (fun ht39 => ?_)
   ·have h1 : tnB x = false := by rw [tn_b] at ht39; exact not_t ht39
    refine gE1 ?_
    unfold l27B; rw [g1,decide_eq_true g2,all_miss hx h1]; rfl
   ·have h1 : tnB x = true := by rw [tn_b] at ht39; exact not_f ht39
    refine ga (i64_add1 (by unfold maxL; omega)) ?_
    exact gK1 hK1 (i + 1) ⟨hin,all_step hj hx h1⟩
  ·have hT : xs.all tnB = true := all_end (lss_end hi ht25) hj
   refine gl ?_
   refine gL1 [1,2,42,43] [2] (fun (i : Nat) => [(44,some (i64 i))]) (fun _ => []) (fun i => i <= l.bodies.length /\ (l.bodies.take i).all (fun b => b.pts.all mk1) = true) (fun i => l.bodies.length - i) 0 ⟨Nat.zero_le _,rfl⟩ ?_
   rintro i ⟨hi2,hj2⟩ K2 hK2
   refine gC (fun ht45 => ?_) (fun ht45 => ?_)
   ·have hin := lss_t ht45
    obtain ⟨b,hb⟩ := getx hin
    have hbl := (hl.bodies b (List.mem_of_getElem? hb)).ll
    refine gi (getmap hb) ?_
    refine gl ?_
    refine gL1 [1,2,42,43,44,49,50] [2] (fun (k : Nat) => [(51,some (i64 k))]) (fun _ => []) (fun k => k <= b.pts.length /\ (b.pts.take k).all mk1 = true) (fun k => b.pts.length - k) 0 ⟨Nat.zero_le _,rfl⟩ ?_
    rintro k ⟨hk,hkj⟩ K3 hK3
    refine gC (fun ht52 => ?_) (fun ht52 => ?_)
    ·have hkn := lss_t ht52
     obtain ⟨p,hp⟩ := getx hkn
     refine gi (getmap hp) ?_
     refine gl ?_
     refine glG ?_
     refine glG ?_
     refine glG ?_
     refine gC (fun ht80 => ?_) (fun ht80 => ?_)
     ·have h1 : mk1 p = false := by rw [mk1_b] at ht80; exact not_t ht80
      refine gE1 ?_
      unfold l27B; rw [g1,decide_eq_true g2,hT,all_miss hb (all_miss hp h1)]; rfl
     ·have h1 : mk1 p = true := by rw [mk1_b] at ht80; exact not_f ht80
      refine ga (i64_add1 (by unfold maxL; omega)) ?_
      exact gK1 hK3 (k + 1) ⟨hkn,all_step hkj hp h1⟩
    ·have hP : b.pts.all mk1 = true := all_end (lss_end hk ht52) hkj
     refine ga (i64_add1 (by unfold maxL; omega)) ?_
     exact gK1 hK2 (i + 1) ⟨hin,all_step hj2 hb hP⟩
   ·have hL : l.bodies.all (fun b => b.pts.all mk1) = true := all_end (lss_end hi2 ht45) hj2
    refine gc (c_r19_Check l hl) ?_
    refine gC (fun ht85 => ?_) (fun ht85 => ?_)
    ·have h1 := neq_t ht85
     refine gE1 ?_
     unfold l27B; rw [g1,decide_eq_true g2,hT,hL,if_neg h1]; rfl
    ·have h1 := neq_f ht85
     have hsl := splitG_len h1
     have hld := hl.ld
     refine gc (c_r25_Split l hl h1) ?_
     refine gl ?_
     refine gl ?_
     refine ga (i64_subI (by omega)) ?_
     refine gcG (fun _ => (c_l27_low l hl xs hxl)) ?_
     refine gE1 ?_
     unfold l27B resB; rw [g1,decide_eq_true g2,hT,hL,if_pos h1]; rfl
end Go.Lw
namespace Go.Lw
open Go.Proofs
def dL (x : AV) : List Rat := match x with
  | .lst _ es => es.map dQ
  | _ => []
def lenB : Nat -> Nat -> Bool
  | 0,l => Nat.beq l 1
  | n + 1,l => Nat.beq l (2 ^ (n + 1)) || lenB n l
def nmB (n : Nat) (l : List Rat) : Bool := l.all smQ && (Nat.beq l.length 0 || lenB n l.length)
theorem lenB_ok : ∀ {n l : Nat}, lenB n l = true -> ∃ j, j <= n /\ l = 2 ^ j
 | 0,l,h => ⟨0,Nat.le_refl _,by unfold lenB at h; exact Nat.eq_of_beq_eq_true h⟩
 | n + 1, l, h => by
  unfold lenB at h
  rw [Bool.or_eq_true] at h
  rcases h with h | h
  ·exact ⟨n + 1,Nat.le_refl _,Nat.eq_of_beq_eq_true h⟩
  ·obtain ⟨j, h1, h2⟩ := lenB_ok h
   exact ⟨j,by omega,h2⟩
theorem nmB_nm {n : Nat} (h5 : n <= 5) {l : List Rat} (h : nmB n l = true) : Nm n 4000 l := by
 unfold nmB at h
 rw [Bool.and_eq_true,Bool.or_eq_true,List.all_eq_true] at h
 obtain ⟨h1,h2⟩ := h
 have hl : Nl n l := by
  rcases h2 with h2 | h2
  ·exact .inl (List.eq_nil_of_length_eq_zero (Nat.eq_of_beq_eq_true h2))
  ·exact .inr (lenB_ok h2)
 have h3 := hl.le
 have h4 : l.length <= 32 := Nat.le_trans h3 (pow_le2 (b := 5) h5)
 obtain ⟨D,N,a1,a2,a3⟩ := cd_list (e := 64) (l := l) (fun q hq => smQ_qb (h1 q hq))
 obtain ⟨k,hk⟩ : ∃ k,k = 4000 := ⟨_,rfl⟩
 rw [<- hk]
 exact ⟨h5,hl,D,N,a1,Nat.le_trans a2 (pow_le2 (by omega)),Nat.le_trans a3 (pow_le2 (by omega))⟩
structure TE where
  ts : List (List Rat)
  R : Nat
  tw : Tw ts R
  kb : eB R ts.length <= 300000
theorem TE.ct (t : TE) : Ct t.ts 4000 300000 := ⟨⟨t.R,t.tw,t.kb⟩,by omega,by omega,by omega,by omega⟩
def TE.A (t : TE) : AV := towA t.ts
abbrev TE.N (t : TE) : Type := Et t.ts
section
variable (t : TE)
def v2 (f : FuncId) (g : t.N -> t.N -> AV) (h : ∀ a b, nmB t.ts.length a = true -> nmB t.ts.length b = true -> FnC Tryz.prog f [t.A, nA a, nA b] (g (dE t.ts a) (dE t.ts b))) (a b : List Rat) : En :=
  match hh : nmB t.ts.length a && nmB t.ts.length b with
  | true => some ⟨f,[t.A,nA a,nA b],g (dE t.ts a) (dE t.ts b),[],h a b (by rw [Bool.and_eq_true] at hh; exact hh.1) (by rw [Bool.and_eq_true] at hh; exact hh.2)⟩
  | false => none
def oV2 (f : FuncId) (g : t.N -> t.N -> AV) (h : ∀ a b, nmB t.ts.length a = true -> nmB t.ts.length b = true -> FnC Tryz.prog f [t.A, nA a, nA b] (g (dE t.ts a) (dE t.ts b))) (xs : List AV) : En := match xs with
  | [_,a,b] => v2 t f g h (dL a) (dL b)
  | _ => none
def v1 (f : FuncId) (g : t.N -> AV) (h : ∀ a, nmB t.ts.length a = true -> FnC Tryz.prog f [t.A, nA a] (g (dE t.ts a))) (a : List Rat) : En :=
  match hh : nmB t.ts.length a with
  | true => some ⟨f,[t.A,nA a],g (dE t.ts a),[],h a hh⟩
  | false => none
def oV1 (f : FuncId) (g : t.N -> AV) (h : ∀ a, nmB t.ts.length a = true -> FnC Tryz.prog f [t.A, nA a] (g (dE t.ts a))) (xs : List AV) : En := match xs with
  | [_,a] => v1 t f g h (dL a)
  | _ => none
theorem TE.zl {a : List Rat} (h : nmB t.ts.length a = true) : Zl t.ts 4000 300000 a (dE t.ts a) 1 0 := Zl.at (nmB_nm t.tw.five h) (Nat.le_refl _)
theorem ex_Add (a b : List Rat) (ha : nmB t.ts.length a = true) (hb : nmB t.ts.length b = true) : FnC Tryz.prog 160 [t.A, nA a, nA b] (.tup [nA (sX (dE t.ts a + dE t.ts b)), .v .nilIface]) := by
 haveI := t.ct; haveI := t.zl ha; haveI := t.zl hb; exact x_Add
theorem ex_Sub (a b : List Rat) (ha : nmB t.ts.length a = true) (hb : nmB t.ts.length b = true) : FnC Tryz.prog 158 [t.A, nA a, nA b] (.tup [nA (sX (dE t.ts a - dE t.ts b)), .v .nilIface]) := by
 haveI := t.ct; haveI := t.zl ha; haveI := t.zl hb; exact x_Sub
theorem ex_Mul (a b : List Rat) (ha : nmB t.ts.length a = true) (hb : nmB t.ts.length b = true) : FnC Tryz.prog 159 [t.A, nA a, nA b] (.tup [nA (sX (dE t.ts a * dE t.ts b)), .v .nilIface]) := by
 haveI := t.ct; haveI := t.zl ha; haveI := t.zl hb; exact x_Mul
theorem ex_Neg (a : List Rat) (ha : nmB t.ts.length a = true) : FnC Tryz.prog 92 [t.A, nA a] (.tup [nA (sX (-dE t.ts a)), .v .nilIface]) := by
 haveI := t.ct; haveI := t.zl ha; exact x_Neg
theorem ex_Sign (a : List Rat) (ha : nmB t.ts.length a = true) : FnC Tryz.prog 110 [t.A, nA a] (.tup [i64 (sgE (dE t.ts a)), .v .nilIface]) := by
 haveI := t.ct; haveI := t.zl ha; exact x_Sign
theorem ex_Cmp (a b : List Rat) (ha : nmB t.ts.length a = true) (hb : nmB t.ts.length b = true) : FnC Tryz.prog 345 [t.A, nA a, nA b] (.tup [i64 (sgE (dE t.ts a - dE t.ts b)), .v .nilIface]) := by
 have h1 := lm_ge t.ts.length
 exact tw_Cmp t.tw (nmB_nm t.tw.five ha) (nmB_nm t.tw.five hb) (by omega)
theorem exr_Sign (a : List Rat) (ha : nmB t.ts.length a = true) : FnC Tryz.prog 22 [t.A, nA a] (i64 (sgE (dE t.ts a))) := by
 haveI := t.ct; haveI := t.zl ha; exact xr_Sign
theorem exr_Equal (a b : List Rat) (ha : nmB t.ts.length a = true) (hb : nmB t.ts.length b = true) : FnC Tryz.prog 24 [t.A, nA a, nA b] (bl (eqE (dE t.ts a) (dE t.ts b))) := by
 haveI := t.ct; haveI := t.zl ha; haveI := t.zl hb; exact xr_Equal
end
def smL (l : List Rat) : Bool := l.all smQ && Nat.ble l.length 1000000
theorem smL_ok {l : List Rat} (h : smL l = true) : (∀ q ∈ l, Qs q) /\ l.length <= 1000000 := by
 unfold smL at h
 rw [Bool.and_eq_true,List.all_eq_true,Nat.ble_eq] at h
 exact ⟨fun q hq => smQ_qs (h.1 q hq),h.2⟩
def wdE (a : List Rat) (n : Nat) : En := match hh : Nat.ble a.length n && Nat.ble n 1000000 with
  | true => some ⟨277,[nA a,i64 n],nA (wideL a n),[],c_tower_wide a n (by rw [Bool.and_eq_true,Nat.ble_eq] at hh; exact hh.1) (by rw [Bool.and_eq_true,Nat.ble_eq,Nat.ble_eq] at hh; omega)⟩
  | false => none
def oWd (xs : List AV) : En := match xs with
  | [a,n] => wdE (dL a) (dI n).toNat
  | _ => none
def plE2 (a b : List Rat) : En := match hh : smL a && smL b with
  | true => some ⟨202, [nA a, nA b], nA (plusL a b), [], by
      rw [Bool.and_eq_true] at hh
      exact c_tower_plus a b (smL_ok hh.1).1 (smL_ok hh.2).1 (by have := (smL_ok hh.1).2; omega) (by have := (smL_ok hh.2).2; omega)⟩
  | false => none
def oPl (xs : List AV) : En := match xs with
  | [a,b] => plE2 (dL a) (dL b)
  | _ => none
def miE (a : List Rat) : En := match hh : smL a with
  | true => some ⟨157,[nA a],nA (minusL a),[],c_tower_minus a (smL_ok hh).1 (by have := (smL_ok hh).2; omega)⟩
  | false => none
def oMi (xs : List AV) : En := match xs with
  | [a] => miE (dL a)
  | _ => none
def joE (a b : List Rat) (n : Nat) : En := match hh : Nat.ble a.length n && Nat.ble b.length n && Nat.ble n 1000000 with
  | true => some ⟨280, [nA a, nA b, i64 n], nA (joinL a b n), [], by
      rw [Bool.and_eq_true,Bool.and_eq_true,Nat.ble_eq,Nat.ble_eq,Nat.ble_eq] at hh
      exact c_tower_join a b n hh.1.1 hh.1.2 (by omega)⟩
  | false => none
def oJo (xs : List AV) : En := match xs with
  | [a,b,n] => joE (dL a) (dL b) (dI n).toNat
  | _ => none
def lev0 : List AV -> Bool
  | .agg (.lst _ [] :: _) :: _ => true
  | .agg (.v _ :: _) :: _ => true
  | _ => false
def byT (o o' : List AV -> En) (xs : List AV) : En := match lev0 xs with
  | true => o xs
  | false => o' xs
def te00 : TE := ⟨[],1,tw00,by decide⟩
def orcT (t : TE) (o : FuncId -> Option (List AV -> En)) : FuncId -> Option (List AV -> En)
  | 160 => some (byT (oT2 160 _ e_Add) (oV2 t 160 (fun x y => .tup [nA (sX (x + y)),.v .nilIface]) (ex_Add t)))
  | 158 => some (byT (oT2 158 _ e_Sub) (oV2 t 158 (fun x y => .tup [nA (sX (x - y)),.v .nilIface]) (ex_Sub t)))
  | 159 => some (byT (oT2 159 _ e_Mul) (oV2 t 159 (fun x y => .tup [nA (sX (x * y)),.v .nilIface]) (ex_Mul t)))
  | 92 => some (byT (oT1 92 _ e_Neg) (oV1 t 92 (fun x => .tup [nA (sX (-x)),.v .nilIface]) (ex_Neg t)))
  | 110 => some (byT (oT1 110 _ e_Sign) (oV1 t 110 (fun x => .tup [i64 (sgE x),.v .nilIface]) (ex_Sign t)))
  | 36 => some (byT (oC 36 [z0] (.v .nilIface) (tw_Check tw00)) (oC 36 [t.A] (.v .nilIface) (tw_Check t.tw)))
  | 22 => some (oV1 t 22 (fun x => i64 (sgE x)) (exr_Sign t))
  | 24 => some (byT (oT2 24 _ e_Equal) (oV2 t 24 (fun x y => bl (eqE x y)) (exr_Equal t)))
  | 277 => some oWd
  | 202 => some oPl
  | 157 => some oMi
  | 280 => some oJo
  | 345 => some (byT (oV2 te00 345 (fun x y => .tup [i64 (sgE (x - y)),.v .nilIface]) (ex_Cmp te00)) (oV2 t 345 (fun x y => .tup [i64 (sgE (x - y)),.v .nilIface]) (ex_Cmp t)))
  | f => o f
theorem tw16 : Tw [[(16 : Rat)]] 10 where
 three:=by decide
 len := fun j hj => by
  obtain rfl : j = 0:=by have : j < 1 := hj; omega
  rfl
 pos := fun j hj => by
  obtain rfl : j = 0:=by have : j < 1 := hj; omega
  decide +kernel
 rb := ⟨1, 16, by omega, fun d hd => by
  rw [List.mem_singleton.1 hd]
  exact ⟨by omega,fun q hq => ⟨16,by rw [List.mem_singleton.1 hq]; decide +kernel,by decide⟩⟩,by decide,by decide⟩
 le:=by decide
def te16 : TE := ⟨[[(16 : Rat)]],10,tw16,by decide⟩
end Go.Lw
namespace Go.Lw
def ck : Li := ⟨⟨#[115, 108, 105, 100, 101, 114]⟩, [barB ⟨#[102, 114, 97, 109, 101]⟩ 1, barB ⟨#[99, 114, 97, 110, 107]⟩ 3, barB ⟨#[114, 111, 100]⟩ 5],
  [⟨⟨#[111]⟩,0,1,0,0,0,0⟩,⟨⟨#[112]⟩,0,2,0,1,1,0⟩,⟨⟨#[115]⟩,1,2,1,0,0,1⟩],[⟨⟨#[100]⟩,1⟩]⟩
theorem ck_li : liE ck = 0 := by
 have h1 : bdsE ck = 0 := by
  unfold bdsE firstN bdE dupB mkE
  simp only [eqS_data]
  decide +kernel
 have h2 : jtsE ck = 0 := by
  unfold jtsE firstN jtE dupB
  simp only [eqS_data]
  decide +kernel
 have h3 : drsE ck = 0 := by
  unfold drsE firstN drE dupB
  simp only [eqS_data]
  decide +kernel
 unfold liE
 rw [h1,h2,h3]
 decide +kernel
theorem ck_okw : ck.okw := by
 refine ⟨by decide,fun b hb => ?_,fun j hj => ?_,fun d hd => ?_,by decide,by decide,by decide⟩
 ·simp only [ck, List.mem_cons, List.not_mem_nil, or_false] at hb
  rcases hb with rfl | rfl | rfl <;> exact bar_okw (by decide) (by omega)
 ·simp only [ck, List.mem_cons, List.not_mem_nil, or_false] at hj
  rcases hj with rfl | rfl | rfl <;> decide
 ·simp only [ck, List.mem_cons, List.not_mem_nil, or_false] at hd
  rcases hd with rfl; decide
theorem ck_ok : ck.ok := li_ok (by decide +kernel) ck_okw
end Go.Lw
namespace Go.Lw
open Go.Proofs
set_option maxRecDepth 20000
def k42_v0 : AV := .agg [.v (.string ⟨⟨[97]⟩⟩),.v (.bool false),.lst 1 [],.lst 1 [],.v (.bool false),.v (.slice none 0 0),.v (.slice none 0 0)]
def k42_v1 : AV := .lst 3 [.agg [.v (.bool false),.lst 1 [],.lst 1 []],.agg [.v (.bool true),.lst 1 [.v (.int .u32 1)],.lst 1 [.v (.int .u32 1)]]]
def k42_v2 : AV := .lst 3 [.agg [.v (.bool false),.lst 1 [],.lst 1 []],.agg [.v (.bool true),.lst 1 [.v (.int .u32 1)],.lst 1 [.v (.int .u32 5)]]]
def k42_v3 : AV := .lst 3 [.agg [.v (.bool false),.lst 1 [],.lst 1 []],.agg [.v (.bool false),.lst 1 [.v (.int .u32 1)],.lst 1 [.v (.int .u32 1)]]]
def k42_v4 : AV := .lst 3 [.agg [.v (.bool false),.lst 1 [],.lst 1 []],.agg [.v (.bool false),.lst 1 [.v (.int .u32 1)],.lst 1 [.v (.int .u32 5)]]]
def k42_v5 : AV := .agg [.v (.string ⟨⟨[111]⟩⟩),.v (.int .i64 0),.v (.int .i64 1),.v (.int .i64 0),.v (.int .i64 0),.v (.int .i64 0),.v (.int .i64 0)]
def k42_v6 : AV := .agg [.v (.string ⟨⟨[112]⟩⟩),.v (.int .i64 0),.v (.int .i64 2),.v (.int .i64 0),.v (.int .i64 1),.v (.int .i64 1),.v (.int .i64 0)]
def k42_v7 : AV := .agg [.v (.string ⟨⟨[115]⟩⟩),.v (.int .i64 1),.v (.int .i64 2),.v (.int .i64 1),.v (.int .i64 0),.v (.int .i64 0),.v (.int .i64 1)]
def k42_v8 : AV := .agg [.v (.slice none 0 0),.lst 3 [.agg [.v (.bool false),.lst 1 [.v (.int .u32 1)],.lst 1 [.v (.int .u32 1)]]],.lst 3 [],.lst 3 []]
def k42_v9 : AV := .agg [k42_v1,.lst 3 []]
def k42_v10 : AV := .agg [k42_v3,.lst 3 []]
def k42_v11 : AV := .agg [.lst 3 [.agg [.v (.bool false),.lst 1 [.v (.int .u32 1)],.lst 1 [.v (.int .u32 1)]]],.v (.slice none 0 0),.v (.slice none 0 0),.v (.slice none 0 0)]
def k42_v12 : AV := .agg [.v (.slice none 0 0),.lst 3 [.agg [.v (.bool false),.lst 1 [.v (.int .u32 1)],.lst 1 [.v (.int .u32 1)]]],.v (.slice none 0 0),.v (.slice none 0 0)]
def k42_v13 : AV := .agg [.v (.string ⟨⟨[98]⟩⟩),.v (.bool false),.lst 1 [.v (.int .u32 1)],.lst 1 [.v (.int .u32 1)],.v (.bool false),.v (.slice none 0 0),.v (.slice none 0 0)]
def k42_v14 : AV := .agg [.v (.string ⟨⟨[98]⟩⟩),.v (.bool false),.lst 1 [.v (.int .u32 3)],.lst 1 [.v (.int .u32 1)],.v (.bool false),.v (.slice none 0 0),.v (.slice none 0 0)]
def k42_v15 : AV := .agg [.v (.string ⟨⟨[98]⟩⟩),.v (.bool false),.lst 1 [.v (.int .u32 5)],.lst 1 [.v (.int .u32 1)],.v (.bool false),.v (.slice none 0 0),.v (.slice none 0 0)]
def k42_v16 : AV := .lst 7 [k42_v0,k42_v13]
def k42_v17 : AV := .lst 7 [k42_v0,k42_v14]
def k42_v18 : AV := .lst 7 [k42_v0,k42_v15]
def k42_v19 : AV := .lst 2 [k42_v10,k42_v9]
def k42_v20 : AV := .agg [k42_v2,.lst 3 [.agg [.v (.bool true),.lst 1 [.v (.int .u32 3)],.lst 1 [.v (.int .u32 5)]]],.lst 3 [],.lst 3 [.agg [.v (.bool false),.lst 1 [.v (.int .u32 3)],.lst 1 [.v (.int .u32 1)]]]]
def k42_v21 : AV := .agg [k42_v4,.lst 3 [.agg [.v (.bool true),.lst 1 [.v (.int .u32 3)],.lst 1 [.v (.int .u32 5)]]],.lst 3 [],.lst 3 [.agg [.v (.bool false),.lst 1 [.v (.int .u32 3)],.lst 1 [.v (.int .u32 1)]]]]
def k42_v22 : AV := .lst 4 [k42_v20]
def k42_v23 : AV := .lst 4 [k42_v21]
def k42_v24 : AV := .agg [k42_v4,.lst 3 [.agg [.v (.bool true),.lst 1 [.v (.int .u32 3)],.lst 1 [.v (.int .u32 5)]]],.v (.slice none 0 0),.lst 3 [.agg [.v (.bool false),.lst 1 [.v (.int .u32 3)],.lst 1 [.v (.int .u32 1)]]]]
def k42_v25 : AV := .agg [.v (.string ⟨⟨[114,111,100]⟩⟩),k42_v18]
def k42_v26 : AV := .agg [.v (.string ⟨⟨[99,114,97,110,107]⟩⟩),k42_v17]
def k42_v27 : AV := .agg [.v (.string ⟨⟨[102,114,97,109,101]⟩⟩),k42_v16]
def k42_v28 : AV := .lst 7 [k42_v5,k42_v6,k42_v7]
def k42_v29 : AV := .agg [.lst 1 [.lst 3 [.agg [.v (.bool false),.lst 1 [.v (.int .u32 16)],.lst 1 [.v (.int .u32 1)]]]],k42_v23,.v (.int .i64 1)]
def k42_v30 : AV := .agg [.lst 1 [.lst 3 [.agg [.v (.bool false),.lst 1 [.v (.int .u32 16)],.lst 1 [.v (.int .u32 1)]]]],k42_v22,.v (.int .i64 (-1))]
def k42_v31 : AV := .lst 4 [k42_v11,k42_v12,k42_v24]
def k42_v32 : AV := .agg [.lst 1 [.lst 3 [.agg [.v (.bool false),.lst 1 [.v (.int .u32 16)],.lst 1 [.v (.int .u32 1)]]]],k42_v31,.lst 1 [.v (.int .i64 1),.v (.int .i64 1)]]
def k42_v33 : AV := .lst 2 [k42_v27,k42_v26,k42_v25]
def k42_v34 : AV := .agg [.v (.string ⟨⟨[115,108,105,100,101,114]⟩⟩),k42_v33,k42_v28,.lst 2 [.agg [.v (.string ⟨⟨[100]⟩⟩),.v (.int .i64 1)]]]
theorem k42_0 : Con Tryz.prog 43 [] [] (k42_v34) [] := ev_fn ⟨orF [] ((orcT te16 (orcG ck ck_ok ck_li))),feG Tryz.prog,mutF⟩ 6000 (base := 2000) (av := []) (by kernel_rfl)
def k42_l0 : List (Ent Tryz.prog) := ⟨_,_,_,_,k42_0⟩ :: []
theorem k42_1 : Con Tryz.prog 226 [.agg [.v (.slice none 0 0)],.lst 3 [],.lst 3 [.agg [.v (.bool false),.lst 1 [.v (.int .u32 1)],.lst 1 [.v (.int .u32 1)]]]] [] (.tup [.v (.slice none 0 0),.v .nilIface]) [] := ev_fn ⟨orF k42_l0 ((orcT te16 (orcG ck ck_ok ck_li))),feG Tryz.prog,mutF⟩ 6000 (base := 2000) (av := []) (by kernel_rfl)
def k42_l1 : List (Ent Tryz.prog) := ⟨_,_,_,_,k42_1⟩ :: k42_l0
theorem k42_2 : Con Tryz.prog 226 [.agg [.v (.slice none 0 0)],.lst 3 [.agg [.v (.bool false),.lst 1 [.v (.int .u32 1)],.lst 1 [.v (.int .u32 1)]]],.lst 3 [.agg [.v (.bool false),.lst 1 [.v (.int .u32 1)],.lst 1 [.v (.int .u32 1)]]]] [] (.tup [.ms 300 3 0 1,.v .nilIface]) [(300,some (.row 3 [.agg [.v (.bool false),.lst 1 [.v (.int .u32 1)],.lst 1 [.v (.int .u32 1)]]]))] := ev_fn ⟨orF k42_l1 ((orcT te16 (orcG ck ck_ok ck_li))),feG Tryz.prog,mutF⟩ 6000 (base := 2000) (av := []) (by kernel_rfl)
def k42_l2 : List (Ent Tryz.prog) := ⟨_,_,_,_,k42_2⟩ :: k42_l1
theorem k42_3 : Con Tryz.prog 122 [k42_v34,.v (.int .i64 0),.agg [.v (.bool false),.lst 1 [.v (.int .u32 1)],.lst 1 [.v (.int .u32 1)],.v (.bool false)],.agg [.v (.slice none 0 0),.lst 4 [k42_v11,.agg [.v (.slice none 0 0),.v (.slice none 0 0),.v (.slice none 0 0),.v (.slice none 0 0)],.agg [.v (.slice none 0 0),.v (.slice none 0 0),.v (.slice none 0 0),.v (.slice none 0 0)]],.v (.slice none 0 0)]] [] (.tup [.lst 3 [.agg [.v (.slice none 0 0),.lst 4 [k42_v8],.v (.int .i64 1)]],.v .nilIface]) [] := ev_fn ⟨orF k42_l2 ((orcT te16 (orcG ck ck_ok ck_li))),feG Tryz.prog,mutF⟩ 6000 (base := 2000) (av := []) (by kernel_rfl)
def k42_l3 : List (Ent Tryz.prog) := ⟨_,_,_,_,k42_3⟩ :: k42_l2
theorem k42_4 : Con Tryz.prog 226 [.agg [.lst 1 [.lst 3 [.agg [.v (.bool false),.lst 1 [.v (.int .u32 16)],.lst 1 [.v (.int .u32 1)]]]]],k42_v3,.lst 3 [.agg [.v (.bool false),.lst 1 [.v (.int .u32 1)],.lst 1 [.v (.int .u32 1)]]]] [] (.tup [.ms 300 3 0 2,.v .nilIface]) [(300,some (.row 3 [.agg [.v (.bool false),.lst 1 [],.lst 1 []],.agg [.v (.bool false),.lst 1 [.v (.int .u32 1)],.lst 1 [.v (.int .u32 1)]]]))] := ev_fn ⟨orF k42_l3 ((orcT te16 (orcG ck ck_ok ck_li))),feG Tryz.prog,mutF⟩ 6000 (base := 2000) (av := []) (by kernel_rfl)
def k42_l4 : List (Ent Tryz.prog) := ⟨_,_,_,_,k42_4⟩ :: k42_l3
theorem k42_5 : Con Tryz.prog 226 [.agg [.lst 1 [.lst 3 [.agg [.v (.bool false),.lst 1 [.v (.int .u32 16)],.lst 1 [.v (.int .u32 1)]]]]],k42_v1,.lst 3 [.agg [.v (.bool false),.lst 1 [.v (.int .u32 1)],.lst 1 [.v (.int .u32 1)]]]] [] (.tup [.ms 300 3 0 2,.v .nilIface]) [(300,some (.row 3 [.agg [.v (.bool false),.lst 1 [],.lst 1 []],.agg [.v (.bool true),.lst 1 [.v (.int .u32 1)],.lst 1 [.v (.int .u32 1)]]]))] := ev_fn ⟨orF k42_l4 ((orcT te16 (orcG ck ck_ok ck_li))),feG Tryz.prog,mutF⟩ 6000 (base := 2000) (av := []) (by kernel_rfl)
def k42_l5 : List (Ent Tryz.prog) := ⟨_,_,_,_,k42_5⟩ :: k42_l4
theorem k42_6 : Con Tryz.prog 255 [.agg [.v (.slice none 0 0)],.agg [.lst 3 [],.lst 3 [.agg [.v (.bool false),.lst 1 [.v (.int .u32 3)],.lst 1 [.v (.int .u32 1)]]],.lst 3 [.agg [.v (.bool false),.lst 1 [.v (.int .u32 25)],.lst 1 [.v (.int .u32 1)]]]],.agg [.lst 3 [],.lst 3 []],.agg [.lst 3 [.agg [.v (.bool false),.lst 1 [.v (.int .u32 1)],.lst 1 [.v (.int .u32 1)]]],.lst 3 []]] [] (.tup [.agg [.ms 301 1 0 1,k42_v19],.v .nilIface]) [(301,some (.row 1 [.lst 3 [.agg [.v (.bool false),.lst 1 [.v (.int .u32 16)],.lst 1 [.v (.int .u32 1)]]]]))] := ev_fn ⟨orF k42_l5 ((orcT te16 (orcG ck ck_ok ck_li))),feG Tryz.prog,mutF⟩ 6000 (base := 2000) (av := []) (by kernel_rfl)
def k42_l6 : List (Ent Tryz.prog) := ⟨_,_,_,_,k42_6⟩ :: k42_l5
theorem k42_7 : Con Tryz.prog 226 [.agg [.lst 1 [.lst 3 [.agg [.v (.bool false),.lst 1 [.v (.int .u32 16)],.lst 1 [.v (.int .u32 1)]]]]],.lst 3 [.agg [.v (.bool false),.lst 1 [],.lst 1 []],.agg [.v (.bool false),.lst 1 [.v (.int .u32 5)],.lst 1 [.v (.int .u32 1)]]],.lst 3 [.agg [.v (.bool false),.lst 1 [.v (.int .u32 25)],.lst 1 [.v (.int .u32 1)]]]] [] (.tup [.ms 300 3 0 2,.v .nilIface]) [(300,some (.row 3 [.agg [.v (.bool false),.lst 1 [],.lst 1 []],.agg [.v (.bool false),.lst 1 [.v (.int .u32 1)],.lst 1 [.v (.int .u32 5)]]]))] := ev_fn ⟨orF k42_l6 ((orcT te16 (orcG ck ck_ok ck_li))),feG Tryz.prog,mutF⟩ 6000 (base := 2000) (av := []) (by kernel_rfl)
def k42_l7 : List (Ent Tryz.prog) := ⟨_,_,_,_,k42_7⟩ :: k42_l6
theorem k42_8 : Con Tryz.prog 226 [.agg [.lst 1 [.lst 3 [.agg [.v (.bool false),.lst 1 [.v (.int .u32 16)],.lst 1 [.v (.int .u32 1)]]]]],.lst 3 [.agg [.v (.bool true),.lst 1 [.v (.int .u32 15)],.lst 1 [.v (.int .u32 1)]]],.lst 3 [.agg [.v (.bool false),.lst 1 [.v (.int .u32 25)],.lst 1 [.v (.int .u32 1)]]]] [] (.tup [.ms 300 3 0 1,.v .nilIface]) [(300,some (.row 3 [.agg [.v (.bool true),.lst 1 [.v (.int .u32 3)],.lst 1 [.v (.int .u32 5)]]]))] := ev_fn ⟨orF k42_l7 ((orcT te16 (orcG ck ck_ok ck_li))),feG Tryz.prog,mutF⟩ 6000 (base := 2000) (av := []) (by kernel_rfl)
def k42_l8 : List (Ent Tryz.prog) := ⟨_,_,_,_,k42_8⟩ :: k42_l7
theorem k42_9 : Con Tryz.prog 226 [.agg [.lst 1 [.lst 3 [.agg [.v (.bool false),.lst 1 [.v (.int .u32 16)],.lst 1 [.v (.int .u32 1)]]]]],.lst 3 [.agg [.v (.bool false),.lst 1 [],.lst 1 []],.agg [.v (.bool true),.lst 1 [.v (.int .u32 5)],.lst 1 [.v (.int .u32 1)]]],.lst 3 [.agg [.v (.bool false),.lst 1 [.v (.int .u32 25)],.lst 1 [.v (.int .u32 1)]]]] [] (.tup [.ms 300 3 0 2,.v .nilIface]) [(300,some (.row 3 [.agg [.v (.bool false),.lst 1 [],.lst 1 []],.agg [.v (.bool true),.lst 1 [.v (.int .u32 1)],.lst 1 [.v (.int .u32 5)]]]))] := ev_fn ⟨orF k42_l8 ((orcT te16 (orcG ck ck_ok ck_li))),feG Tryz.prog,mutF⟩ 6000 (base := 2000) (av := []) (by kernel_rfl)
def k42_l9 : List (Ent Tryz.prog) := ⟨_,_,_,_,k42_9⟩ :: k42_l8
theorem k42_10 : Con Tryz.prog 253 [.agg [.lst 1 [.lst 3 [.agg [.v (.bool false),.lst 1 [.v (.int .u32 16)],.lst 1 [.v (.int .u32 1)]]]],k42_v19],.lst 14 [.agg [.v (.bool false),.lst 1 [],.lst 1 [],.v (.bool false),.v (.slice none 0 0),.v (.slice none 0 0),.lst 3 [],.lst 3 [.agg [.v (.bool false),.lst 1 [.v (.int .u32 3)],.lst 1 [.v (.int .u32 1)]]],.v (.bool false),.lst 1 [.v (.int .u32 5)],.lst 1 [.v (.int .u32 1)],.v (.bool false),.v (.slice none 0 0),.v (.slice none 0 0)]]] [] (.tup [.ms 300 3 0 2,.v .nilIface]) [(300,some (.row 3 [k42_v29,k42_v30]))] := ev_fn ⟨orF k42_l9 ((orcT te16 (orcG ck ck_ok ck_li))),feG Tryz.prog,mutF⟩ 6000 (base := 2000) (av := []) (by kernel_rfl)
def k42_l10 : List (Ent Tryz.prog) := ⟨_,_,_,_,k42_10⟩ :: k42_l9
theorem k42_11 : Con Tryz.prog 122 [k42_v34,.v (.int .i64 1),.agg [.v (.bool false),.v (.slice none 0 0),.v (.slice none 0 0),.v (.bool false)],.agg [.v (.slice none 0 0),.lst 4 [k42_v11,k42_v8,.agg [.v (.slice none 0 0),.v (.slice none 0 0),.v (.slice none 0 0),.v (.slice none 0 0)]],.lst 1 [.v (.int .i64 1)]]] [] (.tup [.ms 300 3 0 2,.v .nilIface]) [(300,some (.row 3 [k42_v29,k42_v30]))] := ev_fn ⟨orF k42_l10 ((orcT te16 (orcG ck ck_ok ck_li))),feG Tryz.prog,mutF⟩ 6000 (base := 2000) (av := []) (by kernel_rfl)
def k42_l11 : List (Ent Tryz.prog) := ⟨_,_,_,_,k42_11⟩ :: k42_l10
theorem k42_12 : Con Tryz.prog 178 [.lst 3 [.agg [.v (.bool false),.lst 1 [.v (.int .u32 16)],.lst 1 [.v (.int .u32 1)]]]] [] (.ms 300 3 0 1) [(300,some (.row 3 [.agg [.v (.bool false),.lst 1 [.v (.int .u32 16)],.lst 1 [.v (.int .u32 1)]]]))] := ev_fn ⟨orF k42_l11 ((orcT te16 (orcG ck ck_ok ck_li))),feG Tryz.prog,mutF⟩ 6000 (base := 2000) (av := []) (by kernel_rfl)
def k42_l12 : List (Ent Tryz.prog) := ⟨_,_,_,_,k42_12⟩ :: k42_l11
theorem k42_13 : Con Tryz.prog 178 [.lst 3 [.agg [.v (.bool false),.lst 1 [.v (.int .u32 1)],.lst 1 [.v (.int .u32 1)]]]] [] (.ms 300 3 0 1) [(300,some (.row 3 [.agg [.v (.bool false),.lst 1 [.v (.int .u32 1)],.lst 1 [.v (.int .u32 1)]]]))] := ev_fn ⟨orF k42_l12 ((orcT te16 (orcG ck ck_ok ck_li))),feG Tryz.prog,mutF⟩ 6000 (base := 2000) (av := []) (by kernel_rfl)
def k42_l13 : List (Ent Tryz.prog) := ⟨_,_,_,_,k42_13⟩ :: k42_l12
theorem k42_14 : Con Tryz.prog 178 [.v (.slice none 0 0)] [] (.v (.slice none 0 0)) [] := ev_fn ⟨orF k42_l13 ((orcT te16 (orcG ck ck_ok ck_li))),feG Tryz.prog,mutF⟩ 6000 (base := 2000) (av := []) (by kernel_rfl)
def k42_l14 : List (Ent Tryz.prog) := ⟨_,_,_,_,k42_14⟩ :: k42_l13
theorem k42_15 : Con Tryz.prog 178 [.lst 3 []] [] (.v (.slice none 0 0)) [] := ev_fn ⟨orF k42_l14 ((orcT te16 (orcG ck ck_ok ck_li))),feG Tryz.prog,mutF⟩ 6000 (base := 2000) (av := []) (by kernel_rfl)
def k42_l15 : List (Ent Tryz.prog) := ⟨_,_,_,_,k42_15⟩ :: k42_l14
theorem k42_16 : Con Tryz.prog 178 [k42_v4] [] (.ms 300 3 0 2) [(300,some (.row 3 [.agg [.v (.bool false),.lst 1 [],.lst 1 []],.agg [.v (.bool false),.lst 1 [.v (.int .u32 1)],.lst 1 [.v (.int .u32 5)]]]))] := ev_fn ⟨orF k42_l15 ((orcT te16 (orcG ck ck_ok ck_li))),feG Tryz.prog,mutF⟩ 6000 (base := 2000) (av := []) (by kernel_rfl)
def k42_l16 : List (Ent Tryz.prog) := ⟨_,_,_,_,k42_16⟩ :: k42_l15
theorem k42_17 : Con Tryz.prog 178 [.lst 3 [.agg [.v (.bool true),.lst 1 [.v (.int .u32 3)],.lst 1 [.v (.int .u32 5)]]]] [] (.ms 300 3 0 1) [(300,some (.row 3 [.agg [.v (.bool true),.lst 1 [.v (.int .u32 3)],.lst 1 [.v (.int .u32 5)]]]))] := ev_fn ⟨orF k42_l16 ((orcT te16 (orcG ck ck_ok ck_li))),feG Tryz.prog,mutF⟩ 6000 (base := 2000) (av := []) (by kernel_rfl)
def k42_l17 : List (Ent Tryz.prog) := ⟨_,_,_,_,k42_17⟩ :: k42_l16
theorem k42_18 : Con Tryz.prog 178 [.lst 3 [.agg [.v (.bool false),.lst 1 [.v (.int .u32 3)],.lst 1 [.v (.int .u32 1)]]]] [] (.ms 300 3 0 1) [(300,some (.row 3 [.agg [.v (.bool false),.lst 1 [.v (.int .u32 3)],.lst 1 [.v (.int .u32 1)]]]))] := ev_fn ⟨orF k42_l17 ((orcT te16 (orcG ck ck_ok ck_li))),feG Tryz.prog,mutF⟩ 6000 (base := 2000) (av := []) (by kernel_rfl)
def k42_l18 : List (Ent Tryz.prog) := ⟨_,_,_,_,k42_18⟩ :: k42_l17
theorem k42_19 : Con Tryz.prog 42 [k42_v34,.lst 4 [.agg [.v (.bool false),.lst 1 [.v (.int .u32 1)],.lst 1 [.v (.int .u32 1)],.v (.bool false)]],.lst 1 [.v (.int .i64 1),.v (.int .i64 1)]] [] (.tup [k42_v32,.v .nilIface]) [] := ev_fn ⟨orF k42_l18 ((orcT te16 (orcG ck ck_ok ck_li))),feG Tryz.prog,mutF⟩ 6000 (base := 2000) (av := []) (by kernel_rfl)
def k42_l19 : List (Ent Tryz.prog) := ⟨_,_,_,_,k42_19⟩ :: k42_l18
theorem k42_20 : Con Tryz.prog 84 [k42_v34,.lst 4 [.agg [.v (.bool false),.lst 1 [.v (.int .u32 1)],.lst 1 [.v (.int .u32 1)],.v (.bool false)]],k42_v32] [] (.tup [.v (.bool true),.agg [.v (.int .i64 0),.v (.int .i64 0)],.v .nilIface]) [] := ev_fn ⟨orF k42_l19 ((orcT te16 (orcG ck ck_ok ck_li))),feG Tryz.prog,mutF⟩ 6000 (base := 2000) (av := []) (by kernel_rfl)
def k42_l20 : List (Ent Tryz.prog) := ⟨_,_,_,_,k42_20⟩ :: k42_l19
theorem k42_21 : Con Tryz.prog 290 [k42_v34,.v (.int .i64 0),k42_v32] [] (.tup [.lst 3 [.agg [.v (.bool false),.lst 1 [.v (.int .u32 1)],.lst 1 [.v (.int .u32 1)]]],.v .nilIface]) [] := ev_fn ⟨orF k42_l20 ((orcT te16 (orcG ck ck_ok ck_li))),feG Tryz.prog,mutF⟩ 6000 (base := 2000) (av := []) (by kernel_rfl)
def k42_l21 : List (Ent Tryz.prog) := ⟨_,_,_,_,k42_21⟩ :: k42_l20
theorem k42_22 : Con Tryz.prog 290 [k42_v34,.v (.int .i64 1),k42_v32] [] (.tup [k42_v3,.v .nilIface]) [] := ev_fn ⟨orF k42_l21 ((orcT te16 (orcG ck ck_ok ck_li))),feG Tryz.prog,mutF⟩ 6000 (base := 2000) (av := []) (by kernel_rfl)
def k42_l22 : List (Ent Tryz.prog) := ⟨_,_,_,_,k42_22⟩ :: k42_l21
theorem k42_23 : Con Tryz.prog 85 [k42_v34,.lst 4 [.agg [.v (.bool false),.lst 1 [.v (.int .u32 1)],.lst 1 [.v (.int .u32 1)],.v (.bool false)]],k42_v32] [] (.tup [.v (.slice none 0 0),.v .nilIface]) [] := ev_fn ⟨orF k42_l22 ((orcT te16 (orcG ck ck_ok ck_li))),feG Tryz.prog,mutF⟩ 6000 (base := 2000) (av := []) (by kernel_rfl)
def k42_l23 : List (Ent Tryz.prog) := ⟨_,_,_,_,k42_23⟩ :: k42_l22
theorem k42_24 : Con Tryz.prog 226 [.agg [.lst 1 [.lst 3 [.agg [.v (.bool false),.lst 1 [.v (.int .u32 16)],.lst 1 [.v (.int .u32 1)]]]]],.lst 3 [],k42_v3] [] (.tup [.v (.slice none 0 0),.v .nilIface]) [] := ev_fn ⟨orF k42_l23 ((orcT te16 (orcG ck ck_ok ck_li))),feG Tryz.prog,mutF⟩ 6000 (base := 2000) (av := []) (by kernel_rfl)
def k42_l24 : List (Ent Tryz.prog) := ⟨_,_,_,_,k42_24⟩ :: k42_l23
theorem k42_25 : Con Tryz.prog 44 [k42_v34,.lst 4 [.agg [.v (.bool false),.lst 1 [.v (.int .u32 1)],.lst 1 [.v (.int .u32 1)],.v (.bool false)]],k42_v32,.v (.int .i64 0)] [] (.tup [.ms 300 3 0 3,.v .nilIface]) [(300,some (.row 3 [.agg [.v (.slice none 0 0),.v (.slice none 0 0),.v (.slice none 0 0)],.agg [.lst 3 [.agg [.v (.bool false),.lst 1 [.v (.int .u32 1)],.lst 1 [.v (.int .u32 1)]]],.lst 3 [],.lst 3 []],.agg [.lst 3 [],.lst 3 [.agg [.v (.bool true),.lst 1 [.v (.int .u32 3)],.lst 1 [.v (.int .u32 1)]]],.lst 3 []]]))] := ev_fn ⟨orF k42_l24 ((orcT te16 (orcG ck ck_ok ck_li))),feG Tryz.prog,mutF⟩ 6000 (base := 2000) (av := []) (by kernel_rfl)
def k42_l25 : List (Ent Tryz.prog) := ⟨_,_,_,_,k42_25⟩ :: k42_l24
theorem k42_26 : Con Tryz.prog 17 [k42_v32,.lst 3 [.agg [.v (.slice none 0 0),.v (.slice none 0 0),.v (.slice none 0 0)],.agg [.lst 3 [.agg [.v (.bool false),.lst 1 [.v (.int .u32 1)],.lst 1 [.v (.int .u32 1)]]],.lst 3 [],.lst 3 []],.agg [.lst 3 [],.lst 3 [.agg [.v (.bool true),.lst 1 [.v (.int .u32 3)],.lst 1 [.v (.int .u32 1)]]],.lst 3 []]],.v (.int .i64 2),.agg [.v (.bool false),.lst 1 [.v (.int .u32 5)],.lst 1 [.v (.int .u32 1)]],.agg [.v (.bool false),.v (.slice none 0 0),.v (.slice none 0 0)]] [] (.tup [.agg [.lst 3 [.agg [.v (.bool true),.lst 1 [.v (.int .u32 3)],.lst 1 [.v (.int .u32 1)]]],.lst 3 []],.v .nilIface]) [] := ev_fn ⟨orF k42_l25 ((orcT te16 (orcG ck ck_ok ck_li))),feG Tryz.prog,mutF⟩ 6000 (base := 2000) (av := []) (by kernel_rfl)
def k42_l26 : List (Ent Tryz.prog) := ⟨_,_,_,_,k42_26⟩ :: k42_l25
theorem c_l42_awake : FnC Tryz.prog 14 [] (bl true) := ev_fn ⟨orF k42_l26 ((orcT te16 (orcG ck ck_ok ck_li))),feG Tryz.prog,mutF⟩ 6000 (base := 2000) (av := []) (by kernel_rfl)
end Go.Lw
namespace Go.Lw
open Go.Proofs
theorem at_nmv {l : Li} {a : As} (hg : Good l a) {body pt : Int} (h1 : inB body l.bodies.length = true) (h2 : inB pt (ptsAt l body).length = true) :
  Nm (llq a.rs).length 6000000 (sh (llq a.rs).length (ptAt l a body pt).1) /\ Nm (llq a.rs).length 6000000 (sh (llq a.rs).length (ptAt l a body pt).2) := by
 obtain ⟨n,k,bd,m,b,hp⟩ := hg.at h1 h2
 obtain ⟨tw,hta,h5,hll⟩ := hg.tw
 have kb := kb4 tw.three
 rw [hp.eq]
 have h := at_nm tw (hg.pl hp.gb).2 hp.qx hp.qy
 exact ⟨h.1.mono (by omega),h.2.mono (by omega)⟩
theorem dE_sX {ts : List (List Rat)} (x : Et ts) : dE ts (sX x) = x := dec_sh _ _
theorem pl_zu {l : Li} {a : As} (hg : Good l a) {body pt : Int} (h1 : inB body l.bodies.length = true) (h2 : inB pt (ptsAt l body).length = true) :
  Zu 4000 300000 (plE l a body pt).1 40 40 /\ Zu 4000 300000 (plE l a body pt).2 40 40 := by
 obtain ⟨n1,n2⟩ := at_nmv hg h1 h2
 exact ⟨⟨n1.mono (by omega)⟩,⟨n2.mono (by omega)⟩⟩
def vaE (ts : List (List Rat)) (v : Vr) (p : Et ts × Et ts) : Et ts × Et ts := (dE ts (lq v.x) - dE ts (lq v.w) * p.2,dE ts (lq v.y) + dE ts (lq v.w) * p.1)
def jdE (l : Li) (a : As) (r : List Vr) (j : Jt) : Et (llq a.rs) × Et (llq a.rs) :=
  ((vaE (llq a.rs) (r.getD j.a.toNat default) (plE l a j.a j.point)).1 - (vaE (llq a.rs) (r.getD j.b.toNat default) (plE l a j.a j.point)).1,
   (vaE (llq a.rs) (r.getD j.a.toNat default) (plE l a j.a j.point)).2 - (vaE (llq a.rs) (r.getD j.b.toNat default) (plE l a j.a j.point)).2)
def zeE {ts : List (List Rat)} (x : Et ts) : Bool := decide (sgE x = 0)
def jsE (l : Li) (a : As) (r : List Vr) (j : Jt) : Et (llq a.rs) :=
  crsE ((plE l a j.b j.to).1 - (plE l a j.b j.on).1) ((plE l a j.b j.to).2 - (plE l a j.b j.on).2) (jdE l a r j).1 (jdE l a r j).2
def jvB (l : Li) (a : As) (r : List Vr) (j : Jt) : Bool := if j.kind = 0 then zeE (jdE l a r j).1 && zeE (jdE l a r j).2 else zeE (jsE l a r j)
def z0B (a : As) (r : List Vr) : Bool :=
  zeE (dE (llq a.rs) (lq (r.getD 0 default).w)) && zeE (dE (llq a.rs) (lq (r.getD 0 default).x)) && zeE (dE (llq a.rs) (lq (r.getD 0 default).y))
def holdsB (l : Li) (a : As) (r : List Vr) : Bool := z0B a r && l.joints.all (jvB l a r)
def vhE (l : Li) (a : As) (r : List Vr) : Nat := if liE l ≠ 0 then liE l else if velE a r ≠ 0 then velE a r else if l.bodies.length ≠ a.bs.length then 10 else 0
theorem vh_1 {l : Li} {a : As} {r : List Vr} (h : liE l ≠ 0) : vhE l a r = liE l:=by unfold vhE; rw [if_pos h]
theorem vh_2 {l : Li} {a : As} {r : List Vr} (h : liE l = 0) (h2 : velE a r ≠ 0) : vhE l a r = velE a r:=by unfold vhE; rw [if_neg (by omega),if_pos h2]
theorem vh_3 {l : Li} {a : As} {r : List Vr} (h : liE l = 0) (h2 : velE a r = 0) (h3 : l.bodies.length ≠ a.bs.length) : vhE l a r = 10:=by unfold vhE; rw [if_neg (by omega),if_neg (by omega),if_pos h3]
theorem vh_4 {l : Li} {a : As} {r : List Vr} (h : liE l = 0) (h2 : velE a r = 0) (h3 : l.bodies.length = a.bs.length) : vhE l a r = 0:=by unfold vhE; rw [if_neg (by omega),if_neg (by omega),if_neg (by omega)]
theorem good_v {l : Li} {a : As} {r : List Vr} (hl : l.ok) (vl : VL a r) (h : liE l = 0) (h2 : velE a r = 0) (h3 : l.bodies.length = a.bs.length) : Good l a :=
 ⟨hl,h,vl.al,(vel_ok h2).chk,(vel_ok h2).bs,h3.symm⟩
theorem rate_at {l : Li} {a : As} {r : List Vr} (h2 : velE a r = 0) (h3 : l.bodies.length = a.bs.length) {k : Int} (h : inB k l.bodies.length = true) : ∃ (i : Nat) (v : Vr), k = (i : Int) /\ r[i]? = some v := by
 obtain ⟨h4,h5⟩ := inB_t h
 obtain ⟨i,rfl⟩ : ∃ i : Nat,k = (i : Int) := ⟨k.toNat,by omega⟩
 have h6 := (vel_ok h2).len
 obtain ⟨v,hv⟩ := getx (show i < r.length by omega)
 exact ⟨i,v,rfl,hv⟩
abbrev moR (l : Li) (a : As) (r : List Vr) : List AV := [.lst 1 (a.rs.map nR),.v .nilIface,.v (.string l.name),.lst 2 (l.bodies.map Bd.av),.lst 7 (l.joints.map Jt.av),.lst 2 (l.drivers.map Dr.av),.lst 1 (a.rs.map nR),.lst 4 (a.bs.map Pl.av),.lst 1 (a.ms.map i64),.lst 3 (r.map Vr.av)]
abbrev moB (l : Li) (a : As) (r : List Vr) : Blk := .box (moR l a r)
theorem eqE_zero {ts : List (List Rat)} (x : Et ts) : eqE x 0 = zeE x := by
 unfold eqE zeE
 rw [show x - 0 = x by grind]
theorem zne_t {z : Int} (h : icmp .neq z 0 = true) : z ≠ 0:=by simpa [icmp] using h
theorem zne_f {z : Int} (h : icmp .neq z 0 = false) : z = 0:=by simpa [icmp] using h
theorem c_vn_keep (l : Li) (A : As) (V : List Vr) (a : List Rat) : Con Tryz.prog 113 [.ptr 1000 0, nA a, .v .nilIface] [(1000, some (moB l A V))] (nA a) [(1000, some (moB l A V))] := by
 refine gF Tryz.func113 (fun k z h => lk1000 h) ?_
 refine gC (fun ht11 => ?_) (fun ht11 => ?_) (st2 := (77777,0))
 ·refine gR ?_
  exact Fin.keep (keep1 rfl)
 ·cases ht11
section
variable {l : Li} {A : As} {V : List Vr} {r u k : Nat} {a b c d e : List Rat} {x y z s t : Et (llq A.rs)} {w v w' v' w2 v2 w3 v3 w4 v4 : Nat}
theorem c_vn_mul (h : TR A.rs r) (hc : chkE A.rs = 0) [c0 : Ct (llq A.rs) u k] [ha : Zl (llq A.rs) u k a x w v] [hb : Zl (llq A.rs) u k b y w' v'] (hs : w + v + (w' + v') <= 10000 := by decide) :
  Con Tryz.prog 95 [.ptr 1000 0,nA a,nA b] [(1000,some (moB l A V))] (nA (sX (x * y))) [(1000,some (moB l A V))] := by
 have hx := x_Mul (ha := ha) (hb := hb) hs
 rw [tow_eq h hc] at hx
 refine gF Tryz.func95 (fun k z h => lk1000 h) ?_
 refine gc hx ?_
 refine gt (s_callH (c_vn_keep _ _ _ _) (.cons (.tmp rfl) (.cons (.tmp rfl) (.cons (.tmp rfl) .nil))) (by first | exact hH0 | exact hH1 rfl | exact hH2 rfl rfl) rfl rfl) ?_
 refine gR ?_
 exact Fin.keep (keep1 rfl)
theorem c_vn_add (h : TR A.rs r) (hc : chkE A.rs = 0) [c0 : Ct (llq A.rs) u k] [ha : Zl (llq A.rs) u k a x w v] [hb : Zl (llq A.rs) u k b y w' v'] (hs : w + v + (w' + v') <= 10000 := by decide) :
  Con Tryz.prog 96 [.ptr 1000 0,nA a,nA b] [(1000,some (moB l A V))] (nA (sX (x + y))) [(1000,some (moB l A V))] := by
 have hx := x_Add (ha := ha) (hb := hb) hs
 rw [tow_eq h hc] at hx
 refine gF Tryz.func96 (fun k z h => lk1000 h) ?_
 refine gc hx ?_
 refine gt (s_callH (c_vn_keep _ _ _ _) (.cons (.tmp rfl) (.cons (.tmp rfl) (.cons (.tmp rfl) .nil))) (by first | exact hH0 | exact hH1 rfl | exact hH2 rfl rfl) rfl rfl) ?_
 refine gR ?_
 exact Fin.keep (keep1 rfl)
theorem c_vn_sub (h : TR A.rs r) (hc : chkE A.rs = 0) [c0 : Ct (llq A.rs) u k] [ha : Zl (llq A.rs) u k a x w v] [hb : Zl (llq A.rs) u k b y w' v'] (hs : w + v + (w' + v') <= 10000 := by decide) :
  Con Tryz.prog 94 [.ptr 1000 0,nA a,nA b] [(1000,some (moB l A V))] (nA (sX (x - y))) [(1000,some (moB l A V))] := by
 have hx := x_Sub (ha := ha) (hb := hb) hs
 rw [tow_eq h hc] at hx
 refine gF Tryz.func94 (fun k z h => lk1000 h) ?_
 refine gc hx ?_
 refine gt (s_callH (c_vn_keep _ _ _ _) (.cons (.tmp rfl) (.cons (.tmp rfl) (.cons (.tmp rfl) .nil))) (by first | exact hH0 | exact hH1 rfl | exact hH2 rfl rfl) rfl rfl) ?_
 refine gR ?_
 exact Fin.keep (keep1 rfl)
theorem c_vn_at (h : TR A.rs r) (hc : chkE A.rs = 0) [c0 : Ct (llq A.rs) u k] [ha : Zl (llq A.rs) u k a x w v] [hb : Zl (llq A.rs) u k b y w' v'] [hc2 : Zl (llq A.rs) u k c z w2 v2] [hd : Zl (llq A.rs) u k d s w3 v3] [he : Zl (llq A.rs) u k e t w4 v4]
  (hs : w + v + (w' + v' + (w2 + v2)) + (w3 + v3 + (w4 + v4)) <= 1000) :
  Con Tryz.prog 48 [.ptr 1000 0,.agg [nA a,nA b,nA c],ptA d e] [(1000,some (moB l A V))] (ptA (sX (y - x * t)) (sX (z + x * s))) [(1000,some (moB l A V))] := by
 haveI i1 := ha.zu
 haveI i2 := hb.zu
 haveI i3 := hc2.zu
 haveI i4 := hd.zu
 haveI i5 := he.zu
 refine gF Tryz.func48 (fun k z h => lk1000 h) ?_
 refine gt (s_callH (c_vn_mul (ha := ha) (hb := he) (l := l) (V := V) h hc (by omega)) (.cons (.tmp rfl) (.cons (.tmp rfl) (.cons (.tmp rfl) .nil))) (by first | exact hH0 | exact hH1 rfl | exact hH2 rfl rfl) rfl rfl) ?_
 refine gt (s_callH (c_vn_sub (ha := hb) (b := sX (x * t)) (y := x * t) (l := l) (V := V) h hc (by omega)) (.cons (.tmp rfl) (.cons (.tmp rfl) (.cons (.tmp rfl) .nil))) (by first | exact hH0 | exact hH1 rfl | exact hH2 rfl rfl) rfl rfl) ?_
 refine gt (s_callH (c_vn_mul (ha := ha) (hb := hd) (l := l) (V := V) h hc (by omega)) (.cons (.tmp rfl) (.cons (.tmp rfl) (.cons (.tmp rfl) .nil))) (by first | exact hH0 | exact hH1 rfl | exact hH2 rfl rfl) rfl rfl) ?_
 refine gt (s_callH (c_vn_add (ha := hc2) (b := sX (x * s)) (y := x * s) (l := l) (V := V) h hc (by omega)) (.cons (.tmp rfl) (.cons (.tmp rfl) (.cons (.tmp rfl) .nil))) (by first | exact hH0 | exact hH1 rfl | exact hH2 rfl rfl) rfl rfl) ?_
 refine gD ?_
 refine gR ?_
 exact Fin.keep (keep1 rfl)
end
theorem c_vn_point (l : Li) (A : As) (V : List Vr) (a b : List Rat) : Con Tryz.prog 111 [.ptr 1000 0, ptA a b, .v .nilIface] [(1000, some (moB l A V))] (ptA a b) [(1000, some (moB l A V))] := by
 refine gF Tryz.func111 (fun k z h => lk1000 h) ?_
 refine gC (fun ht11 => ?_) (fun ht11 => ?_) (st2 := (77777,0))
 ·refine gR ?_
  exact Fin.keep (keep1 rfl)
 ·cases ht11
section
variable {l : Li} {A : As} {V : List Vr} {r u k : Nat} {a b a2 b2 : List Rat} {x y x2 y2 : Et (llq A.rs)} {w v w' v' w2 v2 w3 v3 : Nat}
theorem c_vn_less (h : TR A.rs r) (hc : chkE A.rs = 0) [c0 : Ct (llq A.rs) u k] [ha : Zl (llq A.rs) u k a x w v] [hb : Zl (llq A.rs) u k b y w' v'] [ha2 : Zl (llq A.rs) u k a2 x2 w2 v2] [hb2 : Zl (llq A.rs) u k b2 y2 w3 v3] (hs : w + v + (w' + v') + (w2 + v2 + (w3 + v3)) <= 2500 := by decide) :
  Con Tryz.prog 58 [.ptr 1000 0,ptA a b,ptA a2 b2] [(1000,some (moB l A V))] (ptA (sX (x - x2)) (sX (y - y2))) [(1000,some (moB l A V))] := by
 obtain ⟨R0,tw,hk⟩ := c0.ex
 have h0 := pt_lm c0 hk
 have hx := c_point_Sub (e := 2500 * 1000000) tw (ha.up c0 (by omega)) (hb.up c0 (by omega)) (ha2.up c0 (by omega)) (hb2.up c0 (by omega)) (by omega)
 rw [ha.eq,hb.eq,ha2.eq,hb2.eq,tow_eq h hc] at hx
 refine gF Tryz.func58 (fun k z h => lk1000 h) ?_
 refine gc hx ?_
 refine gt (s_callH (c_vn_point _ _ _ _ _) (.cons (.tmp rfl) (.cons (.tmp rfl) (.cons (.tmp rfl) .nil))) (by first | exact hH0 | exact hH1 rfl | exact hH2 rfl rfl) rfl rfl) ?_
 refine gD ?_
 refine gR ?_
 exact Fin.keep (keep1 rfl)
theorem c_vn_cross (h : TR A.rs r) (hc : chkE A.rs = 0) [c0 : Ct (llq A.rs) u k] [ha : Zl (llq A.rs) u k a x w v] [hb : Zl (llq A.rs) u k b y w' v'] [ha2 : Zl (llq A.rs) u k a2 x2 w2 v2] [hb2 : Zl (llq A.rs) u k b2 y2 w3 v3] (hs : w + v + (w' + v') + (w2 + v2 + (w3 + v3)) <= 2500 := by decide) :
  Con Tryz.prog 60 [.ptr 1000 0,ptA a b,ptA a2 b2] [(1000,some (moB l A V))] (nA (sX (crsE x y x2 y2))) [(1000,some (moB l A V))] := by
 obtain ⟨R0,tw,hk⟩ := c0.ex
 have h0 := pt_lm c0 hk
 have hx := c_point_Cross (e := 2500 * 1000000) tw (ha.up c0 (by omega)) (hb.up c0 (by omega)) (ha2.up c0 (by omega)) (hb2.up c0 (by omega)) (by omega)
 rw [ha.eq,hb.eq,ha2.eq,hb2.eq,tow_eq h hc] at hx
 refine gF Tryz.func60 (fun k z h => lk1000 h) ?_
 refine gc hx ?_
 refine gt (s_callH (c_vn_keep _ _ _ _) (.cons (.tmp rfl) (.cons (.tmp rfl) (.cons (.tmp rfl) .nil))) (by first | exact hH0 | exact hH1 rfl | exact hH2 rfl rfl) rfl rfl) ?_
 refine gD ?_
 refine gR ?_
 exact Fin.keep (keep1 rfl)
end
theorem c_vn_zero {l : Li} {A : As} {V : List Vr} {r : Nat} (h : TR A.rs r) (hc : chkE A.rs = 0) (ls : List (List Rat)) {e : Nat} (hl : ∀ l ∈ ls, Nm (llq A.rs).length e l) (he : e <= lm (llq A.rs).length) (hn : ls.length <= 1000) :
  Con Tryz.prog 56 [.ptr 1000 0,.lst 1 (ls.map nA)] [(1000,some (moB l A V))] (bl (ls.all fun l => zeE (dE (llq A.rs) l))) [(1000,some (moB l A V))] := by
 obtain ⟨tw,etw⟩ := chk_tw h hc
 refine gF Tryz.func56 (fun k z h => lk1000 h) ?_
 refine gl ?_
 refine gL1 [0,9,10] [1000] (fun (i : Nat) => [(11,some (i64 i))]) (fun _ => []) (fun i => i <= ls.length /\ (ls.take i).all (fun l => zeE (dE (llq A.rs) l)) = true) (fun i => ls.length - i) 0 ⟨Nat.zero_le _,rfl⟩ ?_
 rintro i ⟨hi,hj⟩ K1 hK1
 refine gC (fun ht12 => ?_) (fun ht12 => ?_)
 ·have hin := lss_t ht12
  obtain ⟨x,hx⟩ := getx hin
  have hsg := tw_Sign tw (hl x (List.mem_of_getElem? hx)) he
  rw [<- etw] at hsg
  refine gi (getmap hx) ?_
  refine gC (fun ht19 => ?_) (fun ht19 => ?_) (st1 := (5,0))
  ·cases ht19
  ·refine gc hsg ?_
   refine gC (fun ht34 => ?_) (fun ht34 => ?_)
   ·have h1 : zeE (dE (llq A.rs) x) = false := decide_eq_false (zne_t ht34)
    refine gR ?_
    rw [all_miss hx h1]
    exact Fin.keep (keep1 rfl)
   ·have h1 : zeE (dE (llq A.rs) x) = true := decide_eq_true (zne_f ht34)
    refine ga (i64_add1 (by unfold maxL; omega)) ?_
    exact gK1 hK1 (i + 1) ⟨hin,all_step hj hx h1⟩
 ·have hin := lss_end hi ht12
  refine gR ?_
  rw [all_end hin hj]
  exact Fin.keep (keep1 rfl)
theorem c_mo_place {l : Li} {a : As} (hg : Good l a) (r : List Vr) {body pt : Int} (h1 : inB body l.bodies.length = true) (h2 : inB pt (ptsAt l body).length = true) :
  Con Tryz.prog 57 [.ptr 1000 0,i64 body,i64 pt] [(1000,some (moB l a r))] (ptA (sX (plE l a body pt).1) (sX (plE l a body pt).2)) [(1000,some (moB l a r))] := by
 obtain ⟨n,k,bd,m,b,hp⟩ := hg.at h1 h2
 obtain ⟨tw,hta,h5,hll⟩ := hg.tw
 have kb := kb4 tw.three
 have hlm := lm_ge (llq a.rs).length
 obtain ⟨hba,hbo⟩ := hg.pl hp.gb
 have hlb := hg.lo.lb
 have hn := hp.hn
 have hk := hp.hk
 show Con Tryz.prog _ _ _ (ptA (sh (llq a.rs).length (ptAt l a body pt).1) (sh (llq a.rs).length (ptAt l a body pt).2)) _
 rw [hp.eq]
 subst hn
 subst hk
 have hat : FnC Tryz.prog 37 [towR a.rs, b.av, m.x.av, m.y.av] (.tup [ptA (sh (llq a.rs).length (atP (llq a.rs) b m).1) (sh (llq a.rs).length (atP (llq a.rs) b m).2), .v .nilIface]) := by
  rw [hta,hba,hp.mx,hp.my]
  exact c_point_At tw hbo.c hbo.s hbo.x hbo.y hp.qx hp.qy (by omega)
 refine gF Tryz.func57 (fun k z h => lk1000 h) ?_
 refine gi (getmap hp.gbd) ?_
 refine gi (getmap hp.gm) ?_
 refine gi (getmap hp.gb) ?_
 refine gc hat ?_
 refine gt (s_callH (c_vn_point _ _ _ _ _) (.cons (.tmp rfl) (.cons (.tmp rfl) (.cons (.tmp rfl) .nil))) (by first | exact hH0 | exact hH1 rfl | exact hH2 rfl rfl) rfl rfl) ?_
 refine gD ?_
 refine gR ?_
 exact Fin.keep (keep1 rfl)
theorem c_mo_at2 {l : Li} {a : As} {r : List Vr} (vl : VL a r) (hv : velE a r = 0) {i : Nat} {v : Vr} (hi : r[i]? = some v) {p q : List Rat} {x y : Et (llq a.rs)} [hp : Zl (llq a.rs) 4000 300000 p x 40 40] [hq : Zl (llq a.rs) 4000 300000 q y 40 40] :
  Con Tryz.prog 59 [.ptr 1000 0,i64 i,ptA p q] [(1000,some (moB l a r))] (ptA (sX (vaE (llq a.rs) v (x,y)).1) (sX (vaE (llq a.rs) v (x,y)).2)) [(1000,some (moB l a r))] := by
 have hrl := vl.rl
 have vz := vz_of vl hv (List.mem_of_getElem? hi)
 haveI c := vl.al.ct (vel_ok hv).chk
 have hat := c_vn_at (l := l) (V := r) (ha := vz.w) (hb := vz.x) (hc2 := vz.y) (hd := hp) (he := hq) vl.al.tr (vel_ok hv).chk (by decide)
 rw [<- vz.av] at hat
 refine gF Tryz.func59 (fun k z h => lk1000 h) ?_
 refine gi (getmap hi) ?_
 refine gt (s_callH hat (.cons (.tmp rfl) (.cons (.tmp rfl) (.cons (.tmp rfl) .nil))) (by first | exact hH0 | exact hH1 rfl | exact hH2 rfl rfl) rfl rfl) ?_
 refine gD ?_
 refine gR ?_
 exact Fin.keep (keep1 rfl)
end Go.Lw
namespace Go.Lw
open Go.Proofs
structure JZ (l : Li) (a : As) (r : List Vr) (j : Jt) : Prop where
  ia : inB j.a l.bodies.length = true
  ib : inB j.b l.bodies.length = true
  pa : inB j.point (ptsAt l j.a).length = true
  pb : inB j.on (ptsAt l j.b).length = true
  pt : j.kind ≠ 0 -> inB j.to (ptsAt l j.b).length = true
  rA : ∃ (i : Nat) (v : Vr),j.a = (i : Int) /\ r[i]? = some v
  rB : ∃ (i : Nat) (v : Vr),j.b = (i : Int) /\ r[i]? = some v
theorem jz_of {l : Li} {a : As} {r : List Vr} (h : liE l = 0) (h2 : velE a r = 0) (h3 : l.bodies.length = a.bs.length) {i : Nat} {j : Jt} (hj : l.joints[i]? = some j) : JZ l a r j := by
 obtain ⟨i1,i2,i3,i4,i5⟩ := jt_in h hj
 exact ⟨i1,i2,i3,i4,i5,rate_at h2 h3 i1,rate_at h2 h3 i2⟩
theorem r0_of {l : Li} {a : As} {r : List Vr} (h : liE l = 0) (h2 : velE a r = 0) (h3 : l.bodies.length = a.bs.length) : ∃ v, r[0]? = some v := by
 have h4 := (li_parts h).2.2.2.2
 have h5 := (vel_ok h2).len
 exact getx (by omega)
theorem vz_zu {a : As} {r : List Vr} (vl : VL a r) (h : velE a r = 0) {v : Vr} (hv : v ∈ r) : Zu 4000 300000 (dE (llq a.rs) (lq v.w)) 1 0 /\ Zu 4000 300000 (dE (llq a.rs) (lq v.x)) 1 0 /\ Zu 4000 300000 (dE (llq a.rs) (lq v.y)) 1 0 := by
 have vz := vz_of vl h hv
 exact ⟨vz.w.zu,vz.x.zu,vz.y.zu⟩
theorem va_zu {a : As} {r : List Vr} (vl : VL a r) (h : velE a r = 0) {v : Vr} (hv : v ∈ r) {p : Et (llq a.rs) × Et (llq a.rs)} (hp : Zu 4000 300000 p.1 40 40) (hq : Zu 4000 300000 p.2 40 40) :
  Zu 4000 300000 (vaE (llq a.rs) v p).1 42 42 /\ Zu 4000 300000 (vaE (llq a.rs) v p).2 42 42 := by
 haveI c := vl.al.ct (vel_ok h).chk
 obtain ⟨z1,z2,z3⟩ := vz_zu vl h hv
 haveI := z1; haveI := z2; haveI := z3; haveI := hp; haveI := hq
 exact ⟨⟨(inferInstance : Zu 4000 300000 (dE (llq a.rs) (lq v.x) - dE (llq a.rs) (lq v.w) * p.2) _ _).nm.mono (by omega)⟩,⟨(inferInstance : Zu 4000 300000 (dE (llq a.rs) (lq v.y) + dE (llq a.rs) (lq v.w) * p.1) _ _).nm.mono (by omega)⟩⟩
theorem jd_zu {l : Li} {a : As} {r : List Vr} (hg : Good l a) (vl : VL a r) (h : velE a r = 0) {j : Jt} (jz : JZ l a r j) : Zu 4000 300000 (jdE l a r j).1 84 85 /\ Zu 4000 300000 (jdE l a r j).2 84 85 := by
 haveI c := vl.al.ct (vel_ok h).chk
 obtain ⟨i,v,e1,hv⟩ := jz.rA
 obtain ⟨i',v',e2,hv'⟩ := jz.rB
 obtain ⟨p1,p2⟩ := pl_zu hg jz.ia jz.pa
 obtain ⟨z1,z2⟩ := va_zu vl h (List.mem_of_getElem? hv) p1 p2
 obtain ⟨z3,z4⟩ := va_zu vl h (List.mem_of_getElem? hv') p1 p2
 haveI := z1; haveI := z2; haveI := z3; haveI := z4
 unfold jdE
 rw [e1,e2,Int.toNat_natCast,Int.toNat_natCast,getD_of hv,getD_of hv',<- e1]
 exact ⟨inferInstance,inferInstance⟩
theorem holds_step {l : Li} {a : As} {r : List Vr} {i : Nat} {j : Jt} (hj : l.joints[i]? = some j) {p : Bool} (hp : jvB l a r j = p) :
  cond p (z0B a r && (l.joints.take i).all (jvB l a r)) false = (z0B a r && (l.joints.take (i + 1)).all (jvB l a r)) := by
 rw [take_succ_get hj,List.all_append,List.all_cons,List.all_nil,Bool.and_true]
 subst hp
 generalize (l.joints.take i).all (jvB l a r) = q
 cases jvB l a r j <;> cases z0B a r <;> cases q <;> rfl
theorem c_vel_Holds (l : Li) (hl : l.ok) (a : As) (r : List Vr) (vl : VL a r) : FnC Tryz.prog 28 [l.av, a.av, .lst 3 (r.map Vr.av)] (.tup [bl (if vhE l a r = 0 then holdsB l a r else false), errA (vhE l a r)]) := by
 have hrl := vl.rl
 refine gF0 Tryz.func28 ?_
 refine gc (c_model_Check l hl) ?_
 refine gC (fun ht19 => ?_) (fun ht19 => ?_)
 ·have h1 := nNil_t ht19
  refine gE2 ?_
  rw [vh_1 h1,if_neg h1]; rfl
 ·have h1 := nNil_f ht19
  refine gc (c_vel_check a r vl) ?_
  refine gC (fun ht25 => ?_) (fun ht25 => ?_)
  ·have h2 := nNil_t ht25
   refine gE2 ?_
   rw [vh_2 h1 h2,if_neg h2]; rfl
  ·have h2 := nNil_f ht25
   refine gl ?_
   refine gl ?_
   refine gC (fun ht33 => ?_) (fun ht33 => ?_)
   ·have h3 := neqn_t ht33
    refine gE2 ?_
    rw [vh_3 h1 h2 h3]; rfl
   ·have h3 := neqn_f ht33
    have hg := good_v hl vl h1 h2 h3
    have hck := (vel_ok h2).chk
    haveI c := vl.al.ct hck
    obtain ⟨v0,hv0⟩ := r0_of h1 h2 h3
    have vz := vz_of vl h2 (List.mem_of_getElem? hv0)
    obtain ⟨tw,etw⟩ := chk_tw vl.al.tr hck
    have hlm := lm_ge (llq a.rs).length
    have hz0 := c_vn_zero (l := l) (V := r) vl.al.tr hck [lq v0.w, lq v0.x, lq v0.y] (e := 4000) (fun l hl => by
     simp only [List.mem_cons,List.not_mem_nil,or_false] at hl
     rcases hl with rfl | rfl | rfl
     ·exact vz.w.nm.mono (by omega)
     ·exact vz.x.nm.mono (by omega)
     ·exact vz.y.nm.mono (by omega)) (by omega) (by show 3 <= 1000; omega)
    have ez : [lq v0.w, lq v0.x, lq v0.y].map nA = [nR v0.w, nR v0.x, nR v0.y] := by
     have := vz.av; unfold Vr.av at this; simp only [AV.agg.injEq,List.cons.injEq] at this
     rw [this.1,this.2.1,this.2.2.1]; rfl
    rw [ez] at hz0
    have hz1 : ([lq v0.w, lq v0.x, lq v0.y].all fun l => zeE (dE (llq a.rs) l)) = z0B a r := by
     unfold z0B
     rw [getD_of hv0]
     simp only [List.all_cons,List.all_nil,Bool.and_true,Bool.and_assoc]
    rw [hz1] at hz0
    refine gi (getmap hv0) ?_
    refine gi (getmap hv0) ?_
    refine gi (getmap hv0) ?_
    refine gt (s_callH (Con.rekeyB 42 rfl rfl rfl rfl hz0) (.cons (.tmp rfl) (.cons (.tmp rfl) .nil)) (by first | exact hH0 | exact hH1 rfl | exact hH2 rfl rfl) rfl rfl) ?_
    refine gD ?_
    refine gl ?_
    refine gL1 [10,61,62] [42] (fun (i : Nat) => [(11,some (bl (z0B a r && (l.joints.take i).all (jvB l a r)))),(63,some (i64 i))]) (fun _ => []) (fun i => i <= l.joints.length) (fun i => l.joints.length - i) 0 (Nat.zero_le _) ?_ (h1 := (.cons rfl (Sub.of (by rw [List.take_zero,List.all_nil,Bool.and_true])) (.k .nil)))
    rintro i hi K1 hK1
    refine gC (fun ht64 => ?_) (fun ht64 => ?_)
    ·have hin := lss_t ht64
     obtain ⟨j,hj⟩ := getx hin
     have jz := jz_of (a := a) h1 h2 h3 hj
     have hlj := hl.lj
     obtain ⟨ka,va,ea,hva⟩ := jz.rA
     obtain ⟨kb,vb,eb,hvb⟩ := jz.rB
     obtain ⟨p1,p2⟩ := pl_zu hg jz.ia jz.pa
     haveI := p1
     haveI := p2
     obtain ⟨z1,z2⟩ := va_zu vl h2 (List.mem_of_getElem? hva) p1 p2
     obtain ⟨z3,z4⟩ := va_zu vl h2 (List.mem_of_getElem? hvb) p1 p2
     haveI := z1
     haveI := z2
     haveI := z3
     haveI := z4
     obtain ⟨d1,d2⟩ := jd_zu hg vl h2 jz
     have hcA := c_mo_at2 (l := l) vl h2 hva (p := sX (plE l a j.a j.point).1) (q := sX (plE l a j.a j.point).2)
     have hcB := c_mo_at2 (l := l) vl h2 hvb (p := sX (plE l a j.a j.point).1) (q := sX (plE l a j.a j.point).2)
     rw [<- ea] at hcA
     rw [<- eb] at hcB
     have hls := c_vn_less (l := l) (V := r) vl.al.tr hck (a := sX (vaE (llq a.rs) va (plE l a j.a j.point)).1) (b := sX (vaE (llq a.rs) va (plE l a j.a j.point)).2) (a2 := sX (vaE (llq a.rs) vb (plE l a j.a j.point)).1) (b2 := sX (vaE (llq a.rs) vb (plE l a j.a j.point)).2)
     have ejd : jdE l a r j = ((vaE (llq a.rs) va (plE l a j.a j.point)).1 - (vaE (llq a.rs) vb (plE l a j.a j.point)).1, (vaE (llq a.rs) va (plE l a j.a j.point)).2 - (vaE (llq a.rs) vb (plE l a j.a j.point)).2) := by
      unfold jdE
      rw [show j.a.toNat = ka by omega,show j.b.toNat = kb by omega,getD_of hva,getD_of hvb]
     have ej1 := congrArg Prod.fst ejd
     have ej2 := congrArg Prod.snd ejd
     dsimp only at ej1 ej2
     rw [<- ej1,<- ej2] at hls
     have hls' := hls
     refine gi (getmap hj) ?_
     refine gt (s_callH (Con.rekeyB 42 rfl rfl rfl rfl (c_mo_place hg r jz.ia jz.pa)) (.cons (.tmp rfl) (.cons (.tmp rfl) (.cons (.tmp rfl) .nil))) (by first | exact hH0 | exact hH1 rfl | exact hH2 rfl rfl) rfl rfl) ?_
     refine gt (s_callH (Con.rekeyB 42 rfl rfl rfl rfl hcA) (.cons (.tmp rfl) (.cons (.tmp rfl) (.cons (.tmp rfl) .nil))) (by first | exact hH0 | exact hH1 rfl | exact hH2 rfl rfl) rfl rfl) ?_
     refine gt (s_callH (Con.rekeyB 42 rfl rfl rfl rfl hcB) (.cons (.tmp rfl) (.cons (.tmp rfl) (.cons (.tmp rfl) .nil))) (by first | exact hH0 | exact hH1 rfl | exact hH2 rfl rfl) rfl rfl) ?_
     refine gt (s_callH (Con.rekeyB 42 rfl rfl rfl rfl hls') (.cons (.tmp rfl) (.cons (.tmp rfl) (.cons (.tmp rfl) .nil))) (by first | exact hH0 | exact hH1 rfl | exact hH2 rfl rfl) rfl rfl) ?_
     refine gD ?_
     refine gC (fun ht89 => ?_) (fun ht89 => ?_)
     ·have hk : j.kind = 0 := eql_t ht89
      have hzz := c_vn_zero (l := l) (V := r) vl.al.tr hck [sX (jdE l a r j).1, sX (jdE l a r j).2] (e := 84 * 4000 + 85 * 300000) (fun l hl => by
       simp only [List.mem_cons,List.not_mem_nil,or_false] at hl
       rcases hl with rfl | rfl
       ·exact d1.nm
       ·exact d2.nm) (by omega) (by show 2 <= 1000; omega)
      have hz2 : ([sX (jdE l a r j).1, sX (jdE l a r j).2].all fun l => zeE (dE (llq a.rs) l)) = jvB l a r j := by
       unfold jvB
       rw [if_pos hk]
       simp only [List.all_cons,List.all_nil,Bool.and_true]
       rw [dE_sX,dE_sX]
      rw [hz2] at hzz
      refine gt (s_callH (Con.rekeyB 42 rfl rfl rfl rfl hzz) (.cons (.tmp rfl) (.cons (.tmp rfl) .nil)) (by first | exact hH0 | exact hH1 rfl | exact hH2 rfl rfl) rfl rfl) ?_
      refine gD ?_
      refine ga (i64_add1 (by unfold maxL; omega)) ?_
      exact gK1 hK1 (i + 1) hin (hw := Wk.of (.cons rfl (Sub.of (congrArg bl (holds_step hj rfl))) (.k (.k (.k (.k .nil))))) (.cons rfl (.refl _) .nil))
     ·have hk : j.kind ≠ 0 := eql_f ht89
      obtain ⟨o1,o2⟩ := pl_zu hg jz.ib jz.pb
      obtain ⟨t1,t2⟩ := pl_zu hg jz.ib (jz.pt hk)
      haveI := o1
      haveI := o2
      haveI := t1
      haveI := t2
      haveI := d1
      haveI := d2
      have hl2 := c_vn_less (l := l) (V := r) vl.al.tr hck (a := sX (plE l a j.b j.to).1) (b := sX (plE l a j.b j.to).2) (a2 := sX (plE l a j.b j.on).1) (b2 := sX (plE l a j.b j.on).2)
      have hcr := c_vn_cross (l := l) (V := r) vl.al.tr hck (a := sX ((plE l a j.b j.to).1 - (plE l a j.b j.on).1)) (b := sX ((plE l a j.b j.to).2 - (plE l a j.b j.on).2)) (a2 := sX (jdE l a r j).1) (b2 := sX (jdE l a r j).2)
      have njs : Zu 4000 300000 (jsE l a r j) _ _ := (inferInstance : Zu 4000 300000 (crsE ((plE l a j.b j.to).1 - (plE l a j.b j.on).1) ((plE l a j.b j.to).2 - (plE l a j.b j.on).2) (jdE l a r j).1 (jdE l a r j).2) _ _)
      have hzz := c_vn_zero (l := l) (V := r) vl.al.tr hck [sX (jsE l a r j)] (e := 10000 * 1000000) (fun l hl => by
       rw [List.mem_singleton.1 hl]
       exact njs.nm.mono (by omega)) (by omega) (by show 1 <= 1000; omega)
      have hz2 : ([sX (jsE l a r j)].all fun l => zeE (dE (llq a.rs) l)) = jvB l a r j := by
       unfold jvB
       rw [if_neg hk]
       simp only [List.all_cons,List.all_nil,Bool.and_true]
       rw [dE_sX]
      rw [hz2] at hzz
      refine gt (s_callH (Con.rekeyB 42 rfl rfl rfl rfl (c_mo_place hg r jz.ib (jz.pt hk))) (.cons (.tmp rfl) (.cons (.tmp rfl) (.cons (.tmp rfl) .nil))) (by first | exact hH0 | exact hH1 rfl | exact hH2 rfl rfl) rfl rfl) ?_
      refine gt (s_callH (Con.rekeyB 42 rfl rfl rfl rfl (c_mo_place hg r jz.ib jz.pb)) (.cons (.tmp rfl) (.cons (.tmp rfl) (.cons (.tmp rfl) .nil))) (by first | exact hH0 | exact hH1 rfl | exact hH2 rfl rfl) rfl rfl) ?_
      refine gt (s_callH (Con.rekeyB 42 rfl rfl rfl rfl hl2) (.cons (.tmp rfl) (.cons (.tmp rfl) (.cons (.tmp rfl) .nil))) (by first | exact hH0 | exact hH1 rfl | exact hH2 rfl rfl) rfl rfl) ?_
      refine gt (s_callH (Con.rekeyB 42 rfl rfl rfl rfl hcr) (.cons (.tmp rfl) (.cons (.tmp rfl) (.cons (.tmp rfl) .nil))) (by first | exact hH0 | exact hH1 rfl | exact hH2 rfl rfl) rfl rfl) ?_
      refine gt (s_callH (Con.rekeyB 42 rfl rfl rfl rfl hzz) (.cons (.tmp rfl) (.cons (.tmp rfl) .nil)) (by first | exact hH0 | exact hH1 rfl | exact hH2 rfl rfl) rfl rfl) ?_
      refine gD ?_
      refine ga (i64_add1 (by unfold maxL; omega)) ?_
      exact gK1 hK1 (i + 1) hin (hw := Wk.of (.cons rfl (Sub.of (congrArg bl (holds_step hj rfl))) (.k (.k (.k (.k .nil))))) (.cons rfl (.refl _) .nil))
    ·have hin := lss_end hi ht64
     refine gC (fun ht137 => ?_) (fun ht137 => ?_) (st1 := (21,0))
     ·cases ht137
     ·refine gE2 ?_
      rw [vh_4 h1 h2 h3,if_pos rfl,hin,List.take_length]; rfl
theorem c_r42_Same {ts : List (List Rat)} {u k : Nat} {a b c a2 b2 c2 : List Rat} {x y z x2 y2 z2 : Et ts} {w1 v1 w2 v2 w3 v3 w4 v4 w5 v5 w6 v6 : Nat} [c0 : Ct ts u k] [i1 : Zl ts u k a x w1 v1] [i2 : Zl ts u k b y w2 v2] [i3 : Zl ts u k c z w3 v3] [i4 : Zl ts u k a2 x2 w4 v4] [i5 : Zl ts u k b2 y2 w5 v5] [i6 : Zl ts u k c2 z2 w6 v6]
  (hs : w1 + v1 + (w2 + v2 + (w3 + v3)) + (w4 + v4 + (w5 + v5 + (w6 + v6))) <= 5000:=by decide) :
  FnC Tryz.prog 62 [towA ts,.agg [nA a,nA b,nA c],.agg [nA a2,nA b2,nA c2]] (bl (eqE x x2 && eqE y y2 && eqE z z2)) := by
 refine gF0 Tryz.func62 ?_
 refine gc (xr_Equal (ha := i1) (hb := i4) (by omega)) ?_
 refine gcG (fun _ => (xr_Equal (ha := i2) (hb := i5) (by omega))) ?_
 refine gcG (fun _ => (xr_Equal (ha := i3) (hb := i6) (by omega))) ?_
 refine gE1 ?_
 rw [and_cond,and_cond]; rfl
theorem c_r42_Holds (l : Li) (hl : l.ok) (a : As) (r : List Vr) (vl : VL a r) : FnC Tryz.prog 29 [l.av, a.av, .lst 3 (r.map Vr.av)] (.tup [bl (if vhE l a r = 0 then holdsB l a r else false), i64 (vhE l a r)]) := by
 have hrl := vl.rl
 refine gF0 Tryz.func29 ?_
 refine gc (c_r19_Check l hl) ?_
 refine gC (fun ht22 => ?_) (fun ht22 => ?_)
 ·have h1 := neq_t ht22
  refine gE2 ?_
  rw [vh_1 h1,if_neg h1]; rfl
 ·have h1 := neq_f ht22
  refine gc (c_r42_Bad a r vl) ?_
  refine gC (fun ht28 => ?_) (fun ht28 => ?_)
  ·have h2 := neq_t ht28
   refine gE2 ?_
   rw [vh_2 h1 h2,if_neg h2]; rfl
  ·have h2 := neq_f ht28
   refine gl ?_
   refine gl ?_
   refine gC (fun ht36 => ?_) (fun ht36 => ?_)
   ·have h3 := neqn_t ht36
    refine gE2 ?_
    rw [vh_3 h1 h2 h3]; rfl
   ·have h3 := neqn_f ht36
    have hg := good_v hl vl h1 h2 h3
    have hck := (vel_ok h2).chk
    haveI c := vl.al.ct hck
    obtain ⟨v0,hv0⟩ := r0_of h1 h2 h3
    have vz := vz_of vl h2 (List.mem_of_getElem? hv0)
    obtain ⟨tw,etw⟩ := chk_tw vl.al.tr hck
    have hsm := c_r42_Same (i1 := vz.w) (i2 := vz.x) (i3 := vz.y) (i4 := Zl.nil) (i5 := Zl.nil) (i6 := Zl.nil)
    rw [<- etw,<- vz.av,eqE_zero,eqE_zero,eqE_zero] at hsm
    have hz1 : (zeE (dE (llq a.rs) (lq v0.w)) && zeE (dE (llq a.rs) (lq v0.x)) && zeE (dE (llq a.rs) (lq v0.y))) = z0B a r := by
     unfold z0B
     rw [getD_of hv0]
    rw [hz1] at hsm
    refine gi (getmap hv0) ?_
    refine gc (Con.subA (.cons (.refl _) (.cons (.refl _) (.cons (Sub.agg (.cons (.nil _ _ _) (.cons (.nil _ _ _) (.cons (.nil _ _ _) .nil))) rfl) .nil))) hsm) ?_
    refine gD ?_
    refine gC (fun ht45 => ?_) (fun ht45 => ?_)
    ·have h4 := not_t ht45
     refine gE2 ?_
     rw [vh_4 h1 h2 h3,if_pos rfl]; unfold holdsB; rw [h4]; rfl
    ·have h4 := not_f ht45
     refine gl ?_
     refine gL1 [2,3,4,10,47,48] [3,4,10] (fun (i : Nat) => [(49,some (i64 i))]) (fun _ => []) (fun i => i <= l.joints.length /\ (l.joints.take i).all (jvB l a r) = true) (fun i => l.joints.length - i) 0 ⟨Nat.zero_le _,rfl⟩ ?_
     rintro i ⟨hi,hq⟩ K1 hK1
     refine gC (fun ht50 => ?_) (fun ht50 => ?_)
     ·have hin := lss_t ht50
      obtain ⟨j,hj⟩ := getx hin
      have jz := jz_of (a := a) h1 h2 h3 hj
      have hlj := hl.lj
      obtain ⟨ka,va,ea,hva⟩ := jz.rA
      obtain ⟨kb,vb,eb,hvb⟩ := jz.rB
      obtain ⟨p1,p2⟩ := pl_zu hg jz.ia jz.pa
      haveI := p1
      haveI := p2
      obtain ⟨z1,z2⟩ := va_zu vl h2 (List.mem_of_getElem? hva) p1 p2
      obtain ⟨z3,z4⟩ := va_zu vl h2 (List.mem_of_getElem? hvb) p1 p2
      haveI := z1
      haveI := z2
      haveI := z3
      haveI := z4
      obtain ⟨d1,d2⟩ := jd_zu hg vl h2 jz
      have vza := vz_of vl h2 (List.mem_of_getElem? hva)
      have vzb := vz_of vl h2 (List.mem_of_getElem? hvb)
      have hcA := c_r42_At (ha := vza.w) (hb := vza.x) (hc2 := vza.y) (d := sX (plE l a j.a j.point).1) (e := sX (plE l a j.a j.point).2) (by decide)
      have hcB := c_r42_At (ha := vzb.w) (hb := vzb.x) (hc2 := vzb.y) (d := sX (plE l a j.a j.point).1) (e := sX (plE l a j.a j.point).2) (by decide)
      rw [<- etw,<- vza.av] at hcA
      rw [<- etw,<- vzb.av] at hcB
      have hls := xr_Sub (ts := llq a.rs) (u := 4000) (k := 300000) (a := sX (vaE (llq a.rs) va (plE l a j.a j.point)).1) (b := sX (vaE (llq a.rs) va (plE l a j.a j.point)).2) (a2 := sX (vaE (llq a.rs) vb (plE l a j.a j.point)).1) (b2 := sX (vaE (llq a.rs) vb (plE l a j.a j.point)).2)
      have ejd : jdE l a r j = ((vaE (llq a.rs) va (plE l a j.a j.point)).1 - (vaE (llq a.rs) vb (plE l a j.a j.point)).1, (vaE (llq a.rs) va (plE l a j.a j.point)).2 - (vaE (llq a.rs) vb (plE l a j.a j.point)).2) := by
       unfold jdE
       rw [show j.a.toNat = ka by omega,show j.b.toNat = kb by omega,getD_of hva,getD_of hvb]
      have ej1 := congrArg Prod.fst ejd
      have ej2 := congrArg Prod.snd ejd
      dsimp only at ej1 ej2
      rw [<- ej1,<- ej2] at hls
      have hls' := hls
      rw [<- etw] at hls'
      obtain ⟨na,pa,bd,m,b,hp⟩ := hg.at jz.ia jz.pa
      obtain ⟨hba,hbo⟩ := hg.pl hp.gb
      have kb9 := kb4 tw.three
      have hlm9 := lm_ge (llq a.rs).length
      have hnA := hp.hn
      have hkA := hp.hk
      have hat : FnC Tryz.prog 13 [towR a.rs, b.av, m.x.av, m.y.av] (ptA (sX (plE l a j.a j.point).1) (sX (plE l a j.a j.point).2)) := by
       show FnC Tryz.prog _ _ (ptA (sh (llq a.rs).length (ptAt l a j.a j.point).1) (sh (llq a.rs).length (ptAt l a j.a j.point).2))
       rw [hp.eq,etw,hba,hp.mx,hp.my]
       exact c_r11_At tw hbo.c hbo.s hbo.x hbo.y hp.qx hp.qy (by omega)
      refine gi (getmap hj) ?_
      refine gi (getzx hp.hn hp.gbd) ?_
      refine gi (getzx hp.hk hp.gm) ?_
      refine gD ?_
      refine gi (getzx hp.hn hp.gb) ?_
      refine gc hat ?_
      refine gD ?_
      refine gi (getzx ea hva) ?_
      refine gc hcA ?_
      refine gi (getzx eb hvb) ?_
      refine gc hcB ?_
      refine gc hls' ?_
      refine gD ?_
      refine gC (fun ht96 => ?_) (fun ht96 => ?_)
      ·have hk : j.kind = 0 := eql_t ht96
       have hj1 : jvB l a r j = (zeE (jdE l a r j).1 && zeE (jdE l a r j).2):=by unfold jvB; rw [if_pos hk]
       haveI := d1
       haveI := d2
       have heq := xr_EqualPoint (ts := llq a.rs) (u := 4000) (k := 300000) (a := sX (jdE l a r j).1) (b := sX (jdE l a r j).2) (a2 := []) (b2 := [])
       rw [<- etw,eqE_zero,eqE_zero,<- hj1] at heq
       refine gc (Con.subA (.cons (.refl _) (.cons (.refl _) (.cons (Sub.agg (.cons (.nil _ _ _) (.cons (.nil _ _ _) .nil)) rfl) .nil))) heq) ?_
       refine gC (fun ht101 => ?_) (fun ht101 => ?_)
       ·have h5 := not_t ht101
        refine gE2 ?_
        rw [vh_4 h1 h2 h3,if_pos rfl]; unfold holdsB; rw [all_miss hj h5,Bool.and_false]; rfl
       ·have h5 := not_f ht101
        refine ga (i64_add1 (by unfold maxL; omega)) ?_
        exact gK1 hK1 (i + 1) ⟨hin,all_step hq hj h5⟩
      ·have hk : j.kind ≠ 0 := eql_f ht96
       have hj1 : jvB l a r j = zeE (jsE l a r j):=by unfold jvB; rw [if_neg hk]
       haveI := d1
       haveI := d2
       obtain ⟨o1,o2⟩ := pl_zu hg jz.ib jz.pb
       obtain ⟨t1,t2⟩ := pl_zu hg jz.ib (jz.pt hk)
       haveI := o1
       haveI := o2
       haveI := t1
       haveI := t2
       obtain ⟨nb,qb,bd2,m2,b2,hp2⟩ := hg.at jz.ib jz.pb
       obtain ⟨nb3,qb3,bd3,m3,b3,hp3⟩ := hg.at jz.ib (jz.pt hk)
       obtain ⟨hba2,hbo2⟩ := hg.pl hp2.gb
       obtain ⟨hba3,hbo3⟩ := hg.pl hp3.gb
       have hnB := hp2.hn
       have hkB := hp2.hk
       have hnC := hp3.hn
       have hkC := hp3.hk
       have hat2 : FnC Tryz.prog 13 [towR a.rs, b2.av, m2.x.av, m2.y.av] (ptA (sX (plE l a j.b j.on).1) (sX (plE l a j.b j.on).2)) := by
        show FnC Tryz.prog _ _ (ptA (sh (llq a.rs).length (ptAt l a j.b j.on).1) (sh (llq a.rs).length (ptAt l a j.b j.on).2))
        rw [hp2.eq,etw,hba2,hp2.mx,hp2.my]
        exact c_r11_At tw hbo2.c hbo2.s hbo2.x hbo2.y hp2.qx hp2.qy (by omega)
       have hat3 : FnC Tryz.prog 13 [towR a.rs, b3.av, m3.x.av, m3.y.av] (ptA (sX (plE l a j.b j.to).1) (sX (plE l a j.b j.to).2)) := by
        show FnC Tryz.prog _ _ (ptA (sh (llq a.rs).length (ptAt l a j.b j.to).1) (sh (llq a.rs).length (ptAt l a j.b j.to).2))
        rw [hp3.eq,etw,hba3,hp3.mx,hp3.my]
        exact c_r11_At tw hbo3.c hbo3.s hbo3.x hbo3.y hp3.qx hp3.qy (by omega)
       have hl2 := xr_Sub (ts := llq a.rs) (u := 4000) (k := 300000) (a := sX (plE l a j.b j.to).1) (b := sX (plE l a j.b j.to).2) (a2 := sX (plE l a j.b j.on).1) (b2 := sX (plE l a j.b j.on).2)
       have hcr := xr_Cross (ts := llq a.rs) (u := 4000) (k := 300000) (a := sX ((plE l a j.b j.to).1 - (plE l a j.b j.on).1)) (b := sX ((plE l a j.b j.to).2 - (plE l a j.b j.on).2)) (a2 := sX (jdE l a r j).1) (b2 := sX (jdE l a r j).2)
       have njs : Zu 4000 300000 (jsE l a r j) _ _ := (inferInstance : Zu 4000 300000 (crsE ((plE l a j.b j.to).1 - (plE l a j.b j.on).1) ((plE l a j.b j.to).2 - (plE l a j.b j.on).2) (jdE l a r j).1 (jdE l a r j).2) _ _)
       haveI := njs
       have hsg := xr_Sign (ts := llq a.rs) (u := 4000) (k := 300000) (a := sX (jsE l a r j))
       rw [<- etw] at hl2 hcr hsg
       refine gi (getzx hp2.hn hp2.gbd) ?_
       refine gi (getzx hp2.hk hp2.gm) ?_
       refine gi (getzx hp3.hn hp3.gbd) ?_
       refine gi (getzx hp3.hk hp3.gm) ?_
       refine gD ?_
       refine gi (getzx hp3.hn hp3.gb) ?_
       refine gc hat3 ?_
       refine gi (getzx hp2.hn hp2.gb) ?_
       refine gc hat2 ?_
       refine gc hl2 ?_
       refine gD ?_
       refine gc hcr ?_
       refine gc hsg ?_
       refine gD ?_
       refine gC (fun ht156 => ?_) (fun ht156 => ?_)
       ·have h5 : jvB l a r j = false := by rw [hj1]; exact decide_eq_false (zne_t ht156)
        refine gE2 ?_
        rw [vh_4 h1 h2 h3,if_pos rfl]; unfold holdsB; rw [all_miss hj h5,Bool.and_false]; rfl
       ·have h5 : jvB l a r j = true := by rw [hj1]; exact decide_eq_true (zne_f ht156)
        refine ga (i64_add1 (by unfold maxL; omega)) ?_
        exact gK1 hK1 (i + 1) ⟨hin,all_step hq hj h5⟩
     ·have hall := all_end (lss_end hi ht50) hq
      refine gE2 ?_
      rw [vh_4 h1 h2 h3,if_pos rfl]; unfold holdsB; rw [h4,hall]; rfl
theorem c_l42_Few (l : Li) (hw : l.okw) (xs : List Tn) (hxl : xs.length <= 281474976710656) : FnC Tryz.prog 27 [l.av, .lst 4 (xs.map Tn.av)] (bl (l27B l xs && decide ((l.bodies.length : Int) - l.drivers.length <= 5))) := by
 have hlb := hw.lb
 have hld := hw.ld
 refine gF0 Tryz.func27 ?_
 refine gc (c_l27_Light l hw xs hxl) ?_
 refine glG ?_
 refine glG ?_
 refine gaG (fun _ => (i64_subI (by omega))) ?_
 refine gE1 ?_
 rw [and_cond]; rfl
theorem lwH_f {p q : Bool} (h : cond (cond (!true) true (!p)) true (!q) = false) : p = true /\ q = true:=by cases p <;> cases q <;> simp_all
theorem lwH_r (p : Bool) (n : Int) : cond (p == p) (icmp .eql n n) false = true:=by simp [icmp]
theorem c_law_VelHolds (l : Li) (hw : l.okw) (a : As) (ha : a.ok) (r : List Vr) (hr : ∀ x ∈ r, RsOk x.l) (hrl : r.length <= 281474976710656) : FnC Tryz.prog 6 [l.av, a.av, .lst 3 (r.map Vr.av)] (bl true) := by
 refine gF0 Tryz.func6 ?_
 refine gc c_l42_awake ?_
 refine gcG (fun _ => (Con.subA (.cons (.refl _) (.cons (Sub.nil 4 none 0) .nil)) (c_l42_Few l hw [] (Nat.zero_le _)))) ?_
 refine gcG (fun _ => (c_l42_Light a ha r hr hrl)) ?_
 refine gC (fun ht23 => ?_) (fun ht23 => ?_)
 ·refine gc c_l42_awake ?_
  refine gE1 ?_
  first | rfl | (simp; done)
 ·obtain ⟨h1, h2⟩ := lwH_f ht23
  have vl := vl_of h2 ha hr
  rw [Bool.and_eq_true] at h1
  have h3 : liB l = true := by
   have h4 := h1.1
   unfold l27B at h4
   simp only [Bool.and_eq_true,decide_eq_true_eq] at h4
   exact h4.1.1
  have hl := li_ok h3 hw
  refine gc (c_vel_Holds l hl a r vl) ?_
  refine gc (c_r42_Holds l hl a r vl) ?_
  refine gcG (fun _ => (c_base_Num (vhE l a r))) ?_
  refine gR ?_
  exact fin_eq1 (congrArg bl (lwH_r _ _))
end Go.Lw
namespace Go.Lw
open Go.Proofs Go.Proofs.YtohejbfhhanckaaGreat
open Go.ChangeShapes Go.WideShapes Go.ChangeAt Go.RowKit
set_option maxRecDepth 100000 in
theorem velocityHolds_lifted (os : Os) (started : os.Started) (H : Type) (enc : TypeId × Value -> H) :
  ReturnsInHanded {} Tryz.checked os 6 .any (Rows.velocityHoldsSpec.pre6 enc Tryz.prog Tryz.f6 Rows.velocityHoldsRow.domain false) (Rows.velocityHoldsSpec.post enc Tryz.prog Tryz.f6 false true false false) := by
 refine returnsInHanded_of_change_sized (C := Tryz.checked) own started (by kernel_rfl) Tryz.func6
  (ChangeSpec.witness6 (enc := enc) (C := Tryz.checked) false ⟨#[],#[.agg #[.string ⟨#[]⟩,.slice none 0 0,.slice none 0 0,.slice none 0 0],.agg #[.slice none 0 0,.slice none 0 0,.slice none 0 0],.slice none 0 0],[]⟩ 8 (by kernel_rfl) (by kernel_rfl) (by kernel_rfl) (by kernel_rfl)) ?_
 intro W base args ds gs before hval0 hW hcnd hwt0 _
 have hval : ∀ (j : Nat) t v,Tryz.f6.params[j]? = some t -> args[j]? = some v -> Value.okWide Tryz.prog W .any base t v := hval0
 have hwt : (DataW.weightsEach Tryz.prog (Tryz.f6.params.toList ++ Rows.velocityHoldsSpec.plain.varTypes Tryz.prog) (ds ++ gs)).all (· <= reachBytes) = true := hwt0
 have hW' := hW
 obtain ⟨p,q,hA0,hV,rfl,hfz,hnd⟩ := hW
 have hA : DataW.TrodAll enc Tryz.prog W 0 (fun _ => true) true Tryz.f6.params.toList args.toList ds p := hA0
 rw [Tryz.params6] at hA hval hwt
 obtain ⟨v0,v1,v2,d0,d1,d2,p0,p1,p2,rfl,rfl,rfl,h0,h1,h2⟩ := trodAll_three hA
 obtain ⟨rfl,rfl⟩ := trodVars_none hV
 clear hA0 hval0 hwt0
 have hlt : ∀ x ∈ p0 ++ p1 ++ p2,x.block < W.heap.size := fun x hx => hW'.lt x (by simpa using hx)
 have hw0 : ∀ n ∈ d0.weights Tryz.prog 74, n <= reachBytes := fun n hn => by
  have := List.all_eq_true.1 hwt n (DataW.weights_mem_each (j := 0) rfl rfl n hn)
  simpa using this
 have hw1 : ∀ n ∈ d1.weights Tryz.prog 28, n <= reachBytes := fun n hn => by
  have := List.all_eq_true.1 hwt n (DataW.weights_mem_each (j := 1) rfl rfl n hn)
  simpa using this
 have hw2 : ∀ n ∈ d2.weights Tryz.prog 51, n <= reachBytes := fun n hn => by
  have := List.all_eq_true.1 hwt n (DataW.weights_mem_each (j := 2) rfl rfl n hn)
  simpa using this
 obtain ⟨x0,q0,r0⟩ := arg_agg Tryz.underlying74 op_link (hval 0 74 v0 rfl rfl) h0 hw0
 obtain ⟨x1,q1,r1⟩ := arg_agg Tryz.underlying28 op_asm (hval 1 28 v1 rfl rfl) h1 hw1
 obtain ⟨x2,q2,r2⟩ := arg_one op_rates (fun _ => rfl) (notAgg_slice Tryz.underlying51 (hval 2 51 v2 rfl rfl)) h2 hw2
 have hc := FnC.calls (W := W) (vs := #[v0, v1, v2]) (c_law_VelHolds x0 q0 x1 q1 x2 q2.1 q2.2) rfl (fun j v x hv hx => by
  match j,hv,hx with
  | 0,hv,hx => cases hv; cases hx; exact r0
  | 1,hv,hx => cases hv; cases hx; exact r1
  | 2,hv,hx => cases hv; cases hx; exact r2)
 refine hc.mono fun e W' ⟨he,hb⟩ => ?_
 subst he
 refine ⟨_,rfl,post_of_below hW' rfl rfl (fun _ _ _ => trodAll_mk1 (shut_bool Tryz.underlying4 _)) (fun sp hsp => ?_) rfl hb (ok_one (by kernel_rfl) rfl (okWide_bool_mk Tryz.underlying4 _))⟩
 rw [Tryz.params6]
 have hs : ∀ x ∈ p0 ++ p1 ++ p2,sp x.block = true := fun x hx => hsp x (by simpa using hx)
 have g0 := arg_back (sp' := sp) (by kernel_rfl) (of_decide_eq_true (by kernel_rfl)) h0 hb (fun x hx => hlt x (by simp [hx])) (fun x hx => hs x (by simp [hx]))
 have g1 := arg_back (sp' := sp) (by kernel_rfl) (of_decide_eq_true (by kernel_rfl)) h1 hb (fun x hx => hlt x (by simp [hx])) (fun x hx => hs x (by simp [hx]))
 have g2 := arg_back (sp' := sp) (by kernel_rfl) (of_decide_eq_true (by kernel_rfl)) h2 hb (fun x hx => hlt x (by simp [hx])) (fun x hx => hs x (by simp [hx]))
 have g := trodAll_mk3 g0 g1 g2
 rw [show p0 ++ p1 ++ p2 ++ [] = p0 ++ (p1 ++ p2) from by simp]
 exact g
set_option maxRecDepth 100000 in
theorem velocityHolds_clo : Tryz.prog.closure 6 = [6,14,33,68,130,191,69,67,126,185,265,186,127,128,187,266,271,269,267,268,189,129,188,270,190,43,82,42,63,83,145,55,106,167,233,234,299,107,134,195,197,274,276,273,294,334,335,361,336,337,348,338,339,225,152,151,196,201,275,108,168,169,235,200,222,293,109,207,282,340,367,342,370,371,369,283,341,368,344,343,284,146,208,119,136,120,81,65,88,150,223,224,291,292,87,149,221,135,133,198,199,64,121,177,178,123,122,179,36,71,72,137,203,278,279,280,277,202,157,228,241,301,351,242,303,362,302,352,358,378,353,373,354,374,375,355,376,377,379,356,357,359,360,92,156,180,243,304,313,363,349,372,244,245,305,306,37,73,75,74,140,159,204,139,158,141,160,138,76,93,246,307,312,227,171,236,296,260,263,226,295,114,172,261,308,247,181,248,309,250,249,310,364,311,252,251,314,326,47,327,110,315,365,170,328,323,319,329,320,316,317,318,366,321,322,324,259,332,333,253,264,182,254,325,255,183,256,330,112,257,331,258,262,124,184,44,84,147,210,211,285,286,345,212,209,214,215,287,288,289,346,213,217,218,216,85,148,219,220,290,347,86,57,111,59,48,95,113,94,96,89,90,58,60,154,153,91,155,17,46,16,22,51,79,38,77,142,143,205,206,281,193,78,101,162,131,192,144,80,102,163,194,272,99,132,100,161,34,70,12,24,52,27,54,103,61,115,173,238,237,239,116,174,117,175,176,240,300,118,104,164,229,165,230,297,231,298,350,232,105,166,15,45,35,8,28,56,29,18,10,39,62,13,41,26,53,49,97,50,98,40,19,21,25,11]:=by kernel_rfl
theorem velocityHolds_closed : joinedFacts Tryz.prog 6 Tryz.f6 Rows.velocityHoldsSpec Rows.velocityHoldsRow = true := by
 unfold joinedFacts Program.recurses Program.inPlace Program.unfollowed Program.varsNamed
 rw [velocityHolds_clo,laidOut,pw_heard,pw_plain,pw_maps,pw_enter,pw_final]
 kernel_rfl
theorem velocityHolds_holds : Rows.VelocityHoldsSaid :=
 OpenClaim.holds_of_wide 6 Tryz.f6 rfl rfl rfl rfl rfl rfl rfl ⟨rfl, rfl, rfl, rfl, rfl⟩ rfl rfl rfl rfl rfl (by kernel_rfl) Tryz.func6 velocityHolds_closed
  (of_decide_eq_true (by kernel_rfl)) (by unfold Func.isWrapper; first | (rw [if_pos (by decide +kernel)]; kernel_rfl) | (rw [if_neg (by decide +kernel)]; exact ⟨rfl,rfl⟩))
  (fun os started H enc _ => velocityHolds_lifted os started H enc)
end Go.Lw
namespace Go.Proofs.YtohejbfhhanckaaGreat
theorem velocityHolds_proved : Rows.VelocityHoldsSaid := Go.Lw.velocityHolds_holds
end Go.Proofs.YtohejbfhhanckaaGreat
