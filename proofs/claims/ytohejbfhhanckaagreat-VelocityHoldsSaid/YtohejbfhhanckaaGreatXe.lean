/- VelocityHolds: for any linkage, assembly and velocities the law returns true and leaves its arguments as they were. No other condition. Part 5 of 7: what the later parts need -/
import Derived.Test.YtohejbfhhanckaaGreatXd
import Derived.Test.YtohejbfhhanckaaGreatRows
set_option linter.unusedVariables false
namespace Go.Lw
structure Vr where
  w : List Rt
  x : List Rt
  y : List Rt
instance : Inhabited Vr := ⟨⟨[],[],[]⟩⟩
def Vr.av (v : Vr) : AV := .agg [nR v.w,nR v.x,nR v.y]
def Vr.l (v : Vr) : List (List Rt) := [v.w,v.x,v.y]
def vlB (a : As) (r : List Vr) : Bool :=
  a.bs.all (fun b => wideB a.rs b.l) && (r.all (fun x => wideB a.rs x.l) && (decide (a.bs.length <= 20 /\ r.length <= 20) && (wideB a.rs [] && decide (a.rs.length <= 2 \/ 5 < a.rs.length))))
structure VL (a : As) (r : List Vr) : Prop where
  al : AL a
  nr : ∀ x ∈ r,∀ y ∈ x.l,NR y 4000
  rl : r.length <= 20
theorem vl_of {a : As} {r : List Vr} (h : vlB a r = true) (ha : a.ok) (hr : ∀ x ∈ r, RsOk x.l) : VL a r := by
 unfold vlB at h
 simp only [Bool.and_eq_true,decide_eq_true_eq,List.all_eq_true] at h
 obtain ⟨h1,h2,h3,h4,h5⟩ := h
 refine ⟨as_al ?_ ha,fun x hx => (wide_lt (h2 x hx) ha.rs (hr x hx)).nr,h3.2⟩
 unfold asB
 simp only [Bool.and_eq_true,decide_eq_true_eq,List.all_eq_true]
 exact ⟨h1,⟨h3.1,h4⟩,h5⟩
theorem AL.ct {a : As} (h : AL a) (hc : chkE a.rs = 0) : Ct (llq a.rs) 4000 300000 := by
 obtain ⟨tw,_⟩ := chk_tw h.tr hc
 exact ⟨⟨40000,tw,Nat.le_trans (eB_three 40000 tw.three) (by omega)⟩,by omega,by omega,by omega,by omega⟩
def velL (a : As) (r : List Vr) : List (List Rt) := a.bs.flatMap Pl.l ++ r.flatMap Vr.l
def velE (a : As) (r : List Vr) : Nat :=
  if chkE a.rs ≠ 0 then chkE a.rs else if r.length ≠ a.bs.length then 10 else firstE ((velL a r).map (numE a.rs.length))
structure VelOk (a : As) (r : List Vr) : Prop where
  chk : chkE a.rs = 0
  len : r.length = a.bs.length
  bs : ∀ b ∈ a.bs,chksE a.rs b.l = 0
  rs : ∀ x ∈ r,chksE a.rs x.l = 0
theorem vel_ok {a : As} {r : List Vr} (h : velE a r = 0) : VelOk a r := by
 unfold velE at h
 split at h
 ·rename_i h1; exact absurd h h1
 ·rename_i h1
  have h1 := Decidable.not_not.1 h1
  split at h
  ·cases h
  ·rename_i h2
   have h3 := firstE_zero h
   have h4 : ∀ x ∈ velL a r,numE a.rs.length x = 0 := fun x hx => h3 _ (List.mem_map_of_mem hx)
   refine ⟨h1,Decidable.not_not.1 h2,fun b hb => chks_of h1 fun x hx => h4 x ?_,fun b hb => chks_of h1 fun x hx => h4 x ?_⟩
   ·exact List.mem_append_left _ (List.mem_flatMap.2 ⟨b,hb,hx⟩)
   ·exact List.mem_append_right _ (List.mem_flatMap.2 ⟨b,hb,hx⟩)
theorem vel_chk {a : As} {r : List Vr} (h : chkE a.rs ≠ 0) : velE a r = chkE a.rs:=by unfold velE; rw [if_pos h]
theorem vel_len {a : As} {r : List Vr} (h : chkE a.rs = 0) (hl : r.length ≠ a.bs.length) : velE a r = 10 := by
 unfold velE; rw [if_neg (by omega),if_pos hl]
theorem vel_flat {a : As} {r : List Vr} (h : chkE a.rs = 0) (hl : r.length = a.bs.length) : velE a r = chksE a.rs (velL a r) := by
 unfold velE chksE; rw [if_neg (by omega),if_neg (by omega),if_neg (by omega)]
theorem chks_app {rs : List (List Rt)} {xs ys : List (List Rt)} (h : chkE rs = 0) (hx : chksE rs xs = 0) : chksE rs (xs ++ ys) = chksE rs ys := by
 unfold chksE at hx ⊢
 rw [if_neg (by omega)] at hx
 rw [if_neg (by omega),if_neg (by omega),List.map_append]
 exact firstE_app _ _ hx
theorem firstE_left : ∀ (l l' : List Nat), firstE l ≠ 0 -> firstE (l ++ l') = firstE l
 | [],l',h => absurd rfl h
 | x :: l, l', h => by
  show (if x ≠ 0 then x else firstE (l ++ l')) = if x ≠ 0 then x else firstE l
  by_cases hx : x ≠ 0
  ·rw [if_pos hx,if_pos hx]
  ·rw [if_neg hx, if_neg hx]
   refine firstE_left l l' ?_
   have h1 : (if x ≠ 0 then x else firstE l) ≠ 0 := h
   rwa [if_neg hx] at h1
theorem chks_left {rs : List (List Rt)} {xs ys : List (List Rt)} (h : chkE rs = 0) (hx : chksE rs xs ≠ 0) : chksE rs (xs ++ ys) = chksE rs xs := by
 unfold chksE at hx ⊢
 rw [if_neg (by omega)] at hx
 rw [if_neg (by omega),if_neg (by omega),List.map_append]
 exact firstE_left _ _ hx
theorem flat_at {α : Type} {f : α -> List (List Rt)} {l : List α} {i : Nat} {x : α} (hx : l[i]? = some x) : l.flatMap f = (l.take i).flatMap f ++ (f x ++ (l.drop (i + 1)).flatMap f) := by
 have h1 : l = l.take i ++ x :: l.drop (i + 1) := by
  obtain ⟨hi,rfl⟩ := List.getElem?_eq_some_iff.1 hx
  rw [<- List.drop_eq_getElem_cons hi,List.take_append_drop]
 conv => lhs; rw [h1]
 rw [List.flatMap_append,List.flatMap_cons]
theorem chks_flat {α : Type} {f : α -> List (List Rt)} {rs : List (List Rt)} (hc : chkE rs = 0) : ∀ {l : List α}, (∀ x ∈ l, chksE rs (f x) = 0) -> chksE rs (l.flatMap f) = 0
 | [],_ => by unfold chksE; rw [if_neg (by omega)]; rfl
 | x :: l, h => by
  rw [List.flatMap_cons,chks_app hc (h x (List.mem_cons_self ..))]
  exact chks_flat hc (fun y hy => h y (List.mem_cons_of_mem _ hy))
theorem chks_flat_at {α : Type} {f : α -> List (List Rt)} {rs : List (List Rt)} {ys : List (List Rt)} (hc : chkE rs = 0) {l : List α} {i : Nat} {x : α} (hx : l[i]? = some x) (h : ∀ y ∈ l.take i, chksE rs (f y) = 0) (he : chksE rs (f x) ≠ 0) :
  chksE rs (l.flatMap f ++ ys) = chksE rs (f x) := by
 rw [flat_at hx,List.append_assoc,chks_app hc (chks_flat hc h),List.append_assoc,chks_left hc he]
theorem vel_b {a : As} {r : List Vr} (h : chkE a.rs = 0) (hl : r.length = a.bs.length) {i : Nat} {b : Pl} (hb : a.bs[i]? = some b) (hj : ∀ y ∈ a.bs.take i, chksE a.rs y.l = 0) (he : chksE a.rs b.l ≠ 0) : velE a r = chksE a.rs b.l := by
 rw [vel_flat h hl]; exact chks_flat_at h hb hj he
theorem vel_r {a : As} {r : List Vr} (h : chkE a.rs = 0) (hl : r.length = a.bs.length) (hb : ∀ b ∈ a.bs, chksE a.rs b.l = 0) {i : Nat} {x : Vr} (hx : r[i]? = some x) (hj : ∀ y ∈ r.take i, chksE a.rs y.l = 0) (he : chksE a.rs x.l ≠ 0) : velE a r = chksE a.rs x.l := by
 rw [vel_flat h hl]
 unfold velL
 rw [chks_app h (chks_flat h hb)]
 have := chks_flat_at (ys := []) h hx hj he
 rwa [List.append_nil] at this
theorem vel_0 {a : As} {r : List Vr} (h : chkE a.rs = 0) (hl : r.length = a.bs.length) (hb : ∀ b ∈ a.bs, chksE a.rs b.l = 0) (hr : ∀ x ∈ r, chksE a.rs x.l = 0) : velE a r = 0 := by
 rw [vel_flat h hl]
 unfold velL
 rw [chks_app h (chks_flat h hb)]
 exact chks_flat h hr
theorem zl_num {rs : List (List Rt)} {u k : Nat} (c : Ct (llq rs) u k) {x : List Rt} {e w v : Nat} (hx : NR x e) (hn : numE rs.length x = 0) (he : e <= w * u + v * k) : Zl (llq rs) u k (lq x) (dE (llq rs) (lq x)) w v := by
 obtain ⟨R,tw,_⟩ := c.ex
 have h5 := tw.five
 rw [llq_len] at h5
 refine ⟨rfl,?_⟩
 rw [llq_len]
 exact ⟨h5,(hx.num hn).2,hx.cb.mono he⟩
end Go.Lw
namespace Go.Lw
open Go.Proofs
section
variable {W : World} {H : Type} {enc : TypeId × Value -> H}
theorem op_u32 : Opens Tryz.prog W enc 204 (fun n : Nat => u32 n) (fun n => n < 4294967296) :=
 (opens_int (k := .u32) Tryz.underlying204).map Int.toNat _ _ (fun n h => by
  have h1 : 0 <= n /\ n <= 4294967295:=by simpa [Lit.wf,IntKind.min,IntKind.max,IntKind.signed,IntKind.bits] using h
  have h2 : ((n.toNat : Nat) : Int) = n:=by omega
  exact ⟨by omega,by unfold u32; rw [h2]⟩)
theorem op_ws : Opens Tryz.prog W enc 29 ws (fun l => Ws l /\ l.length <= 281474976710656) :=
 (opens_slice Tryz.underlying29 (n := 1) (by kernel_rfl) (by omega) (by kernel_rfl) op_u32 (fun _ => rfl)).map id _ _ (fun l h => ⟨⟨fun x hx => h.1 x hx,h.2⟩,rfl⟩)
theorem op_bool : Opens Tryz.prog W enc 4 bl (fun _ => True) := opens_bool Tryz.underlying4
theorem op_int : Opens Tryz.prog W enc 3 i64 (fun _ => True) := (opens_int (k := .i64) Tryz.underlying3).map id _ _ (fun n h => ⟨trivial,rfl⟩)
theorem op_str : Opens Tryz.prog W enc 9 (fun s : ByteArray => AV.v (.string s)) (fun s => s.size <= 281474976710656) := opens_string Tryz.underlying9
theorem op_rat : Opens Tryz.prog W enc 31 Rt.av Rt.wok :=
 (opens_struct (n := 3) Tryz.underlying31 (by kernel_rfl)
  (.cons rfl (n := 1) (by kernel_rfl) op_bool (fun _ => rfl) (.cons rfl (n := 1) (by kernel_rfl) op_ws (fun _ => rfl) (.cons rfl (n := 1) (by kernel_rfl) op_ws (fun _ => rfl) (.nil _)))) (fun _ => rfl)).map
  (fun z => ⟨z.1,z.2.1,z.2.2.1⟩) _ _ (fun z h => ⟨⟨h.2.1.1,h.2.2.1.1⟩,rfl⟩)
def NumOk (x : List Rt) : Prop := (∀ r ∈ x,r.wok) /\ x.length <= 281474976710656
theorem op_num : Opens Tryz.prog W enc 37 nR NumOk := opens_slice Tryz.underlying37 (n := 3) (by kernel_rfl) (by omega) (by kernel_rfl) op_rat (fun _ => rfl)
theorem op_nums : Opens Tryz.prog W enc 22 (fun l : List (List Rt) => .lst 1 (l.map nR)) (fun l => RsOk l /\ l.length <= 281474976710656) :=
 opens_slice Tryz.underlying22 (n := 1) (by kernel_rfl) (by omega) (by kernel_rfl) op_num (fun _ => rfl)
theorem op_tower : Opens Tryz.prog W enc 24 towR (fun l => RsOk l /\ l.length <= 281474976710656) :=
 (opens_struct (n := 1) Tryz.underlying24 (by kernel_rfl) (.cons rfl (n := 1) (by kernel_rfl) op_nums (fun _ => rfl) (.nil _)) (fun _ => rfl)).map (fun z => z.1) _ _ (fun z h => ⟨h.1,rfl⟩)
theorem op_placed : Opens Tryz.prog W enc 39 Pl.av (fun b => RsOk b.l) :=
 (opens_struct (n := 4) Tryz.underlying39 (by kernel_rfl)
  (.cons rfl (n := 1) (by kernel_rfl) op_num (fun _ => rfl) (.cons rfl (n := 1) (by kernel_rfl) op_num (fun _ => rfl) (.cons rfl (n := 1) (by kernel_rfl) op_num (fun _ => rfl) (.cons rfl (n := 1) (by kernel_rfl) op_num (fun _ => rfl) (.nil _))))) (fun _ => rfl)).map
  (fun z => ⟨z.1, z.2.1, z.2.2.1, z.2.2.2.1⟩) _ _ (fun z h => ⟨by
   intro x hx
   simp only [Pl.l,List.mem_cons,List.not_mem_nil,or_false] at hx
   rcases hx with rfl | rfl | rfl | rfl
   ·exact h.1
   ·exact h.2.1
   ·exact h.2.2.1
   ·exact h.2.2.2.1,rfl⟩)
theorem op_placeds : Opens Tryz.prog W enc 25 (fun l : List Pl => .lst 4 (l.map Pl.av)) (fun l => (∀ b ∈ l, RsOk b.l) /\ l.length <= 281474976710656) :=
 opens_slice Tryz.underlying25 (n := 4) (by kernel_rfl) (by omega) (by kernel_rfl) op_placed (fun _ => rfl)
theorem op_ints : Opens Tryz.prog W enc 26 (fun l : List Int => .lst 1 (l.map i64)) (fun l => (∀ b ∈ l, True) /\ l.length <= 281474976710656) :=
 opens_slice Tryz.underlying26 (n := 1) (by kernel_rfl) (by omega) (by kernel_rfl) op_int (fun _ => rfl)
abbrev asG (a : As) : List AV := [.lst 1 (a.rs.map nR),.lst 4 (a.bs.map Pl.av),.lst 1 (a.ms.map i64)]
theorem op_asm : Opens Tryz.prog W enc 28 (fun a : As => .agg (asG a)) As.ok :=
 (opens_struct (n := 3) Tryz.underlying28 (by kernel_rfl)
  (.cons rfl (n := 1) (by kernel_rfl) op_tower (fun _ => rfl) (.cons rfl (n := 1) (by kernel_rfl) op_placeds (fun _ => rfl) (.cons rfl (n := 1) (by kernel_rfl) op_ints (fun _ => rfl) (.nil _)))) (fun _ => rfl)).map
  (fun z => ⟨z.1,z.2.1,z.2.2.1⟩) _ _ (fun z h => ⟨⟨h.1.1,h.1.2,h.2.1.1,h.2.1.2⟩,rfl⟩)
theorem op_mark : Opens Tryz.prog W enc 128 Mk.av (fun m => m.name.size <= 281474976710656 /\ m.x.wok /\ m.y.wok) :=
 (opens_struct (n := 7) Tryz.underlying128 (by kernel_rfl)
  (.cons rfl (n := 1) (by kernel_rfl) op_str (fun _ => rfl) (.cons rfl (n := 3) (by kernel_rfl) op_rat (fun _ => rfl) (.cons rfl (n := 3) (by kernel_rfl) op_rat (fun _ => rfl) (.nil _)))) (fun _ => rfl)).map
  (fun z => ⟨z.1,z.2.1,z.2.2.1⟩) _ _ (fun z h => ⟨⟨h.1,h.2.1,h.2.2.1⟩,rfl⟩)
theorem op_body : Opens Tryz.prog W enc 131 Bd.av (fun b => b.name.size <= 281474976710656 /\ b.pts.length <= 281474976710656 /\ ∀ m ∈ b.pts, m.name.size <= 281474976710656 /\ m.x.wok /\ m.y.wok) :=
 (opens_struct (n := 2) Tryz.underlying131 (by kernel_rfl)
  (.cons rfl (n := 1) (by kernel_rfl) op_str (fun _ => rfl) (.cons rfl (n := 1) (by kernel_rfl) (opens_slice Tryz.underlying129 (n := 7) (by kernel_rfl) (by omega) (by kernel_rfl) op_mark (fun _ => rfl)) (fun _ => rfl) (.nil _))) (fun _ => rfl)).map
  (fun z => ⟨z.1,z.2.1⟩) _ _ (fun z h => ⟨⟨h.1,h.2.1.2,h.2.1.1⟩,rfl⟩)
theorem op_joint : Opens Tryz.prog W enc 120 Jt.av (fun j => j.name.size <= 281474976710656) :=
 (opens_struct (n := 7) Tryz.underlying120 (by kernel_rfl)
  (.cons rfl (n := 1) (by kernel_rfl) op_str (fun _ => rfl) (.cons rfl (n := 1) (by kernel_rfl) op_int (fun _ => rfl) (.cons rfl (n := 1) (by kernel_rfl) op_int (fun _ => rfl) (.cons rfl (n := 1) (by kernel_rfl) op_int (fun _ => rfl)
   (.cons rfl (n := 1) (by kernel_rfl) op_int (fun _ => rfl) (.cons rfl (n := 1) (by kernel_rfl) op_int (fun _ => rfl) (.cons rfl (n := 1) (by kernel_rfl) op_int (fun _ => rfl) (.nil _)))))))) (fun _ => rfl)).map
  (fun z => ⟨z.1,z.2.1,z.2.2.1,z.2.2.2.1,z.2.2.2.2.1,z.2.2.2.2.2.1,z.2.2.2.2.2.2.1⟩) _ _ (fun z h => ⟨h.1,rfl⟩)
theorem op_driver : Opens Tryz.prog W enc 143 Dr.av (fun d => d.name.size <= 281474976710656) :=
 (opens_struct (n := 2) Tryz.underlying143 (by kernel_rfl) (.cons rfl (n := 1) (by kernel_rfl) op_str (fun _ => rfl) (.cons rfl (n := 1) (by kernel_rfl) op_int (fun _ => rfl) (.nil _))) (fun _ => rfl)).map
  (fun z => ⟨z.1,z.2.1⟩) _ _ (fun z h => ⟨h.1,rfl⟩)
abbrev liG (l : Li) : List AV := [.v (.string l.name),.lst 2 (l.bodies.map Bd.av),.lst 7 (l.joints.map Jt.av),.lst 2 (l.drivers.map Dr.av)]
theorem op_link : Opens Tryz.prog W enc 74 (fun l : Li => .agg (liG l)) Li.okw :=
 (opens_struct (n := 4) Tryz.underlying74 (by kernel_rfl)
  (.cons rfl (n := 1) (by kernel_rfl) op_str (fun _ => rfl)
   (.cons rfl (n := 1) (by kernel_rfl) (opens_slice Tryz.underlying70 (n := 2) (by kernel_rfl) (by omega) (by kernel_rfl) op_body (fun _ => rfl)) (fun _ => rfl)
    (.cons rfl (n := 1) (by kernel_rfl) (opens_slice Tryz.underlying71 (n := 7) (by kernel_rfl) (by omega) (by kernel_rfl) op_joint (fun _ => rfl)) (fun _ => rfl)
     (.cons rfl (n := 1) (by kernel_rfl) (opens_slice Tryz.underlying72 (n := 2) (by kernel_rfl) (by omega) (by kernel_rfl) op_driver (fun _ => rfl)) (fun _ => rfl) (.nil _))))) (fun _ => rfl)).map
  (fun z => ⟨z.1,z.2.1,z.2.2.1,z.2.2.2.1⟩) _ _ (fun z h => ⟨⟨h.1,h.2.1.1,h.2.2.1.1,h.2.2.2.1.1,h.2.1.2,h.2.2.1.2,h.2.2.2.1.2⟩,rfl⟩)
theorem op_rate : Opens Tryz.prog W enc 60 Vr.av (fun b => RsOk b.l) :=
 (opens_struct (n := 3) Tryz.underlying60 (by kernel_rfl)
  (.cons rfl (n := 1) (by kernel_rfl) op_num (fun _ => rfl) (.cons rfl (n := 1) (by kernel_rfl) op_num (fun _ => rfl) (.cons rfl (n := 1) (by kernel_rfl) op_num (fun _ => rfl) (.nil _)))) (fun _ => rfl)).map
  (fun z => ⟨z.1, z.2.1, z.2.2.1⟩) _ _ (fun z h => ⟨by
   intro x hx
   simp only [Vr.l,List.mem_cons,List.not_mem_nil,or_false] at hx
   rcases hx with rfl | rfl | rfl
   ·exact h.1
   ·exact h.2.1
   ·exact h.2.2.1,rfl⟩)
theorem op_rates : Opens Tryz.prog W enc 51 (fun l : List Vr => .lst 3 (l.map Vr.av)) (fun l => (∀ b ∈ l, RsOk b.l) /\ l.length <= 281474976710656) :=
 opens_slice Tryz.underlying51 (n := 3) (by kernel_rfl) (by omega) (by kernel_rfl) op_rate (fun _ => rfl)
end
end Go.Lw
namespace Go.Lw
open Go.Proofs Go.Proofs.YtohejbfhhanckaaGreat
open Go.ChangeShapes Go.WideShapes Go.ChangeAt Go.RowKit
theorem own : ownKnob Tryz.prog.godebug = none:=by kernel_rfl
theorem laidOut : laidOutB Tryz.prog = true:=by kernel_rfl
theorem pw_heard : Tryz.prog.stopsHeard = true:=by kernel_rfl
theorem pw_plain : Tryz.prog.plainKeys = true:=by kernel_rfl
theorem pw_maps : mapsRowed Tryz.prog = true:=by kernel_rfl
theorem pw_enter : Tryz.prog.mayEnter = true:=by kernel_rfl
theorem pw_final : Tryz.prog.liftsFinal = false:=by kernel_rfl
theorem cells_one_of {v : Value} (h : ∀ cs, v ≠ .agg cs) : v.cells = #[v] := by
 cases v <;> first | rfl | exact absurd rfl (h _)
theorem notAgg_slice {P : Program} {W : World} {r : Reach} {b0 : Nat} {t e : TypeId} {v : Value} (ht : P.underlying t = some (.slice e)) (hval : Value.okWide P W r b0 t v) : v.cells = #[v] := by
 refine cells_one_of (fun cs h => ?_)
 subst h
 unfold Value.okWide at hval
 rw [ht] at hval
 unfold Cell.okWide at hval
 rw [ht] at hval
 unfold Cell.ok at hval
 rw [ht] at hval
 exact hval
theorem arg_back {H : Type} {enc : TypeId × Value -> H} {W W' : World} {t : TypeId} {v : Value} {d : DataW H} {ps : List MemPlace} {sp' : Nat -> Bool} (hr : Tryz.prog.readableRec t = true) (ht : t < Tryz.prog.types.size)
  (h : DataW.Trod enc Tryz.prog W 0 (fun _ => true) true t v d ps) (hb : Below W.heap.size W W') (hlt : ∀ x ∈ ps,x.block < W.heap.size) (hs : ∀ p ∈ ps,sp' p.block = true) : DataW.Trod enc Tryz.prog W' 0 sp' true t v d ps :=
 WideElems.Trod_stays laidOut hr ht h (fun x hx => hb.same (hlt x hx)) hs
end Go.Lw
namespace Go.Lw
open Go.Proofs
theorem c_r02_plain (m : List Nat) (hm : Ws m) (hl : m.length <= lim) : FnC Tryz.prog 205 [ws m] (bl (!decide (m = []) && (⟨false, m⟩ : Wh).valid)) := by
 refine gF0 Tryz.func205 ?_
 refine gl ?_
 refine glG ?_
 refine gaG (fun h => (i64_sub1 (by simp [icmp] at h; omega) (by unfold lim at hl; unfold maxL; exact Nat.le_trans hl (by omega)))) ?_
 refine giG (fun h => (getw (i := m.length - 1) (by simp [icmp] at h; omega))) ?_
 refine gE1 ?_
 by_cases h : m = []
 ·subst h; rfl
 ·have h1 : 0 < m.length := List.length_pos_iff.2 h
  have h2 : icmp .gtr (m.length : Int) 0 = true:=by simp [icmp,h1]
  simp only [bl,h2,cond_true,h,decide_false,Bool.not_false,Bool.true_and,Wh.valid,if_neg h,List.getLast?_eq_getElem?,word_get (show m.length - 1 < m.length by omega),icmp]
  congr 2
  generalize wordW m _ = x
  rw [Bool.eq_iff_iff]; simp [h1]
theorem c_r02_one : FnC Tryz.prog 69 [] (zA 1) := by
 refine gF0 Tryz.func69 ?_
 refine gc (c_r01_Of 1 (by omega)) ?_
 refine gE1 ?_
 first | rfl | (simp; done)
theorem c_r02_Valid (r : Rt) (h : r.ok) : FnC Tryz.prog 143 [r.av] (bl r.valid) := by
 have hr := h
 have hn := h.n0
 have hd := h.d0
 have hl1 : r.num.length <= 137438953472 := h.2.2.1
 have hl2 : r.den.length <= 137438953472 := h.2.2.2
 refine gF0 Tryz.func143 ?_
 refine gl ?_
 refine glG ?_
 refine gC (fun ht12 => ?_) (fun ht12 => ?_)
 ·have h0 : r.num = [] /\ r.den = [] := by simpa [icmp] using ht12
  refine gE1 ?_
  unfold Rt.valid; rw [if_pos h0]; rfl
 ·have h0 : ¬ (r.num = [] /\ r.den = []) := by
   have := ht12
   simp [icmp] at this
   exact fun h => this h.1 h.2
  refine gc (c_r02_plain r.num hr.1 hr.2.2.1) ?_
  refine gcG (fun _ => (c_r02_plain r.den hr.2.1 hr.2.2.2)) ?_
  refine gcG (fun _ => (c_r01_Gcd r.n0 r.d0 hn hd (by show r.num.length + r.den.length < _; unfold big; omega))) ?_
  refine gcG (fun _ => c_r02_one) ?_
  refine gcG (fun _ => (zr_Cmp (Rt.gcd_zs hr) zs1)) ?_
  refine gE1 ?_
  exact congrArg bl (valid_ref h0).symm
theorem c_r02_Parts (r : Rt) (h : r.ok) : FnC Tryz.prog 192 [r.av] (.tup [zA r.q.num, zA r.q.den]) := by
 have hl1 : r.num.length <= 137438953472 := h.2.2.1
 have hl2 : r.den.length <= 137438953472 := h.2.2.2
 refine gF0 Tryz.func192 ?_
 refine gc (c_r02_Valid r h) ?_
 refine glG ?_
 refine gC (fun ht12 => ?_) (fun ht12 => ?_)
 ·have h0 : ¬ (r.valid = true /\ r.num ≠ []) := by
   have := ht12
   intro h'
   simp [icmp,h'.1,h'.2] at this
  refine gc c_r02_one ?_
  refine gR ?_
  exact fin_sub (by rw [Rt.zero h0]; exact Sub.tup (.cons sub_zz (.cons (.refl _) .nil)))
 ·have h0 : r.valid = true /\ r.num ≠ [] := by
   have := ht12
   cases hv : r.valid
   ·rw [hv] at this; cases this
   ·rw [hv] at this; exact ⟨rfl,by simpa [icmp] using this⟩
  obtain ⟨e1,e2,e3,e4,e5,e6⟩ := Rt.parts h h0.1 h0.2
  refine gD ?_
  refine gE2 ?_
  rw [e1,e2]; exact parts_av e3 e4 e5
theorem c_r02_form {n d : Int} (hn : Zs n) (hd : Zs d) (h0 : d ≠ 0) : FnC Tryz.prog 67 [zA n, zA d] (qA (Rat.divInt n d)) := by
  refine gF0 Tryz.func67 ?_
  refine gc (zr_Sign hn) ?_
  refine gC (fun ht14 => ?_) (fun ht14 => ?_)
  · have e0 : n = 0 := Int.sign_eq_zero_iff_zero.1 (by simpa [icmp] using ht14)
    refine gR ?_
    exact fin_sub1 (by rw [e0,Rat.zero_divInt]; exact sub_q0)
  · have e0 : n ≠ 0 := fun h => by rw [h] at ht14; cases ht14
    refine gc (zr_Sign hd) ?_
    refine gJ2 [2,3,4] [4] (fun (n1 d1 : Int) => []) (fun n1 d1 => [(2,some (.box (zA n1).cells)),(3,some (.box (zA d1).cells))]) (fun n1 d1 => 0 < d1 /\ n1 ≠ 0 /\ Zs n1 /\ Zs d1 /\ Rat.divInt n1 d1 = Rat.divInt n d) ?_ ?_
    · intro K1 hK1
      refine gC (fun ht18 => ?_) (fun ht18 => ?_)
      · have e1 : d < 0 := Int.sign_eq_neg_one_iff_neg.1 (by have := Int.sign_trichotomy d; have h9 : d.sign < 0 := by simpa [icmp] using ht18
                                                             omega)
        refine gc (zr_Neg hn) ?_
        refine gc (zr_Neg hd) ?_
        refine gD ?_
        exact jK2 hK1 (-n) (-d) ⟨by omega,by omega,hn.neg,hd.neg,divInt_neg2 n d⟩
      · have e1 : 0 < d := by
          have h9 : 0 <= d.sign:=by simpa [icmp] using ht18
          have := Int.sign_nonneg_iff.1 h9
          omega
        exact jK2 hK1 n d ⟨e1,e0,hn,hd,rfl⟩
    · rintro n1 d1 ⟨f1, f2, f3, f4, f5⟩
      have g2 : Zs (Int.gcd n1 d1 : Int) := f3.of_le (by rw [Int.natAbs_natCast]; exact Nat.le_of_dvd (by omega) (Int.gcd_dvd_natAbs_left _ _))
      have g3 : (Int.gcd n1 d1 : Int) ≠ 0:=by have := Int.gcd_pos_of_ne_zero_left d1 f2; omega
      refine gc (zr_Gcd f3 f4) ?_
      refine gc (zr_Div f3 g2 g3) ?_
      refine gc (zr_Div f4 g2 g3) ?_
      refine gE1 ?_
      rw [<- f5,<- form_av2 f1 f2]; rfl
theorem c_r02_Of (n : Int) (h : -9223372036854775808 <= n /\ n <= 9223372036854775807) : FnC Tryz.prog 33 [i64 n] (qA n) := by
 have hz : Zs n := ⟨2,by omega,by unfold Lz; simp only [Nat.reducePow]; omega⟩
 refine gF0 Tryz.func33 ?_
 refine gc (c_r01_Of n h) ?_
 refine gc c_r02_one ?_
 refine gc (c_r02_form hz zs1 (by omega)) ?_
 refine gE1 ?_
 exact congrArg qA (Rat.num_divInt_den (n : Rat))
theorem c_r02_Neg (a : Rt) (ha : a.ok) : FnC Tryz.prog 161 [a.av] (qA (-a.q)) := by
 have za := ha.qs
 refine gF0 Tryz.func161 ?_
 refine gc (c_r02_Parts a ha) ?_
 refine gc (zr_Neg za.num) ?_
 refine gc (c_r02_form za.num.neg za.den (by have := a.q.den_nz; omega)) ?_
 refine gD ?_
 refine gE1 ?_
 rw [rat_neg]; rfl
theorem c_r02_Sign (a : Rt) (ha : a.ok) : FnC Tryz.prog 131 [a.av] (i64 (sgnQ a.q)) := by
 refine gF0 Tryz.func131 ?_
 refine gc (c_r02_Parts a ha) ?_
 refine gc (zr_Sign ha.qs.num) ?_
 refine gE1 ?_
 rw [rat_sign]
theorem c_r02_Add (a b : Rt) (ha : a.ok) (hb : b.ok) : FnC Tryz.prog 132 [a.av, b.av] (qA (a.q + b.q)) := by
 have za := ha.qs
 have zb := hb.qs
 have m1 := za.mul zb
 have m2 := zb.mul za
 refine gF0 Tryz.func132 ?_
 refine gc (c_r02_Parts a ha) ?_
 refine gc (c_r02_Parts b hb) ?_
 refine gc (zr_Mul za.num zb.den) ?_
 refine gc (zr_Mul zb.num za.den) ?_
 refine gc (zr_Add m1.1 m2.1) ?_
 refine gc (zr_Mul za.den zb.den) ?_
 refine gc (c_r02_form (za.cross zb) m1.2.2.1 (Int.mul_ne_zero (by have := a.q.den_nz; omega) (by have := b.q.den_nz; omega))) ?_
 refine gD ?_
 refine gE1 ?_
 rw [rat_add]; rfl
theorem c_r02_Sub (a b : Rt) (ha : a.ok) (hb : b.ok) : FnC Tryz.prog 300 [a.av, b.av] (qA (a.q - b.q)) := by
 refine gF0 Tryz.func300 ?_
 refine gc (c_r02_Neg b hb) ?_
 refine gc (c_r02_Add a (rt (-b.q)) ha hb.qs.neg.ok) ?_
 refine gD ?_
 refine gE1 ?_
 rw [rt_q,<- Rat.sub_eq_add_neg]; rfl
theorem c_r02_Mul (a b : Rt) (ha : a.ok) (hb : b.ok) : FnC Tryz.prog 163 [a.av, b.av] (qA (a.q * b.q)) := by
 have za := ha.qs
 have zb := hb.qs
 have m1 := za.mul zb
 refine gF0 Tryz.func163 ?_
 refine gc (c_r02_Parts a ha) ?_
 refine gc (c_r02_Parts b hb) ?_
 refine gc (zr_Mul za.num zb.num) ?_
 refine gc (zr_Mul za.den zb.den) ?_
 refine gc (c_r02_form m1.2.1 m1.2.2.1 (Int.mul_ne_zero (by have := a.q.den_nz; omega) (by have := b.q.den_nz; omega))) ?_
 refine gD ?_
 refine gE1 ?_
 rw [rat_mul]; rfl
theorem c_r02_Cmp (a b : Rt) (ha : a.ok) (hb : b.ok) (hs : Qs (a.q - b.q)) : FnC Tryz.prog 240 [a.av, b.av] (i64 (sgnQ (a.q - b.q))) := by
 refine gF0 Tryz.func240 ?_
 refine gc (c_r02_Sub a b ha hb) ?_
 refine gc (c_r02_Sign (rt (a.q - b.q)) hs.ok) ?_
 refine gE1 ?_
 rw [rt_q]
end Go.Lw
namespace Go.Lw
open Go.Proofs
theorem c_tower_level {α : Type} (f : α -> AV) (l : List α) (hl : l.length <= 281474976710656) : FnC Tryz.prog 133 [.lst 3 (l.map f)] (i64 (lvl l.length)) := by
 refine gF0 Tryz.func133 ?_
 refine gL1 [0] [] (fun (k : Nat) => [(3,some (i64 k))]) (fun _ => []) (fun k => k <= 48 /\ ∀ j,j < k -> 2 ^ j < l.length) (fun k => 48 - k) 0 ⟨by omega,fun j h => by omega⟩ ?_
 rintro k ⟨hk,hj⟩ K1 hK1
 refine gs (s_shlW (.const _) (.tmp rfl) (by omega) (i64_shl1 (by omega)) rfl) ?_
 refine gl ?_
 refine gC (fun ht8 => ?_) (fun ht8 => ?_)
 ·have h1 : 2 ^ k < l.length := by have := ht8; simp only [icmp, decide_eq_true_eq] at this; omega
  have h2 : k < 48 := by
   rcases Nat.lt_or_ge k 48 with h | h
   ·exact h
   ·have : 2 ^ 48 <= 2 ^ k := pow_le2 h
    have : (2 : Nat) ^ 48 = 281474976710656:=by decide
    omega
  refine ga (i64_addI (by omega)) ?_
  exact gK1 hK1 (k + 1) ⟨by omega,fun j h => by rcases Nat.lt_or_ge j k with h3 | h3; exact hj j h3; (have : j = k:=by omega); subst this; exact h1⟩
 ·have h1 : l.length <= 2 ^ k := by have := ht8; simp only [icmp, decide_eq_false_iff_not] at this; omega
  have h2 := clog_eq hj h1
  refine gs (s_shlW (.const _) (.tmp rfl) (by omega) (i64_shl1 (by omega)) rfl) ?_
  refine gl ?_
  refine gC (fun ht15 => ?_) (fun ht15 => ?_)
  ·have h3 : 2 ^ k ≠ l.length := by have := ht15; simp only [icmp, bne_iff_ne, ne_eq] at this; omega
   refine gE1 ?_
   unfold lvl; rw [h2,if_neg h3]; rfl
  ·have h3 : 2 ^ k = l.length := by have := ht15; simp only [icmp, bne_eq_false_iff_eq] at this; omega
   refine gE1 ?_
   unfold lvl; rw [h2,if_pos h3]
theorem c_tower_number (ts : List (List Rt)) (a : List Rt) (ha : ∀ r ∈ a, r.ok) (hl : a.length <= 281474976710656) (ht : ts.length <= 281474976710656) : FnC Tryz.prog 71 [towR ts, nR a] (errA (numE ts.length a)) := by
  refine gF0 Tryz.func71 ?_
  refine gl ?_
  refine gJ0 [1,4] [] [] [] (¬ (a ≠ [] /\ (lvl a.length < 0 \/ (ts.length : Int) < lvl a.length))) ?_ ?_
  · intro K1 hK1
    refine gC (fun ht10 => ?_) (fun ht10 => ?_)
    · have h0 : a ≠ [] := fun h => by rw [h] at ht10; simp [icmp] at ht10
      refine gc (c_tower_level Rt.av a hl) ?_
      refine glG ?_
      refine gC (fun ht21 => ?_) (fun ht21 => ?_)
      · have h1 : lvl a.length < 0 \/ (ts.length : Int) < lvl a.length := by
          have h9 := ht21
          by_cases h : lvl a.length < 0
          · exact .inl h
          · simp only [icmp,decide_eq_false h,cond_false,decide_eq_true_eq] at h9; exact .inr h9
        refine gE1 ?_
        unfold numE; rw [if_pos ⟨h0,h1⟩]; rfl
      · have h1 : ¬ (lvl a.length < 0 \/ (ts.length : Int) < lvl a.length) := by
          have h9 := ht21
          by_cases h : lvl a.length < 0
          · simp only [icmp,decide_eq_true h,cond_true] at h9; cases h9
          · simp only [icmp, decide_eq_false h, cond_false, decide_eq_false_iff_not] at h9
            exact fun h' => h'.elim h h9
        exact jK0 hK1 (fun h => h1 h.2)
    · have h0 : a = [] := by
        cases a with
        | nil => rfl
        | cons c l => simp [icmp] at ht10
      exact jK0 hK1 (fun h => h.1 h0)
  · rintro hn
    refine gl ?_
    refine gL1 [23,24] [] (fun (i : Nat) => [(25,some (i64 i))]) (fun _ => []) (fun i => i <= a.length /\ (a.take i).all Rt.valid = true) (fun i => a.length - i) 0 ⟨Nat.zero_le _,by simp⟩ ?_
    rintro i ⟨hi,hv⟩ K2 hK2
    refine gC (fun ht26 => ?_) (fun ht26 => ?_)
    · have hin : i < a.length := by simpa [icmp] using ht26
      obtain ⟨r,hr⟩ := getx hin
      have hrok := ha r (List.mem_of_getElem? hr)
      refine gi (getmap hr) ?_
      refine gc (c_fraction_Valid r hrok) ?_
      refine gC (fun ht31 => ?_) (fun ht31 => ?_)
      · have hrv : r.valid = false := by simpa using ht31
        refine gE1 ?_
        unfold numE
        rw [if_neg hn,if_neg]
        · rfl
        · rw [List.all_eq_true]
          intro h
          rw [h r (List.mem_of_getElem? hr)] at hrv; cases hrv
      · have hrv : r.valid = true := by simpa using ht31
        refine ga (i64_add1 (by unfold maxL; omega)) ?_
        exact gK1 hK2 (i + 1) ⟨by omega,by rw [take_succ_get hr,List.all_append,hv]; simp [hrv]⟩
    · have hin : i = a.length := by have : a.length <= i := by simpa [icmp] using ht26
                                    omega
      subst hin
      rw [List.take_length] at hv
      refine gE1 ?_
      unfold numE; rw [if_neg hn,if_pos hv]; rfl
theorem c_tower_zero (a : List Rat) (ha : ∀ q ∈ a, Qs q) (hl : a.length <= 281474976710656) : FnC Tryz.prog 278 [nA a] (bl (zeroL a)) := by
  refine gF0 Tryz.func278 ?_
  refine gl ?_
  refine gL1 [5,6] [] (fun (i : Nat) => [(7,some (i64 i))]) (fun _ => []) (fun i => i <= a.length /\ zeroL (a.take i) = true) (fun i => a.length - i) 0 ⟨Nat.zero_le _,by simp [zeroL]⟩ ?_
  rintro i ⟨hi,hv⟩ K1 hK1
  refine gC (fun ht8 => ?_) (fun ht8 => ?_)
  · have hin : i < a.length := by simpa [icmp] using ht8
    obtain ⟨q,hq⟩ := getx hin
    have hqs := ha q (List.mem_of_getElem? hq)
    refine gi (getmap hq) ?_
    refine gc (c_fraction_Sign (rt q) hqs.ok) ?_
    refine gC (fun ht13 => ?_) (fun ht13 => ?_)
    · have h0 : q ≠ 0 := by
        intro h
        have h9 := ht13
        rw [rt_q,h] at h9
        cases h9
      refine gE1 ?_
      have : zeroL a = false := by
        rw [Bool.eq_false_iff]
        intro h
        exact h0 (by simpa using List.all_eq_true.1 h q (List.mem_of_getElem? hq))
      rw [this]; rfl
    · have h0 : q = 0 := by
        have h9 : sgnQ q = 0:=by have := ht13; rw [rt_q] at this; simpa [icmp] using this
        exact sgnQ_zero h9
      refine ga (i64_add1 (by unfold maxL; omega)) ?_
      exact gK1 hK1 (i + 1) ⟨by omega,by rw [take_succ_get hq]; simp only [zeroL,List.all_append,Bool.and_eq_true]; exact ⟨hv,by simp [h0]⟩⟩
  · have hin : i = a.length := by have : a.length <= i := by simpa [icmp] using ht8
                                  omega
    subst hin
    rw [List.take_length] at hv
    refine gE1 ?_
    rw [hv]; rfl
theorem c_tower_empty (a : List Rat) (hl : a.length <= 281474976710656) : FnC Tryz.prog 199 [nA a] (bl (zeroL a)) := by
  refine gF0 Tryz.func199 ?_
  refine gl ?_
  refine gL1 [5,6] [] (fun (i : Nat) => [(7,some (i64 i))]) (fun _ => []) (fun i => i <= a.length /\ zeroL (a.take i) = true) (fun i => a.length - i) 0 ⟨Nat.zero_le _,by simp [zeroL]⟩ ?_
  rintro i ⟨hi,hv⟩ K1 hK1
  refine gC (fun ht8 => ?_) (fun ht8 => ?_)
  · have hin : i < a.length := by simpa [icmp] using ht8
    obtain ⟨q,hq⟩ := getx hin
    refine gi (getmap hq) ?_
    refine glG ?_
    refine glG ?_
    refine gC (fun ht24 => ?_) (fun ht24 => ?_)
    · have h0 : q ≠ 0 := empty_no ht24
      refine gE1 ?_
      have : zeroL a = false := by
        rw [Bool.eq_false_iff]
        intro h
        exact h0 (by simpa using List.all_eq_true.1 h q (List.mem_of_getElem? hq))
      rw [this]; rfl
    · have h0 : q = 0 := empty_yes ht24
      refine ga (i64_add1 (by unfold maxL; omega)) ?_
      exact gK1 hK1 (i + 1) ⟨by omega,by rw [take_succ_get hq]; simp only [zeroL,List.all_append,Bool.and_eq_true]; exact ⟨hv,by simp [h0]⟩⟩
  · have hin : i = a.length := by have : a.length <= i := by simpa [icmp] using ht8
                                  omega
    subst hin
    rw [List.take_length] at hv
    refine gE1 ?_
    rw [hv]; rfl
theorem c_tower_copied (a : List Rat) (ha : ∀ q ∈ a, Qs q) (hl : a.length <= 1099511627776) : FnC Tryz.prog 198 [nA a] (nA a) := by
  refine gF0 Tryz.func198 ?_
  refine gl ?_
  refine gW (Wk.virt 900 3 rfl) ?_
  refine gL1 [6,7] [] (fun (i : Nat) => [(3,some (.ms 900 3 0 i)),(8,some (i64 i))]) (fun i => [(900,some (.row 3 ((a.take i).map qA)))]) (fun i => i <= a.length) (fun i => a.length - i) 0 (Nat.zero_le _) ?_
  rintro i hi K1 hK1
  refine gC (fun ht9 => ?_) (fun ht9 => ?_) (st2 := (7,0))
  · have hin : i < a.length := by simpa [icmp] using ht9
    obtain ⟨q,hq⟩ := getx hin
    have hqs := (ha q (List.mem_of_getElem? hq)).ok
    have hl1 : (rt q).num.length <= 137438953472 := hqs.2.2.1
    have hl2 : (rt q).den.length <= 137438953472 := hqs.2.2.2
    refine gi (getmap hq) ?_
    refine gs (s_buildMs0 T29 rfl T204 rfl rfl rfl) ?_
    refine gs (s_appendF (.tmp rfl) rfl rfl (.tmp rfl) T29 rfl T204 rfl rfl (by simp only [List.length_map]; omega) rfl rfl) ?_
    refine gs (s_buildMs0 T29 rfl T204 rfl rfl rfl) ?_
    refine gs (s_appendF (.tmp rfl) rfl rfl (.tmp rfl) T29 rfl T204 rfl rfl (by simp only [List.length_map]; omega) rfl rfl) ?_
    refine gs (s_append (.tmp rfl) rfl (by simp; omega) (.tmp rfl) T37 rfl T31 rfl rfl (by simp; omega) rfl rfl) ?_
    refine gD ?_ (6,0)
    refine gW (Wk.of (sl := [(3,some (.ms 25 3 0 (i + 1))),(6,some (nA a)),(7,some (i64 a.length)),(8,some (i64 i))]) (hp := [(25,some (.row 3 ((a.take (i + 1)).map qA)))]) (by repeat (first | exact SlW.nil | refine SlW.k ?_)) (.cons rfl (BlkSub.of (by rw [take_succ_get hq,List.map_append]; rfl)) .nil)) ?_ (6,0)
    refine gW (Wk.rekey (k := 25) (d := 900) rfl rfl) ?_
    refine ga (i64_add1 (by unfold maxL; omega)) ?_
    exact gK1 hK1 (i + 1) hin
  · have hin : i = a.length := by have : a.length <= i := by simpa [icmp] using ht9
                                  omega
    subst hin
    refine gW ((Wk.freeze (k := 900) rfl).trans <| Wk.of (sl := [(3,some (nA a))]) (hp := []) (.cons rfl (Sub.of (by rw [fz_all (by simp),List.take_length]; rfl)) .nil) .nil) ?_
    refine gE1 ?_
    rfl
end Go.Lw
namespace Go.Lw
open Go.Proofs
theorem c_tower_Short {n : Nat} (a : List Rat) (hn : n <= 5) (ha : Nl n a) (hs : ∀ q ∈ a, Qs q) : FnC Tryz.prog 135 [nA a] (nA (sh n (dec n a))) := by
 have hl := ha.len5 hn
 rw [<- shortL_sh ha hn]
 refine gF0 Tryz.func135 ?_
 refine gc (c_tower_level qA a (by omega)) ?_
 refine gl ?_
 refine gC (fun ht17 => ?_) (fun ht17 => ?_) (st1 := (3,0))
 ·exact absurd ht17 (by rcases ha with rfl | ⟨j,hj,h⟩; (simp [icmp]); (rw [h,lvl_pow]; simp [icmp]; omega))
 ·refine gl ?_
  refine gL1 [0] [] (fun (m : Nat) => [(4,some (i64 m))]) (fun _ => []) (fun m => ShOk a m) (fun m => m) a.length (sh_init (ha.mono hn)) ?_
  rintro m hm K1 hK1
  refine gs (s_guard rfl rfl rfl (fun h => s_quoW (.opt rfl (o1 h)) (.const _) (by omega) (i64_half (by have := hm.le; omega)) rfl)) ?_
  refine gs (s_guard rfl rfl rfl (fun h => s_sliceLst (.opt rfl (o1 h)) (.some _ (.opt rfl (o1 h)) (by omega)) (.some _ (.opt rfl (o1 h)) (by omega)) T37 rfl T31 rfl (by omega) (by have := hm.le; simp; omega) rfl)) ?_
  refine gcG (fun _ => (by have h9 := c_tower_empty ((a.drop (m / 2)).take (m - m / 2)) (by simp; omega); rw [<- nA_cut] at h9; exact h9)) ?_
  refine gC (fun ht31 => ?_) (fun ht31 => ?_)
  ·have h1 : 1 < m /\ zeroL ((a.drop (m / 2)).take (m - m / 2)) = true := by
    have h9 := ht31
    by_cases h : (m : Int) > 1
    ·simp only [icmp,decide_eq_true h,cond_true] at h9; exact ⟨by omega,h9⟩
    ·simp only [icmp,decide_eq_false h,cond_false] at h9; cases h9
   refine gs (s_quoW (.tmp rfl) (.const _) (by omega) (i64_half (by have := hm.le; omega)) rfl) ?_
   exact gK1 hK1 (m / 2) (sh_step hm h1.1 h1.2)
  ·have h1 : 1 < m -> zeroL ((a.drop (m / 2)).take (m - m / 2)) = false := by
    intro h
    have h9 := ht31
    simp only [icmp,decide_eq_true (show (m : Int) > 1 by omega),cond_true] at h9
    exact h9
   refine gs (s_guard rfl rfl rfl (fun h => s_sliceLst (.opt rfl (o1 h)) (.none _) (.some _ (.const _) (by omega)) T37 rfl T31 rfl (by omega) (by have h8 : (m : Int) = 1 := (by simpa [icmp] using h); have := hm.le; simp only [List.length_map]; omega) rfl)) ?_
   refine gcG (fun _ => (by have h9 := c_tower_empty ((a.drop 0).take 1) (by simp; omega); rw [<- nA_cut] at h9; exact h9)) ?_
   refine gC (fun ht40 => ?_) (fun ht40 => ?_)
   ·have h2 : m = 1 /\ zeroL (a.take 1) = true := by
     have h9 := ht40
     by_cases h : m = 1
     ·rw [h] at h9; exact ⟨h,h9⟩
     ·rw [show icmp .eql (m : Int) 1 = false by simp [icmp]; omega] at h9; cases h9
    obtain ⟨rfl,h3⟩ := h2
    refine gR ?_
    exact fin_sub1 (by rw [sh_end1 hm h3]; exact Sub.nil _ _ _)
   ·have h2 : m = 1 -> zeroL (a.take 1) = false := by
     intro h
     have h9 := ht40
     rw [h] at h9; exact h9
    have h3 := sh_end2 hm h1 h2
    refine gs (s_sliceLst (.tmp rfl) (.none _) (.some _ (.tmp rfl) (by omega)) T37 rfl T31 rfl (by omega) (by have := hm.le; simp; omega) rfl) ?_
    refine gc (by have h9 := c_tower_copied ((a.drop 0).take m) (fun q hq => hs q (List.mem_of_mem_drop (List.mem_of_mem_take hq))) (by simp; omega); have h8 := h9; rw [<- nA_cut] at h9; exact h9) ?_
    refine gE1 ?_
    rw [h3]
    simp [nA,List.map_take]
theorem c_tower_wideO (d : Nat) (hd : Nat.blt d 1000 = true) (a : List Rat) (n : Nat) (hl : a.length <= n) (hn : n <= 1099511627776) :
  Con Tryz.prog 277 [nA a,i64 n] [] (.ms d 3 0 n) [(d,some (.row 3 ((wideL a n).map qA)))] := by
 refine gF Tryz.func277 (fun k z h => by cases h) ?_
 refine gs (s_make (.tmp rfl) T37 rfl T31 rfl rfl (by omega) (by dsimp only; omega) rfl) ?_
 refine gs (s_copy (.tmp rfl) rfl (by simp) (.tmp rfl) T37 rfl T31 rfl rfl (by simp; omega) rfl) ?_ (3,0)
 refine gW (Wk.of (sl := [(5,some (.ms 7 3 0 n))]) (hp := [(7,some (.row 3 ((wideL a n).map qA)))]) (.cons rfl (Sub.of (by simp)) .nil) (.cons rfl (wide_row a n hl) .nil)) ?_
 refine gR ?_
 exact Fin.own1 rfl hd rfl
theorem c_tower_wide (a : List Rat) (n : Nat) (hl : a.length <= n) (hn : n <= 1099511627776) : FnC Tryz.prog 277 [nA a, i64 n] (nA (wideL a n)) := by
 have h := Con.freeze (by rw [List.length_map,len_wide hl]; omega) (c_tower_wideO 0 rfl a n hl hn)
 rw [List.drop_zero,List.take_of_length_le (by rw [List.length_map,len_wide hl]; exact Nat.le_refl _)] at h
 exact h
theorem c_tower_plus (a b : List Rat) (ha : ∀ q ∈ a, Qs q) (hb : ∀ q ∈ b, Qs q) (la : a.length <= 1099511627776) (lb : b.length <= 1099511627776) : FnC Tryz.prog 202 [nA a, nA b] (nA (plusL a b)) := by
  obtain ⟨n,hn⟩ : ∃ n,n = max a.length b.length := ⟨_,rfl⟩
  have hwa := len_wide (show a.length <= n by omega)
  have hwb := len_wide (show b.length <= n by omega)
  have hp := len_plus (a := a) (b := b)
  rw [<- hn] at hp
  have qa : ∀ q ∈ wideL a n,Qs q := fun q hq => by rcases List.mem_append.1 hq with h | h; exact ha q h; (rw [(List.mem_replicate.1 h).2]; exact Qs.zero)
  have qb : ∀ q ∈ wideL b n,Qs q := fun q hq => by rcases List.mem_append.1 hq with h | h; exact hb q h; (rw [(List.mem_replicate.1 h).2]; exact Qs.zero)
  refine gF0 Tryz.func202 ?_
  refine gl ?_
  refine gl ?_
  refine gs (s_max (.tmp rfl) (.tmp rfl) rfl) ?_ (2,0)
  refine gW (Wk.of (sl := [(0,some (nA a)),(1,some (nA b)),(5,some (i64 n))]) (hp := []) (.cons rfl (.refl _) (.cons rfl (.refl _) (.cons rfl (Sub.int (by omega)) .nil))) .nil) ?_
  refine go ?_
  refine gt (s_callH (c_tower_wideO 900 rfl a n (by omega) (by omega)) (.cons (.tmp rfl) (.cons (.tmp rfl) .nil)) (by first | exact hH0 | exact hH1 rfl | exact hH2 rfl rfl) rfl rfl) ?_
  refine gc (c_tower_wide b n (by omega) (by omega)) ?_
  refine gL1 [1,19] [] (fun (i : Nat) => [(0,some (.ms 900 3 0 n)),(20,some (i64 i))]) (fun i => [(900,some (.row 3 (((plusL a b).take i ++ (wideL a n).drop i).map qA)))]) (fun i => i <= n) (fun i => n - i) 0 (Nat.zero_le _) ?_
  rintro i hi K1 hK1
  refine gC (fun ht21 => ?_) (fun ht21 => ?_) (st2 := (8,0))
  · have hin : i < n := by simpa [icmp] using ht21
    have hmx := mix_get (p := plusL a b) (w := wideL a n) (i := i) (by omega) (by omega)
    have hqa := (qa _ (getD_mem (i := i) (by omega))).ok
    have hqb := (qb _ (getD_mem (i := i) (by omega))).ok
    refine gs (s_idxMs0 (n := i) (.tmp rfl) (.tmp rfl) T37 rfl T31 rfl (by omega) (by omega) rfl) ?_
    refine gs (s_loadEptr (.tmp rfl) rfl (getmap hmx) T31 rfl rfl rfl) ?_
    refine gi (getmap (getD_some (i := i) (l := wideL b n) (by omega))) ?_
    refine gc (c_fraction_Add (rt ((wideL a n).getD i 0)) (rt ((wideL b n).getD i 0)) hqa hqb) ?_
    refine gs (s_idxMs0 (n := i) (.tmp rfl) (.tmp rfl) T37 rfl T31 rfl (by omega) (by omega) rfl) ?_
    refine gs (s_stElem (.tmp rfl) rfl (getmap hmx) rfl (.tmp rfl) rfl rfl T31 rfl rfl) ?_
    refine gD ?_ (7,0)
    refine gW (Wk.of (sl := [(0,some (.ms 900 3 0 n)),(1,some (nA (wideL b n))),(19,some (i64 n)),(20,some (i64 i))]) (hp := [(900,some (.row 3 (((plusL a b).take (i + 1) ++ (wideL a n).drop (i + 1)).map qA)))]) (by repeat (first | exact SlW.nil | refine SlW.k ?_)) (.cons rfl (BlkSub.of (by rw [set_step (by omega) (by omega) (by rw [plus_get,<- hn,rt_q,rt_q])])) .nil)) ?_
    refine ga (i64_add1 (by unfold maxL; omega)) ?_
    exact gK1 hK1 (i + 1) hin
  · have hin : i = n := by have : n <= i := by simpa [icmp] using ht21
                           omega
    refine gW ((Wk.freeze (k := 900) rfl).trans <| Wk.of (sl := [(0,some (nA (plusL a b)))]) (hp := []) (.cons rfl (Sub.of (by rw [fz_all (by simp; omega),hin,List.drop_of_length_le (by omega),List.take_of_length_le (by omega),List.append_nil]; rfl)) .nil) .nil) ?_
    refine gE1 ?_
    rfl
theorem c_tower_minus (a : List Rat) (ha : ∀ q ∈ a, Qs q) (la : a.length <= 1099511627776) : FnC Tryz.prog 157 [nA a] (nA (minusL a)) := by
  obtain ⟨n,hn⟩ : ∃ n,n = a.length := ⟨_,rfl⟩
  refine gF0 Tryz.func157 ?_
  refine gl ?_
  refine gs (s_make (.tmp rfl) T37 rfl T31 rfl rfl (by omega) (by dsimp only; omega) rfl) ?_ (2,0)
  refine gW (Wk.of (sl := [(0,some (nA a)),(3,some (.ms 7 3 0 n))]) (hp := [(7,some (.row 3 ((wideL [] n).map qA)))]) (.k (.cons rfl (Sub.of (by simp [hn])) .nil)) (.cons rfl (BlkSub.of_ (wide_row [] n (by simp)) (by rw [hn]; rfl)) .nil)) ?_
  refine gl ?_
  refine gL1 [0] [] (fun (i : Nat) => [(3,some (.ms 7 3 0 n)),(9,some (i64 n)),(10,some (i64 i))]) (fun i => [(7,some (.row 3 (((minusL a).take i ++ (wideL [] n).drop i).map qA)))]) (fun i => i <= n) (fun i => n - i) 0 (Nat.zero_le _) ?_ (h1 := (.k (.cons rfl (Sub.int (by omega)) (.k .nil))))
  rintro i hi K1 hK1
  refine gC (fun ht11 => ?_) (fun ht11 => ?_) (st2 := (7,0))
  · have hin : i < n := by simpa [icmp] using ht11
    have hm1 := len_minus (a := a)
    have hm2 := len_wide (a := []) (n := n) (by simp)
    have hmx := mix_get (p := minusL a) (w := wideL [] n) (i := i) (by omega) (by omega)
    have hqa := (ha _ (getD_mem (i := i) (by omega))).ok
    refine gi (getmap (getD_some (i := i) (by omega))) ?_
    refine gc (c_fraction_Neg (rt (a.getD i 0)) hqa) ?_
    refine gs (s_idxMs0 (n := i) (.tmp rfl) (.tmp rfl) T37 rfl T31 rfl (by omega) (by omega) rfl) ?_
    refine gs (s_stElem (.tmp rfl) rfl (getmap hmx) rfl (.tmp rfl) rfl rfl T31 rfl rfl) ?_ (6,0)
    refine gW (Wk.of (sl := [(0,some (nA a)),(3,some (.ms 7 3 0 n)),(9,some (i64 n)),(10,some (i64 i))]) (hp := [(7,some (.row 3 (((minusL a).take (i + 1) ++ (wideL [] n).drop (i + 1)).map qA)))]) (by repeat (first | exact SlW.nil | refine SlW.k ?_)) (.cons rfl (BlkSub.of (by rw [set_step (by omega) (by omega) (by rw [minus_get,rt_q])])) .nil)) ?_
    refine ga (i64_add1 (by unfold maxL; omega)) ?_
    exact gK1 hK1 (i + 1) hin
  · have hin : i = n := by have : n <= i := by simpa [icmp] using ht11
                           omega
    have hm1 := len_minus (a := a)
    have hm2 := len_wide (a := []) (n := n) (by simp)
    refine gW ((Wk.freeze (k := 7) rfl).trans <| Wk.of (sl := [(3,some (nA (minusL a)))]) (hp := []) (.cons rfl (Sub.of (by rw [fz_all (by simp; omega),hin,List.drop_of_length_le (by omega),List.take_of_length_le (by omega),List.append_nil]; rfl)) .nil) .nil) ?_
    refine gE1 ?_
    rfl
theorem c_tower_join (a b : List Rat) (n : Nat) (la : a.length <= n) (lb : b.length <= n) (hn : n <= 274877906944) : FnC Tryz.prog 280 [nA a, nA b, i64 n] (nA (joinL a b n)) := by
 refine gF0 Tryz.func280 ?_
 refine gt (s_callH (c_tower_wideO 900 rfl a n la (by omega)) (.cons (.tmp rfl) (.cons (.tmp rfl) .nil)) (by first | exact hH0 | exact hH1 rfl | exact hH2 rfl rfl) rfl rfl) ?_
 refine gc (c_tower_wide b n lb (by omega)) ?_
 refine gs (s_appendF (.tmp rfl) rfl (by simp [len_wide la]) (.tmp rfl) T37 rfl T31 rfl rfl (by simp [len_wide lb]; omega) rfl rfl) ?_
 refine gE1 ?_
 rw [<- List.map_append]; rfl
end Go.Lw
namespace Go.Lw
open Go.Proofs
theorem c_tower_times (ts : List (List Rat)) (m r : Nat) (ht : TsOk ts m r) (hm : m <= 5) (hml : m <= ts.length) (k : Nat) : ∀ (j : Nat) (a b : List Rat) (e f : Nat), j <= m -> j <= k -> Nl j a -> Nl j b -> Cb e a -> Cb f b -> e + f + eB r j < 4398046511104 ->
  FnC Tryz.prog 203 [towA ts,nA a,nA b] (nA (pT ts k a b)) := by
 induction k using Nat.strongRecOn
 rename_i k ih
 intro j a b e f hj hjk ha hb ca cb hs
 have hla := ha.len5 (by omega)
 have hlb := hb.len5 (by omega)
 refine gF0 Tryz.func203 ?_
 refine gl ?_
 refine gl ?_
 refine gJ4 [3] [3] (fun (x y : List Rat) (e1 f1 : Nat) => [(1,some (nA x)),(2,some (nA y))]) (fun _ _ _ _ => []) (fun x y e1 f1 => y.length <= x.length /\ Nl j x /\ Nl j y /\ Cb e1 x /\ Cb f1 y /\ e1 + f1 = e + f /\ pT ts k a b = pT ts k x y) ?_ ?_
 ·intro K1 hK1
  refine gC (fun ht18 => ?_) (fun ht18 => ?_)
  ·have h1 : a.length < b.length := by have := ht18; simp only [icmp, decide_eq_true_eq] at this; omega
   exact jK4 hK1 b a f e ⟨by omega,hb,ha,cb,ca,by omega,pT_comm ts k a b h1⟩
  ·have h1 : b.length <= a.length := by have := ht18; simp only [icmp, decide_eq_false_iff_not] at this; omega
   exact jK4 hK1 a b e f ⟨h1,ha,hb,ca,cb,rfl,rfl⟩
 ·rintro x y e1 f1 ⟨hyx, hx, hy, cx, cy, hef, hp⟩
  have hlx := hx.len5 (by omega)
  have hly := hy.len5 (by omega)
  have qx : ∀ q ∈ x,Qs q := fun q hq => cx.qs (by omega) hq
  have qy : ∀ q ∈ y,Qs q := fun q hq => cy.qs (by omega) hq
  rw [hp]
  refine gc (c_tower_zero x qx (by omega)) ?_
  refine gcG (fun _ => (c_tower_zero y qy (by omega))) ?_
  refine gC (fun ht21 => ?_) (fun ht21 => ?_)
  ·have h1 : zeroL x = true \/ zeroL y = true := by
    have := ht21
    cases hz : zeroL x
    ·rw [hz] at this; exact .inr this
    ·exact .inl rfl
   refine gR ?_
   exact fin_sub1 (by rw [pT_zero hyx h1]; exact Sub.nil _ _ _)
  ·have h1 : ¬ (zeroL x = true \/ zeroL y = true) := by
    have := ht21
    cases hz : zeroL x
    ·rw [hz] at this; intro h; rcases h with h | h; cases h; (rw [show zeroL y = false from this] at h; cases h)
    ·rw [hz] at this; cases this
   refine gl ?_
   refine gC (fun ht28 => ?_) (fun ht28 => ?_)
   ·have h2 : x.length = 1 := by have := ht28; simp only [icmp, beq_iff_eq] at this; omega
    obtain ⟨p,rfl⟩ := List.length_eq_one_iff.1 h2
    have h3 : y ≠ [] := fun h => h1 (.inr (by rw [h]; rfl))
    obtain ⟨q,rfl⟩ : ∃ q,y = [q] := List.length_eq_one_iff.1 (by have := List.length_pos_iff.2 h3; simp at hyx; omega)
    refine gi rfl ?_
    refine gi rfl ?_
    refine gc (c_fraction_Mul (rt p) (rt q) (qx p (by simp)).ok (qy q (by simp)).ok) ?_
    refine gD ?_
    refine gE1 ?_
    rw [pT_one h1,rt_q,rt_q]; rfl
   ·have h2 : x.length ≠ 1 := by have := ht28; simp only [icmp, beq_eq_false_iff_ne, ne_eq] at this; omega
    have h3 : x ≠ [] := fun h => h1 (.inl (by rw [h]; rfl))
    obtain ⟨i, hij, hxl⟩ : ∃ i, i + 1 <= j /\ x.length = 2 ^ (i + 1) := by
     rcases nl_cases hx with h | h | h
     ·exact absurd (List.length_eq_zero_iff.1 h) h3
     ·exact absurd h h2
     ·exact h
    obtain ⟨k',rfl⟩ : ∃ k',k = k' + 1 := ⟨k - 1,by omega⟩
    have hp2 := Nat.two_pow_pos i
    have hpi : 2 ^ i <= 32 := pow_le2 (b := 5) (by omega)
    have hps : 2 ^ (i + 1) = 2 * 2 ^ i:=by rw [Nat.pow_succ]; omega
    have hes : eB r (i + 1) <= eB r j := eB_lev r hij
    have hee : eB r (i + 1) = 2 * eB r i + r + 2 := rfl
    have n1 : Nl i (x.take (2 ^ i)) := .inr ⟨i,Nat.le_refl _,nl_take hxl⟩
    have n2 : Nl i (x.drop (2 ^ i)) := .inr ⟨i,Nat.le_refl _,nl_drop hxl⟩
    refine gl ?_
    refine gs (s_quoW (.tmp rfl) (.const _) (by omega) (show _ = ((2 ^ i : Nat) : Int) by rw [i64_half (by omega),hxl,half_pow]) rfl) ?_
    refine gs (s_sliceLst (.tmp rfl) (.none _) (.some _ (.tmp rfl) (by omega)) T37 rfl T31 rfl (by omega) (by simp only [List.length_map]; omega) rfl) ?_
    refine gs (s_sliceLst (.tmp rfl) (.some _ (.tmp rfl) (by omega)) (.none _) T37 rfl T31 rfl (by simp only [List.length_map]; omega) (by omega) rfl) ?_
    refine gD ?_ (9,0)
    refine gW (Wk.of (sl := [(1,some (nA x)),(2,some (nA y)),(3,some (.ptr 3 0)),(7,some (i64 ((2 ^ i : Nat) : Int))),(8,some (nA (x.take (2 ^ i)))),(9,some (nA (x.drop (2 ^ i))))]) (hp := [(3,some (.box [.lst 1 (ts.map nA)]))]) (.k (.k (.k (.k (.cons rfl (Sub.of (cut_low x (2 ^ i))) (.cons rfl (Sub.of (cut_high x (2 ^ i))) .nil)))))) (.cons rfl (.refl _) .nil)) ?_
    refine gl ?_
    refine gC (fun ht52 => ?_) (fun ht52 => ?_)
    ·have h4 : y.length <= 2 ^ i := by have := ht52; simp only [icmp, decide_eq_true_eq] at this; omega
     have n3 : Nl i y := nl_of_len hy h4
     have s1 := pT_spec ts m ht.1 i k' _ _ (by omega) (by omega) n1 n3
     have s2 := pT_spec ts m ht.1 i k' _ _ (by omega) (by omega) n2 n3
     refine gc (ih k' (by omega) i _ _ e1 f1 (by omega) (by omega) n1 n3 cx.take cy (by omega)) ?_
     refine gc (ih k' (by omega) i _ _ e1 f1 (by omega) (by omega) n2 n3 cx.drop cy (by omega)) ?_
     refine gc (c_tower_join _ _ (2 ^ i) s1.1.le s2.1.le (by omega)) ?_
     refine gD ?_
     refine gE1 ?_
     rw [pT_half hxl h4 h1]
    ·have h4 : ¬ y.length <= 2 ^ i := by have := ht52; simp only [icmp, decide_eq_false_iff_not] at this; omega
     have hyl := nl_full hy h4 (by omega)
     have n3 : Nl i (y.take (2 ^ i)) := .inr ⟨i,Nat.le_refl _,nl_take hyl⟩
     have n4 : Nl i (y.drop (2 ^ i)) := .inr ⟨i,Nat.le_refl _,nl_drop hyl⟩
     have nd := ht.1 i (by omega)
     have cd := ht.2.cb i
     have s1 := pT_spec ts m ht.1 i k' _ _ (by omega) (by omega) n1 n3
     have s2 := pT_spec ts m ht.1 i k' _ _ (by omega) (by omega) n2 n4
     have s3 := pT_spec ts m ht.1 i k' _ _ (by omega) (by omega) s2.1 nd
     have s4 := pT_spec ts m ht.1 i k' _ _ (by omega) (by omega) n1 n4
     have s5 := pT_spec ts m ht.1 i k' _ _ (by omega) (by omega) n2 n3
     have c1 := Cb.mul ht (k := k') (show i <= m by omega) (by omega) n1 n3 cx.take cy.take
     have c2 := Cb.mul ht (k := k') (show i <= m by omega) (by omega) n2 n4 cx.drop cy.drop
     have c3 := Cb.mul ht (k := k') (show i <= m by omega) (by omega) s2.1 nd c2 cd
     have c4 := Cb.mul ht (k := k') (show i <= m by omega) (by omega) n1 n4 cx.take cy.drop
     have c5 := Cb.mul ht (k := k') (show i <= m by omega) (by omega) n2 n3 cx.drop cy.take
     have hpT := pT_full (ts := ts) (k := k') hxl h4 hyx h1
     refine gs (s_sliceLst (.tmp rfl) (.none _) (.some _ (.tmp rfl) (by omega)) T37 rfl T31 rfl (by omega) (by simp only [List.length_map]; omega) rfl) ?_
     refine gs (s_sliceLst (.tmp rfl) (.some _ (.tmp rfl) (by omega)) (.none _) T37 rfl T31 rfl (by simp only [List.length_map]; omega) (by omega) rfl) ?_
     refine gD ?_ (12,0)
     refine gW (Wk.of (sl := [(1,some (nA x)),(3,some (.ptr 3 0)),(7,some (i64 ((2 ^ i : Nat) : Int))),(8,some (nA (x.take (2 ^ i)))),(9,some (nA (x.drop (2 ^ i)))),(10,some (nA (y.take (2 ^ i)))),(11,some (nA (y.drop (2 ^ i))))]) (hp := [(3,some (.box [.lst 1 (ts.map nA)]))]) (.k (.k (.k (.k (.k (.cons rfl (Sub.of (cut_low y (2 ^ i))) (.cons rfl (Sub.of (cut_high y (2 ^ i))) .nil))))))) (.cons rfl (.refl _) .nil)) ?_
     refine gc (c_tower_level qA x (by omega)) ?_
     refine ga (show _ = (i : Int) by rw [hxl,lvl_pow,i64_subI (by omega)]; omega) ?_
     refine gi (rootAt (j := i) (by omega)) ?_
     refine gD ?_
     refine gc (ih k' (by omega) i _ _ e1 f1 (by omega) (by omega) n1 n3 cx.take cy.take (by omega)) ?_
     refine gc (ih k' (by omega) i _ _ e1 f1 (by omega) (by omega) n2 n4 cx.drop cy.drop (by omega)) ?_
     refine gc (ih k' (by omega) i _ _ _ _ (by omega) (by omega) s2.1 nd c2 cd (by omega)) ?_
     refine gc (c_tower_plus _ _ (fun q hq => c1.qs (by omega) hq) (fun q hq => c3.qs (by omega) hq) (by have := s1.1.le; omega) (by have := s3.1.le; omega)) ?_
     refine gD ?_
     refine gc (ih k' (by omega) i _ _ e1 f1 (by omega) (by omega) n1 n4 cx.take cy.drop (by omega)) ?_
     refine gc (ih k' (by omega) i _ _ e1 f1 (by omega) (by omega) n2 n3 cx.drop cy.take (by omega)) ?_
     refine gc (c_tower_plus _ _ (fun q hq => c4.qs (by omega) hq) (fun q hq => c5.qs (by omega) hq) (by have := s4.1.le; omega) (by have := s5.1.le; omega)) ?_
     refine gc (c_tower_join _ _ (2 ^ i) (by have := s1.1.le; have := s3.1.le; rw [len_plus]; omega) (by have := s4.1.le; have := s5.1.le; rw [len_plus]; omega) (by omega)) ?_
     refine gD ?_
     refine gE1 ?_
     rw [hpT]
theorem c_tower_norm (ts : List (List Rat)) (m r : Nat) (ht : TsOk ts m r) (hm : m <= 5) (hml : m <= ts.length) (i : Nat) (a : List Rat) (e : Nat) (hi : i + 1 <= m) (hal : a.length = 2 ^ (i + 1)) (ca : Cb e a) (hs : 4 * e + 3 * eB r i + r + 1 < 4398046511104) :
  FnC Tryz.prog 137 [towA ts,nA a] (nA (normL ts i a)) := by
 have hp2 := Nat.two_pow_pos i
 have hpi : 2 ^ i <= 32 := pow_le2 (b := 5) (by omega)
 have hps : 2 ^ (i + 1) = 2 * 2 ^ i:=by rw [Nat.pow_succ]; omega
 have n1 : Nl i (a.take (2 ^ i)) := .inr ⟨i,Nat.le_refl _,nl_take hal⟩
 have n2 : Nl i (a.drop (2 ^ i)) := .inr ⟨i,Nat.le_refl _,nl_drop hal⟩
 have nd := ht.1 i (by omega)
 have cd := ht.2.cb i
 have s1 := pT_spec ts m ht.1 i i _ _ (by omega) (by omega) n1 n1
 have s2 := pT_spec ts m ht.1 i i _ _ (by omega) (by omega) n2 n2
 have s3 := pT_spec ts m ht.1 i i _ _ (by omega) (by omega) s2.1 nd
 have c1 := Cb.mul ht (k := i) (show i <= m by omega) (by omega) n1 n1 ca.take ca.take
 have c2 := Cb.mul ht (k := i) (show i <= m by omega) (by omega) n2 n2 ca.drop ca.drop
 have c3 := Cb.mul ht (k := i) (show i <= m by omega) (by omega) s2.1 nd c2 cd
 refine gF0 Tryz.func137 ?_
 refine gl ?_
 refine gs (s_quoW (.tmp rfl) (.const _) (by omega) (show _ = ((2 ^ i : Nat) : Int) by rw [i64_half (by omega),hal,half_pow]) rfl) ?_
 refine gs (s_sliceLst (.tmp rfl) (.none _) (.some _ (.tmp rfl) (by omega)) T37 rfl T31 rfl (by omega) (by simp only [List.length_map]; omega) rfl) ?_
 refine gs (s_sliceLst (.tmp rfl) (.some _ (.tmp rfl) (by omega)) (.none _) T37 rfl T31 rfl (by simp only [List.length_map]; omega) (by omega) rfl) ?_
 refine gD ?_ (3,0)
 refine gW (Wk.of (sl := [(1,some (nA a)),(2,some (.ptr 2 0)),(6,some (nA (a.take (2 ^ i)))),(7,some (nA (a.drop (2 ^ i))))]) (hp := [(2,some (.box [.lst 1 (ts.map nA)]))]) (.k (.k (.cons rfl (Sub.of (cut_low a (2 ^ i))) (.cons rfl (Sub.of (cut_high a (2 ^ i))) .nil)))) (.cons rfl (.refl _) .nil)) ?_
 refine gc (c_tower_times ts m r ht hm hml i i _ _ e e (by omega) (by omega) n1 n1 ca.take ca.take (by omega)) ?_
 refine gc (c_tower_times ts m r ht hm hml i i _ _ e e (by omega) (by omega) n2 n2 ca.drop ca.drop (by omega)) ?_
 refine gc (c_tower_level qA a (by omega)) ?_
 refine ga (show _ = (i : Int) by rw [hal,lvl_pow,i64_subI (by omega)]; omega) ?_
 refine gi (rootAt (j := i) (by omega)) ?_
 refine gc (c_tower_times ts m r ht hm hml i i _ _ _ _ (by omega) (by omega) s2.1 nd c2 cd (by omega)) ?_
 refine gc (c_tower_minus _ (fun q hq => c3.qs (by omega) hq) (by have := s3.1.le; omega)) ?_
 refine gc (c_tower_plus _ _ (fun q hq => c1.qs (by omega) hq) (fun q hq => c3.minus.qs (by omega) hq) (by have := s1.1.le; omega) (by have := s3.1.le; rw [len_minus]; omega)) ?_
 refine gD ?_
 refine gE1 ?_
 rfl
theorem c_tower_sign (ts : List (List Rat)) (m r : Nat) (ht : TsOk ts m r) (hm : m <= 5) (hml : m <= ts.length) (j : Nat) : ∀ (a : List Rat) (e : Nat), j <= m -> Nl j a -> Cb e a -> sB r j e < 4398046511104 ->
  FnC Tryz.prog 72 [towA ts,nA a] (i64 (T.sgn (rtsOf ts) j (dec j a))) := by
 induction j using Nat.strongRecOn
 rename_i j ih
 intro a e hj ha ca hs
 have hse := sB_le r j e
 have qa : ∀ q ∈ a,Qs q := fun q hq => ca.qs (by omega) hq
 obtain ⟨s,hsa⟩ : ∃ s,s = sh j (dec j a) := ⟨_,rfl⟩
 have hsd : dec j s = dec j a:=by rw [hsa,dec_sh]
 have hsn : Nl j s:=by rw [hsa]; exact sh_nl j _
 have cs : Cb e s:=by rw [hsa]; exact ca.sh ha
 have hls := hsn.len5 (by omega)
 rw [<- hsd]
 refine gF0 Tryz.func72 ?_
 refine gc (hsa ▸ c_tower_Short a (by omega) ha qa) ?_
 refine gl ?_
 refine gC (fun ht12 => ?_) (fun ht12 => ?_)
 ·have h1 : s = [] := List.length_eq_zero_iff.1 (by have := ht12; simp only [icmp, beq_iff_eq] at this; omega)
  refine gE1 ?_
  rw [h1,dec_nil,T.sgn_zero]; rfl
 ·have h1 : s.length ≠ 0 := by have := ht12; simp only [icmp, beq_eq_false_iff_ne, ne_eq] at this; omega
  refine gl ?_
  refine gC (fun ht15 => ?_) (fun ht15 => ?_)
  ·have h2 : s.length = 1 := by have := ht15; simp only [icmp, beq_iff_eq] at this; omega
   obtain ⟨q,rfl⟩ := List.length_eq_one_iff.1 h2
   refine gi rfl ?_
   refine gc (c_fraction_Sign (rt q) (cs.qs (by omega) (by simp : q ∈ [q])).ok) ?_
   refine gE1 ?_
   rw [dec_one,T.sgn_ofQ,rt_q]
  ·have h2 : s.length ≠ 1 := by have := ht15; simp only [icmp, beq_eq_false_iff_ne, ne_eq] at this; omega
   obtain ⟨i, hij, hsl⟩ : ∃ i, i + 1 <= j /\ s.length = 2 ^ (i + 1) := by
    rcases nl_cases hsn with h | h | h
    ·exact absurd h h1
    ·exact absurd h h2
    ·exact h
   have hp2 := Nat.two_pow_pos i
   have hpi : 2 ^ i <= 32 := pow_le2 (b := 5) (by omega)
   have hps : 2 ^ (i + 1) = 2 * 2 ^ i:=by rw [Nat.pow_succ]; omega
   have n1 : Nl i (s.take (2 ^ i)) := .inr ⟨i,Nat.le_refl _,nl_take hsl⟩
   have n2 : Nl i (s.drop (2 ^ i)) := .inr ⟨i,Nat.le_refl _,nl_drop hsl⟩
   have nd := ht.1 i (by omega)
   have cd := ht.2.cb i
   obtain ⟨nn,dn,cn⟩ := normL_spec ht (by omega) hsl cs
   have b1 : sB r i (4 * e + 3 * eB r i + r + 1) <= sB r j e := sB_lev r e hij
   have b2 : sB r i e <= sB r i (4 * e + 3 * eB r i + r + 1) := sB_mono r i (by omega)
   have b3 : sB r i r <= sB r i (4 * e + 3 * eB r i + r + 1) := sB_mono r i (by omega)
   have b4 := sB_le r i (4 * e + 3 * eB r i + r + 1)
   have k1 := ih i (by omega) (s.take (2 ^ i)) e (by omega) n1 cs.take (by omega)
   have k2 := ih i (by omega) (s.drop (2 ^ i)) e (by omega) n2 cs.drop (by omega)
   have k3 := ih i (by omega) _ r (by omega) nd cd (by omega)
   have k4 := ih i (by omega) _ _ (by omega) nn cn (by omega)
   have hres : T.sgn (rtsOf ts) j (dec j s) = T.sgn3 (T.sgn (rtsOf ts) i (dec i (s.take (2 ^ i)))) (T.sgn (rtsOf ts) i (dec i (s.drop (2 ^ i)))) (T.sgn (rtsOf ts) i (dec i (ts.getD i []))) (T.sgn (rtsOf ts) i (dec i (normL ts i s))) := by
    rw [sgn_lev _ (by omega) hij,dn]; rfl
   have v1 := T.sgn_cases (rtsOf ts) i (dec i (s.take (2 ^ i)))
   have v4 := T.sgn_cases (rtsOf ts) i (dec i (normL ts i s))
   refine gl ?_
   refine gs (s_quoW (.tmp rfl) (.const _) (by omega) (show _ = ((2 ^ i : Nat) : Int) by rw [i64_half (by omega),hsl,half_pow]) rfl) ?_
   refine gs (s_sliceLst (.tmp rfl) (.none _) (.some _ (.tmp rfl) (by omega)) T37 rfl T31 rfl (by omega) (by simp only [List.length_map]; omega) rfl) ?_
   refine gc (by have h9 := k1; rw [<- cut_low] at h9; exact h9) ?_
   refine gs (s_sliceLst (.tmp rfl) (.some _ (.tmp rfl) (by omega)) (.none _) T37 rfl T31 rfl (by simp only [List.length_map]; omega) (by omega) rfl) ?_
   refine gc (by have h9 := k2; rw [<- cut_high] at h9; exact h9) ?_
   refine gD ?_
   refine gc (c_tower_level qA s (by omega)) ?_
   refine ga (show _ = (i : Int) by rw [hsl,lvl_pow,i64_subI (by omega)]; omega) ?_
   refine gi (rootAt (j := i) (by omega)) ?_
   refine gc k3 ?_
   refine gD ?_
   refine gC (fun ht42 => ?_) (fun ht42 => ?_)
   ·have e1 : T.sgn (rtsOf ts) i (dec i (ts.getD i [])) = 0 := by simpa [icmp] using ht42
    refine gE1 ?_
    rw [hres]; unfold T.sgn3; rw [if_pos e1]
   ·have e1 : ¬ T.sgn (rtsOf ts) i (dec i (ts.getD i [])) = 0 := by simpa [icmp] using ht42
    refine gC (fun ht44 => ?_) (fun ht44 => ?_)
    ·have e2 : T.sgn (rtsOf ts) i (dec i (s.take (2 ^ i))) = T.sgn (rtsOf ts) i (dec i (s.drop (2 ^ i))) \/ T.sgn (rtsOf ts) i (dec i (s.drop (2 ^ i))) = 0 := pick_or ht44
     refine gE1 ?_
     rw [hres]; unfold T.sgn3; rw [if_neg e1,if_pos e2]
    ·have e2 : ¬ (T.sgn (rtsOf ts) i (dec i (s.take (2 ^ i))) = T.sgn (rtsOf ts) i (dec i (s.drop (2 ^ i))) \/ T.sgn (rtsOf ts) i (dec i (s.drop (2 ^ i))) = 0) := pick_nor ht44
     refine gC (fun ht53 => ?_) (fun ht53 => ?_)
     ·have e3 : T.sgn (rtsOf ts) i (dec i (s.take (2 ^ i))) = 0 := by simpa [icmp] using ht53
      refine gE1 ?_
      rw [hres]; unfold T.sgn3; rw [if_neg e1,if_neg e2,if_pos e3]
     ·have e3 : ¬ T.sgn (rtsOf ts) i (dec i (s.take (2 ^ i))) = 0 := by simpa [icmp] using ht53
      refine gc (c_tower_norm ts m r ht hm hml i s e (by omega) hsl cs (by omega)) ?_
      refine gc k4 ?_
      refine ga (mul_small v1 v4) ?_
      refine gD ?_
      refine gE1 ?_
      rw [hres]; unfold T.sgn3; rw [if_neg e1,if_neg e2,if_neg e3]; rfl
end Go.Lw
namespace Go.Lw
open Go.Proofs
theorem c_tower_Check (rs : List (List Rt)) (r : Nat) (h : TR rs r) : FnC Tryz.prog 36 [towR rs] (errA (chkE rs)) := by
  have hll := h.ll
  have hr := h.le
  refine gF0 Tryz.func36 ?_
  refine gl ?_
  refine gC (fun ht10 => ?_) (fun ht10 => ?_)
  · have h5 : 5 < rs.length := by have := ht10; simp only [icmp, decide_eq_true_eq] at this; omega
    refine gE1 ?_
    rw [chkE_big h5]; rfl
  · have h5 : rs.length <= 5 := by have := ht10; simp only [icmp, decide_eq_false_iff_not] at this; omega
    refine gl ?_
    refine gL1 [1,13,14] [1] (fun (k : Nat) => [(15,some (i64 k))]) (fun _ => []) (fun k => k <= rs.length /\ ∀ j,j < k -> RtOk rs j) (fun k => rs.length - k) 0 ⟨Nat.zero_le _,fun j hj => by omega⟩ ?_
    rintro k ⟨hk,hj⟩ K1 hK1
    refine gC (fun ht16 => ?_) (fun ht16 => ?_)
    · have hin : k < rs.length := by simpa [icmp] using ht16
      obtain ⟨d,hd⟩ := getx hin
      have hdm := List.mem_of_getElem? hd
      have hdl := h.len d hdm
      refine gi (getmap hd) ?_
      refine gl ?_
      refine gs (s_shlW (.const _) (.tmp rfl) (by omega) (i64_shl1 (by omega)) rfl) ?_
      refine gC (fun ht24 => ?_) (fun ht24 => ?_)
      · have h1 : d.length ≠ 2 ^ k := by have := ht24; simp only [icmp, bne_iff_ne, ne_eq] at this; omega
        refine gE1 ?_
        rw [chkE_len h5 hd hj h1]; rfl
      · have h1 : d.length = 2 ^ k := by have := ht24; simp only [icmp, bne_eq_false_iff_eq] at this; omega
        have htl : (rs.take k).length = k:=by simp; omega
        have hnu := c_tower_number (rs.take k) d (h.ok d hdm) hdl (by omega)
        rw [htl] at hnu
        refine gs (s_sliceLst (.tmp rfl) (.none _) (.some _ (.tmp rfl) (by omega)) T22 rfl T37 rfl (by omega) (by simp only [List.length_map]; omega) rfl) ?_ (9,0)
        refine gW (Wk.of (sl := [(1,some (.ptr 1 0)),(3,some (i64 k)),(4,some (nR d)),(5,some (.ptr 5 0)),(13,some (.lst 1 (rs.map nR))),(14,some (i64 rs.length)),(15,some (i64 k))]) (hp := [(1,some (.box [.lst 1 (rs.map nR)])),(5,some (.box [.lst 1 ((rs.take k).map nR)]))]) (by repeat (first | exact SlW.nil | refine SlW.k ?_)) (.cons rfl (.refl _) (.cons rfl (BlkSub.boxL (.cons (.of (cut_take nR rs k)) .nil) rfl) .nil))) ?_
        refine gc hnu ?_
        refine gC (fun ht35 => ?_) (fun ht35 => ?_)
        · have h2 := nNil_t ht35
          refine gE1 ?_
          rw [chkE_num h5 hd hj h1 h2]
        · have h2 := nNil_f ht35
          have hts := tsok_take (ts := llq rs) (fun j hjk => (hj j hjk).nl) h.rb
          have hq := numE_ok h2 (h.ok d hdm)
          have hcb : Cb r (lq d):=by have := h.rb.cb k; rw [llq_getD,List.getD_eq_getElem?_getD,hd] at this; exact this
          have hsg : FnC Tryz.prog 72 [towR (rs.take k), nR d] (i64 (T.sgn (rtsOf (llq rs)) k (dec k (lq d)))) := by
            have h9 := c_tower_sign ((llq rs).take k) k r hts (by omega) (by simp; omega) k (lq d) r (Nat.le_refl _) hq.2 hcb (sB_tw (Nat.le_refl k) (by have := h.three; omega) hr (by have := lm_ge k; omega))
            rw [T.sgn_congr k (fun j hjk => rtsOf_take hjk)] at h9
            rw [towR_take h.ok (by omega) hj,hq.1,nR_rt]
            rw [<- hq.1]; exact h9
          refine gc hsg ?_
          refine gC (fun ht40 => ?_) (fun ht40 => ?_)
          · have h3 : T.sgn (rtsOf (llq rs)) k (dec k (lq d)) < 0 := by simpa [icmp] using ht40
            refine gE1 ?_
            rw [chkE_sgn h5 hd hj h1 h2 h3]; rfl
          · have h3 : ¬ T.sgn (rtsOf (llq rs)) k (dec k (lq d)) < 0 := by simpa [icmp] using ht40
            refine ga (i64_add1 (by unfold maxL; omega)) ?_
            exact gK1 hK1 (k + 1) ⟨hin,fun j hjk => by rcases Nat.lt_or_ge j k with h9 | h9; exact hj j h9; (have : j = k:=by omega); subst this; exact rtok_of hd h1 h2 h3⟩
    · have hin : k = rs.length := by have : rs.length <= k := by simpa [icmp] using ht16
                                     omega
      subst hin
      refine gE1 ?_
      rw [chkE_all h5 hj]; rfl
theorem c_tower_checks (rs : List (List Rt)) (r : Nat) (h : TR rs r) (xs : List (List Rt)) (hx : ∀ a ∈ xs, (∀ x ∈ a, x.ok) /\ a.length <= 281474976710656) (hl : xs.length <= 281474976710656) : FnC Tryz.prog 156 [towR rs, .lst 1 (xs.map nR)] (errA (chksE rs xs)) := by
  refine gF0 Tryz.func156 ?_
  refine gc (c_tower_Check rs r h) ?_
  refine gC (fun ht12 => ?_) (fun ht12 => ?_)
  · have h1 := nNil_t ht12
    refine gE1 ?_
    rw [chks_chk h1]
  · have h1 := nNil_f ht12
    refine gl ?_
    refine gL1 [2,14,15] [2] (fun (i : Nat) => [(16,some (i64 i))]) (fun _ => []) (fun i => i <= xs.length /\ ∀ x ∈ xs.take i,numE rs.length x = 0) (fun i => xs.length - i) 0 ⟨Nat.zero_le _,fun x hx => by simp at hx⟩ ?_
    rintro i ⟨hi,hj⟩ K1 hK1
    refine gC (fun ht17 => ?_) (fun ht17 => ?_)
    · have hin : i < xs.length := by simpa [icmp] using ht17
      obtain ⟨a,ha⟩ := getx hin
      have hok := hx a (List.mem_of_getElem? ha)
      refine gi (getmap ha) ?_
      refine gc (c_tower_number rs a hok.1 hok.2 h.ll) ?_
      refine gC (fun ht24 => ?_) (fun ht24 => ?_)
      · have h2 := nNil_t ht24
        refine gE1 ?_
        rw [chks_at h1 ha hj h2]
      · have h2 := nNil_f ht24
        refine ga (i64_add1 (by unfold maxL; omega)) ?_
        exact gK1 hK1 (i + 1) ⟨hin,fun x hx => by rw [take_succ_get ha] at hx; rcases List.mem_append.1 hx with h9 | h9; exact hj x h9; (rw [List.mem_singleton.1 h9]; exact h2)⟩
    · have hin : i = xs.length := by have : xs.length <= i := by simpa [icmp] using ht17
                                     omega
      subst hin
      rw [List.take_length] at hj
      refine gE1 ?_
      rw [chks_of h1 hj]; rfl
theorem c_tower_Neg (rs : List (List Rt)) (r : Nat) (h : TR rs r) (a : List Rt) (e : Nat) (ha : NR a e) (he : e <= lm rs.length) :
  FnC Tryz.prog 92 [towR rs,nR a] (.tup [nA (if chksE rs [a] = 0 then sh rs.length (T.neg rs.length (dec rs.length (lq a))) else []),errA (chksE rs [a])]) := by
 have hlm := lm_le rs.length
 refine gF0 Tryz.func92 ?_
 refine gc (c_tower_checks rs r h [a] (fun x hx => by rw [List.mem_singleton.1 hx]; exact ⟨ha.ok,ha.len⟩) (by simp)) ?_
 refine gC (fun ht12 => ?_) (fun ht12 => ?_) (st2 := (77777,0))
 ·have h1 := nNil_t ht12
  refine gR ?_
  exact fin_sub (by rw [if_neg h1]; exact Sub.tup (.cons (.nil _ _ _) (.cons (.refl _) .nil)))
 ·have h1 := nNil_f ht12
  obtain ⟨h2,h3⟩ := chks_ok h1
  obtain ⟨tw,_⟩ := chk_tw h h2
  obtain ⟨e1,na⟩ := ha.num (h3 a (by simp))
  have h5 : rs.length <= 5:=by have := tw.five; rwa [List.length_map] at this
  have hl := na.len5 h5
  have qa : ∀ q ∈ lq a,Qs q := fun q hq => ha.cb.qs (by omega) hq
  have qm : ∀ q ∈ minusL (lq a),Qs q := fun q hq => ha.cb.minus.qs (by omega) hq
  have nm := nl_minus na
  refine gW (Wk.of (sl := [(1,some (nA (lq a))),(2,some (.ptr 2 0)),(6,some (errA (chksE rs [a])))]) (hp := [(2,some (.box [.lst 1 (rs.map nR)]))]) (.cons rfl (Sub.of e1) (.k (.k .nil))) (.cons rfl (.refl _) .nil)) ?_
  refine gc (c_tower_minus _ qa (by omega)) ?_
  refine gc (c_tower_Short _ h5 nm qm) ?_
  refine gE2 ?_
  rw [if_pos h1,h1,dec_minus]; rfl
theorem c_tower_Add (rs : List (List Rt)) (r : Nat) (h : TR rs r) (a b : List Rt) (e f : Nat) (ha : NR a e) (hb : NR b f) (he : e + f <= lm rs.length) :
  FnC Tryz.prog 160 [towR rs,nR a,nR b] (.tup [nA (if chksE rs [a,b] = 0 then sh rs.length (T.add rs.length (dec rs.length (lq a)) (dec rs.length (lq b))) else []),errA (chksE rs [a,b])]) := by
 have hlm := lm_le rs.length
 refine gF0 Tryz.func160 ?_
 refine gc (c_tower_checks rs r h [a,b] (two_ok ha hb) (by simp)) ?_
 refine gC (fun ht15 => ?_) (fun ht15 => ?_) (st2 := (77777,0))
 ·have h1 := nNil_t ht15
  refine gR ?_
  exact fin_sub (by rw [if_neg h1]; exact Sub.tup (.cons (.nil _ _ _) (.cons (.refl _) .nil)))
 ·have h1 := nNil_f ht15
  obtain ⟨h2,h3⟩ := chks_ok h1
  obtain ⟨tw,e0⟩ := chk_tw h h2
  obtain ⟨e1,na⟩ := ha.num (h3 a (by simp))
  obtain ⟨e2,nb⟩ := hb.num (h3 b (by simp))
  have h5 : rs.length <= 5:=by have := tw.five; rwa [List.length_map] at this
  have hla := na.len5 h5
  have hlb := nb.len5 h5
  have qa : ∀ q ∈ lq a,Qs q := fun q hq => ha.cb.qs (by omega) hq
  have qb : ∀ q ∈ lq b,Qs q := fun q hq => hb.cb.qs (by omega) hq
  have qp : ∀ q ∈ plusL (lq a) (lq b),Qs q := fun q hq => (ha.cb.plus hb.cb).qs (by omega) hq
  have np := nl_plus na nb
  refine gW (Wk.of (sl := [(1,some (nA (lq a))),(2,some (nA (lq b))),(3,some (.ptr 3 0)),(8,some (errA (chksE rs [a,b])))]) (hp := [(3,some (.box [.lst 1 (rs.map nR)]))]) (.cons rfl (Sub.of e1) (.cons rfl (Sub.of e2) (.k (.k .nil)))) (.cons rfl (.refl _) .nil)) ?_
  refine gc (c_tower_plus _ _ qa qb (by omega) (by omega)) ?_
  refine gc (c_tower_Short _ h5 np qp) ?_
  refine gE2 ?_
  rw [if_pos h1,h1,dec_plus]; rfl
theorem c_tower_Sub (rs : List (List Rt)) (r : Nat) (h : TR rs r) (a b : List Rt) (e f : Nat) (ha : NR a e) (hb : NR b f) (he : e + f <= lm rs.length) :
  FnC Tryz.prog 158 [towR rs,nR a,nR b] (.tup [nA (if chksE rs [a,b] = 0 then sh rs.length (T.add rs.length (dec rs.length (lq a)) (T.neg rs.length (dec rs.length (lq b)))) else []),errA (chksE rs [a,b])]) := by
 have hlm := lm_le rs.length
 refine gF0 Tryz.func158 ?_
 refine gc (c_tower_checks rs r h [a,b] (two_ok ha hb) (by simp)) ?_
 refine gC (fun ht15 => ?_) (fun ht15 => ?_) (st2 := (77777,0))
 ·have h1 := nNil_t ht15
  refine gR ?_
  exact fin_sub (by rw [if_neg h1]; exact Sub.tup (.cons (.nil _ _ _) (.cons (.refl _) .nil)))
 ·have h1 := nNil_f ht15
  obtain ⟨h2,h3⟩ := chks_ok h1
  obtain ⟨tw,e0⟩ := chk_tw h h2
  obtain ⟨e1,na⟩ := ha.num (h3 a (by simp))
  obtain ⟨e2,nb⟩ := hb.num (h3 b (by simp))
  have h5 : rs.length <= 5:=by have := tw.five; rwa [List.length_map] at this
  have hla := na.len5 h5
  have hlb := nb.len5 h5
  have qa : ∀ q ∈ lq a,Qs q := fun q hq => ha.cb.qs (by omega) hq
  have qb : ∀ q ∈ lq b,Qs q := fun q hq => hb.cb.qs (by omega) hq
  have qm : ∀ q ∈ minusL (lq b),Qs q := fun q hq => hb.cb.minus.qs (by omega) hq
  have qp : ∀ q ∈ plusL (lq a) (minusL (lq b)),Qs q := fun q hq => (ha.cb.plus hb.cb.minus).qs (by omega) hq
  have np := nl_plus na (nl_minus nb)
  refine gW (Wk.of (sl := [(1,some (nA (lq a))),(2,some (nA (lq b))),(3,some (.ptr 3 0)),(8,some (errA (chksE rs [a,b])))]) (hp := [(3,some (.box [.lst 1 (rs.map nR)]))]) (.cons rfl (Sub.of e1) (.cons rfl (Sub.of e2) (.k (.k .nil)))) (.cons rfl (.refl _) .nil)) ?_
  refine gc (c_tower_minus _ qb (by omega)) ?_
  refine gc (c_tower_plus _ _ qa qm (by omega) (by rw [len_minus]; omega)) ?_
  refine gc (c_tower_Short _ h5 np qp) ?_
  refine gE2 ?_
  rw [if_pos h1,h1,dec_plus,dec_minus]; rfl
theorem c_tower_Mul (rs : List (List Rt)) (r : Nat) (h : TR rs r) (a b : List Rt) (e f : Nat) (ha : NR a e) (hb : NR b f) (he : e + f <= lm rs.length) :
  FnC Tryz.prog 159 [towR rs,nR a,nR b] (.tup [nA (if chksE rs [a,b] = 0 then sh rs.length (T.mul (rtsOf (llq rs)) rs.length (dec rs.length (lq a)) (dec rs.length (lq b))) else []),errA (chksE rs [a,b])]) := by
 have hr := h.le
 have hlm := lm_le rs.length
 refine gF0 Tryz.func159 ?_
 refine gc (c_tower_checks rs r h [a,b] (two_ok ha hb) (by simp)) ?_
 refine gC (fun ht15 => ?_) (fun ht15 => ?_) (st2 := (77777,0))
 ·have h1 := nNil_t ht15
  refine gR ?_
  exact fin_sub (by rw [if_neg h1]; exact Sub.tup (.cons (.nil _ _ _) (.cons (.refl _) .nil)))
 ·have h1 := nNil_f ht15
  obtain ⟨h2,h3⟩ := chks_ok h1
  obtain ⟨tw,e0⟩ := chk_tw h h2
  obtain ⟨e1,na⟩ := ha.num (h3 a (by simp))
  obtain ⟨e2,nb⟩ := hb.num (h3 b (by simp))
  have hlen : (llq rs).length = rs.length := List.length_map _
  have h5 : rs.length <= 5:=by have := tw.five; omega
  have hla := na.len5 h5
  have hlb := nb.len5 h5
  have htw := tw.ok
  rw [hlen] at htw
  have hE := eB_five r h5
  have np := pT_spec (llq rs) rs.length htw.1 rs.length rs.length _ _ (Nat.le_refl _) (Nat.le_refl _) na nb
  have cp := Cb.mul htw (k := rs.length) (Nat.le_refl rs.length) (Nat.le_refl _) na nb ha.cb hb.cb
  have hti := c_tower_times (llq rs) rs.length r htw h5 (by omega) rs.length rs.length _ _ e f (Nat.le_refl _) (Nat.le_refl _) na nb ha.cb hb.cb (by omega)
  refine gW (Wk.of (sl := [(1,some (nA (lq a))),(2,some (nA (lq b))),(3,some (.ptr 3 0)),(8,some (errA (chksE rs [a,b])))]) (hp := [(3,some (.box [.lst 1 ((llq rs).map nA)]))]) (.cons rfl (Sub.of e1) (.cons rfl (Sub.of e2) (.k (.k .nil)))) (.cons rfl (BlkSub.boxL (.cons (.of (towR_in e0)) .nil) rfl) .nil)) ?_
  refine gc hti ?_
  refine gc (c_tower_Short _ h5 np.1 (fun q hq => cp.qs (by omega) hq)) ?_
  refine gE2 ?_
  rw [if_pos h1,h1,np.2]; rfl
theorem c_tower_Cmp (rs : List (List Rt)) (r : Nat) (h : TR rs r) (a b : List Rt) (e f : Nat) (ha : NR a e) (hb : NR b f) (he : e + f + 1 <= lm rs.length) :
  FnC Tryz.prog 345 [towR rs,nR a,nR b] (.tup [i64 (if chksE rs [a,b] = 0 then T.sgn (rtsOf (llq rs)) rs.length (T.add rs.length (dec rs.length (lq a)) (T.neg rs.length (dec rs.length (lq b)))) else 0),errA (chksE rs [a,b])]) := by
 have hr := h.le
 have hlm := lm_le rs.length
 refine gF0 Tryz.func345 ?_
 refine gc (c_tower_checks rs r h [a,b] (two_ok ha hb) (by simp)) ?_
 refine gC (fun ht15 => ?_) (fun ht15 => ?_) (st2 := (77777,0))
 ·have h1 := nNil_t ht15
  refine gE2 ?_
  rw [if_neg h1]; rfl
 ·have h1 := nNil_f ht15
  obtain ⟨h2,h3⟩ := chks_ok h1
  obtain ⟨tw,e0⟩ := chk_tw h h2
  obtain ⟨e1,na⟩ := ha.num (h3 a (by simp))
  obtain ⟨e2,nb⟩ := hb.num (h3 b (by simp))
  have hlen : (llq rs).length = rs.length := List.length_map _
  have h5 : rs.length <= 5:=by have := tw.five; omega
  have hla := na.len5 h5
  have hlb := nb.len5 h5
  have htw := tw.ok
  rw [hlen] at htw
  have qa : ∀ q ∈ lq a,Qs q := fun q hq => ha.cb.qs (by omega) hq
  have qb : ∀ q ∈ lq b,Qs q := fun q hq => hb.cb.qs (by omega) hq
  have qm : ∀ q ∈ minusL (lq b),Qs q := fun q hq => hb.cb.minus.qs (by omega) hq
  have np := nl_plus na (nl_minus nb)
  have hsg := c_tower_sign (llq rs) rs.length r htw h5 (by omega) rs.length _ _ (Nat.le_refl _) np (ha.cb.plus hb.cb.minus) (sB_tw (Nat.le_refl rs.length) (by have := tw.three; omega) hr (by omega))
  refine gW (Wk.of (sl := [(1,some (nA (lq a))),(2,some (nA (lq b))),(3,some (.ptr 3 0)),(8,some (errA (chksE rs [a,b])))]) (hp := [(3,some (.box [.lst 1 ((llq rs).map nA)]))]) (.cons rfl (Sub.of e1) (.cons rfl (Sub.of e2) (.k (.k .nil)))) (.cons rfl (BlkSub.boxL (.cons (.of (towR_in e0)) .nil) rfl) .nil)) ?_
  refine gc (c_tower_minus _ qb (by omega)) ?_
  refine gc (c_tower_plus _ _ qa qm (by omega) (by rw [len_minus]; omega)) ?_
  refine gc hsg ?_
  refine gD ?_
  refine gE2 ?_
  rw [if_pos h1,h1,dec_plus,dec_minus]; rfl
theorem c_tower_Sign (rs : List (List Rt)) (r : Nat) (h : TR rs r) (a : List Rt) (e : Nat) (ha : NR a e) (he : e <= lm rs.length) :
  FnC Tryz.prog 110 [towR rs,nR a] (.tup [i64 (if chksE rs [a] = 0 then T.sgn (rtsOf (llq rs)) rs.length (dec rs.length (lq a)) else 0),errA (chksE rs [a])]) := by
 have hr := h.le
 have hlm := lm_le rs.length
 refine gF0 Tryz.func110 ?_
 refine gc (c_tower_checks rs r h [a] (fun x hx => by rw [List.mem_singleton.1 hx]; exact ⟨ha.ok,ha.len⟩) (by simp)) ?_
 refine gC (fun ht12 => ?_) (fun ht12 => ?_) (st2 := (77777,0))
 ·have h1 := nNil_t ht12
  refine gE2 ?_
  rw [if_neg h1]; rfl
 ·have h1 := nNil_f ht12
  obtain ⟨h2,h3⟩ := chks_ok h1
  obtain ⟨tw,e0⟩ := chk_tw h h2
  obtain ⟨e1,na⟩ := ha.num (h3 a (by simp))
  have hlen : (llq rs).length = rs.length := List.length_map _
  have h5 : rs.length <= 5:=by have := tw.five; omega
  have htw := tw.ok
  rw [hlen] at htw
  have hsg := c_tower_sign (llq rs) rs.length r htw h5 (by omega) rs.length _ _ (Nat.le_refl _) na ha.cb (sB_tw (Nat.le_refl rs.length) (by have := tw.three; omega) hr (by omega))
  refine gW (Wk.of (sl := [(1,some (nA (lq a))),(2,some (.ptr 2 0)),(6,some (errA (chksE rs [a])))]) (hp := [(2,some (.box [.lst 1 ((llq rs).map nA)]))]) (.cons rfl (Sub.of e1) (.k (.k .nil))) (.cons rfl (BlkSub.boxL (.cons (.of (towR_in e0)) .nil) rfl) .nil)) ?_
  refine gc hsg ?_
  refine gE2 ?_
  rw [if_pos h1,h1]; rfl
theorem c_tower_Of (x : Rt) (hx : x.ok) (hs : Qs x.q) : FnC Tryz.prog 87 [x.av] (nA (sh 0 (x.q : Rat))) := by
 have hadd := c_fraction_Add x (rt 0) hx Qs.zero.ok
 rw [ofsum] at hadd
 refine gF0 Tryz.func87 ?_
 refine gc (Con.subA (.cons (.refl _) (.cons sub_q0 .nil)) hadd) ?_
 refine gc (c_tower_Short (n := 0) [x.q] (by omega) (.inr ⟨0,Nat.le_refl _,rfl⟩) (fun q hq => by rw [List.mem_singleton.1 hq]; exact hs)) ?_
 refine gE1 ?_
 rfl
end Go.Lw
namespace Go.Lw
open Go.Proofs
theorem c_r04_power (n : Nat) (hn : n <= 281474976710656) : FnC Tryz.prog 142 [i64 n] (.tup [i64 (pwk n), bl (pwb n)]) := by
 refine gF0 Tryz.func142 ?_
 refine gL1 [0] [] (fun (k : Nat) => [(5,some (i64 k))]) (fun _ => []) (fun k => k <= 6 /\ ∀ j,j < k -> n ≠ 2 ^ j) (fun k => 6 - k) 0 ⟨by omega,fun j h => by omega⟩ ?_
 rintro k ⟨hk,hj⟩ K1 hK1
 refine gC (fun ht6 => ?_) (fun ht6 => ?_)
 ·have h1 : k < 6 := by have := ht6; simp only [icmp, decide_eq_true_eq] at this; omega
  refine gs (s_shlW (.const _) (.tmp rfl) (by omega) (i64_shl1 (by omega)) rfl) ?_
  refine gC (fun ht11 => ?_) (fun ht11 => ?_)
  ·have h2 : n = 2 ^ k := by have := ht11; simp only [icmp, beq_iff_eq] at this; omega
   refine gE2 ?_
   rw [h2,(pw_of (by omega)).1,(pw_of (by omega)).2]; rfl
  ·have h2 : n ≠ 2 ^ k := by have := ht11; simp only [icmp, beq_eq_false_iff_ne, ne_eq] at this; omega
   refine ga (i64_addI (by omega)) ?_
   exact gK1 hK1 (k + 1) ⟨by omega,fun j h => by rcases Nat.lt_or_ge j k with h3 | h3; exact hj j h3; (have : j = k:=by omega); subst this; exact h2⟩
 ·have h1 : k = 6 := by have := ht6; simp only [icmp, decide_eq_false_iff_not] at this; omega
  subst h1
  refine gE2 ?_
  rw [(pw_none hj).1,(pw_none hj).2]; rfl
theorem c_r04_Number (m : Nat) (hm : m <= 5) (a : List Rt) (ha : ∀ r ∈ a, r.ok) (hl : a.length <= 281474976710656) : FnC Tryz.prog 77 [i64 m, nR a] (i64 (numE m a)) := by
  refine gF0 Tryz.func77 ?_
  refine gl ?_
  refine gc (c_r04_power a.length hl) ?_
  refine gl ?_
  refine gC (fun ht26 => ?_) (fun ht26 => ?_)
  · have h1 : a ≠ [] /\ (lvl a.length < 0 \/ (m : Int) < lvl a.length) := (numE_ref hm a).2 (num_yes ht26)
    refine gE1 ?_
    unfold numE; rw [if_pos h1]; rfl
  · have hn : ¬ (a ≠ [] /\ (lvl a.length < 0 \/ (m : Int) < lvl a.length)) := fun h => num_no ht26 ((numE_ref hm a).1 h)
    refine gl ?_
    refine gL1 [27,28] [] (fun (i : Nat) => [(29,some (i64 i))]) (fun _ => []) (fun i => i <= a.length /\ (a.take i).all Rt.valid = true) (fun i => a.length - i) 0 ⟨Nat.zero_le _,by simp⟩ ?_
    rintro i ⟨hi,hv⟩ K1 hK1
    refine gC (fun ht30 => ?_) (fun ht30 => ?_)
    · have hin : i < a.length := by simpa [icmp] using ht30
      obtain ⟨r,hr⟩ := getx hin
      have hrok := ha r (List.mem_of_getElem? hr)
      refine gi (getmap hr) ?_
      refine gc (c_r02_Valid r hrok) ?_
      refine gC (fun ht35 => ?_) (fun ht35 => ?_)
      · have hrv : r.valid = false := by simpa using ht35
        refine gE1 ?_
        unfold numE
        rw [if_neg hn,if_neg]
        · rfl
        · rw [List.all_eq_true]
          intro h
          rw [h r (List.mem_of_getElem? hr)] at hrv; cases hrv
      · have hrv : r.valid = true := by simpa using ht35
        refine ga (i64_add1 (by unfold maxL; omega)) ?_
        exact gK1 hK1 (i + 1) ⟨by omega,by rw [take_succ_get hr,List.all_append,hv]; simp [hrv]⟩
    · have hin : i = a.length := by have : a.length <= i := by simpa [icmp] using ht30
                                    omega
      subst hin
      rw [List.take_length] at hv
      refine gE1 ?_
      unfold numE; rw [if_neg hn,if_pos hv]; rfl
theorem c_r04_plain (a : List Rat) (hl : a.length <= 281474976710656) : FnC Tryz.prog 162 [nA a] (bl (zeroL a)) := by
  refine gF0 Tryz.func162 ?_
  refine gl ?_
  refine gL1 [5,6] [] (fun (i : Nat) => [(7,some (i64 i))]) (fun _ => []) (fun i => i <= a.length /\ zeroL (a.take i) = true) (fun i => a.length - i) 0 ⟨Nat.zero_le _,by simp [zeroL]⟩ ?_
  rintro i ⟨hi,hv⟩ K1 hK1
  refine gC (fun ht8 => ?_) (fun ht8 => ?_)
  · have hin : i < a.length := by simpa [icmp] using ht8
    obtain ⟨q,hq⟩ := getx hin
    refine gi (getmap hq) ?_
    refine glG ?_
    refine glG ?_
    refine gC (fun ht24 => ?_) (fun ht24 => ?_)
    · have h0 : q ≠ 0 := plain_no ht24
      refine gE1 ?_
      have : zeroL a = false := by
        rw [Bool.eq_false_iff]
        intro h
        exact h0 (by simpa using List.all_eq_true.1 h q (List.mem_of_getElem? hq))
      rw [this]; rfl
    · have h0 : q = 0 := plain_yes ht24
      refine ga (i64_add1 (by unfold maxL; omega)) ?_
      exact gK1 hK1 (i + 1) ⟨by omega,by rw [take_succ_get hq]; simp only [zeroL,List.all_append,Bool.and_eq_true]; exact ⟨hv,by simp [h0]⟩⟩
  · have hin : i = a.length := by have : a.length <= i := by simpa [icmp] using ht8
                                  omega
    subst hin
    rw [List.take_length] at hv
    refine gE1 ?_
    rw [hv]; rfl
theorem c_r04_Short {n : Nat} (a : List Rat) (hn : n <= 5) (ha : Nl n a) : FnC Tryz.prog 101 [nA a] (nA (sh n (dec n a))) := by
 have hl := ha.len5 hn
 rw [<- shortL_sh ha hn]
 refine gF0 Tryz.func101 ?_
 refine gl ?_
 refine gc (c_r04_power a.length (by omega)) ?_
 refine gC (fun ht13 => ?_) (fun ht13 => ?_)
 ·have h0 : a = [] := by
   rcases ha with h | ⟨j,hj,h⟩
   ·exact h
   ·have h9 := ht13
    rw [h,(pw_of (by omega)).2] at h9; cases h9
  refine gs (s_buildMs0 T37 rfl T31 rfl rfl rfl) ?_
  refine gs (s_appendF (.tmp rfl) rfl rfl (.tmp rfl) T37 rfl T31 rfl rfl (by simp [h0]) rfl rfl) ?_
  refine gE1 ?_
  subst h0; rfl
 ·refine gl ?_
  refine gL1 [0] [] (fun (m : Nat) => [(5,some (i64 m))]) (fun _ => []) (fun m => ShOk a m) (fun m => m) a.length (sh_init (ha.mono hn)) ?_
  rintro m hm K1 hK1
  refine gs (s_guard rfl rfl rfl (fun h => s_quoW (.opt rfl (o1 h)) (.const _) (by omega) (i64_half (by have := hm.le; omega)) rfl)) ?_
  refine gs (s_guard rfl rfl rfl (fun h => s_sliceLst (.opt rfl (o1 h)) (.some _ (.opt rfl (o1 h)) (by omega)) (.some _ (.opt rfl (o1 h)) (by omega)) T37 rfl T31 rfl (by omega) (by have := hm.le; simp; omega) rfl)) ?_
  refine gcG (fun _ => (by have h9 := c_r04_plain ((a.drop (m / 2)).take (m - m / 2)) (by simp; omega); rw [<- nA_cut] at h9; exact h9)) ?_
  refine gC (fun ht28 => ?_) (fun ht28 => ?_)
  ·have h1 : 1 < m /\ zeroL ((a.drop (m / 2)).take (m - m / 2)) = true := by
    have h9 := ht28
    by_cases h : (m : Int) > 1
    ·simp only [icmp,decide_eq_true h,cond_true] at h9; exact ⟨by omega,h9⟩
    ·simp only [icmp,decide_eq_false h,cond_false] at h9; cases h9
   refine gs (s_quoW (.tmp rfl) (.const _) (by omega) (i64_half (by have := hm.le; omega)) rfl) ?_
   exact gK1 hK1 (m / 2) (sh_step hm h1.1 h1.2)
  ·have h1 : 1 < m -> zeroL ((a.drop (m / 2)).take (m - m / 2)) = false := by
    intro h
    have h9 := ht28
    simp only [icmp,decide_eq_true (show (m : Int) > 1 by omega),cond_true] at h9
    exact h9
   refine gs (s_guard rfl rfl rfl (fun h => s_sliceLst (.opt rfl (o1 h)) (.none _) (.some _ (.const _) (by omega)) T37 rfl T31 rfl (by omega) (by have h8 : (m : Int) = 1 := (by simpa [icmp] using h); have := hm.le; simp only [List.length_map]; omega) rfl)) ?_
   refine gcG (fun _ => (by have h9 := c_r04_plain ((a.drop 0).take 1) (by simp; omega); rw [<- nA_cut] at h9; exact h9)) ?_
   refine gC (fun ht37 => ?_) (fun ht37 => ?_)
   ·have h2 : m = 1 /\ zeroL (a.take 1) = true := by
     have h9 := ht37
     by_cases h : m = 1
     ·rw [h] at h9; exact ⟨h,h9⟩
     ·rw [show icmp .eql (m : Int) 1 = false by simp [icmp]; omega] at h9; cases h9
    obtain ⟨rfl,h3⟩ := h2
    refine gR ?_
    exact fin_sub1 (by rw [sh_end1 hm h3]; exact Sub.nil _ _ _)
   ·have h2 : m = 1 -> zeroL (a.take 1) = false := by
     intro h
     have h9 := ht37
     rw [h] at h9; exact h9
    have h3 := sh_end2 hm h1 h2
    refine gs (s_buildMs0 T37 rfl T31 rfl rfl rfl) ?_
    refine gs (s_sliceLst (.tmp rfl) (.none _) (.some _ (.tmp rfl) (by omega)) T37 rfl T31 rfl (by omega) (by have := hm.le; simp; omega) rfl) ?_
    refine gs (s_appendF (.tmp rfl) rfl rfl (.tmp rfl) T37 rfl T31 rfl rfl (by simp only [List.length_take,List.length_drop,List.length_map]; omega) rfl rfl) ?_
    refine gE1 ?_
    rw [h3]
    simp [nA,resT,List.map_take]
theorem c_r04_wideO (d : Nat) (hd : Nat.blt d 1000 = true) (a : List Rat) (n : Nat) (hl : a.length <= n) (hn : n <= 1099511627776) :
  Con Tryz.prog 80 [nA a,i64 n] [] (.ms d 3 0 n) [(d,some (.row 3 ((wideL a n).map qA)))] := by
 refine gF Tryz.func80 (fun k z h => by cases h) ?_
 refine gs (s_buildMs0 T37 rfl T31 rfl rfl rfl) ?_
 refine gs (s_append (.tmp rfl) rfl rfl (.tmp rfl) T37 rfl T31 rfl rfl (by simp only [List.length_map]; omega) rfl rfl) ?_
 refine gW (Wk.of (sl := [(1,some (i64 n)),(5,some (.ms 8 3 0 a.length))]) (hp := [(8,some (.row 3 ((wideL a a.length).map qA)))]) (.k (.cons rfl (Sub.of (by simp)) .nil)) (.cons rfl (BlkSub.of (by simp [wideL])) .nil)) ?_ (99999,0)
 refine gW (Wk.rekey (k := 8) (d := 900) rfl rfl) ?_
 refine gL1 [1] [] (fun (i : Nat) => [(5,some (.ms 900 3 0 i))]) (fun i => [(900,some (.row 3 ((wideL a i).map qA)))]) (fun i => a.length <= i /\ i <= n) (fun i => n - i) a.length ⟨Nat.le_refl _,hl⟩ ?_
 rintro i ⟨hi,hin⟩ K1 hK1
 refine gC (fun ht12 => ?_) (fun ht12 => ?_)
 ·have h1 : i < n := by have := ht12; simp only [icmp, decide_eq_true_eq] at this; omega
  refine gs (s_append (.tmp rfl) rfl (by rw [List.length_map,len_wide hi]) (.tmp rfl) T37 rfl T31 rfl rfl (by simp; omega) rfl rfl) ?_
  exact gK1 hK1 (i + 1) ⟨by omega,h1⟩ (hw := (Wk.of (sl := [(1,some (i64 n)),(5,some (.ms 16 3 0 (i + 1)))]) (hp := [(16,some (.row 3 ((wideL a (i + 1)).map qA)))]) (by repeat (first | exact SlW.nil | refine SlW.k ?_)) (.cons rfl (wide_app a i hi) .nil)).trans <| (Wk.rekey (k := 16) (d := 900) rfl rfl).trans <| Wk.o)
 ·have h1 : i = n := by have := ht12; simp only [icmp, decide_eq_false_iff_not] at this; omega
  subst h1
  refine gR ?_
  exact Fin.own1 rfl hd rfl
theorem c_r04_wide (a : List Rat) (n : Nat) (hl : a.length <= n) (hn : n <= 1099511627776) : FnC Tryz.prog 80 [nA a, i64 n] (nA (wideL a n)) := by
 have h := Con.freeze (by rw [List.length_map,len_wide hl]; omega) (c_r04_wideO 0 rfl a n hl hn)
 rw [List.drop_zero,List.take_of_length_le (by rw [List.length_map,len_wide hl]; exact Nat.le_refl _)] at h
 exact h
theorem c_r04_plus (a b : List Rat) (ha : ∀ q ∈ a, Qs q) (hb : ∀ q ∈ b, Qs q) (la : a.length <= 1099511627776) (lb : b.length <= 1099511627776) : FnC Tryz.prog 99 [nA a, nA b] (nA (plusL a b)) := by
  obtain ⟨n,hn⟩ : ∃ n,n = max a.length b.length := ⟨_,rfl⟩
  have hwa := len_wide (show a.length <= n by omega)
  have hwb := len_wide (show b.length <= n by omega)
  have hp := len_plus (a := a) (b := b)
  rw [<- hn] at hp
  have qa : ∀ q ∈ wideL a n,Qs q := fun q hq => by rcases List.mem_append.1 hq with h | h; exact ha q h; (rw [(List.mem_replicate.1 h).2]; exact Qs.zero)
  have qb : ∀ q ∈ wideL b n,Qs q := fun q hq => by rcases List.mem_append.1 hq with h | h; exact hb q h; (rw [(List.mem_replicate.1 h).2]; exact Qs.zero)
  refine gF0 Tryz.func99 ?_
  refine gl ?_
  refine gl ?_
  refine gs (s_max (.tmp rfl) (.tmp rfl) rfl) ?_ (2,0)
  refine gW (Wk.of (sl := [(0,some (nA a)),(1,some (nA b)),(5,some (i64 n))]) (hp := []) (.cons rfl (.refl _) (.cons rfl (.refl _) (.cons rfl (Sub.int (by omega)) .nil))) .nil) ?_
  refine go ?_
  refine gt (s_callH (c_r04_wideO 900 rfl a n (by omega) (by omega)) (.cons (.tmp rfl) (.cons (.tmp rfl) .nil)) (by first | exact hH0 | exact hH1 rfl | exact hH2 rfl rfl) rfl rfl) ?_
  refine gc (c_r04_wide b n (by omega) (by omega)) ?_
  refine gL1 [1,19] [] (fun (i : Nat) => [(0,some (.ms 900 3 0 n)),(20,some (i64 i))]) (fun i => [(900,some (.row 3 (((plusL a b).take i ++ (wideL a n).drop i).map qA)))]) (fun i => i <= n) (fun i => n - i) 0 (Nat.zero_le _) ?_
  rintro i hi K1 hK1
  refine gC (fun ht21 => ?_) (fun ht21 => ?_) (st2 := (8,0))
  · have hin : i < n := by simpa [icmp] using ht21
    have hmx := mix_get (p := plusL a b) (w := wideL a n) (i := i) (by omega) (by omega)
    have hqa := (qa _ (getD_mem (i := i) (by omega))).ok
    have hqb := (qb _ (getD_mem (i := i) (by omega))).ok
    refine gs (s_idxMs0 (n := i) (.tmp rfl) (.tmp rfl) T37 rfl T31 rfl (by omega) (by omega) rfl) ?_
    refine gs (s_loadEptr (.tmp rfl) rfl (getmap hmx) T31 rfl rfl rfl) ?_
    refine gi (getmap (getD_some (i := i) (l := wideL b n) (by omega))) ?_
    refine gc (c_r02_Add (rt ((wideL a n).getD i 0)) (rt ((wideL b n).getD i 0)) hqa hqb) ?_
    refine gs (s_idxMs0 (n := i) (.tmp rfl) (.tmp rfl) T37 rfl T31 rfl (by omega) (by omega) rfl) ?_
    refine gs (s_stElem (.tmp rfl) rfl (getmap hmx) rfl (.tmp rfl) rfl rfl T31 rfl rfl) ?_
    refine gD ?_ (7,0)
    refine gW (Wk.of (sl := [(0,some (.ms 900 3 0 n)),(1,some (nA (wideL b n))),(19,some (i64 n)),(20,some (i64 i))]) (hp := [(900,some (.row 3 (((plusL a b).take (i + 1) ++ (wideL a n).drop (i + 1)).map qA)))]) (by repeat (first | exact SlW.nil | refine SlW.k ?_)) (.cons rfl (BlkSub.of (by rw [set_step (by omega) (by omega) (by rw [plus_get,<- hn,rt_q,rt_q])])) .nil)) ?_
    refine ga (i64_add1 (by unfold maxL; omega)) ?_
    exact gK1 hK1 (i + 1) hin
  · have hin : i = n := by have : n <= i := by simpa [icmp] using ht21
                           omega
    refine gW ((Wk.freeze (k := 900) rfl).trans <| Wk.of (sl := [(0,some (nA (plusL a b)))]) (hp := []) (.cons rfl (Sub.of (by rw [fz_all (by simp; omega),hin,List.drop_of_length_le (by omega),List.take_of_length_le (by omega),List.append_nil]; rfl)) .nil) .nil) ?_
    refine gE1 ?_
    rfl
theorem c_r04_less (a : List Rat) (ha : ∀ q ∈ a, Qs q) (hl : a.length <= 1099511627776) : FnC Tryz.prog 100 [nA a] (nA (minusL a)) := by
  refine gF0 Tryz.func100 ?_
  refine gl ?_
  refine gW (Wk.virt 900 3 rfl) ?_
  refine gL1 [6,7] [] (fun (i : Nat) => [(3,some (.ms 900 3 0 i)),(8,some (i64 i))]) (fun i => [(900,some (.row 3 ((minusL (a.take i)).map qA)))]) (fun i => i <= a.length) (fun i => a.length - i) 0 (Nat.zero_le _) ?_
  rintro i hi K1 hK1
  refine gC (fun ht9 => ?_) (fun ht9 => ?_) (st2 := (7,0))
  · have hin : i < a.length := by simpa [icmp] using ht9
    obtain ⟨q,hq⟩ := getx hin
    have hqs := (ha q (List.mem_of_getElem? hq)).ok
    refine gi (getmap hq) ?_
    refine gc (c_r02_Neg (rt q) hqs) ?_
    refine gs (s_append (.tmp rfl) rfl (by simp [minusL]; omega) (.tmp rfl) T37 rfl T31 rfl rfl (by simp; omega) rfl rfl) ?_ (6,0)
    refine gW (Wk.of (sl := [(3,some (.ms 16 3 0 (i + 1))),(6,some (nA a)),(7,some (i64 a.length)),(8,some (i64 i))]) (hp := [(16,some (.row 3 ((minusL (a.take (i + 1))).map qA)))]) (by repeat (first | exact SlW.nil | refine SlW.k ?_)) (.cons rfl (BlkSub.of (by rw [take_succ_get hq]; simp only [minusL,List.map_append,rt_q]; rfl)) .nil)) ?_ (6,0)
    refine gW (Wk.rekey (k := 16) (d := 900) rfl rfl) ?_
    refine ga (i64_add1 (by unfold maxL; omega)) ?_
    exact gK1 hK1 (i + 1) hin
  · have hin : i = a.length := by have : a.length <= i := by simpa [icmp] using ht9
                                  omega
    subst hin
    refine gW ((Wk.freeze (k := 900) rfl).trans <| Wk.of (sl := [(3,some (nA (minusL a)))]) (hp := []) (.cons rfl (Sub.of (by rw [fz_all (by simp [minusL]),List.take_length]; rfl)) .nil) .nil) ?_
    refine gE1 ?_
    rfl
end Go.Lw
namespace Go.Lw
open Go.Proofs
theorem c_r04_times (ts : List (List Rat)) (m r : Nat) (ht : TsOk ts m r) (hm : m <= 5) (R : List AV) (hR : ∀ j, j < m -> R[j]? = some (nA (ts.getD j []))) (k : Nat) : ∀ (j : Nat) (a b : List Rat) (e f : Nat), j <= m -> j <= k -> Nl j a -> Nl j b -> Cb e a -> Cb f b -> e + f + eB r j < 4398046511104 ->
  FnC Tryz.prog 102 [.agg [.lst 1 R],nA a,nA b] (nA (rT ts k a b)) := by
 induction k using Nat.strongRecOn
 rename_i k ih
 intro j a b e f hj hjk ha hb ca cb hs
 obtain ⟨nx,dx⟩ := short_nl ha (by omega)
 obtain ⟨ny,dy⟩ := short_nl hb (by omega)
 have cx : Cb e (shortL 5 a) := ca.sub (fun q hq => mem_shortL 5 hq)
 have cy : Cb f (shortL 5 b) := cb.sub (fun q hq => mem_shortL 5 hq)
 have k1 := c_r04_Short a (by omega) ha
 have k2 := c_r04_Short b (by omega) hb
 rw [<- shortL_sh ha (by omega)] at k1
 rw [<- shortL_sh hb (by omega)] at k2
 obtain ⟨x,hx⟩ : ∃ x,x = shortL 5 a := ⟨_,rfl⟩
 obtain ⟨y,hy⟩ : ∃ y,y = shortL 5 b := ⟨_,rfl⟩
 rw [<- hx] at k1 nx dx cx
 rw [<- hy] at k2 ny dy cy
 have hlx := nx.len5 (by omega)
 have hly := ny.len5 (by omega)
 obtain ⟨n,hn⟩ : ∃ n,n = max x.length y.length := ⟨_,rfl⟩
 refine gF0 Tryz.func102 ?_
 refine gc k1 ?_
 refine gc k2 ?_
 refine gl ?_
 refine gl ?_
 refine gs (s_max (.tmp rfl) (.tmp rfl) rfl) ?_ (3,0)
 refine gW (Wk.of (sl := [(1,some (nA x)),(2,some (nA y)),(3,some (.ptr 3 0)),(7,some (i64 n))]) (hp := [(3,some (.box [.lst 1 R]))]) (.k (.k (.k (.cons rfl (Sub.int (by omega)) .nil)))) (.cons rfl (.refl _) .nil)) ?_
 refine gl ?_
 refine glG ?_
 refine gC (fun ht32 => ?_) (fun ht32 => ?_)
 ·have h0 : x.length = 0 \/ y.length = 0 := by have := pick_or ht32; omega
  refine gR ?_
  exact fin_sub1 (by rw [rT_zero (by rw [<- hx,<- hy]; exact h0)]; exact Sub.nil _ _ _)
 ·have h0 : ¬ (x.length = 0 \/ y.length = 0) := by have := pick_nor ht32; omega
  refine gC (fun ht34 => ?_) (fun ht34 => ?_)
  ·have h1 : max x.length y.length = 1 := by have := ht34; simp only [icmp, beq_iff_eq] at this; omega
   have e1 := rT_one (ts := ts) (k := k) (a := a) (b := b) (by rw [<- hx,<- hy]; exact h0) (by rw [<- hx,<- hy]; exact h1)
   rw [<- hx,<- hy] at e1
   clear hx hy
   have lx1 : x.length = 1:=by omega
   have ly1 : y.length = 1:=by omega
   clear hn
   obtain ⟨p,rfl⟩ : ∃ p,x = [p] := List.length_eq_one_iff.1 lx1
   obtain ⟨q,rfl⟩ : ∃ q,y = [q] := List.length_eq_one_iff.1 ly1
   refine gi rfl ?_
   refine gi rfl ?_
   refine gc (c_r02_Mul (rt p) (rt q) (cx.qs (by omega) (by simp : p ∈ [p])).ok (cy.qs (by omega) (by simp : q ∈ [q])).ok) ?_
   refine gD ?_
   refine gE1 ?_
   rw [e1,rt_q,rt_q]; rfl
  ·have h1 : n ≠ 1 := by have := ht34; simp only [icmp, beq_eq_false_iff_ne, ne_eq] at this; omega
   obtain ⟨i,hij,hmax⟩ := (max_nl nx ny h0).resolve_left (by omega)
   obtain ⟨k',rfl⟩ : ∃ k',k = k' + 1 := ⟨k - 1,by omega⟩
   have hp2 := Nat.two_pow_pos i
   have hpi : 2 ^ i <= 32 := pow_le2 (b := 5) (by omega)
   have hps : 2 ^ (i + 1) = 2 * 2 ^ i:=by rw [Nat.pow_succ]; omega
   have hnn : n = 2 ^ (i + 1):=by omega
   have hes : eB r (i + 1) <= eB r j := eB_lev r hij
   have hee : eB r (i + 1) = 2 * eB r i + r + 2 := rfl
   have lx : (wideL x (2 ^ (i + 1))).length = 2 ^ (i + 1) := len_wide (by omega)
   have ly : (wideL y (2 ^ (i + 1))).length = 2 ^ (i + 1) := len_wide (by omega)
   obtain ⟨X,hX⟩ : ∃ X,X = wideL x (2 ^ (i + 1)) := ⟨_,rfl⟩
   obtain ⟨Y,hY⟩ : ∃ Y,Y = wideL y (2 ^ (i + 1)) := ⟨_,rfl⟩
   have cX : Cb e X:=by rw [hX]; exact cx.wide
   have cY : Cb f Y:=by rw [hY]; exact cy.wide
   rw [<- hX] at lx
   rw [<- hY] at ly
   have n1 : Nl i (X.take (2 ^ i)) := .inr ⟨i,Nat.le_refl _,nl_take lx⟩
   have n2 : Nl i (X.drop (2 ^ i)) := .inr ⟨i,Nat.le_refl _,nl_drop lx⟩
   have n3 : Nl i (Y.take (2 ^ i)) := .inr ⟨i,Nat.le_refl _,nl_take ly⟩
   have n4 : Nl i (Y.drop (2 ^ i)) := .inr ⟨i,Nat.le_refl _,nl_drop ly⟩
   have nd := ht.1 i (by omega)
   have cd := ht.2.cb i
   have s1 := rT_spec hm ht (k := k') (show i <= m by omega) (by omega) n1 n3 cX.take cY.take
   have s2 := rT_spec hm ht (k := k') (show i <= m by omega) (by omega) n2 n4 cX.drop cY.drop
   have s3 := rT_spec hm ht (k := k') (show i <= m by omega) (by omega) s2.1 nd s2.2.2 cd
   have s4 := rT_spec hm ht (k := k') (show i <= m by omega) (by omega) n1 n4 cX.take cY.drop
   have s5 := rT_spec hm ht (k := k') (show i <= m by omega) (by omega) n2 n3 cX.drop cY.take
   have hrt := rT_step (ts := ts) (k := k') (a := a) (b := b) rfl (by rw [<- hx,<- hy]; exact h0) (by rw [<- hx,<- hy]; exact hmax)
   rw [<- hx,<- hy,<- hX,<- hY] at hrt
   have w1 := c_r04_wide x n (by omega) (by omega)
   have w2 := c_r04_wide y n (by omega) (by omega)
   rw [hnn,<- hX] at w1
   rw [hnn,<- hY] at w2
   rw [<- hnn] at w1 w2
   have pw := c_r04_power n (by omega)
   rw [show pwk n = i + 1 by rw [hnn]; exact (pw_of (by omega)).1,show pwb n = true by rw [hnn]; exact (pw_of (by omega)).2] at pw
   refine gc w1 ?_
   refine gc w2 ?_
   refine gc pw ?_
   refine gs (s_quoW (.tmp rfl) (.const _) (by omega) (show _ = ((2 ^ i : Nat) : Int) by rw [i64_half (by omega),hnn,half_pow]) rfl) ?_
   refine gs (s_sliceLst (.tmp rfl) (.none _) (.some _ (.tmp rfl) (by omega)) T37 rfl T31 rfl (by omega) (by simp only [List.length_map]; omega) rfl) ?_
   refine gs (s_quoW (.tmp rfl) (.const _) (by omega) (show _ = ((2 ^ i : Nat) : Int) by rw [i64_half (by omega),hnn,half_pow]) rfl) ?_
   refine gs (s_sliceLst (.tmp rfl) (.some _ (.tmp rfl) (by omega)) (.none _) T37 rfl T31 rfl (by simp only [List.length_map]; omega) (by omega) rfl) ?_
   refine gs (s_quoW (.tmp rfl) (.const _) (by omega) (show _ = ((2 ^ i : Nat) : Int) by rw [i64_half (by omega),hnn,half_pow]) rfl) ?_
   refine gs (s_sliceLst (.tmp rfl) (.none _) (.some _ (.tmp rfl) (by omega)) T37 rfl T31 rfl (by omega) (by simp only [List.length_map]; omega) rfl) ?_
   refine gs (s_quoW (.tmp rfl) (.const _) (by omega) (show _ = ((2 ^ i : Nat) : Int) by rw [i64_half (by omega),hnn,half_pow]) rfl) ?_
   refine gs (s_sliceLst (.tmp rfl) (.some _ (.tmp rfl) (by omega)) (.none _) T37 rfl T31 rfl (by simp only [List.length_map]; omega) (by omega) rfl) ?_
   refine gD ?_ (10,0)
   refine gW (Wk.of (sl := [(3,some (.ptr 3 0)),(7,some (i64 n)),(8,some (i64 ((i + 1 : Nat) : Int))),(10,some (nA (X.take (2 ^ i)))),(11,some (nA (X.drop (2 ^ i)))),(12,some (nA (Y.take (2 ^ i)))),(13,some (nA (Y.drop (2 ^ i))))]) (hp := [(3,some (.box [.lst 1 R]))]) (.k (.k (.k (.cons rfl (Sub.of (cut_low X (2 ^ i))) (.cons rfl (Sub.of (cut_high X (2 ^ i))) (.cons rfl (Sub.of (cut_low Y (2 ^ i))) (.cons rfl (Sub.of (cut_high Y (2 ^ i))) .nil))))))) (.cons rfl (.refl _) .nil)) ?_
   refine gc (ih k' (by omega) i _ _ e f (by omega) (by omega) n1 n3 cX.take cY.take (by omega)) ?_
   refine gc (ih k' (by omega) i _ _ e f (by omega) (by omega) n2 n4 cX.drop cY.drop (by omega)) ?_
   refine ga (show _ = (i : Int) by rw [i64_subI (by omega)]; omega) ?_
   refine gi (hR i (by omega)) ?_
   refine gc (ih k' (by omega) i _ _ _ _ (by omega) (by omega) s2.1 nd s2.2.2 cd (by omega)) ?_
   refine gc (c_r04_plus _ _ (fun q hq => s1.2.2.qs (by omega) hq) (fun q hq => s3.2.2.qs (by omega) hq) (by have := s1.1.le; omega) (by have := s3.1.le; omega)) ?_
   refine gD ?_
   refine gc (ih k' (by omega) i _ _ e f (by omega) (by omega) n1 n4 cX.take cY.drop (by omega)) ?_
   refine gc (ih k' (by omega) i _ _ e f (by omega) (by omega) n2 n3 cX.drop cY.take (by omega)) ?_
   refine gc (c_r04_plus _ _ (fun q hq => s4.2.2.qs (by omega) hq) (fun q hq => s5.2.2.qs (by omega) hq) (by have := s4.1.le; omega) (by have := s5.1.le; omega)) ?_
   refine gD ?_
   refine gs (s_quoW (.tmp rfl) (.const _) (by omega) (show _ = ((2 ^ i : Nat) : Int) by rw [i64_half (by omega),hnn,half_pow]) rfl) ?_
   refine gt (s_callH (c_r04_wideO 900 rfl _ (2 ^ i) (by have := s1.1.le; have := s3.1.le; rw [len_plus]; omega) (by omega)) (.cons (.tmp rfl) (.cons (.tmp rfl) .nil)) (by first | exact hH0 | exact hH1 rfl | exact hH2 rfl rfl) rfl rfl) ?_
   refine gs (s_quoW (.tmp rfl) (.const _) (by omega) (show _ = ((2 ^ i : Nat) : Int) by rw [i64_half (by omega),hnn,half_pow]) rfl) ?_
   refine gc (c_r04_wide _ (2 ^ i) (by have := s4.1.le; have := s5.1.le; rw [len_plus]; omega) (by omega)) ?_
   refine gs (s_appendF (.tmp rfl) rfl (by have := s1.1.le; have := s3.1.le; rw [List.length_map,len_wide (by rw [len_plus]; omega)]) (.tmp rfl) T37 rfl T31 rfl rfl (by have := s4.1.le; have := s5.1.le; rw [List.length_map,len_wide (by rw [len_plus]; omega)]; show (2 ^ i + 2 ^ i) * 56 <= 140737488355328; omega) rfl rfl) ?_
   refine gE1 ?_
   rw [hrt,<- List.map_append]; rfl
theorem c_r04_norm (ts : List (List Rat)) (m r : Nat) (ht : TsOk ts m r) (hm : m <= 5) (R : List AV) (hR : ∀ j, j < m -> R[j]? = some (nA (ts.getD j []))) (i n : Nat) (a : List Rat) (e : Nat) (hi : i + 1 <= m) (hnn : n = 2 ^ (i + 1)) (hal : a.length = 2 ^ (i + 1)) (ca : Cb e a) (hs : 4 * e + 3 * eB r i + r + 1 < 4398046511104) :
  FnC Tryz.prog 144 [.agg [.lst 1 R],nA a,i64 n] (nA (rnormL ts i a)) := by
 have hp2 := Nat.two_pow_pos i
 have hpi : 2 ^ i <= 32 := pow_le2 (b := 5) (by omega)
 have hps : 2 ^ (i + 1) = 2 * 2 ^ i:=by rw [Nat.pow_succ]; omega
 have n1 : Nl i (a.take (2 ^ i)) := .inr ⟨i,Nat.le_refl _,nl_take hal⟩
 have n2 : Nl i (a.drop (2 ^ i)) := .inr ⟨i,Nat.le_refl _,nl_drop hal⟩
 have nd := ht.1 i (by omega)
 have cd := ht.2.cb i
 have s1 := rT_spec hm ht (k := i) (show i <= m by omega) (by omega) n1 n1 ca.take ca.take
 have s2 := rT_spec hm ht (k := i) (show i <= m by omega) (by omega) n2 n2 ca.drop ca.drop
 have s3 := rT_spec hm ht (k := i) (show i <= m by omega) (by omega) s2.1 nd s2.2.2 cd
 have w1 := c_r04_wide a n (by omega) (by omega)
 rw [show wideL a n = a by unfold wideL; rw [hnn,hal]; simp] at w1
 have pw := c_r04_power n (by omega)
 rw [show pwk n = i + 1 by rw [hnn]; exact (pw_of (by omega)).1,show pwb n = true by rw [hnn]; exact (pw_of (by omega)).2] at pw
 refine gF0 Tryz.func144 ?_
 refine gc w1 ?_
 refine gc pw ?_
 refine gs (s_quoW (.tmp rfl) (.const _) (by omega) (show _ = ((2 ^ i : Nat) : Int) by rw [i64_half (by omega),hnn,half_pow]) rfl) ?_
 refine gs (s_sliceLst (.tmp rfl) (.none _) (.some _ (.tmp rfl) (by omega)) T37 rfl T31 rfl (by omega) (by simp only [List.length_map]; omega) rfl) ?_
 refine gs (s_quoW (.tmp rfl) (.const _) (by omega) (show _ = ((2 ^ i : Nat) : Int) by rw [i64_half (by omega),hnn,half_pow]) rfl) ?_
 refine gs (s_sliceLst (.tmp rfl) (.some _ (.tmp rfl) (by omega)) (.none _) T37 rfl T31 rfl (by simp only [List.length_map]; omega) (by omega) rfl) ?_
 refine gD ?_ (4,0)
 refine gW (Wk.of (sl := [(3,some (.ptr 3 0)),(7,some (i64 ((i + 1 : Nat) : Int))),(9,some (nA (a.take (2 ^ i)))),(10,some (nA (a.drop (2 ^ i))))]) (hp := [(3,some (.box [.lst 1 R]))]) (.k (.k (.cons rfl (Sub.of (cut_low a (2 ^ i))) (.cons rfl (Sub.of (cut_high a (2 ^ i))) .nil)))) (.cons rfl (.refl _) .nil)) ?_
 refine gc (c_r04_times ts m r ht hm R hR i i _ _ e e (by omega) (by omega) n1 n1 ca.take ca.take (by omega)) ?_
 refine gc (c_r04_times ts m r ht hm R hR i i _ _ e e (by omega) (by omega) n2 n2 ca.drop ca.drop (by omega)) ?_
 refine ga (show _ = (i : Int) by rw [i64_subI (by omega)]; omega) ?_
 refine gi (hR i (by omega)) ?_
 refine gc (c_r04_times ts m r ht hm R hR i i _ _ _ _ (by omega) (by omega) s2.1 nd s2.2.2 cd (by omega)) ?_
 refine gc (c_r04_less _ (fun q hq => s3.2.2.qs (by omega) hq) (by have := s3.1.le; omega)) ?_
 refine gc (c_r04_plus _ _ (fun q hq => s1.2.2.qs (by omega) hq) (fun q hq => s3.2.2.minus.qs (by omega) hq) (by have := s1.1.le; omega) (by have := s3.1.le; rw [len_minus]; omega)) ?_
 refine gD ?_
 refine gE1 ?_
 rfl
theorem c_r04_sign (ts : List (List Rat)) (m r : Nat) (ht : TsOk ts m r) (hm : m <= 5) (hpos : ∀ j, j < m -> 0 <= T.sgn (rtsOf ts) j (rtsOf ts j)) (R : List AV) (hR : ∀ j, j < m -> R[j]? = some (nA (ts.getD j []))) (j : Nat) : ∀ (a : List Rat) (e : Nat), j <= m -> Nl j a -> Cb e a -> sB r j e < 4398046511104 ->
  FnC Tryz.prog 78 [.agg [.lst 1 R],nA a] (i64 (T.sgn (rtsOf ts) j (dec j a))) := by
 induction j using Nat.strongRecOn
 rename_i j ih
 intro a e hj ha ca hs
 have hse := sB_le r j e
 obtain ⟨s,hsa⟩ : ∃ s,s = sh j (dec j a) := ⟨_,rfl⟩
 have hsd : dec j s = dec j a:=by rw [hsa,dec_sh]
 have hsn : Nl j s:=by rw [hsa]; exact sh_nl j _
 have cs : Cb e s:=by rw [hsa]; exact ca.sh ha
 have hls := hsn.len5 (by omega)
 rw [<- hsd]
 refine gF0 Tryz.func78 ?_
 refine gc (hsa ▸ c_r04_Short a (by omega) ha) ?_
 refine gl ?_
 refine gC (fun ht15 => ?_) (fun ht15 => ?_)
 ·have h1 : s = [] := List.length_eq_zero_iff.1 (by have := ht15; simp only [icmp, beq_iff_eq] at this; omega)
  refine gE1 ?_
  rw [h1,dec_nil,T.sgn_zero]; rfl
 ·have h1 : s.length ≠ 0 := by have := ht15; simp only [icmp, beq_eq_false_iff_ne, ne_eq] at this; omega
  refine gl ?_
  refine gC (fun ht19 => ?_) (fun ht19 => ?_)
  ·have h2 : s.length = 1 := by have := ht19; simp only [icmp, beq_iff_eq] at this; omega
   obtain ⟨q,rfl⟩ := List.length_eq_one_iff.1 h2
   refine gi rfl ?_
   refine gc (c_r02_Sign (rt q) (cs.qs (by omega) (by simp : q ∈ [q])).ok) ?_
   refine gE1 ?_
   rw [dec_one,T.sgn_ofQ,rt_q]
  ·have h2 : s.length ≠ 1 := by have := ht19; simp only [icmp, beq_eq_false_iff_ne, ne_eq] at this; omega
   obtain ⟨i, hij, hsl⟩ : ∃ i, i + 1 <= j /\ s.length = 2 ^ (i + 1) := by
    rcases nl_cases hsn with h | h | h
    ·exact absurd h h1
    ·exact absurd h h2
    ·exact h
   have hp2 := Nat.two_pow_pos i
   have hpi : 2 ^ i <= 32 := pow_le2 (b := 5) (by omega)
   have hps : 2 ^ (i + 1) = 2 * 2 ^ i:=by rw [Nat.pow_succ]; omega
   have n1 : Nl i (s.take (2 ^ i)) := .inr ⟨i,Nat.le_refl _,nl_take hsl⟩
   have n2 : Nl i (s.drop (2 ^ i)) := .inr ⟨i,Nat.le_refl _,nl_drop hsl⟩
   have nd := ht.1 i (by omega)
   have cd := ht.2.cb i
   obtain ⟨nn,dn,cn⟩ := rnormL_spec hm ht (by omega) hsl cs
   have b1 : sB r i (4 * e + 3 * eB r i + r + 1) <= sB r j e := sB_lev r e hij
   have b2 : sB r i e <= sB r i (4 * e + 3 * eB r i + r + 1) := sB_mono r i (by omega)
   have b3 : sB r i r <= sB r i (4 * e + 3 * eB r i + r + 1) := sB_mono r i (by omega)
   have b4 := sB_le r i (4 * e + 3 * eB r i + r + 1)
   have k1 := ih i (by omega) (s.take (2 ^ i)) e (by omega) n1 cs.take (by omega)
   have k2 := ih i (by omega) (s.drop (2 ^ i)) e (by omega) n2 cs.drop (by omega)
   have k3 := ih i (by omega) _ r (by omega) nd cd (by omega)
   have k4 := ih i (by omega) _ _ (by omega) nn cn (by omega)
   have v3 : T.sgn (rtsOf ts) i (dec i (ts.getD i [])) = 0 \/ T.sgn (rtsOf ts) i (dec i (ts.getD i [])) = 1 := by
    have h9 : 0 <= T.sgn (rtsOf ts) i (dec i (ts.getD i [])) := hpos i (by omega)
    have := T.sgn_cases (rtsOf ts) i (dec i (ts.getD i []))
    omega
   have hres : T.sgn (rtsOf ts) j (dec j s) = T.sgn3 (T.sgn (rtsOf ts) i (dec i (s.take (2 ^ i)))) (T.sgn (rtsOf ts) i (dec i (s.drop (2 ^ i)))) (T.sgn (rtsOf ts) i (dec i (ts.getD i []))) (T.sgn (rtsOf ts) i (dec i (rnormL ts i s))) := by
    rw [sgn_lev _ (by omega) hij,dn]; rfl
   rw [sgn3_ref v3] at hres
   have v1 := T.sgn_cases (rtsOf ts) i (dec i (s.take (2 ^ i)))
   have v2 := T.sgn_cases (rtsOf ts) i (dec i (s.drop (2 ^ i)))
   have v4 := T.sgn_cases (rtsOf ts) i (dec i (rnormL ts i s))
   have pw := c_r04_power s.length (by omega)
   rw [show pwk s.length = i + 1 by rw [hsl]; exact (pw_of (by omega)).1,show pwb s.length = true by rw [hsl]; exact (pw_of (by omega)).2] at pw
   refine gc pw ?_
   refine ga (show _ = (i : Int) by rw [i64_subI (by omega)]; omega) ?_
   refine gi (hR i (by omega)) ?_
   refine gs (s_quoW (.tmp rfl) (.const _) (by omega) (show _ = ((2 ^ i : Nat) : Int) by rw [i64_half (by omega),hsl,half_pow]) rfl) ?_
   refine gs (s_sliceLst (.tmp rfl) (.none _) (.some _ (.tmp rfl) (by omega)) T37 rfl T31 rfl (by omega) (by simp only [List.length_map]; omega) rfl) ?_
   refine gc (by have h9 := k1; rw [<- cut_low] at h9; exact h9) ?_
   refine gs (s_quoW (.tmp rfl) (.const _) (by omega) (show _ = ((2 ^ i : Nat) : Int) by rw [i64_half (by omega),hsl,half_pow]) rfl) ?_
   refine gs (s_sliceLst (.tmp rfl) (.some _ (.tmp rfl) (by omega)) (.none _) T37 rfl T31 rfl (by simp only [List.length_map]; omega) (by omega) rfl) ?_
   refine gc (by have h9 := k2; rw [<- cut_high] at h9; exact h9) ?_
   refine gc k3 ?_
   refine ga (mul_small v2 (.inr v3)) ?_
   refine gD ?_
   refine gC (fun ht57 => ?_) (fun ht57 => ?_)
   ·have e2 := pick_or ht57
    refine gE1 ?_
    rw [hres,if_pos e2]
   ·have e2 := pick_nor ht57
    refine gC (fun ht60 => ?_) (fun ht60 => ?_)
    ·have e3 : T.sgn (rtsOf ts) i (dec i (s.take (2 ^ i))) = 0 := by simpa [icmp] using ht60
     refine gE1 ?_
     rw [hres,if_neg e2,if_pos e3]; rfl
    ·have e3 : ¬ T.sgn (rtsOf ts) i (dec i (s.take (2 ^ i))) = 0 := by simpa [icmp] using ht60
     refine gc (c_r04_norm ts m r ht hm R hR i s.length s e (by omega) hsl hsl cs (by omega)) ?_
     refine gc k4 ?_
     refine ga (mul_small v1 v4) ?_
     refine gD ?_
     refine gE1 ?_
     rw [hres,if_neg e2,if_neg e3]; rfl
theorem c_r04_Check (rs : List (List Rt)) (r : Nat) (h : TR rs r) : FnC Tryz.prog 38 [towR rs] (i64 (chkE rs)) := by
  have hll := h.ll
  have hr := h.le
  refine gF0 Tryz.func38 ?_
  refine gl ?_
  refine gC (fun ht9 => ?_) (fun ht9 => ?_)
  · have h5 : 5 < rs.length := by have := ht9; simp only [icmp, decide_eq_true_eq] at this; omega
    refine gE1 ?_
    rw [chkE_big h5]; rfl
  · have h5 : rs.length <= 5 := by have := ht9; simp only [icmp, decide_eq_false_iff_not] at this; omega
    refine gl ?_
    refine gL1 [1,11,12] [1] (fun (k : Nat) => [(13,some (i64 k))]) (fun _ => []) (fun k => k <= rs.length /\ ∀ j,j < k -> RtOk rs j) (fun k => rs.length - k) 0 ⟨Nat.zero_le _,fun j hj => by omega⟩ ?_
    rintro k ⟨hk,hj⟩ K1 hK1
    refine gC (fun ht14 => ?_) (fun ht14 => ?_)
    · have hin : k < rs.length := by simpa [icmp] using ht14
      obtain ⟨d,hd⟩ := getx hin
      have hdm := List.mem_of_getElem? hd
      have hdl := h.len d hdm
      refine gi (getmap hd) ?_
      refine gl ?_
      refine gs (s_shlW (.const _) (.tmp rfl) (by omega) (i64_shl1 (by omega)) rfl) ?_
      refine gC (fun ht22 => ?_) (fun ht22 => ?_)
      · have h1 : d.length ≠ 2 ^ k := by have := ht22; simp only [icmp, bne_iff_ne, ne_eq] at this; omega
        refine gE1 ?_
        rw [chkE_len h5 hd hj h1]; rfl
      · have h1 : d.length = 2 ^ k := by have := ht22; simp only [icmp, bne_eq_false_iff_eq] at this; omega
        have hnu := c_r04_Number k (by omega) d (h.ok d hdm) hdl
        refine gc hnu ?_
        refine gC (fun ht27 => ?_) (fun ht27 => ?_)
        · have h2 := neq_t ht27
          refine gE1 ?_
          rw [chkE_num h5 hd hj h1 h2]
        · have h2 := neq_f ht27
          have hts := tsok_take (ts := llq rs) (fun j hjk => (hj j hjk).nl) h.rb
          have hq := numE_ok h2 (h.ok d hdm)
          have hcb : Cb r (lq d):=by have := h.rb.cb k; rw [llq_getD,List.getD_eq_getElem?_getD,hd] at this; exact this
          have hsg : FnC Tryz.prog 78 [towR rs, nR d] (i64 (T.sgn (rtsOf (llq rs)) k (dec k (lq d)))) := by
            have h9 := c_r04_sign ((llq rs).take k) k r hts (by omega) (fun j hjk => by rw [T.sgn_congr j (fun i hi => rtsOf_take (show i < k by omega)),rtsOf_take hjk]; exact (hj j hjk).2.2) (rs.map nR) (fun j hjk => root_in h.ok (show k <= rs.length by omega) hj hjk) k (lq d) r (Nat.le_refl _) hq.2 hcb (sB_tw (Nat.le_refl k) (by have := h.three; omega) hr (by have := lm_ge k; omega))
            rw [T.sgn_congr k (fun j hjk => rtsOf_take hjk)] at h9
            rw [hq.1,nR_rt]
            rw [<- hq.1]; exact h9
          refine gc hsg ?_
          refine gC (fun ht32 => ?_) (fun ht32 => ?_)
          · have h3 : T.sgn (rtsOf (llq rs)) k (dec k (lq d)) < 0 := by simpa [icmp] using ht32
            refine gE1 ?_
            rw [chkE_sgn h5 hd hj h1 h2 h3]; rfl
          · have h3 : ¬ T.sgn (rtsOf (llq rs)) k (dec k (lq d)) < 0 := by simpa [icmp] using ht32
            refine ga (i64_add1 (by unfold maxL; omega)) ?_
            exact gK1 hK1 (k + 1) ⟨hin,fun j hjk => by rcases Nat.lt_or_ge j k with h9 | h9; exact hj j h9; (have : j = k:=by omega); subst this; exact rtok_of hd h1 h2 h3⟩
    · have hin : k = rs.length := by have : rs.length <= k := by simpa [icmp] using ht14
                                     omega
      subst hin
      refine gE1 ?_
      rw [chkE_all h5 hj]; rfl
theorem c_r04_errors (rs : List (List Rt)) (r : Nat) (h : TR rs r) (xs : List (List Rt)) (hx : ∀ a ∈ xs, (∀ x ∈ a, x.ok) /\ a.length <= 281474976710656) (hl : xs.length <= 281474976710656) : FnC Tryz.prog 79 [towR rs, .lst 1 (xs.map nR)] (i64 (chksE rs xs)) := by
  refine gF0 Tryz.func79 ?_
  refine gc (c_r04_Check rs r h) ?_
  refine gC (fun ht12 => ?_) (fun ht12 => ?_)
  · have h1 := neq_t ht12
    refine gE1 ?_
    rw [chks_chk h1]
  · have h1 := neq_f ht12
    have h5 : rs.length <= 5:=by have := (chk_tw h h1).1.five; rwa [List.length_map] at this
    refine gl ?_
    refine gL1 [2,14,15] [2] (fun (i : Nat) => [(16,some (i64 i))]) (fun _ => []) (fun i => i <= xs.length /\ ∀ x ∈ xs.take i,numE rs.length x = 0) (fun i => xs.length - i) 0 ⟨Nat.zero_le _,fun x hx => by simp at hx⟩ ?_
    rintro i ⟨hi,hj⟩ K1 hK1
    refine gC (fun ht17 => ?_) (fun ht17 => ?_)
    · have hin : i < xs.length := by simpa [icmp] using ht17
      obtain ⟨a,ha⟩ := getx hin
      have hok := hx a (List.mem_of_getElem? ha)
      refine gi (getmap ha) ?_
      refine gl ?_
      refine gc (c_r04_Number rs.length h5 a hok.1 hok.2) ?_
      refine gC (fun ht26 => ?_) (fun ht26 => ?_)
      · have h2 := neq_t ht26
        refine gE1 ?_
        rw [chks_at h1 ha hj h2]
      · have h2 := neq_f ht26
        refine ga (i64_add1 (by unfold maxL; omega)) ?_
        exact gK1 hK1 (i + 1) ⟨hin,fun x hx => by rw [take_succ_get ha] at hx; rcases List.mem_append.1 hx with h9 | h9; exact hj x h9; (rw [List.mem_singleton.1 h9]; exact h2)⟩
    · have hin : i = xs.length := by have : xs.length <= i := by simpa [icmp] using ht17
                                     omega
      subst hin
      rw [List.take_length] at hj
      refine gE1 ?_
      rw [chks_of h1 hj]; rfl
theorem c_r04_Add (rs : List (List Rt)) (r : Nat) (h : TR rs r) (a b : List Rt) (e f : Nat) (ha : NR a e) (hb : NR b f) (he : e + f <= lm rs.length) :
  FnC Tryz.prog 98 [towR rs,nR a,nR b] (.tup [nA (if chksE rs [a,b] = 0 then sh rs.length (T.add rs.length (dec rs.length (lq a)) (dec rs.length (lq b))) else []),i64 (chksE rs [a,b])]) := by
 have hlm := lm_le rs.length
 refine gF0 Tryz.func98 ?_
 refine gc (c_r04_errors rs r h [a,b] (two_ok ha hb) (by simp)) ?_
 refine gC (fun ht15 => ?_) (fun ht15 => ?_) (st2 := (77777,0))
 ·have h1 := neq_t ht15
  refine gR ?_
  exact fin_sub (by rw [if_neg h1]; exact Sub.tup (.cons (.nil _ _ _) (.cons (.refl _) .nil)))
 ·have h1 := neq_f ht15
  obtain ⟨h2,h3⟩ := chks_ok h1
  obtain ⟨tw,e0⟩ := chk_tw h h2
  obtain ⟨e1,na⟩ := ha.num (h3 a (by simp))
  obtain ⟨e2,nb⟩ := hb.num (h3 b (by simp))
  have h5 : rs.length <= 5:=by have := tw.five; rwa [List.length_map] at this
  have hla := na.len5 h5
  have hlb := nb.len5 h5
  have qa : ∀ q ∈ lq a,Qs q := fun q hq => ha.cb.qs (by omega) hq
  have qb : ∀ q ∈ lq b,Qs q := fun q hq => hb.cb.qs (by omega) hq
  have qp : ∀ q ∈ plusL (lq a) (lq b),Qs q := fun q hq => (ha.cb.plus hb.cb).qs (by omega) hq
  have np := nl_plus na nb
  refine gW (Wk.of (sl := [(1,some (nA (lq a))),(2,some (nA (lq b))),(3,some (.ptr 3 0)),(8,some (i64 (chksE rs [a,b])))]) (hp := [(3,some (.box [.lst 1 (rs.map nR)]))]) (.cons rfl (Sub.of e1) (.cons rfl (Sub.of e2) (.k (.k .nil)))) (.cons rfl (.refl _) .nil)) ?_
  refine gc (c_r04_plus _ _ qa qb (by omega) (by omega)) ?_
  refine gc (c_r04_Short _ h5 np) ?_
  refine gE2 ?_
  rw [if_pos h1,h1,dec_plus]; rfl
theorem c_r04_Sub (rs : List (List Rt)) (r : Nat) (h : TR rs r) (a b : List Rt) (e f : Nat) (ha : NR a e) (hb : NR b f) (he : e + f <= lm rs.length) :
  FnC Tryz.prog 97 [towR rs,nR a,nR b] (.tup [nA (if chksE rs [a,b] = 0 then sh rs.length (T.add rs.length (dec rs.length (lq a)) (T.neg rs.length (dec rs.length (lq b)))) else []),i64 (chksE rs [a,b])]) := by
 have hlm := lm_le rs.length
 refine gF0 Tryz.func97 ?_
 refine gc (c_r04_errors rs r h [a,b] (two_ok ha hb) (by simp)) ?_
 refine gC (fun ht15 => ?_) (fun ht15 => ?_) (st2 := (77777,0))
 ·have h1 := neq_t ht15
  refine gR ?_
  exact fin_sub (by rw [if_neg h1]; exact Sub.tup (.cons (.nil _ _ _) (.cons (.refl _) .nil)))
 ·have h1 := neq_f ht15
  obtain ⟨h2,h3⟩ := chks_ok h1
  obtain ⟨tw,e0⟩ := chk_tw h h2
  obtain ⟨e1,na⟩ := ha.num (h3 a (by simp))
  obtain ⟨e2,nb⟩ := hb.num (h3 b (by simp))
  have h5 : rs.length <= 5:=by have := tw.five; rwa [List.length_map] at this
  have hla := na.len5 h5
  have hlb := nb.len5 h5
  have qa : ∀ q ∈ lq a,Qs q := fun q hq => ha.cb.qs (by omega) hq
  have qb : ∀ q ∈ lq b,Qs q := fun q hq => hb.cb.qs (by omega) hq
  have qm : ∀ q ∈ minusL (lq b),Qs q := fun q hq => hb.cb.minus.qs (by omega) hq
  have qp : ∀ q ∈ plusL (lq a) (minusL (lq b)),Qs q := fun q hq => (ha.cb.plus hb.cb.minus).qs (by omega) hq
  have np := nl_plus na (nl_minus nb)
  refine gW (Wk.of (sl := [(1,some (nA (lq a))),(2,some (nA (lq b))),(3,some (.ptr 3 0)),(8,some (i64 (chksE rs [a,b])))]) (hp := [(3,some (.box [.lst 1 (rs.map nR)]))]) (.cons rfl (Sub.of e1) (.cons rfl (Sub.of e2) (.k (.k .nil)))) (.cons rfl (.refl _) .nil)) ?_
  refine gc (c_r04_less _ qb (by omega)) ?_
  refine gc (c_r04_plus _ _ qa qm (by omega) (by rw [len_minus]; omega)) ?_
  refine gc (c_r04_Short _ h5 np) ?_
  refine gE2 ?_
  rw [if_pos h1,h1,dec_plus,dec_minus]; rfl
theorem c_r04_Mul (rs : List (List Rt)) (r : Nat) (h : TR rs r) (a b : List Rt) (e f : Nat) (ha : NR a e) (hb : NR b f) (he : e + f <= lm rs.length) :
  FnC Tryz.prog 53 [towR rs,nR a,nR b] (.tup [nA (if chksE rs [a,b] = 0 then sh rs.length (T.mul (rtsOf (llq rs)) rs.length (dec rs.length (lq a)) (dec rs.length (lq b))) else []),i64 (chksE rs [a,b])]) := by
 have hr := h.le
 have hlm := lm_le rs.length
 refine gF0 Tryz.func53 ?_
 refine gc (c_r04_errors rs r h [a,b] (two_ok ha hb) (by simp)) ?_
 refine gC (fun ht15 => ?_) (fun ht15 => ?_) (st2 := (77777,0))
 ·have h1 := neq_t ht15
  refine gR ?_
  exact fin_sub (by rw [if_neg h1]; exact Sub.tup (.cons (.nil _ _ _) (.cons (.refl _) .nil)))
 ·have h1 := neq_f ht15
  obtain ⟨h2,h3⟩ := chks_ok h1
  obtain ⟨tw,e0⟩ := chk_tw h h2
  obtain ⟨e1,na⟩ := ha.num (h3 a (by simp))
  obtain ⟨e2,nb⟩ := hb.num (h3 b (by simp))
  have hlen : (llq rs).length = rs.length := List.length_map _
  have h5 : rs.length <= 5:=by have := tw.five; omega
  have hla := na.len5 h5
  have hlb := nb.len5 h5
  have htw := tw.ok
  rw [hlen] at htw
  have hE := eB_five r h5
  have np := rT_spec h5 htw (k := rs.length) (Nat.le_refl rs.length) (Nat.le_refl _) na nb ha.cb hb.cb
  have hti := c_r04_times (llq rs) rs.length r htw h5 ((llq rs).map nA) (fun j hj => rootAt (by omega)) rs.length rs.length _ _ e f (Nat.le_refl _) (Nat.le_refl _) na nb ha.cb hb.cb (by omega)
  refine gW (Wk.of (sl := [(1,some (nA (lq a))),(2,some (nA (lq b))),(3,some (.ptr 3 0)),(8,some (i64 (chksE rs [a,b])))]) (hp := [(3,some (.box [.lst 1 ((llq rs).map nA)]))]) (.cons rfl (Sub.of e1) (.cons rfl (Sub.of e2) (.k (.k .nil)))) (.cons rfl (BlkSub.boxL (.cons (.of (towR_in e0)) .nil) rfl) .nil)) ?_
  refine gc hti ?_
  refine gc (c_r04_Short _ h5 np.1) ?_
  refine gE2 ?_
  rw [if_pos h1,h1,np.2.1]; rfl
theorem c_r04_Cmp (rs : List (List Rt)) (r : Nat) (h : TR rs r) (a b : List Rt) (e f : Nat) (ha : NR a e) (hb : NR b f) (he : e + f + 1 <= lm rs.length) :
  FnC Tryz.prog 52 [towR rs,nR a,nR b] (.tup [i64 (if chksE rs [a,b] = 0 then T.sgn (rtsOf (llq rs)) rs.length (T.add rs.length (dec rs.length (lq a)) (T.neg rs.length (dec rs.length (lq b)))) else 0),i64 (chksE rs [a,b])]) := by
 have hr := h.le
 have hlm := lm_le rs.length
 refine gF0 Tryz.func52 ?_
 refine gc (c_r04_errors rs r h [a,b] (two_ok ha hb) (by simp)) ?_
 refine gC (fun ht15 => ?_) (fun ht15 => ?_) (st2 := (77777,0))
 ·have h1 := neq_t ht15
  refine gE2 ?_
  rw [if_neg h1]; rfl
 ·have h1 := neq_f ht15
  obtain ⟨h2,h3⟩ := chks_ok h1
  obtain ⟨tw,e0⟩ := chk_tw h h2
  obtain ⟨e1,na⟩ := ha.num (h3 a (by simp))
  obtain ⟨e2,nb⟩ := hb.num (h3 b (by simp))
  have hlen : (llq rs).length = rs.length := List.length_map _
  have h5 : rs.length <= 5:=by have := tw.five; omega
  have hla := na.len5 h5
  have hlb := nb.len5 h5
  have htw := tw.ok
  rw [hlen] at htw
  have qa : ∀ q ∈ lq a,Qs q := fun q hq => ha.cb.qs (by omega) hq
  have qb : ∀ q ∈ lq b,Qs q := fun q hq => hb.cb.qs (by omega) hq
  have qm : ∀ q ∈ minusL (lq b),Qs q := fun q hq => hb.cb.minus.qs (by omega) hq
  have np := nl_plus na (nl_minus nb)
  have hsg := c_r04_sign (llq rs) rs.length r htw h5 (fun j hj => tw.pos j (by omega)) ((llq rs).map nA) (fun j hj => rootAt (by omega)) rs.length _ _ (Nat.le_refl _) np (ha.cb.plus hb.cb.minus) (sB_tw (Nat.le_refl rs.length) (by have := tw.three; omega) hr (by omega))
  refine gW (Wk.of (sl := [(1,some (nA (lq a))),(2,some (nA (lq b))),(3,some (.ptr 3 0)),(8,some (i64 (chksE rs [a,b])))]) (hp := [(3,some (.box [.lst 1 ((llq rs).map nA)]))]) (.cons rfl (Sub.of e1) (.cons rfl (Sub.of e2) (.k (.k .nil)))) (.cons rfl (BlkSub.boxL (.cons (.of (towR_in e0)) .nil) rfl) .nil)) ?_
  refine gc (c_r04_less _ qb (by omega)) ?_
  refine gc (c_r04_plus _ _ qa qm (by omega) (by rw [len_minus]; omega)) ?_
  refine gc hsg ?_
  refine gD ?_
  refine gE2 ?_
  rw [if_pos h1,h1,dec_plus,dec_minus]; rfl
theorem c_r04_Sign (rs : List (List Rt)) (r : Nat) (h : TR rs r) (a : List Rt) (e : Nat) (ha : NR a e) (he : e <= lm rs.length) :
  FnC Tryz.prog 51 [towR rs,nR a] (.tup [i64 (if chksE rs [a] = 0 then T.sgn (rtsOf (llq rs)) rs.length (dec rs.length (lq a)) else 0),i64 (chksE rs [a])]) := by
 have hr := h.le
 have hlm := lm_le rs.length
 refine gF0 Tryz.func51 ?_
 refine gc (c_r04_errors rs r h [a] (fun x hx => by rw [List.mem_singleton.1 hx]; exact ⟨ha.ok,ha.len⟩) (by simp)) ?_
 refine gC (fun ht12 => ?_) (fun ht12 => ?_) (st2 := (77777,0))
 ·have h1 := neq_t ht12
  refine gE2 ?_
  rw [if_neg h1]; rfl
 ·have h1 := neq_f ht12
  obtain ⟨h2,h3⟩ := chks_ok h1
  obtain ⟨tw,e0⟩ := chk_tw h h2
  obtain ⟨e1,na⟩ := ha.num (h3 a (by simp))
  have hlen : (llq rs).length = rs.length := List.length_map _
  have h5 : rs.length <= 5:=by have := tw.five; omega
  have htw := tw.ok
  rw [hlen] at htw
  have hsg := c_r04_sign (llq rs) rs.length r htw h5 (fun j hj => tw.pos j (by omega)) ((llq rs).map nA) (fun j hj => rootAt (by omega)) rs.length _ _ (Nat.le_refl _) na ha.cb (sB_tw (Nat.le_refl rs.length) (by have := tw.three; omega) hr (by omega))
  refine gW (Wk.of (sl := [(1,some (nA (lq a))),(2,some (.ptr 2 0)),(6,some (i64 (chksE rs [a])))]) (hp := [(2,some (.box [.lst 1 ((llq rs).map nA)]))]) (.cons rfl (Sub.of e1) (.k (.k .nil))) (.cons rfl (BlkSub.boxL (.cons (.of (towR_in e0)) .nil) rfl) .nil)) ?_
  refine gc hsg ?_
  refine gE2 ?_
  rw [if_pos h1,h1]; rfl
theorem c_r04_Lift (rs : List (List Rt)) (r : Nat) (h : TR rs r) (a : List Rt) (e : Nat) (ha : NR a e) (he : e <= lm rs.length) :
  FnC Tryz.prog 39 [towR rs,nR a] (.tup [nA (if chksE rs [a] = 0 then wideL (lq a) (2 ^ rs.length) else []),i64 (chksE rs [a])]) := by
 have hlm := lm_le rs.length
 refine gF0 Tryz.func39 ?_
 refine gc (c_r04_errors rs r h [a] (fun x hx => by rw [List.mem_singleton.1 hx]; exact ⟨ha.ok,ha.len⟩) (by simp)) ?_
 refine gC (fun ht12 => ?_) (fun ht12 => ?_) (st2 := (77777,0))
 ·have h1 := neq_t ht12
  refine gR ?_
  exact fin_sub (by rw [if_neg h1]; exact Sub.tup (.cons (.nil _ _ _) (.cons (.refl _) .nil)))
 ·have h1 := neq_f ht12
  obtain ⟨h2,h3⟩ := chks_ok h1
  obtain ⟨tw,e0⟩ := chk_tw h h2
  obtain ⟨e1,na⟩ := ha.num (h3 a (by simp))
  have hlen : (llq rs).length = rs.length := List.length_map _
  have h5 : rs.length <= 5:=by have := tw.five; omega
  have hp5 : 2 ^ rs.length <= 32 := pow_le2 (b := 5) h5
  refine gW (Wk.of (sl := [(1,some (nA (lq a))),(2,some (.ptr 2 0)),(6,some (i64 (chksE rs [a])))]) (hp := [(2,some (.box [.lst 1 (rs.map nR)]))]) (.cons rfl (Sub.of e1) (.k (.k .nil))) (.cons rfl (.refl _) .nil)) ?_
  refine gl ?_
  refine gs (s_shlW (.const _) (.tmp rfl) (by omega) (i64_shl1 (by omega)) rfl) ?_
  refine gc (c_r04_wide _ _ na.le (by omega)) ?_
  refine gE2 ?_
  rw [if_pos h1,h1]; rfl
theorem c_r04_Of (x : Rt) (hx : x.ok) (hs : Qs x.q) : FnC Tryz.prog 70 [x.av] (nA (sh 0 (x.q : Rat))) := by
 have hadd := c_r02_Add x (rt 0) hx Qs.zero.ok
 rw [ofsum] at hadd
 refine gF0 Tryz.func70 ?_
 refine gc (c_r02_Sign x hx) ?_
 refine gC (fun ht5 => ?_) (fun ht5 => ?_)
 ·have h0 : x.q = 0 := sgnQ_zero (by simpa [icmp] using ht5)
  refine gR ?_
  exact fin_sub1 (by rw [h0]; exact Sub.nil _ _ _)
 ·have h0 : x.q ≠ 0 := fun h => by rw [h] at ht5; cases ht5
  refine gc (Con.subA (.cons (.refl _) (.cons sub_q0 .nil)) hadd) ?_
  refine gE1 ?_
  have : sh 0 (x.q : Rat) = [x.q] := if_neg h0
  rw [this]; rfl
end Go.Lw
namespace Go.Lw
open Go.Proofs
theorem q_Add {p q : Rat} (hp : Qs p) (hq : Qs q) : FnC Tryz.prog 149 [qA p, qA q] (qA (p + q)) := by
 have h := c_fraction_Add (rt p) (rt q) hp.ok hq.ok
 rw [rt_q,rt_q] at h
 exact h
theorem q_Sub {p q : Rat} (hp : Qs p) (hq : Qs q) : FnC Tryz.prog 313 [qA p, qA q] (qA (p - q)) := by
 have h := c_fraction_Sub (rt p) (rt q) hp.ok hq.ok
 rw [rt_q,rt_q] at h
 exact h
theorem q_Mul {p q : Rat} (hp : Qs p) (hq : Qs q) : FnC Tryz.prog 279 [qA p, qA q] (qA (p * q)) := by
 have h := c_fraction_Mul (rt p) (rt q) hp.ok hq.ok
 rw [rt_q,rt_q] at h
 exact h
theorem q_Div {p q : Rat} (hp : Qs p) (hq : Qs q) : FnC Tryz.prog 349 [qA p, qA q] (.tup [qA (p / q), errA (if q = 0 then 8 else 0)]) := by
 have h := c_fraction_Div (rt p) (rt q) hp.ok hq.ok
 rw [rt_q,rt_q] at h
 exact h
theorem q_Neg {p : Rat} (hp : Qs p) : FnC Tryz.prog 228 [qA p] (qA (-p)) := by
 have h := c_fraction_Neg (rt p) hp.ok
 rw [rt_q] at h
 exact h
theorem q_Sign {p : Rat} (hp : Qs p) : FnC Tryz.prog 136 [qA p] (i64 (sgnQ p)) := by
 have h := c_fraction_Sign (rt p) hp.ok
 rw [rt_q] at h
 exact h
end Go.Lw
namespace Go.Lw
open Go.Proofs
theorem tw_Add {ts : List (List Rat)} {r e f : Nat} (tw : Tw ts r) {a b : List Rat} (ha : Nm ts.length e a) (hb : Nm ts.length f b) (he : e + f <= lm ts.length) :
  FnC Tryz.prog 160 [towA ts,nA a,nA b] (.tup [nA (sh ts.length (T.add ts.length (dec ts.length a) (dec ts.length b))),.v .nilIface]) := by
 have h := c_tower_Add (ts.map (List.map rt)) r tw.tr (a.map rt) (b.map rt) e f (ha.rt (by omega)) (hb.rt (by omega)) (by rw [List.length_map]; exact he)
 have h0 : chksE (ts.map (List.map rt)) [a.map rt,b.map rt] = 0 := two_chk tw ha hb
 rw [h0,if_pos rfl,towR_rt,nR_rt,nR_rt,lq_rt,lq_rt,List.length_map] at h
 exact h
theorem tw_Sub {ts : List (List Rat)} {r e f : Nat} (tw : Tw ts r) {a b : List Rat} (ha : Nm ts.length e a) (hb : Nm ts.length f b) (he : e + f <= lm ts.length) :
  FnC Tryz.prog 158 [towA ts,nA a,nA b] (.tup [nA (sh ts.length (T.add ts.length (dec ts.length a) (T.neg ts.length (dec ts.length b)))),.v .nilIface]) := by
 have h := c_tower_Sub (ts.map (List.map rt)) r tw.tr (a.map rt) (b.map rt) e f (ha.rt (by omega)) (hb.rt (by omega)) (by rw [List.length_map]; exact he)
 have h0 : chksE (ts.map (List.map rt)) [a.map rt,b.map rt] = 0 := two_chk tw ha hb
 rw [h0,if_pos rfl,towR_rt,nR_rt,nR_rt,lq_rt,lq_rt,List.length_map] at h
 exact h
theorem tw_Mul {ts : List (List Rat)} {r e f : Nat} (tw : Tw ts r) {a b : List Rat} (ha : Nm ts.length e a) (hb : Nm ts.length f b) (he : e + f <= lm ts.length) :
  FnC Tryz.prog 159 [towA ts,nA a,nA b] (.tup [nA (sh ts.length (T.mul (rtsOf ts) ts.length (dec ts.length a) (dec ts.length b))),.v .nilIface]) := by
 have h := c_tower_Mul (ts.map (List.map rt)) r tw.tr (a.map rt) (b.map rt) e f (ha.rt (by omega)) (hb.rt (by omega)) (by rw [List.length_map]; exact he)
 have h0 : chksE (ts.map (List.map rt)) [a.map rt,b.map rt] = 0 := two_chk tw ha hb
 rw [h0,if_pos rfl,towR_rt,nR_rt,nR_rt,llq_rt,lq_rt,lq_rt,List.length_map] at h
 exact h
theorem tw_Cmp {ts : List (List Rat)} {r e f : Nat} (tw : Tw ts r) {a b : List Rat} (ha : Nm ts.length e a) (hb : Nm ts.length f b) (he : e + f + 1 <= lm ts.length) :
  FnC Tryz.prog 345 [towA ts,nA a,nA b] (.tup [i64 (T.sgn (rtsOf ts) ts.length (T.add ts.length (dec ts.length a) (T.neg ts.length (dec ts.length b)))),.v .nilIface]) := by
 have h := c_tower_Cmp (ts.map (List.map rt)) r tw.tr (a.map rt) (b.map rt) e f (ha.rt (by omega)) (hb.rt (by omega)) (by rw [List.length_map]; exact he)
 have h0 : chksE (ts.map (List.map rt)) [a.map rt,b.map rt] = 0 := two_chk tw ha hb
 rw [h0,if_pos rfl,towR_rt,nR_rt,nR_rt,llq_rt,lq_rt,lq_rt,List.length_map] at h
 exact h
theorem tw_Sign {ts : List (List Rat)} {r e : Nat} (tw : Tw ts r) {a : List Rat} (ha : Nm ts.length e a) (he : e <= lm ts.length) :
  FnC Tryz.prog 110 [towA ts,nA a] (.tup [i64 (T.sgn (rtsOf ts) ts.length (dec ts.length a)),.v .nilIface]) := by
 have h := c_tower_Sign (ts.map (List.map rt)) r tw.tr (a.map rt) e (ha.rt he) (by rw [List.length_map]; exact he)
 have h0 : chksE (ts.map (List.map rt)) [a.map rt] = 0 := one_chk tw ha
 rw [h0,if_pos rfl,towR_rt,nR_rt,llq_rt,lq_rt,List.length_map] at h
 exact h
theorem r4_Add {ts : List (List Rat)} {r e f : Nat} (tw : Tw ts r) {a b : List Rat} (ha : Nm ts.length e a) (hb : Nm ts.length f b) (he : e + f <= lm ts.length) :
  FnC Tryz.prog 98 [towA ts,nA a,nA b] (.tup [nA (sh ts.length (T.add ts.length (dec ts.length a) (dec ts.length b))),i64 0]) := by
 have h := c_r04_Add (ts.map (List.map rt)) r tw.tr (a.map rt) (b.map rt) e f (ha.rt (by omega)) (hb.rt (by omega)) (by rw [List.length_map]; exact he)
 have h0 : chksE (ts.map (List.map rt)) [a.map rt,b.map rt] = 0 := two_chk tw ha hb
 rw [h0,if_pos rfl,towR_rt,nR_rt,nR_rt,lq_rt,lq_rt,List.length_map] at h
 exact h
theorem r4_Sub {ts : List (List Rat)} {r e f : Nat} (tw : Tw ts r) {a b : List Rat} (ha : Nm ts.length e a) (hb : Nm ts.length f b) (he : e + f <= lm ts.length) :
  FnC Tryz.prog 97 [towA ts,nA a,nA b] (.tup [nA (sh ts.length (T.add ts.length (dec ts.length a) (T.neg ts.length (dec ts.length b)))),i64 0]) := by
 have h := c_r04_Sub (ts.map (List.map rt)) r tw.tr (a.map rt) (b.map rt) e f (ha.rt (by omega)) (hb.rt (by omega)) (by rw [List.length_map]; exact he)
 have h0 : chksE (ts.map (List.map rt)) [a.map rt,b.map rt] = 0 := two_chk tw ha hb
 rw [h0,if_pos rfl,towR_rt,nR_rt,nR_rt,lq_rt,lq_rt,List.length_map] at h
 exact h
theorem r4_Mul {ts : List (List Rat)} {r e f : Nat} (tw : Tw ts r) {a b : List Rat} (ha : Nm ts.length e a) (hb : Nm ts.length f b) (he : e + f <= lm ts.length) :
  FnC Tryz.prog 53 [towA ts,nA a,nA b] (.tup [nA (sh ts.length (T.mul (rtsOf ts) ts.length (dec ts.length a) (dec ts.length b))),i64 0]) := by
 have h := c_r04_Mul (ts.map (List.map rt)) r tw.tr (a.map rt) (b.map rt) e f (ha.rt (by omega)) (hb.rt (by omega)) (by rw [List.length_map]; exact he)
 have h0 : chksE (ts.map (List.map rt)) [a.map rt,b.map rt] = 0 := two_chk tw ha hb
 rw [h0,if_pos rfl,towR_rt,nR_rt,nR_rt,llq_rt,lq_rt,lq_rt,List.length_map] at h
 exact h
theorem r4_Cmp {ts : List (List Rat)} {r e f : Nat} (tw : Tw ts r) {a b : List Rat} (ha : Nm ts.length e a) (hb : Nm ts.length f b) (he : e + f + 1 <= lm ts.length) :
  FnC Tryz.prog 52 [towA ts,nA a,nA b] (.tup [i64 (T.sgn (rtsOf ts) ts.length (T.add ts.length (dec ts.length a) (T.neg ts.length (dec ts.length b)))),i64 0]) := by
 have h := c_r04_Cmp (ts.map (List.map rt)) r tw.tr (a.map rt) (b.map rt) e f (ha.rt (by omega)) (hb.rt (by omega)) (by rw [List.length_map]; exact he)
 have h0 : chksE (ts.map (List.map rt)) [a.map rt,b.map rt] = 0 := two_chk tw ha hb
 rw [h0,if_pos rfl,towR_rt,nR_rt,nR_rt,llq_rt,lq_rt,lq_rt,List.length_map] at h
 exact h
theorem r4_Sign {ts : List (List Rat)} {r e : Nat} (tw : Tw ts r) {a : List Rat} (ha : Nm ts.length e a) (he : e <= lm ts.length) :
  FnC Tryz.prog 51 [towA ts,nA a] (.tup [i64 (T.sgn (rtsOf ts) ts.length (dec ts.length a)),i64 0]) := by
 have h := c_r04_Sign (ts.map (List.map rt)) r tw.tr (a.map rt) e (ha.rt he) (by rw [List.length_map]; exact he)
 have h0 : chksE (ts.map (List.map rt)) [a.map rt] = 0 := one_chk tw ha
 rw [h0,if_pos rfl,towR_rt,nR_rt,llq_rt,lq_rt,List.length_map] at h
 exact h
theorem tw_Neg {ts : List (List Rat)} {r e : Nat} (tw : Tw ts r) {a : List Rat} (ha : Nm ts.length e a) (he : e <= lm ts.length) :
  FnC Tryz.prog 92 [towA ts,nA a] (.tup [nA (sh ts.length (T.neg ts.length (dec ts.length a))),.v .nilIface]) := by
 have h := c_tower_Neg (ts.map (List.map rt)) r tw.tr (a.map rt) e (ha.rt he) (by rw [List.length_map]; exact he)
 have h0 : chksE (ts.map (List.map rt)) [a.map rt] = 0 := one_chk tw ha
 rw [h0,if_pos rfl,towR_rt,nR_rt,lq_rt,List.length_map] at h
 exact h
theorem tw_Check {ts : List (List Rat)} {r : Nat} (tw : Tw ts r) : FnC Tryz.prog 36 [towA ts] (.v .nilIface) := by
 have h := c_tower_Check (ts.map (List.map rt)) r tw.tr
 rw [tw.chk,towR_rt] at h
 exact h
theorem tw_Of {q : Rat} (h : Qs q) : FnC Tryz.prog 87 [qA q] (nA (sh 0 (q : Rat))) := by
 have h1 := c_tower_Of (rt q) h.ok (by rw [rt_q]; exact h)
 rw [rt_q] at h1
 exact h1
theorem r4_Of {q : Rat} (h : Qs q) : FnC Tryz.prog 70 [qA q] (nA (sh 0 (q : Rat))) := by
 have h1 := c_r04_Of (rt q) h.ok (by rw [rt_q]; exact h)
 rw [rt_q] at h1
 exact h1
theorem c_point_check {ts : List (List Rat)} {r e : Nat} (tw : Tw ts r) (ls : List (List Rat)) (hl : ∀ l ∈ ls, Nm ts.length e l) (he : e <= lm ts.length) (hn : ls.length <= 1000) : FnC Tryz.prog 73 [towA ts, .lst 1 (ls.map nA)] (.v .nilIface) := by
  refine gF0 Tryz.func73 ?_
  refine gc (tw_Check tw) ?_
  refine gC (fun ht13 => ?_) (fun ht13 => ?_) (st1 := (3,0))
  · cases ht13
  · refine gl ?_
    refine gL1 [2,15,16] [2] (fun (i : Nat) => [(17,some (i64 i))]) (fun _ => []) (fun i => i <= ls.length) (fun i => ls.length - i) 0 (Nat.zero_le _) ?_
    rintro i hi K1 hK1
    refine gC (fun ht18 => ?_) (fun ht18 => ?_)
    · have hin : i < ls.length := by simpa [icmp] using ht18
      obtain ⟨l,hll⟩ := getx hin
      have hok := hl l (List.mem_of_getElem? hll)
      refine gi (getmap hll) ?_
      refine gc (tw_Neg tw hok he) ?_
      refine gC (fun ht28 => ?_) (fun ht28 => ?_) (st1 := (9,0))
      · cases ht28
      · refine ga (i64_add1 (by unfold maxL; omega)) ?_
        exact gK1 hK1 (i + 1) hin
    · have hin : i = ls.length := by have : ls.length <= i := by simpa [icmp] using ht18
                                     omega
      refine gE1 ?_
      first | rfl | (simp; done)
theorem c_point_checkAll {ts : List (List Rat)} {r e : Nat} (tw : Tw ts r) (ps : List (List Rat × List Rat)) (hl : ∀ p ∈ ps, Nm ts.length e p.1 /\ Nm ts.length e p.2) (he : e <= lm ts.length) (hn : ps.length <= 500) : FnC Tryz.prog 93 [towA ts, .lst 2 (ps.map fun p => ptA p.1 p.2)] (.v .nilIface) := by
  refine gF0 Tryz.func93 ?_
  refine gl ?_
  refine gW (Wk.virt 900 1 rfl) ?_
  refine gL1 [2,8,9] [2] (fun (i : Nat) => [(5,some (.ms 900 1 0 (2 * i))),(10,some (i64 i))]) (fun i => [(900,some (.row 1 ((flat2 (ps.take i)).map nA)))]) (fun i => i <= ps.length) (fun i => ps.length - i) 0 (Nat.zero_le _) ?_
  rintro i hi K1 hK1
  refine gC (fun ht11 => ?_) (fun ht11 => ?_) (st2 := (7,0))
  · have hin : i < ps.length := by simpa [icmp] using ht11
    obtain ⟨p,hp⟩ := getx hin
    have hfl : (flat2 (ps.take i)).length = 2 * i:=by rw [len_flat2,List.length_take]; omega
    refine gi (getmap hp) ?_
    refine gs (s_append (.tmp rfl) rfl (by rw [List.length_map,hfl]) (.tmp rfl) T22 rfl T37 rfl rfl (by simp; omega) rfl rfl) ?_ (6,0)
    refine gW (Wk.of (sl := [(2,some (.ptr 2 0)),(5,some (.ms 20 1 0 (2 * i + 2))),(8,some (.lst 2 (ps.map fun p => ptA p.1 p.2))),(9,some (i64 ps.length)),(10,some (i64 i))]) (hp := [(2,some (.box [.lst 1 (ts.map nA)])),(20,some (.row 1 ((flat2 (ps.take (i + 1))).map nA)))]) (by repeat (first | exact SlW.nil | refine SlW.k ?_)) (.cons rfl (.refl _) (.cons rfl (BlkSub.of (by rw [take_succ_get hp,flat2_app,List.map_append]; rfl)) .nil))) ?_ (6,0)
    refine gW (Wk.rekey (k := 20) (d := 900) rfl rfl) ?_
    refine ga (i64_add1 (by unfold maxL; omega)) ?_
    exact gK1 hK1 (i + 1) hin
  · have hin : i = ps.length := by have : ps.length <= i := by simpa [icmp] using ht11
                                   omega
    subst hin
    refine gW ((Wk.freeze (k := 900) rfl).trans <| Wk.of (sl := [(2,some (.ptr 2 0)),(5,some (.lst 1 ((flat2 ps).map nA)))]) (hp := [(2,some (.box [.lst 1 (ts.map nA)]))]) (.k (.cons rfl (Sub.of (by rw [fz_all (by rw [List.length_map,len_flat2,List.length_take]; omega),List.take_length])) .nil)) (.cons rfl (.refl _) .nil)) ?_
    refine gc (c_point_check tw (flat2 ps) (flat2_all hl) he (by rw [len_flat2]; omega)) ?_
    refine gE1 ?_
    first | rfl | (simp; done)
theorem c_sum_keep (R : List AV) (a : List Rat) : Con Tryz.prog 204 [.ptr 1000 0, nA a, .v .nilIface] [(1000, some (.box [.lst 1 R, .v .nilIface]))] (nA a) [(1000, some (.box [.lst 1 R, .v .nilIface]))] := by
 refine gF Tryz.func204 (fun k z h => lk1000 h) ?_
 refine gC (fun ht11 => ?_) (fun ht11 => ?_) (st2 := (77777,0))
 ·refine gR ?_
  exact Fin.keep (keep1 rfl)
 ·cases ht11
theorem c_sum_add {ts : List (List Rat)} {r e f : Nat} (tw : Tw ts r) {a b : List Rat} (ha : Nm ts.length e a) (hb : Nm ts.length f b) (he : e + f <= lm ts.length) :
  Con Tryz.prog 141 [.ptr 1000 0,nA a,nA b] [(1000,some (sumB ts))] (nA (sh ts.length (T.add ts.length (dec ts.length a) (dec ts.length b)))) [(1000,some (sumB ts))] := by
 refine gF Tryz.func141 (fun k z h => lk1000 h) ?_
 refine gc (tw_Add tw ha hb he) ?_
 refine gt (s_callH (c_sum_keep _ _) (.cons (.tmp rfl) (.cons (.tmp rfl) (.cons (.tmp rfl) .nil))) (by first | exact hH0 | exact hH1 rfl | exact hH2 rfl rfl) rfl rfl) ?_
 refine gR ?_
 exact Fin.keep (keep1 rfl)
theorem c_sum_sub {ts : List (List Rat)} {r e f : Nat} (tw : Tw ts r) {a b : List Rat} (ha : Nm ts.length e a) (hb : Nm ts.length f b) (he : e + f <= lm ts.length) :
  Con Tryz.prog 139 [.ptr 1000 0,nA a,nA b] [(1000,some (sumB ts))] (nA (sh ts.length (T.add ts.length (dec ts.length a) (T.neg ts.length (dec ts.length b))))) [(1000,some (sumB ts))] := by
 refine gF Tryz.func139 (fun k z h => lk1000 h) ?_
 refine gc (tw_Sub tw ha hb he) ?_
 refine gt (s_callH (c_sum_keep _ _) (.cons (.tmp rfl) (.cons (.tmp rfl) (.cons (.tmp rfl) .nil))) (by first | exact hH0 | exact hH1 rfl | exact hH2 rfl rfl) rfl rfl) ?_
 refine gR ?_
 exact Fin.keep (keep1 rfl)
theorem c_sum_mul {ts : List (List Rat)} {r e f : Nat} (tw : Tw ts r) {a b : List Rat} (ha : Nm ts.length e a) (hb : Nm ts.length f b) (he : e + f <= lm ts.length) :
  Con Tryz.prog 140 [.ptr 1000 0,nA a,nA b] [(1000,some (sumB ts))] (nA (sh ts.length (T.mul (rtsOf ts) ts.length (dec ts.length a) (dec ts.length b)))) [(1000,some (sumB ts))] := by
 refine gF Tryz.func140 (fun k z h => lk1000 h) ?_
 refine gc (tw_Mul tw ha hb he) ?_
 refine gt (s_callH (c_sum_keep _ _) (.cons (.tmp rfl) (.cons (.tmp rfl) (.cons (.tmp rfl) .nil))) (by first | exact hH0 | exact hH1 rfl | exact hH2 rfl rfl) rfl rfl) ?_
 refine gR ?_
 exact Fin.keep (keep1 rfl)
theorem c_sum_cross {ts : List (List Rat)} {r e f : Nat} (tw : Tw ts r) {a b c d : List Rat} (ha : Nm ts.length e a) (hb : Nm ts.length e b) (hc : Nm ts.length f c) (hd : Nm ts.length f d) (he : 2 * (e + f + kB r ts.length) <= lm ts.length) :
  Con Tryz.prog 172 [.ptr 1000 0,ptA a b,ptA c d] [(1000,some (sumB ts))] (nA (sh ts.length (crossT ts (dec ts.length a) (dec ts.length b) (dec ts.length c) (dec ts.length d)))) [(1000,some (sumB ts))] := by
 refine gF Tryz.func172 (fun k z h => lk1000 h) ?_
 refine gt (s_callH (c_sum_mul tw ha hd (by omega)) (.cons (.tmp rfl) (.cons (.tmp rfl) (.cons (.tmp rfl) .nil))) (by first | exact hH0 | exact hH1 rfl | exact hH2 rfl rfl) rfl rfl) ?_
 refine gt (s_callH (c_sum_mul tw hb hc (by omega)) (.cons (.tmp rfl) (.cons (.tmp rfl) (.cons (.tmp rfl) .nil))) (by first | exact hH0 | exact hH1 rfl | exact hH2 rfl rfl) rfl rfl) ?_
 refine gt (s_callH (cross_ap ▸ c_sum_sub tw (ha.mul tw rfl hd) (hb.mul tw rfl hc) (by omega)) (.cons (.tmp rfl) (.cons (.tmp rfl) (.cons (.tmp rfl) .nil))) (by first | exact hH0 | exact hH1 rfl | exact hH2 rfl rfl) rfl rfl) ?_
 refine gD ?_
 refine gR ?_
 exact Fin.keep (keep1 rfl)
end Go.Lw
namespace Go.Lw
open Go.Proofs
theorem c_sum_less {ts : List (List Rat)} {r e : Nat} (tw : Tw ts r) {a b c d : List Rat} (ha : Nm ts.length e a) (hb : Nm ts.length e b) (hc : Nm ts.length e c) (hd : Nm ts.length e d) (he : 2 * e <= lm ts.length) :
  Con Tryz.prog 170 [.ptr 1000 0,ptA a b,ptA c d] [(1000,some (sumB ts))] (ptA (sh ts.length (subT ts (dec ts.length a) (dec ts.length c))) (sh ts.length (subT ts (dec ts.length b) (dec ts.length d)))) [(1000,some (sumB ts))] := by
 refine gF Tryz.func170 (fun k z h => lk1000 h) ?_
 refine gt (s_callH (c_sum_sub tw ha hc (by omega)) (.cons (.tmp rfl) (.cons (.tmp rfl) (.cons (.tmp rfl) .nil))) (by first | exact hH0 | exact hH1 rfl | exact hH2 rfl rfl) rfl rfl) ?_
 refine gt (s_callH (c_sum_sub tw hb hd (by omega)) (.cons (.tmp rfl) (.cons (.tmp rfl) (.cons (.tmp rfl) .nil))) (by first | exact hH0 | exact hH1 rfl | exact hH2 rfl rfl) rfl rfl) ?_
 refine gD ?_
 refine gR ?_
 exact Fin.keep (keep1 rfl)
theorem c_sum_num (R : List AV) (a : List Rat) : Con Tryz.prog 236 [.ptr 1000 0, nA a] [(1000, some (.box [.lst 1 R, .v .nilIface]))] (.tup [nA a, .v .nilIface]) [(1000, some (.box [.lst 1 R, .v .nilIface]))] := by
 refine gF Tryz.func236 (fun k z h => lk1000 h) ?_
 refine gC (fun ht10 => ?_) (fun ht10 => ?_) (st1 := (2,0))
 ·cases ht10
 ·refine gR ?_
  show Fin _ (AV.tup [nA a,.v .nilIface]) _ _
  exact Fin.keep (keep1 rfl)
theorem c_sum_point (R : List AV) (a b : List Rat) : Con Tryz.prog 138 [.ptr 1000 0, ptA a b] [(1000, some (.box [.lst 1 R, .v .nilIface]))] (.tup [ptA a b, .v .nilIface]) [(1000, some (.box [.lst 1 R, .v .nilIface]))] := by
 refine gF Tryz.func138 (fun k z h => lk1000 h) ?_
 refine gC (fun ht10 => ?_) (fun ht10 => ?_) (st1 := (2,0))
 ·cases ht10
 ·refine gR ?_
  show Fin _ (AV.tup [ptA a b,.v .nilIface]) _ _
  exact Fin.keep (keep1 rfl)
theorem c_point_product {ts : List (List Rat)} {r e : Nat} (tw : Tw ts r) {a b c d : List Rat} (ha : Nm ts.length e a) (hb : Nm ts.length e b) (hc : Nm ts.length e c) (hd : Nm ts.length e d) (he : e <= lm ts.length) (f : FuncId) (v : List Rat)
  (hf : Con Tryz.prog f [.ptr 1000 0,ptA a b,ptA c d] [(1000,some (sumB ts))] (nA v) [(1000,some (sumB ts))]) :
  FnC Tryz.prog 171 [towA ts,ptA a b,ptA c d,.fn f []] (.tup [nA v,.v .nilIface]) := by
 refine gF0 Tryz.func171 ?_
 refine gc (c_point_checkAll (e := e) tw [(a,b),(c,d)] (by simp only [List.mem_cons,List.not_mem_nil,or_false]; rintro p (rfl | rfl); exact ⟨ha,hb⟩; exact ⟨hc,hd⟩) he (by simp)) ?_
 refine gC (fun ht18 => ?_) (fun ht18 => ?_) (st1 := (3,0))
 ·cases ht18
 ·refine gs (s_callV (.tmp rfl) (show Con Tryz.prog f ([.ptr 22 0, ptA a b, ptA c d] ++ []) [(22, some (sumB ts))] (nA v) [(22, some (sumB ts))] from Con.rekeyB 22 rfl rfl rfl rfl hf) (.cons (.tmp rfl) (.cons (.tmp rfl) (.cons (.tmp rfl) .nil))) (by first | exact hH0 | exact hH1 rfl | exact hH2 rfl rfl) rfl rfl) ?_
  refine gt (s_callH (Con.rekeyB 22 rfl rfl rfl rfl (c_sum_num _ _)) (.cons (.tmp rfl) (.cons (.tmp rfl) .nil)) (by first | exact hH0 | exact hH1 rfl | exact hH2 rfl rfl) rfl rfl) ?_
  refine gE2 ?_
  rfl
theorem c_point_Turn {ts : List (List Rat)} {r e : Nat} (tw : Tw ts r) {a b c d : List Rat} (ha : Nm ts.length e a) (hb : Nm ts.length e b) (hc : Nm ts.length e c) (hd : Nm ts.length e d) (he : 2 * (e + e + kB r ts.length) <= lm ts.length) :
  FnC Tryz.prog 74 [towA ts,nA a,nA b,ptA c d] (.tup [ptA (sh ts.length (turnX ts (dec ts.length a) (dec ts.length b) (dec ts.length c) (dec ts.length d))) (sh ts.length (turnY ts (dec ts.length a) (dec ts.length b) (dec ts.length c) (dec ts.length d))),.v .nilIface]) := by
 refine gF0 Tryz.func74 ?_
 refine gc (c_point_check (e := e) tw [a,b,c,d] (by simp only [List.mem_cons,List.not_mem_nil,or_false]; rintro x (rfl | rfl | rfl | rfl) <;> assumption) (by omega) (by simp)) ?_
 refine gC (fun ht22 => ?_) (fun ht22 => ?_) (st1 := (3,0))
 ·cases ht22
 ·refine gt (s_callH (Con.rekeyB 27 rfl rfl rfl rfl (c_sum_mul tw ha hc (by omega))) (.cons (.tmp rfl) (.cons (.tmp rfl) (.cons (.tmp rfl) .nil))) (by first | exact hH0 | exact hH1 rfl | exact hH2 rfl rfl) rfl rfl) ?_
  refine gt (s_callH (Con.rekeyB 27 rfl rfl rfl rfl (c_sum_mul tw hb hd (by omega))) (.cons (.tmp rfl) (.cons (.tmp rfl) (.cons (.tmp rfl) .nil))) (by first | exact hH0 | exact hH1 rfl | exact hH2 rfl rfl) rfl rfl) ?_
  refine gt (s_callH (Con.rekeyB 27 rfl rfl rfl rfl (cross_ap ▸ c_sum_sub tw (ha.mul tw rfl hc) (hb.mul tw rfl hd) (by omega))) (.cons (.tmp rfl) (.cons (.tmp rfl) (.cons (.tmp rfl) .nil))) (by first | exact hH0 | exact hH1 rfl | exact hH2 rfl rfl) rfl rfl) ?_
  refine gt (s_callH (Con.rekeyB 27 rfl rfl rfl rfl (c_sum_mul tw hb hc (by omega))) (.cons (.tmp rfl) (.cons (.tmp rfl) (.cons (.tmp rfl) .nil))) (by first | exact hH0 | exact hH1 rfl | exact hH2 rfl rfl) rfl rfl) ?_
  refine gt (s_callH (Con.rekeyB 27 rfl rfl rfl rfl (c_sum_mul tw ha hd (by omega))) (.cons (.tmp rfl) (.cons (.tmp rfl) (.cons (.tmp rfl) .nil))) (by first | exact hH0 | exact hH1 rfl | exact hH2 rfl rfl) rfl rfl) ?_
  refine gt (s_callH (Con.rekeyB 27 rfl rfl rfl rfl (dot_ap ▸ c_sum_add tw (hb.mul tw rfl hc) (ha.mul tw rfl hd) (by omega))) (.cons (.tmp rfl) (.cons (.tmp rfl) (.cons (.tmp rfl) .nil))) (by first | exact hH0 | exact hH1 rfl | exact hH2 rfl rfl) rfl rfl) ?_
  refine gt (s_callH (Con.rekeyB 27 rfl rfl rfl rfl (c_sum_point _ _ _)) (.cons (.tmp rfl) (.cons (.tmp rfl) .nil)) (by first | exact hH0 | exact hH1 rfl | exact hH2 rfl rfl) rfl rfl) ?_
  refine gD ?_
  refine gE2 ?_
  rfl
theorem c_point_Add {ts : List (List Rat)} {r e : Nat} (tw : Tw ts r) {a b c d : List Rat} (ha : Nm ts.length e a) (hb : Nm ts.length e b) (hc : Nm ts.length e c) (hd : Nm ts.length e d) (he : 2 * e <= lm ts.length) :
  FnC Tryz.prog 76 [towA ts,ptA a b,ptA c d] (.tup [ptA (sh ts.length (T.add ts.length (dec ts.length a) (dec ts.length c))) (sh ts.length (T.add ts.length (dec ts.length b) (dec ts.length d))),.v .nilIface]) := by
 refine gF0 Tryz.func76 ?_
 refine gc (c_point_checkAll (e := e) tw [(a,b),(c,d)] (by simp only [List.mem_cons,List.not_mem_nil,or_false]; rintro p (rfl | rfl); exact ⟨ha,hb⟩; exact ⟨hc,hd⟩) (by omega) (by simp)) ?_
 refine gC (fun ht16 => ?_) (fun ht16 => ?_) (st1 := (3,0))
 ·cases ht16
 ·refine gt (s_callH (Con.rekeyB 21 rfl rfl rfl rfl (c_sum_add tw ha hc (by omega))) (.cons (.tmp rfl) (.cons (.tmp rfl) (.cons (.tmp rfl) .nil))) (by first | exact hH0 | exact hH1 rfl | exact hH2 rfl rfl) rfl rfl) ?_
  refine gt (s_callH (Con.rekeyB 21 rfl rfl rfl rfl (c_sum_add tw hb hd (by omega))) (.cons (.tmp rfl) (.cons (.tmp rfl) (.cons (.tmp rfl) .nil))) (by first | exact hH0 | exact hH1 rfl | exact hH2 rfl rfl) rfl rfl) ?_
  refine gt (s_callH (Con.rekeyB 21 rfl rfl rfl rfl (c_sum_point _ _ _)) (.cons (.tmp rfl) (.cons (.tmp rfl) .nil)) (by first | exact hH0 | exact hH1 rfl | exact hH2 rfl rfl) rfl rfl) ?_
  refine gD ?_
  refine gE2 ?_
  rfl
theorem c_point_Of {x y : Rat} (hx : Qs x) (hy : Qs y) : FnC Tryz.prog 75 [qA x, qA y] (ptA (sh 0 (x : Rat)) (sh 0 (y : Rat))) := by
 refine gF0 Tryz.func75 ?_
 refine gc (tw_Of hx) ?_
 refine gc (tw_Of hy) ?_
 refine gD ?_
 refine gE1 ?_
 first | rfl | (simp; done)
theorem c_point_At {ts : List (List Rat)} {r e : Nat} (tw : Tw ts r) {a b c d : List Rat} (ha : Nm ts.length e a) (hb : Nm ts.length e b) (hc : Nm ts.length e c) (hd : Nm ts.length e d) {x y : Rat} (hx : Qb e x) (hy : Qb e y) (he : 8 * e + 4 * kB r ts.length + 4 <= lm ts.length) :
  FnC Tryz.prog 37 [towA ts,.agg [nA a,nA b,nA c,nA d],qA x,qA y] (.tup [ptA (sh ts.length (atX ts (dec ts.length a) (dec ts.length b) (dec ts.length c) x y)) (sh ts.length (atY ts (dec ts.length a) (dec ts.length b) (dec ts.length d) x y)),.v .nilIface]) := by
 have hlm := lm_le ts.length
 have nx := Nm.ofQ ha.five (Cb.one hx)
 have ny := Nm.ofQ ha.five (Cb.one hy)
 have nX := turn_nmX tw ha hb nx ny
 have nY := turn_nmY tw ha hb nx ny
 have z1 : e <= 2 * (e + e + kB r ts.length) + 1:=by omega
 have z2 : 2 * (2 * (e + e + kB r ts.length) + 1) <= lm ts.length := at_size he
 have hadd := c_point_Add tw nX nY (hc.mono z1) (hd.mono z1) z2
 refine gF0 Tryz.func37 ?_
 refine gc (c_point_check (e := e) tw [a,b,c,d] (by simp only [List.mem_cons,List.not_mem_nil,or_false]; rintro x (rfl | rfl | rfl | rfl) <;> assumption) (by omega) (by simp)) ?_
 refine gC (fun ht25 => ?_) (fun ht25 => ?_) (st1 := (3,0))
 ·cases ht25
 ·refine gc (c_point_Of (hx.qs (by omega)) (hy.qs (by omega))) ?_
  refine gc (c_point_Turn tw ha hb nx ny (by omega)) ?_
  refine gD ?_
  refine gC (fun ht41 => ?_) (fun ht41 => ?_) (st1 := (6,0))
  ·cases ht41
  ·refine gc hadd ?_
   refine gE2 ?_
   rw [at_ap1,at_ap2]; rfl
end Go.Lw
namespace Go.Lw
open Go.Proofs
theorem c_r11_Bad (rs : List (List Rt)) (r e : Nat) (h : TR rs r) (xs : List (List Rt)) (hx : ∀ a ∈ xs, NR a e) (he : e <= lm rs.length) (hl : xs.length <= 1000) : FnC Tryz.prog 10 [towR rs, .lst 1 (xs.map nR)] (i64 (chksE rs xs)) := by
  refine gF0 Tryz.func10 ?_
  refine gc (c_r04_Check rs r h) ?_
  refine gC (fun ht13 => ?_) (fun ht13 => ?_)
  · have h1 := neq_t ht13
    refine gE1 ?_
    rw [chks_chk h1]
  · have h1 := neq_f ht13
    refine gl ?_
    refine gL1 [2,15,16] [2] (fun (i : Nat) => [(17,some (i64 i))]) (fun _ => []) (fun i => i <= xs.length /\ ∀ x ∈ xs.take i,numE rs.length x = 0) (fun i => xs.length - i) 0 ⟨Nat.zero_le _,fun x hx => by simp at hx⟩ ?_
    rintro i ⟨hi,hj⟩ K1 hK1
    refine gC (fun ht18 => ?_) (fun ht18 => ?_)
    · have hin : i < xs.length := by simpa [icmp] using ht18
      obtain ⟨a,ha⟩ := getx hin
      have hok := hx a (List.mem_of_getElem? ha)
      have hone : chksE rs [a] = numE rs.length a := chks_one h1
      refine gi (getmap ha) ?_
      refine gc (c_r04_Lift rs r h a e hok he) ?_
      refine gC (fun ht28 => ?_) (fun ht28 => ?_)
      · have h2 := neq_t ht28
        refine gE1 ?_
        rw [hone] at h2 ⊢; rw [chks_at h1 ha hj h2]
      · have h2 := neq_f ht28
        rw [hone] at h2
        refine ga (i64_add1 (by unfold maxL; omega)) ?_
        exact gK1 hK1 (i + 1) ⟨hin,fun x hx => by rw [take_succ_get ha] at hx; rcases List.mem_append.1 hx with h9 | h9; exact hj x h9; (rw [List.mem_singleton.1 h9]; exact h2)⟩
    · have hin : i = xs.length := by have : xs.length <= i := by simpa [icmp] using ht18
                                     omega
      subst hin
      rw [List.take_length] at hj
      refine gE1 ?_
      rw [chks_of h1 hj]; rfl
theorem c_r11_Plus {ts : List (List Rat)} {r e f : Nat} (tw : Tw ts r) {a b : List Rat} (ha : Nm ts.length e a) (hb : Nm ts.length f b) (he : e + f <= lm ts.length) : FnC Tryz.prog 50 [towA ts, nA a, nA b] (nA (sh ts.length (T.add ts.length (dec ts.length a) (dec ts.length b)))) := by
 refine gF0 Tryz.func50 ?_
 refine gc (r4_Add tw ha hb he) ?_
 refine gE1 ?_
 first | rfl | (simp; done)
theorem c_r11_Minus {ts : List (List Rat)} {r e f : Nat} (tw : Tw ts r) {a b : List Rat} (ha : Nm ts.length e a) (hb : Nm ts.length f b) (he : e + f <= lm ts.length) : FnC Tryz.prog 49 [towA ts, nA a, nA b] (nA (sh ts.length (T.add ts.length (dec ts.length a) (T.neg ts.length (dec ts.length b))))) := by
 refine gF0 Tryz.func49 ?_
 refine gc (r4_Sub tw ha hb he) ?_
 refine gE1 ?_
 first | rfl | (simp; done)
theorem c_r11_Times {ts : List (List Rat)} {r e f : Nat} (tw : Tw ts r) {a b : List Rat} (ha : Nm ts.length e a) (hb : Nm ts.length f b) (he : e + f <= lm ts.length) : FnC Tryz.prog 26 [towA ts, nA a, nA b] (nA (sh ts.length (T.mul (rtsOf ts) ts.length (dec ts.length a) (dec ts.length b)))) := by
 refine gF0 Tryz.func26 ?_
 refine gc (r4_Mul tw ha hb he) ?_
 refine gE1 ?_
 first | rfl | (simp; done)
theorem c_r11_Sign {ts : List (List Rat)} {r e : Nat} (tw : Tw ts r) {a : List Rat} (ha : Nm ts.length e a) (he : e <= lm ts.length) : FnC Tryz.prog 22 [towA ts, nA a] (i64 (T.sgn (rtsOf ts) ts.length (dec ts.length a))) := by
 refine gF0 Tryz.func22 ?_
 refine gc (r4_Sign tw ha he) ?_
 refine gE1 ?_
 first | rfl | (simp; done)
theorem c_r11_Equal {ts : List (List Rat)} {r e f : Nat} (tw : Tw ts r) {a b : List Rat} (ha : Nm ts.length e a) (hb : Nm ts.length f b) (he : e + f + 1 <= lm ts.length) : FnC Tryz.prog 24 [towA ts, nA a, nA b] (bl (eqT ts (dec ts.length a) (dec ts.length b))) := by
 refine gF0 Tryz.func24 ?_
 refine gc (r4_Cmp tw ha hb he) ?_
 refine gE1 ?_
 exact congrArg bl (sgn_dec _)
theorem c_r11_EqualPoint {ts : List (List Rat)} {r e : Nat} (tw : Tw ts r) {a b c d : List Rat} (ha : Nm ts.length e a) (hb : Nm ts.length e b) (hc : Nm ts.length e c) (hd : Nm ts.length e d) (he : 2 * e + 1 <= lm ts.length) : FnC Tryz.prog 12 [towA ts, ptA a b, ptA c d] (bl (eqT ts (dec ts.length a) (dec ts.length c) && eqT ts (dec ts.length b) (dec ts.length d))) := by
 refine gF0 Tryz.func12 ?_
 refine gc (c_r11_Equal tw ha hc (by omega)) ?_
 refine gcG (fun _ => (c_r11_Equal tw hb hd (by omega))) ?_
 refine gE1 ?_
 exact congrArg bl (and_cond _ _)
theorem c_r11_Cross {ts : List (List Rat)} {r e : Nat} (tw : Tw ts r) {a b c d : List Rat} (ha : Nm ts.length e a) (hb : Nm ts.length e b) (hc : Nm ts.length e c) (hd : Nm ts.length e d) (he : 2 * (e + e + kB r ts.length) <= lm ts.length) : FnC Tryz.prog 25 [towA ts, ptA a b, ptA c d] (nA (sh ts.length (crossT ts (dec ts.length a) (dec ts.length b) (dec ts.length c) (dec ts.length d)))) := by
 refine gF0 Tryz.func25 ?_
 refine gc (c_r11_Times tw ha hd (by omega)) ?_
 refine gc (c_r11_Times tw hb hc (by omega)) ?_
 refine gc (cross_ap ▸ c_r11_Minus tw (ha.mul tw rfl hd) (hb.mul tw rfl hc) (by omega)) ?_
 refine gD ?_
 refine gE1 ?_
 first | rfl | (simp; done)
theorem c_r11_Sub {ts : List (List Rat)} {r e : Nat} (tw : Tw ts r) {a b c d : List Rat} (ha : Nm ts.length e a) (hb : Nm ts.length e b) (hc : Nm ts.length e c) (hd : Nm ts.length e d) (he : 2 * e <= lm ts.length) : FnC Tryz.prog 21 [towA ts, ptA a b, ptA c d] (ptA (sh ts.length (subT ts (dec ts.length a) (dec ts.length c))) (sh ts.length (subT ts (dec ts.length b) (dec ts.length d)))) := by
 refine gF0 Tryz.func21 ?_
 refine gc (c_r11_Minus tw ha hc (by omega)) ?_
 refine gc (c_r11_Minus tw hb hd (by omega)) ?_
 refine gD ?_
 refine gE1 ?_
 first | rfl | (simp; done)
theorem c_r11_Add {ts : List (List Rat)} {r e : Nat} (tw : Tw ts r) {a b c d : List Rat} (ha : Nm ts.length e a) (hb : Nm ts.length e b) (hc : Nm ts.length e c) (hd : Nm ts.length e d) (he : 2 * e <= lm ts.length) : FnC Tryz.prog 40 [towA ts, ptA a b, ptA c d] (ptA (sh ts.length (T.add ts.length (dec ts.length a) (dec ts.length c))) (sh ts.length (T.add ts.length (dec ts.length b) (dec ts.length d)))) := by
 refine gF0 Tryz.func40 ?_
 refine gc (c_r11_Plus tw ha hc (by omega)) ?_
 refine gc (c_r11_Plus tw hb hd (by omega)) ?_
 refine gD ?_
 refine gE1 ?_
 first | rfl | (simp; done)
theorem c_r11_Turn {ts : List (List Rat)} {r e : Nat} (tw : Tw ts r) {a b c d : List Rat} (ha : Nm ts.length e a) (hb : Nm ts.length e b) (hc : Nm ts.length e c) (hd : Nm ts.length e d) (he : 2 * (e + e + kB r ts.length) <= lm ts.length) : FnC Tryz.prog 41 [towA ts, nA a, nA b, ptA c d] (ptA (sh ts.length (turnX ts (dec ts.length a) (dec ts.length b) (dec ts.length c) (dec ts.length d))) (sh ts.length (turnY ts (dec ts.length a) (dec ts.length b) (dec ts.length c) (dec ts.length d)))) := by
 refine gF0 Tryz.func41 ?_
 refine gc (c_r11_Times tw ha hc (by omega)) ?_
 refine gc (c_r11_Times tw hb hd (by omega)) ?_
 refine gc (cross_ap ▸ c_r11_Minus tw (ha.mul tw rfl hc) (hb.mul tw rfl hd) (by omega)) ?_
 refine gc (c_r11_Times tw hb hc (by omega)) ?_
 refine gc (c_r11_Times tw ha hd (by omega)) ?_
 refine gc (dot_ap ▸ c_r11_Plus tw (hb.mul tw rfl hc) (ha.mul tw rfl hd) (by omega)) ?_
 refine gD ?_
 refine gE1 ?_
 first | rfl | (simp; done)
theorem c_r11_Of {x y : Rat} (hx : Qs x) (hy : Qs y) : FnC Tryz.prog 34 [qA x, qA y] (ptA (sh 0 (x : Rat)) (sh 0 (y : Rat))) := by
 refine gF0 Tryz.func34 ?_
 refine gc (r4_Of hx) ?_
 refine gc (r4_Of hy) ?_
 refine gD ?_
 refine gE1 ?_
 first | rfl | (simp; done)
theorem c_r11_At {ts : List (List Rat)} {r e : Nat} (tw : Tw ts r) {a b c d : List Rat} (ha : Nm ts.length e a) (hb : Nm ts.length e b) (hc : Nm ts.length e c) (hd : Nm ts.length e d) {x y : Rat} (hx : Qb e x) (hy : Qb e y) (he : 8 * e + 4 * kB r ts.length + 4 <= lm ts.length) :
  FnC Tryz.prog 13 [towA ts,.agg [nA a,nA b,nA c,nA d],qA x,qA y] (ptA (sh ts.length (atX ts (dec ts.length a) (dec ts.length b) (dec ts.length c) x y)) (sh ts.length (atY ts (dec ts.length a) (dec ts.length b) (dec ts.length d) x y))) := by
 have hlm := lm_le ts.length
 have nx := Nm.ofQ ha.five (Cb.one hx)
 have ny := Nm.ofQ ha.five (Cb.one hy)
 have nX := turn_nmX tw ha hb nx ny
 have nY := turn_nmY tw ha hb nx ny
 have z1 : e <= 2 * (e + e + kB r ts.length) + 1:=by omega
 have z2 : 2 * (2 * (e + e + kB r ts.length) + 1) <= lm ts.length := at_size he
 have hadd := c_r11_Add tw nX nY (hc.mono z1) (hd.mono z1) z2
 refine gF0 Tryz.func13 ?_
 refine gc (c_r11_Of (hx.qs (by omega)) (hy.qs (by omega))) ?_
 refine gc (c_r11_Turn tw ha hb nx ny (by omega)) ?_
 refine gc hadd ?_
 refine gD ?_
 refine gE1 ?_
 rw [at_ap1,at_ap2]; rfl
end Go.Lw
namespace Go.Lw
open Go.Proofs
end Go.Lw
namespace Go.Lw
open Go.Proofs
section
variable {ts : List (List Rat)} {u k : Nat} {a b a2 b2 : List Rat} {x y x2 y2 : Et ts} {w v w' v' w2 v2 w3 v3 : Nat}
theorem two_lm (c : Ct ts u k) (h : w + v + (w' + v') <= 10000) : w * u + v * k + (w' * u + v' * k) + 1 <= lm ts.length := by
 have h1 := zl_le c (w := w + w') (v := v + v') (m := 10000) (by omega)
 have h2 := lm_ge ts.length
 rw [wv_add]; omega
theorem one_lm (c : Ct ts u k) (h : w + v <= 10000) : w * u + v * k <= lm ts.length := zl_lm c h
theorem pt_lm (c : Ct ts u k) {R : Nat} (h : eB R ts.length <= k) : 2 * (2500 * 1000000 + 2500 * 1000000 + kB R ts.length) <= lm ts.length := by
 have h1 := c.kk h
 have h2 := lm_ge ts.length
 omega
theorem x_Add [c : Ct ts u k] [ha : Zl ts u k a x w v] [hb : Zl ts u k b y w' v'] (h : w + v + (w' + v') <= 10000 := by decide) : FnC Tryz.prog 160 [towA ts, nA a, nA b] (.tup [nA (sX (x + y)), .v .nilIface]) := by
 obtain ⟨R,tw,hk⟩ := c.ex
 have h0 := two_lm c h
 have h1 := tw_Add tw ha.nm hb.nm (by omega)
 rw [ha.eq,hb.eq] at h1
 exact h1
theorem x_Sub [c : Ct ts u k] [ha : Zl ts u k a x w v] [hb : Zl ts u k b y w' v'] (h : w + v + (w' + v') <= 10000 := by decide) : FnC Tryz.prog 158 [towA ts, nA a, nA b] (.tup [nA (sX (x - y)), .v .nilIface]) := by
 obtain ⟨R,tw,hk⟩ := c.ex
 have h0 := two_lm c h
 have h1 := tw_Sub tw ha.nm hb.nm (by omega)
 rw [ha.eq,hb.eq] at h1
 exact h1
theorem x_Mul [c : Ct ts u k] [ha : Zl ts u k a x w v] [hb : Zl ts u k b y w' v'] (h : w + v + (w' + v') <= 10000 := by decide) : FnC Tryz.prog 159 [towA ts, nA a, nA b] (.tup [nA (sX (x * y)), .v .nilIface]) := by
 obtain ⟨R,tw,hk⟩ := c.ex
 have h0 := two_lm c h
 have h1 := tw_Mul tw ha.nm hb.nm (by omega)
 rw [ha.eq,hb.eq] at h1
 exact h1
theorem xr_Plus [c : Ct ts u k] [ha : Zl ts u k a x w v] [hb : Zl ts u k b y w' v'] (h : w + v + (w' + v') <= 10000 := by decide) : FnC Tryz.prog 50 [towA ts, nA a, nA b] (nA (sX (x + y))) := by
 obtain ⟨R,tw,hk⟩ := c.ex
 have h0 := two_lm c h
 have h1 := c_r11_Plus tw ha.nm hb.nm (by omega)
 rw [ha.eq,hb.eq] at h1
 exact h1
theorem xr_Minus [c : Ct ts u k] [ha : Zl ts u k a x w v] [hb : Zl ts u k b y w' v'] (h : w + v + (w' + v') <= 10000 := by decide) : FnC Tryz.prog 49 [towA ts, nA a, nA b] (nA (sX (x - y))) := by
 obtain ⟨R,tw,hk⟩ := c.ex
 have h0 := two_lm c h
 have h1 := c_r11_Minus tw ha.nm hb.nm (by omega)
 rw [ha.eq,hb.eq] at h1
 exact h1
theorem xr_Times [c : Ct ts u k] [ha : Zl ts u k a x w v] [hb : Zl ts u k b y w' v'] (h : w + v + (w' + v') <= 10000 := by decide) : FnC Tryz.prog 26 [towA ts, nA a, nA b] (nA (sX (x * y))) := by
 obtain ⟨R,tw,hk⟩ := c.ex
 have h0 := two_lm c h
 have h1 := c_r11_Times tw ha.nm hb.nm (by omega)
 rw [ha.eq,hb.eq] at h1
 exact h1
theorem xr_Equal [c : Ct ts u k] [ha : Zl ts u k a x w v] [hb : Zl ts u k b y w' v'] (h : w + v + (w' + v') <= 10000 := by decide) : FnC Tryz.prog 24 [towA ts, nA a, nA b] (bl (eqE x y)) := by
 obtain ⟨R,tw,hk⟩ := c.ex
 have h0 := two_lm c h
 have h1 := c_r11_Equal tw ha.nm hb.nm (by omega)
 rw [ha.eq,hb.eq] at h1
 exact h1
theorem x_Neg [c : Ct ts u k] [ha : Zl ts u k a x w v] (h : w + v <= 10000 := by decide) : FnC Tryz.prog 92 [towA ts, nA a] (.tup [nA (sX (-x)), .v .nilIface]) := by
 obtain ⟨R,tw,hk⟩ := c.ex
 have h0 := one_lm c h
 have h1 := tw_Neg tw ha.nm (by omega)
 rw [ha.eq] at h1
 exact h1
theorem x_Sign [c : Ct ts u k] [ha : Zl ts u k a x w v] (h : w + v <= 10000 := by decide) : FnC Tryz.prog 110 [towA ts, nA a] (.tup [i64 (sgE x), .v .nilIface]) := by
 obtain ⟨R,tw,hk⟩ := c.ex
 have h0 := one_lm c h
 have h1 := tw_Sign tw ha.nm (by omega)
 rw [ha.eq] at h1
 exact h1
theorem xr_Sign [c : Ct ts u k] [ha : Zl ts u k a x w v] (h : w + v <= 10000 := by decide) : FnC Tryz.prog 22 [towA ts, nA a] (i64 (sgE x)) := by
 obtain ⟨R,tw,hk⟩ := c.ex
 have h0 := one_lm c h
 have h1 := c_r11_Sign tw ha.nm (by omega)
 rw [ha.eq] at h1
 exact h1
theorem xr_Sub [c : Ct ts u k] [ha : Zl ts u k a x w v] [hb : Zl ts u k b y w' v'] [ha2 : Zl ts u k a2 x2 w2 v2] [hb2 : Zl ts u k b2 y2 w3 v3] (h : w + v + (w' + v') + (w2 + v2 + (w3 + v3)) <= 2500 := by decide) :
  FnC Tryz.prog 21 [towA ts,ptA a b,ptA a2 b2] (ptA (sX (x - x2)) (sX (y - y2))) := by
 obtain ⟨R,tw,hk⟩ := c.ex
 have h0 := pt_lm c hk
 have h1 := c_r11_Sub (e := 2500 * 1000000) tw (ha.up c (by omega)) (hb.up c (by omega)) (ha2.up c (by omega)) (hb2.up c (by omega)) (by omega)
 rw [ha.eq,hb.eq,ha2.eq,hb2.eq] at h1
 exact h1
theorem xr_Cross [c : Ct ts u k] [ha : Zl ts u k a x w v] [hb : Zl ts u k b y w' v'] [ha2 : Zl ts u k a2 x2 w2 v2] [hb2 : Zl ts u k b2 y2 w3 v3] (h : w + v + (w' + v') + (w2 + v2 + (w3 + v3)) <= 2500 := by decide) :
  FnC Tryz.prog 25 [towA ts,ptA a b,ptA a2 b2] (nA (sX (crsE x y x2 y2))) := by
 obtain ⟨R,tw,hk⟩ := c.ex
 have h0 := pt_lm c hk
 have h1 := c_r11_Cross (e := 2500 * 1000000) tw (ha.up c (by omega)) (hb.up c (by omega)) (ha2.up c (by omega)) (hb2.up c (by omega)) (by omega)
 rw [ha.eq,hb.eq,ha2.eq,hb2.eq] at h1
 exact h1
theorem xr_EqualPoint [c : Ct ts u k] [ha : Zl ts u k a x w v] [hb : Zl ts u k b y w' v'] [ha2 : Zl ts u k a2 x2 w2 v2] [hb2 : Zl ts u k b2 y2 w3 v3] (h : w + v + (w' + v') + (w2 + v2 + (w3 + v3)) <= 2500 := by decide) :
  FnC Tryz.prog 12 [towA ts,ptA a b,ptA a2 b2] (bl (eqE x x2 && eqE y y2)) := by
 obtain ⟨R,tw,hk⟩ := c.ex
 have h0 := pt_lm c hk
 have h1 := c_r11_EqualPoint (e := 2500 * 1000000) tw (ha.up c (by omega)) (hb.up c (by omega)) (ha2.up c (by omega)) (hb2.up c (by omega)) (by omega)
 rw [ha.eq,hb.eq,ha2.eq,hb2.eq] at h1
 exact h1
def atXE (c s X : Et ts) (p q : Rat) : Et ts := (c * qE p - s * qE q) + X
def atYE (c s Y : Et ts) (p q : Rat) : Et ts := (s * qE p + c * qE q) + Y
instance Zu.atXE [c : Ct ts u k] {x y z : Et ts} {p q : Rat} {w1 v1 w2 v2 w3 v3 w4 w5 : Nat} [Zu u k x w1 v1] [Zu u k y w2 v2] [Zu u k z w3 v3] [Qz u p w4] [Qz u q w5] : Zu u k (atXE x y z p q) (w1 + w4 + (w2 + w5) + w3) (v1 + 0 + 1 + (v2 + 0 + 1) + 1 + v3 + 1) :=
  (inferInstance : Zu u k ((x * Lw.qE p - y * Lw.qE q) + z) _ _)
instance Zu.atYE [c : Ct ts u k] {x y z : Et ts} {p q : Rat} {w1 v1 w2 v2 w3 v3 w4 w5 : Nat} [Zu u k x w1 v1] [Zu u k y w2 v2] [Zu u k z w3 v3] [Qz u p w4] [Qz u q w5] : Zu u k (atYE x y z p q) (w2 + w4 + (w1 + w5) + w3) (v2 + 0 + 1 + (v1 + 0 + 1) + 1 + v3 + 1) :=
  (inferInstance : Zu u k ((y * Lw.qE p + x * Lw.qE q) + z) _ _)
end
end Go.Lw
namespace Go.Lw
open Go.Proofs
def u8 (n : Nat) : AV := .v (.int .u8 n)
theorem and_dec {p q : Bool} {a b : Nat} {c : Nat} (hp : p = decide (a <= c)) (hq : q = decide (c <= b)) : cond p q false = decide (a <= c /\ c <= b) := by
 subst hp; subst hq
 by_cases h : a <= c
 ·simp [h]
 ·simp [h]
theorem ge_u8 (c k : Nat) : icmp .geq (c : Int) (k : Int) = decide (k <= c):=by simp only [icmp,decide_eq_decide]; omega
theorem le_u8 (c k : Nat) : icmp .leq (c : Int) (k : Int) = decide (c <= k):=by simp only [icmp,decide_eq_decide]; omega
theorem letter_1 (c : Nat) : cond (cond (icmp .geq (c : Int) 97) (icmp .leq (c : Int) 122) false) true (cond (icmp .geq (c : Int) 65) (icmp .leq (c : Int) 90) false) = letterB c := by
 have e1 : cond (icmp .geq (c : Int) 97) (icmp .leq (c : Int) 122) false = decide (97 <= c /\ c <= 122) := and_dec (ge_u8 c 97) (le_u8 c 122)
 have e2 : cond (icmp .geq (c : Int) 65) (icmp .leq (c : Int) 90) false = decide (65 <= c /\ c <= 90) := and_dec (ge_u8 c 65) (le_u8 c 90)
 rw [e1,e2]
 unfold letterB
 cases decide (97 <= c /\ c <= 122) <;> rfl
theorem letter_2 (c : Nat) : cond (cond (icmp .geq (c : Int) 65) (icmp .leq (c : Int) 90) false) true (cond (icmp .geq (c : Int) 97) (icmp .leq (c : Int) 122) false) = letterB c := by
 have e1 : cond (icmp .geq (c : Int) 97) (icmp .leq (c : Int) 122) false = decide (97 <= c /\ c <= 122) := and_dec (ge_u8 c 97) (le_u8 c 122)
 have e2 : cond (icmp .geq (c : Int) 65) (icmp .leq (c : Int) 90) false = decide (65 <= c /\ c <= 90) := and_dec (ge_u8 c 65) (le_u8 c 90)
 rw [e1,e2]
 unfold letterB
 cases decide (97 <= c /\ c <= 122) <;> cases decide (65 <= c /\ c <= 90) <;> rfl
theorem digit_1 (c : Nat) : cond (icmp .geq (c : Int) 48) (icmp .leq (c : Int) 57) false = digitB c := and_dec (ge_u8 c 48) (le_u8 c 57)
theorem part_1 (c : Nat) : cond (cond (letterB c) true (digitB c)) true (icmp .eql (c : Int) 95) = partB c := by
 unfold partB
 have : icmp .eql (c : Int) 95 = decide (c = 95) := by
  rw [Bool.eq_iff_iff]; simp only [icmp,beq_iff_eq,decide_eq_true_eq]; omega
 rw [this]
 cases letterB c <;> cases digitB c <;> rfl
theorem c_token_letter (c : Nat) : FnC Tryz.prog 233 [u8 c] (bl (letterB c)) := by
 refine gF0 Tryz.func233 ?_
 refine gE1 ?_
 exact congrArg bl (letter_1 c)
theorem c_token_digit (c : Nat) : FnC Tryz.prog 299 [u8 c] (bl (digitB c)) := by
 refine gF0 Tryz.func299 ?_
 refine gE1 ?_
 exact congrArg bl (digit_1 c)
theorem c_token_part (c : Nat) : FnC Tryz.prog 234 [u8 c] (bl (partB c)) := by
 refine gF0 Tryz.func234 ?_
 refine gc (c_token_letter c) ?_
 refine gcG (fun _ => (c_token_digit c)) ?_
 refine gE1 ?_
 exact congrArg bl (part_1 c)
theorem c_r18_isLetter (c : Nat) : FnC Tryz.prog 237 [u8 c] (bl (letterB c)) := by
 refine gF0 Tryz.func237 ?_
 refine gE1 ?_
 exact congrArg bl (letter_2 c)
theorem c_r18_isDigit (c : Nat) : FnC Tryz.prog 239 [u8 c] (bl (digitB c)) := by
 refine gF0 Tryz.func239 ?_
 refine gE1 ?_
 exact congrArg bl (digit_1 c)
theorem c_token_word (s : ByteArray) (hs : s.size <= 281474976710656) : FnC Tryz.prog 167 [.v (.string s)] (i64 (wordL s)) := by
 refine gF0 Tryz.func167 ?_
 refine gs (s_guard rfl rfl rfl (fun h => s_idxStr (.opt rfl (o1 h)) (.const _) T9 rfl (by omega) (by have := empty_f h; omega) rfl)) ?_
 refine gcG (fun _ => (c_token_letter (byteAt s 0))) ?_
 refine gC (fun ht11 => ?_) (fun ht11 => ?_)
 ·have h0 : wordL s = 0 := word_none ht11
  refine gE1 ?_
  rw [h0]; rfl
 ·obtain ⟨h0, h1⟩ := word_some ht11
  refine gL1 [0] [] (fun (n : Nat) => [(3,some (i64 n))]) (fun _ => []) (fun n => 1 <= n /\ n <= s.size /\ wordN s 1 (s.size - 1) = wordN s n (s.size - n)) (fun n => s.size - n) 1 ⟨Nat.le_refl _,h0,rfl⟩ ?_
  rintro n ⟨hn1,hn,hw⟩ K1 hK1
  refine gs (s_guard rfl rfl rfl (fun h => s_idxStr (.opt rfl (o1 h)) (.opt rfl (o1 h)) T9 rfl (by omega) (by have := lss_t h; omega) rfl)) ?_
  refine gcG (fun _ => (c_token_part (byteAt s n))) ?_
  refine gC (fun ht21 => ?_) (fun ht21 => ?_)
  ·have h2 : n < s.size /\ partB (byteAt s n) = true := cond_lss ht21
   refine ga (i64_add1 (by unfold maxL; omega)) ?_
   exact gK1 hK1 (n + 1) ⟨by omega,by omega,by rw [hw,show s.size - n = (s.size - (n + 1)) + 1 by omega]; simp only [wordN,h2.2,if_true]⟩
  ·have h2 : n < s.size -> partB (byteAt s n) = false := cond_nlss ht21
   have h3 : wordL s = n := by
    unfold wordL
    rw [if_pos ⟨h0,h1⟩,hw]
    rcases Nat.lt_or_ge n s.size with h | h
    ·rw [show s.size - n = (s.size - (n + 1)) + 1 by omega]
     simp only [wordN,h2 h,Bool.false_eq_true,if_false]
    ·rw [show s.size - n = 0 by omega]; rfl
   refine gE1 ?_
   rw [h3]
theorem c_token_Name (s : ByteArray) (hs : s.size <= 281474976710656) : FnC Tryz.prog 106 [.v (.string s)] (bl (nameB s)) := by
 refine gF0 Tryz.func106 ?_
 refine gc (c_token_word s hs) ?_
 refine gE1 ?_
 exact congrArg bl (name_cond s)
theorem c_r18_at (s : ByteArray) (i : Nat) : FnC Tryz.prog 238 [.v (.string s), i64 i] (u8 (byteAt s i)) := by
 refine gF0 Tryz.func238 ?_
 refine gC (fun ht8 => ?_) (fun ht8 => ?_)
 ·have h0 := lss_t ht8
  refine gs (s_idxStr (.tmp rfl) (.tmp rfl) T9 rfl (by omega) (by omega) rfl) ?_
  refine gE1 ?_
  rfl
 ·have h0 := lss_f ht8
  refine gE1 ?_
  rw [byte_out (by omega)]; rfl
theorem c_r18_wordEnd (s : ByteArray) (hs : s.size <= 281474976710656) : FnC Tryz.prog 173 [.v (.string s), i64 0] (i64 ((if letterB (byteAt s 0) then wordN s 0 s.size else 0 : Nat))) := by
 refine gF0 Tryz.func173 ?_
 refine gc (c_r18_at s 0) ?_
 refine gc (c_r18_isLetter (byteAt s 0)) ?_
 refine gC (fun ht9 => ?_) (fun ht9 => ?_)
 ·have h0 : letterB (byteAt s 0) = false := by simpa using ht9
  refine gE1 ?_
  rw [h0]; rfl
 ·have h0 : letterB (byteAt s 0) = true := by simpa using ht9
  refine gL1 [0] [] (fun (n : Nat) => [(1,some (i64 n))]) (fun _ => []) (fun n => n <= s.size /\ wordN s 0 s.size = wordN s n (s.size - n)) (fun n => s.size - n) 0 ⟨Nat.zero_le _,rfl⟩ ?_
  rintro n ⟨hn,hw⟩ K1 hK1
  refine gc (c_r18_at s n) ?_
  refine gc (c_r18_isLetter (byteAt s n)) ?_
  refine gcG (fun _ => (c_r18_at s n)) ?_
  refine gcG (fun _ => (c_r18_isDigit (byteAt s n))) ?_
  refine gcG (fun _ => (c_r18_at s n)) ?_
  refine gC (fun ht26 => ?_) (fun ht26 => ?_)
  ·have h1 : partB (byteAt s n) = true := (part_1 _).symm.trans ht26
   have h2 : n < s.size := by
    rcases Nat.lt_or_ge n s.size with h | h
    ·exact h
    ·rw [byte_out h] at h1; cases h1
   refine ga (i64_add1 (by unfold maxL; omega)) ?_
   exact gK1 hK1 (n + 1) ⟨by omega,by rw [hw,show s.size - n = (s.size - (n + 1)) + 1 by omega]; simp only [wordN,h1,if_true]⟩
  ·have h1 : partB (byteAt s n) = false := (part_1 _).symm.trans ht26
   have h2 : wordN s 0 s.size = n := by
    rw [hw]
    rcases Nat.lt_or_ge n s.size with h | h
    ·rw [show s.size - n = (s.size - (n + 1)) + 1 by omega]
     simp only [wordN,h1,Bool.false_eq_true,if_false]
    ·rw [show s.size - n = 0 by omega]; rfl
   refine gE1 ?_
   rw [h0,h2]; rfl
theorem c_r18_Name (s : ByteArray) (hs : s.size <= 281474976710656) : FnC Tryz.prog 115 [.v (.string s)] (bl (nameB s)) := by
 refine gF0 Tryz.func115 ?_
 refine gcG (fun _ => (c_r18_wordEnd s hs)) ?_
 refine gE1 ?_
 exact congrArg bl (name_cond2 s)
end Go.Lw
namespace Go.Lw
open Go.Proofs
theorem c_model_in (i : Int) (n : Nat) : FnC Tryz.prog 169 [i64 i, i64 n] (bl (inB i n)) := by
 refine gF0 Tryz.func169 ?_
 refine gE1 ?_
 exact congrArg bl (inB_cond i n)
theorem c_model_bodies (bs : List Bd) (hbs : ∀ b ∈ bs, b.ok) (hl : bs.length <= 281474976710656) : FnC Tryz.prog 107 [.lst 2 (bs.map Bd.av)] (errA (firstN bs.length (bdE bs))) := by
 refine gF0 Tryz.func107 ?_
 refine gl ?_
 refine gL1 [0,11,12] [] (fun (i : Nat) => [(13,some (i64 i))]) (fun _ => []) (fun i => i <= bs.length /\ ∀ j,j < i -> bdE bs j = 0) (fun i => bs.length - i) 0 ⟨Nat.zero_le _,fun j h => by omega⟩ ?_
 rintro i ⟨hi,hj⟩ K1 hK1
 refine gC (fun ht14 => ?_) (fun ht14 => ?_)
 ·have hin := lss_t ht14
  obtain ⟨b,hb⟩ := getx hin
  have hbd : bs.getD i default = b := getD_of hb
  have hbo := hbs b (List.mem_of_getElem? hb)
  have hbdup := dup_names Bd.name hb
  refine gi (getmap hb) ?_
  refine gc (c_token_Name b.name hbo.name) ?_
  refine gC (fun ht21 => ?_) (fun ht21 => ?_)
  ·have h1 := not_t ht21
   have e1 : bdE bs i = 5:=by unfold bdE; rw [hbd,if_pos h1]
   refine gE1 ?_
   rw [firstN_at hin hj (by rw [e1]; decide),e1]; rfl
  ·have h1 := not_f ht21
   refine gs (s_sliceLst (.tmp rfl) (.none _) (.some _ (.tmp rfl) (by omega)) T70 rfl T131 rfl (by omega) (by simp only [List.length_map]; omega) rfl) ?_
   refine ge rfl ?_
   refine gL1 [0,3,4,11,12,13] [4] (fun (k : Nat) => [(25,some (.lst 2 ((bs.take i).map Bd.av))),(26,some (i64 i)),(27,some (i64 k))]) (fun _ => []) (fun k => k <= i /\ (bs.take k).any (fun y => eqS y.name b.name) = false) (fun k => i - k) 0 ⟨Nat.zero_le _,rfl⟩ ?_ (h1 := (.cons rfl (Sub.of (cutT 2 Bd.av bs i)) (.cons rfl (Sub.int (by simp; omega)) (.k .nil))))
   rintro k ⟨hk,hd⟩ K2 hK2
   refine gC (fun ht28 => ?_) (fun ht28 => ?_)
   ·have hkn := lss_t ht28
    obtain ⟨y,hy'⟩ : ∃ y,(bs.take i)[k]? = some y := getx (by simp; omega)
    have hy := (get_take hy').1
    refine gi (getmap hy') ?_
    refine gC (fun ht35 => ?_) (fun ht35 => ?_)
    ·have h2 : eqS y.name b.name = true := ht35
     have e1 : bdE bs i = 6:=by unfold bdE; rw [hbd,if_neg (by rw [h1]; decide),if_pos (by rw [hbdup]; exact any_hit hy hkn h2)]
     refine gE1 ?_
     rw [firstN_at hin hj (by rw [e1]; decide),e1]; rfl
    ·have h2 : eqS y.name b.name = false := ht35
     refine ga (i64_add1 (by unfold maxL; omega)) ?_
     exact gK1 hK2 (k + 1) ⟨hkn,any_step hy hd h2⟩
   ·have hkn := lss_end hk ht28
    subst hkn
    have hnd : ¬ dupB (bs.map Bd.name) k = true:=by rw [hbdup,hd]; decide
    refine gl ?_
    refine gC (fun ht41 => ?_) (fun ht41 => ?_)
    ·have h3 : 8 < b.pts.length := gtr_t ht41
     have e1 : bdE bs k = 4:=by unfold bdE; rw [hbd,if_neg (by rw [h1]; decide),if_neg hnd,if_pos h3]
     refine gE1 ?_
     rw [firstN_at hin hj (by rw [e1]; decide),e1]; rfl
    ·have h3 : b.pts.length <= 8 := gtr_f ht41
     have e1 : bdE bs k = firstN b.pts.length (mkE b.pts):=by unfold bdE; rw [hbd,if_neg (by rw [h1]; decide),if_neg hnd,if_neg (by omega)]
     refine gl ?_
     refine gL1 [0,4,11,12,13,44,45] [4] (fun (p : Nat) => [(46,some (i64 p))]) (fun _ => []) (fun p => p <= b.pts.length /\ ∀ j,j < p -> mkE b.pts j = 0) (fun p => b.pts.length - p) 0 ⟨Nat.zero_le _,fun j h => by omega⟩ ?_
     rintro p ⟨hp,hpj⟩ K3 hK3
     refine gC (fun ht47 => ?_) (fun ht47 => ?_)
     ·have hpn := lss_t ht47
      obtain ⟨m,hm⟩ := getx hpn
      have hmd : b.pts.getD p default = m := getD_of hm
      have hmm := List.mem_of_getElem? hm
      have hmdup := dup_names Mk.name hm
      have hmo := hbo.pts m hmm
      refine gi (getmap hm) ?_
      refine gc (c_token_Name m.name (hbo.names m hmm)) ?_
      refine gC (fun ht54 => ?_) (fun ht54 => ?_)
      ·have h4 := not_t ht54
       have e2 : mkE b.pts p = 5:=by unfold mkE; rw [hmd,if_pos h4]
       have e3 : bdE bs k = 5:=by rw [e1,firstN_at hpn hpj (by rw [e2]; decide),e2]
       refine gE1 ?_
       rw [firstN_at hin hj (by rw [e3]; decide),e3]; rfl
      ·have h4 := not_f ht54
       refine gs (s_sliceLst (.tmp rfl) (.none _) (.some _ (.tmp rfl) (by omega)) T129 rfl T128 rfl (by omega) (by simp only [List.length_map]; omega) rfl) ?_
       refine ge rfl ?_
       refine gL1 [0,4,8,11,12,13,44,45,46] [4,8] (fun (q : Nat) => [(59,some (.lst 7 ((b.pts.take p).map Mk.av))),(60,some (i64 p)),(61,some (i64 q))]) (fun _ => []) (fun q => q <= p /\ (b.pts.take q).any (fun y => eqS y.name m.name) = false) (fun q => p - q) 0 ⟨Nat.zero_le _,rfl⟩ ?_ (h1 := (.cons rfl (Sub.of (cutT 7 Mk.av b.pts p)) (.cons rfl (Sub.int (by simp; omega)) (.k .nil))))
       rintro q ⟨hq,hqd⟩ K4 hK4
       refine gC (fun ht62 => ?_) (fun ht62 => ?_)
       ·have hqn := lss_t ht62
        obtain ⟨y,hy'⟩ : ∃ y,(b.pts.take p)[q]? = some y := getx (by simp; omega)
        have hy := (get_take hy').1
        refine gi (getmap hy') ?_
        refine gC (fun ht69 => ?_) (fun ht69 => ?_)
        ·have h5 : eqS y.name m.name = true := ht69
         have e2 : mkE b.pts p = 6:=by unfold mkE; rw [hmd,if_neg (by rw [h4]; decide),if_pos (by rw [hmdup]; exact any_hit hy hqn h5)]
         have e3 : bdE bs k = 6:=by rw [e1,firstN_at hpn hpj (by rw [e2]; decide),e2]
         refine gE1 ?_
         rw [firstN_at hin hj (by rw [e3]; decide),e3]; rfl
        ·have h5 : eqS y.name m.name = false := ht69
         refine ga (i64_add1 (by unfold maxL; omega)) ?_
         exact gK1 hK4 (q + 1) ⟨hqn,any_step hy hqd h5⟩
       ·have hqn := lss_end hq ht62
        subst hqn
        have hmnd : ¬ dupB (b.pts.map Mk.name) q = true:=by rw [hmdup,hqd]; decide
        refine gc (c_fraction_Valid m.x hmo.x) ?_
        refine gcG (fun _ => (c_fraction_Valid m.y hmo.y)) ?_
        refine gC (fun ht81 => ?_) (fun ht81 => ?_)
        ·have h6 := or_t ht81
         have e2 : mkE b.pts q = 3:=by unfold mkE; rw [hmd,if_neg (by rw [h4]; decide),if_neg hmnd,if_neg (by rintro ⟨g1,g2⟩; rcases h6 with g | g; (rw [g1] at g; cases g); (rw [g2] at g; cases g))]
         have e3 : bdE bs k = 3:=by rw [e1,firstN_at hpn hpj (by rw [e2]; decide),e2]
         refine gE1 ?_
         rw [firstN_at hin hj (by rw [e3]; decide),e3]; rfl
        ·have h6 := or_f ht81
         have e2 : mkE b.pts q = 0:=by unfold mkE; rw [hmd,if_neg (by rw [h4]; decide),if_neg hmnd,if_pos h6]
         refine ga (i64_add1 (by unfold maxL; omega)) ?_
         exact gK1 hK3 (q + 1) ⟨hpn,fun j h9 => by rcases Nat.lt_or_ge j q with g | g; exact hpj j g; (have : j = q:=by omega); subst this; exact e2⟩
     ·have hpn := lss_end hp ht47
      subst hpn
      have e2 : bdE bs k = 0 := e1.trans (firstN_all hpj)
      refine ga (i64_add1 (by unfold maxL; omega)) ?_
      exact gK1 hK1 (k + 1) ⟨hin,fun j h9 => by rcases Nat.lt_or_ge j k with g | g; exact hj j g; (have : j = k:=by omega); subst this; exact e2⟩
 ·have hin := lss_end hi ht14
  subst hin
  refine gE1 ?_
  rw [firstN_all hj]; rfl
end Go.Lw
namespace Go.Lw
open Go.Proofs
theorem c_model_joint (l : Li) (hl : l.ok) (j : Jt) : FnC Tryz.prog 168 [l.av, j.av] (errA (jt0 l j)) := by
 refine gF0 Tryz.func168 ?_
 refine gC (fun ht15 => ?_) (fun ht15 => ?_)
 ·have h1 := kind_t ht15
  refine gE1 ?_
  unfold jt0; rw [if_pos h1]; rfl
 ·have h1 := kind_f ht15
  refine gl ?_
  refine gc (c_model_in j.a l.bodies.length) ?_
  refine glG ?_
  refine gcG (fun _ => (c_model_in j.b l.bodies.length)) ?_
  refine gC (fun ht32 => ?_) (fun ht32 => ?_)
  ·have h2 := or_t ht32
   refine gE1 ?_
   unfold jt0; rw [if_neg h1,if_pos h2]; rfl
  ·have h2 := or_f ht32
   have h2n : ¬ (inB j.a l.bodies.length = false \/ inB j.b l.bodies.length = false):=by rw [h2.1,h2.2]; simp
   obtain ⟨A,hA,pA,mA,zA0⟩ := bodyAt h2.1
   obtain ⟨B,hB,pB,mB,zB0⟩ := bodyAt h2.2
   refine gC (fun ht38 => ?_) (fun ht38 => ?_)
   ·have h3 := eql_t ht38
    refine gE1 ?_
    unfold jt0; rw [if_neg h1,if_neg h2n,if_pos h3]; rfl
   ·have h3 := eql_f ht38
    refine gi (getmap hB) ?_
    refine gi (getmap hA) ?_
    refine gl ?_
    refine gc (c_model_in j.point A.pts.length) ?_
    refine glG ?_
    refine gcG (fun _ => (c_model_in j.on B.pts.length)) ?_
    refine gD ?_
    refine gC (fun ht66 => ?_) (fun ht66 => ?_)
    ·have h4 := or_t ht66
     refine gE1 ?_
     unfold jt0; rw [if_neg h1,if_neg h2n,if_neg h3,pA,pB,if_pos h4]; rfl
    ·have h4 := or_f ht66
     have h4n : ¬ (inB j.point A.pts.length = false \/ inB j.on B.pts.length = false):=by rw [h4.1,h4.2]; simp
     refine gC (fun ht70 => ?_) (fun ht70 => ?_)
     ·have h5 := eql_t ht70
      refine gC (fun ht73 => ?_) (fun ht73 => ?_)
      ·have h6 := neq_t' ht73
       refine gE1 ?_
       unfold jt0; rw [if_neg h1,if_neg h2n,if_neg h3,pA,pB,if_neg h4n,if_pos h5,if_pos h6]; rfl
      ·have h6 := neq_f' ht73
       refine gE1 ?_
       unfold jt0; rw [if_neg h1,if_neg h2n,if_neg h3,pA,pB,if_neg h4n,if_pos h5,if_neg (by rw [h6]; simp)]; rfl
     ·have h5 := eql_f ht70
      refine gl ?_
      refine gc (c_model_in j.to B.pts.length) ?_
      refine gC (fun ht80 => ?_) (fun ht80 => ?_)
      ·have h6 := not_t ht80
       refine gE1 ?_
       unfold jt0; rw [if_neg h1,if_neg h2n,if_neg h3,pA,pB,if_neg h4n,if_neg h5,if_pos h6]; rfl
      ·have h6 := not_f ht80
       obtain ⟨m1,g1,d1,mm1,z1⟩ := markAt h4.2
       obtain ⟨m2,g2,d2,mm2,z2⟩ := markAt h6
       have mo1 := (hl.bodies B mB).pts m1 mm1
       have mo2 := (hl.bodies B mB).pts m2 mm2
       refine gi (getmap g1) ?_
       refine gi (getmap g2) ?_
       refine gD ?_
       refine gc (c_fraction_Cmp m1.x m2.x mo1.x mo2.x) ?_
       refine gcG (fun _ => (c_fraction_Cmp m1.y m2.y mo1.y mo2.y)) ?_
       refine gC (fun ht105 => ?_) (fun ht105 => ?_)
       ·have h7 := both_t ht105
        refine gE1 ?_
        unfold jt0; rw [if_neg h1,if_neg h2n,if_neg h3,pA,pB,if_neg h4n,if_neg h5,if_neg (by rw [h6]; decide),d1,d2,if_pos h7]; rfl
       ·have h7 := both_f ht105
        refine gE1 ?_
        unfold jt0; rw [if_neg h1,if_neg h2n,if_neg h3,pA,pB,if_neg h4n,if_neg h5,if_neg (by rw [h6]; decide),d1,d2,if_neg h7]; rfl
theorem c_model_joints (l : Li) (hl : l.ok) : FnC Tryz.prog 108 [l.av] (errA (jtsE l)) := by
 have hlj := hl.lj
 refine gF0 Tryz.func108 ?_
 refine gl ?_
 refine gC (fun ht11 => ?_) (fun ht11 => ?_)
 ·have h0 : 16 < l.joints.length := gtr_t ht11
  refine gE1 ?_
  unfold jtsE; rw [if_pos h0]; rfl
 ·have h0 : l.joints.length <= 16 := gtr_f ht11
  have e0 : jtsE l = firstN l.joints.length (jtE l):=by unfold jtsE; rw [if_neg (by omega)]
  refine gl ?_
  refine gL1 [1,14,15] [1] (fun (i : Nat) => [(16,some (i64 i))]) (fun _ => []) (fun i => i <= l.joints.length /\ ∀ j,j < i -> jtE l j = 0) (fun i => l.joints.length - i) 0 ⟨Nat.zero_le _,fun j h => by omega⟩ ?_
  rintro i ⟨hi,hj⟩ K1 hK1
  refine gC (fun ht17 => ?_) (fun ht17 => ?_)
  ·have hin := lss_t ht17
   obtain ⟨b,hb⟩ := getx hin
   have hbd : l.joints.getD i default = b := getD_of hb
   have hbdup := dup_names Jt.name hb
   refine gi (getmap hb) ?_
   refine gc (c_token_Name b.name (hl.jnames b (List.mem_of_getElem? hb))) ?_
   refine gC (fun ht24 => ?_) (fun ht24 => ?_)
   ·have h1 := not_t ht24
    have e1 : jtE l i = 5:=by unfold jtE; rw [hbd,if_pos h1]
    refine gE1 ?_
    rw [e0,firstN_at hin hj (by rw [e1]; decide),e1]; rfl
   ·have h1 := not_f ht24
    refine gs (s_sliceLst (.tmp rfl) (.none _) (.some _ (.tmp rfl) (by omega)) T71 rfl T120 rfl (by omega) (by simp only [List.length_map]; omega) rfl) ?_
    refine ge rfl ?_
    refine gL1 [1,3,4,14,15,16] [1,4] (fun (k : Nat) => [(29,some (.lst 7 ((l.joints.take i).map Jt.av))),(30,some (i64 i)),(31,some (i64 k))]) (fun _ => []) (fun k => k <= i /\ (l.joints.take k).any (fun y => eqS y.name b.name) = false) (fun k => i - k) 0 ⟨Nat.zero_le _,rfl⟩ ?_ (h1 := (.cons rfl (Sub.of (cutT 7 Jt.av l.joints i)) (.cons rfl (Sub.int (by simp; omega)) (.k .nil))))
    rintro k ⟨hk,hd⟩ K2 hK2
    refine gC (fun ht32 => ?_) (fun ht32 => ?_)
    ·have hkn := lss_t ht32
     obtain ⟨y,hy'⟩ : ∃ y,(l.joints.take i)[k]? = some y := getx (by simp; omega)
     have hy := (get_take hy').1
     refine gi (getmap hy') ?_
     refine gC (fun ht39 => ?_) (fun ht39 => ?_)
     ·have h2 : eqS y.name b.name = true := ht39
      have e1 : jtE l i = 6:=by unfold jtE; rw [hbd,if_neg (by rw [h1]; decide),if_pos (by rw [hbdup]; exact any_hit hy hkn h2)]
      refine gE1 ?_
      rw [e0,firstN_at hin hj (by rw [e1]; decide),e1]; rfl
     ·have h2 : eqS y.name b.name = false := ht39
      refine ga (i64_add1 (by unfold maxL; omega)) ?_
      exact gK1 hK2 (k + 1) ⟨hkn,any_step hy hd h2⟩
    ·have hkn := lss_end hk ht32
     subst hkn
     have hnd : ¬ dupB (l.joints.map Jt.name) k = true:=by rw [hbdup,hd]; decide
     have e1 : jtE l k = jt0 l b:=by unfold jtE; rw [hbd,if_neg (by rw [h1]; decide),if_neg hnd]
     refine gc (c_model_joint l hl b) ?_
     refine gC (fun ht46 => ?_) (fun ht46 => ?_)
     ·have h3 := nNil_t ht46
      refine gE1 ?_
      rw [e0,firstN_at hin hj (by rw [e1]; exact h3),e1]
     ·have h3 := nNil_f ht46
      refine ga (i64_add1 (by unfold maxL; omega)) ?_
      exact gK1 hK1 (k + 1) ⟨hin,fun j h9 => by rcases Nat.lt_or_ge j k with g | g; exact hj j g; (have : j = k:=by omega); subst this; exact e1.trans h3⟩
  ·have hin := lss_end hi ht17
   subst hin
   refine gE1 ?_
   rw [e0,firstN_all hj]; rfl
theorem c_model_drivers (l : Li) (hl : l.ok) : FnC Tryz.prog 109 [l.av] (errA (drsE l)) := by
 have hld := hl.ld
 refine gF0 Tryz.func109 ?_
 refine gl ?_
 refine gC (fun ht12 => ?_) (fun ht12 => ?_)
 ·have h0 : 2 < l.drivers.length := gtr_t ht12
  refine gE1 ?_
  unfold drsE; rw [if_pos h0]; rfl
 ·have h0 : l.drivers.length <= 2 := gtr_f ht12
  have e0 : drsE l = firstN l.drivers.length (drE l):=by unfold drsE; rw [if_neg (by omega)]
  refine gl ?_
  refine gL1 [1,15,16] [1] (fun (i : Nat) => [(17,some (i64 i))]) (fun _ => []) (fun i => i <= l.drivers.length /\ ∀ j,j < i -> drE l j = 0) (fun i => l.drivers.length - i) 0 ⟨Nat.zero_le _,fun j h => by omega⟩ ?_
  rintro i ⟨hi,hj⟩ K1 hK1
  refine gC (fun ht18 => ?_) (fun ht18 => ?_)
  ·have hin := lss_t ht18
   obtain ⟨b,hb⟩ := getx hin
   have hbd : l.drivers.getD i default = b := getD_of hb
   have hbdup := dup_names Dr.name hb
   refine gi (getmap hb) ?_
   refine gc (c_token_Name b.name (hl.dnames b (List.mem_of_getElem? hb))) ?_
   refine gC (fun ht25 => ?_) (fun ht25 => ?_)
   ·have h1 := not_t ht25
    have e1 : drE l i = 5:=by unfold drE; rw [hbd,if_pos h1]
    refine gE1 ?_
    rw [e0,firstN_at hin hj (by rw [e1]; decide),e1]; rfl
   ·have h1 := not_f ht25
    refine gs (s_sliceLst (.tmp rfl) (.none _) (.some _ (.tmp rfl) (by omega)) T72 rfl T143 rfl (by omega) (by simp only [List.length_map]; omega) rfl) ?_
    refine ge rfl ?_
    refine gL1 [1,3,4,15,16,17] [1,4] (fun (k : Nat) => [(30,some (.lst 2 ((l.drivers.take i).map Dr.av))),(31,some (i64 i)),(32,some (i64 k))]) (fun _ => []) (fun k => k <= i /\ (l.drivers.take k).any (fun y => eqS y.name b.name) = false) (fun k => i - k) 0 ⟨Nat.zero_le _,rfl⟩ ?_ (h1 := (.cons rfl (Sub.of (cutT 2 Dr.av l.drivers i)) (.cons rfl (Sub.int (by simp; omega)) (.k .nil))))
    rintro k ⟨hk,hd⟩ K2 hK2
    refine gC (fun ht33 => ?_) (fun ht33 => ?_)
    ·have hkn := lss_t ht33
     obtain ⟨y,hy'⟩ : ∃ y,(l.drivers.take i)[k]? = some y := getx (by simp; omega)
     have hy := (get_take hy').1
     refine gi (getmap hy') ?_
     refine gC (fun ht40 => ?_) (fun ht40 => ?_)
     ·have h2 : eqS y.name b.name = true := ht40
      have e1 : drE l i = 6:=by unfold drE; rw [hbd,if_neg (by rw [h1]; decide),if_pos (by rw [hbdup]; exact any_hit hy hkn h2)]
      refine gE1 ?_
      rw [e0,firstN_at hin hj (by rw [e1]; decide),e1]; rfl
     ·have h2 : eqS y.name b.name = false := ht40
      refine ga (i64_add1 (by unfold maxL; omega)) ?_
      exact gK1 hK2 (k + 1) ⟨hkn,any_step hy hd h2⟩
    ·have hkn := lss_end hk ht33
     subst hkn
     have hnd : ¬ dupB (l.drivers.map Dr.name) k = true:=by rw [hbdup,hd]; decide
     refine gl ?_
     refine gc (c_model_in b.body l.bodies.length) ?_
     refine gC (fun ht49 => ?_) (fun ht49 => ?_)
     ·have h3 := not_t ht49
      have e1 : drE l k = 9:=by unfold drE; rw [hbd,if_neg (by rw [h1]; decide),if_neg hnd,if_pos h3]
      refine gE1 ?_
      rw [e0,firstN_at hin hj (by rw [e1]; decide),e1]; rfl
     ·have h3 := not_f ht49
      refine gC (fun ht53 => ?_) (fun ht53 => ?_)
      ·have h4 := eql_t ht53
       have e1 : drE l k = 7:=by unfold drE; rw [hbd,if_neg (by rw [h1]; decide),if_neg hnd,if_neg (by rw [h3]; decide),if_pos h4]
       refine gE1 ?_
       rw [e0,firstN_at hin hj (by rw [e1]; decide),e1]; rfl
      ·have h4 := eql_f ht53
       have e1 : drE l k = if (l.drivers.take k).any (fun d => decide (d.body = b.body)) = true then 6 else 0:=by unfold drE; rw [hbd,if_neg (by rw [h1]; decide),if_neg hnd,if_neg (by rw [h3]; decide),if_neg h4]
       refine gs (s_sliceLst (.tmp rfl) (.none _) (.some _ (.tmp rfl) (by omega)) T72 rfl T143 rfl (by omega) (by simp only [List.length_map]; omega) rfl) ?_
       refine ge rfl ?_
       refine gL1 [1,4,15,16,17] [1,4] (fun (q : Nat) => [(58,some (.lst 2 ((l.drivers.take k).map Dr.av))),(59,some (i64 k)),(60,some (i64 q))]) (fun _ => []) (fun q => q <= k /\ (l.drivers.take q).any (fun d => decide (d.body = b.body)) = false) (fun q => k - q) 0 ⟨Nat.zero_le _,rfl⟩ ?_ (h1 := (.cons rfl (Sub.of (cutT 2 Dr.av l.drivers k)) (.cons rfl (Sub.int (by simp; omega)) (.k .nil))))
       rintro q ⟨hq,hqd⟩ K3 hK3
       refine gC (fun ht61 => ?_) (fun ht61 => ?_)
       ·have hqn := lss_t ht61
        obtain ⟨y,hy'⟩ : ∃ y,(l.drivers.take k)[q]? = some y := getx (by simp; omega)
        have hy := (get_take hy').1
        refine gi (getmap hy') ?_
        refine gC (fun ht68 => ?_) (fun ht68 => ?_)
        ·have h5 : decide (y.body = b.body) = true := decide_eq_true (eql_t ht68)
         have e2 : drE l k = 6:=by rw [e1,if_pos (any_hit hy hqn h5)]
         refine gE1 ?_
         rw [e0,firstN_at hin hj (by rw [e2]; decide),e2]; rfl
        ·have h5 : decide (y.body = b.body) = false := decide_eq_false (eql_f ht68)
         refine ga (i64_add1 (by unfold maxL; omega)) ?_
         exact gK1 hK3 (q + 1) ⟨hqn,any_step hy hqd h5⟩
       ·have hqn := lss_end hq ht61
        subst hqn
        have e2 : drE l q = 0:=by rw [e1,hqd]; rfl
        refine ga (i64_add1 (by unfold maxL; omega)) ?_
        exact gK1 hK1 (q + 1) ⟨hin,fun j h9 => by rcases Nat.lt_or_ge j q with g | g; exact hj j g; (have : j = q:=by omega); subst this; exact e2⟩
  ·have hin := lss_end hi ht18
   subst hin
   refine gE1 ?_
   rw [e0,firstN_all hj]; rfl
theorem c_model_Check (l : Li) (hl : l.ok) : FnC Tryz.prog 55 [l.av] (errA (liE l)) := by
 have hlb := hl.lb
 refine gF0 Tryz.func55 ?_
 refine gc (c_token_Name l.name hl.name) ?_
 refine gC (fun ht8 => ?_) (fun ht8 => ?_)
 ·have h1 := not_t ht8
  refine gE1 ?_
  unfold liE; rw [if_pos h1]; rfl
 ·have h1 := not_f ht8
  refine gl ?_
  refine gC (fun ht13 => ?_) (fun ht13 => ?_)
  ·have h2 := eql0_t ht13
   refine gE1 ?_
   unfold liE; rw [if_neg (by rw [h1]; decide),if_pos h2]; rfl
  ·have h2 := eql0_f ht13
   refine gl ?_
   refine gC (fun ht18 => ?_) (fun ht18 => ?_)
   ·have h3 : 8 < l.bodies.length := gtr_t ht18
    refine gE1 ?_
    unfold liE; rw [if_neg (by rw [h1]; decide),if_neg h2,if_pos h3]; rfl
   ·have h3 : l.bodies.length <= 8 := gtr_f ht18
    have e0 : liE l = if bdsE l ≠ 0 then bdsE l else if jtsE l ≠ 0 then jtsE l else drsE l:=by unfold liE; rw [if_neg (by rw [h1]; decide),if_neg h2,if_neg (by omega)]
    refine gc (c_model_bodies l.bodies hl.bodies hlb) ?_
    refine gC (fun ht24 => ?_) (fun ht24 => ?_)
    ·have h4 : bdsE l ≠ 0 := nNil_t ht24
     refine gE1 ?_
     rw [e0,if_pos h4]; rfl
    ·have h4 : bdsE l = 0 := nNil_f ht24
     refine gc (c_model_joints l hl) ?_
     refine gC (fun ht29 => ?_) (fun ht29 => ?_)
     ·have h5 := nNil_t ht29
      refine gE1 ?_
      rw [e0,if_neg (by rw [h4]; simp),if_pos h5]
     ·have h5 := nNil_f ht29
      refine gc (c_model_drivers l hl) ?_
      refine gE1 ?_
      rw [e0,if_neg (by rw [h4]; simp),if_neg (by rw [h5]; simp)]
end Go.Lw
namespace Go.Lw
open Go.Proofs
theorem c_r19_index (i : Int) (n : Nat) : FnC Tryz.prog 175 [i64 i, i64 n] (bl (inB i n)) := by
 refine gF0 Tryz.func175 ?_
 refine gE1 ?_
 exact congrArg bl (inB_cond i n)
theorem c_r19_same (p q : Mk) (hp : p.ok) (hq : q.ok) : FnC Tryz.prog 176 [p.av, q.av] (bl (decide (p.x.q = q.x.q /\ p.y.q = q.y.q))) := by
 refine gF0 Tryz.func176 ?_
 refine gc (c_r02_Cmp p.x q.x hp.x hq.x ((hp.qx.sub hq.qx).qs (by omega))) ?_
 refine gcG (fun _ => (c_r02_Cmp p.y q.y hp.y hq.y ((hp.qy.sub hq.qy).qs (by omega)))) ?_
 refine gE1 ?_
 exact congrArg bl both_dec
theorem c_r19_points (b : Bd) (hbo : b.ok) : FnC Tryz.prog 174 [b.av] (i64 (if 8 < b.pts.length then 4 else firstN b.pts.length (mkE b.pts) : Nat)) := by
 have hll := hbo.ll
 refine gF0 Tryz.func174 ?_
 refine gl ?_
 refine gC (fun ht9 => ?_) (fun ht9 => ?_)
 ·have h0 : 8 < b.pts.length := gtr_t ht9
  refine gE1 ?_
  rw [if_pos h0]; rfl
 ·have h0 : b.pts.length <= 8 := gtr_f ht9
  have e0 : (if 8 < b.pts.length then 4 else firstN b.pts.length (mkE b.pts) : Nat) = firstN b.pts.length (mkE b.pts) := if_neg (by omega)
  refine gL1 [1] [1] (fun (p : Nat) => [(3,some (i64 p))]) (fun _ => []) (fun p => p <= b.pts.length /\ ∀ j,j < p -> mkE b.pts j = 0) (fun p => b.pts.length - p) 0 ⟨Nat.zero_le _,fun j h => by omega⟩ ?_
  rintro p ⟨hp,hpj⟩ K1 hK1
  refine gl ?_
  refine gC (fun ht14 => ?_) (fun ht14 => ?_)
  ·have hpn := lss_t ht14
   obtain ⟨m,hm⟩ := getx hpn
   have hmd : b.pts.getD p default = m := getD_of hm
   have hmm := List.mem_of_getElem? hm
   have hmdup := dup_names Mk.name hm
   have hmo := hbo.pts m hmm
   refine gi (getmap hm) ?_
   refine gc (c_r18_Name m.name (hbo.names m hmm)) ?_
   refine gC (fun ht25 => ?_) (fun ht25 => ?_)
   ·have h4 := not_t ht25
    have e2 : mkE b.pts p = 5:=by unfold mkE; rw [hmd,if_pos h4]
    refine gE1 ?_
    rw [e0,firstN_at hpn hpj (by rw [e2]; decide),e2]; rfl
   ·have h4 := not_f ht25
    refine gL1 [1,3,4] [1,4] (fun (q : Nat) => [(5,some (i64 q))]) (fun _ => []) (fun q => q <= p /\ (b.pts.take q).any (fun y => eqS y.name m.name) = false) (fun q => p - q) 0 ⟨Nat.zero_le _,rfl⟩ ?_
    rintro q ⟨hq,hqd⟩ K2 hK2
    refine gC (fun ht28 => ?_) (fun ht28 => ?_)
    ·have hqn := lss_t ht28
     obtain ⟨y,hy⟩ : ∃ y,b.pts[q]? = some y := getx (by omega)
     refine gi (getmap hy) ?_
     refine gD ?_
     refine gC (fun ht39 => ?_) (fun ht39 => ?_)
     ·have h5 : eqS y.name m.name = true := ht39
      have e2 : mkE b.pts p = 6:=by unfold mkE; rw [hmd,if_neg (by rw [h4]; decide),if_pos (by rw [hmdup]; exact any_hit hy hqn h5)]
      refine gE1 ?_
      rw [e0,firstN_at hpn hpj (by rw [e2]; decide),e2]; rfl
     ·have h5 : eqS y.name m.name = false := ht39
      refine ga (i64_add1 (by unfold maxL; omega)) ?_
      exact gK1 hK2 (q + 1) ⟨hqn,any_step hy hqd h5⟩
    ·have hqn := lss_end hq ht28
     subst hqn
     have hmnd : ¬ dupB (b.pts.map Mk.name) q = true:=by rw [hmdup,hqd]; decide
     refine gc (c_r02_Valid m.x hmo.x) ?_
     refine gcG (fun _ => (c_r02_Valid m.y hmo.y)) ?_
     refine gC (fun ht49 => ?_) (fun ht49 => ?_)
     ·have h6 := or_t ht49
      have e2 : mkE b.pts q = 3:=by unfold mkE; rw [hmd,if_neg (by rw [h4]; decide),if_neg hmnd,if_neg (by rintro ⟨g1,g2⟩; rcases h6 with g | g; (rw [g1] at g; cases g); (rw [g2] at g; cases g))]
      refine gE1 ?_
      rw [e0,firstN_at hpn hpj (by rw [e2]; decide),e2]; rfl
     ·have h6 := or_f ht49
      have e2 : mkE b.pts q = 0:=by unfold mkE; rw [hmd,if_neg (by rw [h4]; decide),if_neg hmnd,if_pos h6]
      refine ga (i64_add1 (by unfold maxL; omega)) ?_
      exact gK1 hK1 (q + 1) ⟨hpn,fun j h9 => by rcases Nat.lt_or_ge j q with g | g; exact hpj j g; (have : j = q:=by omega); subst this; exact e2⟩
  ·have hpn := lss_end hp ht14
   subst hpn
   refine gE1 ?_
   rw [e0,firstN_all hpj]; rfl
theorem c_r19_bodies (l : Li) (hl : l.ok) : FnC Tryz.prog 116 [l.av] (i64 (bdsE l)) := by
 have hlb := hl.lb
 have e0 : bdsE l = firstN l.bodies.length (bdE l.bodies) := rfl
 refine gF0 Tryz.func116 ?_
 refine gL1 [1] [1] (fun (i : Nat) => [(3,some (i64 i))]) (fun _ => []) (fun i => i <= l.bodies.length /\ ∀ j,j < i -> bdE l.bodies j = 0) (fun i => l.bodies.length - i) 0 ⟨Nat.zero_le _,fun j h => by omega⟩ ?_
 rintro i ⟨hi,hj⟩ K1 hK1
 refine gl ?_
 refine gC (fun ht10 => ?_) (fun ht10 => ?_)
 ·have hin := lss_t ht10
  obtain ⟨b,hb⟩ := getx hin
  have hbd : l.bodies.getD i default = b := getD_of hb
  have hbo := hl.bodies b (List.mem_of_getElem? hb)
  have hbdup := dup_names Bd.name hb
  refine gi (getmap hb) ?_
  refine gc (c_r18_Name b.name hbo.name) ?_
  refine gC (fun ht20 => ?_) (fun ht20 => ?_)
  ·have h1 := not_t ht20
   have e1 : bdE l.bodies i = 5:=by unfold bdE; rw [hbd,if_pos h1]
   refine gE1 ?_
   rw [e0,firstN_at hin hj (by rw [e1]; decide),e1]; rfl
  ·have h1 := not_f ht20
   refine gL1 [1,3] [1] (fun (k : Nat) => [(4,some (i64 k))]) (fun _ => []) (fun k => k <= i /\ (l.bodies.take k).any (fun y => eqS y.name b.name) = false) (fun k => i - k) 0 ⟨Nat.zero_le _,rfl⟩ ?_
   rintro k ⟨hk,hd⟩ K2 hK2
   refine gC (fun ht23 => ?_) (fun ht23 => ?_)
   ·have hkn := lss_t ht23
    obtain ⟨y,hy⟩ : ∃ y,l.bodies[k]? = some y := getx (by omega)
    refine gi (getmap hy) ?_
    refine gi (getmap hb) ?_
    refine gD ?_
    refine gC (fun ht38 => ?_) (fun ht38 => ?_)
    ·have h2 : eqS y.name b.name = true := ht38
     have e1 : bdE l.bodies i = 6:=by unfold bdE; rw [hbd,if_neg (by rw [h1]; decide),if_pos (by rw [hbdup]; exact any_hit hy hkn h2)]
     refine gE1 ?_
     rw [e0,firstN_at hin hj (by rw [e1]; decide),e1]; rfl
    ·have h2 : eqS y.name b.name = false := ht38
     refine ga (i64_add1 (by unfold maxL; omega)) ?_
     exact gK1 hK2 (k + 1) ⟨hkn,any_step hy hd h2⟩
   ·have hkn := lss_end hk ht23
    subst hkn
    have hnd : ¬ dupB (l.bodies.map Bd.name) k = true:=by rw [hbdup,hd]; decide
    have e1 : bdE l.bodies k = if 8 < b.pts.length then 4 else firstN b.pts.length (mkE b.pts):=by unfold bdE; rw [hbd,if_neg (by rw [h1]; decide),if_neg hnd]
    refine gi (getmap hb) ?_
    refine gc (c_r19_points b hbo) ?_
    refine gC (fun ht46 => ?_) (fun ht46 => ?_)
    ·have h3 := neq_t ht46
     refine gE1 ?_
     rw [e0,firstN_at hin hj (by rw [e1]; exact h3),e1]
    ·have h3 := neq_f ht46
     refine ga (i64_add1 (by unfold maxL; omega)) ?_
     exact gK1 hK1 (k + 1) ⟨hin,fun j h9 => by rcases Nat.lt_or_ge j k with g | g; exact hj j g; (have : j = k:=by omega); subst this; exact e1.trans h3⟩
 ·have hin := lss_end hi ht10
  subst hin
  refine gE1 ?_
  rw [e0,firstN_all hj]; rfl
theorem c_r19_joint (l : Li) (hl : l.ok) (i : Nat) (hi : i < l.joints.length) (h16 : l.joints.length <= 16) : FnC Tryz.prog 117 [l.av, i64 i] (i64 (jtE l i)) := by
 obtain ⟨j,hjj⟩ := getx hi
 have hbd : l.joints.getD i default = j := getD_of hjj
 have hbdup := dup_names Jt.name hjj
 refine gF0 Tryz.func117 ?_
 refine gi (getmap hjj) ?_
 refine gc (c_r18_Name j.name (hl.jnames j (List.mem_of_getElem? hjj))) ?_
 refine gC (fun ht17 => ?_) (fun ht17 => ?_)
 ·have h0 := not_t ht17
  refine gE1 ?_
  unfold jtE; rw [hbd,if_pos h0]; rfl
 ·have h0 := not_f ht17
  refine gL1 [1,2,5] [2,5] (fun (k : Nat) => [(6,some (i64 k))]) (fun _ => []) (fun k => k <= i /\ (l.joints.take k).any (fun y => eqS y.name j.name) = false) (fun k => i - k) 0 ⟨Nat.zero_le _,rfl⟩ ?_
  rintro k ⟨hk,hd⟩ K1 hK1
  refine gC (fun ht20 => ?_) (fun ht20 => ?_)
  ·have hkn := lss_t ht20
   obtain ⟨y,hy⟩ : ∃ y,l.joints[k]? = some y := getx (by omega)
   refine gi (getmap hy) ?_
   refine gD ?_
   refine gC (fun ht31 => ?_) (fun ht31 => ?_)
   ·have h2 : eqS y.name j.name = true := ht31
    refine gE1 ?_
    unfold jtE; rw [hbd,if_neg (by rw [h0]; decide),if_pos (by rw [hbdup]; exact any_hit hy hkn h2)]; rfl
   ·have h2 : eqS y.name j.name = false := ht31
    refine ga (i64_add1 (by unfold maxL; omega)) ?_
    exact gK1 hK1 (k + 1) ⟨hkn,any_step hy hd h2⟩
  ·have hkn := lss_end hk ht20
   subst hkn
   have hnd : ¬ dupB (l.joints.map Jt.name) k = true:=by rw [hbdup,hd]; decide
   have e1 : jtE l k = jt0 l j:=by unfold jtE; rw [hbd,if_neg (by rw [h0]; decide),if_neg hnd]
   refine gC (fun ht39 => ?_) (fun ht39 => ?_)
   ·have h1 := kind_t ht39
    refine gE1 ?_
    rw [e1]; unfold jt0; rw [if_pos h1]; rfl
   ·have h1 := kind_f ht39
    refine gl ?_
    refine gc (c_r19_index j.a l.bodies.length) ?_
    refine glG ?_
    refine gcG (fun _ => (c_r19_index j.b l.bodies.length)) ?_
    refine gC (fun ht55 => ?_) (fun ht55 => ?_)
    ·have h2 := or_t ht55
     refine gE1 ?_
     rw [e1]; unfold jt0; rw [if_neg h1,if_pos h2]; rfl
    ·have h2 := or_f ht55
     have h2n : ¬ (inB j.a l.bodies.length = false \/ inB j.b l.bodies.length = false):=by rw [h2.1,h2.2]; simp
     obtain ⟨A,hA,pA,mA,zA0⟩ := bodyAt h2.1
     obtain ⟨B,hB,pB,mB,zB0⟩ := bodyAt h2.2
     refine gC (fun ht60 => ?_) (fun ht60 => ?_)
     ·have h3 := eql_t ht60
      refine gE1 ?_
      rw [e1]; unfold jt0; rw [if_neg h1,if_neg h2n,if_pos h3]; rfl
     ·have h3 := eql_f ht60
      refine gi (getmap hA) ?_
      refine gi (getmap hB) ?_
      refine gD ?_
      refine gl ?_
      refine gc (c_r19_index j.point A.pts.length) ?_
      refine glG ?_
      refine gcG (fun _ => (c_r19_index j.on B.pts.length)) ?_
      refine gC (fun ht88 => ?_) (fun ht88 => ?_)
      ·have h4 := or_t ht88
       refine gE1 ?_
       rw [e1]; unfold jt0; rw [if_neg h1,if_neg h2n,if_neg h3,pA,pB,if_pos h4]; rfl
      ·have h4 := or_f ht88
       have h4n : ¬ (inB j.point A.pts.length = false \/ inB j.on B.pts.length = false):=by rw [h4.1,h4.2]; simp
       refine gC (fun ht91 => ?_) (fun ht91 => ?_)
       ·have h5 := eql_t ht91
        refine gC (fun ht94 => ?_) (fun ht94 => ?_)
        ·have h6 := neq_t' ht94
         refine gE1 ?_
         rw [e1]; unfold jt0; rw [if_neg h1,if_neg h2n,if_neg h3,pA,pB,if_neg h4n,if_pos h5,if_pos h6]; rfl
        ·have h6 := neq_f' ht94
         refine gE1 ?_
         rw [e1]; unfold jt0; rw [if_neg h1,if_neg h2n,if_neg h3,pA,pB,if_neg h4n,if_pos h5,if_neg (by rw [h6]; simp)]; rfl
       ·have h5 := eql_f ht91
        refine gl ?_
        refine gc (c_r19_index j.to B.pts.length) ?_
        refine gC (fun ht100 => ?_) (fun ht100 => ?_)
        ·have h6 := not_t ht100
         refine gE1 ?_
         rw [e1]; unfold jt0; rw [if_neg h1,if_neg h2n,if_neg h3,pA,pB,if_neg h4n,if_neg h5,if_pos h6]; rfl
        ·have h6 := not_f ht100
         obtain ⟨m1,g1,d1,mm1,z1⟩ := markAt h4.2
         obtain ⟨m2,g2,d2,mm2,z2⟩ := markAt h6
         have mo1 := (hl.bodies B mB).pts m1 mm1
         have mo2 := (hl.bodies B mB).pts m2 mm2
         refine gi (getmap g1) ?_
         refine gi (getmap g2) ?_
         refine gc (c_r19_same m1 m2 mo1 mo2) ?_
         refine gD ?_
         refine gC (fun ht111 => ?_) (fun ht111 => ?_)
         ·have h7 := of_decide_eq_true ht111
          refine gE1 ?_
          rw [e1]; unfold jt0; rw [if_neg h1,if_neg h2n,if_neg h3,pA,pB,if_neg h4n,if_neg h5,if_neg (by rw [h6]; decide),d1,d2,if_pos h7]; rfl
         ·have h7 := of_decide_eq_false ht111
          refine gE1 ?_
          rw [e1]; unfold jt0; rw [if_neg h1,if_neg h2n,if_neg h3,pA,pB,if_neg h4n,if_neg h5,if_neg (by rw [h6]; decide),d1,d2,if_neg h7]; rfl
theorem c_r19_driver (l : Li) (hl : l.ok) (i : Nat) (hi : i < l.drivers.length) (h2l : l.drivers.length <= 2) : FnC Tryz.prog 118 [l.av, i64 i] (i64 (drE l i)) := by
 obtain ⟨b,hb⟩ := getx hi
 have hbd : l.drivers.getD i default = b := getD_of hb
 have hbdup := dup_names Dr.name hb
 refine gF0 Tryz.func118 ?_
 refine gi (getmap hb) ?_
 refine gc (c_r18_Name b.name (hl.dnames b (List.mem_of_getElem? hb))) ?_
 refine gC (fun ht16 => ?_) (fun ht16 => ?_)
 ·have h1 := not_t ht16
  refine gE1 ?_
  unfold drE; rw [hbd,if_pos h1]; rfl
 ·have h1 := not_f ht16
  refine gL1 [1,2,5] [2,5] (fun (k : Nat) => [(6,some (i64 k))]) (fun _ => []) (fun k => k <= i /\ (l.drivers.take k).any (fun y => eqS y.name b.name) = false) (fun k => i - k) 0 ⟨Nat.zero_le _,rfl⟩ ?_
  rintro k ⟨hk,hd⟩ K1 hK1
  refine gC (fun ht19 => ?_) (fun ht19 => ?_)
  ·have hkn := lss_t ht19
   obtain ⟨y,hy⟩ : ∃ y,l.drivers[k]? = some y := getx (by omega)
   refine gi (getmap hy) ?_
   refine gD ?_
   refine gC (fun ht30 => ?_) (fun ht30 => ?_)
   ·have h2 : eqS y.name b.name = true := ht30
    refine gE1 ?_
    unfold drE; rw [hbd,if_neg (by rw [h1]; decide),if_pos (by rw [hbdup]; exact any_hit hy hkn h2)]; rfl
   ·have h2 : eqS y.name b.name = false := ht30
    refine ga (i64_add1 (by unfold maxL; omega)) ?_
    exact gK1 hK1 (k + 1) ⟨hkn,any_step hy hd h2⟩
  ·have hkn := lss_end hk ht19
   subst hkn
   have hnd : ¬ dupB (l.drivers.map Dr.name) k = true:=by rw [hbdup,hd]; decide
   refine gl ?_
   refine gc (c_r19_index b.body l.bodies.length) ?_
   refine gC (fun ht37 => ?_) (fun ht37 => ?_)
   ·have h3 := not_t ht37
    refine gE1 ?_
    unfold drE; rw [hbd,if_neg (by rw [h1]; decide),if_neg hnd,if_pos h3]; rfl
   ·have h3 := not_f ht37
    refine gC (fun ht40 => ?_) (fun ht40 => ?_)
    ·have h4 := eql_t ht40
     refine gE1 ?_
     unfold drE; rw [hbd,if_neg (by rw [h1]; decide),if_neg hnd,if_neg (by rw [h3]; decide),if_pos h4]; rfl
    ·have h4 := eql_f ht40
     have e1 : drE l k = if (l.drivers.take k).any (fun d => decide (d.body = b.body)) = true then 6 else 0:=by unfold drE; rw [hbd,if_neg (by rw [h1]; decide),if_neg hnd,if_neg (by rw [h3]; decide),if_neg h4]
     refine gL1 [1,2,5] [2,5] (fun (q : Nat) => [(7,some (i64 q))]) (fun _ => []) (fun q => q <= k /\ (l.drivers.take q).any (fun d => decide (d.body = b.body)) = false) (fun q => k - q) 0 ⟨Nat.zero_le _,rfl⟩ ?_
     rintro q ⟨hq,hqd⟩ K2 hK2
     refine gC (fun ht43 => ?_) (fun ht43 => ?_)
     ·have hqn := lss_t ht43
      obtain ⟨y,hy⟩ : ∃ y,l.drivers[q]? = some y := getx (by omega)
      refine gi (getmap hy) ?_
      refine gD ?_
      refine gC (fun ht54 => ?_) (fun ht54 => ?_)
      ·have h5 : decide (y.body = b.body) = true := decide_eq_true (eql_t ht54)
       refine gE1 ?_
       rw [e1,if_pos (any_hit hy hqn h5)]; rfl
      ·have h5 : decide (y.body = b.body) = false := decide_eq_false (eql_f ht54)
       refine ga (i64_add1 (by unfold maxL; omega)) ?_
       exact gK1 hK2 (q + 1) ⟨hqn,any_step hy hqd h5⟩
     ·have hqn := lss_end hq ht43
      subst hqn
      refine gE1 ?_
      rw [e1,hqd]; rfl
theorem c_r19_Check (l : Li) (hl : l.ok) : FnC Tryz.prog 61 [l.av] (i64 (liE l)) := by
 have hlb := hl.lb
 refine gF0 Tryz.func61 ?_
 refine gc (c_r18_Name l.name hl.name) ?_
 refine gC (fun ht11 => ?_) (fun ht11 => ?_)
 ·have h1 := not_t ht11
  refine gE1 ?_
  unfold liE; rw [if_pos h1]; rfl
 ·have h1 := not_f ht11
  refine gl ?_
  refine gC (fun ht15 => ?_) (fun ht15 => ?_)
  ·have h2 := eql0_t ht15
   refine gE1 ?_
   unfold liE; rw [if_neg (by rw [h1]; decide),if_pos h2]; rfl
  ·have h2 := eql0_f ht15
   refine gl ?_
   refine gC (fun ht19 => ?_) (fun ht19 => ?_)
   ·have h3 : 8 < l.bodies.length := gtr_t ht19
    refine gE1 ?_
    unfold liE; rw [if_neg (by rw [h1]; decide),if_neg h2,if_pos h3]; rfl
   ·have h3 : l.bodies.length <= 8 := gtr_f ht19
    have e0 : liE l = if bdsE l ≠ 0 then bdsE l else if jtsE l ≠ 0 then jtsE l else drsE l:=by unfold liE; rw [if_neg (by rw [h1]; decide),if_neg h2,if_neg (by omega)]
    refine gc (c_r19_bodies l hl) ?_
    refine gC (fun ht23 => ?_) (fun ht23 => ?_)
    ·have h4 : bdsE l ≠ 0 := neq_t ht23
     refine gE1 ?_
     rw [e0,if_pos h4]
    ·have h4 : bdsE l = 0 := neq_f ht23
     refine gl ?_
     refine gC (fun ht28 => ?_) (fun ht28 => ?_)
     ·have h5 : 16 < l.joints.length := gtr_t ht28
      have ej : jtsE l = 4:=by unfold jtsE; rw [if_pos h5]
      refine gE1 ?_
      rw [e0,if_neg (by rw [h4]; simp),if_pos (by rw [ej]; decide),ej]; rfl
     ·have h5 : l.joints.length <= 16 := gtr_f ht28
      have ej : jtsE l = firstN l.joints.length (jtE l):=by unfold jtsE; rw [if_neg (by omega)]
      refine gL1 [1] [1] (fun (i : Nat) => [(4,some (i64 i))]) (fun _ => []) (fun i => i <= l.joints.length /\ ∀ j,j < i -> jtE l j = 0) (fun i => l.joints.length - i) 0 ⟨Nat.zero_le _,fun j h => by omega⟩ ?_
      rintro i ⟨hi,hj⟩ K1 hK1
      refine gl ?_
      refine gC (fun ht33 => ?_) (fun ht33 => ?_)
      ·have hin := lss_t ht33
       refine gc (c_r19_joint l hl i hin h5) ?_
       refine gC (fun ht40 => ?_) (fun ht40 => ?_)
       ·have h6 := neq_t ht40
        refine gE1 ?_
        rw [e0,if_neg (by rw [h4]; simp),if_pos (by rw [ej,firstN_at hin hj h6]; exact h6),ej,firstN_at hin hj h6]
       ·have h6 := neq_f ht40
        refine ga (i64_add1 (by unfold maxL; omega)) ?_
        exact gK1 hK1 (i + 1) ⟨hin,fun j h9 => by rcases Nat.lt_or_ge j i with g | g; exact hj j g; (have : j = i:=by omega); subst this; exact h6⟩
      ·have hin := lss_end hi ht33
       subst hin
       have ejz : jtsE l = 0 := ej.trans (firstN_all hj)
       have e0' : liE l = drsE l:=by rw [e0,if_neg (by rw [h4]; simp),if_neg (by rw [ejz]; simp)]
       refine gl ?_
       refine gC (fun ht45 => ?_) (fun ht45 => ?_)
       ·have h6 : 2 < l.drivers.length := gtr_t ht45
        refine gE1 ?_
        rw [e0']; unfold drsE; rw [if_pos h6]; rfl
       ·have h6 : l.drivers.length <= 2 := gtr_f ht45
        have ed : drsE l = firstN l.drivers.length (drE l):=by unfold drsE; rw [if_neg (by omega)]
        refine gL1 [1] [1] (fun (k : Nat) => [(6,some (i64 k))]) (fun _ => []) (fun k => k <= l.drivers.length /\ ∀ j,j < k -> drE l j = 0) (fun k => l.drivers.length - k) 0 ⟨Nat.zero_le _,fun j h => by omega⟩ ?_
        rintro k ⟨hk,hkj⟩ K2 hK2
        refine gl ?_
        refine gC (fun ht50 => ?_) (fun ht50 => ?_)
        ·have hkn := lss_t ht50
         refine gc (c_r19_driver l hl k hkn h6) ?_
         refine gC (fun ht57 => ?_) (fun ht57 => ?_)
         ·have h7 := neq_t ht57
          refine gE1 ?_
          rw [e0',ed,firstN_at hkn hkj h7]
         ·have h7 := neq_f ht57
          refine ga (i64_add1 (by unfold maxL; omega)) ?_
          exact gK1 hK2 (k + 1) ⟨hkn,fun j h9 => by rcases Nat.lt_or_ge j k with g | g; exact hkj j g; (have : j = k:=by omega); subst this; exact h7⟩
        ·have hkn := lss_end hk ht50
         subst hkn
         refine gE1 ?_
         rw [e0',ed,firstN_all hkj]; rfl
end Go.Lw
namespace Go.Lw
open Go.Proofs
theorem c_l11_brief (rs xs : List (List Rt)) (w m : Nat) (hrs : RsOk rs) (hxs : RsOk xs) (hrl : rs.length <= 100) (hxl : xs.length <= 100) : FnC Tryz.prog 35 [towR rs, i64 w, i64 m, .lst 1 (xs.map nR)] (bl (briefB w m (rs ++ xs))) := by
 obtain ⟨l,hl⟩ : ∃ l,l = rs ++ xs := ⟨_,rfl⟩
 have hlo : RsOk l:=by rw [hl]; exact hrs.app hxs
 have hll : l.length <= 200:=by rw [hl,List.length_append]; omega
 have hml : rs.map nR ++ xs.map nR = l.map nR:=by rw [hl,List.map_append]
 rw [<- hl]
 refine gF0 Tryz.func35 ?_
 refine gs (s_buildMs0 T22 rfl T37 rfl rfl rfl) ?_
 refine gs (s_append (.tmp rfl) rfl rfl (.tmp rfl) T22 rfl T37 rfl rfl (by simp only [List.length_nil,List.length_map]; omega) rfl rfl) ?_
 refine gs (s_appendF (.tmp rfl) rfl (by simp) (.tmp rfl) T22 rfl T37 rfl rfl (by simp only [List.length_append,List.length_nil,List.length_map]; omega) rfl rfl) ?_
 refine ge rfl ?_
 refine gL1 [1,2] [] (fun (i : Nat) => [(18,some (.lst 1 (l.map nR))),(19,some (i64 l.length)),(20,some (i64 i))]) (fun _ => []) (fun i => i <= l.length /\ (l.take i).all (briefX w m) = true) (fun i => l.length - i) 0 ⟨Nat.zero_le _,rfl⟩ ?_ (h1 := (.cons rfl (Sub.of (congrArg (AV.lst 1) hml)) (.cons rfl (Sub.int (by rw [List.nil_append,hml,List.length_map])) (.k .nil))))
 rintro i ⟨hi,hj⟩ K1 hK1
 refine gC (fun ht21 => ?_) (fun ht21 => ?_)
 ·have hin := lss_t ht21
  obtain ⟨x,hx⟩ := getx hin
  have hxo := hlo x (List.mem_of_getElem? hx)
  have hxl := hxo.2
  refine gi (getmap hx) ?_
  refine gl ?_
  refine gC (fun ht27 => ?_) (fun ht27 => ?_)
  ·have h1 := gtr_t ht27
   refine gE1 ?_
   rw [briefB,all_miss hx (by unfold briefX; rw [decide_eq_false (by omega)]; rfl)]; rfl
  ·have h1 : x.length <= m := gtr_f ht27
   refine gl ?_
   refine gL1 [1,2,18,19,20,28,29] [] (fun (k : Nat) => [(30,some (i64 k))]) (fun _ => []) (fun k => k <= x.length /\ (x.take k).all (fun r => decide (r.num.length <= w /\ r.den.length <= w)) = true) (fun k => x.length - k) 0 ⟨Nat.zero_le _,rfl⟩ ?_
   rintro k ⟨hk,hkj⟩ K2 hK2
   refine gC (fun ht31 => ?_) (fun ht31 => ?_)
   ·have hkn := lss_t ht31
    obtain ⟨r,hr⟩ := getx hkn
    refine gi (getmap hr) ?_
    refine gl ?_
    refine glG ?_
    refine gC (fun ht45 => ?_) (fun ht45 => ?_)
    ·have h2 : ¬ (r.num.length <= w /\ r.den.length <= w) := orGt_t ht45
     refine gE1 ?_
     rw [briefB,all_miss hx (by unfold briefX; rw [all_miss hr (decide_eq_false h2),Bool.and_false])]; rfl
    ·have h2 : r.num.length <= w /\ r.den.length <= w := orGt_f ht45
     refine ga (i64_add1 (by unfold maxL; omega)) ?_
     exact gK1 hK2 (k + 1) ⟨hkn,all_step hkj hr (decide_eq_true h2)⟩
   ·have hkn := lss_end hk ht31
    refine ga (i64_add1 (by unfold maxL; omega)) ?_
    exact gK1 hK1 (i + 1) ⟨hin,all_step hj hx (by unfold briefX; rw [decide_eq_true h1,all_end hkn hkj]; rfl)⟩
 ·have hin := lss_end hi ht21
  refine gE1 ?_
  rw [briefB,all_end hin hj]; rfl
theorem c_l11_Light (rs xs : List (List Rt)) (hrs : RsOk rs) (hxs : RsOk xs) (hrl : rs.length <= 281474976710656) (hxl : xs.length <= 100) : FnC Tryz.prog 8 [towR rs, .lst 1 (xs.map nR)] (bl (lightB rs xs)) := by
 refine gF0 Tryz.func8 ?_
 refine gl ?_
 refine gC (fun ht9 => ?_) (fun ht9 => ?_)
 ·have h1 : rs.length <= 1 \/ (5 < rs.length /\ rs.length <= 8) := few_t ht9
  refine gc (c_l11_brief rs xs 3 40 hrs hxs (by omega) hxl) ?_
  refine gE1 ?_
  unfold lightB; rw [if_pos h1]
 ·have h1 : ¬ (rs.length <= 1 \/ (5 < rs.length /\ rs.length <= 8)) := few_f ht9
  refine gC (fun ht23 => ?_) (fun ht23 => ?_)
  ·have h2 : rs.length = 2 := by have := eql_t ht23; omega
   refine gc (c_l11_brief rs xs 1 40 hrs hxs (by omega) hxl) ?_
   refine gE1 ?_
   unfold lightB; rw [if_neg h1,if_pos h2]
  ·have h2 : ¬ rs.length = 2 := by have := eql_f ht23; omega
   refine gC (fun ht29 => ?_) (fun ht29 => ?_)
   ·have h3 : rs.length = 3 := by have := eql_t ht29; omega
    refine gc (c_l11_brief rs xs 1 4 hrs hxs (by omega) hxl) ?_
    refine gE1 ?_
    unfold lightB; rw [if_neg h1,if_neg h2,if_pos h3]
   ·have h3 : ¬ rs.length = 3 := by have := eql_f ht29; omega
    refine gE1 ?_
    unfold lightB; rw [if_neg h1,if_neg h2,if_neg h3]; rfl
theorem c_l11_Wide (rs xs : List (List Rt)) (hrs : RsOk rs) (hxs : RsOk xs) (hrl : rs.length <= 281474976710656) (hxl : xs.length <= 100) : FnC Tryz.prog 45 [towR rs, .lst 1 (xs.map nR)] (bl (wideB rs xs)) := by
 refine gF0 Tryz.func45 ?_
 refine gl ?_
 refine gC (fun ht8 => ?_) (fun ht8 => ?_)
 ·have h2 : rs.length = 2 := by have := eql_t ht8; omega
  refine gc (c_l11_brief rs xs 2 40 hrs hxs (by omega) hxl) ?_
  refine gE1 ?_
  unfold wideB; rw [if_pos h2]
 ·have h2 : ¬ rs.length = 2 := by have := eql_f ht8; omega
  refine gc (c_l11_Light rs xs hrs hxs hrl hxl) ?_
  refine gE1 ?_
  unfold wideB; rw [if_neg h2]
theorem c_l25_Light (l : Li) (hl : l.okw) : FnC Tryz.prog 103 [l.av] (bl (liB l)) := by
 have hbl := hl.lb
 refine gF0 Tryz.func103 ?_
 refine gl ?_
 refine gL1 [1,8,9] [1] (fun (i : Nat) => [(10,some (i64 i))]) (fun _ => []) (fun i => i <= l.bodies.length /\ (l.bodies.take i).all bdB = true) (fun i => l.bodies.length - i) 0 ⟨Nat.zero_le _,rfl⟩ ?_
 rintro i ⟨hi,hj⟩ K1 hK1
 refine gC (fun ht11 => ?_) (fun ht11 => ?_)
 ·have hin := lss_t ht11
  obtain ⟨b,hb⟩ := getx hin
  refine gi (getmap hb) ?_
  refine gl ?_
  refine gC (fun ht17 => ?_) (fun ht17 => ?_)
  ·have h1 : 30 < b.pts.length := gtr_t ht17
   refine gE1 ?_
   unfold liB; rw [all_miss hb (by unfold bdB; rw [decide_eq_false (by omega)]; rfl)]; rfl
  ·have h1 : b.pts.length <= 30 := gtr_f ht17
   refine gl ?_
   refine gL1 [1,8,9,10,19,20] [1] (fun (k : Nat) => [(21,some (i64 k))]) (fun _ => []) (fun k => k <= b.pts.length /\ (b.pts.take k).all mkB = true) (fun k => b.pts.length - k) 0 ⟨Nat.zero_le _,rfl⟩ ?_
   rintro k ⟨hk,hkj⟩ K2 hK2
   refine gC (fun ht22 => ?_) (fun ht22 => ?_)
   ·have hkn := lss_t ht22
    obtain ⟨p,hp⟩ := getx hkn
    refine gi (getmap hp) ?_
    refine gl ?_
    refine glG ?_
    refine glG ?_
    refine glG ?_
    refine gC (fun ht50 => ?_) (fun ht50 => ?_)
    ·have h2 : mkB p = false := four_t ht50
     refine gE1 ?_
     unfold liB; rw [all_miss hb (by unfold bdB; rw [all_miss hp h2,Bool.and_false])]; rfl
    ·have h2 : mkB p = true := four_f ht50
     refine ga (i64_add1 (by unfold maxL; omega)) ?_
     exact gK1 hK2 (k + 1) ⟨hkn,all_step hkj hp h2⟩
   ·have hkn := lss_end hk ht22
    refine ga (i64_add1 (by unfold maxL; omega)) ?_
    exact gK1 hK1 (i + 1) ⟨hin,all_step hj hb (by unfold bdB; rw [decide_eq_true h1,all_end hkn hkj]; rfl)⟩
 ·have hin := lss_end hi ht11
  refine gl ?_
  refine glG ?_
  refine glG ?_
  refine gE1 ?_
  exact congrArg bl (liB_end (all_end hin hj))
end Go.Lw
namespace Go.Lw
variable {P : Program}
mutual
def AV.pm (σ : Nat -> Nat) : AV -> AV
  | .ms k sz off len => .ms (σ k) sz off len
  | .ptr k off => .ptr (σ k) off
  | .eptr k sz i off => .eptr (σ k) sz i off
  | .yl k => .yl (σ k)
  | .agg cs => .agg (AV.pms σ cs)
  | .tup cs => .tup (AV.pms σ cs)
  | .fn f cs => .fn f (AV.pms σ cs)
  | .opt b x => .opt b (AV.pm σ x)
  | .v x => .v x
  | .lst sz l => .lst sz l
  | .iptr l => .iptr l
  | .cl f cs ds => .cl f cs ds
def AV.pms (σ : Nat -> Nat) : List AV -> List AV
  | [] => []
  | x :: l => AV.pm σ x :: AV.pms σ l
end
theorem AV.pms_eq (σ : Nat -> Nat) : ∀ l, AV.pms σ l = l.map (AV.pm σ)
 | [] => rfl
 | x :: l => by simp only [AV.pms,List.map_cons,AV.pms_eq σ l]
theorem AV.pm_one (σ : Nat -> Nat) (x : AV) (h : x.one = true) : (x.pm σ).one = true := by
 cases x <;> simp only [AV.pm] <;> exact h
mutual
theorem AV.pm_pm {σ : Nat -> Nat} (hσ : ∀ k, σ (σ k) = k) : ∀ x : AV, (x.pm σ).pm σ = x
 | .ms k sz off len => by simp only [AV.pm,hσ]
 | .ptr k off => by simp only [AV.pm,hσ]
 | .eptr k sz i off => by simp only [AV.pm,hσ]
 | .yl k => by simp only [AV.pm,hσ]
 | .agg cs => by simp only [AV.pm]; rw [AV.pms_pms hσ cs]
 | .tup cs => by simp only [AV.pm]; rw [AV.pms_pms hσ cs]
 | .fn f cs => by simp only [AV.pm]; rw [AV.pms_pms hσ cs]
 | .opt b x => by simp only [AV.pm]; rw [AV.pm_pm hσ x]
 | .v x => by simp only [AV.pm]
 | .lst sz l => by simp only [AV.pm]
 | .iptr l => by simp only [AV.pm]
 | .cl f cs ds => by simp only [AV.pm]
theorem AV.pms_pms {σ : Nat -> Nat} (hσ : ∀ k, σ (σ k) = k) : ∀ l : List AV, AV.pms σ (AV.pms σ l) = l
 | [] => by simp only [AV.pms]
 | x :: l => by simp only [AV.pms]; rw [AV.pm_pm hσ x,AV.pms_pms hσ l]
end
theorem rep_pm {g : Nat -> Array Value -> Prop} {S : Nat -> Nat -> Prop} {σ : Nat -> Nat} (hσ : ∀ k, σ (σ k) = k) {m : Nat -> Option Nat} {v : Value} {x : AV} (h : Rep g S m v x) : Rep g S (fun k => m (σ k)) v (x.pm σ) := by
 induction h with
 | v x => exact .v x
 | lst0 a cap sz' => exact .lst0 a cap sz'
 | lst u hb hc hl hs ho hu hr _ => exact .lst u hb hc hl hs ho hu hr
 | iptr u hb ho hu hr _ => exact .iptr u hb ho hu hr
 | cl a b c d _ _ => exact .cl a b c d
 | ptr hm => exact .ptr (by simp only [hσ]; exact hm)
 | eptr hm => exact .eptr (by simp only [hσ]; exact hm)
 | yl hm => exact .yl (by simp only [hσ]; exact hm)
 | ms0 a k sz off => exact .ms0 _ _ _ _
 | ms hm hc hS => exact .ms (by simp only [hσ]; exact hm) hc hS
 | opt h h' ih => exact .opt ih h'
 | agg hn h1 hr ih =>
  simp only [AV.pm,AV.pms_eq]
  refine .agg (by simpa using hn) ?_ ?_
  ·intro j c hc
   simp only [List.getElem?_map,Option.map_eq_some_iff] at hc
   obtain ⟨y,hy,rfl⟩ := hc
   exact AV.pm_one _ _ (h1 j y hy)
  ·intro j u c hu hc
   simp only [List.getElem?_map,Option.map_eq_some_iff] at hc
   obtain ⟨y,hy,rfl⟩ := hc
   exact ih j u y hu hy
 | tup hn hr ih =>
  simp only [AV.pm,AV.pms_eq]
  refine .tup (by simpa using hn) ?_
  intro j u c hu hc
  simp only [List.getElem?_map,Option.map_eq_some_iff] at hc
  obtain ⟨y,hy,rfl⟩ := hc
  exact ih j u y hu hy
 | fn hn hr ih =>
  simp only [AV.pm,AV.pms_eq]
  refine .fn (by simpa using hn) ?_
  intro j u c hu hc
  simp only [List.getElem?_map,Option.map_eq_some_iff] at hc
  obtain ⟨y,hy,rfl⟩ := hc
  exact ih j u y hu hy
theorem blk_pm {g : Nat -> Array Value -> Prop} {S : Nat -> Nat -> Prop} {σ : Nat -> Nat} (hσ : ∀ k, σ (σ k) = k) {m : Nat -> Option Nat} {w : World} {o : Option Nat} {x : Blk} (h : BlkRep g S m w o x) :
  BlkRep g S (fun k => m (σ k)) w o (x.map (AV.pm σ)) := by
 cases x with
 | row sz es => exact h.mono (fun _ _ h => h) (fun _ _ h => h) (fun _ _ hk => hk.elim) rfl (fun _ _ => rfl)
 | vec vs => exact h.mono (fun _ _ h => h) (fun _ _ h => h) (fun _ _ hk => hk.elim) rfl (fun _ _ => rfl)
 | loop => exact h.mapLoop _ (fun _ _ _ _ h => rep_pm hσ h)
 | box cs =>
  cases h with
  | box hw hn h1 hrr =>
   refine .box hw (by simpa using hn) ?_ ?_
   ·intro j x hx
    simp only [List.getElem?_map,Option.map_eq_some_iff] at hx
    obtain ⟨y,hy,rfl⟩ := hx
    exact AV.pm_one _ _ (h1 j y hy)
   ·intro j u x hu hx
    simp only [List.getElem?_map,Option.map_eq_some_iff] at hx
    obtain ⟨y,hy,rfl⟩ := hx
    exact rep_pm hσ (hrr j u y hu hy)
theorem sl_pm {σ : Nat -> Nat} (hσ : ∀ k, σ (σ k) = k) : ∀ sl : Slots, mapSl (AV.pm σ) (mapSl (AV.pm σ) sl) = sl
 | [] => rfl
 | (t,none) :: l => by simp only [mapSl,sl_pm hσ l]
 | (t,some x) :: l => by simp only [mapSl,sl_pm hσ l,AV.pm_pm hσ x]
theorem Blk.pm_pm {σ : Nat -> Nat} (hσ : ∀ k, σ (σ k) = k) (x : Blk) : (x.map (AV.pm σ)).map (AV.pm σ) = x := by
 cases x with
 | row sz es => rfl
 | vec vs => rfl
 | loop d st pe sl => simp only [Blk.map,sl_pm hσ]
 | box cs =>
  simp only [Blk.map]
  rw [<- AV.pms_eq,<- AV.pms_eq,AV.pms_pms hσ]
def pmH (σ : Nat -> Nat) : Hp -> Hp
  | [] => []
  | (k,x) :: l => (σ k,match x with | some b => some (b.map (AV.pm σ)) | none => none) :: pmH σ l
theorem lk_pmH {σ : Nat -> Nat} (hσ : ∀ k, σ (σ k) = k) : ∀ (H : Hp) (k : Nat), lk (pmH σ H) k = (lk H (σ k)).map (Blk.map (AV.pm σ))
 | [],k => rfl
 | (k', x) :: l, k => by
  simp only [pmH,lk_cons,lk_pmH hσ l k]
  by_cases h : k = σ k'
  ·rw [if_pos h, if_pos (by rw [h, hσ])]
   cases x <;> rfl
  ·rw [if_neg h,if_neg (fun e => h (by rw [<- e,hσ]))]
theorem own_pm {σ : Nat -> Nat} (hσ : ∀ k, σ (σ k) = k) (H : Hp) (m : Nat -> Option Nat) : Own (pmH σ H) (fun k => m (σ k)) = Own H m := by
 funext b
 apply propext
 constructor
 ·rintro ⟨k, z, hz, hb⟩
  rw [lk_pmH hσ,Option.map_eq_some_iff] at hz
  obtain ⟨y,hy,rfl⟩ := hz
  exact ⟨σ k,y,hy,hb⟩
 ·rintro ⟨k, y, hy, hb⟩
  exact ⟨σ k,y.map (AV.pm σ),by rw [lk_pmH hσ,hσ,hy]; rfl,by simp only [hσ]; exact hb⟩
theorem heap_pm {σ : Nat -> Nat} (hσ : ∀ k, σ (σ k) = k) {ext : Nat -> Prop} {H : Hp} {m : Nat -> Option Nat} {w : World} (h : HeapRel ext H m w) : HeapRel ext (pmH σ H) (fun k => m (σ k)) w := by
 have e : Im ext (pmH σ H) (fun k => m (σ k)) w = Im ext H m w:=by funext b cs; simp only [Im,own_pm hσ]
 refine ⟨?_,?_,?_⟩
 ·intro k z hz
  rw [lk_pmH hσ,Option.map_eq_some_iff] at hz
  obtain ⟨y,hy,rfl⟩ := hz
  rw [e]
  exact blk_pm hσ (h.blk _ y hy)
 ·intro k k' z z' b hz hz' hb hb'
  rw [lk_pmH hσ,Option.map_eq_some_iff] at hz hz'
  obtain ⟨y,hy,_⟩ := hz
  obtain ⟨y',hy',_⟩ := hz'
  have := h.inj _ _ y y' b hy hy' hb hb'
  rw [<- hσ k,this,hσ]
 ·intro k z b hz hb
  rw [lk_pmH hσ,Option.map_eq_some_iff] at hz
  obtain ⟨y,hy,_⟩ := hz
  exact h.sep _ y b hy hb
theorem Con.pm {σ : Nat -> Nat} (hσ : ∀ k, σ (σ k) = k) {f : FuncId} {args : List AV} {H H' : Hp} {r : AV} (h : Con P f args H r H') : Con P f (args.map (AV.pm σ)) (pmH σ H) (r.pm σ) (pmH σ H') := by
 refine ⟨h.ok,?_⟩
 intro ext m w vs hext hheap hvs hrep
 have hlk : ∀ k, lk (pmH σ (pmH σ H)) k = lk H k := by
  intro k
  rw [lk_pmH hσ,lk_pmH hσ,hσ]
  cases lk H k with
  | none => rfl
  | some y => simp only [Option.map_some,Blk.pm_pm hσ]
 have hh := HeapRel.congr hlk (heap_pm hσ hheap)
 have em : (fun k => (fun k => m (σ k)) (σ k)) = m:=by funext k; simp only [hσ]
 have eo : Own (pmH σ H) m = Own H (fun k => m (σ k)) := by
  have := own_pm hσ H (fun k => m (σ k))
  rw [em] at this; exact this
 have ei : Im ext (pmH σ H) m w = Im ext H (fun k => m (σ k)) w:=by funext b cs; simp only [Im,eo]
 refine Calls.mono (h.ret ext (fun k => m (σ k)) w vs hext hh (by simpa using hvs) (fun j v x hv hx => ?_)) ?_
 ·have h1 := hrep j v (x.pm σ) hv (by simp [hx])
  have h2 := rep_pm hσ h1
  rw [AV.pm_pm hσ,ei] at h2
  exact h2
 ·rintro e w' ⟨v, m', rfl, hf, hh', hn, hk, hrr⟩
  refine ⟨v,fun k => m' (σ k),rfl,eo ▸ hf,heap_pm hσ hh',?_,?_,?_⟩
  ·intro k x b hx hb
   rw [lk_pmH hσ,Option.map_eq_some_iff] at hx
   obtain ⟨y,hy,_⟩ := hx
   rw [eo]
   exact hn _ y b hy hb
  ·intro k x y hx hy
   rw [lk_pmH hσ,Option.map_eq_some_iff] at hx hy
   obtain ⟨x',hx',_⟩ := hx
   obtain ⟨y',hy',_⟩ := hy
   have := hk _ x' y' hx' hy'
   simpa only [hσ] using this
  ·have e2 : Im ext (pmH σ H') (fun k => m' (σ k)) w' = Im ext H' m' w' := by funext b cs; simp only [Im, own_pm hσ]
   rw [e2]
   exact rep_pm hσ hrr
end Go.Lw
