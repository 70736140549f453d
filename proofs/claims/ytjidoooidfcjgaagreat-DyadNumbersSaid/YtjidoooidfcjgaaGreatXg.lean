/- DyadNumbers: for any linkage, any group and any assembly the law returns true and leaves its arguments as they were. No other condition. Part 7 of 7: the statement -/
import Derived.Test.YtjidoooidfcjgaaGreatXf
set_option linter.unusedVariables false
open List (mem_of_getElem? mem_cons_of_mem mem_append map_cons mem_cons mem_cons_self all_eq_true nil_append not_mem_nil map_map)
open Nat (eq_of_beq_eq_true le_refl)
open Bool (and_eq_true)
open Int (toNat_natCast)
open Go.Proofs.Tryz
namespace Go.Lw
variable {P : Program} {N : Nat}
def rdC (s : AS) : Operand -> Option AV
  | .tmp t => match s.get t with
    | some x => match x with
      | .opt _ _ => none
      | x => some x
    | none => none
  | .const c => some (.v c)
  | .func f => some (.v (.func (.func f) #[] #[]))
  | .global _ => none
theorem abh {s : AS} {o : Operand} {x : AV} (h : rdC s o = some x) : Ev s o x := by
 cases o with
 | tmp t =>
  simp only [rdC] at h
  split at h
  ·rename_i y hy
   split at h
   ·cases h
   ·cases h; exact .tmp hy
  ·cases h
 | const c => cases h; exact .const c
 | func f => cases h; exact .func f
 | global n => cases h
def bhp (s : AS) : List Operand -> Option (List AV)
  | [] => some []
  | o :: os => match rdC s o with
    | some x => match bhp s os with
      | some xs => some (x :: xs)
      | none => none
    | none => none
theorem am4 {s : AS} : ∀ {os : List Operand} {xs : List AV}, bhp s os = some xs -> EvL s os xs
 | [],xs,h => by cases h; exact .nil
 | o :: os, xs, h => by
  unfold bhp at h
  split at h
  ·rename_i x h1
   split at h
   ·rename_i ys h2; cases h; exact .cons (abh h1) (am4 h2)
   ·cases h
  ·cases h
def wN {α : Type} (n : Nat) (f : Nat -> α) : α := match n with
  | 0 => f 0
  | m + 1 => f (m + 1)
theorem ax7 {α : Type} (n : Nat) (f : Nat -> α) : wN n f = f n:=by cases n <;> rfl
def wI {α : Type} (z : Int) (f : Int -> α) : α := match z with
  | .ofNat n => match n with
    | 0 => f 0
    | m + 1 => f (Int.ofNat (m + 1))
  | .negSucc n => f (.negSucc n)
theorem asr {α : Type} (z : Int) (f : Int -> α) : wI z f = f z := by
 cases z with
 | ofNat n => cases n <;> rfl
 | negSucc n => rfl
structure V1 where
  x : AV
  rt : List Nat
  rd : List Nat
def bcx : Value -> Bool
  | .nilIface => true
  | .iface _ _ => true
  | _ => false
theorem auv {v : Value} (h : bcx v = true) : bex v := by
 cases v <;> first | exact .inl rfl | exact .inr ⟨_,_,rfl⟩ | cases h
def bg5 : BinOp -> Bool
  | .and | .or | .xor | .andNot => true
  | _ => false
theorem bby : ∀ {op : BinOp},bg5 op = true -> (match op with | .and | .or | .xor | .andNot => true | _ => false) = true:=by intro op; cases op <;> intro h <;> first | rfl | cases h
def bhn (op : BinOp) (x y : Operand) (k k' : IntKind) (a b : Int) : Option V1 := match op with
  | .add | .sub | .mul => match Nat.beq (ikn k) (ikn k') with
    | true => wI (k.wrap (aec op a b)) fun z => some ⟨.v (.int k z),aal x ++ aal y,[]⟩
    | false => none
  | .quo => match Nat.beq (ikn k) (ikn k') with
    | true => match b with
      | .ofNat 0 => none
      | b => wI (k.wrap (a.tdiv b)) fun z => some ⟨.v (.int k z),aal x ++ aal y,[]⟩
    | false => none
  | .rem => match Nat.beq (ikn k) (ikn k') with
    | true => match b with
      | .ofNat 0 => none
      | b => wI (a.tmod b) fun z => some ⟨.v (.int k z),aal x ++ aal y,[]⟩
    | false => none
  | .shl => match b with
    | .ofNat n => wI (k.wrap (a * 2 ^ (min n k.bits))) fun z => some ⟨.v (.int k z),aal x ++ aal y,[]⟩
    | .negSucc _ => none
  | .shr => match b with
    | .ofNat n => wI (a.fdiv (2 ^ (min n k.bits))) fun z => some ⟨.v (.int k z),aal x ++ aal y,[]⟩
    | .negSucc _ => none
  | .eql | .neq | .lss | .leq | .gtr | .geq => match Nat.beq (ikn k) (ikn k') with
    | true => match aaa op a b with
      | true => some ⟨.v (.bool true),aal x ++ aal y,[]⟩
      | false => some ⟨.v (.bool false),aal x ++ aal y,[]⟩
    | false => none
  | op => match bg5 op && Nat.beq (ikn k) (ikn k') with
    | true => wI (ass op k a b) fun z => some ⟨.v (.int k z),aal x ++ aal y,[]⟩
    | false => none
section
variable {s : AS} {R : Array Oper} {d : Nat} {t T : TypeId} {pos : String} {after : Array Edge}
theorem bhd {op : BinOp} {x y : Operand} {k k' : IntKind} {a b : Int} {S : TypeId} {r : V1} (hx : Ev s x (.v (.int k a))) (hy : Ev s y (.v (.int k' b))) (h : bhn op x y k k' a b = some r) (hN : Nat.blt d N = true) :
  Step P N R s ⟨some d,.binOp op S x y T,t,pos,after,none⟩ ⟨some r.x,[],r.rt,r.rd⟩ := by
 have hc : ∀ (op : BinOp), ba9 op = true -> (match Nat.beq (ikn k) (ikn k') with
  | true => match aaa op a b with
   | true => some (⟨.v (.bool true),aal x ++ aal y,[]⟩ : V1)
   | false => some ⟨.v (.bool false),aal x ++ aal y,[]⟩
  | false => none) = some r -> Step P N R s ⟨some d,.binOp op S x y T,t,pos,after,none⟩ ⟨some r.x,[],r.rt,r.rd⟩ := by
  intro op hop h'
  split at h'
  ·rename_i hk
   cases ah3 hk
   have := bk6 (P := P) (R := R) (op := op) (S := S) (T := T) (t := t) (pos := pos) (after := after) hx hy (by cases op <;> simp_all [ba9]) hN
   split at h'
   ·rename_i hb; cases h'; rw [hb] at this; exact this
   ·rename_i hb; cases h'; rw [hb] at this; exact this
  ·cases h'
 have ha : ∀ (op : BinOp), bm1 op = true -> (match Nat.beq (ikn k) (ikn k') with
  | true => wI (k.wrap (aec op a b)) fun z => some (⟨.v (.int k z),aal x ++ aal y,[]⟩ : V1)
  | false => none) = some r -> Step P N R s ⟨some d,.binOp op S x y T,t,pos,after,none⟩ ⟨some r.x,[],r.rt,r.rd⟩ := by
  intro op hop h'
  split at h'
  ·rename_i hk
   cases ah3 hk
   rw [asr] at h'
   cases h'
   exact a5k hx hy (a8n hop) hN
  ·cases h'
 have hb : ∀ (op : BinOp), (match bg5 op && Nat.beq (ikn k) (ikn k') with
  | true => wI (ass op k a b) fun z => some (⟨.v (.int k z),aal x ++ aal y,[]⟩ : V1)
  | false => none) = some r -> Step P N R s ⟨some d,.binOp op S x y T,t,pos,after,none⟩ ⟨some r.x,[],r.rt,r.rd⟩ := by
  intro op h'
  split at h'
  ·rename_i hk
   simp only [and_eq_true] at hk
   cases ah3 hk.2
   rw [asr] at h'
   cases h'
   exact bc7 hx hy (bby hk.1) hN
  ·cases h'
 cases op with
 | add => exact ha _ rfl h
 | sub => exact ha _ rfl h
 | mul => exact ha _ rfl h
 | quo =>
  simp only [bhn] at h
  split at h
  ·rename_i hk
   cases ah3 hk
   split at h
   ·cases h
   ·rename_i hb0
    rw [asr] at h; cases h
    exact bhr hx hy (fun e => hb0 (by rw [e]; rfl)) hN
  ·cases h
 | rem =>
  simp only [bhn] at h
  split at h
  ·rename_i hk
   cases ah3 hk
   split at h
   ·cases h
   ·rename_i hb0
    rw [asr] at h; cases h
    exact bj6 hx hy (fun e => hb0 (by rw [e]; rfl)) hN
  ·cases h
 | shl =>
  simp only [bhn] at h
  split at h
  ·rename_i n
   rw [asr] at h
   obtain rfl := Option.some.inj h
   have := biy (P := P) (R := R) (S := S) (T := T) (t := t) (pos := pos) (after := after) hx hy (Int.natCast_nonneg n) hN
   simp only [Int.ofNat_eq_natCast,toNat_natCast] at this
   exact this
  ·cases h
 | shr =>
  simp only [bhn] at h
  split at h
  ·rename_i n
   rw [asr] at h
   obtain rfl := Option.some.inj h
   have := bjf (P := P) (R := R) (S := S) (T := T) (t := t) (pos := pos) (after := after) hx hy (Int.natCast_nonneg n) hN
   simp only [Int.ofNat_eq_natCast,toNat_natCast] at this
   exact this
  ·cases h
 | eql => exact hc _ rfl h
 | neq => exact hc _ rfl h
 | lss => exact hc _ rfl h
 | leq => exact hc _ rfl h
 | gtr => exact hc _ rfl h
 | geq => exact hc _ rfl h
 | _ => exact hb _ h
end
def neB (op : BinOp) (b : Bool) : Bool := match op with
  | .eql => b
  | _ => !b
def bnw : AV -> Option Bool
  | .v (.slice none 0 0) => some true
  | .lst _ (_ :: _) => some false
  | .ms _ _ _ (_ + 1) => some false
  | _ => none
theorem a7d {S : TypeId} {w : World} {E : TypeId} (h3 : (underlying S).run P w = .ok (.slice E) w) {a : Option Addr} {n c : Nat} :
  (Op.equal S (.slice a n c) (.slice none 0 0)).run P w = .ok a.isNone w := by
 show (Op.equalIn (9999 + 1) S _ _).run P w = _
 rw [Op.equalIn]
 cases a <;> simp [h3]
theorem bgh {s : AS} {R : Array Oper} {d : Nat} {x : Operand} {xv : AV} {b : Bool} {op : BinOp} {S T t E : TypeId} {ti : TI} {pos : String} {after : Array Edge} (hop : op = .eql \/ op = .neq)
  (hx : Ev s x xv) (hv : bnw xv = some b) (hS : aah P S = some ti) (hk : ti.k = .slice E) (hN : Nat.blt d N = true) :
  Step P N R s ⟨some d,.binOp op S x (.const (.slice none 0 0)) T,t,pos,after,none⟩ ⟨some (.v (.bool (neB op b))),[],aal x,[]⟩ :=
 aa2 rfl rfl hN fun s' hag C m a w hr => ⟨.bool (neB op b), by
  have h := (hx.agree hag (fun _ h => h)).rep hr
  obtain ⟨d2,h3,h4,-,-⟩ := abp hS w
  obtain rfl := acm (h4.trans hk)
  have h2 : a.eval (.const (.slice none 0 0)) = .slice none 0 0 := rfl
  obtain ⟨ad, n, c, he, hb⟩ : ∃ ad n c, a.eval x = .slice ad n c /\ ad.isNone = b := by
   generalize a.eval x = u at h
   unfold bnw at hv
   split at hv
   ·cases hv; cases h; exact ⟨_,_,_,rfl,rfl⟩
   ·cases hv
    cases h with
    | lst u hb hc hl hs h1 hu hr => exact ⟨_,_,_,rfl,rfl⟩
   ·cases hv
    cases h with
    | ms hm hc hS => exact ⟨_,_,_,rfl,rfl⟩
   ·cases hv
  have h5 := a7d (P := P) (a := ad) (n := n) (c := c) h3
  rcases hop with rfl | rfl <;> simp [execOp,he,h2,eqGuard,binOp,h5,hb,neB],.v _⟩
theorem a3p {s : AS} {R : Array Oper} {d : Nat} {x : Operand} {lo hi : Option Operand} {T E t : TypeId} {ti te : TI} {pos : String} {after : Array Edge}
  (hx : Ev s x (.v (.slice none 0 0))) (hl : EvI s lo 0 0) (hh : EvI s hi 0 0) (hT : aah P T = some ti) (hk : ti.k = .slice E) (hE : aah P E = some te) (hN : Nat.blt d N = true) :
  Step P N R s ⟨some d,.slice T x lo hi none,t,pos,after,none⟩ ⟨some (.v (.slice none 0 0)),[],aal x ++ (rtO lo ++ rtO hi),[]⟩ :=
 aa2 rfl rfl hN fun s' hag C m a w hr => by
  have hxv := anx hr (hx.agree hag (fun _ h => List.mem_append.2 (.inl h)))
  have hl' := hl.agree hag (fun _ h => List.mem_append.2 (.inr (List.mem_append.2 (.inl h))))
  have hh' := hh.agree hag (fun _ h => List.mem_append.2 (.inr (List.mem_append.2 (.inr h))))
  obtain ⟨d2,hu,h3,-,-⟩ := abp hT w
  obtain rfl := acm (h3.trans hk)
  have := adr (P := P) hr (cap := 0) true hl' hh' (le_refl _) (le_refl _)
  exact ⟨.slice none 0 0,by simp [execOp,hxv,Instr.sliceAt,hu,Instr.slice,this,abc hE],.v _⟩
theorem a8p {s : AS} {R : Array Oper} {d : Nat} {x : Operand} {k1 k2 : IntKind} {sz : Nat} {es : List AV} {T E t : TypeId} {ti te : TI} {pos : String} {after : Array Edge}
  (hx : Ev s x (.lst sz es)) (hT : aah P T = some ti) (hk : ti.k = .slice E) (hE : aah P E = some te) (hsz : te.size = sz) (hN : Nat.blt d N = true) :
  Step P N R s ⟨some d,.slice T x none (some (.const (.int k1 0))) (some (.const (.int k2 0))),t,pos,after,none⟩ ⟨some (.ms d sz 0 0),[(d,some (.row sz []))],aal x,[]⟩ := by
 refine asd rfl ?_
 intro s' hag hnew C m a w next hC hr hnext
 have hfr : s'.Fresh d := by
  rcases hnew d (by simp) with h | h
  ·cases h
  ·exact h
 have hxr := (hx.agree hag (fun _ h => h)).rep hr
 obtain ⟨d2,hu,h3,-,-⟩ := abp hT w
 obtain rfl := acm (h3.trans hk)
 obtain ⟨ad, n, c, he⟩ : ∃ ad n c, a.eval x = .slice ad n c := by
  generalize a.eval x = u at hxr
  cases hxr with
  | lst0 a cap => exact ⟨_,_,_,rfl⟩
  | lst u hb hc hl hs h1 hu hr => exact ⟨_,_,_,rfl⟩
 have e1 : a.eval (.const (.int k1 0)) = .int k1 0 := rfl
 have e2 : a.eval (.const (.int k2 0)) = .int k2 0 := rfl
 have hex : (execOp a.eval ⟨some d, .slice T x none (some (.const (.int k1 0))) (some (.const (.int k2 0))), t, pos, after, none⟩).run P w = .ok (.value (.slice ad 0 0)) w := by
  simp [execOp,he,e1,e2,Instr.sliceAt,hu,Instr.slice,Instr.sliceBounds,Instr.sliceBound,asIntOf,abc hE]
 rw [hex]
 rw [Nat.blt_eq] at hN
 simp only [Oper.upon,Act.put]
 obtain ⟨m2,h1⟩ : ∃ m2,RelM C ⟨s'.sl,(d,some (.row sz [])) :: s'.hp⟩ m2 a w := ⟨_,hr.virt sz hfr⟩
 refine hnext m2 _ _ ?_
 have := h1.put d (.slice ad 0 0) (some (.ms d sz 0 0)) (fun z hz => by
  cases hz
  exact ⟨by have := hr.nt; omega,.ms0 _ _ _ _⟩)
 simpa [AS.app] using this
variable [Inhabited (Tys P)]
def bo0 : BinOp -> Bool
  | .eql | .neq => true
  | _ => false
def bly : List UInt8 -> List UInt8 -> Bool
  | [], y => match y with
    | [] => true
    | _ => false
  | x :: l, y => match y with
    | x' :: l' => match Nat.beq x.toNat x'.toNat with
      | true => bly l l'
      | false => false
    | [] => false
theorem axm : ∀ {a b : List UInt8}, bly a b = (a == b)
 | [],[] => rfl
 | [],_ :: _ => rfl
 | _ :: _,[] => rfl
 | x :: l, x' :: l' => by
  show (match Nat.beq x.toNat x'.toNat with | true => bly l l' | false => false) = _
  cases h : Nat.beq x.toNat x'.toNat with
  | true =>
   have : x = x' := UInt8.toNat_inj.1 (eq_of_beq_eq_true h)
   subst this
   simp only [axm (a := l)]
   simp
  | false =>
   have : x ≠ x' := fun e => Nat.ne_of_beq_eq_false h (by rw [e])
   simp [this]
def bem (a b : ByteArray) : Bool := bly a.data.toList b.data.toList
theorem a7z (a b : ByteArray) : (a.toList == b.toList) = bem a b := by
 unfold bem; rw [axm,ByteArray.toList_eq,ByteArray.toList_eq]
def bnh (P : Program) [Inhabited (Tys P)] (op : BinOp) (S : TypeId) (x y : Operand) (vx vy : Value) : Option V1 := match vx with
  | .int k a => match vy with
    | .int k' b => bhn op x y k k' a b
    | _ => none
  | vx => match vy with
    | .nilIface => match y with
      | .const _ => match bcx vx with
        | true => match ai0 P S with
          | some ti => match ti.k with
            | .iface _ => match op with
              | .eql => some ⟨.v (.bool (aiw vx)),aal x ++ [],[]⟩
              | .neq => some ⟨.v (.bool !(aiw vx)),aal x ++ [],[]⟩
              | _ => none
            | _ => none
          | none => none
        | false => none
      | _ => none
    | .string b => match vx with
      | .string a => match op with
        | .eql => match bem a b with
          | true => some ⟨.v (.bool true),aal x ++ aal y,[]⟩
          | false => some ⟨.v (.bool false),aal x ++ aal y,[]⟩
        | .neq => match bem a b with
          | true => some ⟨.v (.bool false),aal x ++ aal y,[]⟩
          | false => some ⟨.v (.bool true),aal x ++ aal y,[]⟩
        | _ => none
      | _ => none
    | vy => match bhl P op S x y [] vx vy with
      | some r => match r.ob with
        | [] => some ⟨r.x,r.rt,r.rd⟩
        | _ => none
      | none => none
def be4 (P : Program) [Inhabited (Tys P)] (T sz : Nat) : Bool := match ai0 P T with
  | some ti => match ti.k with
    | .slice E => match ai0 P E with
      | some te => Nat.beq te.size sz
      | none => false
    | _ => false
  | none => false
theorem aoo {T sz : Nat} (h : be4 P T sz = true) : ∃ ti E te, aah P T = some ti /\ ti.k = .slice E /\ aah P E = some te /\ te.size = sz := by
 unfold be4 at h
 split at h
 ·rename_i ti hti
  split at h
  ·rename_i E hk
   split at h
   ·rename_i te hte
    exact ⟨ti,E,te,aay hti,hk,aay hte,eq_of_beq_eq_true h⟩
   ·cases h
  ·cases h
 ·cases h
def bdC (s : AS) (o : Option Operand) (d : Nat) : Option Nat := match o with
  | none => some d
  | some x => match rdC s x with
    | some (.v (.int _ (.ofNat n))) => some n
    | _ => none
theorem arm {s : AS} {o : Option Operand} {d n : Nat} (h : bdC s o d = some n) : EvI s o d n := by
 cases o with
 | none => cases h; exact .none d
 | some x =>
  simp only [bdC] at h
  split at h
  ·rename_i hx
   cases h
   exact .some (i := Int.ofNat n) d (abh hx) (Int.natCast_nonneg _)
  ·cases h
def ldE (ti : TI) (l : List AV) : Option AV := match ti.ag with
  | true => match frc (l.take ti.size) with
    | some r => some (.agg r)
    | none => none
  | false => match Nat.beq ti.size 1 with
    | true => match l with
      | x :: _ => some x
      | [] => none
    | false => none
theorem bjd {ti : TI} {l : List AV} {x : AV} (h : ldE ti l = some x) : (ti.ag || Nat.beq ti.size 1) = true /\ x = mkT ti.ag (l.take ti.size) := by
 unfold ldE at h
 split at h
 ·rename_i ha
  split at h
  ·rename_i r hr; cases h; rw [ha,ag3 hr]; exact ⟨rfl,rfl⟩
  ·cases h
 ·rename_i ha
  split at h
  ·rename_i h1
   split at h
   ·cases h; rw [ha,eq_of_beq_eq_true h1]; exact ⟨rfl,rfl⟩
   ·cases h
  ·cases h
def bn9 (P : Program) (op : BinOp) (S : TypeId) (x y : Operand) (a b c e : Int) : Option V1 := match op with
  | .eql => match bl6 P S with
    | true => match a == c && b == e with
      | true => some ⟨.v (.bool true),aal x ++ aal y,[]⟩
      | false => some ⟨.v (.bool false),aal x ++ aal y,[]⟩
    | false => none
  | _ => none
def opV (P : Program) [Inhabited (Tys P)] (s : AS) (op : Op) : Option V1 := match op with
  | .pick c x y => match rdC s c with
    | some (.v (.bool b)) => match b with
      | true => match rdC s x with
        | some (.v (.bool z)) => some ⟨.v (.bool z),aal c ++ (aal x ++ aal y),[]⟩
        | _ => none
      | false => match rdC s y with
        | some (.v (.bool z)) => some ⟨.v (.bool z),aal c ++ (aal x ++ aal y),[]⟩
        | _ => none
    | _ => none
  | .binOp op S x (.const (.slice none 0 0)) _ => match bo0 op with
    | true => match rdC s x with
      | some xv => match bnw xv with
        | some b => match ai0 P S with
          | some ti => match ti.k with
            | .slice _ => match op with
              | .eql => some ⟨.v (.bool b),aal x,[]⟩
              | _ => match b with
                | true => some ⟨.v (.bool false),aal x,[]⟩
                | false => some ⟨.v (.bool true),aal x,[]⟩
            | _ => none
          | none => none
        | none => none
      | none => none
    | false => none
  | .binOp op S x y _ => match rdC s x with
    | some (.v vx) => match rdC s y with
      | some (.v vy) => bnh P op S x y vx vy
      | _ => none
    | some (.agg [.v (.int .i64 a), .v (.int .i64 b)]) => match rdC s y with
      | some (.agg [.v (.int .i64 c),.v (.int .i64 e)]) => bn9 P op S x y a b c e
      | _ => none
    | _ => none
  | .unOp .neg _ x => match rdC s x with
    | some (.v (.int k n)) => wI (k.wrap (0 - n)) fun z => some ⟨.v (.int k z),aal x,[]⟩
    | _ => none
  | .convert S T x => match rdC s x with
    | some (.v (.int _ n)) => match ai0 P S with
      | some _ => match ai0 P T with
        | some ti => match ti.k with
          | .int k' => wI (k'.wrap n) fun z => some ⟨.v (.int k' z),aal x,[]⟩
          | _ => none
        | none => none
      | none => none
    | _ => none
  | .indexAddr T x ix => match rdC s ix with
    | some (.v (.int _ (.ofNat i))) => match rdC s x with
      | some (.lst sz es) => match be4 P T sz with
        | true => match es[i]? with
          | some e => some ⟨.iptr e.cells,aal x ++ aal ix,[]⟩
          | none => none
        | false => none
      | some (.ms k sz off len) => match be4 P T sz && Nat.blt i len with
        | true => wN (off + i) fun n => some ⟨.eptr k sz n 0,aal x ++ aal ix,[]⟩
        | false => none
      | _ => none
    | _ => none
  | .load T x => match rdC s x with
    | some (.eptr k sz i off) => match s.blk k with
      | some (.row sz' es) => match Nat.beq sz sz' with
        | true => match es[i]? with
          | some e => match ai0 P T with
            | some ti => match Nat.ble (off + ti.size) e.cells.length with
              | true => match ldE ti (e.cells.drop off) with
                | some v => some ⟨v,aal x,[k]⟩
                | none => none
              | false => none
            | none => none
          | none => none
        | false => none
      | _ => none
    | some y => match ai0 P T with
      | some ti => match a10 P s ti x [] y with
        | some r => some ⟨r.x,r.rt,r.rd⟩
        | none => none
      | none => none
    | none => none
  | .index T x ix => match rdC s ix with
    | some (.v (.int _ (.ofNat i))) => match rdC s x with
      | some (.v (.string b)) => match ai0 P T with
        | some ti => match ti.k with
          | .string => match Nat.blt i b.size with
            | true => wN (b.data.getD i 0).toNat fun n => some ⟨.v (.int .u8 (Int.ofNat n)),aal x ++ aal ix,[]⟩
            | false => none
          | _ => none
        | none => none
      | _ => none
    | _ => none
  | .slice T x lo hi none => match rdC s x with
    | some (.lst sz es) => match bdC s lo 0 with
      | some l => match bdC s hi es.length with
        | some h => match be4 P T sz && Nat.ble l h && Nat.ble h es.length with
          | true => match frc ((es.drop l).take (h - l)) with
            | some r => some ⟨.lst sz r,aal x ++ (rtO lo ++ rtO hi),[]⟩
            | none => none
          | false => none
        | none => none
      | none => none
    | some (.v (.slice none 0 0)) => match bdC s lo 0 with
      | some 0 => match bdC s hi 0 with
        | some 0 => match ai0 P T with
          | some ti => match ti.k with
            | .slice E => match ai0 P E with
              | some _ => some ⟨.v (.slice none 0 0),aal x ++ (rtO lo ++ rtO hi),[]⟩
              | none => none
            | _ => none
          | none => none
        | _ => none
      | _ => none
    | some (.ms k sz off len) => match bdC s lo 0 with
      | some l => match bdC s hi len with
        | some h => match be4 P T sz && Nat.ble l h && Nat.ble h len with
          | true => wN (off + l) fun a => wN (h - l) fun b => some ⟨.ms k sz a b,aal x ++ (rtO lo ++ rtO hi),[]⟩
          | false => none
        | none => none
      | none => none
    | _ => none
  | .call ⟨.builtin .len, args, ts⟩ => match args.toList with
    | [x] => match ts.toList with
      | [T] => match rdC s x with
        | some (.lst _ es) => match ai0 P T with
          | some ti => match ti.k with
            | .slice _ => wN es.length fun n => some ⟨.v (.int .i64 (Int.ofNat n)),aal x,[]⟩
            | _ => none
          | none => none
        | some y => match bhh P x T [] y with
          | some r => some ⟨r.x,r.rt,r.rd⟩
          | none => none
        | none => none
      | _ => none
    | _ => none
  | .call ⟨.builtin .max, args, ts⟩ => match args.toList with
    | [x, y] => match rdC s x with
      | some (.v (.int .i64 a)) => match rdC s y with
        | some (.v (.int .i64 b)) => wI (if b > a then b else a) fun z => some ⟨.v (.int .i64 z),aal x ++ aal y,[]⟩
        | _ => none
      | _ => none
    | _ => none
  | op => match a8h P false True s op with
    | some r => match r.ob with
      | [] => some ⟨r.x,r.rt,r.rd⟩
      | _ => none
    | none => none
omit [Inhabited (Tys P)] in
theorem bis {N d : Nat} {s : AS} {R : Array Oper} {x y : Operand} {a b : Int} {t : TypeId} {ts : Array TypeId} {pos : String} {after : Array Edge} (hx : Ev s x (.v (.int .i64 a))) (hy : Ev s y (.v (.int .i64 b))) (hN : Nat.blt d N = true) :
  Step P N R s ⟨some d,.call ⟨.builtin .max,#[x,y],ts⟩,t,pos,after,none⟩ ⟨some (.v (.int .i64 (if b > a then b else a))),[],aal x ++ aal y,[]⟩ :=
 aa2 rfl rfl hN fun s' hag C m ac w hr => ⟨.int .i64 (if b > a then b else a), by
  have h := (hx.agree hag (fun _ h => List.mem_append.2 (.inl h))).rep hr
  have h' := (hy.agree hag (fun _ h => List.mem_append.2 (.inr h))).rep hr
  generalize hu : ac.eval x = u at h
  generalize hv : ac.eval y = v at h'
  cases h; cases h'
  simp [execOp,resolve,hu,hv,invoke,builtin,Builtin.max_,Builtin.max2],.v _⟩
section
variable {s : AS} {R : Array Oper} {d : Nat} {t T : TypeId} {pos : String} {after : Array Edge}
theorem bff {op : BinOp} {x y : Operand} {vx vy : Value} {S : TypeId} {r : V1} (hx : Ev s x (.v vx)) (hy : Ev s y (.v vy)) (h : bnh P op S x y vx vy = some r) (hN : Nat.blt d N = true) :
  Step P N R s ⟨some d,.binOp op S x y T,t,pos,after,none⟩ ⟨some r.x,[],r.rt,r.rd⟩ := by
 unfold bnh at h
 split at h
 ·split at h
  ·exact bhd hx hy h hN
  ·cases h
 ·split at h
  ·split at h
   ·rename_i c
    have hc : c = .nilIface:=by cases hy; rfl
    subst hc
    split at h
    ·rename_i he
     split at h
     ·rename_i ti hti
      split at h
      ·rename_i hk
       split at h
       ·cases h; exact a7n hx (auv he) (aay hti) hk hN
       ·cases h; exact a41 hx (auv he) (aay hti) hk hN
       ·cases h
      ·cases h
     ·cases h
    ·cases h
   ·cases h
  ·split at h
   ·split at h
    ·have h9 := a0r (P := P) (R := R) (S := S) (T := T) (t := t) (pos := pos) (after := after) hx hy hN
     rw [a7z] at h9
     split at h
     ·rename_i hb; rw [hb] at h9; cases h; exact h9
     ·rename_i hb; rw [hb] at h9; cases h; exact h9
    ·have h9 := a4z (P := P) (R := R) (S := S) (T := T) (t := t) (pos := pos) (after := after) hx hy hN
     rw [a7z] at h9
     split at h
     ·rename_i hb; rw [hb] at h9; cases h; exact h9
     ·rename_i hb; rw [hb] at h9; cases h; exact h9
    ·cases h
   ·cases h
  ·split at h
   ·rename_i r' h1
    split at h
    ·rename_i ho; cases h; exact a6k hx hy h1 (by rw [ho]; exact .nil) hN
    ·cases h
   ·cases h
theorem a51 {op : Op} {r : V1} (h : opV P s op = some r) (hN : Nat.blt d N = true) : Step P N R s ⟨some d, op, t, pos, after, none⟩ ⟨some r.x, [], r.rt, r.rd⟩ := by
 unfold opV at h
 split at h
 ·split at h
  ·rename_i hc
   split at h
   ·split at h
    ·rename_i z hz; cases h
     exact a6g (bz := z) (abh hc) (fun _ => abh hz) (fun e => by cases e) hN
    ·cases h
   ·split at h
    ·rename_i z hz; cases h
     exact a6g (bx := z) (abh hc) (fun e => by cases e) (fun _ => abh hz) hN
    ·cases h
  ·cases h
 ·rename_i op S x T
  split at h
  ·rename_i hop
   have hop : op = .eql \/ op = .neq:=by cases op <;> first | exact .inl rfl | exact .inr rfl | cases hop
   split at h
   ·rename_i xv hx
    split at h
    ·rename_i b hv
     split at h
     ·rename_i ti hti
      split at h
      ·rename_i hk
       have h9 := bgh (P := P) (R := R) (T := T) (t := t) (pos := pos) (after := after) hop (abh hx) hv (aay hti) hk hN
       rcases hop with rfl | rfl
       ·cases h; exact h9
       ·cases b <;> (cases h; exact h9)
      ·cases h
     ·cases h
    ·cases h
   ·cases h
  ·cases h
 ·rename_i T hne
  split at h
  ·rename_i hx
   split at h
   ·rename_i hy; exact bff (abh hx) (abh hy) h hN
   ·cases h
  ·rename_i hx
   split at h
   ·rename_i hy
    unfold bn9 at h
    split at h
    ·split at h
     ·rename_i he
      have h9 := bmb (P := P) (R := R) (T := T) (t := t) (pos := pos) (after := after) (abh hx) (abh hy) he hN
      split at h
      ·rename_i hb; rw [hb] at h9; cases h; exact h9
      ·rename_i hb; rw [hb] at h9; cases h; exact h9
     ·cases h
    ·cases h
   ·cases h
  ·cases h
 ·split at h
  ·rename_i hx; rw [asr] at h; cases h; exact baz (abh hx) hN
  ·cases h
 ·split at h
  ·rename_i hx
   split at h
   ·rename_i hS
    split at h
    ·rename_i hT
     split at h
     ·rename_i hk; rw [asr] at h; cases h; exact bj7 (abh hx) hN (aay hS) (aay hT) hk
     ·cases h
    ·cases h
   ·cases h
  ·cases h
 ·split at h
  ·rename_i i hi
   split at h
   ·rename_i hx
    split at h
    ·rename_i hs
     obtain ⟨ti,E,te,h1,h2,h3,h4⟩ := aoo hs
     split at h
     ·rename_i e he; cases h
      exact az3 (i := Int.ofNat i) (abh hx) (abh hi) h1 h2 h3 h4 (Int.natCast_nonneg _) he hN
     ·cases h
    ·cases h
   ·rename_i hx
    split at h
    ·rename_i hs
     simp only [and_eq_true,Nat.blt_eq] at hs
     obtain ⟨ti,E,te,h1,h2,h3,h4⟩ := aoo hs.1
     rw [ax7] at h; cases h
     exact af3 (i := Int.ofNat i) (abh hx) (abh hi) h1 h2 h3 h4 (Int.natCast_nonneg _) (Int.ofNat_lt.2 hs.2) hN
    ·cases h
   ·cases h
  ·cases h
 ·split at h
  ·rename_i hx
   split at h
   ·rename_i hk
    split at h
    ·rename_i hs
     split at h
     ·rename_i e he
      split at h
      ·rename_i ti hT
       split at h
       ·rename_i hle
        split at h
        ·rename_i v hv
         cases h
         cases eq_of_beq_eq_true hs
         obtain ⟨h1,rfl⟩ := bjd hv
         exact aar (abh hx) hk he (aay hT) hle h1 hN
        ·cases h
       ·cases h
      ·cases h
     ·cases h
    ·cases h
   ·cases h
  ·rename_i hx
   split at h
   ·rename_i ti hT
    split at h
    ·rename_i h1; cases h; exact a1g (abh hx) (aay hT) h1 hN
    ·cases h
   ·cases h
  ·cases h
 ·split at h
  ·rename_i i hi
   split at h
   ·rename_i hx
    split at h
    ·rename_i ti hT
     split at h
     ·rename_i hk
      split at h
      ·rename_i hb
       rw [Nat.blt_eq] at hb
       rw [ax7] at h; cases h
       exact alb (i := Int.ofNat i) (abh hx) (abh hi) (aay hT) hk (Int.natCast_nonneg _) (Int.ofNat_lt.2 hb) hN
      ·cases h
     ·cases h
    ·cases h
   ·cases h
  ·cases h
 ·split at h
  ·rename_i hx
   split at h
   ·rename_i l hl
    split at h
    ·rename_i hh hhi
     split at h
     ·rename_i hs
      simp only [and_eq_true,Nat.ble_eq] at hs
      obtain ⟨ti,E,te,h1,h2,h3,h4⟩ := aoo hs.1.1
      split at h
      ·rename_i hr; cases h; cases ag3 hr
       exact aap (abh hx) (arm hl) (arm hhi) h1 h2 h3 h4 hs.1.2 hs.2 hN
      ·cases h
     ·cases h
    ·cases h
   ·cases h
  ·rename_i hx
   split at h
   ·rename_i hl
    split at h
    ·rename_i hh
     split at h
     ·rename_i ti hT
      split at h
      ·rename_i E hk
       split at h
       ·rename_i te hE
        cases h
        exact a3p (abh hx) (arm hl) (arm hh) (aay hT) hk (aay hE) hN
       ·cases h
      ·cases h
     ·cases h
    ·cases h
   ·cases h
  ·rename_i hx
   split at h
   ·rename_i l hl
    split at h
    ·rename_i hh hhi
     split at h
     ·rename_i hs
      simp only [and_eq_true,Nat.ble_eq] at hs
      obtain ⟨ti,E,te,h1,h2,h3,h4⟩ := aoo hs.1.1
      rw [ax7,ax7] at h; cases h
      exact ai8 (abh hx) (arm hl) (arm hhi) h1 h2 h3 h4 hs.1.2 hs.2 hN
     ·cases h
    ·cases h
   ·cases h
  ·cases h
 ·rename_i args ts
  split at h
  ·rename_i x hx
   split at h
   ·rename_i T hT
    have e1 : args = #[x]:=by apply Array.toList_inj.1; simpa using hx
    have e2 : ts = #[T]:=by apply Array.toList_inj.1; simpa using hT
    subst e1; subst e2
    split at h
    ·rename_i h1
     split at h
     ·rename_i ti hti
      split at h
      ·rename_i hk; rw [ax7] at h; cases h; exact a01 (abh h1) (aay hti) hk hN
      ·cases h
     ·cases h
    ·rename_i h1
     split at h
     ·rename_i h2; cases h; exact a5w (abh h1) h2 hN
     ·cases h
    ·cases h
   ·cases h
  ·cases h
 ·rename_i args ts
  split at h
  ·rename_i x y hx
   split at h
   ·rename_i h1
    split at h
    ·rename_i h2
     have e1 : args = #[x,y]:=by apply Array.toList_inj.1; simpa using hx
     subst e1
     rw [asr] at h; cases h; exact bis (abh h1) (abh h2) hN
    ·cases h
   ·cases h
  ·cases h
 ·split at h
  ·rename_i h1
   split at h
   ·rename_i ho; cases h; exact an6 h1 (by rw [ho]; exact .nil) trivial hN
   ·cases h
  ·cases h
end
end Go.Lw
namespace Go.Lw
variable {P : Program} {N : Nat}
def tr (a b k : Nat) : Nat := match Nat.beq k a with
  | true => b
  | false => match Nat.beq k b with
    | true => a
    | false => k
theorem bm5 (a b k : Nat) : tr a b k = if k = a then b else if k = b then a else k := by
 unfold tr
 split
 ·rename_i h; rw [if_pos (eq_of_beq_eq_true h)]
 ·rename_i h; rw [if_neg (Nat.ne_of_beq_eq_false h)]
  split
  ·rename_i h; rw [if_pos (eq_of_beq_eq_true h)]
  ·rename_i h; rw [if_neg (Nat.ne_of_beq_eq_false h)]
theorem bav (a b k : Nat) : tr a b (tr a b k) = k := by
 simp only [bm5]
 by_cases h1 : k = a
 ·subst h1
  by_cases h2 : b = k
  ·simp [h2]
  ·simp [h2]
 ·by_cases h2 : k = b
  ·subst h2; simp [h1]
  ·simp [h1,h2]
theorem a8e {σ : Nat -> Nat} (hσ : ∀ k, σ (σ k) = k) : ∀ H : Hp, pmH σ (pmH σ H) = H
 | [] => rfl
 | (k, x) :: l => by
  simp only [pmH,hσ,a8e hσ l]
  cases x with
  | none => rfl
  | some x => simp only [Blk.pm_pm hσ]
def tA : List (Nat × Nat) -> List AV -> List AV
  | [],xs => xs
  | p :: L,xs => tA L (xs.map (AV.pm (tr p.1 p.2)))
def tH : List (Nat × Nat) -> Hp -> Hp
  | [],H => H
  | p :: L,H => tH L (pmH (tr p.1 p.2) H)
def rB : List (Nat × Nat) -> AV -> AV
  | [],r => r
  | p :: L,r => (rB L r).pm (tr p.1 p.2)
def hB : List (Nat × Nat) -> Hp -> Hp
  | [],H => H
  | p :: L,H => pmH (tr p.1 p.2) (hB L H)
theorem bok {f : FuncId} : ∀ {L : List (Nat × Nat)} {xs : List AV} {H H' : Hp} {r : AV}, Con P f (tA L xs) (tH L H) r H' -> Con P f xs H (rB L r) (hB L H')
 | [],xs,H,H',r,h => h
 | p :: L, xs, H, H', r, h => by
  have h1 := (bok (L := L) h).pm (bav p.1 p.2)
  rw [a8e (bav p.1 p.2),map_map] at h1
  have e : (AV.pm (tr p.1 p.2) ∘ AV.pm (tr p.1 p.2)) = id:=by funext x; exact AV.pm_pm (bav p.1 p.2) x
  rw [e,List.map_id] at h1
  exact h1
def boj : Nat -> List Nat -> List (Nat × Nat)
  | _,[] => []
  | b,k :: ks => (k,b) :: boj (b + 1) ks
def a2g (k : Nat) : List Nat -> Bool
  | [] => false
  | x :: l => match Nat.beq k x with
    | true => true
    | false => a2g k l
def a3a (s : AS) : Nat -> List Nat -> List Nat -> List Nat
  | 0,_,acc => acc
  | n + 1, ks, acc => match ks with
    | [] => acc
    | k :: ks => match a2g k acc with
      | true => a3a s n ks acc
      | false => match s.blk k with
        | some z => a3a s n (z.nm ++ ks) (acc ++ [k])
        | none => a3a s n ks acc
def pkH (s : AS) : List Nat -> Hp
  | [] => []
  | k :: ks => match s.blk k with
    | some z => (k,some z) :: pkH s ks
    | none => pkH s ks
theorem awr {s : AS} : ∀ {ks : List Nat} {k : Nat} {z : Blk}, lk (pkH s ks) k = some z -> lk s.hp k = some z
 | [],k,z,h => by cases h
 | k' :: ks, k, z, h => by
  unfold pkH at h
  split at h
  ·rename_i y hy
   rw [aab] at h
   split at h
   ·rename_i e; cases h; rw [e]; exact hy
   ·exact awr h
  ·exact awr h
structure Ent (P : Program) where
  f : FuncId
  xs : List AV
  r : AV
  H' : Hp
  con : Con P f xs [] r H'
structure FE (P : Program) where
  f : FuncId
  fn : Func
  c : Code
  rs : List ResultVar
  hf : P.funcs[f]? = some fn
  hb : fn.body = some c
  hn : (fn.name == "runtime.NumGoroutine") = false
  hrs : fn.results = rs.toArray
structure Env (P : Program) where
  orc : FuncId -> Option (List AV -> Option (Ent P))
  fe : FuncId -> Option (FE P)
  mt : FuncId -> Bool
def vEq : Value -> Value -> Bool
  | .int k a,.int k' b => Nat.beq (ikn k) (ikn k') && aaa .eql a b
  | .bool a,.bool b => a == b
  | .nilIface,.nilIface => true
  | .string a,.string b => bem a b
  | .slice none 0 0,.slice none 0 0 => true
  | .func (.func f) ⟨[]⟩ ⟨[]⟩,.func (.func g) ⟨[]⟩ ⟨[]⟩ => Nat.beq f g
  | .nilFunc,.nilFunc => true
  | .pointer none,.pointer none => true
  | .iface T v,.iface T' v' => Nat.beq T T' && vEq v v'
  | _,_ => false
theorem bfy {a b : ByteArray} (h : bem a b = true) : a = b := by
 unfold bem at h
 rw [axm] at h
 have h := eq_of_beq h
 have e : ∀ c : ByteArray,c = ⟨⟨c.data.toList⟩⟩ := fun c => by cases c; rfl
 rw [e a,e b,h]
theorem a07 : ∀ (a b : Value), vEq a b = true -> a = b
 | .iface T v, b, h => by
  cases b with
  | iface T' v' =>
   simp only [vEq,and_eq_true] at h
   rw [eq_of_beq_eq_true h.1,a07 v v' h.2]
  | _ => simp [vEq] at h
 | .int k a, b, h => by
  cases b with
  | int k' b =>
   simp only [vEq,and_eq_true] at h
   rw [ah3 h.1,eq_of_beq (show (a == b) = true from h.2)]
  | _ => simp [vEq] at h
 | .bool a, b, h => by
  cases b with
  | bool b => simp only [vEq,beq_iff_eq] at h; rw [h]
  | _ => simp [vEq] at h
 | .string a, b, h => by
  cases b with
  | string b => simp only [vEq] at h; rw [bfy h]
  | _ => simp [vEq] at h
 | .nilIface, b, h => by
  cases b <;> simp [vEq] at h
  rfl
 | .slice x n c, b, h => by
  unfold vEq at h
  split at h <;> simp_all
 | .float ..,b,h => by simp [vEq] at h
 | .complex ..,b,h => by simp [vEq] at h
 | .pointer p, b, h => by
  unfold vEq at h
  split at h <;> simp_all
 | .map _,b,h => by simp [vEq] at h
 | .chan _,b,h => by simp [vEq] at h
 | .func f x y, b, h => by
  unfold vEq at h
  split at h <;> first | (simp_all; done) | (simp_all; exact eq_of_beq_eq_true h)
 | .nilFunc, b, h => by
  unfold vEq at h
  split at h <;> simp_all
 | .agg _,b,h => by simp [vEq] at h
 | .tuple _,b,h => by simp [vEq] at h
mutual
def an1 : AV -> AV -> Bool
  | .v a, y => match y with
    | .v b => vEq a b
    | .lst _ es => match es with
      | [] => match a with
        | .slice _ 0 _ => true
        | _ => false
      | _ => false
    | _ => false
  | .lst sz es, y => match y with
    | .lst sz' es' => Nat.beq sz sz' && ayo es es'
    | _ => false
  | .agg cs, y => match y with
    | .agg cs' => axe cs cs'
    | _ => false
  | .tup cs, y => match y with
    | .tup cs' => a23 cs cs'
    | _ => false
  | _,_ => false
def axe : List AV -> List AV -> Bool
  | [], y => match y with
    | [] => true
    | _ => false
  | x :: l, y => match y with
    | x' :: l' => x'.one && an1 x x' && axe l l'
    | [] => false
def a23 : List AV -> List AV -> Bool
  | [], y => match y with
    | [] => true
    | _ => false
  | x :: l, y => match y with
    | x' :: l' => an1 x x' && a23 l l'
    | [] => false
def ayo : List AV -> List AV -> Bool
  | [], y => match y with
    | [] => true
    | _ => false
  | x :: l, y => match y with
    | x' :: l' => at6 x x' && ayo l l'
    | [] => false
def at6 : AV -> AV -> Bool
  | .agg cs, y => match y with
    | .agg cs' => axe cs cs'
    | _ => false
  | .v a, y => match y with
    | .v b => vEq a b && b.oneCell'
    | .lst _ es => match es with
      | [] => match a with
        | .slice _ 0 _ => true
        | _ => false
      | _ => false
    | _ => false
  | .lst sz es, y => match y with
    | .lst sz' es' => Nat.beq sz sz' && ayo es es'
    | _ => false
  | _,_ => false
end
theorem bj4 {a : Value} {y : AV} (h : an1 (.v a) y = true) : Sub (.v a) y := by
 cases y with
 | v b => simp only [an1] at h; rw [a07 _ _ h]; exact .refl _
 | lst sz es =>
  cases es with
  | nil =>
   cases a with
   | slice x n c =>
    cases n with
    | zero => exact .nil _ _ _
    | succ n => simp [an1] at h
   | _ => simp [an1] at h
  | cons e es => simp [an1] at h
 | _ => simp [an1] at h
mutual
theorem axg : ∀ (x y : AV), an1 x y = true -> Sub x y
 | .v a,y,h => bj4 h
 | .lst sz es, y, h => by
  cases y with
  | lst sz' es' =>
   simp only [an1,and_eq_true] at h
   cases eq_of_beq_eq_true h.1
   exact Sub.lst (ak0 es es' h.2).1 (ak0 es es' h.2).2
  | _ => simp [an1] at h
 | .agg cs, y, h => by
  cases y with
  | agg cs' =>
   simp only [an1] at h
   exact Sub.agg (an5 cs cs' h).1 (an5 cs cs' h).2
  | _ => simp [an1] at h
 | .tup cs, y, h => by
  cases y with
  | tup cs' =>
   simp only [an1] at h
   exact Sub.tup (a08 cs cs' h)
  | _ => simp [an1] at h
 | .iptr _,y,h => by simp [an1] at h
 | .ms ..,y,h => by simp [an1] at h
 | .ptr ..,y,h => by simp [an1] at h
 | .eptr ..,y,h => by simp [an1] at h
 | .fn ..,y,h => by simp [an1] at h
 | .opt ..,y,h => by simp [an1] at h
 | .yl ..,y,h => by simp [an1] at h
 | .cl ..,y,h => by simp [an1] at h
theorem an5 : ∀ (l l' : List AV), axe l l' = true -> SubL l l' /\ l'.all AV.one = true
 | [],[],h => ⟨.nil,rfl⟩
 | [],_ :: _,h => by simp [axe] at h
 | _ :: _,[],h => by simp [axe] at h
 | x :: l, x' :: l', h => by
  simp only [axe,and_eq_true] at h
  obtain ⟨h1,h2⟩ := an5 l l' h.2
  exact ⟨.cons (axg x x' h.1.2) h1,by simp only [List.all_cons,h.1.1,h2,Bool.and_self]⟩
theorem a08 : ∀ (l l' : List AV), a23 l l' = true -> SubL l l'
 | [],[],h => .nil
 | [],_ :: _,h => by simp [a23] at h
 | _ :: _,[],h => by simp [a23] at h
 | x :: l, x' :: l', h => by
  simp only [a23,and_eq_true] at h
  exact .cons (axg x x' h.1) (a08 l l' h.2)
theorem ak0 : ∀ (l l' : List AV), ayo l l' = true -> l.length = l'.length /\ ∀ (i : Nat) (e e' : AV), l[i]? = some e -> l'[i]? = some e' -> aes e e'
 | [],[],h => ⟨rfl,fun i e e' h => by simp at h⟩
 | [],_ :: _,h => by simp [ayo] at h
 | _ :: _,[],h => by simp [ayo] at h
 | x :: l, x' :: l', h => by
  simp only [ayo,and_eq_true] at h
  obtain ⟨h1,h2⟩ := ak0 l l' h.2
  refine ⟨by simp [h1],?_⟩
  intro i e e' he he'
  cases i with
  | zero => simp at he he'; subst he; subst he'; exact be6 x x' h.1
  | succ i => exact h2 i e e' (by simpa using he) (by simpa using he')
theorem be6 : ∀ (x y : AV), at6 x y = true -> aes x y
 | .v a, y, h => by
  have one : ∀ {z : AV}, z.cells = [z] -> z.one = true -> Sub (.v a) z -> aes (.v a) z := by
   intro z h1 h2 h3
   refine ⟨by rw [h1]; rfl,?_⟩
   intro j x y hx hy
   rw [h1] at hy
   cases j with
   | zero => simp [AV.cells] at hx hy; subst hx; subst hy; exact ⟨h2,h3⟩
   | succ j => simp at hy
  cases y with
  | v b =>
   simp only [at6,and_eq_true] at h
   exact one rfl h.2 (by rw [a07 _ _ h.1]; exact .refl _)
  | lst sz es =>
   refine one rfl rfl (bj4 ?_)
   cases es with
   | nil => unfold at6 at h; unfold an1; exact h
   | cons => simp [at6] at h
  | _ => simp [at6] at h
 | .lst sz es, y, h => by
  cases y with
  | lst sz' es' =>
   simp only [at6,and_eq_true] at h
   cases eq_of_beq_eq_true h.1
   refine ⟨rfl,?_⟩
   intro j x y hx hy
   cases j with
   | zero =>
    simp [AV.cells] at hx hy; subst hx; subst hy
    exact ⟨rfl,Sub.lst (ak0 es es' h.2).1 (ak0 es es' h.2).2⟩
   | succ j => simp [AV.cells] at hy
  | _ => simp [at6] at h
 | .agg cs, y, h => by
  cases y with
  | agg cs' =>
   simp only [at6] at h
   obtain ⟨h1,h2⟩ := an5 cs cs' h
   exact ⟨h1.len,fun j x y hx hy => ⟨List.all_eq_true.1 h2 y (mem_of_getElem? hy),h1.get j x y hx hy⟩⟩
  | _ => simp [at6] at h
 | .tup ..,y,h => by simp [at6] at h
 | .iptr _,y,h => by simp [at6] at h
 | .ms ..,y,h => by simp [at6] at h
 | .ptr ..,y,h => by simp [at6] at h
 | .eptr ..,y,h => by simp [at6] at h
 | .fn ..,y,h => by simp [at6] at h
 | .opt ..,y,h => by simp [at6] at h
 | .yl ..,y,h => by simp [at6] at h
 | .cl ..,y,h => by simp [at6] at h
end
end Go.Lw
namespace Go.Lw
variable {P : Program} {N : Nat}
inductive OR where
  | ok (u : Out)
  | need (k : Nat)
  | no
inductive CR where
  | ok (H : Hp) (r : AV) (H' : Hp)
  | need (k : Nat)
  | no
def ax4 : List AV -> List AV -> Bool
  | [], y => match y with
    | [] => true
    | _ => false
  | x :: l, y => match y with
    | x' :: l' => an1 x x' && ax4 l l'
    | [] => false
theorem a0q : ∀ {l l' : List AV}, ax4 l l' = true -> SubL l l'
 | [],[],h => .nil
 | [],_ :: _,h => by simp [ax4] at h
 | _ :: _,[],h => by simp [ax4] at h
 | x :: l, x' :: l', h => by
  simp only [ax4,and_eq_true] at h
  exact .cons (axg x x' h.1) (a0q h.2)
def mx : Nat -> List Nat -> Nat
  | m,[] => m
  | m, k :: l => match Nat.blt m k && Nat.blt k 1000 with
    | true => mx k l
    | false => mx m l
def bf0 (s : AS) : Nat -> Nat -> Nat
  | 0,k => k
  | n + 1, k => match s.freshB k with
    | true => k
    | false => bf0 s n (k + 1)
def nxt (s : AS) (av : List Nat) : Nat := bf0 s 100 (mx (mx 299 (s.hp.map (·.1))) av + 1)
mutual
theorem AV.pm_id (σ : Nat -> Nat) : ∀ x : AV, x.nm = [] -> x.pm σ = x
 | .ms k sz off len,h => by simp [AV.nm] at h
 | .ptr k off,h => by simp [AV.nm] at h
 | .eptr k sz i off,h => by simp [AV.nm] at h
 | .yl k,h => by simp [AV.nm] at h
 | .agg cs,h => by simp only [AV.pm]; rw [AV.pms_id σ cs (by simpa only [AV.nm] using h)]
 | .tup cs,h => by simp only [AV.pm]; rw [AV.pms_id σ cs (by simpa only [AV.nm] using h)]
 | .fn f cs,h => by simp only [AV.pm]; rw [AV.pms_id σ cs (by simpa only [AV.nm] using h)]
 | .opt b x,h => by simp only [AV.pm]; rw [AV.pm_id σ x (by simpa only [AV.nm] using h)]
 | .v x,h => rfl
 | .lst sz l,h => rfl
 | .iptr l,h => rfl
 | .cl f cs ds,h => rfl
theorem AV.pms_id (σ : Nat -> Nat) : ∀ l : List AV, AV.nms l = [] -> AV.pms σ l = l
 | [],h => rfl
 | x :: l, h => by
  simp only [AV.nms,List.append_eq_nil_iff] at h
  simp only [AV.pms]; rw [AV.pm_id σ x h.1,AV.pms_id σ l h.2]
end
theorem bg4 {f : FuncId} {xs : List AV} {r : AV} {H' : Hp} (h : Con P f xs [] r H') (hx : AV.nms xs = []) (k d : Nat) : Con P f xs [] (r.pm (tr k d)) (pmH (tr k d) H') := by
 have h1 := h.pm (bav k d)
 rw [<- AV.pms_eq,AV.pms_id _ xs hx] at h1
 exact h1
abbrev ah8 := List Nat -> FuncId -> List AV -> Hp -> Option (AV × Hp)
def ah8.Ok (P : Program) (F : ah8) : Prop := ∀ av f xs H r H',F av f xs H = some (r,H') -> Con P f xs H r H'
def boh (s : AS) : List Nat -> Option Nat
  | [] => none
  | k :: ks => match s.blk k with
    | some (.row _ _) => some k
    | _ => boh s ks
def bah (F : ah8) (s : AS) (av : List Nat) (f : FuncId) (xs : List AV) : CR :=
  match pkH s (a3a s 300 (AV.nms xs) []) with
  | H => match F (s.hp.map (·.1) ++ av) f xs H with
    | some (r,H') => .ok H r H'
    | none => .no
def a9e (E : Env P) (F : ah8) (s : AS) (av : List Nat) (f : FuncId) (xs : List AV) : CR := match E.mt f with
  | true => bah F s av f xs
  | false => match boh s (AV.nms xs) with
    | some k => .need k
    | none => bah F s av f xs
def ax8 (E : Env P) (F : ah8) (s : AS) (av : List Nat) (f : FuncId) (xs : List AV) : CR := match E.orc f with
  | some g => match AV.nms xs with
    | k :: _ => .need k
    | [] => match g xs with
      | some e => match Nat.beq e.f f && ax4 xs e.xs with
        | true => match e.H' with
          | (k,some z) :: l => .ok [] (e.r.pm (tr k (nxt s av))) (pmH (tr k (nxt s av)) e.H')
          | _ => .ok [] e.r e.H'
        | false => a9e E F s av f xs
      | none => a9e E F s av f xs
  | none => a9e E F s av f xs
theorem a0p {F : ah8} (hF : F.Ok P) {s : AS} {av : List Nat} {f : FuncId} {xs : List AV} {H H' : Hp} {r : AV} (h : bah F s av f xs = .ok H r H') : Con P f xs H r H' /\ ∀ k z, lk H k = some z -> s.blk k = some z := by
 unfold bah at h
 simp only at h
 split at h
 ·rename_i h1; cases h; exact ⟨hF _ _ _ _ _ _ h1,fun k z hz => awr hz⟩
 ·cases h
theorem asw {E : Env P} {F : ah8} (hF : F.Ok P) {s : AS} {av : List Nat} {f : FuncId} {xs : List AV} {H H' : Hp} {r : AV} (h : a9e E F s av f xs = .ok H r H') : Con P f xs H r H' /\ ∀ k z, lk H k = some z -> s.blk k = some z := by
 unfold a9e at h
 split at h
 ·exact a0p hF h
 ·split at h
  ·cases h
  ·exact a0p hF h
theorem alv {E : Env P} {F : ah8} (hF : F.Ok P) {s : AS} {av : List Nat} {f : FuncId} {xs : List AV} {H H' : Hp} {r : AV} (h : ax8 E F s av f xs = .ok H r H') : Con P f xs H r H' /\ ∀ k z, lk H k = some z -> s.blk k = some z := by
 unfold ax8 at h
 split at h
 ·split at h
  ·cases h
  ·rename_i hn
   split at h
   ·rename_i e he
    split at h
    ·rename_i hc
     simp only [and_eq_true] at hc
     have hf := eq_of_beq_eq_true hc.1
     subst hf
     have h9 := Con.subA (a0q hc.2) e.con
     split at h
     ·rename_i k z l _
      obtain ⟨rfl,rfl,rfl⟩ := CR.ok.inj h
      exact ⟨bg4 h9 hn _ _,fun k z hz => by cases hz⟩
     ·obtain ⟨rfl, rfl, rfl⟩ := CR.ok.inj h
      exact ⟨h9,fun k z hz => by cases hz⟩
    ·exact asw hF h
   ·exact asw hF h
 ·exact asw hF h
theorem a75 {s : AS} {R : Array Oper} {d q sz cap0 : Nat} {a0 : Option Addr} {xs : List AV} {x y : Operand} {T E t : TypeId} {ti te : TI} {pos : String} {after : Array Edge}
  (hx : Ev s x (.v (.slice a0 0 0))) (hy : Ev s y (.lst sz xs)) (hT : aah P T = some ti) (hkd : ti.k = .slice E) (hE : aah P E = some te)
  (hsz : te.size = sz) (hz0 : (Nat.beq te.zero.length te.size && Nat.blt 0 te.size && Nat.blt 0 te.bytes) = true) (hb : (0 + xs.length) * te.bytes <= 140737488355328) (hdk : Nat.beq d q = false)
  (hN : Nat.blt d N = true) :
  Step P N R s ⟨some d, .call ⟨.builtin .append, #[x, y], #[T, T]⟩, t, pos, after, none⟩
   ⟨some (.ms d sz 0 (0 + xs.length)),[(d,some (.row sz ([] ++ xs))),(q,none)],aal x ++ aal y,[]⟩ := by
 refine ⟨fun s' hag hnew C m a w Q next hC hr hnext => ?_⟩
 have hq : s'.Fresh q := by
  rcases hnew q (by simp) with h | h
  ·cases h
  ·exact h
 have hd : s'.Fresh d := by
  rcases hnew d (by simp) with h | h
  ·cases h
  ·exact h
 have hdq := Nat.ne_of_beq_eq_false hdk
 have hx' := hx.agree hag (fun _ h => List.mem_append.2 (.inl h))
 have hy' := hy.agree hag (fun _ h => List.mem_append.2 (.inr h))
 let s2 : AS := ⟨s'.sl,(q,some (.row sz [])) :: s'.hp⟩
 have evs : ∀ {o : Operand} {z : AV}, Ev s' o z -> Ev s2 o z := fun h => by
  cases h with
  | tmp h => exact .tmp h
  | opt h hb => exact .opt h hb
  | const c => exact .const c
  | func f => exact .func f
 have st := avo (P := P) (N := N) (R := R) (s := s2) (d := d) (k := q) (t := t) (pos := pos) (after := after) (es := []) (evs hx') (fun g S m v h => Sub.nilMs a0 q sz g S m v h) (by simp [s2,AS.blk,aab]) rfl (evs hy') hT hkd hE hsz hz0 hb hdk hN
 refine st.run s2 ⟨fun _ _ => rfl,fun _ _ => rfl⟩ ?_ C _ a w Q next hC (hr.virt sz hq) (fun m' a' w' hr' => hnext m' a' w' ?_)
 ·intro k hk
  simp only [map_cons,List.map_nil,mem_cons,not_mem_nil,or_false] at hk
  rcases hk with rfl | rfl
  ·exact .inr (Fresh.row hd hdq (fun h => h))
  ·exact .inl (by simp)
 ·refine RelM.congr ?_ ?_ hr'
  ·intro t; rfl
  ·intro k
   simp only [AS.app,AS.blk,s2,List.cons_append,nil_append,aab]
   split
   ·rfl
   ·split <;> rfl
mutual
def a00 : AV -> AV -> Bool
  | .v a, y => match y with
    | .v b => vEq a b
    | _ => false
  | .lst sz es, y => match y with
    | .lst sz' es' => Nat.beq sz sz' && an2 es es'
    | _ => false
  | .agg cs, y => match y with
    | .agg cs' => an2 cs cs'
    | _ => false
  | .tup cs, y => match y with
    | .tup cs' => an2 cs cs'
    | _ => false
  | .iptr cs, y => match y with
    | .iptr cs' => an2 cs cs'
    | _ => false
  | .ms k sz off len, y => match y with
    | .ms k' sz' off' len' => Nat.beq k k' && (Nat.beq sz sz' && (Nat.beq off off' && Nat.beq len len'))
    | _ => false
  | .ptr k off, y => match y with
    | .ptr k' off' => Nat.beq k k' && Nat.beq off off'
    | _ => false
  | .eptr k sz i off, y => match y with
    | .eptr k' sz' i' off' => Nat.beq k k' && (Nat.beq sz sz' && (Nat.beq i i' && Nat.beq off off'))
    | _ => false
  | .fn f cs, y => match y with
    | .fn f' cs' => Nat.beq f f' && an2 cs cs'
    | _ => false
  | .opt _ _,_ => false
  | .yl _,_ => false
  | .cl _ _ _,_ => false
def an2 : List AV -> List AV -> Bool
  | [], y => match y with
    | [] => true
    | _ => false
  | x :: l, y => match y with
    | x' :: l' => a00 x x' && an2 l l'
    | [] => false
end
mutual
theorem bf9 : ∀ (x y : AV), a00 x y = true -> x = y
 | .v a,y,h => by cases y <;> simp [a00] at h; rw [a07 _ _ h]
 | .lst sz es, y, h => by
  cases y <;> simp only [a00,and_eq_true,Bool.false_eq_true] at h
  rw [eq_of_beq_eq_true h.1,ag4 _ _ h.2]
 | .agg cs,y,h => by cases y <;> simp only [a00,Bool.false_eq_true] at h; rw [ag4 _ _ h]
 | .tup cs,y,h => by cases y <;> simp only [a00,Bool.false_eq_true] at h; rw [ag4 _ _ h]
 | .iptr cs,y,h => by cases y <;> simp only [a00,Bool.false_eq_true] at h; rw [ag4 _ _ h]
 | .ms k sz off len, y, h => by
  cases y <;> simp only [a00,and_eq_true,Bool.false_eq_true] at h
  rw [eq_of_beq_eq_true h.1,eq_of_beq_eq_true h.2.1,eq_of_beq_eq_true h.2.2.1,eq_of_beq_eq_true h.2.2.2]
 | .ptr k off, y, h => by
  cases y <;> simp only [a00,and_eq_true,Bool.false_eq_true] at h
  rw [eq_of_beq_eq_true h.1,eq_of_beq_eq_true h.2]
 | .eptr k sz i off, y, h => by
  cases y <;> simp only [a00,and_eq_true,Bool.false_eq_true] at h
  rw [eq_of_beq_eq_true h.1,eq_of_beq_eq_true h.2.1,eq_of_beq_eq_true h.2.2.1,eq_of_beq_eq_true h.2.2.2]
 | .fn f cs, y, h => by
  cases y <;> simp only [a00,and_eq_true,Bool.false_eq_true] at h
  rw [eq_of_beq_eq_true h.1,ag4 _ _ h.2]
 | .opt ..,y,h => by simp [a00] at h
 | .yl ..,y,h => by simp [a00] at h
 | .cl ..,y,h => by simp [a00] at h
theorem ag4 : ∀ (l l' : List AV), an2 l l' = true -> l = l'
 | [],[],h => rfl
 | [],_ :: _,h => by simp [an2] at h
 | _ :: _,[],h => by simp [an2] at h
 | x :: l, x' :: l', h => by
  simp only [an2,and_eq_true] at h
  rw [bf9 x x' h.1,ag4 l l' h.2]
end
def bgr : Blk -> Blk -> Bool
  | .box cs,.box cs' => an2 cs cs'
  | .row sz es,.row sz' es' => Nat.beq sz sz' && an2 es es'
  | _,_ => false
theorem bb9 {x y : Blk} (h : bgr x y = true) : x = y := by
 cases x <;> cases y <;> simp only [bgr,Bool.false_eq_true] at h
 ·rw [ag4 _ _ h]
 ·simp only [and_eq_true] at h
  rw [eq_of_beq_eq_true h.1,ag4 _ _ h.2]
theorem aik {k : Nat} : ∀ {l : List Nat}, a2g k l = true ↔ k ∈ l
 | [] => by simp [a2g]
 | x :: l => by
  unfold a2g
  split
  ·rename_i h; simp [eq_of_beq_eq_true h]
  ·rename_i h; rw [aik (l := l)]; simp [Nat.ne_of_beq_eq_false h]
def chg (H : Hp) : List Nat -> Hp -> Hp
  | _,[] => []
  | seen, (k, x) :: l => match a2g k seen with
    | true => chg H seen l
    | false => match x with
      | some z => match lk H k with
        | some y => match bgr y z with
          | true => chg H (k :: seen) l
          | false => (k,some z) :: chg H (k :: seen) l
        | none => (k,some z) :: chg H (k :: seen) l
      | none => (k,none) :: chg H (k :: seen) l
theorem a8w {H R : Hp} (hR : ∀ t y, lk H t = some y -> lk R t = some y) : ∀ {l : Hp} {seen : List Nat} {t : Nat}, t ∉ seen -> lk (chg H seen l ++ R) t = if t ∈ l.map (·.1) then lk l t else lk R t
 | [],seen,t,h => by simp [chg]
 | (k, x) :: l, seen, t, h => by
  have rest : t ≠ k -> lk (chg H (k :: seen) l ++ R) t = if t ∈ ((k, x) :: l).map (·.1) then lk ((k, x) :: l) t else lk R t := by
   intro hne
   rw [a8w hR (fun hh => by rcases List.mem_cons.1 hh with e | e; exact hne e; exact h e)]
   simp only [map_cons,mem_cons,hne,false_or]
   rw [aab,if_neg hne]
  have head : lk ((k, x) :: (chg H (k :: seen) l ++ R)) t = if t ∈ ((k, x) :: l).map (·.1) then lk ((k, x) :: l) t else lk R t := by
   rw [aab]
   by_cases e : t = k
   ·rw [if_pos e,aab,if_pos e]; simp [e]
   ·rw [if_neg e,rest e]
  unfold chg
  split
  ·rename_i hm
   have hne : t ≠ k := fun e => h (by rw [e]; exact aik.1 hm)
   rw [a8w hR h]
   simp only [map_cons,mem_cons,hne,false_or]
   rw [aab,if_neg hne]
  ·split
   ·rename_i z
    split
    ·rename_i y hy
     split
     ·rename_i he
      by_cases e : t = k
      ·rw [chg_none (by rw [e]; exact mem_cons_self ..), e, hR k y hy, bb9 he]
       simp [aab]
      ·exact rest e
     ·exact head
    ·exact head
   ·exact head
where
 chg_none {H R : Hp} : ∀ {l : Hp} {seen : List Nat} {t : Nat}, t ∈ seen -> lk (chg H seen l ++ R) t = lk R t
  | [],seen,t,h => rfl
  | (k, x) :: l, seen, t, h => by
   unfold chg
   split
   ·exact chg_none h
   ·rename_i hm
    have hne : t ≠ k := fun e => by rw [e] at h; rw [aik.2 h] at hm; cases hm
    have ih := chg_none (H := H) (R := R) (l := l) (mem_cons_of_mem k h)
    split
    ·split
     ·split
      ·exact ih
      ·show lk (_ :: (_ ++ R)) t = _
       rw [aab,if_neg hne]; exact ih
     ·show lk (_ :: (_ ++ R)) t = _
      rw [aab,if_neg hne]; exact ih
    ·show lk (_ :: (_ ++ R)) t = _
     rw [aab,if_neg hne]; exact ih
theorem atq {H : Hp} : ∀ {l : Hp} {seen : List Nat} {k : Nat}, k ∈ l.map (·.1) -> k ∉ seen -> k ∈ (chg H seen l).map (·.1) \/ ∃ y, lk H k = some y
 | [],seen,k,h,_ => by simp at h
 | (k', x) :: l, seen, k, h, hs => by
  unfold chg
  by_cases e : k = k'
  ·subst e
   have hm : a2g k seen = false := by
    cases hq : a2g k seen with
    | true => exact absurd (aik.1 hq) hs
    | false => rfl
   simp only [hm]
   split
   ·split
    ·rename_i y hy
     split
     ·exact .inr ⟨y,hy⟩
     ·exact .inl (by simp)
    ·exact .inl (by simp)
   ·exact .inl (by simp)
  ·have h' : k ∈ l.map (·.1) := by simpa [e] using h
   have hs' : k ∉ k' :: seen := fun hh => by rcases List.mem_cons.1 hh with e' | e'; exact e e'; exact hs e'
   have ih1 := atq (H := H) h' hs
   have ih2 := atq (H := H) h' hs'
   split
   ·exact ih1
   ·split
    ·split
     ·split
      ·exact ih2
      ·rcases ih2 with h | h
       ·exact .inl (mem_cons_of_mem _ h)
       ·exact .inr h
     ·rcases ih2 with h | h
      ·exact .inl (mem_cons_of_mem _ h)
      ·exact .inr h
    ·rcases ih2 with h | h
     ·exact .inl (mem_cons_of_mem _ h)
     ·exact .inr h
theorem ajj {R : Array Oper} {s : AS} {o : Oper} {x : Option AV} {H U : Hp} {rt : List Nat} (hH : ∀ k z, lk H k = some z -> s.blk k = some z) (h : Step P N R s o ⟨x, U, rt, H.map (·.1)⟩) :
  Step P N R s o ⟨x,chg H [] U,rt,H.map (·.1)⟩ := by
 refine ⟨fun s' hag hnew C m a w Q next hC hr hnext => ?_⟩
 have hH' : ∀ k z,lk H k = some z -> lk s'.hp k = some z := fun k z hz => (hag.2 k (aa6 hz)).trans (hH k z hz)
 refine h.run s' hag (fun k hk => ?_) C m a w Q next hC hr (fun m' a' w' hr' => hnext m' a' w' ?_)
 ·rcases atq (H := H) hk (seen := []) (by simp) with h1 | ⟨y, hy⟩
  ·exact hnew k h1
  ·exact .inl (aa6 hy)
 ·refine RelM.congr (s := s'.app o.dst ⟨x, U, rt, H.map (·.1)⟩) (fun t => rfl) (fun k => ?_) hr'
  simp only [AS.blk,AS.app]
  rw [a8w hH' (by simp),adf]
variable [Inhabited (Tys P)]
def bmy (P : Program) [Inhabited (Tys P)] (s : AS) (d : Nat) (x y : Operand) (T : TypeId) : OR := match rdC s y with
  | some (.lst sz xs) => match ai0 P T with
    | some ti => match ti.k with
      | .slice E => match ai0 P E with
        | some te => match Nat.beq te.size sz && (Nat.beq te.zero.length te.size && Nat.blt 0 te.size && Nat.blt 0 te.bytes) with
          | true => match rdC s x with
            | some (.ms k sz' off len) => match s.blk k with
              | some (.row sz2 es) => match Nat.beq sz' sz && Nat.beq off 0 && Nat.beq sz2 sz && Nat.beq len es.length && Nat.ble ((len + xs.length) * te.bytes) 140737488355328 with
                | true => match Nat.beq d k with
                  | true => .no
                  | false => match frc (es ++ xs) with
                    | some l => wN (len + xs.length) fun n => .ok ⟨some (.ms d sz 0 n),[(d,some (.row sz l)),(k,none)],aal x ++ aal y,[k]⟩
                    | none => .no
                | false => .no
              | _ => .no
            | some (.v (.slice a0 0 0)) => match Nat.ble ((0 + xs.length) * te.bytes) 140737488355328 with
              | true => match Nat.beq d 299 with
                | true => .no
                | false => match frc ([] ++ xs) with
                  | some l => wN (0 + xs.length) fun n => .ok ⟨some (.ms d sz 0 n),[(d,some (.row sz l)),(299,none)],aal x ++ aal y,[]⟩
                  | none => .no
              | false => .no
            | _ => .no
          | false => .no
        | none => .no
      | _ => .no
    | none => .no
  | some (.ms k _ _ _) => .need k
  | _ => .no
theorem beb {s : AS} {R : Array Oper} {d : Nat} {x y : Operand} {T t : TypeId} {u : Out} {pos : String} {after : Array Edge} (h : bmy P s d x y T = .ok u) (hN : Nat.blt d N = true) :
  Step P N R s ⟨some d,.call ⟨.builtin .append,#[x,y],#[T,T]⟩,t,pos,after,none⟩ u := by
 unfold bmy at h
 split at h
 ·rename_i sz xs hy
  split at h
  ·rename_i ti hT
   split at h
   ·rename_i E hk
    split at h
    ·rename_i te hE
     split at h
     ·rename_i hc
      simp only [and_eq_true] at hc
      have hsz := eq_of_beq_eq_true hc.1
      have hz0 : (Nat.beq te.zero.length te.size && Nat.blt 0 te.size && Nat.blt 0 te.bytes) = true:=by simp only [and_eq_true]; exact hc.2
      split at h
      ·rename_i k sz' off len hx
       split at h
       ·rename_i sz2 es hb
        split at h
        ·rename_i hg
         simp only [and_eq_true,Nat.ble_eq] at hg
         obtain ⟨⟨⟨⟨g1,g2⟩,g3⟩,g4⟩,g5⟩ := hg
         cases eq_of_beq_eq_true g1
         cases eq_of_beq_eq_true g2
         cases eq_of_beq_eq_true g3
         split at h
         ·cases h
         ·rename_i hdk
          split at h
          ·rename_i l hl
           cases ag3 hl
           rw [ax7] at h; cases h
           exact abt (abh hx) hb (eq_of_beq_eq_true g4) (abh hy) (aay hT) hk (aay hE) hsz hz0 g5 hdk hN
          ·cases h
        ·cases h
       ·cases h
      ·rename_i a0 hx
       split at h
       ·rename_i g5
        rw [Nat.ble_eq] at g5
        split at h
        ·cases h
        ·rename_i hdk
         split at h
         ·rename_i l hl
          cases ag3 hl
          rw [ax7] at h; cases h
          exact a75 (cap0 := 0) (abh hx) (abh hy) (aay hT) hk (aay hE) hsz hz0 g5 hdk hN
         ·cases h
       ·cases h
      ·cases h
     ·cases h
    ·cases h
   ·cases h
  ·cases h
 ·cases h
 ·cases h
def bnc (P : Program) [Inhabited (Tys P)] (s : AS) (T : TypeId) (x y : Operand) : OR := match rdC s x with
  | some (.eptr k sz i off) => match rdC s y with
    | some v => match v.nm with
      | k' :: _ => .need k'
      | [] => match s.blk k with
        | some (.row sz' es) => match es[i]? with
          | some e => match ai0 P T with
            | some ti => match Nat.beq sz sz' && v.ok && Nat.beq v.cells.length ti.size && Nat.ble (off + ti.size) e.cells.length with
              | true => match e with
                | .agg cs => match frc (over cs off v.cells) with
                  | some l => match frc (es.set i (.agg l)) with
                    | some es' => .ok ⟨none,[(k,some (.row sz es'))],aal x ++ aal y,[k]⟩
                    | none => .no
                  | none => .no
                | e => match Nat.beq off 0 && Nat.beq v.cells.length 1 with
                  | true => match frc (es.set i v) with
                    | some es' => .ok ⟨none,[(k,some (.row sz es'))],aal x ++ aal y,[k]⟩
                    | none => .no
                  | false => .no
              | false => .no
            | none => .no
          | none => .no
        | _ => .no
    | none => .no
  | _ => .no
theorem a2v {e : AV} (h : ∀ cs, e ≠ .agg cs) : e.cells = [e] := by
 cases e <;> first | rfl | exact absurd rfl (h _)
theorem bfd {s : AS} {R : Array Oper} {x y : Operand} {T t : TypeId} {u : Out} {pos : String} {after : Array Edge} (h : bnc P s T x y = .ok u) :
  Step P N R s ⟨none,.store T x y,t,pos,after,none⟩ u := by
 unfold bnc at h
 split at h
 ·rename_i k sz i off hx
  split at h
  ·rename_i v hy
   split at h
   ·cases h
   ·rename_i hnm
    split at h
    ·rename_i sz' es hb
     split at h
     ·rename_i e he
      split at h
      ·rename_i ti hT
       split at h
       ·rename_i hc
        simp only [and_eq_true] at hc
        obtain ⟨⟨⟨c1,c2⟩,c3⟩,c4⟩ := hc
        cases eq_of_beq_eq_true c1
        split at h
        ·rename_i cs
         split at h
         ·rename_i l hl
          split at h
          ·rename_i es' hes
           cases h
           cases ag3 hl
           cases ag3 hes
           exact atb (abh hx) hb he (abh hy) c2 hnm (aay hT) c3 c4 rfl
          ·cases h
         ·cases h
        ·rename_i hne
         split at h
         ·rename_i hg
          simp only [and_eq_true] at hg
          split at h
          ·rename_i es' hes
           cases h
           cases ag3 hes
           cases eq_of_beq_eq_true hg.1
           refine atb (abh hx) hb he (abh hy) c2 hnm (aay hT) c3 c4 ?_
           rw [a2v hne]
           have := eq_of_beq_eq_true hg.2
           simp [over,this]
          ·cases h
         ·cases h
       ·cases h
      ·cases h
     ·cases h
    ·cases h
  ·cases h
 ·cases h
def mkS (P : Program) [Inhabited (Tys P)] (d : Nat) (T : TypeId) (n : Int) (rt : List Nat) : OR := match ai0 P T with
  | some ti => match ti.k with
    | .slice E => match ai0 P E with
      | some te => match te.zero.all Value.oneCell' && (Nat.beq te.zero.length te.size && Nat.blt 0 te.size && Nat.blt 0 te.bytes && (te.ag || Nat.beq te.size 1)) with
        | true => match n with
          | .ofNat n => match Nat.ble (n * te.bytes) 281474976710656 with
            | true => match frc (List.replicate n (mkT te.ag (te.zero.map .v))) with
              | some l => .ok ⟨some (.ms d te.size 0 n),[(d,some (.row te.size l))],rt,[]⟩
              | none => .no
            | false => .no
          | .negSucc _ => .no
        | false => .no
      | none => .no
    | _ => .no
  | none => .no
theorem bia {s : AS} {R : Array Oper} {d : Nat} {x : Operand} {T t : TypeId} {n : Int} {u : Out} {pos : String} {after : Array Edge} (hx : Ev s x (.v (.int .i64 n))) (h : mkS P d T n (aal x) = .ok u) (hN : Nat.blt d N = true) :
  Step P N R s ⟨some d,.makeSlice T x x,t,pos,after,none⟩ u := by
 unfold mkS at h
 split at h
 ·rename_i ti hT
  split at h
  ·rename_i E hk
   split at h
   ·rename_i te hE
    split at h
    ·rename_i hc
     rw [and_eq_true] at hc
     split at h
     ·rename_i n
      split at h
      ·rename_i hb
       rw [Nat.ble_eq] at hb
       split at h
       ·rename_i l hl
        cases h
        cases ag3 hl
        exact af5 (n := Int.ofNat n) hx (aay hT) hk (aay hE) hc.1 hc.2 (Int.natCast_nonneg _) (by simp only [Int.ofNat_eq_natCast]; omega) hN
       ·cases h
      ·cases h
     ·cases h
    ·cases h
   ·cases h
  ·cases h
 ·cases h
theorem bfr {P : Program} {N : Nat} {s : AS} {R : Array Oper} {d f : Nat} {g : Operand} {args : Array Operand} {ts : Array TypeId} {xs : List AV} {H H' : Hp} {r : AV} {t : TypeId} {pos : String} {after : Array Edge}
  (hg : Ev s g (.v (.func (.func f) #[] #[]))) (hcon : Con P f xs H r H') (ha : EvL s args.toList xs) (hH : ∀ k z,lk H k = some z -> s.blk k = some z) (hok : acx s H H' r = true) (hN : Nat.blt d N = true) :
  Step P N R s ⟨some d,.call ⟨.value g,args,ts⟩,t,pos,after,none⟩ ⟨some r,H' ++ ajc H,aal g ++ rtL args.toList,H.map (·.1)⟩ :=
 ajb rfl (fun d' h => by cases h; exact ⟨hN, rfl⟩) hcon hH hok fun s' hag C m a w hr => by
  have hag' : ac6 s s' ⟨none,[],aal g ++ rtL args.toList,[]⟩ := ⟨hag,fun k hk => by cases hk⟩
  have ha' := ha.agree hag' (fun _ h => List.mem_append.2 (.inr h))
  have hgr := (hg.agree hag' (fun _ h => List.mem_append.2 (.inl h))).rep hr
  generalize hv : a.eval g = u at hgr
  cases hgr
  refine ⟨args.map a.eval,ark (caps := #[]) rfl hv hcon.ok (by simp),?_,?_⟩
  ·have := ha'.length; simpa using this
  ·intro j v x hv hx; exact ha'.rep hr j v x (by simpa using hv) hx
def bgv : Operand -> Operand -> Bool
  | .tmp a,.tmp b => Nat.beq a b
  | .const (.int k a),.const (.int k' b) => Nat.beq (ikn k) (ikn k') && aaa .eql a b
  | _,_ => false
theorem bac {x y : Operand} (h : bgv x y = true) : y = x := by
 unfold bgv at h
 split at h
 ·rw [eq_of_beq_eq_true h]
 ·rename_i k a k' b
  simp only [and_eq_true] at h
  rw [ah3 h.1,eq_of_beq (show (a == b) = true from h.2)]
 ·cases h
def opD (E : Env P) (F : ah8) (av : List Nat) (s : AS) (d : Nat) (op : Op) : OR := match op with
  | .call c => match c with
    | ⟨.value g, args, ts⟩ => match bhp s args.toList with
      | some xs => match g with
        | .func f => match ax8 E F s av f xs with
          | .ok H r H' => match acx s H H' r with
            | true => .ok ⟨some r,chg H [] (H' ++ ajc H),rtL args.toList,H.map (·.1)⟩
            | false => .no
          | .need k => .need k
          | .no => .no
        | g => match rdC s g with
          | some (.fn f caps) => match ax8 E F s av f (xs ++ caps) with
            | .ok H r H' => match acx s H H' r with
              | true => .ok ⟨some r,chg H [] (H' ++ ajc H),aal g ++ rtL args.toList,H.map (·.1)⟩
              | false => .no
            | .need k => .need k
            | .no => .no
          | some (.v (.func (.func f) ⟨[]⟩ ⟨[]⟩)) => match ax8 E F s av f xs with
            | .ok H r H' => match acx s H H' r with
              | true => .ok ⟨some r,chg H [] (H' ++ ajc H),aal g ++ rtL args.toList,H.map (·.1)⟩
              | false => .no
            | .need k => .need k
            | .no => .no
          | some (.cl f pre caps) => match ax8 E F s av f (pre ++ xs ++ caps) with
            | .ok H r H' => match acx s H H' r with
              | true => .ok ⟨some r,chg H [] (H' ++ ajc H),aal g ++ rtL args.toList,H.map (·.1)⟩
              | false => .no
            | .need k => .need k
            | .no => .no
          | _ => .no
      | none => .no
    | ⟨.builtin .append, args, ts⟩ => match args.toList with
      | [x, y] => match ts.toList with
        | [T, T'] => match Nat.beq T T' with
          | true => bmy P s d x y T
          | false => .no
        | _ => .no
      | _ => .no
    | c => match opV P s (.call c) with
      | some r => .ok ⟨some r.x,[],r.rt,r.rd⟩
      | none => .no
  | .makeSlice T x y => match bgv x y with
    | true => match rdC s x with
      | some (.v (.int .i64 n)) => mkS P d T n (aal x)
      | _ => .no
    | false => .no
  | .slice T x none (some (.const (.int k1 (.ofNat 0)))) (some (.const (.int k2 (.ofNat 0)))) => match rdC s x with
    | some (.lst sz es) => match be4 P T sz with
      | true => .ok ⟨some (.ms d sz 0 0),[(d,some (.row sz []))],aal x,[]⟩
      | false => .no
    | _ => .no
  | .buildSlice T n parts => match n with
    | 0 => match parts.toList with
      | [] => match ai0 P T with
        | some ti => match ti.k with
          | .slice E => match ai0 P E with
            | some te => match te.zero.all Value.oneCell' && Nat.beq te.zero.length te.size with
              | true => .ok ⟨some (.ms d te.size 0 0),[(d,some (.row te.size []))],[],[]⟩
              | false => .no
            | none => .no
          | _ => .no
        | none => .no
      | _ => .no
    | n + 1 => match opV P s (.buildSlice T (n + 1) parts) with
      | some r => .ok ⟨some r.x,[],r.rt,r.rd⟩
      | none => match bhp s (parts.toList.map (·.2)) with
        | some xs => match AV.nms xs with
          | k :: _ => .need k
          | [] => .no
        | none => .no
  | op => match opV P s op with
    | some r => .ok ⟨some r.x,[],r.rt,r.rd⟩
    | none => match blx P s d op with
      | some r => match r.2 with
        | [] => .ok r.1
        | _ => .no
      | none => .no
theorem bc1 {E : Env P} {F : ah8} (hF : F.Ok P) {av : List Nat} {s : AS} {R : Array Oper} {d : Nat} {op : Op} {u : Out} {t : TypeId} {pos : String} {after : Array Edge} (h : opD E F av s d op = .ok u) (hN : Nat.blt d N = true) :
  Step P N R s ⟨some d,op,t,pos,after,none⟩ u := by
 unfold opD at h
 split at h
 ·split at h
  ·rename_i g args ts
   split at h
   ·rename_i xs hxs
    split at h
    ·rename_i f
     split at h
     ·rename_i H r H' hc
      split at h
      ·rename_i hok
       cases h
       obtain ⟨h1,h2⟩ := alv hF hc
       exact ajj h2 (aad h1 (am4 hxs) h2 hok hN)
      ·cases h
     ·cases h
     ·cases h
    ·split at h
     ·rename_i f caps hg
      split at h
      ·rename_i H r H' hc
       split at h
       ·rename_i hok
        cases h
        obtain ⟨h1,h2⟩ := alv hF hc
        exact ajj h2 (a9d (abh hg) h1 (am4 hxs) h2 hok hN)
       ·cases h
      ·cases h
      ·cases h
     ·rename_i f hg
      split at h
      ·rename_i H r H' hc
       split at h
       ·rename_i hok
        cases h
        obtain ⟨h1,h2⟩ := alv hF hc
        exact ajj h2 (bfr (abh hg) h1 (am4 hxs) h2 hok hN)
       ·cases h
      ·cases h
      ·cases h
     ·rename_i f pre caps hg
      split at h
      ·rename_i H r H' hc
       split at h
       ·rename_i hok
        cases h
        obtain ⟨h1,h2⟩ := alv hF hc
        exact ajj h2 (a46 (abh hg) h1 (am4 hxs) h2 hok hN)
       ·cases h
      ·cases h
      ·cases h
     ·cases h
   ·cases h
  ·rename_i args ts
   split at h
   ·rename_i x y hx
    split at h
    ·rename_i T T' hT
     split at h
     ·rename_i hTT
      cases eq_of_beq_eq_true hTT
      have e1 : args = #[x,y]:=by apply Array.toList_inj.1; simpa using hx
      have e2 : ts = #[T,T]:=by apply Array.toList_inj.1; simpa using hT
      subst e1; subst e2
      exact beb h hN
     ·cases h
    ·cases h
   ·cases h
  ·split at h
   ·rename_i h1; cases h; exact a51 h1 hN
   ·cases h
 ·split at h
  ·rename_i he
   cases bac he
   split at h
   ·rename_i hx; exact bia (abh hx) h hN
   ·cases h
  ·cases h
 ·split at h
  ·rename_i hx
   split at h
   ·rename_i hs
    obtain ⟨ti,E,te,h1,h2,h3,h4⟩ := aoo hs
    cases h
    exact a8p (abh hx) h1 h2 h3 h4 hN
   ·cases h
  ·cases h
 ·rename_i T n parts
  split at h
  ·split at h
   ·rename_i hp
    have : parts = #[]:=by apply Array.toList_inj.1; simpa using hp
    subst this
    split at h
    ·rename_i ti hT
     split at h
     ·rename_i E hk
      split at h
      ·rename_i te hE
       split at h
       ·rename_i hc
        rw [and_eq_true] at hc
        cases h
        exact acu (aay hT) hk (aay hE) hc.1 hc.2 hN
       ·cases h
      ·cases h
     ·cases h
    ·cases h
   ·cases h
  ·split at h
   ·rename_i h1; cases h; exact a51 h1 hN
   ·split at h
    ·split at h <;> cases h
    ·cases h
 ·split at h
  ·rename_i h1; cases h; exact a51 h1 hN
  ·split at h
   ·rename_i h1
    split at h
    ·rename_i ho; cases h; exact a34 h1 (by rw [ho]; exact .nil) hN
    ·cases h
   ·cases h
def opN (E : Env P) (F : ah8) (av : List Nat) (s : AS) (op : Op) : OR := match op with
  | .call c => match c with
    | ⟨.value (.func f), args, ts⟩ => match bhp s args.toList with
      | some xs => match ax8 E F s av f xs with
        | .ok H r H' => match acx s H H' r with
          | true => .ok ⟨none,chg H [] (H' ++ ajc H),rtL args.toList,H.map (·.1)⟩
          | false => .no
        | .need k => .need k
        | .no => .no
      | none => .no
    | _ => .no
  | .store T x y => match blz P s (.store T x y) with
    | some r => match r.2 with
      | [] => .ok r.1
      | _ => .no
    | none => bnc P s T x y
  | _ => .no
theorem bja {E : Env P} {F : ah8} (hF : F.Ok P) {av : List Nat} {s : AS} {R : Array Oper} {op : Op} {u : Out} {t : TypeId} {pos : String} {after : Array Edge} (h : opN E F av s op = .ok u) :
  Step P N R s ⟨none,op,t,pos,after,none⟩ u := by
 unfold opN at h
 split at h
 ·split at h
  ·rename_i f args ts
   split at h
   ·rename_i xs hxs
    split at h
    ·rename_i H r H' hc
     split at h
     ·rename_i hok
      cases h
      obtain ⟨h1,h2⟩ := alv hF hc
      exact ajj h2 (a9s h1 (am4 hxs) h2 hok)
     ·cases h
    ·cases h
    ·cases h
   ·cases h
  ·cases h
 ·split at h
  ·rename_i h1
   split at h
   ·rename_i ho; cases h; exact a59 h1 (by rw [ho]; exact .nil)
   ·cases h
  ·exact bfd h
 ·cases h
theorem Step.sub {P : Program} {N : Nat} {R : Array Oper} {s : AS} {o : Oper} {x y : AV} {upd : Hp} {rt rd : List Nat} (h : Step P N R s o ⟨some x, upd, rt, rd⟩) (hs : Sub x y) : Step P N R s o ⟨some y, upd, rt, rd⟩ := by
 refine ⟨fun s' hag hnew C m a w Q next hC hr hnext => h.run s' hag hnew C m a w Q next hC hr (fun m' a' w' hr' => hnext m' a' w' ?_)⟩
 refine hr'.weak (fun t z hz => ?_) (fun k z hz => ⟨z,hz,.refl _⟩)
 rw [adi] at hz
 split at hz
 ·rename_i ht; cases hz; exact ⟨x,by rw [adi,if_pos ht],hs⟩
 ·rename_i ht; exact ⟨z,by rw [adi,if_neg ht]; exact hz,.refl _⟩
theorem Sub.opt_true (x : AV) : Sub (.opt true x) x := fun g S m v h => by cases h with | opt h _ => exact h rfl
theorem amh (f : AV -> AV) (k : Nat) : ∀ l : Hp, (agy f k l).map (·.1) = l.map (·.1)
 | [] => rfl
 | (k',x) :: l => by simp only [agy,map_cons,amh f k l]
theorem a71 {P : Program} {N : Nat} {R : Array Oper} {s : AS} {o : Oper} {d : Nat} {x : AV} {upd : Hp} {rt rd : List Nat} {k sz : Nat} {es : List AV} (hd : o.dst = some d) (hk : lk upd k = some (.row sz es)) (hrd : k ∉ rd)
  (h : Step P N R s o ⟨some x,upd,rt,rd⟩) : Step P N R s o ⟨some (x.fz k sz es),agy (AV.fz k sz es) k upd,rt,rd⟩ := by
 refine ⟨fun s' hag hnew C m a w Q next hC hr hnext => ?_⟩
 have hnew' : al1 s' ⟨some x,upd,rt,rd⟩ := fun k' hk' => hnew k' (by rw [amh]; exact hk')
 have hfr : s'.Fresh k := by
  rcases hnew' k (aa6 hk) with h | h
  ·exact absurd h hrd
  ·exact h
 refine h.run s' hag hnew' C m a w Q next hC hr (fun m' a' w' hr' => ?_)
 rw [hd] at hr'
 have hkk : (s'.app (some d) ⟨some x, upd, rt, rd⟩).blk k = some (.row sz es) := by
  show lk (upd ++ s'.hp) k = _
  rw [adf,if_pos (aa6 hk),hk]
 obtain ⟨m2,hr2⟩ := Wk.freeze hkk C m' a' w' hr'
 refine hnext m2 a' w' ?_
 rw [hd]
 refine hr2.congr ?_ ?_
 ·intro t
  simp only [AS.get,aih,AS.app,aab]
  split
  ·rfl
  ·cases hx : lk s'.sl t with
   | none => rfl
   | some y => simp only [Option.map_some]; rw [AV.fz_id _ _ _ _ (hfr.2.2.1 t y hx)]
 ·intro k'
  simp only [AS.blk,AS.app]
  rw [afh,adf,adf,amh,afh]
  by_cases h1 : k' = k
  ·subst h1
   rw [if_pos rfl,if_pos (aa6 hk),if_pos rfl]
  ·rw [if_neg h1, if_neg h1]
   split
   ·rfl
   ·cases hx : lk s'.hp k' with
    | none => rfl
    | some y => simp only [Option.map_some]; rw [are (hfr.2.2.2 k' y hx)]
def bgf : List Nat -> Out -> Out
  | [],u => u
  | k :: ks, u => match u.val with
    | some x => match lk u.upd k with
      | some (.row sz es) => match a2g k u.rd with
        | false => bgf ks ⟨some (x.fz k sz es),agy (AV.fz k sz es) k u.upd,u.rt,u.rd⟩
        | true => bgf ks u
      | _ => bgf ks u
    | none => u
theorem aqj {P : Program} {N : Nat} {R : Array Oper} {s : AS} {o : Oper} {d : Nat} (hd : o.dst = some d) : ∀ {ks : List Nat} {u : Out}, Step P N R s o u -> Step P N R s o (bgf ks u)
 | [],u,h => h
 | k :: ks, u, h => by
  unfold bgf
  split
  ·rename_i x hx
   split
   ·rename_i sz es hk
    split
    ·rename_i hm
     refine aqj hd ?_
     obtain ⟨val,upd,rt,rd⟩ := u
     simp only at hx hk hm
     subst hx
     exact a71 hd hk (fun hh => by rw [aik.2 hh] at hm; cases hm) h
    ·exact aqj hd h
   ·exact aqj hd h
  ·exact h
def opE (E : Env P) (F : ah8) (av fz : List Nat) (N : Nat) (R : List Oper) (s : AS) (o : Oper) : OR := match o.guard with
  | none => match o.dst with
    | some d => match Nat.blt d N with
      | true => match opD E F av s d o.op with
        | .ok u => .ok (bgf fz u)
        | r => r
      | false => .no
    | none => opN E F av s o.op
  | some (j, want) => match R[j]? with
    | some og => match og.dst with
      | some g => match o.dst with
        | some d => match Nat.blt d N with
          | true => match s.get g with
            | some (.v (.bool b)) => match b == want with
              | true => match opD E F av s d o.op with
                | .ok u => match (bgf fz u) with
                  | ⟨some x,upd,rt,rd⟩ => .ok ⟨some x,upd,g :: rt,rd⟩
                  | ⟨none,_,_,_⟩ => .no
                | r => r
              | false => .ok ⟨some (.opt false (.v (.bool false))),[],[g],[]⟩
            | some (.opt false (.v (.bool b))) => .ok ⟨some (.opt false (.v (.bool false))),[],[g],[]⟩
            | _ => .no
          | false => .no
        | none => .no
      | none => .no
    | none => .no
theorem bkz {E : Env P} {F : ah8} (hF : F.Ok P) {av fz : List Nat} {R : List Oper} {s : AS} {o : Oper} {u : Out} (h : opE E F av fz N R s o = .ok u) : Step P N R.toArray s o u := by
 obtain ⟨dst,op,ty,pos,after,guard⟩ := o
 unfold opE at h
 simp only at h
 split at h
 ·split at h
  ·split at h
   ·rename_i hN
    split at h
    ·rename_i u' h1; cases h; exact aqj rfl (bc1 hF h1 hN)
    ·rename_i hno; exact absurd h (hno u)
   ·cases h
  ·exact bja hF h
 ·rename_i j want
  split at h
  ·rename_i og hog
   split at h
   ·rename_i g hg
    split at h
    ·rename_i d
     split at h
     ·rename_i hN
      have hj : (R.toArray[j]?).bind (·.dst) = some g:=by simp [hog,hg]
      split at h
      ·rename_i b hb
       split at h
       ·rename_i hw
        split at h
        ·rename_i u' h1
         have hs := aqj (ks := fz) rfl (bc1 (R := R.toArray) (t := ty) (pos := pos) (after := after) hF h1 hN)
         split at h
         ·rename_i x upd rt rd hx
          cases h
          rw [hx] at hs
          have h2 := a1q (want := want) hj hb hN (fun hne => absurd (eq_of_beq hw) hne) (fun _ => hs)
          rw [hw] at h2
          exact h2.sub (.opt_true x)
         ·cases h
        ·rename_i hno; exact absurd h (hno u)
       ·rename_i hw
        cases h
        have h2 := acb (P := P) (op := op) (t := ty) (pos := pos) (after := after) (want := want) (x := .v (.bool false)) (rt := []) (rd := []) hj hb hN (fun e => by rw [e] at hw; simp at hw)
        rw [hw] at h2
        exact h2
      ·rename_i b hb
       cases h
       exact aiq (P := P) (op := op) (t := ty) (pos := pos) (after := after) (want := want) (x := .v (.bool false)) (rt := []) (rd := []) hj hb hN (fun e => by cases e)
      ·cases h
     ·cases h
    ·cases h
   ·cases h
  ·cases h
end Go.Lw
namespace Go.Lw
variable {P : Program} {N : Nat} [Inhabited (Tys P)]
theorem a9h {P : Program} {N : Nat} {c : Code} {Q Q' : Exit -> AS -> Prop} {s : AS} (h : AWP P N c Q s) (hq : ∀ e s, Q e s -> ∃ s', Wk s s' /\ Q' e s') : AWP P N c Q' s :=
 fun C m a w n hN hr => wpIn_mono (h C m a w n hN hr) fun e _ _ ⟨s', m', hQ, hr'⟩ => by
  obtain ⟨s2,hw,hQ'⟩ := hq e s' hQ
  obtain ⟨m2,hr2⟩ := hw C m' _ _ hr'
  exact ⟨s2,m2,hQ',hr2⟩
def dd {α : Type} : List Nat -> List (Nat × Option α) -> List (Nat × Option α)
  | _,[] => []
  | seen, (t, x) :: l => match a2g t seen with
    | true => dd seen l
    | false => match x with
      | some v => (t,some v) :: dd (t :: seen) l
      | none => dd (t :: seen) l
theorem a38 {α : Type} : ∀ {l : List (Nat × Option α)} {seen : List Nat} {t : Nat} {x : α}, lk (dd seen l) t = some x -> t ∉ seen /\ lk l t = some x
 | [],seen,t,x,h => by cases h
 | (t', y) :: l, seen, t, x, h => by
  unfold dd at h
  rw [aab]
  split at h
  ·rename_i hm
   obtain ⟨h1,h2⟩ := a38 h
   refine ⟨h1,?_⟩
   rw [if_neg (fun (e : t = t') => h1 (by rw [e]; exact aik.1 hm))]; exact h2
  ·rename_i hm
   have hm' : t' ∉ seen := fun hh => by rw [aik.2 hh] at hm; cases hm
   split at h
   ·rw [aab] at h
    split at h
    ·rename_i e; cases h; subst e; exact ⟨hm',by rw [if_pos rfl]⟩
    ·rename_i e
     obtain ⟨h1,h2⟩ := a38 h
     rw [if_neg e]
     exact ⟨fun hh => h1 (mem_cons_of_mem _ hh),h2⟩
   ·obtain ⟨h1, h2⟩ := a38 h
    have hne : t ≠ t' := fun e => h1 (by rw [e]; exact mem_cons_self ..)
    rw [if_neg hne]
    exact ⟨fun hh => h1 (mem_cons_of_mem _ hh),h2⟩
theorem ayj {s : AS} {sl : abr} {hp : Hp} (h1 : ∀ t x, lk sl t = some x -> lk s.sl t = some x) (h2 : ∀ k x, lk hp k = some x -> lk s.hp k = some x) : Wk s ⟨sl, hp⟩ :=
 fun C m a w hr => ⟨m,hr.weak (fun t x hx => ⟨x,h1 t x hx,.refl _⟩) (fun k x hx => ⟨x,h2 k x hx,.refl _⟩)⟩
def ddS (s : AS) : AS := ⟨dd [] s.sl,dd [] s.hp⟩
theorem bn5 (s : AS) : Wk s (ddS s) := ayj (fun t x h => (a38 h).2) (fun t x h => (a38 h).2)
def noK (k : Nat) : List Nat -> abr -> abr
  | _,[] => []
  | seen, (t, x) :: l => match a2g t seen with
    | true => noK k seen l
    | false => match x with
      | some v => match a2g k v.nm with
        | true => noK k (t :: seen) l
        | false => (t,some v) :: noK k (t :: seen) l
      | none => noK k (t :: seen) l
theorem azn {k : Nat} : ∀ {l : abr} {seen : List Nat} {t : Nat} {x : AV}, lk (noK k seen l) t = some x -> t ∉ seen /\ lk l t = some x
 | [],seen,t,x,h => by cases h
 | (t', y) :: l, seen, t, x, h => by
  unfold noK at h
  rw [aab]
  have rest : ∀ {l' : abr}, lk (noK k (t' :: seen) l) t = some x -> t ∉ seen /\ (if t = t' then y else lk l t) = some x := by
   intro _ h
   obtain ⟨h1,h2⟩ := azn h
   rw [if_neg (fun (e : t = t') => h1 (by rw [e]; exact mem_cons_self ..))]
   exact ⟨fun hh => h1 (mem_cons_of_mem _ hh),h2⟩
  split at h
  ·rename_i hm
   obtain ⟨h1,h2⟩ := azn h
   refine ⟨h1,?_⟩
   rw [if_neg (fun (e : t = t') => h1 (by rw [e]; exact aik.1 hm))]; exact h2
  ·rename_i hm
   have hm' : t' ∉ seen := fun hh => by rw [aik.2 hh] at hm; cases hm
   split at h
   ·split at h
    ·exact rest (l' := l) h
    ·rw [aab] at h
     split at h
     ·rename_i e; cases h; subst e; exact ⟨hm',by rw [if_pos rfl]⟩
     ·rename_i e
      obtain ⟨h1,h2⟩ := azn h
      rw [if_neg e]
      exact ⟨fun hh => h1 (mem_cons_of_mem _ hh),h2⟩
   ·exact rest (l' := l) h
def bod (s : AS) (k d : Nat) (y : Blk) : AS := ⟨akk (AV.rn k d) s.sl,ash k d y s.hp⟩
def bmt (s : AS) (av : List Nat) (d : Nat) : Option AS := match s.freshB d with
  | true => some s
  | false => match s.blk d with
    | some y => match s.freshB (nxt s av) with
      | true => some (bod s d (nxt s av) y)
      | false => none
    | none => some ⟨noK d [] s.sl,s.hp⟩
theorem bgw {s s' : AS} {av : List Nat} {d : Nat} (h : bmt s av d = some s') : Wk s s' := by
 unfold bmt at h
 split at h
 ·cases h; exact .refl _
 ·split at h
  ·rename_i y hy
   split at h
   ·rename_i hf; cases h; exact Wk.rekey hy hf
   ·cases h
  ·cases h; exact ayj (fun t x h => (azn h).2) (fun _ _ h => h)
def boy (o : Oper) : Option Nat := match o.dst with
  | some d => match o.op with
    | .alloc _ => some d
    | .box _ _ => some d
    | .makeSlice _ _ _ => some d
    | .buildSlice _ 0 _ => some d
    | .slice _ _ _ _ (some _) => some d
    | .call ⟨.builtin .append,_,_⟩ => some d
    | _ => none
  | none => none
def bh3 (av : List Nat) : List Oper -> AS -> Option AS
  | [],s => some s
  | o :: os, s => match boy o with
    | some d => match bmt s av d with
      | some s' => bh3 av os s'
      | none => none
    | none => bh3 av os s
theorem ays {av : List Nat} : ∀ {os : List Oper} {s s' : AS}, bh3 av os s = some s' -> Wk s s'
 | [],s,s',h => by cases h; exact .refl _
 | o :: os, s, s', h => by
  unfold bh3 at h
  split at h
  ·split at h
   ·rename_i h1; exact (bgw h1).trans (ays h)
   ·cases h
  ·exact ays h
inductive RR where
  | ok (s : AS) (us : List Out)
  | need (k : Nat)
  | no
def nB {α : Type} : List α -> Bool
  | [] => true
  | _ => false
def bl3 (E : Env P) (F : ah8) (av fz : List Nat) (N : Nat) (R : List Oper) : List Oper -> AS -> List Out -> RR
  | [],s,us => .ok s us
  | o :: os, s, us => match opE E F av fz N R s o with
    | .ok u => match nB u.upd || a7u s u with
      | true => match s.app o.dst u with
        | ⟨sl,hp⟩ => bl3 E F av fz N R os ⟨sl,hp⟩ (us ++ [u])
      | false => .no
    | .need k => .need k
    | .no => .no
theorem a4l {E : Env P} {F : ah8} (hF : F.Ok P) {av fz : List Nat} {R : List Oper} : ∀ {os : List Oper} {s : AS} {us : List Out} {s' : AS} {us' : List Out}, bl3 E F av fz N R os s us = .ok s' us' ->
  aua P N R.toArray os s us (fun s2 us2 => s2 = s' /\ us2 = us')
 | [],s,us,s',us',h => by cases h; exact ⟨rfl,rfl⟩
 | o :: os, s, us, s', us', h => by
  unfold bl3 at h
  split at h
  ·rename_i u hu
   split at h
   ·rename_i hn
    refine ⟨u,bkz hF hu,?_,a4l hF h⟩
    cases hu' : nB u.upd with
    | true =>
     intro k hk
     have : u.upd = []:=by cases hq : u.upd with | nil => rfl | cons a b => rw [hq] at hu'; cases hu'
     rw [this] at hk; cases hk
    | false => rw [hu'] at hn; exact alh hn
   ·cases h
  ·cases h
  ·cases h
structure Sys where
  code : Nat -> Nat -> List Nat -> Code -> AS -> Option (Exit × AS)
  fn : Nat -> List Nat -> FuncId -> List AV -> Hp -> Option (AV × Hp)
def trF (S : Sys) (base : Nat) : ah8 := fun av f xs H => match boj base (H.map (·.1)) with
  | L => match S.fn (base + 100) av f (tA L xs) (tH L H) with
    | some (r,H') => some (rB L r,hB L H')
    | none => none
def isR (e : Exit) : Bool := match e with
  | .normal => true
  | _ => false
def bnz (s : AS) (k : Nat) : Option AS := match s.blk k with
  | some (.row sz es) => some ⟨akk (AV.fz k sz es) s.sl,agy (AV.fz k sz es) k s.hp⟩
  | _ => none
theorem be2 {s s' : AS} {k : Nat} (h : bnz s k = some s') : Wk s s' := by
 unfold bnz at h
 split at h
 ·rename_i hk; cases h; exact Wk.freeze hk
 ·cases h
def bkx (E : Env P) (F : ah8) (av : List Nat) (N : Nat) (A : List Oper) (d : Bool) : Nat -> List Nat -> AS -> Option AS
  | 0,_,_ => none
  | n + 1, fz, s0 => match bl3 E F av fz N A A s0 [] with
    | .ok s' us => match d with
      | false => some s'
      | true => match chk A us s0 with
        | true => some s'
        | false => none
    | .need k => match bnz s0 k with
      | some ⟨sl,hp⟩ => bkx E F av N A d n fz ⟨sl,hp⟩
      | none => match a2g k fz with
        | true => none
        | false => bkx E F av N A d n (k :: fz) s0
    | .no => none
theorem axp {E : Env P} {F : ah8} (hF : F.Ok P) {av : List Nat} {id : Nat} {A : Array Oper} {d : Bool} (hnd : A.toList.all nd = true) : ∀ {n : Nat} {fz : List Nat} {s s1 : AS}, bkx E F av N A.toList d n fz s = some s1 ->
  AWP P N (.region id A d) (fun e' s' => e' = .normal /\ s' = s1) s
 | 0,fz,s,s1,h => by cases h
 | n + 1, fz, s, s1, h => by
  unfold bkx at h
  split at h
  ·rename_i s' us h1
   refine a7k (Q := fun e' s' => e' = .normal /\ s' = s1) (k := []) hnd (fun _ => (default : Tys P).mix) (alf ?_ (a4l hF h1))
   rintro s2 us2 ⟨hs,hu⟩
   rw [hs,hu]
   split at h
   ·obtain rfl := Option.some.inj h
    exact ⟨(fun e => by cases e),rfl,rfl⟩
   ·split at h
    ·rename_i hc
     obtain rfl := Option.some.inj h
     exact ⟨fun _ => hc,rfl,rfl⟩
    ·cases h
  ·split at h
   ·rename_i sl hp hf
    exact afa (be2 hf) (axp hF hnd h)
   ·split at h
    ·cases h
    ·exact axp hF hnd h
  ·cases h
def av8 (E : Env P) (S : Sys) (N base : Nat) (av : List Nat) (c : Code) (s : AS) : Option (Exit × AS) := match c with
  | .skip => some (.normal,s)
  | .ret => some (.ret,s)
  | .exit id => some (.exit id,s)
  | .seq x y => match S.code N base av x s with
    | some (e, s1) => match isR e with
      | true => S.code N base av y s1
      | false => some (e,s1)
    | none => none
  | .block id c => match S.code N base av c s with
    | some (e, s1) => match e with
      | .exit id' => match Nat.beq id' id with
        | true => some (.normal,s1)
        | false => some (.exit id',s1)
      | e => some (e,s1)
    | none => none
  | .cond c x y => match rdC s c with
    | some (.v (.bool b)) => match b with
      | true => S.code N base av x s
      | false => S.code N base av y s
    | _ => none
  | .loop c => match S.code N base av c s with
    | some (e, s1) => match isR e with
      | true => match ddS s1 with
        | ⟨sl,hp⟩ => S.code N base av (.loop c) ⟨sl,hp⟩
      | false => some (e,s1)
    | none => none
  | .region id A d => match a65 A.toList with
    | true => match bh3 av A.toList s with
      | some s0 => match bkx E (trF S base) av N A.toList d 20 [] s0 with
        | some s' => some (.normal,s')
        | none => none
      | none => none
    | false => none
  | _ => none
def bic (st : Nat) : List Nat -> AS -> Option AS
  | [],s => some s
  | k :: ks, s => match s.blk k with
    | some y => match bf0 s 100 st with
      | d => match s.freshB d with
        | true => bic st ks (bod s k d y)
        | false => none
    | none => none
theorem ay9 {st : Nat} : ∀ {ks : List Nat} {s s' : AS}, bic st ks s = some s' -> Wk s s'
 | [],s,s',h => by cases h; exact .refl _
 | k :: ks, s, s', h => by
  unfold bic at h
  split at h
  ·rename_i y hy
   simp only at h
   split at h
   ·rename_i hf; exact (Wk.rekey (s := s) hy hf).trans (ay9 h)
   ·cases h
  ·cases h
def cnt : Nat -> List Nat -> List Nat
  | _,[] => []
  | n,_ :: l => n :: cnt (n + 1) l
def loc : List Nat -> List Nat
  | [] => []
  | k :: ks => match Nat.blt k 1000 with
    | true => k :: loc ks
    | false => loc ks
def bhg (sl : abr) : List Nat -> abr
  | [] => []
  | t :: ts => match lk sl t with
    | some x => (t,some x) :: bhg sl ts
    | none => bhg sl ts
theorem azd {sl : abr} : ∀ {ts : List Nat} {t : Nat} {x : AV}, lk (bhg sl ts) t = some x -> lk sl t = some x
 | [],t,x,h => by cases h
 | t' :: ts, t, x, h => by
  unfold bhg at h
  split at h
  ·rename_i y hy
   rw [aab] at h
   split at h
   ·rename_i e; cases h; rw [e]; exact hy
   ·exact azd h
  ·exact azd h
def rsT : List ResultVar -> List Nat
  | [] => []
  | r :: rs => (match r with
    | .tmp t => t
    | .cell t _ => t) :: rsT rs
def bl8 (P : Program) [Inhabited (Tys P)] (rs : List ResultVar) (Hk : List Nat) (s : AS) : Option (AV × Hp) := match bd1 P s rs with
  | some ys => some (aku ys,pkH s (a3a s 300 (AV.nms ys ++ Hk) []))
  | none => none
theorem a40 {rs : List ResultVar} {Hk : List Nat} {s : AS} {r : AV} {H' : Hp} (h : bl8 P rs Hk s = some (r, H')) : ∃ xs, ResL P s rs xs /\ Fin s (aku xs) r H' := by
 unfold bl8 at h
 split at h
 ·rename_i ys hy
  cases h
  exact ⟨ys,axx hy,.keep (fun k z hz => awr hz)⟩
 ·cases h
def bmp (P : Program) [Inhabited (Tys P)] (av : List Nat) (rs : List ResultVar) (Hk : List Nat) (s : AS) : Option (AV × Hp) := match a3a s 300 (AV.nms ((bhg s.sl (rsT rs)).filterMap (·.2)) ++ Hk) [] with
  | K => match loc K with
    | [] => bl8 P rs Hk s
    | k :: ks => match bic 700 (k :: ks) ⟨bhg s.sl (rsT rs), pkH s K⟩ with
      | some s2 => match bic (mx 299 av + 1) (cnt 700 (k :: ks)) s2 with
        | some s3 => bl8 P rs Hk s3
        | none => none
      | none => none
theorem be5 {av : List Nat} {rs : List ResultVar} {Hk : List Nat} {s : AS} {r : AV} {H' : Hp} (h : bmp P av rs Hk s = some (r, H')) : ∃ s2, Wk s s2 /\ ∃ xs, ResL P s2 rs xs /\ Fin s2 (aku xs) r H' := by
 unfold bmp at h
 simp only at h
 split at h
 ·exact ⟨s,.refl _,a40 h⟩
 ·split at h
  ·rename_i s2 h2
   split at h
   ·rename_i s3 h3
    exact ⟨s3,((ayj (fun t x => azd) (fun k x => awr)).trans (ay9 h2)).trans (ay9 h3),a40 h⟩
   ·cases h
  ·cases h
def bch : Hp -> Bool
  | [] => true
  | (k,_) :: l => Nat.ble 1000 k && bch l
theorem a1w : ∀ {H : Hp} {k : Nat} {z : Blk}, bch H = true -> lk H k = some z -> 1000 <= k
 | [],k,z,_,h => by cases h
 | (k', x) :: l, k, z, h0, h => by
  simp only [bch,and_eq_true,Nat.ble_eq] at h0
  rw [aab] at h
  split at h
  ·rename_i e; rw [e]; exact h0.1
  ·exact a1w h0.2 h
def fnS (E : Env P) (S : Sys) (base : Nat) (av : List Nat) (f : FuncId) (xs : List AV) (H : Hp) : Option (AV × Hp) := match E.fe f with
  | some fe => match Nat.beq fe.f f && bch H with
    | true => match a22 0 xs with
      | some sl => match S.code fe.fn.ntmps base av fe.c ⟨sl, H⟩ with
        | some (e, s1) => match a4a e with
          | true => bmp P av fe.rs (H.map (·.1)) s1
          | false => none
        | none => none
      | none => none
    | false => none
  | none => none
def ev (E : Env P) (n : Nat) : Sys := Nat.rec ⟨fun _ _ _ _ _ => none,fun _ _ _ _ _ => none⟩ (fun _ S => ⟨av8 E S,fnS E S⟩) n
structure SysOk (P : Program) (S : Sys) : Prop where
  code : ∀ N base av c s e s1,S.code N base av c s = some (e,s1) -> AWP P N c (fun e' s' => e' = e /\ s' = s1) s
  fn : ∀ base av f xs H r H',S.fn base av f xs H = some (r,H') -> Con P f xs H r H'
theorem bkv {P : Program} {S : Sys} (h : SysOk P S) (base : Nat) : (trF S base).Ok P := by
 intro av f xs H r H' h1
 unfold trF at h1
 simp only at h1
 split at h1
 ·rename_i h2; cases h1; exact bok (h.fn _ _ _ _ _ _ _ h2)
 ·cases h1
theorem bi8 {E : Env P} {S : Sys} (h : SysOk P S) {base : Nat} {av : List Nat} {f : FuncId} {xs : List AV} {H H' : Hp} {r : AV} (h1 : fnS E S base av f xs H = some (r, H')) : Con P f xs H r H' := by
 unfold fnS at h1
 split at h1
 ·rename_i fe hfe
  split at h1
  ·rename_i hc
   simp only [and_eq_true] at hc
   have hf := eq_of_beq_eq_true hc.1
   subst hf
   split at h1
   ·rename_i sl hsl
    cases aoi hsl
    split at h1
    ·rename_i e s1 h2
     split at h1
     ·rename_i he
      refine a66 fe.hf fe.hb fe.hn fe.hrs rfl (fun k z hz => a1w hc.2 hz) ?_
      refine a9h (h.code _ _ _ _ _ _ _ h2) ?_
      rintro e' s' ⟨he',hs'⟩
      rw [he',hs']
      obtain ⟨s2,hw,hx⟩ := be5 h1
      refine ⟨s2,hw,?_⟩
      cases e <;> first | exact hx | exact (nomatch he)
     ·cases h1
    ·cases h1
   ·cases h1
  ·cases h1
 ·cases h1
theorem bbm (E : Env P) : ∀ n m, m <= n -> SysOk P (ev E m)
 | 0, m, hm => by
  have : m = 0:=by omega
  subst this
  exact { code := (fun _ _ _ _ _ _ _ h => by cases h),fn := (fun _ _ _ _ _ _ _ h => by cases h) }
 | n + 1, m, hm => by
  by_cases hmn : m <= n
  ·exact bbm E n m hmn
  ·have : m = n + 1 := by omega
   subst this
   have ih := bbm E n n (le_refl _)
   refine ⟨?_,fun base av f xs H r H' h => bi8 ih h⟩
   intro N base av c s e s1 h
   change av8 E (ev E n) N base av c s = some (e,s1) at h
   cases c with
   | skip => cases h; exact a0g ⟨rfl,rfl⟩
   | ret => cases h; exact a5a ⟨rfl,rfl⟩
   | exit id => cases h; exact a0a ⟨rfl,rfl⟩
   | seq x y =>
    simp only [av8] at h
    split at h
    ·rename_i e1 s2 h1
     refine a7a fun K hK => act (ih.code _ _ _ _ _ _ _ h1) ?_
     rintro e' s' ⟨he,hs⟩
     rw [he,hs]
     split at h
     ·rename_i hr
      cases e1 <;> first | exact hK _ (ih.code _ _ _ _ _ _ _ h) | exact (nomatch hr)
     ·rename_i hr
      obtain ⟨rfl,rfl⟩ := Prod.mk.inj (Option.some.inj h)
      cases e1 <;> first | exact ⟨rfl,rfl⟩ | exact (nomatch hr)
    ·cases h
   | block id c =>
    simp only [av8] at h
    split at h
    ·rename_i e1 s2 h1
     refine aug (act (ih.code _ _ _ _ _ _ _ h1) ?_)
     rintro e' s' ⟨he,hs⟩
     rw [he,hs]
     split at h
     ·rename_i id'
      show match Nat.beq id' id with | true => _ | false => _
      split at h
      ·rename_i hb
       obtain ⟨rfl,rfl⟩ := Prod.mk.inj (Option.some.inj h)
       simp only []; exact ⟨trivial,trivial⟩
      ·rename_i hb
       obtain ⟨rfl,rfl⟩ := Prod.mk.inj (Option.some.inj h)
       simp only []; exact ⟨trivial,trivial⟩
     ·rename_i hne
      obtain ⟨rfl,rfl⟩ := Prod.mk.inj (Option.some.inj h)
      cases e1 <;> first | exact ⟨rfl,rfl⟩ | exact absurd rfl (hne _)
    ·cases h
   | cond c x y =>
    simp only [av8] at h
    split at h
    ·rename_i b hb
     split at h
     ·exact atx (abh hb) (fun _ => ih.code _ _ _ _ _ _ _ h) (fun e => by cases e)
     ·exact atx (abh hb) (fun e => by cases e) (fun _ => ih.code _ _ _ _ _ _ _ h)
    ·cases h
   | loop c =>
    refine aia (fun m s => m <= n + 1 /\ (ev E m).code N base av (.loop c) s = some (e,s1)) (n := n + 1) (.refl _) ⟨le_refl _,h⟩ ?_
    rintro m s ⟨hm,hI⟩ K hK
    cases m with
    | zero => cases hI
    | succ m =>
     change av8 E (ev E m) N base av (.loop c) s = some (e,s1) at hI
     have ihm := bbm E n m (by omega)
     simp only [av8] at hI
     split at hI
     ·rename_i e1 s2 h1
      refine act (ihm.code _ _ _ _ _ _ _ h1) ?_
      rintro e' s' ⟨he,hs⟩
      rw [he,hs]
      split at hI
      ·rename_i hr
       cases e1 <;> first | exact hK _ _ m (bn5 s2) ⟨by omega,hI⟩ (by omega) | exact (nomatch hr)
      ·rename_i hr
       obtain ⟨rfl,rfl⟩ := Prod.mk.inj (Option.some.inj hI)
       cases e1 <;> first | exact ⟨rfl,rfl⟩ | exact (nomatch hr)
     ·cases hI
   | region id A d =>
    simp only [av8] at h
    split at h
    ·rename_i hnd
     split at h
     ·rename_i s0 h0
      refine afa (ays h0) ?_
      split at h
      ·rename_i s' h1
       obtain ⟨rfl,rfl⟩ := Prod.mk.inj (Option.some.inj h)
       exact axp (bkv ih base) (ato hnd) h1
      ·cases h
     ·cases h
    ·cases h
   | _ => cases h
theorem ay1 (E : Env P) (n : Nat) {base : Nat} {av : List Nat} {f : FuncId} {xs : List AV} {H H' : Hp} {r : AV} (h : (ev E n).fn base av f xs H = some (r, H')) : Con P f xs H r H' :=
 (bbm E n n (le_refl _)).fn _ _ _ _ _ _ _ h
end Go.Lw
namespace Go.Lw
def bcv (s : ByteArray) (n : Int) : Bd := ⟨s,[⟨⟨#[97]⟩,rt ((0 : Int) : Rat),rt ((0 : Int) : Rat)⟩,⟨⟨#[98]⟩,rt (n : Rat),rt ((0 : Int) : Rat)⟩]⟩
def fb : Li := ⟨⟨#[102, 111, 117, 114, 98, 97, 114]⟩, [bcv ⟨#[102, 114, 97, 109, 101]⟩ 4, bcv ⟨#[99, 114, 97, 110, 107]⟩ 3, bcv ⟨#[99, 111, 117, 112, 108, 101, 114]⟩ 5, bcv ⟨#[114, 111, 99, 107, 101, 114]⟩ 6],
  [⟨⟨#[111]⟩,0,1,0,0,0,0⟩,⟨⟨#[112]⟩,0,2,0,1,1,0⟩,⟨⟨#[113]⟩,0,3,0,0,1,0⟩,⟨⟨#[114]⟩,0,2,1,3,1,0⟩],[⟨⟨#[100]⟩,1⟩]⟩
def t0 : Tn := ⟨⟨false,[],[]⟩,false⟩
theorem as1 (a b : ByteArray) : eqS a b = (a.data.toList == b.data.toList) := by
 unfold eqS; rw [Go.ByteArray.toList_eq,Go.ByteArray.toList_eq]
theorem axo : liE fb = 0 := by
 have h1 : ayn fb = 0 := by
  unfold ayn ad6 bdE awg mkE
  simp only [as1]
  decide +kernel
 have h2 : ao3 fb = 0 := by
  unfold ao3 ad6 jtE awg
  simp only [as1]
  decide +kernel
 have h3 : ayy fb = 0 := by
  unfold ayy ad6 drE awg
  simp only [as1]
  decide +kernel
 unfold liE
 rw [h1,h2,h3]
 decide +kernel
theorem bgy {s : ByteArray} (hs : s.size <= 281474976710656) {n : Int} (hn : -9223372036854775808 <= n /\ n <= 9223372036854775807) :
  (bcv s n).name.size <= 281474976710656 /\ (bcv s n).pts.length <= 281474976710656 /\ ∀ m ∈ (bcv s n).pts,m.name.size <= 281474976710656 /\ m.x.wok /\ m.y.wok := by
 have h0 : (rt ((0 : Int) : Rat)).ok := (av1 (by omega)).ok
 have h1 : (rt (n : Rat)).ok := (av1 hn).ok
 refine ⟨hs,by show 2 <= _; omega,fun m hm => ?_⟩
 simp only [bcv,mem_cons,not_mem_nil,or_false] at hm
 rcases hm with rfl | rfl
 ·exact ⟨by show 1 <= _; omega,h0.wok,h0.wok⟩
 ·exact ⟨by show 1 <= _; omega,h1.wok,h0.wok⟩
theorem bip : fb.okw := by
 refine ⟨by decide,fun b hb => ?_,fun j hj => ?_,fun d hd => ?_,by decide,by decide,by decide⟩
 ·simp only [fb, mem_cons, not_mem_nil, or_false] at hb
  rcases hb with rfl | rfl | rfl | rfl <;> exact bgy (by decide) (by omega)
 ·simp only [fb, mem_cons, not_mem_nil, or_false] at hj
  rcases hj with rfl | rfl | rfl | rfl <;> decide
 ·simp only [fb, mem_cons, not_mem_nil, or_false] at hd
  rcases hd with rfl; decide
theorem ax0 : fb.ok := bih (by decide +kernel) bip
end Go.Lw
namespace Go.Lw
open Go.Proofs
def feG (P : Program) (n : Nat) : Option (FE P) := match h : P.funcs[n]? with
  | none => none
  | some fn => match hb : fn.body with
    | none => none
    | some c => match hn : (fn.name == "runtime.NumGoroutine") with
      | true => none
      | false => some ⟨n,fn,c,fn.results.toList,h,hb,hn,by simp⟩
def smQ (q : Rat) : Bool := Nat.blt q.num.natAbs 18446744073709551616 && Nat.blt q.den 18446744073709551616
theorem bd0 {q : Rat} (h : smQ q = true) : Qb 64 q := by
 simp only [smQ,and_eq_true,Nat.blt_eq] at h
 exact ⟨h.1,h.2⟩
theorem ahq {q : Rat} (h : smQ q = true) : Qs q := (bd0 h).qs (by omega)
def n0 (q : Rat) : AV := nA (sh 0 (q : Rat))
def z0 : AV := adv []
theorem aj7 {q : Rat} (h : smQ q = true) : Nm ([] : List (List Rat)).length 64 (sh 0 (q : Rat)) := Nm.ofQ (by decide) (Cb.one (bd0 h))
theorem a9p (q : Rat) : dec ([] : List (List Rat)).length (sh 0 (q : Rat)) = q := amx 0 q
theorem bgb : Tw [] 1 where
 three:=by decide
 len := fun j hj => absurd hj (Nat.not_lt_zero j)
 pos := fun j hj => absurd hj (Nat.not_lt_zero j)
 rb := ⟨1,1,by omega,fun d hd => absurd hd not_mem_nil,by decide,by decide⟩
 le:=by decide
theorem lm0 : lm ([] : List (List Rat)).length = 200000000000 := rfl
def dW : List AV -> Nat
  | [] => 0
  | x :: l => match x with
    | .v (.int _ (.ofNat n)) => n + 4294967296 * dW l
    | _ => 0
def dWs : AV -> Nat
  | .lst _ l => dW l
  | _ => 0
def dQ (x : AV) : Rat := match x with
  | .agg (.v (.bool s) :: n :: d :: _) => match s with
    | true => mkRat (-(dWs n : Int)) (dWs d)
    | false => mkRat (dWs n : Int) (dWs d)
  | _ => 0
def dN (x : AV) : Rat := match x with
  | .lst _ (x :: _) => dQ x
  | _ => 0
abbrev En := Option (Ent prog)
def w2 (f : FuncId) (g : Rat -> Rat -> AV) (h : ∀ p q, smQ p = true -> smQ q = true -> FnC prog f [qA p, qA q] (g p q)) (p q : Rat) : En := match hh : smQ p && smQ q with
  | true => some ⟨f,[qA p,qA q],g p q,[],h p q (by rw [and_eq_true] at hh; exact hh.1) (by rw [and_eq_true] at hh; exact hh.2)⟩
  | false => none
def oQ2 (f : FuncId) (g : Rat -> Rat -> AV) (h : ∀ p q, smQ p = true -> smQ q = true -> FnC prog f [qA p, qA q] (g p q)) (xs : List AV) : En := match xs with
  | [a,b] => w2 f g h (dQ a) (dQ b)
  | _ => none
def w1 (f : FuncId) (a : Rat -> AV) (g : Rat -> AV) (h : ∀ p, smQ p = true -> FnC prog f [a p] (g p)) (p : Rat) : En := match hh : smQ p with
  | true => some ⟨f,[a p],g p,[],h p hh⟩
  | false => none
def oQ1 (f : FuncId) (g : Rat -> AV) (h : ∀ p, smQ p = true -> FnC prog f [qA p] (g p)) (xs : List AV) : En := match xs with
  | [a] => w1 f qA g h (dQ a)
  | _ => none
def w3 (f : FuncId) (g : Rat -> Rat -> AV) (h : ∀ p q, smQ p = true -> smQ q = true -> FnC prog f [z0, n0 p, n0 q] (g p q)) (p q : Rat) : En := match hh : smQ p && smQ q with
  | true => some ⟨f,[z0,n0 p,n0 q],g p q,[],h p q (by rw [and_eq_true] at hh; exact hh.1) (by rw [and_eq_true] at hh; exact hh.2)⟩
  | false => none
def oT2 (f : FuncId) (g : Rat -> Rat -> AV) (h : ∀ p q, smQ p = true -> smQ q = true -> FnC prog f [z0, n0 p, n0 q] (g p q)) (xs : List AV) : En := match xs with
  | [_,a,b] => w3 f g h (dN a) (dN b)
  | _ => none
def w4 (f : FuncId) (g : Rat -> AV) (h : ∀ p, smQ p = true -> FnC prog f [z0, n0 p] (g p)) (p : Rat) : En := match hh : smQ p with
  | true => some ⟨f,[z0,n0 p],g p,[],h p hh⟩
  | false => none
def oT1 (f : FuncId) (g : Rat -> AV) (h : ∀ p, smQ p = true -> FnC prog f [z0, n0 p] (g p)) (xs : List AV) : En := match xs with
  | [_,a] => w4 f g h (dN a)
  | _ => none
def oC (f : FuncId) (ys : List AV) (r : AV) (h : FnC prog f ys r) (xs : List AV) : En := some ⟨f,ys,r,[],h⟩
def dI (x : AV) : Int := match x with
  | .v (.int _ z) => z
  | _ => 0
def oI (f : FuncId) (g : Int -> AV) (h : ∀ z, (-9223372036854775808 <= z /\ z <= 9223372036854775807) -> FnC prog f [i64 z] (g z)) (xs : List AV) : En := match xs with
  | [a] => match (inferInstance : Decidable (-9223372036854775808 <= dI a /\ dI a <= 9223372036854775807)) with
    | .isTrue hh => some ⟨f,[i64 (dI a)],g (dI a),[],h (dI a) hh⟩
    | .isFalse _ => none
  | _ => none
theorem bn0 (p q : Rat) (hp : smQ p = true) (hq : smQ q = true) : FnC prog 231 [z0, n0 p, n0 q] (.tup [n0 (p + q), .v .nilIface]) := by
 have h := a9k bgb (aj7 hp) (aj7 hq) (by rw [lm0]; omega)
 rw [a9p,a9p] at h; exact h
theorem bnq (p q : Rat) (hp : smQ p = true) (hq : smQ q = true) : FnC prog 163 [z0, n0 p, n0 q] (.tup [n0 (p + -q), .v .nilIface]) := by
 have h := a4u bgb (aj7 hp) (aj7 hq) (by rw [lm0]; omega)
 rw [a9p,a9p] at h; exact h
theorem bm3 (p q : Rat) (hp : smQ p = true) (hq : smQ q = true) : FnC prog 164 [z0, n0 p, n0 q] (.tup [n0 (p * q), .v .nilIface]) := by
 have h := a6u bgb (aj7 hp) (aj7 hq) (by rw [lm0]; omega)
 rw [a9p,a9p] at h; exact h
theorem bj3 (p : Rat) (hp : smQ p = true) : FnC prog 205 [z0, n0 p] (.tup [i64 (aj2 p), .v .nilIface]) := by
 have h := a72 bgb (aj7 hp) (by rw [lm0]; omega)
 rw [a9p] at h; exact h
theorem bnm (p : Rat) (hp : smQ p = true) : FnC prog 148 [z0, n0 p] (.tup [n0 (-p), .v .nilIface]) := by
 have h := a5e bgb (aj7 hp) (by rw [lm0]; omega)
 rw [a9p] at h; exact h
theorem bfj (p q : Rat) (hp : smQ p = true) (hq : smQ q = true) : FnC prog 17 [z0, n0 p, n0 q] (bl (decide (aj2 (p + -q) = 0))) := by
 have h := apx bgb (aj7 hp) (aj7 hq) (by rw [lm0]; omega)
 rw [a9p,a9p] at h; exact h
def bot : FuncId -> Option (List AV -> En)
  | 231 => some (oT2 231 _ bn0)
  | 163 => some (oT2 163 _ bnq)
  | 164 => some (oT2 164 _ bm3)
  | 205 => some (oT1 205 _ bj3)
  | 148 => some (oT1 148 _ bnm)
  | 145 => some (oC 145 [z0] (.v .nilIface) (a0c bgb))
  | 149 => some (oQ1 149 n0 fun _ h => ayk (ahq h))
  | 17 => some (oT2 17 _ bfj)
  | 150 => some (oI 150 (fun z => qA z) aip)
  | 120 => some (oI 120 (fun z => qA z) azl)
  | 137 => some (oQ1 137 n0 fun _ h => bar (ahq h))
  | 206 => some (oQ2 206 (fun p q => qA (p + q)) fun _ _ h h' => bkw (ahq h) (ahq h'))
  | 281 => some (oQ2 281 (fun p q => qA (p - q)) fun _ _ h h' => bci (ahq h) (ahq h'))
  | 288 => some (oQ2 288 (fun p q => qA (p * q)) fun _ _ h h' => a7o (ahq h) (ahq h'))
  | 431 => some (oQ2 431 (fun p q => .tup [qA (p / q),ajw (if q = 0 then 8 else 0)]) fun _ _ h h' => bmn (ahq h) (ahq h'))
  | 111 => some (oQ1 111 (fun p => qA (-p)) fun _ h => bmw (ahq h))
  | 313 => some (oQ1 313 (fun p => i64 (aj2 p)) fun _ h => bk1 (ahq h))
  | _ => none
def dIs (x : AV) : List Int := match x with
  | .lst _ es => es.map dI
  | _ => []
def dG (x : AV) : Gr := match x with
  | .agg [k,b,j,d] => ⟨dI k,dIs b,dIs j,dI d⟩
  | _ => default
def bl9 (n : Nat) (l : List Int) : Bool := l.all fun z => aaa .leq 0 z && aaa .lss z n
theorem a5y {n : Nat} {l : List Int} (h : bl9 n l = true) : ∀ x ∈ l, 0 <= x /\ x < n := by
 intro x hx
 have := List.all_eq_true.1 h x hx
 simp only [and_eq_true,aaa,decide_eq_true_eq] at this
 exact this
def grB (l : Li) (g : Gr) : Bool := bl9 l.bodies.length g.bodies && bl9 l.joints.length g.joints && Nat.ble g.bodies.length 2 && Nat.ble g.joints.length 3
theorem bh8 {l : Li} {g : Gr} (h : grB l g = true) : GrOk l g := by
 simp only [grB,and_eq_true,Nat.ble_eq] at h
 exact ⟨a5y h.1.1.1,a5y h.1.1.2,h.1.2,h.2⟩
def bop (l : Li) (hl : l.ok) (hli : liE l = 0) (g : Gr) : En := match hh : grB l g with
  | true => some ⟨146,[l.av,g.av],_,_,aow l hl hli g (bh8 hh)⟩
  | false => none
def bo3 (l : Li) (hl : l.ok) (hli : liE l = 0) (xs : List AV) : En := match xs with
  | [_,g] => bop l hl hli (dG g)
  | _ => none
theorem bfc (l : Li) (hl : l.ok) (hli : liE l = 0) : FnC prog 144 [l.av] (.tup [.lst 4 ((ab7 l).map Gr.av), ajw (ac8 l)]) := by
 have h := aur l hl
 rw [if_pos hli,if_pos hli] at h; exact h
def bfp (l : Li) (hl : l.ok) (hli : liE l = 0) : FuncId -> Option (List AV -> En)
  | 144 => some (oC 144 [l.av] _ (bfc l hl hli))
  | 146 => some (bo3 l hl hli)
  | 229 => some (oQ1 229 (fun p => bl (rt p).valid) fun _ h => ac7 _ (ahq h).ok)
  | f => bot f
def orP : List (Ent prog) -> FuncId -> Bool
  | [],_ => false
  | e :: l, f => match Nat.beq e.f f with
    | true => true
    | false => orP l f
def orS (xs : List AV) (f : FuncId) : List (Ent prog) -> En
  | [] => none
  | e :: l => match Nat.beq e.f f && ax4 xs e.xs with
    | true => some e
    | false => orS xs f l
def orF (L : List (Ent prog)) (o : FuncId -> Option (List AV -> En)) (f : FuncId) : Option (List AV -> En) := match orP L f with
  | true => some fun xs => match orS xs f L with
    | some e => some e
    | none => match o f with
      | some g => g xs
      | none => none
  | false => o f
def bfz (n : FuncId) : Bool := Nat.beq n 147 || (Nat.beq n 265 || Nat.beq n 353)
end Go.Lw
namespace Go.Lw
open Go.Proofs
set_option maxRecDepth 20000
def bmz : AV := .agg [.v (.string ⟨⟨[111]⟩⟩),.v (.int .i64 0),.v (.int .i64 1),.v (.int .i64 0),.v (.int .i64 0),.v (.int .i64 0),.v (.int .i64 0)]
def bms : AV := .agg [.v (.string ⟨⟨[112]⟩⟩),.v (.int .i64 0),.v (.int .i64 2),.v (.int .i64 0),.v (.int .i64 1),.v (.int .i64 1),.v (.int .i64 0)]
def bn3 : AV := .agg [.v (.string ⟨⟨[113]⟩⟩),.v (.int .i64 0),.v (.int .i64 3),.v (.int .i64 0),.v (.int .i64 0),.v (.int .i64 1),.v (.int .i64 0)]
def bmu : AV := .agg [.v (.string ⟨⟨[114]⟩⟩),.v (.int .i64 0),.v (.int .i64 2),.v (.int .i64 1),.v (.int .i64 3),.v (.int .i64 1),.v (.int .i64 0)]
def bnr : AV := .agg [.v (.string ⟨⟨[98]⟩⟩),.v (.bool false),.lst 1 [.v (.int .u32 4)],.lst 1 [.v (.int .u32 1)],.v (.bool false),.lst 1 [],.lst 1 []]
def bm9 : AV := .agg [.v (.string ⟨⟨[98]⟩⟩),.v (.bool false),.lst 1 [.v (.int .u32 3)],.lst 1 [.v (.int .u32 1)],.v (.bool false),.lst 1 [],.lst 1 []]
def bm2 : AV := .agg [.v (.string ⟨⟨[98]⟩⟩),.v (.bool false),.lst 1 [.v (.int .u32 5)],.lst 1 [.v (.int .u32 1)],.v (.bool false),.lst 1 [],.lst 1 []]
def bni : AV := .agg [.v (.string ⟨⟨[98]⟩⟩),.v (.bool false),.lst 1 [.v (.int .u32 6)],.lst 1 [.v (.int .u32 1)],.v (.bool false),.lst 1 [],.lst 1 []]
def bk7 : AV := .agg [.v (.slice none 0 0),.lst 2 [.agg [.lst 3 [.agg [.v (.bool true),.lst 1 [.v (.int .u32 2)],.lst 1 [.v (.int .u32 1)]]],.lst 3 []]]]
def bjj : AV := .agg [.lst 3 [.agg [.v (.bool false),.lst 1 [.v (.int .u32 1)],.lst 1 [.v (.int .u32 1)]]],.v (.slice none 0 0),.v (.slice none 0 0),.v (.slice none 0 0)]
def bdw : AV := .agg [.lst 3 [.agg [.v (.bool false),.lst 1 [.v (.int .u32 3)],.lst 1 [.v (.int .u32 1)]]],.lst 3 [],.lst 3 [.agg [.v (.bool false),.lst 1 [.v (.int .u32 25)],.lst 1 [.v (.int .u32 1)]]]]
def bdq : AV := .agg [.lst 3 [.agg [.v (.bool false),.lst 1 [.v (.int .u32 4)],.lst 1 [.v (.int .u32 1)]]],.lst 3 [],.lst 3 [.agg [.v (.bool false),.lst 1 [.v (.int .u32 36)],.lst 1 [.v (.int .u32 1)]]]]
def bhx : AV := .agg [.lst 3 [.agg [.v (.bool true),.lst 1 [.v (.int .u32 1)],.lst 1 [.v (.int .u32 1)]]],.v (.slice none 0 0),.lst 3 [.agg [.v (.bool false),.lst 1 [.v (.int .u32 3)],.lst 1 [.v (.int .u32 1)]]],.lst 3 []]
def bki : AV := .agg [.lst 3 [.agg [.v (.bool true),.lst 1 [.v (.int .u32 1)],.lst 1 [.v (.int .u32 1)]]],.v (.slice none 0 0),.lst 3 [.agg [.v (.bool false),.lst 1 [.v (.int .u32 4)],.lst 1 [.v (.int .u32 1)]]],.lst 3 []]
def bji : AV := .lst 7 [.agg [.v (.string ⟨⟨[97]⟩⟩),.v (.bool false),.lst 1 [],.lst 1 [],.v (.bool false),.lst 1 [],.lst 1 []],bnr]
def bh7 : AV := .lst 7 [.agg [.v (.string ⟨⟨[97]⟩⟩),.v (.bool false),.lst 1 [],.lst 1 [],.v (.bool false),.lst 1 [],.lst 1 []],bm9]
def bj5 : AV := .lst 7 [.agg [.v (.string ⟨⟨[97]⟩⟩),.v (.bool false),.lst 1 [],.lst 1 [],.v (.bool false),.lst 1 [],.lst 1 []],bm2]
def bkp : AV := .lst 7 [.agg [.v (.string ⟨⟨[97]⟩⟩),.v (.bool false),.lst 1 [],.lst 1 [],.v (.bool false),.lst 1 [],.lst 1 []],bni]
def bk0 : AV := .agg [.v (.string ⟨⟨[99,114,97,110,107]⟩⟩),bh7]
def bi9 : AV := .agg [.v (.string ⟨⟨[102,114,97,109,101]⟩⟩),bji]
def blc : AV := .agg [.v (.string ⟨⟨[114,111,99,107,101,114]⟩⟩),bkp]
def bjn : AV := .agg [.v (.string ⟨⟨[99,111,117,112,108,101,114]⟩⟩),bj5]
def bke : AV := .lst 4 [bhx,bki]
def bcs : AV := .agg [.v (.slice none 0 0),bke,.v (.int .i64 0)]
def biz : AV := .lst 4 [bjj,bjj,.agg [.v (.slice none 0 0),.v (.slice none 0 0),.v (.slice none 0 0),.v (.slice none 0 0)],.agg [.v (.slice none 0 0),.v (.slice none 0 0),.v (.slice none 0 0),.v (.slice none 0 0)]]
def bkm : AV := .lst 7 [bmz,bms,bn3,bmu]
def bct : AV := .agg [.v (.slice none 0 0),biz,.v (.slice none 0 0)]
def biv : AV := .lst 2 [bi9,bk0,bjn,blc]
def a8v : AV := .agg [.v (.string ⟨⟨[102,111,117,114,98,97,114]⟩⟩),biv,bkm,.lst 2 [.agg [.v (.string ⟨⟨[100]⟩⟩),.v (.int .i64 1)]]]
theorem boo : Con prog 50 [] [] (a8v) [] := ay1 ⟨orF [] ((bfp fb ax0 axo)),feG prog,bfz⟩ 6000 (base := 2000) (av := []) (by kernel_rfl)
def bjk : List (Ent prog) := ⟨_,_,_,_,boo⟩ :: []
theorem bo6 : Con prog 252 [.agg [.v (.slice none 0 0)],bdw,bdq] [] (.tup [bk7,.v .nilIface]) [] := ay1 ⟨orF bjk ((bfp fb ax0 axo)),feG prog,bfz⟩ 6000 (base := 2000) (av := []) (by kernel_rfl)
def bkj : List (Ent prog) := ⟨_,_,_,_,bo6⟩ :: bjk
theorem bou : Con prog 253 [bk7,.lst 14 [.agg [.v (.bool false),.lst 1 [],.lst 1 [],.v (.bool false),.lst 1 [],.lst 1 [],.lst 3 [.agg [.v (.bool false),.lst 1 [.v (.int .u32 3)],.lst 1 [.v (.int .u32 1)]]],.lst 3 [],.v (.bool false),.lst 1 [.v (.int .u32 5)],.lst 1 [.v (.int .u32 1)],.v (.bool false),.lst 1 [],.lst 1 []],.agg [.v (.bool false),.lst 1 [],.lst 1 [],.v (.bool false),.lst 1 [],.lst 1 [],.lst 3 [.agg [.v (.bool false),.lst 1 [.v (.int .u32 4)],.lst 1 [.v (.int .u32 1)]]],.lst 3 [],.v (.bool false),.lst 1 [.v (.int .u32 6)],.lst 1 [.v (.int .u32 1)],.v (.bool false),.lst 1 [],.lst 1 []]]] [] (.tup [.ms 300 3 0 1,.v .nilIface]) [(300,some (.row 3 [bcs]))] := ay1 ⟨orF bkj ((bfp fb ax0 axo)),feG prog,bfz⟩ 6000 (base := 2000) (av := []) (by kernel_rfl)
def bkd : List (Ent prog) := ⟨_,_,_,_,bou⟩ :: bkj
theorem bo7 : Con prog 52 [a8v,.v (.int .i64 1),.agg [.v (.bool false),.v (.slice none 0 0),.v (.slice none 0 0),.v (.bool false)],bct] [] (.tup [.ms 300 3 0 1,.v .nilIface]) [(300,some (.row 3 [bcs]))] := ay1 ⟨orF bkd ((bfp fb ax0 axo)),feG prog,bfz⟩ 6000 (base := 2000) (av := []) (by kernel_rfl)
def bjo : List (Ent prog) := ⟨_,_,_,_,bo7⟩ :: bkd
theorem bpa : Con prog 60 [.agg [.v (.slice none 0 0)],bdw,bdq] [] (.tup [.lst 3 [],.v .nilIface]) [] := ay1 ⟨orF bjo ((bfp fb ax0 axo)),feG prog,bfz⟩ 6000 (base := 2000) (av := []) (by kernel_rfl)
def bkn : List (Ent prog) := ⟨_,_,_,_,bpa⟩ :: bjo
theorem bov : Con prog 12 [a8v,.v (.int .i64 1),bct] [] (.tup [.lst 3 [],.v .nilIface]) [] := ay1 ⟨orF bkn ((bfp fb ax0 axo)),feG prog,bfz⟩ 6000 (base := 2000) (av := []) (by kernel_rfl)
def bnv : List (Ent prog) := ⟨_,_,_,_,bov⟩ :: bkn
theorem aot : FnC prog 9 [] (bl true) := ay1 ⟨orF bnv ((bfp fb ax0 axo)),feG prog,bfz⟩ 6000 (base := 2000) (av := []) (by kernel_rfl)
end Go.Lw
namespace Go.Lw
open Go.Proofs
theorem bn7 {p q : Bool} (h : cond (cond (!true) true (!p)) true (!q) = false) : p = true /\ q = true:=by cases p <;> cases q <;> simp_all
theorem bkb {l : Li} {k : Int} {a : As} {own : Bool} (h : liE l ≠ 0) : dyE l k a own = liE l:=by unfold dyE; rw [if_pos h]
theorem bc4 {l : Li} {k : Int} {a : As} {own : Bool} {n : Nat} {g : Gr} (hl : l.ok) (al : AL a) (ok : DyOk l k a own n g) : DyR l a := ⟨hl,ok.li,al,ok.chk⟩
theorem bjb {ts : List (List Rat)} (c : Ct ts 4000 300000) {x y x2 y2 z z2 : Et ts} (h1 : Zu 4000 300000 x 40 40) (h2 : Zu 4000 300000 y 40 40) (h3 : Zu 4000 300000 x2 40 40) (h4 : Zu 4000 300000 y2 40 40) (h5 : Zu 4000 300000 z 3 0) (h6 : Zu 4000 300000 z2 3 0) :
  ∃ w v,Zu 4000 300000 (bhk (x,y) z (x2,y2) z2) w v /\ w + v <= 5000 := by
 haveI := c; haveI := h5; haveI := h6
 haveI zd := a6d c h1 h2 h3 h4
 haveI q4 : Qz 4000 ((4 : Int) : Rat) 1 := Qz.int (c := Ct.cx (c := c)) (by decide)
 exact ⟨_,_,(inferInstance : Zu 4000 300000 (qE ((4 : Int) : Rat) * (z * d2E (x,y) (x2,y2)) - (z + d2E (x,y) (x2,y2) - z2) * (z + d2E (x,y) (x2,y2) - z2)) _ _),by decide⟩
theorem bme {ts : List (List Rat)} (c : Ct ts 4000 300000) {p m n : Et ts × Et ts} {w : Et ts} (y1 : Zu 4000 300000 p.1 40 40) (y2 : Zu 4000 300000 p.2 40 40) (y3 : Zu 4000 300000 m.1 40 40) (y4 : Zu 4000 300000 m.2 40 40) (y5 : Zu 4000 300000 n.1 40 40) (y6 : Zu 4000 300000 n.2 40 40) (y7 : Zu 4000 300000 w 3 0) :
  ∃ a b,Zu 4000 300000 (am3 (sbE m n) (sbE m n) * w - ang (sbE m n) (sbE p n) * ang (sbE m n) (sbE p n)) a b /\ a + b <= 5000 := by
 haveI := c; haveI := y1; haveI := y2; haveI := y3; haveI := y4; haveI := y5; haveI := y6; haveI := y7
 exact ⟨_,_,(inferInstance : Zu 4000 300000 (dotE (m.1 - n.1) (m.2 - n.2) (m.1 - n.1) (m.2 - n.2) * w - crsE (m.1 - n.1) (m.2 - n.2) (p.1 - n.1) (p.2 - n.2) * crsE (m.1 - n.1) (m.2 - n.2) (p.1 - n.1) (p.2 - n.2)) _ _),by decide⟩
theorem bnb {ts : List (List Rat)} (c : Ct ts 4000 300000) {n d g : Et ts} (y1 : Zu 4000 300000 n 3 0) (y2 : Zu 4000 300000 d 320 327) (y3 : Zu 4000 300000 g 3 0) : ∃ a b, Zu 4000 300000 (n * d - g * g) a b /\ a + b <= 5000 := by
 haveI := c; haveI := y1; haveI := y2; haveI := y3
 exact ⟨_,_,(inferInstance : Zu 4000 300000 (n * d - g * g) _ _),by decide⟩
theorem a7j {ts : List (List Rat)} (c : Ct ts 4000 300000) {p q m n : Et ts × Et ts} (y1 : Zu 4000 300000 p.1 40 40) (y2 : Zu 4000 300000 p.2 40 40) (y3 : Zu 4000 300000 q.1 40 40) (y4 : Zu 4000 300000 q.2 40 40)
  (y5 : Zu 4000 300000 m.1 40 40) (y6 : Zu 4000 300000 m.2 40 40) (y7 : Zu 4000 300000 n.1 40 40) (y8 : Zu 4000 300000 n.2 40 40) :
  (∃ a b,Zu 4000 300000 (ang (sbE p q) (sbE m n)) a b /\ a + b <= 5000) /\ ∃ a b,Zu 4000 300000 (am3 (sbE p q) (sbE m n)) a b /\ a + b <= 5000 := by
 haveI := c; haveI := y1; haveI := y2; haveI := y3; haveI := y4; haveI := y5; haveI := y6; haveI := y7; haveI := y8
 exact ⟨⟨_,_,(inferInstance : Zu 4000 300000 (crsE (p.1 - q.1) (p.2 - q.2) (m.1 - n.1) (m.2 - n.2)) _ _),by decide⟩,⟨_,_,(inferInstance : Zu 4000 300000 (dotE (p.1 - q.1) (p.2 - q.2) (m.1 - n.1) (m.2 - n.2)) _ _),by decide⟩⟩
theorem bio {l : Li} {k : Int} {a : As} {own : Bool} {n : Nat} {g : Gr} (D : DyR l a) (ok : DyOk l k a own n g) (h0 : g.kind ≠ 0) : ∃ w v, Zu 4000 300000 (aw8 l a g) w v /\ w + v <= 5000 := by
 have c := D.al.ct D.hc
 by_cases h1 : g.kind = 1
 ·obtain ⟨i, k2, z0, z1, z2, j0, j1, j2, P⟩ := ok.rrr h1
  obtain ⟨y1,y2⟩ := acv D.hl D.li D.al D.hc P.h0 P.p0
  obtain ⟨y3,y4⟩ := acv D.hl D.li D.al D.hc P.h1 P.p1
  rw [a8l P]
  exact bjb c y1 y2 y3 y4 (aqs c (acs D.hl D.li P.h2 P.t1) (acs D.hl D.li P.h0 (aft P.p0))) (aqs c (acs D.hl D.li P.h2 P.t2) (acs D.hl D.li P.h1 (aft P.p1)))
 ·by_cases h2 : g.kind = 2
  ·obtain ⟨i, z0, z1, j0, j, P, ha, hb⟩ := ok.pr h2
   obtain ⟨i1,i2,i3,i4,i5⟩ := aem D.li P.h1
   have q2 : Sm 1000 (mkQ l i j.point):=by rw [<- ha]; exact agi D.hl D.li i1 i3
   obtain ⟨y1,y2⟩ := acv D.hl D.li D.al D.hc P.h0 P.p0
   obtain ⟨y3,y4⟩ := adb D.hl D.li D.al D.hc i2 (i5 P.hk) hb
   obtain ⟨y7,y8⟩ := adb D.hl D.li D.al D.hc i2 i4 hb
   rw [a5h P]
   exact bme c y1 y2 y3 y4 y7 y8 (aqs c q2 (acs D.hl D.li P.h0 (aft P.p0)))
  ·obtain ⟨i, z0, z1, j0, j, P, _, hj, hb⟩ := ok.rp h0 h1 h2
   obtain ⟨i1,i2,i3,i4,i5⟩ := aem D.li P.h1
   have q0 := acs D.hl D.li P.h0 (aft P.p0)
   have q1 : Sm 1000 (mkQ l i j.on):=by rw [<- hj]; exact agi D.hl D.li i2 i4
   have q2 : Sm 1000 (mkQ l i j.to):=by rw [<- hj]; exact agi D.hl D.li i2 (i5 P.hk)
   obtain ⟨y1,y2⟩ := acv D.hl D.li D.al D.hc P.h0 P.p0
   obtain ⟨y3,y4⟩ := adb D.hl D.li D.al D.hc i1 i3 hb
   have hv := q2.sub q1
   haveI := c
   haveI : Qz 4000 (a9n (awi (mkQ l i j.to) (mkQ l i j.on)) (awi (mkQ l i j.to) (mkQ l i j.on))) 3 := asu (hv.dot hv) (by omega)
   haveI : Qz 4000 (ap2 (awi (mkQ l i j.to) (mkQ l i j.on)) (awi (mkQ l i j.on) (adg l j0 i))) 3 := asu (hv.cross (q1.sub q0)) (by omega)
   rw [bdv P]
   exact bnb c (by rw [alj,a1h]; exact inferInstance) (a6d c y3 y4 y1 y2) (by rw [alj,alj,a5f]; exact inferInstance)
theorem bk2 {l : Li} {k : Int} {a : As} {n : Nat} {g : Gr} (D : DyR l a) (ok : DyOk l k a true n g) (h0 : g.kind ≠ 0) : ∃ w v, Zu 4000 300000 (ar5 l a g) w v /\ w + v <= 5000 := by
 have c := D.al.ct D.hc
 by_cases h1 : g.kind = 1
 ·obtain ⟨i, k2, z0, z1, z2, j0, j1, j2, P⟩ := ok.rrr h1
  obtain ⟨y1,y2⟩ := acv D.hl D.li D.al D.hc P.h0 P.p0
  obtain ⟨y3,y4⟩ := acv D.hl D.li D.al D.hc P.h1 P.p1
  obtain ⟨y5,y6⟩ := aq4 D.al D.hc (ok.own (b := i) (by rw [P.eq]; simp)) (acs D.hl D.li P.h2 P.t1)
  rw [bc0 P]
  exact (a7j c y3 y4 y1 y2 y5 y6 y1 y2).1
 ·by_cases h2 : g.kind = 2
  ·obtain ⟨i, z0, z1, j0, j, P, ha, hb⟩ := ok.pr h2
   obtain ⟨i1,i2,i3,i4,i5⟩ := aem D.li P.h1
   have q2 : Sm 1000 (mkQ l i j.point):=by rw [<- ha]; exact agi D.hl D.li i1 i3
   obtain ⟨y1,y2⟩ := acv D.hl D.li D.al D.hc P.h0 P.p0
   obtain ⟨y3,y4⟩ := adb D.hl D.li D.al D.hc i2 (i5 P.hk) hb
   obtain ⟨y7,y8⟩ := adb D.hl D.li D.al D.hc i2 i4 hb
   obtain ⟨y5,y6⟩ := aq4 D.al D.hc (ok.own (b := i) (by rw [P.eq]; simp)) q2
   rw [bcy P]
   exact (a7j c y3 y4 y7 y8 y5 y6 y1 y2).2
  ·obtain ⟨i, z0, z1, j0, j, P, _, hj, hb⟩ := ok.rp h0 h1 h2
   obtain ⟨i1,i2,i3,i4,i5⟩ := aem D.li P.h1
   have q1 : Sm 1000 (mkQ l i j.on):=by rw [<- hj]; exact agi D.hl D.li i2 i4
   have q2 : Sm 1000 (mkQ l i j.to):=by rw [<- hj]; exact agi D.hl D.li i2 (i5 P.hk)
   obtain ⟨y1,y2⟩ := acv D.hl D.li D.al D.hc P.h0 P.p0
   obtain ⟨y3,y4⟩ := adb D.hl D.li D.al D.hc i1 i3 hb
   obtain ⟨y5,y6⟩ := aq4 D.al D.hc (ok.own (b := i) (by rw [P.eq]; simp)) q1
   obtain ⟨y7,y8⟩ := aq4 D.al D.hc (ok.own (b := i) (by rw [P.eq]; simp)) q2
   rw [bd3 P hj]
   exact (a7j c y7 y8 y5 y6 y3 y4 y1 y2).2
theorem bi7 {l : Li} {k : Int} {a : As} {own : Bool} {n : Nat} {g : Gr} (D : DyR l a) (ok : DyOk l k a own n g) : FnC prog 17 [agh a.rs, nA (ayl l a g), nA (ayl l a g)] (bl true) := by
 haveI c := D.al.ct D.hc
 have hz : ∃ x w v, Zl (llq a.rs) 4000 300000 (ayl l a g) x w v /\ w + v <= 5000 := by
  unfold ayl
  by_cases h0 : g.kind = 0
  ·rw [if_pos h0]
   haveI : Qz 4000 (((1 : Int)) : Rat) 1 := Qz.int (c := Ct.cx (c := c)) (by decide)
   exact ⟨_,_,_,(inferInstance : Zl (llq a.rs) 4000 300000 (sh 0 (((1 : Int) : Rat) : Rat)) _ _ _),by decide⟩
  ·rw [if_neg h0]
   obtain ⟨w,v,hw,hs⟩ := bio D ok h0
   exact ⟨_,w,v,(inferInstance : Zl (llq a.rs) 4000 300000 (sX (aw8 l a g)) _ _ _),hs⟩
 obtain ⟨x,w,v,z,hs⟩ := hz
 have h := a0f (ts := llq a.rs) (u := 4000) (k := 300000) (a := ayl l a g) (b := ayl l a g) (by omega)
 rw [az7,<- (ab0 D.al.tr D.hc).2] at h
 exact h
theorem blv {l : Li} {k : Int} {a : As} {n : Nat} {g : Gr} (D : DyR l a) (ok : DyOk l k a true n g) : FnC prog 17 [agh a.rs, nA (aw9 l a g), nA (aw9 l a g)] (bl true) := by
 haveI c := D.al.ct D.hc
 have hz : ∃ x w v, Zl (llq a.rs) 4000 300000 (aw9 l a g) x w v /\ w + v <= 5000 := by
  unfold aw9
  by_cases h0 : g.kind = 0
  ·rw [if_pos h0]
   haveI : Qz 4000 (((1 : Int)) : Rat) 1 := Qz.int (c := Ct.cx (c := c)) (by decide)
   exact ⟨_,_,_,(inferInstance : Zl (llq a.rs) 4000 300000 (sh 0 (((1 : Int) : Rat) : Rat)) _ _ _),by decide⟩
  ·rw [if_neg h0]
   obtain ⟨w,v,hw,hs⟩ := bk2 D ok h0
   exact ⟨_,w,v,(inferInstance : Zl (llq a.rs) 4000 300000 (sX (ar5 l a g)) _ _ _),hs⟩
 obtain ⟨x,w,v,z,hs⟩ := hz
 have h := a0f (ts := llq a.rs) (u := 4000) (k := 300000) (a := aw9 l a g) (b := aw9 l a g) (by omega)
 rw [az7,<- (ab0 D.al.tr D.hc).2] at h
 exact h
theorem as4 (l : Li) (hw : l.okw) (k : Int) (a : As) (ha : a.ok) : FnC prog 3 [l.av, i64 k, a.av] (bl true) := by
 refine gF0 func3 ?_
 refine gc aot ?_
 refine gcG (fun _ => (axt l hw)) ?_
 refine gcG (fun _ => (avu a ha)) ?_
 refine gC (fun ht24 => ?_) (fun ht24 => ?_)
 ·refine gc aot ?_
  refine gE1 ?_
  first | rfl | (simp; done)
 ·obtain ⟨h1, h2⟩ := bn7 ht24
  have hl := bih h1 hw
  have al := bh1 h2 ha
  refine gc (asj l hl k a al) ?_
  refine gc (bak l hl k a al) ?_
  refine gc (azb l hl) ?_
  refine gJ2 [1,3,5,8,10] [3,5] (fun (c e : Nat) => [(7,some (nA (if dyE l k a false = 0 then ayl l a (gAt l k) else []))),(9,some (nA (if dyE l k a true = 0 then aw9 l a (gAt l k) else []))),(11,some (i64 c)),(12,some (i64 e))]) (fun _ _ => []) (fun c e => c = dyE l k a false /\ e = dyE l k a true) ?_ ?_
  ·intro K1 hK1
   refine gC (fun ht44 => ?_) (fun ht44 => ?_)
   ·have hli := a69 ht44
    refine gc (av7 l hl hli k a al false) ?_
    refine gc (av7 l hl hli k a al true) ?_
    refine gD ?_
    exact jK2 hK1 (aub l k a false) (aub l k a true) ⟨(bgk hli).symm,(bgk hli).symm⟩
   ·have hli : liE l ≠ 0 := by have := afy ht44; omega
    exact jK2 hK1 (liE l) (liE l) ⟨(bkb hli).symm,(bkb hli).symm⟩
  ·rintro c e ⟨hc, he⟩
   subst hc
   subst he
   refine gJ0 [1,3,5,10,12] [3,5] [(9,some (nA (if dyE l k a true = 0 then aw9 l a (gAt l k) else [])))] [] (True) ?_ ?_
   ·intro K2 hK2
    refine gC (fun ht54 => ?_) (fun ht54 => ?_)
    ·have h3 := aif ht54
     rw [if_neg h3]
     refine gl ?_
     refine gcG (fun _ => (arh (dyE l k a false))) ?_
     refine gC (fun ht63 => ?_) (fun ht63 => ?_) (st1 := (11,0))
     ·exact absurd ht63 (by simp [aaa])
     ·exact jK0 hK2 trivial
    ·have h3 := aie ht54
     obtain ⟨n,g,ok⟩ := bax h3
     have D := bc4 hl al ok
     have hgA : gAt l k = g:=by unfold gAt; rw [ok.hk,toNat_natCast]; exact aag ok.hg
     obtain ⟨V,hN,hV,hR⟩ := aq6 D ok
     rw [<- ok.hk] at hV
     have e7 : (if dyE l k a false = 0 then ayl l a (gAt l k) else []) = ayl l a g:=by rw [if_pos h3,hgA]
     rw [e7,h3]
     refine gcG (fun _ => hV) (hnm := (fun _ => hN)) ?_
     refine gcG (fun _ => hR) ?_
     refine gcG (fun _ => (bi7 D ok)) ?_
     refine gD ?_
     refine gC (fun ht79 => ?_) (fun ht79 => ?_) (st1 := (13,0))
     ·cases ht79
     ·exact jK0 hK2 trivial
   ·rintro -
    refine gC (fun ht81 => ?_) (fun ht81 => ?_)
    ·have h4 := aif ht81
     rw [if_neg h4]
     refine gl ?_
     refine gcG (fun _ => (arh (dyE l k a true))) ?_
     refine gE1 ?_
     simp [aaa]; rfl
    ·have h4 := aie ht81
     obtain ⟨n,g,ok⟩ := bax h4
     have D := bc4 hl al ok
     have hgA : gAt l k = g:=by unfold gAt; rw [ok.hk,toNat_natCast]; exact aag ok.hg
     have hD := a5u D ok
     rw [<- ok.hk] at hD
     have e8 : (if dyE l k a true = 0 then aw9 l a (gAt l k) else []) = aw9 l a g:=by rw [if_pos h4,hgA]
     rw [e8,h4]
     refine gcG (fun _ => hD) ?_
     refine gcG (fun _ => (blv D ok)) ?_
     refine gD ?_
     refine gE1 ?_
     rfl
end Go.Lw
namespace Go.Lw
open Go.Proofs Go.Proofs.YtjidoooidfcjgaaGreat
open Go.ChangeShapes Go.WideShapes Go.ChangeAt Go.RowKit
set_option maxRecDepth 100000 in
theorem ak1 (os : Os) (started : os.Started) (H : Type) (enc : TypeId × Value -> H) :
  ReturnsInHanded {} Tryz.checked os 3 .any (Rows.dyadNumbersSpec.pre6 enc prog Tryz.f3 Rows.dyadNumbersRow.domain false) (Rows.dyadNumbersSpec.post enc prog Tryz.f3 false true false false) := by
 refine returnsInHanded_of_change_sized (C := Tryz.checked) own started (by kernel_rfl) func3
  (ChangeSpec.witness6 (enc := enc) (C := Tryz.checked) false ⟨#[],#[.agg #[.string ⟨#[]⟩,.slice none 0 0,.slice none 0 0,.slice none 0 0],.int .i64 0,.agg #[.slice none 0 0,.slice none 0 0,.slice none 0 0]],[]⟩ 8 (by kernel_rfl) (by kernel_rfl) (by kernel_rfl) (by kernel_rfl)) ?_
 intro W base args ds gs before hval0 hW hcnd hwt0 _
 have hval : ∀ (j : Nat) t v,Tryz.f3.params[j]? = some t -> args[j]? = some v -> Value.okWide prog W .any base t v := hval0
 have hwt : (DataW.weightsEach prog (Tryz.f3.params.toList ++ Rows.dyadNumbersSpec.plain.varTypes prog) (ds ++ gs)).all (· <= reachBytes) = true := hwt0
 have hW' := hW
 obtain ⟨p,q,hA0,hV,rfl,hfz,hnd⟩ := hW
 have hA : DataW.TrodAll enc prog W 0 (fun _ => true) true Tryz.f3.params.toList args.toList ds p := hA0
 rw [Tryz.params3] at hA hval hwt
 obtain ⟨v0,v1,v2,d0,d1,d2,p0,p1,p2,rfl,rfl,rfl,h0,h1,h2⟩ := trodAll_three hA
 obtain ⟨rfl,rfl⟩ := trodVars_none hV
 clear hA0 hval0 hwt0
 have hlt : ∀ x ∈ p0 ++ p1 ++ p2,x.block < W.heap.size := fun x hx => hW'.lt x (by simpa using hx)
 have hw0 : ∀ n ∈ d0.weights prog 26, n <= reachBytes := fun n hn => by
  have := List.all_eq_true.1 hwt n (DataW.weights_mem_each (j := 0) rfl rfl n hn)
  simpa using this
 have hw1 : ∀ n ∈ d1.weights prog 3, n <= reachBytes := fun n hn => by
  have := List.all_eq_true.1 hwt n (DataW.weights_mem_each (j := 1) rfl rfl n hn)
  simpa using this
 have hw2 : ∀ n ∈ d2.weights prog 33, n <= reachBytes := fun n hn => by
  have := List.all_eq_true.1 hwt n (DataW.weights_mem_each (j := 2) rfl rfl n hn)
  simpa using this
 obtain ⟨x0,q0,r0⟩ := a8c Tryz.underlying26 bgi (hval 0 26 v0 rfl rfl) h0 hw0
 obtain ⟨x1,q1,r1⟩ := bfl alt (fun _ => rfl) (a2a Tryz.underlying3 (hval 1 3 v1 rfl rfl)) h1 hw1
 obtain ⟨x2,q2,r2⟩ := a8c Tryz.underlying33 bk9 (hval 2 33 v2 rfl rfl) h2 hw2
 have hc := FnC.calls (W := W) (vs := #[v0, v1, v2]) (as4 x0 q0 x1 x2 q2) rfl (fun j v x hv hx => by
  match j,hv,hx with
  | 0,hv,hx => cases hv; cases hx; exact r0
  | 1,hv,hx => cases hv; cases hx; exact r1
  | 2,hv,hx => cases hv; cases hx; exact r2)
 refine hc.mono fun e W' ⟨he,hb⟩ => ?_
 subst he
 refine ⟨_,rfl,as9 hW' rfl rfl (fun _ _ _ => trodAll_mk1 (shut_bool Tryz.underlying4 _)) (fun sp hsp => ?_) rfl hb (ok_one (by kernel_rfl) rfl (okWide_bool_mk Tryz.underlying4 _))⟩
 rw [Tryz.params3]
 have hs : ∀ x ∈ p0 ++ p1 ++ p2,sp x.block = true := fun x hx => hsp x (by simpa using hx)
 have g0 := at0 (sp' := sp) (by kernel_rfl) (of_decide_eq_true (by kernel_rfl)) h0 hb (fun x hx => hlt x (by simp [hx])) (fun x hx => hs x (by simp [hx]))
 have g1 := at0 (sp' := sp) (by kernel_rfl) (of_decide_eq_true (by kernel_rfl)) h1 hb (fun x hx => hlt x (by simp [hx])) (fun x hx => hs x (by simp [hx]))
 have g2 := at0 (sp' := sp) (by kernel_rfl) (of_decide_eq_true (by kernel_rfl)) h2 hb (fun x hx => hlt x (by simp [hx])) (fun x hx => hs x (by simp [hx]))
 have g := trodAll_mk3 g0 g1 g2
 rw [show p0 ++ p1 ++ p2 ++ [] = p0 ++ (p1 ++ p2) from by simp]
 exact g
set_option maxRecDepth 100000 in
theorem aoj : prog.closure 3 = [3,9,50,136,246,120,221,241,333,222,133,236,239,332,240,215,237,330,393,334,395,243,394,242,238,331,396,244,51,137,213,132,212,314,315,382,134,49,135,245,52,56,144,260,102,198,300,372,373,410,199,229,326,308,312,380,377,381,422,423,362,424,425,421,426,427,310,271,270,327,307,311,200,301,302,374,207,306,379,201,348,401,432,444,434,447,448,446,402,433,445,436,435,403,261,349,145,262,350,263,268,345,364,313,351,286,367,288,208,209,309,376,378,368,366,285,206,305,269,111,146,264,352,147,266,363,265,353,359,409,354,404,355,405,406,356,407,408,437,357,358,360,361,148,267,138,247,210,335,150,281,397,431,443,248,151,157,73,71,167,169,149,168,284,164,365,282,163,287,231,159,170,158,249,155,280,68,161,283,165,59,258,347,400,65,162,63,66,250,139,58,152,156,251,336,398,337,61,252,153,272,225,273,205,154,275,160,274,277,276,279,278,338,339,340,399,341,342,343,256,344,346,253,259,140,62,72,254,141,69,166,64,70,67,255,257,12,57,60,53,142,175,129,233,292,176,235,329,293,234,294,369,177,178,116,54,17,79,10,11,55,143,13,14,74,171,290,289,291,75,172,76,173,174,115,214,77,15,39,117,216,118,217,316,218,317,383,219,47,130,78,16,19,86,87,181,182,184,84,180,83,179,48,131,183,88,89,82,85,81,18,80,20,90]:=by kernel_rfl
theorem ala : joinedFacts prog 3 Tryz.f3 Rows.dyadNumbersSpec Rows.dyadNumbersRow = true := by
 unfold joinedFacts Program.recurses Program.inPlace Program.unfollowed Program.varsNamed
 rw [aoj,a57,a98,bbo,bfa,bay,ba6]
 kernel_rfl
theorem dyadNumbers_holds : Rows.DyadNumbersSaid :=
 OpenClaim.holds_of_wide 3 Tryz.f3 rfl rfl rfl rfl rfl rfl rfl ⟨rfl, rfl, rfl, rfl, rfl⟩ rfl rfl rfl rfl rfl (by kernel_rfl) func3 ala
  (of_decide_eq_true (by kernel_rfl)) (by unfold Func.isWrapper; first | (rw [if_pos (by decide +kernel)]; kernel_rfl) | (rw [if_neg (by decide +kernel)]; exact ⟨rfl,rfl⟩))
  (fun os started H enc _ => ak1 os started H enc)
end Go.Lw
namespace Go.Proofs.YtjidoooidfcjgaaGreat
theorem dyadNumbers_proved : Rows.DyadNumbersSaid := Go.Lw.dyadNumbers_holds
end Go.Proofs.YtjidoooidfcjgaaGreat
