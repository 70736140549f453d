/- ForcePowers: for any assembly, velocities and loads the law returns true and leaves its arguments as they were; ForceLinear: for any assembly, velocities and two lists of loads the law returns true and leaves its arguments as they were. No other condition. Part 6 of 7: what the later parts need -/
import Derived.Test.YtjidoooidfcjgaaGreatYe
set_option linter.unusedVariables false
open List (mem_of_getElem? mem_cons_of_mem map_cons mem_cons length_cons mem_cons_self length_append length_nil getElem?_eq_none all_eq_true getElem?_take getElem?_drop getElem?_map getElem?_eq_getElem nil_append map_append length_take take_of_length_le length_map drop_zero take_length map_map map_replicate map_set not_mem_nil)
open Nat (eq_of_beq_eq_true le_refl lt_of_lt_of_le lt_or_ge le_trans zero_le)
open Option (map_eq_some_iff)
open Bool (and_eq_true or_eq_true)
open Array (getD_eq_getD_getElem?)
open Go.Proofs.Tryz
namespace Go.Lw
variable {P : Program} {N : Nat}
def rdC (s : AS) : Operand -> Option AV
  | .tmp t => match s.get t with
    | some x => match x with
      | .opt _ _ => none
      | x => some x
    | none => none
  | .const c => some (.v c)
  | .func f => some (.v (.func (.func f) #[] #[]))
  | .global _ => none
theorem abf {s : AS} {o : Operand} {x : AV} (h : rdC s o = some x) : Ev s o x := by
 cases o with
 | tmp t =>
  simp only [rdC] at h
  split at h
  ·rename_i y hy
   split at h
   ·cases h
   ·cases h; exact .tmp hy
  ·cases h
 | const c => cases h; exact .const c
 | func f => cases h; exact .func f
 | global n => cases h
def beu (s : AS) : List Operand -> Option (List AV)
  | [] => some []
  | o :: os => match rdC s o with
    | some x => match beu s os with
      | some xs => some (x :: xs)
      | none => none
    | none => none
theorem ama {s : AS} : ∀ {os : List Operand} {xs : List AV}, beu s os = some xs -> EvL s os xs
 | [],xs,h => by cases h; exact .nil
 | o :: os, xs, h => by
  unfold beu at h
  split at h
  ·rename_i x h1
   split at h
   ·rename_i ys h2; cases h; exact .cons (abf h1) (ama h2)
   ·cases h
  ·cases h
def wN {α : Type} (n : Nat) (f : Nat -> α) : α := match n with
  | 0 => f 0
  | m + 1 => f (m + 1)
theorem avj {α : Type} (n : Nat) (f : Nat -> α) : wN n f = f n:=by cases n <;> rfl
def wI {α : Type} (z : Int) (f : Int -> α) : α := match z with
  | .ofNat n => match n with
    | 0 => f 0
    | m + 1 => f (Int.ofNat (m + 1))
  | .negSucc n => f (.negSucc n)
theorem asn {α : Type} (z : Int) (f : Int -> α) : wI z f = f z := by
 cases z with
 | ofNat n => cases n <;> rfl
 | negSucc n => rfl
structure V1 where
  x : AV
  rt : List Nat
  rd : List Nat
def bau : Value -> Bool
  | .nilIface => true
  | .iface _ _ => true
  | _ => false
theorem auo {v : Value} (h : bau v = true) : bbr v := by
 cases v <;> first | exact .inl rfl | exact .inr ⟨_,_,rfl⟩ | cases h
def bbk : BinOp -> Bool
  | .and | .or | .xor | .andNot => true
  | _ => false
theorem a7j : ∀ {op : BinOp},bbk op = true -> (match op with | .and | .or | .xor | .andNot => true | _ => false) = true:=by intro op; cases op <;> intro h <;> first | rfl | cases h
def bey (op : BinOp) (x y : Operand) (k k' : IntKind) (a b : Int) : Option V1 := match op with
  | .add | .sub | .mul => match Nat.beq (ikn k) (ikn k') with
    | true => wI (k.wrap (adi op a b)) fun z => some ⟨.v (.int k z),aaj x ++ aaj y,[]⟩
    | false => none
  | .quo => match Nat.beq (ikn k) (ikn k') with
    | true => match b with
      | .ofNat 0 => none
      | b => wI (k.wrap (a.tdiv b)) fun z => some ⟨.v (.int k z),aaj x ++ aaj y,[]⟩
    | false => none
  | .rem => match Nat.beq (ikn k) (ikn k') with
    | true => match b with
      | .ofNat 0 => none
      | b => wI (a.tmod b) fun z => some ⟨.v (.int k z),aaj x ++ aaj y,[]⟩
    | false => none
  | .shl => match b with
    | .ofNat n => wI (k.wrap (a * 2 ^ (min n k.bits))) fun z => some ⟨.v (.int k z),aaj x ++ aaj y,[]⟩
    | .negSucc _ => none
  | .shr => match b with
    | .ofNat n => wI (a.fdiv (2 ^ (min n k.bits))) fun z => some ⟨.v (.int k z),aaj x ++ aaj y,[]⟩
    | .negSucc _ => none
  | .eql | .neq | .lss | .leq | .gtr | .geq => match Nat.beq (ikn k) (ikn k') with
    | true => match aab op a b with
      | true => some ⟨.v (.bool true),aaj x ++ aaj y,[]⟩
      | false => some ⟨.v (.bool false),aaj x ++ aaj y,[]⟩
    | false => none
  | op => match bbk op && Nat.beq (ikn k) (ikn k') with
    | true => wI (arp op k a b) fun z => some ⟨.v (.int k z),aaj x ++ aaj y,[]⟩
    | false => none
section
variable {s : AS} {R : Array Oper} {d : Nat} {t T : TypeId} {pos : String} {after : Array Edge}
theorem bcp {op : BinOp} {x y : Operand} {k k' : IntKind} {a b : Int} {S : TypeId} {r : V1} (hx : Ev s x (.v (.int k a))) (hy : Ev s y (.v (.int k' b))) (h : bey op x y k k' a b = some r) (hN : Nat.blt d N = true) :
  Step P N R s ⟨some d,.binOp op S x y T,t,pos,after,none⟩ ⟨some r.x,[],r.rt,r.rd⟩ := by
 have hc : ∀ (op : BinOp), a9h op = true -> (match Nat.beq (ikn k) (ikn k') with
  | true => match aab op a b with
   | true => some (⟨.v (.bool true),aaj x ++ aaj y,[]⟩ : V1)
   | false => some ⟨.v (.bool false),aaj x ++ aaj y,[]⟩
  | false => none) = some r -> Step P N R s ⟨some d,.binOp op S x y T,t,pos,after,none⟩ ⟨some r.x,[],r.rt,r.rd⟩ := by
  intro op hop h'
  split at h'
  ·rename_i hk
   cases ahj hk
   have := biy (P := P) (R := R) (op := op) (S := S) (T := T) (t := t) (pos := pos) (after := after) hx hy (by cases op <;> simp_all [a9h]) hN
   split at h'
   ·rename_i hb; cases h'; rw [hb] at this; exact this
   ·rename_i hb; cases h'; rw [hb] at this; exact this
  ·cases h'
 have ha : ∀ (op : BinOp), bk3 op = true -> (match Nat.beq (ikn k) (ikn k') with
  | true => wI (k.wrap (adi op a b)) fun z => some (⟨.v (.int k z),aaj x ++ aaj y,[]⟩ : V1)
  | false => none) = some r -> Step P N R s ⟨some d,.binOp op S x y T,t,pos,after,none⟩ ⟨some r.x,[],r.rt,r.rd⟩ := by
  intro op hop h'
  split at h'
  ·rename_i hk
   cases ahj hk
   rw [asn] at h'
   cases h'
   exact a3f hx hy (a3c hop) hN
  ·cases h'
 have hb : ∀ (op : BinOp), (match bbk op && Nat.beq (ikn k) (ikn k') with
  | true => wI (arp op k a b) fun z => some (⟨.v (.int k z),aaj x ++ aaj y,[]⟩ : V1)
  | false => none) = some r -> Step P N R s ⟨some d,.binOp op S x y T,t,pos,after,none⟩ ⟨some r.x,[],r.rt,r.rd⟩ := by
  intro op h'
  split at h'
  ·rename_i hk
   simp only [and_eq_true] at hk
   cases ahj hk.2
   rw [asn] at h'
   cases h'
   exact ba1 hx hy (a7j hk.1) hN
  ·cases h'
 cases op with
 | add => exact ha _ rfl h
 | sub => exact ha _ rfl h
 | mul => exact ha _ rfl h
 | quo =>
  simp only [bey] at h
  split at h
  ·rename_i hk
   cases ahj hk
   split at h
   ·cases h
   ·rename_i hb0
    rw [asn] at h; cases h
    exact bh7 hx hy (fun e => hb0 (by rw [e]; rfl)) hN
  ·cases h
 | rem =>
  simp only [bey] at h
  split at h
  ·rename_i hk
   cases ahj hk
   split at h
   ·cases h
   ·rename_i hb0
    rw [asn] at h; cases h
    exact bho hx hy (fun e => hb0 (by rw [e]; rfl)) hN
  ·cases h
 | shl =>
  simp only [bey] at h
  split at h
  ·rename_i n
   rw [asn] at h
   obtain rfl := Option.some.inj h
   have := bik (P := P) (R := R) (S := S) (T := T) (t := t) (pos := pos) (after := after) hx hy (Int.natCast_nonneg n) hN
   simp only [Int.ofNat_eq_natCast,Int.toNat_natCast] at this
   exact this
  ·cases h
 | shr =>
  simp only [bey] at h
  split at h
  ·rename_i n
   rw [asn] at h
   obtain rfl := Option.some.inj h
   have := bf1 (P := P) (R := R) (S := S) (T := T) (t := t) (pos := pos) (after := after) hx hy (Int.natCast_nonneg n) hN
   simp only [Int.ofNat_eq_natCast,Int.toNat_natCast] at this
   exact this
  ·cases h
 | eql => exact hc _ rfl h
 | neq => exact hc _ rfl h
 | lss => exact hc _ rfl h
 | leq => exact hc _ rfl h
 | gtr => exact hc _ rfl h
 | geq => exact hc _ rfl h
 | _ => exact hb _ h
end
def neB (op : BinOp) (b : Bool) : Bool := match op with
  | .eql => b
  | _ => !b
def bmp : AV -> Option Bool
  | .v (.slice none 0 0) => some true
  | .lst _ (_ :: _) => some false
  | .ms _ _ _ (_ + 1) => some false
  | _ => none
theorem a05 {S : TypeId} {w : World} {E : TypeId} (h3 : (underlying S).run P w = .ok (.slice E) w) {a : Option Addr} {n c : Nat} :
  (Op.equal S (.slice a n c) (.slice none 0 0)).run P w = .ok a.isNone w := by
 show (Op.equalIn (9999 + 1) S _ _).run P w = _
 rw [Op.equalIn]
 cases a <;> simp [h3]
theorem bcr {s : AS} {R : Array Oper} {d : Nat} {x : Operand} {xv : AV} {b : Bool} {op : BinOp} {S T t E : TypeId} {ti : TI} {pos : String} {after : Array Edge} (hop : op = .eql \/ op = .neq)
  (hx : Ev s x xv) (hv : bmp xv = some b) (hS : aae P S = some ti) (hk : ti.k = .slice E) (hN : Nat.blt d N = true) :
  Step P N R s ⟨some d,.binOp op S x (.const (.slice none 0 0)) T,t,pos,after,none⟩ ⟨some (.v (.bool (neB op b))),[],aaj x,[]⟩ :=
 aay rfl rfl hN fun s' hag C m a w hr => ⟨.bool (neB op b), by
  have h := (hx.agree hag (fun _ h => h)).rep hr
  obtain ⟨d2,h3,h4,-,-⟩ := abj hS w
  obtain rfl := ab8 (h4.trans hk)
  have h2 : a.eval (.const (.slice none 0 0)) = .slice none 0 0 := rfl
  obtain ⟨ad, n, c, he, hb⟩ : ∃ ad n c, a.eval x = .slice ad n c /\ ad.isNone = b := by
   generalize a.eval x = u at h
   unfold bmp at hv
   split at hv
   ·cases hv; cases h; exact ⟨_,_,_,rfl,rfl⟩
   ·cases hv
    cases h with
    | lst u hb hc hl hs h1 hu hr => exact ⟨_,_,_,rfl,rfl⟩
   ·cases hv
    cases h with
    | ms hm hc hS => exact ⟨_,_,_,rfl,rfl⟩
   ·cases hv
  have h5 := a05 (P := P) (a := ad) (n := n) (c := c) h3
  rcases hop with rfl | rfl <;> simp [execOp,he,h2,eqGuard,binOp,h5,hb,neB],.v _⟩
theorem a0p {s : AS} {R : Array Oper} {d : Nat} {x : Operand} {lo hi : Option Operand} {T E t : TypeId} {ti te : TI} {pos : String} {after : Array Edge}
  (hx : Ev s x (.v (.slice none 0 0))) (hl : EvI s lo 0 0) (hh : EvI s hi 0 0) (hT : aae P T = some ti) (hk : ti.k = .slice E) (hE : aae P E = some te) (hN : Nat.blt d N = true) :
  Step P N R s ⟨some d,.slice T x lo hi none,t,pos,after,none⟩ ⟨some (.v (.slice none 0 0)),[],aaj x ++ (rtO lo ++ rtO hi),[]⟩ :=
 aay rfl rfl hN fun s' hag C m a w hr => by
  have hxv := ake hr (hx.agree hag (fun _ h => List.mem_append.2 (.inl h)))
  have hl' := hl.agree hag (fun _ h => List.mem_append.2 (.inr (List.mem_append.2 (.inl h))))
  have hh' := hh.agree hag (fun _ h => List.mem_append.2 (.inr (List.mem_append.2 (.inr h))))
  obtain ⟨d2,hu,h3,-,-⟩ := abj hT w
  obtain rfl := ab8 (h3.trans hk)
  have := ac1 (P := P) hr (cap := 0) true hl' hh' (le_refl _) (le_refl _)
  exact ⟨.slice none 0 0,by simp [execOp,hxv,Instr.sliceAt,hu,Instr.slice,this,aa6 hE],.v _⟩
theorem a2u {s : AS} {R : Array Oper} {d : Nat} {x : Operand} {k1 k2 : IntKind} {sz : Nat} {es : List AV} {T E t : TypeId} {ti te : TI} {pos : String} {after : Array Edge}
  (hx : Ev s x (.lst sz es)) (hT : aae P T = some ti) (hk : ti.k = .slice E) (hE : aae P E = some te) (hsz : te.size = sz) (hN : Nat.blt d N = true) :
  Step P N R s ⟨some d,.slice T x none (some (.const (.int k1 0))) (some (.const (.int k2 0))),t,pos,after,none⟩ ⟨some (.ms d sz 0 0),[(d,some (.row sz []))],aaj x,[]⟩ := by
 refine ari rfl ?_
 intro s' hag hnew C m a w next hC hr hnext
 have hfr : s'.Fresh d := by
  rcases hnew d (by simp) with h | h
  ·cases h
  ·exact h
 have hxr := (hx.agree hag (fun _ h => h)).rep hr
 obtain ⟨d2,hu,h3,-,-⟩ := abj hT w
 obtain rfl := ab8 (h3.trans hk)
 obtain ⟨ad, n, c, he⟩ : ∃ ad n c, a.eval x = .slice ad n c := by
  generalize a.eval x = u at hxr
  cases hxr with
  | lst0 a cap => exact ⟨_,_,_,rfl⟩
  | lst u hb hc hl hs h1 hu hr => exact ⟨_,_,_,rfl⟩
 have e1 : a.eval (.const (.int k1 0)) = .int k1 0 := rfl
 have e2 : a.eval (.const (.int k2 0)) = .int k2 0 := rfl
 have hex : (execOp a.eval ⟨some d, .slice T x none (some (.const (.int k1 0))) (some (.const (.int k2 0))), t, pos, after, none⟩).run P w = .ok (.value (.slice ad 0 0)) w := by
  simp [execOp,he,e1,e2,Instr.sliceAt,hu,Instr.slice,Instr.sliceBounds,Instr.sliceBound,asIntOf,aa6 hE]
 rw [hex]
 rw [Nat.blt_eq] at hN
 simp only [Oper.upon,Act.put]
 obtain ⟨m2,h1⟩ : ∃ m2,RelM C ⟨s'.sl,(d,some (.row sz [])) :: s'.hp⟩ m2 a w := ⟨_,hr.virt sz hfr⟩
 refine hnext m2 _ _ ?_
 have := h1.put d (.slice ad 0 0) (some (.ms d sz 0 0)) (fun z hz => by
  cases hz
  exact ⟨by have := hr.nt; omega,.ms0 _ _ _ _⟩)
 simpa [AS.app] using this
variable [Inhabited (Tys P)]
def bni : BinOp -> Bool
  | .eql | .neq => true
  | _ => false
def bj2 : List UInt8 -> List UInt8 -> Bool
  | [], y => match y with
    | [] => true
    | _ => false
  | x :: l, y => match y with
    | x' :: l' => match Nat.beq x.toNat x'.toNat with
      | true => bj2 l l'
      | false => false
    | [] => false
theorem awg : ∀ {a b : List UInt8}, bj2 a b = (a == b)
 | [],[] => rfl
 | [],_ :: _ => rfl
 | _ :: _,[] => rfl
 | x :: l, x' :: l' => by
  show (match Nat.beq x.toNat x'.toNat with | true => bj2 l l' | false => false) = _
  cases h : Nat.beq x.toNat x'.toNat with
  | true =>
   have : x = x' := UInt8.toNat_inj.1 (eq_of_beq_eq_true h)
   subst this
   simp only [awg (a := l)]
   simp
  | false =>
   have : x ≠ x' := fun e => Nat.ne_of_beq_eq_false h (by rw [e])
   simp [this]
def bdi (a b : ByteArray) : Bool := bj2 a.data.toList b.data.toList
theorem a4j (a b : ByteArray) : (a.toList == b.toList) = bdi a b := by
 unfold bdi; rw [awg,ByteArray.toList_eq,ByteArray.toList_eq]
def bkw (P : Program) [Inhabited (Tys P)] (op : BinOp) (S : TypeId) (x y : Operand) (vx vy : Value) : Option V1 := match vx with
  | .int k a => match vy with
    | .int k' b => bey op x y k k' a b
    | _ => none
  | vx => match vy with
    | .nilIface => match y with
      | .const _ => match bau vx with
        | true => match ahv P S with
          | some ti => match ti.k with
            | .iface _ => match op with
              | .eql => some ⟨.v (.bool (ae5 vx)),aaj x ++ [],[]⟩
              | .neq => some ⟨.v (.bool !(ae5 vx)),aaj x ++ [],[]⟩
              | _ => none
            | _ => none
          | none => none
        | false => none
      | _ => none
    | .string b => match vx with
      | .string a => match op with
        | .eql => match bdi a b with
          | true => some ⟨.v (.bool true),aaj x ++ aaj y,[]⟩
          | false => some ⟨.v (.bool false),aaj x ++ aaj y,[]⟩
        | .neq => match bdi a b with
          | true => some ⟨.v (.bool false),aaj x ++ aaj y,[]⟩
          | false => some ⟨.v (.bool true),aaj x ++ aaj y,[]⟩
        | _ => none
      | _ => none
    | vy => match bes P op S x y [] vx vy with
      | some r => match r.ob with
        | [] => some ⟨r.x,r.rt,r.rd⟩
        | _ => none
      | none => none
def bdw (P : Program) [Inhabited (Tys P)] (T sz : Nat) : Bool := match ahv P T with
  | some ti => match ti.k with
    | .slice E => match ahv P E with
      | some te => Nat.beq te.size sz
      | none => false
    | _ => false
  | none => false
theorem aos {T sz : Nat} (h : bdw P T sz = true) : ∃ ti E te, aae P T = some ti /\ ti.k = .slice E /\ aae P E = some te /\ te.size = sz := by
 unfold bdw at h
 split at h
 ·rename_i ti hti
  split at h
  ·rename_i E hk
   split at h
   ·rename_i te hte
    exact ⟨ti,E,te,aav hti,hk,aav hte,eq_of_beq_eq_true h⟩
   ·cases h
  ·cases h
 ·cases h
def bdC (s : AS) (o : Option Operand) (d : Nat) : Option Nat := match o with
  | none => some d
  | some x => match rdC s x with
    | some (.v (.int _ (.ofNat n))) => some n
    | _ => none
theorem aqr {s : AS} {o : Option Operand} {d n : Nat} (h : bdC s o d = some n) : EvI s o d n := by
 cases o with
 | none => cases h; exact .none d
 | some x =>
  simp only [bdC] at h
  split at h
  ·rename_i hx
   cases h
   exact .some (i := Int.ofNat n) d (abf hx) (Int.natCast_nonneg _)
  ·cases h
def ldE (ti : TI) (l : List AV) : Option AV := match ti.ag with
  | true => match frc (l.take ti.size) with
    | some r => some (.agg r)
    | none => none
  | false => match Nat.beq ti.size 1 with
    | true => match l with
      | x :: _ => some x
      | [] => none
    | false => none
theorem bgs {ti : TI} {l : List AV} {x : AV} (h : ldE ti l = some x) : (ti.ag || Nat.beq ti.size 1) = true /\ x = mkT ti.ag (l.take ti.size) := by
 unfold ldE at h
 split at h
 ·rename_i ha
  split at h
  ·rename_i r hr; cases h; rw [ha,af8 hr]; exact ⟨rfl,rfl⟩
  ·cases h
 ·rename_i ha
  split at h
  ·rename_i h1
   split at h
   ·cases h; rw [ha,eq_of_beq_eq_true h1]; exact ⟨rfl,rfl⟩
   ·cases h
  ·cases h
def bna (P : Program) (op : BinOp) (S : TypeId) (x y : Operand) (a b c e : Int) : Option V1 := match op with
  | .eql => match bj3 P S with
    | true => match a == c && b == e with
      | true => some ⟨.v (.bool true),aaj x ++ aaj y,[]⟩
      | false => some ⟨.v (.bool false),aaj x ++ aaj y,[]⟩
    | false => none
  | _ => none
def opV (P : Program) [Inhabited (Tys P)] (s : AS) (op : Op) : Option V1 := match op with
  | .pick c x y => match rdC s c with
    | some (.v (.bool b)) => match b with
      | true => match rdC s x with
        | some (.v (.bool z)) => some ⟨.v (.bool z),aaj c ++ (aaj x ++ aaj y),[]⟩
        | _ => none
      | false => match rdC s y with
        | some (.v (.bool z)) => some ⟨.v (.bool z),aaj c ++ (aaj x ++ aaj y),[]⟩
        | _ => none
    | _ => none
  | .binOp op S x (.const (.slice none 0 0)) _ => match bni op with
    | true => match rdC s x with
      | some xv => match bmp xv with
        | some b => match ahv P S with
          | some ti => match ti.k with
            | .slice _ => match op with
              | .eql => some ⟨.v (.bool b),aaj x,[]⟩
              | _ => match b with
                | true => some ⟨.v (.bool false),aaj x,[]⟩
                | false => some ⟨.v (.bool true),aaj x,[]⟩
            | _ => none
          | none => none
        | none => none
      | none => none
    | false => none
  | .binOp op S x y _ => match rdC s x with
    | some (.v vx) => match rdC s y with
      | some (.v vy) => bkw P op S x y vx vy
      | _ => none
    | some (.agg [.v (.int .i64 a), .v (.int .i64 b)]) => match rdC s y with
      | some (.agg [.v (.int .i64 c),.v (.int .i64 e)]) => bna P op S x y a b c e
      | _ => none
    | _ => none
  | .unOp .neg _ x => match rdC s x with
    | some (.v (.int k n)) => wI (k.wrap (0 - n)) fun z => some ⟨.v (.int k z),aaj x,[]⟩
    | _ => none
  | .convert S T x => match rdC s x with
    | some (.v (.int _ n)) => match ahv P S with
      | some _ => match ahv P T with
        | some ti => match ti.k with
          | .int k' => wI (k'.wrap n) fun z => some ⟨.v (.int k' z),aaj x,[]⟩
          | _ => none
        | none => none
      | none => none
    | _ => none
  | .indexAddr T x ix => match rdC s ix with
    | some (.v (.int _ (.ofNat i))) => match rdC s x with
      | some (.lst sz es) => match bdw P T sz with
        | true => match es[i]? with
          | some e => some ⟨.iptr e.cells,aaj x ++ aaj ix,[]⟩
          | none => none
        | false => none
      | some (.ms k sz off len) => match bdw P T sz && Nat.blt i len with
        | true => wN (off + i) fun n => some ⟨.eptr k sz n 0,aaj x ++ aaj ix,[]⟩
        | false => none
      | _ => none
    | _ => none
  | .load T x => match rdC s x with
    | some (.eptr k sz i off) => match s.blk k with
      | some (.row sz' es) => match Nat.beq sz sz' with
        | true => match es[i]? with
          | some e => match ahv P T with
            | some ti => match Nat.ble (off + ti.size) e.cells.length with
              | true => match ldE ti (e.cells.drop off) with
                | some v => some ⟨v,aaj x,[k]⟩
                | none => none
              | false => none
            | none => none
          | none => none
        | false => none
      | _ => none
    | some y => match ahv P T with
      | some ti => match azn P s ti x [] y with
        | some r => some ⟨r.x,r.rt,r.rd⟩
        | none => none
      | none => none
    | none => none
  | .index T x ix => match rdC s ix with
    | some (.v (.int _ (.ofNat i))) => match rdC s x with
      | some (.v (.string b)) => match ahv P T with
        | some ti => match ti.k with
          | .string => match Nat.blt i b.size with
            | true => wN (b.data.getD i 0).toNat fun n => some ⟨.v (.int .u8 (Int.ofNat n)),aaj x ++ aaj ix,[]⟩
            | false => none
          | _ => none
        | none => none
      | _ => none
    | _ => none
  | .slice T x lo hi none => match rdC s x with
    | some (.lst sz es) => match bdC s lo 0 with
      | some l => match bdC s hi es.length with
        | some h => match bdw P T sz && Nat.ble l h && Nat.ble h es.length with
          | true => match frc ((es.drop l).take (h - l)) with
            | some r => some ⟨.lst sz r,aaj x ++ (rtO lo ++ rtO hi),[]⟩
            | none => none
          | false => none
        | none => none
      | none => none
    | some (.v (.slice none 0 0)) => match bdC s lo 0 with
      | some 0 => match bdC s hi 0 with
        | some 0 => match ahv P T with
          | some ti => match ti.k with
            | .slice E => match ahv P E with
              | some _ => some ⟨.v (.slice none 0 0),aaj x ++ (rtO lo ++ rtO hi),[]⟩
              | none => none
            | _ => none
          | none => none
        | _ => none
      | _ => none
    | some (.ms k sz off len) => match bdC s lo 0 with
      | some l => match bdC s hi len with
        | some h => match bdw P T sz && Nat.ble l h && Nat.ble h len with
          | true => wN (off + l) fun a => wN (h - l) fun b => some ⟨.ms k sz a b,aaj x ++ (rtO lo ++ rtO hi),[]⟩
          | false => none
        | none => none
      | none => none
    | _ => none
  | .call ⟨.builtin .len, args, ts⟩ => match args.toList with
    | [x] => match ts.toList with
      | [T] => match rdC s x with
        | some (.lst _ es) => match ahv P T with
          | some ti => match ti.k with
            | .slice _ => wN es.length fun n => some ⟨.v (.int .i64 (Int.ofNat n)),aaj x,[]⟩
            | _ => none
          | none => none
        | some y => match ben P x T [] y with
          | some r => some ⟨r.x,r.rt,r.rd⟩
          | none => none
        | none => none
      | _ => none
    | _ => none
  | .call ⟨.builtin .max, args, ts⟩ => match args.toList with
    | [x, y] => match rdC s x with
      | some (.v (.int .i64 a)) => match rdC s y with
        | some (.v (.int .i64 b)) => wI (if b > a then b else a) fun z => some ⟨.v (.int .i64 z),aaj x ++ aaj y,[]⟩
        | _ => none
      | _ => none
    | _ => none
  | op => match a2k P false True s op with
    | some r => match r.ob with
      | [] => some ⟨r.x,r.rt,r.rd⟩
      | _ => none
    | none => none
omit [Inhabited (Tys P)] in
theorem bfv {N d : Nat} {s : AS} {R : Array Oper} {x y : Operand} {a b : Int} {t : TypeId} {ts : Array TypeId} {pos : String} {after : Array Edge} (hx : Ev s x (.v (.int .i64 a))) (hy : Ev s y (.v (.int .i64 b))) (hN : Nat.blt d N = true) :
  Step P N R s ⟨some d,.call ⟨.builtin .max,#[x,y],ts⟩,t,pos,after,none⟩ ⟨some (.v (.int .i64 (if b > a then b else a))),[],aaj x ++ aaj y,[]⟩ :=
 aay rfl rfl hN fun s' hag C m ac w hr => ⟨.int .i64 (if b > a then b else a), by
  have h := (hx.agree hag (fun _ h => List.mem_append.2 (.inl h))).rep hr
  have h' := (hy.agree hag (fun _ h => List.mem_append.2 (.inr h))).rep hr
  generalize hu : ac.eval x = u at h
  generalize hv : ac.eval y = v at h'
  cases h; cases h'
  simp [execOp,resolve,hu,hv,invoke,builtin,Builtin.max_,Builtin.max2],.v _⟩
section
variable {s : AS} {R : Array Oper} {d : Nat} {t T : TypeId} {pos : String} {after : Array Edge}
theorem bdo {op : BinOp} {x y : Operand} {vx vy : Value} {S : TypeId} {r : V1} (hx : Ev s x (.v vx)) (hy : Ev s y (.v vy)) (h : bkw P op S x y vx vy = some r) (hN : Nat.blt d N = true) :
  Step P N R s ⟨some d,.binOp op S x y T,t,pos,after,none⟩ ⟨some r.x,[],r.rt,r.rd⟩ := by
 unfold bkw at h
 split at h
 ·split at h
  ·exact bcp hx hy h hN
  ·cases h
 ·split at h
  ·split at h
   ·rename_i c
    have hc : c = .nilIface:=by cases hy; rfl
    subst hc
    split at h
    ·rename_i he
     split at h
     ·rename_i ti hti
      split at h
      ·rename_i hk
       split at h
       ·cases h; exact a11 hx (auo he) (aav hti) hk hN
       ·cases h; exact a5o hx (auo he) (aav hti) hk hN
       ·cases h
      ·cases h
     ·cases h
    ·cases h
   ·cases h
  ·split at h
   ·split at h
    ·have h9 := axg (P := P) (R := R) (S := S) (T := T) (t := t) (pos := pos) (after := after) hx hy hN
     rw [a4j] at h9
     split at h
     ·rename_i hb; rw [hb] at h9; cases h; exact h9
     ·rename_i hb; rw [hb] at h9; cases h; exact h9
    ·have h9 := a6f (P := P) (R := R) (S := S) (T := T) (t := t) (pos := pos) (after := after) hx hy hN
     rw [a4j] at h9
     split at h
     ·rename_i hb; rw [hb] at h9; cases h; exact h9
     ·rename_i hb; rw [hb] at h9; cases h; exact h9
    ·cases h
   ·cases h
  ·split at h
   ·rename_i r' h1
    split at h
    ·rename_i ho; cases h; exact a50 hx hy h1 (by rw [ho]; exact .nil) hN
    ·cases h
   ·cases h
theorem a4r {op : Op} {r : V1} (h : opV P s op = some r) (hN : Nat.blt d N = true) : Step P N R s ⟨some d, op, t, pos, after, none⟩ ⟨some r.x, [], r.rt, r.rd⟩ := by
 unfold opV at h
 split at h
 ·split at h
  ·rename_i hc
   split at h
   ·split at h
    ·rename_i z hz; cases h
     exact a1f (bz := z) (abf hc) (fun _ => abf hz) (fun e => by cases e) hN
    ·cases h
   ·split at h
    ·rename_i z hz; cases h
     exact a1f (bx := z) (abf hc) (fun e => by cases e) (fun _ => abf hz) hN
    ·cases h
  ·cases h
 ·rename_i op S x T
  split at h
  ·rename_i hop
   have hop : op = .eql \/ op = .neq:=by cases op <;> first | exact .inl rfl | exact .inr rfl | cases hop
   split at h
   ·rename_i xv hx
    split at h
    ·rename_i b hv
     split at h
     ·rename_i ti hti
      split at h
      ·rename_i hk
       have h9 := bcr (P := P) (R := R) (T := T) (t := t) (pos := pos) (after := after) hop (abf hx) hv (aav hti) hk hN
       rcases hop with rfl | rfl
       ·cases h; exact h9
       ·cases b <;> (cases h; exact h9)
      ·cases h
     ·cases h
    ·cases h
   ·cases h
  ·cases h
 ·rename_i T hne
  split at h
  ·rename_i hx
   split at h
   ·rename_i hy; exact bdo (abf hx) (abf hy) h hN
   ·cases h
  ·rename_i hx
   split at h
   ·rename_i hy
    unfold bna at h
    split at h
    ·split at h
     ·rename_i he
      have h9 := bmt (P := P) (R := R) (T := T) (t := t) (pos := pos) (after := after) (abf hx) (abf hy) he hN
      split at h
      ·rename_i hb; rw [hb] at h9; cases h; exact h9
      ·rename_i hb; rw [hb] at h9; cases h; exact h9
     ·cases h
    ·cases h
   ·cases h
  ·cases h
 ·split at h
  ·rename_i hx; rw [asn] at h; cases h; exact a6m (abf hx) hN
  ·cases h
 ·split at h
  ·rename_i hx
   split at h
   ·rename_i hS
    split at h
    ·rename_i hT
     split at h
     ·rename_i hk; rw [asn] at h; cases h; exact bjg (abf hx) hN (aav hS) (aav hT) hk
     ·cases h
    ·cases h
   ·cases h
  ·cases h
 ·split at h
  ·rename_i i hi
   split at h
   ·rename_i hx
    split at h
    ·rename_i hs
     obtain ⟨ti,E,te,h1,h2,h3,h4⟩ := aos hs
     split at h
     ·rename_i e he; cases h
      exact ayr (i := Int.ofNat i) (abf hx) (abf hi) h1 h2 h3 h4 (Int.natCast_nonneg _) he hN
     ·cases h
    ·cases h
   ·rename_i hx
    split at h
    ·rename_i hs
     simp only [and_eq_true,Nat.blt_eq] at hs
     obtain ⟨ti,E,te,h1,h2,h3,h4⟩ := aos hs.1
     rw [avj] at h; cases h
     exact a2n (i := Int.ofNat i) (abf hx) (abf hi) h1 h2 h3 h4 (Int.natCast_nonneg _) (Int.ofNat_lt.2 hs.2) hN
    ·cases h
   ·cases h
  ·cases h
 ·split at h
  ·rename_i hx
   split at h
   ·rename_i hk
    split at h
    ·rename_i hs
     split at h
     ·rename_i e he
      split at h
      ·rename_i ti hT
       split at h
       ·rename_i hle
        split at h
        ·rename_i v hv
         cases h
         cases eq_of_beq_eq_true hs
         obtain ⟨h1,rfl⟩ := bgs hv
         exact aaa (abf hx) hk he (aav hT) hle h1 hN
        ·cases h
       ·cases h
      ·cases h
     ·cases h
    ·cases h
   ·cases h
  ·rename_i hx
   split at h
   ·rename_i ti hT
    split at h
    ·rename_i h1; cases h; exact ax9 (abf hx) (aav hT) h1 hN
    ·cases h
   ·cases h
  ·cases h
 ·split at h
  ·rename_i i hi
   split at h
   ·rename_i hx
    split at h
    ·rename_i ti hT
     split at h
     ·rename_i hk
      split at h
      ·rename_i hb
       rw [Nat.blt_eq] at hb
       rw [avj] at h; cases h
       exact ane (i := Int.ofNat i) (abf hx) (abf hi) (aav hT) hk (Int.natCast_nonneg _) (Int.ofNat_lt.2 hb) hN
      ·cases h
     ·cases h
    ·cases h
   ·cases h
  ·cases h
 ·split at h
  ·rename_i hx
   split at h
   ·rename_i l hl
    split at h
    ·rename_i hh hhi
     split at h
     ·rename_i hs
      simp only [and_eq_true,Nat.ble_eq] at hs
      obtain ⟨ti,E,te,h1,h2,h3,h4⟩ := aos hs.1.1
      split at h
      ·rename_i hr; cases h; cases af8 hr
       exact aan (abf hx) (aqr hl) (aqr hhi) h1 h2 h3 h4 hs.1.2 hs.2 hN
      ·cases h
     ·cases h
    ·cases h
   ·cases h
  ·rename_i hx
   split at h
   ·rename_i hl
    split at h
    ·rename_i hh
     split at h
     ·rename_i ti hT
      split at h
      ·rename_i E hk
       split at h
       ·rename_i te hE
        cases h
        exact a0p (abf hx) (aqr hl) (aqr hh) (aav hT) hk (aav hE) hN
       ·cases h
      ·cases h
     ·cases h
    ·cases h
   ·cases h
  ·rename_i hx
   split at h
   ·rename_i l hl
    split at h
    ·rename_i hh hhi
     split at h
     ·rename_i hs
      simp only [and_eq_true,Nat.ble_eq] at hs
      obtain ⟨ti,E,te,h1,h2,h3,h4⟩ := aos hs.1.1
      rw [avj,avj] at h; cases h
      exact aif (abf hx) (aqr hl) (aqr hhi) h1 h2 h3 h4 hs.1.2 hs.2 hN
     ·cases h
    ·cases h
   ·cases h
  ·cases h
 ·rename_i args ts
  split at h
  ·rename_i x hx
   split at h
   ·rename_i T hT
    have e1 : args = #[x]:=by apply Array.toList_inj.1; simpa using hx
    have e2 : ts = #[T]:=by apply Array.toList_inj.1; simpa using hT
    subst e1; subst e2
    split at h
    ·rename_i h1
     split at h
     ·rename_i ti hti
      split at h
      ·rename_i hk; rw [avj] at h; cases h; exact aet (abf h1) (aav hti) hk hN
      ·cases h
     ·cases h
    ·rename_i h1
     split at h
     ·rename_i h2; cases h; exact a4x (abf h1) h2 hN
     ·cases h
    ·cases h
   ·cases h
  ·cases h
 ·rename_i args ts
  split at h
  ·rename_i x y hx
   split at h
   ·rename_i h1
    split at h
    ·rename_i h2
     have e1 : args = #[x,y]:=by apply Array.toList_inj.1; simpa using hx
     subst e1
     rw [asn] at h; cases h; exact bfv (abf h1) (abf h2) hN
    ·cases h
   ·cases h
  ·cases h
 ·split at h
  ·rename_i h1
   split at h
   ·rename_i ho; cases h; exact ani h1 (by rw [ho]; exact .nil) trivial hN
   ·cases h
  ·cases h
end
end Go.Lw
namespace Go.Lw
variable {P : Program} {N : Nat}
def tr (a b k : Nat) : Nat := match Nat.beq k a with
  | true => b
  | false => match Nat.beq k b with
    | true => a
    | false => k
theorem blb (a b k : Nat) : tr a b k = if k = a then b else if k = b then a else k := by
 unfold tr
 split
 ·rename_i h; rw [if_pos (eq_of_beq_eq_true h)]
 ·rename_i h; rw [if_neg (Nat.ne_of_beq_eq_false h)]
  split
  ·rename_i h; rw [if_pos (eq_of_beq_eq_true h)]
  ·rename_i h; rw [if_neg (Nat.ne_of_beq_eq_false h)]
theorem a7f (a b k : Nat) : tr a b (tr a b k) = k := by
 simp only [blb]
 by_cases h1 : k = a
 ·subst h1
  by_cases h2 : b = k
  ·simp [h2]
  ·simp [h2]
 ·by_cases h2 : k = b
  ·subst h2; simp [h1]
  ·simp [h1,h2]
theorem a3v {σ : Nat -> Nat} (hσ : ∀ k, σ (σ k) = k) : ∀ H : Hp, pmH σ (pmH σ H) = H
 | [] => rfl
 | (k, x) :: l => by
  simp only [pmH,hσ,a3v hσ l]
  cases x with
  | none => rfl
  | some x => simp only [Blk.pm_pm hσ]
def tA : List (Nat × Nat) -> List AV -> List AV
  | [],xs => xs
  | p :: L,xs => tA L (xs.map (AV.pm (tr p.1 p.2)))
def tH : List (Nat × Nat) -> Hp -> Hp
  | [],H => H
  | p :: L,H => tH L (pmH (tr p.1 p.2) H)
def rB : List (Nat × Nat) -> AV -> AV
  | [],r => r
  | p :: L,r => (rB L r).pm (tr p.1 p.2)
def hB : List (Nat × Nat) -> Hp -> Hp
  | [],H => H
  | p :: L,H => pmH (tr p.1 p.2) (hB L H)
theorem bnc {f : FuncId} : ∀ {L : List (Nat × Nat)} {xs : List AV} {H H' : Hp} {r : AV}, Con P f (tA L xs) (tH L H) r H' -> Con P f xs H (rB L r) (hB L H')
 | [],xs,H,H',r,h => h
 | p :: L, xs, H, H', r, h => by
  have h1 := (bnc (L := L) h).pm (a7f p.1 p.2)
  rw [a3v (a7f p.1 p.2),map_map] at h1
  have e : (AV.pm (tr p.1 p.2) ∘ AV.pm (tr p.1 p.2)) = id:=by funext x; exact AV.pm_pm (a7f p.1 p.2) x
  rw [e,List.map_id] at h1
  exact h1
def bm2 : Nat -> List Nat -> List (Nat × Nat)
  | _,[] => []
  | b,k :: ks => (k,b) :: bm2 (b + 1) ks
def azr (k : Nat) : List Nat -> Bool
  | [] => false
  | x :: l => match Nat.beq k x with
    | true => true
    | false => azr k l
def a0i (s : AS) : Nat -> List Nat -> List Nat -> List Nat
  | 0,_,acc => acc
  | n + 1, ks, acc => match ks with
    | [] => acc
    | k :: ks => match azr k acc with
      | true => a0i s n ks acc
      | false => match s.blk k with
        | some z => a0i s n (z.nm ++ ks) (acc ++ [k])
        | none => a0i s n ks acc
def pkH (s : AS) : List Nat -> Hp
  | [] => []
  | k :: ks => match s.blk k with
    | some z => (k,some z) :: pkH s ks
    | none => pkH s ks
theorem asw {s : AS} : ∀ {ks : List Nat} {k : Nat} {z : Blk}, lk (pkH s ks) k = some z -> lk s.hp k = some z
 | [],k,z,h => by cases h
 | k' :: ks, k, z, h => by
  unfold pkH at h
  split at h
  ·rename_i y hy
   rw [aad] at h
   split at h
   ·rename_i e; cases h; rw [e]; exact hy
   ·exact asw h
  ·exact asw h
structure Ent (P : Program) where
  f : FuncId
  xs : List AV
  r : AV
  H' : Hp
  con : Con P f xs [] r H'
structure FE (P : Program) where
  f : FuncId
  fn : Func
  c : Code
  rs : List ResultVar
  hf : P.funcs[f]? = some fn
  hb : fn.body = some c
  hn : (fn.name == "runtime.NumGoroutine") = false
  hrs : fn.results = rs.toArray
structure Env (P : Program) where
  orc : FuncId -> Option (List AV -> Option (Ent P))
  fe : FuncId -> Option (FE P)
  mt : FuncId -> Bool
def vEq : Value -> Value -> Bool
  | .int k a,.int k' b => Nat.beq (ikn k) (ikn k') && aab .eql a b
  | .bool a,.bool b => a == b
  | .nilIface,.nilIface => true
  | .string a,.string b => bdi a b
  | .slice none 0 0,.slice none 0 0 => true
  | .func (.func f) ⟨[]⟩ ⟨[]⟩,.func (.func g) ⟨[]⟩ ⟨[]⟩ => Nat.beq f g
  | .nilFunc,.nilFunc => true
  | .pointer none,.pointer none => true
  | .iface T v,.iface T' v' => Nat.beq T T' && vEq v v'
  | _,_ => false
theorem bbh {a b : ByteArray} (h : bdi a b = true) : a = b := by
 unfold bdi at h
 rw [awg] at h
 have h := eq_of_beq h
 have e : ∀ c : ByteArray,c = ⟨⟨c.data.toList⟩⟩ := fun c => by cases c; rfl
 rw [e a,e b,h]
theorem aw4 : ∀ (a b : Value), vEq a b = true -> a = b
 | .iface T v, b, h => by
  cases b with
  | iface T' v' =>
   simp only [vEq,and_eq_true] at h
   rw [eq_of_beq_eq_true h.1,aw4 v v' h.2]
  | _ => simp [vEq] at h
 | .int k a, b, h => by
  cases b with
  | int k' b =>
   simp only [vEq,and_eq_true] at h
   rw [ahj h.1,eq_of_beq (show (a == b) = true from h.2)]
  | _ => simp [vEq] at h
 | .bool a, b, h => by
  cases b with
  | bool b => simp only [vEq,beq_iff_eq] at h; rw [h]
  | _ => simp [vEq] at h
 | .string a, b, h => by
  cases b with
  | string b => simp only [vEq] at h; rw [bbh h]
  | _ => simp [vEq] at h
 | .nilIface, b, h => by
  cases b <;> simp [vEq] at h
  rfl
 | .slice x n c, b, h => by
  unfold vEq at h
  split at h <;> simp_all
 | .float ..,b,h => by simp [vEq] at h
 | .complex ..,b,h => by simp [vEq] at h
 | .pointer p, b, h => by
  unfold vEq at h
  split at h <;> simp_all
 | .map _,b,h => by simp [vEq] at h
 | .chan _,b,h => by simp [vEq] at h
 | .func f x y, b, h => by
  unfold vEq at h
  split at h <;> first | (simp_all; done) | (simp_all; exact eq_of_beq_eq_true h)
 | .nilFunc, b, h => by
  unfold vEq at h
  split at h <;> simp_all
 | .agg _,b,h => by simp [vEq] at h
 | .tuple _,b,h => by simp [vEq] at h
mutual
def amu : AV -> AV -> Bool
  | .v a, y => match y with
    | .v b => vEq a b
    | .lst _ es => match es with
      | [] => match a with
        | .slice _ 0 _ => true
        | _ => false
      | _ => false
    | _ => false
  | .lst sz es, y => match y with
    | .lst sz' es' => Nat.beq sz sz' && au5 es es'
    | _ => false
  | .agg cs, y => match y with
    | .agg cs' => av9 cs cs'
    | _ => false
  | .tup cs, y => match y with
    | .tup cs' => a0s cs cs'
    | _ => false
  | _,_ => false
def av9 : List AV -> List AV -> Bool
  | [], y => match y with
    | [] => true
    | _ => false
  | x :: l, y => match y with
    | x' :: l' => x'.one && amu x x' && av9 l l'
    | [] => false
def a0s : List AV -> List AV -> Bool
  | [], y => match y with
    | [] => true
    | _ => false
  | x :: l, y => match y with
    | x' :: l' => amu x x' && a0s l l'
    | [] => false
def au5 : List AV -> List AV -> Bool
  | [], y => match y with
    | [] => true
    | _ => false
  | x :: l, y => match y with
    | x' :: l' => asf x x' && au5 l l'
    | [] => false
def asf : AV -> AV -> Bool
  | .agg cs, y => match y with
    | .agg cs' => av9 cs cs'
    | _ => false
  | .v a, y => match y with
    | .v b => vEq a b && b.oneCell'
    | .lst _ es => match es with
      | [] => match a with
        | .slice _ 0 _ => true
        | _ => false
      | _ => false
    | _ => false
  | .lst sz es, y => match y with
    | .lst sz' es' => Nat.beq sz sz' && au5 es es'
    | _ => false
  | _,_ => false
end
theorem bgk {a : Value} {y : AV} (h : amu (.v a) y = true) : Sub (.v a) y := by
 cases y with
 | v b => simp only [amu] at h; rw [aw4 _ _ h]; exact .refl _
 | lst sz es =>
  cases es with
  | nil =>
   cases a with
   | slice x n c =>
    cases n with
    | zero => exact .nil _ _ _
    | succ n => simp [amu] at h
   | _ => simp [amu] at h
  | cons e es => simp [amu] at h
 | _ => simp [amu] at h
mutual
theorem avx : ∀ (x y : AV), amu x y = true -> Sub x y
 | .v a,y,h => bgk h
 | .lst sz es, y, h => by
  cases y with
  | lst sz' es' =>
   simp only [amu,and_eq_true] at h
   cases eq_of_beq_eq_true h.1
   exact Sub.lst (aku es es' h.2).1 (aku es es' h.2).2
  | _ => simp [amu] at h
 | .agg cs, y, h => by
  cases y with
  | agg cs' =>
   simp only [amu] at h
   exact Sub.agg (ang cs cs' h).1 (ang cs cs' h).2
  | _ => simp [amu] at h
 | .tup cs, y, h => by
  cases y with
  | tup cs' =>
   simp only [amu] at h
   exact Sub.tup (aw9 cs cs' h)
  | _ => simp [amu] at h
 | .iptr _,y,h => by simp [amu] at h
 | .ms ..,y,h => by simp [amu] at h
 | .ptr ..,y,h => by simp [amu] at h
 | .eptr ..,y,h => by simp [amu] at h
 | .fn ..,y,h => by simp [amu] at h
 | .opt ..,y,h => by simp [amu] at h
 | .yl ..,y,h => by simp [amu] at h
 | .cl ..,y,h => by simp [amu] at h
theorem ang : ∀ (l l' : List AV), av9 l l' = true -> SubL l l' /\ l'.all AV.one = true
 | [],[],h => ⟨.nil,rfl⟩
 | [],_ :: _,h => by simp [av9] at h
 | _ :: _,[],h => by simp [av9] at h
 | x :: l, x' :: l', h => by
  simp only [av9,and_eq_true] at h
  obtain ⟨h1,h2⟩ := ang l l' h.2
  exact ⟨.cons (avx x x' h.1.2) h1,by simp only [List.all_cons,h.1.1,h2,Bool.and_self]⟩
theorem aw9 : ∀ (l l' : List AV), a0s l l' = true -> SubL l l'
 | [],[],h => .nil
 | [],_ :: _,h => by simp [a0s] at h
 | _ :: _,[],h => by simp [a0s] at h
 | x :: l, x' :: l', h => by
  simp only [a0s,and_eq_true] at h
  exact .cons (avx x x' h.1) (aw9 l l' h.2)
theorem aku : ∀ (l l' : List AV), au5 l l' = true -> l.length = l'.length /\ ∀ (i : Nat) (e e' : AV), l[i]? = some e -> l'[i]? = some e' -> adz e e'
 | [],[],h => ⟨rfl,fun i e e' h => by simp at h⟩
 | [],_ :: _,h => by simp [au5] at h
 | _ :: _,[],h => by simp [au5] at h
 | x :: l, x' :: l', h => by
  simp only [au5,and_eq_true] at h
  obtain ⟨h1,h2⟩ := aku l l' h.2
  refine ⟨by simp [h1],?_⟩
  intro i e e' he he'
  cases i with
  | zero => simp at he he'; subst he; subst he'; exact bc1 x x' h.1
  | succ i => exact h2 i e e' (by simpa using he) (by simpa using he')
theorem bc1 : ∀ (x y : AV), asf x y = true -> adz x y
 | .v a, y, h => by
  have one : ∀ {z : AV}, z.cells = [z] -> z.one = true -> Sub (.v a) z -> adz (.v a) z := by
   intro z h1 h2 h3
   refine ⟨by rw [h1]; rfl,?_⟩
   intro j x y hx hy
   rw [h1] at hy
   cases j with
   | zero => simp [AV.cells] at hx hy; subst hx; subst hy; exact ⟨h2,h3⟩
   | succ j => simp at hy
  cases y with
  | v b =>
   simp only [asf,and_eq_true] at h
   exact one rfl h.2 (by rw [aw4 _ _ h.1]; exact .refl _)
  | lst sz es =>
   refine one rfl rfl (bgk ?_)
   cases es with
   | nil => unfold asf at h; unfold amu; exact h
   | cons => simp [asf] at h
  | _ => simp [asf] at h
 | .lst sz es, y, h => by
  cases y with
  | lst sz' es' =>
   simp only [asf,and_eq_true] at h
   cases eq_of_beq_eq_true h.1
   refine ⟨rfl,?_⟩
   intro j x y hx hy
   cases j with
   | zero =>
    simp [AV.cells] at hx hy; subst hx; subst hy
    exact ⟨rfl,Sub.lst (aku es es' h.2).1 (aku es es' h.2).2⟩
   | succ j => simp [AV.cells] at hy
  | _ => simp [asf] at h
 | .agg cs, y, h => by
  cases y with
  | agg cs' =>
   simp only [asf] at h
   obtain ⟨h1,h2⟩ := ang cs cs' h
   exact ⟨h1.len,fun j x y hx hy => ⟨List.all_eq_true.1 h2 y (mem_of_getElem? hy),h1.get j x y hx hy⟩⟩
  | _ => simp [asf] at h
 | .tup ..,y,h => by simp [asf] at h
 | .iptr _,y,h => by simp [asf] at h
 | .ms ..,y,h => by simp [asf] at h
 | .ptr ..,y,h => by simp [asf] at h
 | .eptr ..,y,h => by simp [asf] at h
 | .fn ..,y,h => by simp [asf] at h
 | .opt ..,y,h => by simp [asf] at h
 | .yl ..,y,h => by simp [asf] at h
 | .cl ..,y,h => by simp [asf] at h
end
end Go.Lw
namespace Go.Lw
variable {P : Program} {N : Nat}
inductive OR where
  | ok (u : Out)
  | need (k : Nat)
  | no
inductive CR where
  | ok (H : Hp) (r : AV) (H' : Hp)
  | need (k : Nat)
  | no
def awq : List AV -> List AV -> Bool
  | [], y => match y with
    | [] => true
    | _ => false
  | x :: l, y => match y with
    | x' :: l' => amu x x' && awq l l'
    | [] => false
theorem aw5 : ∀ {l l' : List AV}, awq l l' = true -> SubL l l'
 | [],[],h => .nil
 | [],_ :: _,h => by simp [awq] at h
 | _ :: _,[],h => by simp [awq] at h
 | x :: l, x' :: l', h => by
  simp only [awq,and_eq_true] at h
  exact .cons (avx x x' h.1) (aw5 h.2)
def mx : Nat -> List Nat -> Nat
  | m,[] => m
  | m, k :: l => match Nat.blt m k && Nat.blt k 1000 with
    | true => mx k l
    | false => mx m l
def bcl (s : AS) : Nat -> Nat -> Nat
  | 0,k => k
  | n + 1, k => match s.freshB k with
    | true => k
    | false => bcl s n (k + 1)
def nxt (s : AS) (av : List Nat) : Nat := bcl s 100 (mx (mx 299 (s.hp.map (·.1))) av + 1)
mutual
theorem AV.pm_id (σ : Nat -> Nat) : ∀ x : AV, x.nm = [] -> x.pm σ = x
 | .ms k sz off len,h => by simp [AV.nm] at h
 | .ptr k off,h => by simp [AV.nm] at h
 | .eptr k sz i off,h => by simp [AV.nm] at h
 | .yl k,h => by simp [AV.nm] at h
 | .agg cs,h => by simp only [AV.pm]; rw [AV.pms_id σ cs (by simpa only [AV.nm] using h)]
 | .tup cs,h => by simp only [AV.pm]; rw [AV.pms_id σ cs (by simpa only [AV.nm] using h)]
 | .fn f cs,h => by simp only [AV.pm]; rw [AV.pms_id σ cs (by simpa only [AV.nm] using h)]
 | .opt b x,h => by simp only [AV.pm]; rw [AV.pm_id σ x (by simpa only [AV.nm] using h)]
 | .v x,h => rfl
 | .lst sz l,h => rfl
 | .iptr l,h => rfl
 | .cl f cs ds,h => rfl
theorem AV.pms_id (σ : Nat -> Nat) : ∀ l : List AV, AV.nms l = [] -> AV.pms σ l = l
 | [],h => rfl
 | x :: l, h => by
  simp only [AV.nms,List.append_eq_nil_iff] at h
  simp only [AV.pms]; rw [AV.pm_id σ x h.1,AV.pms_id σ l h.2]
end
theorem beb {f : FuncId} {xs : List AV} {r : AV} {H' : Hp} (h : Con P f xs [] r H') (hx : AV.nms xs = []) (k d : Nat) : Con P f xs [] (r.pm (tr k d)) (pmH (tr k d) H') := by
 have h1 := h.pm (a7f k d)
 rw [<- AV.pms_eq,AV.pms_id _ xs hx] at h1
 exact h1
abbrev ag7 := List Nat -> FuncId -> List AV -> Hp -> Option (AV × Hp)
def ag7.Ok (P : Program) (F : ag7) : Prop := ∀ av f xs H r H',F av f xs H = some (r,H') -> Con P f xs H r H'
def bm7 (s : AS) : List Nat -> Option Nat
  | [] => none
  | k :: ks => match s.blk k with
    | some (.row _ _) => some k
    | _ => bm7 s ks
def a7g (F : ag7) (s : AS) (av : List Nat) (f : FuncId) (xs : List AV) : CR :=
  match pkH s (a0i s 300 (AV.nms xs) []) with
  | H => match F (s.hp.map (·.1) ++ av) f xs H with
    | some (r,H') => .ok H r H'
    | none => .no
def a1p (E : Env P) (F : ag7) (s : AS) (av : List Nat) (f : FuncId) (xs : List AV) : CR := match E.mt f with
  | true => a7g F s av f xs
  | false => match bm7 s (AV.nms xs) with
    | some k => .need k
    | none => a7g F s av f xs
def avo (E : Env P) (F : ag7) (s : AS) (av : List Nat) (f : FuncId) (xs : List AV) : CR := match E.orc f with
  | some g => match AV.nms xs with
    | k :: _ => .need k
    | [] => match g xs with
      | some e => match Nat.beq e.f f && awq xs e.xs with
        | true => match e.H' with
          | (k,some z) :: l => .ok [] (e.r.pm (tr k (nxt s av))) (pmH (tr k (nxt s av)) e.H')
          | _ => .ok [] e.r e.H'
        | false => a1p E F s av f xs
      | none => a1p E F s av f xs
  | none => a1p E F s av f xs
theorem azb {F : ag7} (hF : F.Ok P) {s : AS} {av : List Nat} {f : FuncId} {xs : List AV} {H H' : Hp} {r : AV} (h : a7g F s av f xs = .ok H r H') : Con P f xs H r H' /\ ∀ k z, lk H k = some z -> s.blk k = some z := by
 unfold a7g at h
 simp only at h
 split at h
 ·rename_i h1; cases h; exact ⟨hF _ _ _ _ _ _ h1,fun k z hz => asw hz⟩
 ·cases h
theorem asl {E : Env P} {F : ag7} (hF : F.Ok P) {s : AS} {av : List Nat} {f : FuncId} {xs : List AV} {H H' : Hp} {r : AV} (h : a1p E F s av f xs = .ok H r H') : Con P f xs H r H' /\ ∀ k z, lk H k = some z -> s.blk k = some z := by
 unfold a1p at h
 split at h
 ·exact azb hF h
 ·split at h
  ·cases h
  ·exact azb hF h
theorem ak8 {E : Env P} {F : ag7} (hF : F.Ok P) {s : AS} {av : List Nat} {f : FuncId} {xs : List AV} {H H' : Hp} {r : AV} (h : avo E F s av f xs = .ok H r H') : Con P f xs H r H' /\ ∀ k z, lk H k = some z -> s.blk k = some z := by
 unfold avo at h
 split at h
 ·split at h
  ·cases h
  ·rename_i hn
   split at h
   ·rename_i e he
    split at h
    ·rename_i hc
     simp only [and_eq_true] at hc
     have hf := eq_of_beq_eq_true hc.1
     subst hf
     have h9 := Con.subA (aw5 hc.2) e.con
     split at h
     ·rename_i k z l _
      obtain ⟨rfl,rfl,rfl⟩ := CR.ok.inj h
      exact ⟨beb h9 hn _ _,fun k z hz => by cases hz⟩
     ·obtain ⟨rfl, rfl, rfl⟩ := CR.ok.inj h
      exact ⟨h9,fun k z hz => by cases hz⟩
    ·exact asl hF h
   ·exact asl hF h
 ·exact asl hF h
theorem a56 {s : AS} {R : Array Oper} {d q sz cap0 : Nat} {a0 : Option Addr} {xs : List AV} {x y : Operand} {T E t : TypeId} {ti te : TI} {pos : String} {after : Array Edge}
  (hx : Ev s x (.v (.slice a0 0 0))) (hy : Ev s y (.lst sz xs)) (hT : aae P T = some ti) (hkd : ti.k = .slice E) (hE : aae P E = some te)
  (hsz : te.size = sz) (hz0 : (Nat.beq te.zero.length te.size && Nat.blt 0 te.size && Nat.blt 0 te.bytes) = true) (hb : (0 + xs.length) * te.bytes <= 140737488355328) (hdk : Nat.beq d q = false)
  (hN : Nat.blt d N = true) :
  Step P N R s ⟨some d, .call ⟨.builtin .append, #[x, y], #[T, T]⟩, t, pos, after, none⟩
   ⟨some (.ms d sz 0 (0 + xs.length)),[(d,some (.row sz ([] ++ xs))),(q,none)],aaj x ++ aaj y,[]⟩ := by
 refine ⟨fun s' hag hnew C m a w Q next hC hr hnext => ?_⟩
 have hq : s'.Fresh q := by
  rcases hnew q (by simp) with h | h
  ·cases h
  ·exact h
 have hd : s'.Fresh d := by
  rcases hnew d (by simp) with h | h
  ·cases h
  ·exact h
 have hdq := Nat.ne_of_beq_eq_false hdk
 have hx' := hx.agree hag (fun _ h => List.mem_append.2 (.inl h))
 have hy' := hy.agree hag (fun _ h => List.mem_append.2 (.inr h))
 let s2 : AS := ⟨s'.sl,(q,some (.row sz [])) :: s'.hp⟩
 have evs : ∀ {o : Operand} {z : AV}, Ev s' o z -> Ev s2 o z := fun h => by
  cases h with
  | tmp h => exact .tmp h
  | opt h hb => exact .opt h hb
  | const c => exact .const c
  | func f => exact .func f
 have st := ate (P := P) (N := N) (R := R) (s := s2) (d := d) (k := q) (t := t) (pos := pos) (after := after) (es := []) (evs hx') (fun g S m v h => Sub.nilMs a0 q sz g S m v h) (by simp [s2,AS.blk,aad]) rfl (evs hy') hT hkd hE hsz hz0 hb hdk hN
 refine st.run s2 ⟨fun _ _ => rfl,fun _ _ => rfl⟩ ?_ C _ a w Q next hC (hr.virt sz hq) (fun m' a' w' hr' => hnext m' a' w' ?_)
 ·intro k hk
  simp only [map_cons,List.map_nil,mem_cons,not_mem_nil,or_false] at hk
  rcases hk with rfl | rfl
  ·exact .inr (Fresh.row hd hdq (fun h => h))
  ·exact .inl (by simp)
 ·refine RelM.congr ?_ ?_ hr'
  ·intro t; rfl
  ·intro k
   simp only [AS.app,AS.blk,s2,List.cons_append,nil_append,aad]
   split
   ·rfl
   ·split <;> rfl
mutual
def axf : AV -> AV -> Bool
  | .v a, y => match y with
    | .v b => vEq a b
    | _ => false
  | .lst sz es, y => match y with
    | .lst sz' es' => Nat.beq sz sz' && amz es es'
    | _ => false
  | .agg cs, y => match y with
    | .agg cs' => amz cs cs'
    | _ => false
  | .tup cs, y => match y with
    | .tup cs' => amz cs cs'
    | _ => false
  | .iptr cs, y => match y with
    | .iptr cs' => amz cs cs'
    | _ => false
  | .ms k sz off len, y => match y with
    | .ms k' sz' off' len' => Nat.beq k k' && (Nat.beq sz sz' && (Nat.beq off off' && Nat.beq len len'))
    | _ => false
  | .ptr k off, y => match y with
    | .ptr k' off' => Nat.beq k k' && Nat.beq off off'
    | _ => false
  | .eptr k sz i off, y => match y with
    | .eptr k' sz' i' off' => Nat.beq k k' && (Nat.beq sz sz' && (Nat.beq i i' && Nat.beq off off'))
    | _ => false
  | .fn f cs, y => match y with
    | .fn f' cs' => Nat.beq f f' && amz cs cs'
    | _ => false
  | .opt _ _,_ => false
  | .yl _,_ => false
  | .cl _ _ _,_ => false
def amz : List AV -> List AV -> Bool
  | [], y => match y with
    | [] => true
    | _ => false
  | x :: l, y => match y with
    | x' :: l' => axf x x' && amz l l'
    | [] => false
end
mutual
theorem bbg : ∀ (x y : AV), axf x y = true -> x = y
 | .v a,y,h => by cases y <;> simp [axf] at h; rw [aw4 _ _ h]
 | .lst sz es, y, h => by
  cases y <;> simp only [axf,and_eq_true,Bool.false_eq_true] at h
  rw [eq_of_beq_eq_true h.1,af2 _ _ h.2]
 | .agg cs,y,h => by cases y <;> simp only [axf,Bool.false_eq_true] at h; rw [af2 _ _ h]
 | .tup cs,y,h => by cases y <;> simp only [axf,Bool.false_eq_true] at h; rw [af2 _ _ h]
 | .iptr cs,y,h => by cases y <;> simp only [axf,Bool.false_eq_true] at h; rw [af2 _ _ h]
 | .ms k sz off len, y, h => by
  cases y <;> simp only [axf,and_eq_true,Bool.false_eq_true] at h
  rw [eq_of_beq_eq_true h.1,eq_of_beq_eq_true h.2.1,eq_of_beq_eq_true h.2.2.1,eq_of_beq_eq_true h.2.2.2]
 | .ptr k off, y, h => by
  cases y <;> simp only [axf,and_eq_true,Bool.false_eq_true] at h
  rw [eq_of_beq_eq_true h.1,eq_of_beq_eq_true h.2]
 | .eptr k sz i off, y, h => by
  cases y <;> simp only [axf,and_eq_true,Bool.false_eq_true] at h
  rw [eq_of_beq_eq_true h.1,eq_of_beq_eq_true h.2.1,eq_of_beq_eq_true h.2.2.1,eq_of_beq_eq_true h.2.2.2]
 | .fn f cs, y, h => by
  cases y <;> simp only [axf,and_eq_true,Bool.false_eq_true] at h
  rw [eq_of_beq_eq_true h.1,af2 _ _ h.2]
 | .opt ..,y,h => by simp [axf] at h
 | .yl ..,y,h => by simp [axf] at h
 | .cl ..,y,h => by simp [axf] at h
theorem af2 : ∀ (l l' : List AV), amz l l' = true -> l = l'
 | [],[],h => rfl
 | [],_ :: _,h => by simp [amz] at h
 | _ :: _,[],h => by simp [amz] at h
 | x :: l, x' :: l', h => by
  simp only [amz,and_eq_true] at h
  rw [bbg x x' h.1,af2 l l' h.2]
end
def bec : Blk -> Blk -> Bool
  | .box cs,.box cs' => amz cs cs'
  | .row sz es,.row sz' es' => Nat.beq sz sz' && amz es es'
  | _,_ => false
theorem a6r {x y : Blk} (h : bec x y = true) : x = y := by
 cases x <;> cases y <;> simp only [bec,Bool.false_eq_true] at h
 ·rw [af2 _ _ h]
 ·simp only [and_eq_true] at h
  rw [eq_of_beq_eq_true h.1,af2 _ _ h.2]
theorem ahf {k : Nat} : ∀ {l : List Nat}, azr k l = true ↔ k ∈ l
 | [] => by simp [azr]
 | x :: l => by
  unfold azr
  split
  ·rename_i h; simp [eq_of_beq_eq_true h]
  ·rename_i h; rw [ahf (l := l)]; simp [Nat.ne_of_beq_eq_false h]
def chg (H : Hp) : List Nat -> Hp -> Hp
  | _,[] => []
  | seen, (k, x) :: l => match azr k seen with
    | true => chg H seen l
    | false => match x with
      | some z => match lk H k with
        | some y => match bec y z with
          | true => chg H (k :: seen) l
          | false => (k,some z) :: chg H (k :: seen) l
        | none => (k,some z) :: chg H (k :: seen) l
      | none => (k,none) :: chg H (k :: seen) l
theorem a5s {H R : Hp} (hR : ∀ t y, lk H t = some y -> lk R t = some y) : ∀ {l : Hp} {seen : List Nat} {t : Nat}, t ∉ seen -> lk (chg H seen l ++ R) t = if t ∈ l.map (·.1) then lk l t else lk R t
 | [],seen,t,h => by simp [chg]
 | (k, x) :: l, seen, t, h => by
  have rest : t ≠ k -> lk (chg H (k :: seen) l ++ R) t = if t ∈ ((k, x) :: l).map (·.1) then lk ((k, x) :: l) t else lk R t := by
   intro hne
   rw [a5s hR (fun hh => by rcases List.mem_cons.1 hh with e | e; exact hne e; exact h e)]
   simp only [map_cons,mem_cons,hne,false_or]
   rw [aad,if_neg hne]
  have head : lk ((k, x) :: (chg H (k :: seen) l ++ R)) t = if t ∈ ((k, x) :: l).map (·.1) then lk ((k, x) :: l) t else lk R t := by
   rw [aad]
   by_cases e : t = k
   ·rw [if_pos e,aad,if_pos e]; simp [e]
   ·rw [if_neg e,rest e]
  unfold chg
  split
  ·rename_i hm
   have hne : t ≠ k := fun e => h (by rw [e]; exact ahf.1 hm)
   rw [a5s hR h]
   simp only [map_cons,mem_cons,hne,false_or]
   rw [aad,if_neg hne]
  ·split
   ·rename_i z
    split
    ·rename_i y hy
     split
     ·rename_i he
      by_cases e : t = k
      ·rw [chg_none (by rw [e]; exact mem_cons_self ..), e, hR k y hy, a6r he]
       simp [aad]
      ·exact rest e
     ·exact head
    ·exact head
   ·exact head
where
 chg_none {H R : Hp} : ∀ {l : Hp} {seen : List Nat} {t : Nat}, t ∈ seen -> lk (chg H seen l ++ R) t = lk R t
  | [],seen,t,h => rfl
  | (k, x) :: l, seen, t, h => by
   unfold chg
   split
   ·exact chg_none h
   ·rename_i hm
    have hne : t ≠ k := fun e => by rw [e] at h; rw [ahf.2 h] at hm; cases hm
    have ih := chg_none (H := H) (R := R) (l := l) (mem_cons_of_mem k h)
    split
    ·split
     ·split
      ·exact ih
      ·show lk (_ :: (_ ++ R)) t = _
       rw [aad,if_neg hne]; exact ih
     ·show lk (_ :: (_ ++ R)) t = _
      rw [aad,if_neg hne]; exact ih
    ·show lk (_ :: (_ ++ R)) t = _
     rw [aad,if_neg hne]; exact ih
theorem arj {H : Hp} : ∀ {l : Hp} {seen : List Nat} {k : Nat}, k ∈ l.map (·.1) -> k ∉ seen -> k ∈ (chg H seen l).map (·.1) \/ ∃ y, lk H k = some y
 | [],seen,k,h,_ => by simp at h
 | (k', x) :: l, seen, k, h, hs => by
  unfold chg
  by_cases e : k = k'
  ·subst e
   have hm : azr k seen = false := by
    cases hq : azr k seen with
    | true => exact absurd (ahf.1 hq) hs
    | false => rfl
   simp only [hm]
   split
   ·split
    ·rename_i y hy
     split
     ·exact .inr ⟨y,hy⟩
     ·exact .inl (by simp)
    ·exact .inl (by simp)
   ·exact .inl (by simp)
  ·have h' : k ∈ l.map (·.1) := by simpa [e] using h
   have hs' : k ∉ k' :: seen := fun hh => by rcases List.mem_cons.1 hh with e' | e'; exact e e'; exact hs e'
   have ih1 := arj (H := H) h' hs
   have ih2 := arj (H := H) h' hs'
   split
   ·exact ih1
   ·split
    ·split
     ·split
      ·exact ih2
      ·rcases ih2 with h | h
       ·exact .inl (mem_cons_of_mem _ h)
       ·exact .inr h
     ·rcases ih2 with h | h
      ·exact .inl (mem_cons_of_mem _ h)
      ·exact .inr h
    ·rcases ih2 with h | h
     ·exact .inl (mem_cons_of_mem _ h)
     ·exact .inr h
theorem aig {R : Array Oper} {s : AS} {o : Oper} {x : Option AV} {H U : Hp} {rt : List Nat} (hH : ∀ k z, lk H k = some z -> s.blk k = some z) (h : Step P N R s o ⟨x, U, rt, H.map (·.1)⟩) :
  Step P N R s o ⟨x,chg H [] U,rt,H.map (·.1)⟩ := by
 refine ⟨fun s' hag hnew C m a w Q next hC hr hnext => ?_⟩
 have hH' : ∀ k z,lk H k = some z -> lk s'.hp k = some z := fun k z hz => (hag.2 k (aa2 hz)).trans (hH k z hz)
 refine h.run s' hag (fun k hk => ?_) C m a w Q next hC hr (fun m' a' w' hr' => hnext m' a' w' ?_)
 ·rcases arj (H := H) hk (seen := []) (by simp) with h1 | ⟨y, hy⟩
  ·exact hnew k h1
  ·exact .inl (aa2 hy)
 ·refine RelM.congr (s := s'.app o.dst ⟨x, U, rt, H.map (·.1)⟩) (fun t => rfl) (fun k => ?_) hr'
  simp only [AS.blk,AS.app]
  rw [a5s hH' (by simp),acq]
variable [Inhabited (Tys P)]
def bli (P : Program) [Inhabited (Tys P)] (s : AS) (d : Nat) (x y : Operand) (T : TypeId) : OR := match rdC s y with
  | some (.lst sz xs) => match ahv P T with
    | some ti => match ti.k with
      | .slice E => match ahv P E with
        | some te => match Nat.beq te.size sz && (Nat.beq te.zero.length te.size && Nat.blt 0 te.size && Nat.blt 0 te.bytes) with
          | true => match rdC s x with
            | some (.ms k sz' off len) => match s.blk k with
              | some (.row sz2 es) => match Nat.beq sz' sz && Nat.beq off 0 && Nat.beq sz2 sz && Nat.beq len es.length && Nat.ble ((len + xs.length) * te.bytes) 140737488355328 with
                | true => match Nat.beq d k with
                  | true => .no
                  | false => match frc (es ++ xs) with
                    | some l => wN (len + xs.length) fun n => .ok ⟨some (.ms d sz 0 n),[(d,some (.row sz l)),(k,none)],aaj x ++ aaj y,[k]⟩
                    | none => .no
                | false => .no
              | _ => .no
            | some (.v (.slice a0 0 0)) => match Nat.ble ((0 + xs.length) * te.bytes) 140737488355328 with
              | true => match Nat.beq d 299 with
                | true => .no
                | false => match frc ([] ++ xs) with
                  | some l => wN (0 + xs.length) fun n => .ok ⟨some (.ms d sz 0 n),[(d,some (.row sz l)),(299,none)],aaj x ++ aaj y,[]⟩
                  | none => .no
              | false => .no
            | _ => .no
          | false => .no
        | none => .no
      | _ => .no
    | none => .no
  | some (.ms k _ _ _) => .need k
  | _ => .no
theorem bed {s : AS} {R : Array Oper} {d : Nat} {x y : Operand} {T t : TypeId} {u : Out} {pos : String} {after : Array Edge} (h : bli P s d x y T = .ok u) (hN : Nat.blt d N = true) :
  Step P N R s ⟨some d,.call ⟨.builtin .append,#[x,y],#[T,T]⟩,t,pos,after,none⟩ u := by
 unfold bli at h
 split at h
 ·rename_i sz xs hy
  split at h
  ·rename_i ti hT
   split at h
   ·rename_i E hk
    split at h
    ·rename_i te hE
     split at h
     ·rename_i hc
      simp only [and_eq_true] at hc
      have hsz := eq_of_beq_eq_true hc.1
      have hz0 : (Nat.beq te.zero.length te.size && Nat.blt 0 te.size && Nat.blt 0 te.bytes) = true:=by simp only [and_eq_true]; exact hc.2
      split at h
      ·rename_i k sz' off len hx
       split at h
       ·rename_i sz2 es hb
        split at h
        ·rename_i hg
         simp only [and_eq_true,Nat.ble_eq] at hg
         obtain ⟨⟨⟨⟨g1,g2⟩,g3⟩,g4⟩,g5⟩ := hg
         cases eq_of_beq_eq_true g1
         cases eq_of_beq_eq_true g2
         cases eq_of_beq_eq_true g3
         split at h
         ·cases h
         ·rename_i hdk
          split at h
          ·rename_i l hl
           cases af8 hl
           rw [avj] at h; cases h
           exact abq (abf hx) hb (eq_of_beq_eq_true g4) (abf hy) (aav hT) hk (aav hE) hsz hz0 g5 hdk hN
          ·cases h
        ·cases h
       ·cases h
      ·rename_i a0 hx
       split at h
       ·rename_i g5
        rw [Nat.ble_eq] at g5
        split at h
        ·cases h
        ·rename_i hdk
         split at h
         ·rename_i l hl
          cases af8 hl
          rw [avj] at h; cases h
          exact a56 (cap0 := 0) (abf hx) (abf hy) (aav hT) hk (aav hE) hsz hz0 g5 hdk hN
         ·cases h
       ·cases h
      ·cases h
     ·cases h
    ·cases h
   ·cases h
  ·cases h
 ·cases h
 ·cases h
def bke (P : Program) [Inhabited (Tys P)] (s : AS) (T : TypeId) (x y : Operand) : OR := match rdC s x with
  | some (.eptr k sz i off) => match rdC s y with
    | some v => match v.nm with
      | k' :: _ => .need k'
      | [] => match s.blk k with
        | some (.row sz' es) => match es[i]? with
          | some e => match ahv P T with
            | some ti => match Nat.beq sz sz' && v.ok && Nat.beq v.cells.length ti.size && Nat.ble (off + ti.size) e.cells.length with
              | true => match e with
                | .agg cs => match frc (over cs off v.cells) with
                  | some l => match frc (es.set i (.agg l)) with
                    | some es' => .ok ⟨none,[(k,some (.row sz es'))],aaj x ++ aaj y,[k]⟩
                    | none => .no
                  | none => .no
                | e => match Nat.beq off 0 && Nat.beq v.cells.length 1 with
                  | true => match frc (es.set i v) with
                    | some es' => .ok ⟨none,[(k,some (.row sz es'))],aaj x ++ aaj y,[k]⟩
                    | none => .no
                  | false => .no
              | false => .no
            | none => .no
          | none => .no
        | _ => .no
    | none => .no
  | _ => .no
theorem az8 {e : AV} (h : ∀ cs, e ≠ .agg cs) : e.cells = [e] := by
 cases e <;> first | rfl | exact absurd rfl (h _)
theorem bbm {s : AS} {R : Array Oper} {x y : Operand} {T t : TypeId} {u : Out} {pos : String} {after : Array Edge} (h : bke P s T x y = .ok u) :
  Step P N R s ⟨none,.store T x y,t,pos,after,none⟩ u := by
 unfold bke at h
 split at h
 ·rename_i k sz i off hx
  split at h
  ·rename_i v hy
   split at h
   ·cases h
   ·rename_i hnm
    split at h
    ·rename_i sz' es hb
     split at h
     ·rename_i e he
      split at h
      ·rename_i ti hT
       split at h
       ·rename_i hc
        simp only [and_eq_true] at hc
        obtain ⟨⟨⟨c1,c2⟩,c3⟩,c4⟩ := hc
        cases eq_of_beq_eq_true c1
        split at h
        ·rename_i cs
         split at h
         ·rename_i l hl
          split at h
          ·rename_i es' hes
           cases h
           cases af8 hl
           cases af8 hes
           exact acn (abf hx) hb he (abf hy) c2 hnm (aav hT) c3 c4 rfl
          ·cases h
         ·cases h
        ·rename_i hne
         split at h
         ·rename_i hg
          simp only [and_eq_true] at hg
          split at h
          ·rename_i es' hes
           cases h
           cases af8 hes
           cases eq_of_beq_eq_true hg.1
           refine acn (abf hx) hb he (abf hy) c2 hnm (aav hT) c3 c4 ?_
           rw [az8 hne]
           have := eq_of_beq_eq_true hg.2
           simp [over,this]
          ·cases h
         ·cases h
       ·cases h
      ·cases h
     ·cases h
    ·cases h
  ·cases h
 ·cases h
def mkS (P : Program) [Inhabited (Tys P)] (d : Nat) (T : TypeId) (n : Int) (rt : List Nat) : OR := match ahv P T with
  | some ti => match ti.k with
    | .slice E => match ahv P E with
      | some te => match te.zero.all Value.oneCell' && (Nat.beq te.zero.length te.size && Nat.blt 0 te.size && Nat.blt 0 te.bytes && (te.ag || Nat.beq te.size 1)) with
        | true => match n with
          | .ofNat n => match Nat.ble (n * te.bytes) 281474976710656 with
            | true => match frc (List.replicate n (mkT te.ag (te.zero.map .v))) with
              | some l => .ok ⟨some (.ms d te.size 0 n),[(d,some (.row te.size l))],rt,[]⟩
              | none => .no
            | false => .no
          | .negSucc _ => .no
        | false => .no
      | none => .no
    | _ => .no
  | none => .no
theorem bg5 {s : AS} {R : Array Oper} {d : Nat} {x : Operand} {T t : TypeId} {n : Int} {u : Out} {pos : String} {after : Array Edge} (hx : Ev s x (.v (.int .i64 n))) (h : mkS P d T n (aaj x) = .ok u) (hN : Nat.blt d N = true) :
  Step P N R s ⟨some d,.makeSlice T x x,t,pos,after,none⟩ u := by
 unfold mkS at h
 split at h
 ·rename_i ti hT
  split at h
  ·rename_i E hk
   split at h
   ·rename_i te hE
    split at h
    ·rename_i hc
     rw [and_eq_true] at hc
     split at h
     ·rename_i n
      split at h
      ·rename_i hb
       rw [Nat.ble_eq] at hb
       split at h
       ·rename_i l hl
        cases h
        cases af8 hl
        exact agr (n := Int.ofNat n) hx (aav hT) hk (aav hE) hc.1 hc.2 (Int.natCast_nonneg _) (by simp only [Int.ofNat_eq_natCast]; omega) hN
       ·cases h
      ·cases h
     ·cases h
    ·cases h
   ·cases h
  ·cases h
 ·cases h
theorem bdg {P : Program} {N : Nat} {s : AS} {R : Array Oper} {d f : Nat} {g : Operand} {args : Array Operand} {ts : Array TypeId} {xs : List AV} {H H' : Hp} {r : AV} {t : TypeId} {pos : String} {after : Array Edge}
  (hg : Ev s g (.v (.func (.func f) #[] #[]))) (hcon : Con P f xs H r H') (ha : EvL s args.toList xs) (hH : ∀ k z,lk H k = some z -> s.blk k = some z) (hok : acv s H H' r = true) (hN : Nat.blt d N = true) :
  Step P N R s ⟨some d,.call ⟨.value g,args,ts⟩,t,pos,after,none⟩ ⟨some r,H' ++ ak7 H,aaj g ++ rtL args.toList,H.map (·.1)⟩ :=
 ahz rfl (fun d' h => by cases h; exact ⟨hN, rfl⟩) hcon hH hok fun s' hag C m a w hr => by
  have hag' : adq s s' ⟨none,[],aaj g ++ rtL args.toList,[]⟩ := ⟨hag,fun k hk => by cases hk⟩
  have ha' := ha.agree hag' (fun _ h => List.mem_append.2 (.inr h))
  have hgr := (hg.agree hag' (fun _ h => List.mem_append.2 (.inl h))).rep hr
  generalize hv : a.eval g = u at hgr
  cases hgr
  refine ⟨args.map a.eval,aqo (caps := #[]) rfl hv hcon.ok (by simp),?_,?_⟩
  ·have := ha'.length; simpa using this
  ·intro j v x hv hx; exact ha'.rep hr j v x (by simpa using hv) hx
def beg : Operand -> Operand -> Bool
  | .tmp a,.tmp b => Nat.beq a b
  | .const (.int k a),.const (.int k' b) => Nat.beq (ikn k) (ikn k') && aab .eql a b
  | _,_ => false
theorem a9a {x y : Operand} (h : beg x y = true) : y = x := by
 unfold beg at h
 split at h
 ·rw [eq_of_beq_eq_true h]
 ·rename_i k a k' b
  simp only [and_eq_true] at h
  rw [ahj h.1,eq_of_beq (show (a == b) = true from h.2)]
 ·cases h
def opD (E : Env P) (F : ag7) (av : List Nat) (s : AS) (d : Nat) (op : Op) : OR := match op with
  | .call c => match c with
    | ⟨.value g, args, ts⟩ => match beu s args.toList with
      | some xs => match g with
        | .func f => match avo E F s av f xs with
          | .ok H r H' => match acv s H H' r with
            | true => .ok ⟨some r,chg H [] (H' ++ ak7 H),rtL args.toList,H.map (·.1)⟩
            | false => .no
          | .need k => .need k
          | .no => .no
        | g => match rdC s g with
          | some (.fn f caps) => match avo E F s av f (xs ++ caps) with
            | .ok H r H' => match acv s H H' r with
              | true => .ok ⟨some r,chg H [] (H' ++ ak7 H),aaj g ++ rtL args.toList,H.map (·.1)⟩
              | false => .no
            | .need k => .need k
            | .no => .no
          | some (.v (.func (.func f) ⟨[]⟩ ⟨[]⟩)) => match avo E F s av f xs with
            | .ok H r H' => match acv s H H' r with
              | true => .ok ⟨some r,chg H [] (H' ++ ak7 H),aaj g ++ rtL args.toList,H.map (·.1)⟩
              | false => .no
            | .need k => .need k
            | .no => .no
          | some (.cl f pre caps) => match avo E F s av f (pre ++ xs ++ caps) with
            | .ok H r H' => match acv s H H' r with
              | true => .ok ⟨some r,chg H [] (H' ++ ak7 H),aaj g ++ rtL args.toList,H.map (·.1)⟩
              | false => .no
            | .need k => .need k
            | .no => .no
          | _ => .no
      | none => .no
    | ⟨.builtin .append, args, ts⟩ => match args.toList with
      | [x, y] => match ts.toList with
        | [T, T'] => match Nat.beq T T' with
          | true => bli P s d x y T
          | false => .no
        | _ => .no
      | _ => .no
    | c => match opV P s (.call c) with
      | some r => .ok ⟨some r.x,[],r.rt,r.rd⟩
      | none => .no
  | .makeSlice T x y => match beg x y with
    | true => match rdC s x with
      | some (.v (.int .i64 n)) => mkS P d T n (aaj x)
      | _ => .no
    | false => .no
  | .slice T x none (some (.const (.int k1 (.ofNat 0)))) (some (.const (.int k2 (.ofNat 0)))) => match rdC s x with
    | some (.lst sz es) => match bdw P T sz with
      | true => .ok ⟨some (.ms d sz 0 0),[(d,some (.row sz []))],aaj x,[]⟩
      | false => .no
    | _ => .no
  | .buildSlice T n parts => match n with
    | 0 => match parts.toList with
      | [] => match ahv P T with
        | some ti => match ti.k with
          | .slice E => match ahv P E with
            | some te => match te.zero.all Value.oneCell' && Nat.beq te.zero.length te.size with
              | true => .ok ⟨some (.ms d te.size 0 0),[(d,some (.row te.size []))],[],[]⟩
              | false => .no
            | none => .no
          | _ => .no
        | none => .no
      | _ => .no
    | n + 1 => match opV P s (.buildSlice T (n + 1) parts) with
      | some r => .ok ⟨some r.x,[],r.rt,r.rd⟩
      | none => match beu s (parts.toList.map (·.2)) with
        | some xs => match AV.nms xs with
          | k :: _ => .need k
          | [] => .no
        | none => .no
  | op => match opV P s op with
    | some r => .ok ⟨some r.x,[],r.rt,r.rd⟩
    | none => match bjx P s d op with
      | some r => match r.2 with
        | [] => .ok r.1
        | _ => .no
      | none => .no
theorem bao {E : Env P} {F : ag7} (hF : F.Ok P) {av : List Nat} {s : AS} {R : Array Oper} {d : Nat} {op : Op} {u : Out} {t : TypeId} {pos : String} {after : Array Edge} (h : opD E F av s d op = .ok u) (hN : Nat.blt d N = true) :
  Step P N R s ⟨some d,op,t,pos,after,none⟩ u := by
 unfold opD at h
 split at h
 ·split at h
  ·rename_i g args ts
   split at h
   ·rename_i xs hxs
    split at h
    ·rename_i f
     split at h
     ·rename_i H r H' hc
      split at h
      ·rename_i hok
       cases h
       obtain ⟨h1,h2⟩ := ak8 hF hc
       exact aig h2 (aam h1 (ama hxs) h2 hok hN)
      ·cases h
     ·cases h
     ·cases h
    ·split at h
     ·rename_i f caps hg
      split at h
      ·rename_i H r H' hc
       split at h
       ·rename_i hok
        cases h
        obtain ⟨h1,h2⟩ := ak8 hF hc
        exact aig h2 (a1s (abf hg) h1 (ama hxs) h2 hok hN)
       ·cases h
      ·cases h
      ·cases h
     ·rename_i f hg
      split at h
      ·rename_i H r H' hc
       split at h
       ·rename_i hok
        cases h
        obtain ⟨h1,h2⟩ := ak8 hF hc
        exact aig h2 (bdg (abf hg) h1 (ama hxs) h2 hok hN)
       ·cases h
      ·cases h
      ·cases h
     ·rename_i f pre caps hg
      split at h
      ·rename_i H r H' hc
       split at h
       ·rename_i hok
        cases h
        obtain ⟨h1,h2⟩ := ak8 hF hc
        exact aig h2 (a4o (abf hg) h1 (ama hxs) h2 hok hN)
       ·cases h
      ·cases h
      ·cases h
     ·cases h
   ·cases h
  ·rename_i args ts
   split at h
   ·rename_i x y hx
    split at h
    ·rename_i T T' hT
     split at h
     ·rename_i hTT
      cases eq_of_beq_eq_true hTT
      have e1 : args = #[x,y]:=by apply Array.toList_inj.1; simpa using hx
      have e2 : ts = #[T,T]:=by apply Array.toList_inj.1; simpa using hT
      subst e1; subst e2
      exact bed h hN
     ·cases h
    ·cases h
   ·cases h
  ·split at h
   ·rename_i h1; cases h; exact a4r h1 hN
   ·cases h
 ·split at h
  ·rename_i he
   cases a9a he
   split at h
   ·rename_i hx; exact bg5 (abf hx) h hN
   ·cases h
  ·cases h
 ·split at h
  ·rename_i hx
   split at h
   ·rename_i hs
    obtain ⟨ti,E,te,h1,h2,h3,h4⟩ := aos hs
    cases h
    exact a2u (abf hx) h1 h2 h3 h4 hN
   ·cases h
  ·cases h
 ·rename_i T n parts
  split at h
  ·split at h
   ·rename_i hp
    have : parts = #[]:=by apply Array.toList_inj.1; simpa using hp
    subst this
    split at h
    ·rename_i ti hT
     split at h
     ·rename_i E hk
      split at h
      ·rename_i te hE
       split at h
       ·rename_i hc
        rw [and_eq_true] at hc
        cases h
        exact ab3 (aav hT) hk (aav hE) hc.1 hc.2 hN
       ·cases h
      ·cases h
     ·cases h
    ·cases h
   ·cases h
  ·split at h
   ·rename_i h1; cases h; exact a4r h1 hN
   ·split at h
    ·split at h <;> cases h
    ·cases h
 ·split at h
  ·rename_i h1; cases h; exact a4r h1 hN
  ·split at h
   ·rename_i h1
    split at h
    ·rename_i ho; cases h; exact a1h h1 (by rw [ho]; exact .nil) hN
    ·cases h
   ·cases h
def opN (E : Env P) (F : ag7) (av : List Nat) (s : AS) (op : Op) : OR := match op with
  | .call c => match c with
    | ⟨.value (.func f), args, ts⟩ => match beu s args.toList with
      | some xs => match avo E F s av f xs with
        | .ok H r H' => match acv s H H' r with
          | true => .ok ⟨none,chg H [] (H' ++ ak7 H),rtL args.toList,H.map (·.1)⟩
          | false => .no
        | .need k => .need k
        | .no => .no
      | none => .no
    | _ => .no
  | .store T x y => match bjw P s (.store T x y) with
    | some r => match r.2 with
      | [] => .ok r.1
      | _ => .no
    | none => bke P s T x y
  | _ => .no
theorem bhh {E : Env P} {F : ag7} (hF : F.Ok P) {av : List Nat} {s : AS} {R : Array Oper} {op : Op} {u : Out} {t : TypeId} {pos : String} {after : Array Edge} (h : opN E F av s op = .ok u) :
  Step P N R s ⟨none,op,t,pos,after,none⟩ u := by
 unfold opN at h
 split at h
 ·split at h
  ·rename_i f args ts
   split at h
   ·rename_i xs hxs
    split at h
    ·rename_i H r H' hc
     split at h
     ·rename_i hok
      cases h
      obtain ⟨h1,h2⟩ := ak8 hF hc
      exact aig h2 (a9g h1 (ama hxs) h2 hok)
     ·cases h
    ·cases h
    ·cases h
   ·cases h
  ·cases h
 ·split at h
  ·rename_i h1
   split at h
   ·rename_i ho; cases h; exact a5f h1 (by rw [ho]; exact .nil)
   ·cases h
  ·exact bbm h
 ·cases h
theorem Step.sub {P : Program} {N : Nat} {R : Array Oper} {s : AS} {o : Oper} {x y : AV} {upd : Hp} {rt rd : List Nat} (h : Step P N R s o ⟨some x, upd, rt, rd⟩) (hs : Sub x y) : Step P N R s o ⟨some y, upd, rt, rd⟩ := by
 refine ⟨fun s' hag hnew C m a w Q next hC hr hnext => h.run s' hag hnew C m a w Q next hC hr (fun m' a' w' hr' => hnext m' a' w' ?_)⟩
 refine hr'.weak (fun t z hz => ?_) (fun k z hz => ⟨z,hz,.refl _⟩)
 rw [acu] at hz
 split at hz
 ·rename_i ht; cases hz; exact ⟨x,by rw [acu,if_pos ht],hs⟩
 ·rename_i ht; exact ⟨z,by rw [acu,if_neg ht]; exact hz,.refl _⟩
theorem Sub.opt_true (x : AV) : Sub (.opt true x) x := fun g S m v h => by cases h with | opt h _ => exact h rfl
theorem al5 (f : AV -> AV) (k : Nat) : ∀ l : Hp, (afx f k l).map (·.1) = l.map (·.1)
 | [] => rfl
 | (k',x) :: l => by simp only [afx,map_cons,al5 f k l]
theorem a58 {P : Program} {N : Nat} {R : Array Oper} {s : AS} {o : Oper} {d : Nat} {x : AV} {upd : Hp} {rt rd : List Nat} {k sz : Nat} {es : List AV} (hd : o.dst = some d) (hk : lk upd k = some (.row sz es)) (hrd : k ∉ rd)
  (h : Step P N R s o ⟨some x,upd,rt,rd⟩) : Step P N R s o ⟨some (x.fz k sz es),afx (AV.fz k sz es) k upd,rt,rd⟩ := by
 refine ⟨fun s' hag hnew C m a w Q next hC hr hnext => ?_⟩
 have hnew' : amt s' ⟨some x,upd,rt,rd⟩ := fun k' hk' => hnew k' (by rw [al5]; exact hk')
 have hfr : s'.Fresh k := by
  rcases hnew' k (aa2 hk) with h | h
  ·exact absurd h hrd
  ·exact h
 refine h.run s' hag hnew' C m a w Q next hC hr (fun m' a' w' hr' => ?_)
 rw [hd] at hr'
 have hkk : (s'.app (some d) ⟨some x, upd, rt, rd⟩).blk k = some (.row sz es) := by
  show lk (upd ++ s'.hp) k = _
  rw [acq,if_pos (aa2 hk),hk]
 obtain ⟨m2,hr2⟩ := Wk.freeze hkk C m' a' w' hr'
 refine hnext m2 a' w' ?_
 rw [hd]
 refine hr2.congr ?_ ?_
 ·intro t
  simp only [AS.get,ahb,AS.app,aad]
  split
  ·rfl
  ·cases hx : lk s'.sl t with
   | none => rfl
   | some y => simp only [Option.map_some]; rw [AV.fz_id _ _ _ _ (hfr.2.2.1 t y hx)]
 ·intro k'
  simp only [AS.blk,AS.app]
  rw [aes,acq,acq,al5,aes]
  by_cases h1 : k' = k
  ·subst h1
   rw [if_pos rfl,if_pos (aa2 hk),if_pos rfl]
  ·rw [if_neg h1, if_neg h1]
   split
   ·rfl
   ·cases hx : lk s'.hp k' with
    | none => rfl
    | some y => simp only [Option.map_some]; rw [aqw (hfr.2.2.2 k' y hx)]
def bb6 : List Nat -> Out -> Out
  | [],u => u
  | k :: ks, u => match u.val with
    | some x => match lk u.upd k with
      | some (.row sz es) => match azr k u.rd with
        | false => bb6 ks ⟨some (x.fz k sz es),afx (AV.fz k sz es) k u.upd,u.rt,u.rd⟩
        | true => bb6 ks u
      | _ => bb6 ks u
    | none => u
theorem aoo {P : Program} {N : Nat} {R : Array Oper} {s : AS} {o : Oper} {d : Nat} (hd : o.dst = some d) : ∀ {ks : List Nat} {u : Out}, Step P N R s o u -> Step P N R s o (bb6 ks u)
 | [],u,h => h
 | k :: ks, u, h => by
  unfold bb6
  split
  ·rename_i x hx
   split
   ·rename_i sz es hk
    split
    ·rename_i hm
     refine aoo hd ?_
     obtain ⟨val,upd,rt,rd⟩ := u
     simp only at hx hk hm
     subst hx
     exact a58 hd hk (fun hh => by rw [ahf.2 hh] at hm; cases hm) h
    ·exact aoo hd h
   ·exact aoo hd h
  ·exact h
def opE (E : Env P) (F : ag7) (av fz : List Nat) (N : Nat) (R : List Oper) (s : AS) (o : Oper) : OR := match o.guard with
  | none => match o.dst with
    | some d => match Nat.blt d N with
      | true => match opD E F av s d o.op with
        | .ok u => .ok (bb6 fz u)
        | r => r
      | false => .no
    | none => opN E F av s o.op
  | some (j, want) => match R[j]? with
    | some og => match og.dst with
      | some g => match o.dst with
        | some d => match Nat.blt d N with
          | true => match s.get g with
            | some (.v (.bool b)) => match b == want with
              | true => match opD E F av s d o.op with
                | .ok u => match (bb6 fz u) with
                  | ⟨some x,upd,rt,rd⟩ => .ok ⟨some x,upd,g :: rt,rd⟩
                  | ⟨none,_,_,_⟩ => .no
                | r => r
              | false => .ok ⟨some (.opt false (.v (.bool false))),[],[g],[]⟩
            | some (.opt false (.v (.bool b))) => .ok ⟨some (.opt false (.v (.bool false))),[],[g],[]⟩
            | _ => .no
          | false => .no
        | none => .no
      | none => .no
    | none => .no
theorem bjd {E : Env P} {F : ag7} (hF : F.Ok P) {av fz : List Nat} {R : List Oper} {s : AS} {o : Oper} {u : Out} (h : opE E F av fz N R s o = .ok u) : Step P N R.toArray s o u := by
 obtain ⟨dst,op,ty,pos,after,guard⟩ := o
 unfold opE at h
 simp only at h
 split at h
 ·split at h
  ·split at h
   ·rename_i hN
    split at h
    ·rename_i u' h1; cases h; exact aoo rfl (bao hF h1 hN)
    ·rename_i hno; exact absurd h (hno u)
   ·cases h
  ·exact bhh hF h
 ·rename_i j want
  split at h
  ·rename_i og hog
   split at h
   ·rename_i g hg
    split at h
    ·rename_i d
     split at h
     ·rename_i hN
      have hj : (R.toArray[j]?).bind (·.dst) = some g:=by simp [hog,hg]
      split at h
      ·rename_i b hb
       split at h
       ·rename_i hw
        split at h
        ·rename_i u' h1
         have hs := aoo (ks := fz) rfl (bao (R := R.toArray) (t := ty) (pos := pos) (after := after) hF h1 hN)
         split at h
         ·rename_i x upd rt rd hx
          cases h
          rw [hx] at hs
          have h2 := axz (want := want) hj hb hN (fun hne => absurd (eq_of_beq hw) hne) (fun _ => hs)
          rw [hw] at h2
          exact h2.sub (.opt_true x)
         ·cases h
        ·rename_i hno; exact absurd h (hno u)
       ·rename_i hw
        cases h
        have h2 := abn (P := P) (op := op) (t := ty) (pos := pos) (after := after) (want := want) (x := .v (.bool false)) (rt := []) (rd := []) hj hb hN (fun e => by rw [e] at hw; simp at hw)
        rw [hw] at h2
        exact h2
      ·rename_i b hb
       cases h
       exact ahl (P := P) (op := op) (t := ty) (pos := pos) (after := after) (want := want) (x := .v (.bool false)) (rt := []) (rd := []) hj hb hN (fun e => by cases e)
      ·cases h
     ·cases h
    ·cases h
   ·cases h
  ·cases h
end Go.Lw
namespace Go.Lw
variable {P : Program} {N : Nat} [Inhabited (Tys P)]
theorem a5t {P : Program} {N : Nat} {c : Code} {Q Q' : Exit -> AS -> Prop} {s : AS} (h : AWP P N c Q s) (hq : ∀ e s, Q e s -> ∃ s', Wk s s' /\ Q' e s') : AWP P N c Q' s :=
 fun C m a w n hN hr => wpIn_mono (h C m a w n hN hr) fun e _ _ ⟨s', m', hQ, hr'⟩ => by
  obtain ⟨s2,hw,hQ'⟩ := hq e s' hQ
  obtain ⟨m2,hr2⟩ := hw C m' _ _ hr'
  exact ⟨s2,m2,hQ',hr2⟩
def dd {α : Type} : List Nat -> List (Nat × Option α) -> List (Nat × Option α)
  | _,[] => []
  | seen, (t, x) :: l => match azr t seen with
    | true => dd seen l
    | false => match x with
      | some v => (t,some v) :: dd (t :: seen) l
      | none => dd (t :: seen) l
theorem a1b {α : Type} : ∀ {l : List (Nat × Option α)} {seen : List Nat} {t : Nat} {x : α}, lk (dd seen l) t = some x -> t ∉ seen /\ lk l t = some x
 | [],seen,t,x,h => by cases h
 | (t', y) :: l, seen, t, x, h => by
  unfold dd at h
  rw [aad]
  split at h
  ·rename_i hm
   obtain ⟨h1,h2⟩ := a1b h
   refine ⟨h1,?_⟩
   rw [if_neg (fun (e : t = t') => h1 (by rw [e]; exact ahf.1 hm))]; exact h2
  ·rename_i hm
   have hm' : t' ∉ seen := fun hh => by rw [ahf.2 hh] at hm; cases hm
   split at h
   ·rw [aad] at h
    split at h
    ·rename_i e; cases h; subst e; exact ⟨hm',by rw [if_pos rfl]⟩
    ·rename_i e
     obtain ⟨h1,h2⟩ := a1b h
     rw [if_neg e]
     exact ⟨fun hh => h1 (mem_cons_of_mem _ hh),h2⟩
   ·obtain ⟨h1, h2⟩ := a1b h
    have hne : t ≠ t' := fun e => h1 (by rw [e]; exact mem_cons_self ..)
    rw [if_neg hne]
    exact ⟨fun hh => h1 (mem_cons_of_mem _ hh),h2⟩
theorem awk {s : AS} {sl : abm} {hp : Hp} (h1 : ∀ t x, lk sl t = some x -> lk s.sl t = some x) (h2 : ∀ k x, lk hp k = some x -> lk s.hp k = some x) : Wk s ⟨sl, hp⟩ :=
 fun C m a w hr => ⟨m,hr.weak (fun t x hx => ⟨x,h1 t x hx,.refl _⟩) (fun k x hx => ⟨x,h2 k x hx,.refl _⟩)⟩
def ddS (s : AS) : AS := ⟨dd [] s.sl,dd [] s.hp⟩
theorem blp (s : AS) : Wk s (ddS s) := awk (fun t x h => (a1b h).2) (fun t x h => (a1b h).2)
def noK (k : Nat) : List Nat -> abm -> abm
  | _,[] => []
  | seen, (t, x) :: l => match azr t seen with
    | true => noK k seen l
    | false => match x with
      | some v => match azr k v.nm with
        | true => noK k (t :: seen) l
        | false => (t,some v) :: noK k (t :: seen) l
      | none => noK k (t :: seen) l
theorem axu {k : Nat} : ∀ {l : abm} {seen : List Nat} {t : Nat} {x : AV}, lk (noK k seen l) t = some x -> t ∉ seen /\ lk l t = some x
 | [],seen,t,x,h => by cases h
 | (t', y) :: l, seen, t, x, h => by
  unfold noK at h
  rw [aad]
  have rest : ∀ {l' : abm}, lk (noK k (t' :: seen) l) t = some x -> t ∉ seen /\ (if t = t' then y else lk l t) = some x := by
   intro _ h
   obtain ⟨h1,h2⟩ := axu h
   rw [if_neg (fun (e : t = t') => h1 (by rw [e]; exact mem_cons_self ..))]
   exact ⟨fun hh => h1 (mem_cons_of_mem _ hh),h2⟩
  split at h
  ·rename_i hm
   obtain ⟨h1,h2⟩ := axu h
   refine ⟨h1,?_⟩
   rw [if_neg (fun (e : t = t') => h1 (by rw [e]; exact ahf.1 hm))]; exact h2
  ·rename_i hm
   have hm' : t' ∉ seen := fun hh => by rw [ahf.2 hh] at hm; cases hm
   split at h
   ·split at h
    ·exact rest (l' := l) h
    ·rw [aad] at h
     split at h
     ·rename_i e; cases h; subst e; exact ⟨hm',by rw [if_pos rfl]⟩
     ·rename_i e
      obtain ⟨h1,h2⟩ := axu h
      rw [if_neg e]
      exact ⟨fun hh => h1 (mem_cons_of_mem _ hh),h2⟩
   ·exact rest (l' := l) h
def bm3 (s : AS) (k d : Nat) (y : Blk) : AS := ⟨aj2 (AV.rn k d) s.sl,ard k d y s.hp⟩
def bl6 (s : AS) (av : List Nat) (d : Nat) : Option AS := match s.freshB d with
  | true => some s
  | false => match s.blk d with
    | some y => match s.freshB (nxt s av) with
      | true => some (bm3 s d (nxt s av) y)
      | false => none
    | none => some ⟨noK d [] s.sl,s.hp⟩
theorem bd6 {s s' : AS} {av : List Nat} {d : Nat} (h : bl6 s av d = some s') : Wk s s' := by
 unfold bl6 at h
 split at h
 ·cases h; exact .refl _
 ·split at h
  ·rename_i y hy
   split at h
   ·rename_i hf; cases h; exact Wk.rekey hy hf
   ·cases h
  ·cases h; exact awk (fun t x h => (axu h).2) (fun _ _ h => h)
def bnv (o : Oper) : Option Nat := match o.dst with
  | some d => match o.op with
    | .alloc _ => some d
    | .box _ _ => some d
    | .makeSlice _ _ _ => some d
    | .buildSlice _ 0 _ => some d
    | .slice _ _ _ _ (some _) => some d
    | .call ⟨.builtin .append,_,_⟩ => some d
    | _ => none
  | none => none
def bft (av : List Nat) : List Oper -> AS -> Option AS
  | [],s => some s
  | o :: os, s => match bnv o with
    | some d => match bl6 s av d with
      | some s' => bft av os s'
      | none => none
    | none => bft av os s
theorem au4 {av : List Nat} : ∀ {os : List Oper} {s s' : AS}, bft av os s = some s' -> Wk s s'
 | [],s,s',h => by cases h; exact .refl _
 | o :: os, s, s', h => by
  unfold bft at h
  split at h
  ·split at h
   ·rename_i h1; exact (bd6 h1).trans (au4 h)
   ·cases h
  ·exact au4 h
inductive RR where
  | ok (s : AS) (us : List Out)
  | need (k : Nat)
  | no
def nB {α : Type} : List α -> Bool
  | [] => true
  | _ => false
def bjy (E : Env P) (F : ag7) (av fz : List Nat) (N : Nat) (R : List Oper) : List Oper -> AS -> List Out -> RR
  | [],s,us => .ok s us
  | o :: os, s, us => match opE E F av fz N R s o with
    | .ok u => match nB u.upd || a4q s u with
      | true => match s.app o.dst u with
        | ⟨sl,hp⟩ => bjy E F av fz N R os ⟨sl,hp⟩ (us ++ [u])
      | false => .no
    | .need k => .need k
    | .no => .no
theorem a5a {E : Env P} {F : ag7} (hF : F.Ok P) {av fz : List Nat} {R : List Oper} : ∀ {os : List Oper} {s : AS} {us : List Out} {s' : AS} {us' : List Out}, bjy E F av fz N R os s us = .ok s' us' ->
  asu P N R.toArray os s us (fun s2 us2 => s2 = s' /\ us2 = us')
 | [],s,us,s',us',h => by cases h; exact ⟨rfl,rfl⟩
 | o :: os, s, us, s', us', h => by
  unfold bjy at h
  split at h
  ·rename_i u hu
   split at h
   ·rename_i hn
    refine ⟨u,bjd hF hu,?_,a5a hF h⟩
    cases hu' : nB u.upd with
    | true =>
     intro k hk
     have : u.upd = []:=by cases hq : u.upd with | nil => rfl | cons a b => rw [hq] at hu'; cases hu'
     rw [this] at hk; cases hk
    | false => rw [hu'] at hn; exact am9 hn
   ·cases h
  ·cases h
  ·cases h
structure Sys where
  code : Nat -> Nat -> List Nat -> Code -> AS -> Option (Exit × AS)
  fn : Nat -> List Nat -> FuncId -> List AV -> Hp -> Option (AV × Hp)
def trF (S : Sys) (base : Nat) : ag7 := fun av f xs H => match bm2 base (H.map (·.1)) with
  | L => match S.fn (base + 100) av f (tA L xs) (tH L H) with
    | some (r,H') => some (rB L r,hB L H')
    | none => none
def isR (e : Exit) : Bool := match e with
  | .normal => true
  | _ => false
def bmz (s : AS) (k : Nat) : Option AS := match s.blk k with
  | some (.row sz es) => some ⟨aj2 (AV.fz k sz es) s.sl,afx (AV.fz k sz es) k s.hp⟩
  | _ => none
theorem bck {s s' : AS} {k : Nat} (h : bmz s k = some s') : Wk s s' := by
 unfold bmz at h
 split at h
 ·rename_i hk; cases h; exact Wk.freeze hk
 ·cases h
def bfh (E : Env P) (F : ag7) (av : List Nat) (N : Nat) (A : List Oper) (d : Bool) : Nat -> List Nat -> AS -> Option AS
  | 0,_,_ => none
  | n + 1, fz, s0 => match bjy E F av fz N A A s0 [] with
    | .ok s' us => match d with
      | false => some s'
      | true => match chk A us s0 with
        | true => some s'
        | false => none
    | .need k => match bmz s0 k with
      | some ⟨sl,hp⟩ => bfh E F av N A d n fz ⟨sl,hp⟩
      | none => match azr k fz with
        | true => none
        | false => bfh E F av N A d n (k :: fz) s0
    | .no => none
theorem awz {E : Env P} {F : ag7} (hF : F.Ok P) {av : List Nat} {id : Nat} {A : Array Oper} {d : Bool} (hnd : A.toList.all nd = true) : ∀ {n : Nat} {fz : List Nat} {s s1 : AS}, bfh E F av N A.toList d n fz s = some s1 ->
  AWP P N (.region id A d) (fun e' s' => e' = .normal /\ s' = s1) s
 | 0,fz,s,s1,h => by cases h
 | n + 1, fz, s, s1, h => by
  unfold bfh at h
  split at h
  ·rename_i s' us h1
   refine a0y (Q := fun e' s' => e' = .normal /\ s' = s1) (k := []) hnd (fun _ => (default : Tys P).mix) (alc ?_ (a5a hF h1))
   rintro s2 us2 ⟨hs,hu⟩
   rw [hs,hu]
   split at h
   ·obtain rfl := Option.some.inj h
    exact ⟨(fun e => by cases e),rfl,rfl⟩
   ·split at h
    ·rename_i hc
     obtain rfl := Option.some.inj h
     exact ⟨fun _ => hc,rfl,rfl⟩
    ·cases h
  ·split at h
   ·rename_i sl hp hf
    exact ael (bck hf) (awz hF hnd h)
   ·split at h
    ·cases h
    ·exact awz hF hnd h
  ·cases h
def auc (E : Env P) (S : Sys) (N base : Nat) (av : List Nat) (c : Code) (s : AS) : Option (Exit × AS) := match c with
  | .skip => some (.normal,s)
  | .ret => some (.ret,s)
  | .exit id => some (.exit id,s)
  | .seq x y => match S.code N base av x s with
    | some (e, s1) => match isR e with
      | true => S.code N base av y s1
      | false => some (e,s1)
    | none => none
  | .block id c => match S.code N base av c s with
    | some (e, s1) => match e with
      | .exit id' => match Nat.beq id' id with
        | true => some (.normal,s1)
        | false => some (.exit id',s1)
      | e => some (e,s1)
    | none => none
  | .cond c x y => match rdC s c with
    | some (.v (.bool b)) => match b with
      | true => S.code N base av x s
      | false => S.code N base av y s
    | _ => none
  | .loop c => match S.code N base av c s with
    | some (e, s1) => match isR e with
      | true => match ddS s1 with
        | ⟨sl,hp⟩ => S.code N base av (.loop c) ⟨sl,hp⟩
      | false => some (e,s1)
    | none => none
  | .region id A d => match a2h A.toList with
    | true => match bft av A.toList s with
      | some s0 => match bfh E (trF S base) av N A.toList d 20 [] s0 with
        | some s' => some (.normal,s')
        | none => none
      | none => none
    | false => none
  | _ => none
def bfk (st : Nat) : List Nat -> AS -> Option AS
  | [],s => some s
  | k :: ks, s => match s.blk k with
    | some y => match bcl s 100 st with
      | d => match s.freshB d with
        | true => bfk st ks (bm3 s k d y)
        | false => none
    | none => none
theorem av0 {st : Nat} : ∀ {ks : List Nat} {s s' : AS}, bfk st ks s = some s' -> Wk s s'
 | [],s,s',h => by cases h; exact .refl _
 | k :: ks, s, s', h => by
  unfold bfk at h
  split at h
  ·rename_i y hy
   simp only at h
   split at h
   ·rename_i hf; exact (Wk.rekey (s := s) hy hf).trans (av0 h)
   ·cases h
  ·cases h
def cnt : Nat -> List Nat -> List Nat
  | _,[] => []
  | n,_ :: l => n :: cnt (n + 1) l
def loc : List Nat -> List Nat
  | [] => []
  | k :: ks => match Nat.blt k 1000 with
    | true => k :: loc ks
    | false => loc ks
def beo (sl : abm) : List Nat -> abm
  | [] => []
  | t :: ts => match lk sl t with
    | some x => (t,some x) :: beo sl ts
    | none => beo sl ts
theorem avk {sl : abm} : ∀ {ts : List Nat} {t : Nat} {x : AV}, lk (beo sl ts) t = some x -> lk sl t = some x
 | [],t,x,h => by cases h
 | t' :: ts, t, x, h => by
  unfold beo at h
  split at h
  ·rename_i y hy
   rw [aad] at h
   split at h
   ·rename_i e; cases h; rw [e]; exact hy
   ·exact avk h
  ·exact avk h
def rsT : List ResultVar -> List Nat
  | [] => []
  | r :: rs => (match r with
    | .tmp t => t
    | .cell t _ => t) :: rsT rs
def bj0 (P : Program) [Inhabited (Tys P)] (rs : List ResultVar) (Hk : List Nat) (s : AS) : Option (AV × Hp) := match bcf P s rs with
  | some ys => some (ak0 ys,pkH s (a0i s 300 (AV.nms ys ++ Hk) []))
  | none => none
theorem a3q {rs : List ResultVar} {Hk : List Nat} {s : AS} {r : AV} {H' : Hp} (h : bj0 P rs Hk s = some (r, H')) : ∃ xs, ResL P s rs xs /\ Fin s (ak0 xs) r H' := by
 unfold bj0 at h
 split at h
 ·rename_i ys hy
  cases h
  exact ⟨ys,avc hy,.keep (fun k z hz => asw hz)⟩
 ·cases h
def blq (P : Program) [Inhabited (Tys P)] (av : List Nat) (rs : List ResultVar) (Hk : List Nat) (s : AS) : Option (AV × Hp) := match a0i s 300 (AV.nms ((beo s.sl (rsT rs)).filterMap (·.2)) ++ Hk) [] with
  | K => match loc K with
    | [] => bj0 P rs Hk s
    | k :: ks => match bfk 700 (k :: ks) ⟨beo s.sl (rsT rs), pkH s K⟩ with
      | some s2 => match bfk (mx 299 av + 1) (cnt 700 (k :: ks)) s2 with
        | some s3 => bj0 P rs Hk s3
        | none => none
      | none => none
theorem bdr {av : List Nat} {rs : List ResultVar} {Hk : List Nat} {s : AS} {r : AV} {H' : Hp} (h : blq P av rs Hk s = some (r, H')) : ∃ s2, Wk s s2 /\ ∃ xs, ResL P s2 rs xs /\ Fin s2 (ak0 xs) r H' := by
 unfold blq at h
 simp only at h
 split at h
 ·exact ⟨s,.refl _,a3q h⟩
 ·split at h
  ·rename_i s2 h2
   split at h
   ·rename_i s3 h3
    exact ⟨s3,((awk (fun t x => avk) (fun k x => asw)).trans (av0 h2)).trans (av0 h3),a3q h⟩
   ·cases h
  ·cases h
def a62 : Hp -> Bool
  | [] => true
  | (k,_) :: l => Nat.ble 1000 k && a62 l
theorem axd : ∀ {H : Hp} {k : Nat} {z : Blk}, a62 H = true -> lk H k = some z -> 1000 <= k
 | [],k,z,_,h => by cases h
 | (k', x) :: l, k, z, h0, h => by
  simp only [a62,and_eq_true,Nat.ble_eq] at h0
  rw [aad] at h
  split at h
  ·rename_i e; rw [e]; exact h0.1
  ·exact axd h0.2 h
def fnS (E : Env P) (S : Sys) (base : Nat) (av : List Nat) (f : FuncId) (xs : List AV) (H : Hp) : Option (AV × Hp) := match E.fe f with
  | some fe => match Nat.beq fe.f f && a62 H with
    | true => match a0t 0 xs with
      | some sl => match S.code fe.fn.ntmps base av fe.c ⟨sl, H⟩ with
        | some (e, s1) => match a6l e with
          | true => blq P av fe.rs (H.map (·.1)) s1
          | false => none
        | none => none
      | none => none
    | false => none
  | none => none
def ev (E : Env P) (n : Nat) : Sys := Nat.rec ⟨fun _ _ _ _ _ => none,fun _ _ _ _ _ => none⟩ (fun _ S => ⟨auc E S,fnS E S⟩) n
structure SysOk (P : Program) (S : Sys) : Prop where
  code : ∀ N base av c s e s1,S.code N base av c s = some (e,s1) -> AWP P N c (fun e' s' => e' = e /\ s' = s1) s
  fn : ∀ base av f xs H r H',S.fn base av f xs H = some (r,H') -> Con P f xs H r H'
theorem bhk {P : Program} {S : Sys} (h : SysOk P S) (base : Nat) : (trF S base).Ok P := by
 intro av f xs H r H' h1
 unfold trF at h1
 simp only at h1
 split at h1
 ·rename_i h2; cases h1; exact bnc (h.fn _ _ _ _ _ _ _ h2)
 ·cases h1
theorem bij {E : Env P} {S : Sys} (h : SysOk P S) {base : Nat} {av : List Nat} {f : FuncId} {xs : List AV} {H H' : Hp} {r : AV} (h1 : fnS E S base av f xs H = some (r, H')) : Con P f xs H r H' := by
 unfold fnS at h1
 split at h1
 ·rename_i fe hfe
  split at h1
  ·rename_i hc
   simp only [and_eq_true] at hc
   have hf := eq_of_beq_eq_true hc.1
   subst hf
   split at h1
   ·rename_i sl hsl
    cases ank hsl
    split at h1
    ·rename_i e s1 h2
     split at h1
     ·rename_i he
      refine a3z fe.hf fe.hb fe.hn fe.hrs rfl (fun k z hz => axd hc.2 hz) ?_
      refine a5t (h.code _ _ _ _ _ _ _ h2) ?_
      rintro e' s' ⟨he',hs'⟩
      rw [he',hs']
      obtain ⟨s2,hw,hx⟩ := bdr h1
      refine ⟨s2,hw,?_⟩
      cases e <;> first | exact hx | exact (nomatch he)
     ·cases h1
    ·cases h1
   ·cases h1
  ·cases h1
 ·cases h1
theorem a67 (E : Env P) : ∀ n m, m <= n -> SysOk P (ev E m)
 | 0, m, hm => by
  have : m = 0:=by omega
  subst this
  exact { code := (fun _ _ _ _ _ _ _ h => by cases h),fn := (fun _ _ _ _ _ _ _ h => by cases h) }
 | n + 1, m, hm => by
  by_cases hmn : m <= n
  ·exact a67 E n m hmn
  ·have : m = n + 1 := by omega
   subst this
   have ih := a67 E n n (le_refl _)
   refine ⟨?_,fun base av f xs H r H' h => bij ih h⟩
   intro N base av c s e s1 h
   change auc E (ev E n) N base av c s = some (e,s1) at h
   cases c with
   | skip => cases h; exact axi ⟨rfl,rfl⟩
   | ret => cases h; exact a5e ⟨rfl,rfl⟩
   | exit id => cases h; exact ayi ⟨rfl,rfl⟩
   | seq x y =>
    simp only [auc] at h
    split at h
    ·rename_i e1 s2 h1
     refine a5m fun K hK => aco (ih.code _ _ _ _ _ _ _ h1) ?_
     rintro e' s' ⟨he,hs⟩
     rw [he,hs]
     split at h
     ·rename_i hr
      cases e1 <;> first | exact hK _ (ih.code _ _ _ _ _ _ _ h) | exact (nomatch hr)
     ·rename_i hr
      obtain ⟨rfl,rfl⟩ := Prod.mk.inj (Option.some.inj h)
      cases e1 <;> first | exact ⟨rfl,rfl⟩ | exact (nomatch hr)
    ·cases h
   | block id c =>
    simp only [auc] at h
    split at h
    ·rename_i e1 s2 h1
     refine auu (aco (ih.code _ _ _ _ _ _ _ h1) ?_)
     rintro e' s' ⟨he,hs⟩
     rw [he,hs]
     split at h
     ·rename_i id'
      show match Nat.beq id' id with | true => _ | false => _
      split at h
      ·rename_i hb
       obtain ⟨rfl,rfl⟩ := Prod.mk.inj (Option.some.inj h)
       simp only []; exact ⟨trivial,trivial⟩
      ·rename_i hb
       obtain ⟨rfl,rfl⟩ := Prod.mk.inj (Option.some.inj h)
       simp only []; exact ⟨trivial,trivial⟩
     ·rename_i hne
      obtain ⟨rfl,rfl⟩ := Prod.mk.inj (Option.some.inj h)
      cases e1 <;> first | exact ⟨rfl,rfl⟩ | exact absurd rfl (hne _)
    ·cases h
   | cond c x y =>
    simp only [auc] at h
    split at h
    ·rename_i b hb
     split at h
     ·exact asj (abf hb) (fun _ => ih.code _ _ _ _ _ _ _ h) (fun e => by cases e)
     ·exact asj (abf hb) (fun e => by cases e) (fun _ => ih.code _ _ _ _ _ _ _ h)
    ·cases h
   | loop c =>
    refine aiu (fun m s => m <= n + 1 /\ (ev E m).code N base av (.loop c) s = some (e,s1)) (n := n + 1) (.refl _) ⟨le_refl _,h⟩ ?_
    rintro m s ⟨hm,hI⟩ K hK
    cases m with
    | zero => cases hI
    | succ m =>
     change auc E (ev E m) N base av (.loop c) s = some (e,s1) at hI
     have ihm := a67 E n m (by omega)
     simp only [auc] at hI
     split at hI
     ·rename_i e1 s2 h1
      refine aco (ihm.code _ _ _ _ _ _ _ h1) ?_
      rintro e' s' ⟨he,hs⟩
      rw [he,hs]
      split at hI
      ·rename_i hr
       cases e1 <;> first | exact hK _ _ m (blp s2) ⟨by omega,hI⟩ (by omega) | exact (nomatch hr)
      ·rename_i hr
       obtain ⟨rfl,rfl⟩ := Prod.mk.inj (Option.some.inj hI)
       cases e1 <;> first | exact ⟨rfl,rfl⟩ | exact (nomatch hr)
     ·cases hI
   | region id A d =>
    simp only [auc] at h
    split at h
    ·rename_i hnd
     split at h
     ·rename_i s0 h0
      refine ael (au4 h0) ?_
      split at h
      ·rename_i s' h1
       obtain ⟨rfl,rfl⟩ := Prod.mk.inj (Option.some.inj h)
       exact awz (bhk ih base) (ash hnd) h1
      ·cases h
     ·cases h
    ·cases h
   | _ => cases h
theorem adw (E : Env P) (n : Nat) {base : Nat} {av : List Nat} {f : FuncId} {xs : List AV} {H H' : Hp} {r : AV} (h : (ev E n).fn base av f xs H = some (r, H')) : Con P f xs H r H' :=
 (a67 E n n (le_refl _)).fn _ _ _ _ _ _ _ h
end Go.Lw
namespace Go.Lw
open Go.Proofs
abbrev fdC (l : Li) (known driven : List Bool) (r : List AV) : List AV := l.av.cells ++ (.lst 1 (known.map bl) :: .lst 1 (driven.map bl) :: r)
theorem a36 (j : Jt) (b : Int) : FnC prog 448 [j.av, i64 b] (i64 (ahs j b)) := by
 refine gF0 func448 ?_
 refine gC (fun ht6 => ?_) (fun ht6 => ?_)
 ·have h1 : b = j.a := al6 ht6
  refine gE1 ?_
  unfold ahs; rw [if_pos h1]
 ·have h1 : b ≠ j.a := amx ht6
  refine gC (fun ht12 => ?_) (fun ht12 => ?_)
  ·have h2 : b = j.b := al6 ht12
   refine gE1 ?_
   unfold ahs; rw [if_neg h1,if_pos h2]
  ·have h2 : b ≠ j.b := amx ht12
   refine gE1 ?_
   unfold ahs; rw [if_neg h1,if_neg h2]; rfl
theorem azh (j : Jt) (kind body : Int) (f : FuncId) (pre caps : List AV) (p : Int -> Bool) (hp : 0 <= ahs j body -> FnC prog f (pre ++ [i64 (ahs j body)] ++ caps) (bl (p (ahs j body)))) :
  FnC prog 447 [j.av,.iptr [i64 body],.iptr [i64 kind],.iptr [.cl f pre caps]] (bl (bjv kind body p j)) := by
 refine gF0 func447 ?_
 refine gc (a36 j body) ?_
 refine gcG (fun h => (hp (bn3 h))) ?_
 refine gE1 ?_
 exact congrArg bl bg7
theorem alr (bs : List Jt) (hl : bs.length <= 281474976710656) (f : FuncId) (pre caps : List AV) (ok : Nat -> Bool)
  (hf : ∀ (i : Nat) (b : Jt),bs[i]? = some b -> (∀ j,j < i -> ok j = true) -> FnC prog f (pre ++ [b.av] ++ caps) (bl (!ok i))) :
  FnC prog 446 [.lst 7 (bs.map Jt.av),.cl f pre caps] (i64 (ixI (adc bs.length ok))) := by
 refine gF0 func446 ?_
 refine gl ?_
 refine gL1 [0,1,7] [] (fun (i : Nat) => [(8,some (i64 i))]) (fun _ => []) (fun i => i <= bs.length /\ ∀ j,j < i -> ok j = true) (fun i => bs.length - i) 0 ⟨zero_le _,fun j h => by omega⟩ ?_
 rintro i ⟨hi,hj⟩ K1 hK1
 refine gC (fun ht9 => ?_) (fun ht9 => ?_)
 ·have hin := acr ht9
  obtain ⟨b,hb⟩ := adg hin
  refine gi (aap hb) ?_
  refine gc (hf i b hb hj) ?_
  refine gC (fun ht16 => ?_) (fun ht16 => ?_)
  ·have h2 := ajr ht16
   refine gE1 ?_
   rw [afn hin hj h2]; rfl
  ·have h2 := aj0 ht16
   refine ga abl ?_
   exact gK1 hK1 (i + 1) ⟨hin,fun j h9 => by rcases lt_or_ge j i with g | g; exact hj j g; (have : j = i:=by omega); subst this; exact h2⟩
 ·have hin := aa8 hi ht9
  subst hin
  refine gE1 ?_
  rw [aee hj]; rfl
theorem atl (l : Li) (hl : l.ok) (hli : liE l = 0) (Fd : List AV) (kind body : Int) (f : FuncId) (pre caps : List AV) (p : Int -> Bool)
  (hp : ∀ o : Int,0 <= o -> o < l.bodies.length -> FnC prog f (pre ++ [i64 o] ++ caps) (bl (p o))) :
  FnC prog 434 [.iptr (l.av.cells ++ Fd),i64 kind,i64 body,.cl f pre caps] (i64 (gJ l kind body p)) := by
 refine gF0 func434 ?_ (1,0)
 refine gW ((Wk.freezeB (k := 7) rfl rfl).trans <| (Wk.freezeB (k := 5) rfl rfl).trans <| (Wk.freezeB (k := 6) rfl rfl).trans <| Wk.o (sl := [(0,some (.iptr (l.av.cells ++ Fd))),(5,some (.iptr [i64 kind])),(6,some (.iptr [i64 body])),(7,some (.iptr [.cl f pre caps]))]) (hp := [])) ?_
 refine gc (Con.subA (.cons (.refl _) (.cons (ba7 rfl) .nil)) (alr l.joints hl.lj 447 [] [.iptr [i64 body],.iptr [i64 kind],.iptr [.cl f pre caps]] (fun i => !bjv kind body p (l.joints.getD i default)) (fun i b hb hj => by rw [Bool.not_not,abc hb]; exact azh b kind body f pre caps p (fun h => hp _ h (a9b hli hb body))))) ?_
 refine gE1 ?_
 rfl
theorem awb (l : Li) (known driven : List Bool) (r : List AV) (b : Int) (h0 : 0 <= b) (h1 : b < known.length) : FnC prog 444 [.iptr (fdC l known driven r), i64 b] (bl (kn known b)) := by
 obtain ⟨v,hv⟩ : ∃ v,known[b.toNat]? = some v := adg (by omega)
 have ev : kn known b = v := abc hv
 refine gF0 func444 ?_
 refine gi (aqc (n := b.toNat) (by omega) hv) ?_
 refine gE1 ?_
 rw [ev]
theorem amg (l : Li) (hl : l.ok) (hli : liE l = 0) (known driven : List Bool) (hk : known.length = l.bodies.length) (r : List AV) (kind body : Int) :
  FnC prog 432 [.iptr (fdC l known driven r),i64 kind,i64 body] (i64 (gJ l kind body (kn known))) := by
 refine gF0 func432 ?_
 refine gc (atl l hl hli _ kind body 444 [.iptr (fdC l known driven r)] [] (kn known) (fun o h0 h1 => awb l known driven r o h0 (by omega))) ?_
 refine gE1 ?_
 rfl
theorem a2y (o j : Int) : FnC prog 435 [i64 o, .iptr [i64 j]] (bl (decide (o = j))) := by
 refine gF0 func435 ?_
 refine gE1 ?_
 exact congrArg bl a03
theorem a7e (l : Li) (known driven : List Bool) (hd : driven.length = known.length) (r : List AV) (b : Int) (h0 : 0 <= b) (h1 : b < known.length) :
  FnC prog 436 [.iptr (fdC l known driven r),i64 b] (bl (!kn known b && !kn driven b)) := by
 obtain ⟨v,hv⟩ : ∃ v,known[b.toNat]? = some v := adg (by omega)
 have ev : kn known b = v := abc hv
 obtain ⟨u,hu⟩ : ∃ u,driven[b.toNat]? = some u := adg (by omega)
 have eu : kn driven b = u := abc hu
 refine gF0 func436 ?_
 refine gi (aqc (n := b.toNat) (by omega) hv) ?_
 refine giG (fun _ => (aqc (n := b.toNat) (by omega) hu)) ?_
 refine gE1 ?_
 rw [ev,eu]; exact congrArg bl (aiz _ _)
end Go.Lw
namespace Go.Lw
open Go.Proofs
theorem a0r (l : Li) (hl : l.ok) (hli : liE l = 0) (known driven : List Bool) (hk : known.length = l.bodies.length) (r : List AV) :
  FnC prog 401 [.iptr (fdC l known driven r)] (.tup [((ae8 l known).getD default).av,bl (ae8 l known).isSome]) := by
 have hld := hl.ld
 refine gF0 func401 ?_
 refine gl ?_
 refine gL1 [0,2,11,12] [2] (fun (i : Nat) => [(13,some (i64 i))]) (fun _ => []) (fun i => i <= l.drivers.length /\ ∀ j,j < i -> (!ap1 l known j) = true) (fun i => l.drivers.length - i) 0 ⟨zero_le _,fun j h => by omega⟩ ?_
 rintro i ⟨hi,hj⟩ K1 hK1
 refine gC (fun ht14 => ?_) (fun ht14 => ?_)
 ·have hin := acr ht14
  obtain ⟨d,hd⟩ := adg hin
  have hdd : l.drivers.getD i default = d := abc hd
  have hb := an4 (a3o hli hd)
  obtain ⟨v,hv⟩ : ∃ v,known[d.body.toNat]? = some v := adg (by omega)
  have ev : kn known d.body = v := abc hv
  have ej : gJ l 0 d.body (kn known) = ace l 0 d.body known := bci hli (fun o _ _ => rfl)
  refine gi (aap hd) ?_
  refine gi (aqc (n := d.body.toNat) (by omega) hv) ?_
  refine gD ?_
  refine gC (fun ht25 => ?_) (fun ht25 => ?_)
  ·have h2 : ap1 l known i = false := by unfold ap1; rw [hdd, ev, ht25]; rfl
   refine ga abl ?_
   exact gK1 hK1 (i + 1) ⟨hin,fun k h9 => by rcases lt_or_ge k i with g | g; exact hj k g; (have : k = i:=by omega); subst this; rw [h2]; rfl⟩
  ·have hv0 : v = false := ht25
   refine gc (show FnC _ _ _ (i64 (ace l 0 d.body known)) by rw [<- ej]; exact amg l hl hli known driven hk r 0 d.body) ?_
   refine gC (fun ht31 => ?_) (fun ht31 => ?_)
   ·have h2 : ap1 l known i = true := by unfold ap1; rw [hdd, ev, hv0, decide_eq_true (bkb ht31)]; rfl
    have hg : ae8 l known = some ⟨0,[d.body],[ace l 0 d.body known],i⟩:=by unfold ae8; rw [afn hin hj (by rw [h2]; rfl),<- hdd]; rfl
    refine gE2 ?_
    rw [hg]; rfl
   ·have h2 : ap1 l known i = false := by unfold ap1; rw [hdd, decide_eq_false (bmi ht31), Bool.and_false]
    refine ga abl ?_
    exact gK1 hK1 (i + 1) ⟨hin,fun k h9 => by rcases lt_or_ge k i with g | g; exact hj k g; (have : k = i:=by omega); subst this; rw [h2]; rfl⟩
 ·have hin := aa8 hi ht14
  subst hin
  have hg : ae8 l known = none:=by unfold ae8; rw [aee hj]; rfl
  refine gR ?_
  exact Fin.sub Fin.pure (by rw [hg]; exact Sub.tup (.cons awi (.cons (.refl _) .nil)))
theorem a3e (l : Li) (hli : liE l = 0) (known : List Bool) (hk : known.length = l.bodies.length) (r : List AV) (b : Nat) (h1 : b < l.bodies.length) :
  FnC prog 436 [.iptr (fdC l known (aau l) r),i64 b] (bl (akh l known b)) := by
 have h := a7e l known (aau l) (by rw [agx,hk]) r b (by omega) (by omega)
 rw [a22 hli (by omega)] at h
 exact h
theorem aw8 (l : Li) (hl : l.ok) (hli : liE l = 0) (known : List Bool) (hk : known.length = l.bodies.length) (r : List AV) (kind body : Int) :
  FnC prog 432 [.iptr (fdC l known (aau l) r),i64 kind,i64 body] (i64 (ace l kind body known)) := by
 have h := amg l hl hli known (aau l) hk r kind body
 rw [bci hli (fun o _ _ => rfl)] at h
 exact h
theorem azc (l : Li) (hl : l.ok) (hli : liE l = 0) (known : List Bool) (hk : known.length = l.bodies.length) (r : List AV) :
  FnC prog 403 [.iptr (fdC l known (aau l) r)] (.tup [((afk l known).getD default).av,bl (afk l known).isSome]) := by
 have h8 := (aeq hli).2.2.2.1
 refine gF0 func403 ?_
 refine gl ?_
 refine gL1 [0,2,12,13] [2] (fun (i : Nat) => [(14,some (i64 i))]) (fun _ => []) (fun i => i <= l.bodies.length /\ ∀ j,j < i -> (!ap2 l known j) = true) (fun i => l.bodies.length - i) 0 ⟨zero_le _,fun j h => by omega⟩ ?_
 rintro i ⟨hi,hj⟩ K1 hK1
 refine gC (fun ht15 => ?_) (fun ht15 => ?_)
 ·have hin := acr ht15
  refine gc (a3e l hli known hk r i hin) ?_
  refine gC (fun ht20 => ?_) (fun ht20 => ?_)
  ·have h2 : ap2 l known i = false := by unfold ap2; rw [ajr ht20]; rfl
   refine ga abl ?_
   exact gK1 hK1 (i + 1) ⟨hin,fun k h9 => by rcases lt_or_ge k i with g | g; exact hj k g; (have : k = i:=by omega); subst this; rw [h2]; rfl⟩
  ·have hf := aj0 ht20
   refine gc (aw8 l hl hli known hk r 0 i) ?_
   refine gc (aw8 l hl hli known hk r 1 i) ?_
   refine gC (fun ht32 => ?_) (fun ht32 => ?_)
   ·have h2 : ap2 l known i = false := by unfold ap2; rw [blo ht32, Bool.and_false]
    refine ga abl ?_
    exact gK1 hK1 (i + 1) ⟨hin,fun k h9 => by rcases lt_or_ge k i with g | g; exact hj k g; (have : k = i:=by omega); subst this; rw [h2]; rfl⟩
   ·obtain ⟨p0, s0⟩ := bmu ht32
    have s1 := (afr (l := l) (kind := 1) (body := i) (oth := known)).2
    have h2 : ap2 l known i = true:=by unfold ap2; rw [hf,decide_eq_true p0,decide_eq_true s0]; rfl
    obtain ⟨j,hjt⟩ : ∃ j,l.joints[(ace l 1 i known).toNat]? = some j := adg (by omega)
    have hjd : l.joints.getD (ace l 1 i known).toNat default = j := abc hjt
    have hg : afk l known = some (sgG l known i):=by unfold afk; rw [afn hin hj (by rw [h2]; rfl),Option.map_some]
    refine gi (aqc (n := (ace l 1 i known).toNat) (by omega) hjt) ?_
    refine gC (fun ht43 => ?_) (fun ht43 => ?_)
    ·have hji : j.a = i := al6 ht43
     refine gE2 ?_
     rw [hg]; unfold sgG; rw [hjd]; simp only [Option.getD_some,if_pos hji]; rfl
    ·have hji : j.a ≠ i := amx ht43
     refine gE2 ?_
     rw [hg]; unfold sgG; rw [hjd]; simp only [Option.getD_some,if_neg hji]; rfl
 ·have hin := aa8 hi ht15
  subst hin
  have hg : afk l known = none:=by unfold afk; rw [aee hj]; rfl
  refine gR ?_
  exact Fin.sub Fin.pure (by rw [hg]; exact Sub.tup (.cons awi (.cons (.refl _) .nil)))
theorem a43 (Fd : List AV) : FnC prog 433 [.iptr Fd] (.fn 445 [.iptr [.iptr Fd]]) := by
 refine gF0 func433 ?_ (1,0)
 refine gW ((Wk.freezeB (k := 1) rfl rfl).trans <| Wk.o (sl := [(1,some (.iptr [.iptr Fd]))]) (hp := [])) ?_
 refine gE1 ?_
 rfl
end Go.Lw
namespace Go.Lw
open Go.Proofs
def bj4 : Code -> Option (Array Tmp × Code × Code)
  | .rangeFunc _ ps x y => some (ps,x,y)
  | .seq a b => match bj4 a with
    | some r => some r
    | none => bj4 b
  | .block _ c => bj4 c
  | _ => none
def rgD (n : Nat) (o : Option Code) : LpD := match o with
  | some c => match bj4 c with
    | some (ps,x,y) => ⟨ps,x,y,n⟩
    | none => ⟨#[],.skip,.skip,0⟩
  | none => ⟨#[],.skip,.skip,0⟩
def pb0 (D : LpD) (Fd : List AV) (h : Bool) : Blk := .loop D (match h with | true => .done | false => .ready) (match h with | true => some .ret | false => none) [(1,some (.iptr [.iptr Fd])),(2,some (.ptr 1001 0)),(3,some (.ptr 1002 0))]
def pb1 (g : Gr) : Blk := .box [i64 g.kind,.lst 1 (g.bodies.map i64),.lst 1 (g.joints.map i64),i64 g.driver]
def pb2 (h : Bool) : Blk := .box [bl h]
def agp (D : LpD) (Fd : List AV) (h : Bool) (g : Gr) : Hp := [(1000,some (pb0 D Fd h)),(1001,some (pb1 g)),(1002,some (pb2 h))]
theorem ba5 {D : LpD} {Fd : List AV} {h : Bool} {g : Gr} {k : Nat} {z : Blk} (hz : lk (agp D Fd h g) k = some z) : 1000 <= k := by
 unfold agp at hz
 simp only [aad] at hz
 split at hz
 ·omega
 ·split at hz
  ·omega
  ·split at hz
   ·omega
   ·cases hz
theorem a6o {D : LpD} {Fd : List AV} {s : AS} (hs : ∀ k z, lk (agp D Fd false default) k = some z -> s.blk k = some z) :
  ∀ k ∈ (agp D Fd false default ++ ak7 (agp D Fd false default)).map (·.1),k ∈ (agp D Fd false default).map (·.1) /\ lk (agp D Fd false default ++ ak7 (agp D Fd false default)) k = s.blk k := by
 intro k hk
 have hk' : k = 1000 \/ k = 1001 \/ k = 1002 := by
  simp [agp,ak7] at hk
  omega
 rcases hk' with rfl | rfl | rfl
 ·exact ⟨by simp [agp],(hs _ _ rfl).symm⟩
 ·exact ⟨by simp [agp],(hs _ _ rfl).symm⟩
 ·exact ⟨by simp [agp],(hs _ _ rfl).symm⟩
theorem a24 {l : Li} {known : List Bool} {i k : Nat} (h : cond (akh l known i) (akh l known k) false = false) : aha l known i k = false := by
 rw [aiz] at h
 unfold aha
 rw [h]; rfl
theorem bmo {H R : Hp} {k : Nat} {z : Blk} (h : lk H k = some z) : lk (H ++ R) k = some z:=by rw [acq,if_pos (aa2 h)]; exact h
theorem fr1 {a b : Bool} (h : cond a b false = true) : a = true:=by cases a <;> simp_all
theorem fr2 {a b : Bool} (h : cond a b false = true) : b = true:=by cases a <;> simp_all
theorem azs (D : LpD) (l : Li) (hl : l.ok) (hli : liE l = 0) (known : List Bool) (hk : known.length = l.bodies.length) (r : List AV)
  (hy : ∀ i k : Nat, i < k -> k < l.bodies.length -> akh l known i = true -> akh l known k = true ->
   bjz prog 1000 [i64 i,i64 k] (agp D (fdC l known (aau l) r) false default) (bl (!aha l known i k)) (agp D (fdC l known (aau l) r) (aha l known i k) (cond (aha l known i k) (prG l known i k) default))) :
  Con prog 445 [.yl 1000,.iptr [.iptr (fdC l known (aau l) r)]] (agp D (fdC l known (aau l) r) false default) (.tup []) (agp D (fdC l known (aau l) r) (ajp l known).isSome ((ajp l known).getD default)) := by
 have h8 := (aeq hli).2.2.2.1
 refine gF func445 (fun k z h => ba5 h) ?_
 refine gl ?_
 refine gL1 [0,1,10] [1000,1001,1002] (fun (i : Nat) => [(11,some (i64 i))]) (fun _ => []) (fun i => i <= l.bodies.length /\ ∀ j,j < i -> (a8a l known j).isNone = true) (fun i => l.bodies.length - i) 0 ⟨zero_le _,fun j h => by omega⟩ ?_
 rintro i ⟨hi,hj⟩ K1 hK1
 refine gC (fun ht12 => ?_) (fun ht12 => ?_)
 ·have hin := acr ht12
  refine ga abl ?_
  refine gL1 [0,1,3,10,11] [] (fun (k : Nat) => [(4,some (i64 (i + 1 + k : Nat)))]) (fun _ => [(1000,some (pb0 D (fdC l known (aau l) r) false)),(1001,some (pb1 default)),(1002,some (pb2 false))]) (fun k => i + 1 + k <= l.bodies.length /\ ∀ j,j < k -> (!aha l known i (i + 1 + j)) = true) (fun k => l.bodies.length - k) 0 ⟨by omega,fun j h => by omega⟩ ?_
  rintro k ⟨hkl,hkj⟩ K2 hK2
  refine gl ?_
  refine gC (fun ht23 => ?_) (fun ht23 => ?_)
  ·have hkn : i + 1 + k < l.bodies.length := acr ht23
   refine gc (a3e l hli known hk r i hin) ?_
   refine gcG (fun _ => (a3e l hli known hk r (i + 1 + k) hkn)) ?_
   refine gs (axz rfl rfl rfl (by intro hb; have h0 : aha l known i (i + 1 + k) = false := a24 (by simpa using hb); simp only [h0,cond_false]; exact a6o (by intro k z h; exact h)) (fun hb => bbi (k := 1000) (.opt rfl (by rw [hb]; rfl)) (hy i (i + 1 + k) (by omega) hkn (fr1 hb) (fr2 hb)) (.cons (.opt rfl (by rw [hb]; rfl)) (.cons (.opt rfl (by rw [hb]; rfl)) .nil)) (by intro k z h; exact h) rfl rfl)) ?_
   refine gC (fun ht40 => ?_) (fun ht40 => ?_)
   ·have h2 : aha l known i (i + 1 + k) = true := by have h9 := fr2 ht40; rw [Bool.not_not] at h9; exact h9
    have hat : a8a l known i = some (i + 1 + k):=by unfold a8a; rw [afn (by omega) hkj (by rw [h2]; rfl),Option.map_some]; congr 1; omega
    have hg : ajp l known = some (prG l known i (i + 1 + k)):=by unfold ajp; rw [afn hin hj (by rw [hat]; rfl),Option.map_some,hat]
    refine gR ?_
    simp only [hg,h2,Option.isSome_some,Option.getD_some,cond_true]
    exact Fin.keep (fun k z h => bmo h)
   ·have h2 : aha l known i (i + 1 + k) = false := by cases hc : cond (akh l known i) (akh l known ((i + 1 + k : Nat) : Int)) false with | false => exact a24 hc | true => rw [hc, Bool.not_not] at ht40; exact ht40
    refine ga abl ?_
    exact gK1 hK2 (k + 1) ⟨by omega,fun j h9 => by rcases lt_or_ge j k with g | g; exact hkj j g; (have : j = k:=by omega); subst this; rw [h2]; rfl⟩ (hw := Wk.of abu (.cons rfl (BlkSub.of (by rw [h2])) (.cons rfl (BlkSub.of (by rw [h2]; rfl)) (.cons rfl (BlkSub.of (by rw [h2])) .nil))))
  ·have hkn : ¬ i + 1 + k < l.bodies.length := fun h => by have h1 := bgl ht23; omega
   have hat : a8a l known i = none:=by unfold a8a; rw [show l.bodies.length - (i + 1) = k by omega,aee hkj]; rfl
   refine ga abl ?_
   exact gK1 hK1 (i + 1) ⟨hin,fun j h9 => by rcases lt_or_ge j i with g | g; exact hj j g; (have : j = i:=by omega); subst this; rw [hat]; rfl⟩
 ·have hin := aa8 hi ht12
  have hg : ajp l known = none:=by unfold ajp; rw [<- hin,aee hj]; rfl
  refine gR ?_
  simp only [hg,Option.isSome_none,Option.getD_none]
  exact Fin.keep (fun k z h => h)
end Go.Lw
namespace Go.Lw
open Go.Proofs
theorem gZ {P : Program} {N : Nat} {Q : Exit -> AS -> Prop} {c : Code} {s : AS} (h : Gd P N Q (.code c [] s)) : AWP P N c Q s := h
theorem awt {P : Program} {N : Nat} {Q : Exit -> AS -> Prop} {c : Code} {s s' : AS} (hw : Wk s s') (h : a0v P N c Q s') : a0v P N c Q s := by
 intro C m a w n hro hN hr
 obtain ⟨m',hr'⟩ := hw C m a w hr
 exact h C m' a w n hro hN hr'
def swp (k : Nat) : Nat := bif Nat.beq k 1000 then 900 else bif Nat.beq k 900 then 1000 else bif Nat.beq k 1001 then 2 else bif Nat.beq k 2 then 1001 else bif Nat.beq k 1002 then 3 else bif Nat.beq k 3 then 1002 else k
theorem nb {a b : Nat} (h : ¬ a = b) : Nat.beq a b = false := by
 cases h1 : Nat.beq a b
 ·rfl
 ·exact absurd (eq_of_beq_eq_true h1) h
theorem bbl (k : Nat) : swp (swp k) = k := by
 by_cases h1 : k = 1000
 ·subst h1; rfl
 by_cases h2 : k = 900
 ·subst h2; rfl
 by_cases h3 : k = 1001
 ·subst h3; rfl
 by_cases h4 : k = 2
 ·subst h4; rfl
 by_cases h5 : k = 1002
 ·subst h5; rfl
 by_cases h6 : k = 3
 ·subst h6; rfl
 have e : swp k = k:=by simp only [swp,nb h1,nb h2,nb h3,nb h4,nb h5,nb h6,cond_false]
 rw [e,e]
theorem a86 (l : Li) (hl : l.ok) (hli : liE l = 0) (known : List Bool) (hk : known.length = l.bodies.length) (r : List AV) :
  FnC prog 402 [.iptr (fdC l known (aau l) r)] (.tup [((ajp l known).getD default).av,bl (ajp l known).isSome]) := by
 refine a4z (rs := Tryz.f402.results.toList) func402 rfl rfl (by simp) rfl (fun k z h => by cases h) ?_
 refine arw (gZ (go ?_))
 refine awt (s' := ⟨[(1,some (.iptr [.iptr (fdC l known (aau l) r)])),(2,some (.ptr 2 0)),(3,some (.ptr 3 0))],[(2,some (pb1 default)),(3,some (pb2 false))]⟩) ((Wk.freezeB (k := 1) rfl rfl).trans (Wk.of (.cons rfl (.refl _) (.cons rfl (.refl _) (.cons rfl (.refl _) .nil))) (.cons rfl (BlkSub.boxL (.cons (.refl _) (.cons (.nil _ _ _) (.cons (.nil _ _ _) (.cons (.refl _) .nil)))) rfl) (.cons rfl (.refl _) .nil)))) ?_
 refine a5u ?_
 refine arw (gZ (go ?_))
 refine gc (a43 (fdC l known (aau l) r)) ?_
 refine az6 ?_
 have hy : ∀ i k : Nat, i < k -> k < l.bodies.length -> akh l known i = true -> akh l known k = true ->
   bjz prog 1000 [i64 i,i64 k] (agp (rgD Tryz.f402.ntmps Tryz.f402.body) (fdC l known (aau l) r) false default) (bl (!aha l known i k)) (agp (rgD Tryz.f402.ntmps Tryz.f402.body) (fdC l known (aau l) r) (aha l known i k) (cond (aha l known i k) (prG l known i k) default)) := by
  intro i k hik hkn hfi hfk
  refine bdz (k := 1000) (fun k z h => ba5 h) rfl rfl (by intro p hp; have h9 : p ∈ [11,12] := hp; have h8 : p = 11 \/ p = 12 := (by simpa using h9); show p < 42; rcases h8 with h7 | h7 <;> (rw [h7]; decide)) ?_
  refine gZ (go ?_)
  refine ⟨rfl,_,_,rfl,?_⟩
  have hJ : gJ l 0 i (fun o => decide (o = (k : Int))) = ace l 0 i (ags l.bodies.length k) := bci hli (fun o h0 h1 => (bc6 h0 (by omega) (by omega)).symm)
  refine gZ (go ?_)
  refine gc (aw8 l hl hli known hk r 0 i) ?_
  refine gc (aw8 l hl hli known hk r 0 k) ?_
  refine gD ?_ (5,0)
  refine gW (Wk.freezeB (k := 5) rfl rfl) ?_
  refine gc (r := i64 (ace l 0 i (ags l.bodies.length k))) (by rw [<- hJ]; exact Con.subA (.cons (.refl _) (.cons (.refl _) (.cons (.refl _) (.cons (ba7 rfl) .nil)))) (atl l hl hli _ 0 i 435 [] [.iptr [i64 k]] (fun o => decide (o = (k : Int))) (fun o h0 h1 => a2y o k))) ?_
  refine gC (fun ht => ?_) (fun ht => ?_)
  ·have h2 : aha l known i k = true := by unfold aha; rw [hfi, hfk]; exact (a54.symm.trans ht)
   rw [h2]
   exact ⟨_,_,rfl,Fin.keep (by intro q z h; simp only [agp,aad] at h; split at h; (subst_vars; exact h); split at h; (subst_vars; exact h); split at h; (subst_vars; exact h); cases h)⟩
  ·have h2 : aha l known i k = false := by unfold aha; rw [hfi, hfk]; exact (a54.symm.trans ht)
   rw [h2]
   exact ⟨_,_,rfl,Fin.keep (by intro q z h; simp only [agp,aad] at h; split at h; (subst_vars; exact h); split at h; (subst_vars; exact h); split at h; (subst_vars; exact h); cases h)⟩
 have hcon := Con.pm bbl (azs _ l hl hli known hk r hy)
 cases hg : ajp l known with
 | none =>
  rw [hg] at hcon
  refine aqu (k := 900) (sl0 := [(1,some (.iptr [.iptr (fdC l known (aau l) r)])),(2,some (.ptr 2 0)),(3,some (.ptr 3 0))]) (.tmp rfl) (by intro t x h; simp only [aad] at h; split at h; (subst_vars; exact h); split at h; (subst_vars; exact h); split at h; (subst_vars; exact h); cases h) rfl rfl hcon (fun k' z h => h) rfl rfl rfl rfl (by intro h; cases h) (.inl ⟨rfl,?_⟩)
  refine arw (gZ (go ?_))
  refine AWP.out (gZ (go ?_))
  refine gR ?_
  exact Fin.sub Fin.pure (Sub.tup (.cons awi (.cons (.refl _) .nil)))
 | some g =>
  rw [hg] at hcon
  refine aqu (k := 900) (sl0 := [(1,some (.iptr [.iptr (fdC l known (aau l) r)])),(2,some (.ptr 2 0)),(3,some (.ptr 3 0))]) (.tmp rfl) (by intro t x h; simp only [aad] at h; split at h; (subst_vars; exact h); split at h; (subst_vars; exact h); split at h; (subst_vars; exact h); cases h) rfl rfl hcon (fun k' z h => h) rfl rfl rfl rfl (by intro h; cases h) (.inr ⟨rfl,?_⟩)
  exact (gE2 (P := prog) (N := Tryz.f402.ntmps) (e := .ret) rfl)
end Go.Lw
namespace Go.Lw
open Go.Proofs
theorem awv {α : Type} {o : Option α} (h : o.isSome = true) : ∃ x,o = some x:=by cases o <;> simp_all
theorem avd {α : Type} {o : Option α} (h : o.isSome = false) : o = none:=by cases o <;> simp_all
theorem a7k (l : Li) (hl : l.ok) (hli : liE l = 0) (known : List Bool) (hk : known.length = l.bodies.length) (r : List AV) :
  FnC prog 348 [.iptr (fdC l known (aau l) r)] (.tup [((afz l known).getD default).av,bl (afz l known).isSome]) := by
 refine gF0 func348 ?_
 refine gc (a0r l hl hli known (aau l) hk r) ?_
 refine gC (fun ht13 => ?_) (fun ht13 => ?_)
 ·obtain ⟨g, hg⟩ := awv ht13
  refine gE2 ?_
  unfold afz; rw [hg]; rfl
 ·have hg := avd ht13
  refine gc (a86 l hl hli known hk r) ?_
  refine gC (fun ht20 => ?_) (fun ht20 => ?_)
  ·obtain ⟨g, hg2⟩ := awv ht20
   refine gE2 ?_
   unfold afz; rw [hg,hg2]; rfl
  ·have hg2 := avd ht20
   refine gc (azc l hl hli known hk r) ?_
   refine gE2 ?_
   unfold afz; rw [hg,hg2]; rfl
end Go.Lw
namespace Go.Lw
open Go.Proofs
end Go.Lw
namespace Go.Lw
open Go.Proofs
end Go.Lw
namespace Go.Lw
open Go.Proofs
end Go.Lw
namespace Go.Lw
open Go.Proofs
theorem am5 {α : Type} {f : α -> List Int} : ∀ (gs : List α) (k : List Bool), (gs.foldl (fun k g => abb k (f g)) k).length = k.length
 | [],k => rfl
 | g :: gs,k => by rw [List.foldl_cons,am5 gs,aeo]
end Go.Lw
namespace Go.Lw
variable {P : Program} {N : Nat} {R : Array Oper} {s : AS}
theorem avz {d : Nat} {x : Operand} {n : Nat} {z : Value} {T E t : TypeId} {ti te : TI} {pos : String} {after : Array Edge} (hx : Ev s x (.v (.int .i64 n)))
    (hT : aae P T = some ti) (hk : ti.k = .slice E) (hE : aae P E = some te) (hz : te.zero = [z]) (hz1 : z.oneCell' = true) (hs : Nat.beq te.size 1 = true) (hbb : Nat.blt 0 te.bytes = true)
    (hb : (n : Int) * te.bytes <= 281474976710656) (hN : Nat.blt d N = true) :
    Step P N R s ⟨some d, .makeSlice T x x, t, pos, after, none⟩
      ⟨some (.ms d 1 0 n),[(d,some (.vec (List.replicate n z)))],aaj x,[]⟩ :=
  akv rfl rfl hN (by simp) fun s' hag hfr C m a w hr => by
    have hxv := ake hr (hx.agree hag (fun _ h => h))
    have hs := eq_of_beq_eq_true hs
    rw [Nat.blt_eq] at hbb
    obtain ⟨d2,h3,h4,-,-⟩ := abj hT w
    obtain rfl := ab8 (h4.trans hk)
    obtain ⟨zv,h5,h6⟩ := aka hE w
    obtain ⟨ie,h7,h8,-⟩ := amk hE w
    have h6' : zv.cells.toList = [z] := h6.trans hz
    have hzc : zv.cells = #[z]:=by rw [<- Array.toArray_toList (xs := zv.cells),h6']
    have hnb : (n : Int) <= 281474976710656 := by
      have : (n : Int) * 1 <= n * te.bytes := Int.mul_le_mul_of_nonneg_left (by omega) (by omega)
      omega
    have hw1 : IntKind.i64.wrap (n : Int) = n := IntWalk.i64_in n (by omega)
    obtain ⟨zero,hzero⟩ : ∃ zero : Array Value,zero = (if n * te.size = 0 then #[] else zv.cells) := ⟨_,rfl⟩
    refine ⟨.slice (some ⟨w.heap.size,0,none⟩) n n,(Array.range (n * te.size)).map (zero[· % zero.size]!),E,w.drawn,?_,?_,?_,?_⟩
    · have hmk : (Instr.makeSlice T (.int .i64 n) (.int .i64 n)).run P w =
          .ok (.slice (some ⟨w.heap.size,0,none⟩) n n) { w with heap := w.heap.push (.cells ((Array.range (n * te.size)).map (zero[· % zero.size]!)) E) } := by
        have hc : ¬ (((n : Int) < 0 \/ 281474976710656 < (ie.bytes : Int) * n) \/ (n : Int) < 0) := by
          rw [h8,Int.mul_comm]; omega
        simp only [Instr.makeSlice,Sem.run_bind,h3,Result.andThen_ok,asInt,asIntOf,Sem.run_pure,h7,hw1]
        rw [if_neg (by simpa using hc)]
        simp only [Sem.run_bind,run_askRoom,Result.andThen_ok,aa6 hE,Int.toNat_natCast]
        by_cases h0 : n * te.size = 0
        · rw [if_pos h0] at hzero ⊢
          subst hzero
          simp only [Sem.run_bind,Sem.run_pure,Result.andThen_ok,newRow,run_newObj]
        · rw [if_neg h0] at hzero ⊢
          subst hzero
          simp only [Sem.run_bind,Sem.run_pure,Result.andThen_ok,h5,newRow,run_newObj]
      simp only [execOp,hxv,Sem.run_bind,hmk,Result.andThen_ok,Sem.run_pure]
    · exact fun h => h
    · intro g S m' w' hg hS hm hw
      refine .vec hw ?_ (fun v hv => by rw [List.eq_of_mem_replicate hv]; exact hz1)
      apply List.ext_getElem?
      intro j
      rw [Array.getElem?_toList,List.getElem?_replicate]
      by_cases hj : j < n
      · have hpos : ¬ n * te.size = 0 := by rw [hs]; omega
        rw [if_neg hpos,hzc] at hzero
        subst hzero
        rw [if_pos hj]
        simp only [Array.getElem?_map,Array.getElem?_range,show j < n * te.size by rw [hs]; omega,if_true,Option.map_some,Option.some.injEq]
        simp [Nat.mod_one]
      · rw [if_neg hj,Array.getElem?_eq_none (by simp [hs]; omega)]
    · intro g S m' hm hS
      have := Rep.ms (g := g) (S := S) (m := m') (k := d) (sz := 1) (off := 0) (len := n) (cap := n) hm (le_refl _) (by simpa [hs] using hS)
      simpa using this
theorem asq {x y : Operand} {k i : Nat} {vs : List Value} {v : Value} {T t : TypeId} {ti : TI} {pos : String} {after : Array Edge}
  (hx : Ev s x (.eptr k 1 i 0)) (hk : s.blk k = some (.vec vs)) (hi : i < vs.length) (hy : Ev s y (.v v)) (hv : v.oneCell' = true) (hT : aae P T = some ti) (hsz : Nat.beq ti.size 1 = true) :
  Step P N R s ⟨none,.store T x y,t,pos,after,none⟩ ⟨none,[(k,some (.vec (vs.set i v)))],aaj x ++ aaj y,[k]⟩ :=
 alw rfl rfl (by simp) hk fun s' hag C m a w hr => by
  have hsz := eq_of_beq_eq_true hsz
  obtain ⟨b,hm,hxv⟩ := akk hr (hx.agree hag (fun _ h => List.mem_append.2 (.inl h)))
  have hyv := ake hr (hy.agree hag (fun _ h => List.mem_append.2 (.inr h)))
  have hb := hr.heap.blk k _ ((hag.2 k (by simp)).trans hk)
  rw [hm] at hb
  cases hb with
  | @vec _ _ c t2 hw hc h1 =>
   have hcs : c.size = vs.length:=by rw [<- hc]; simp
   have hvc : v.cells = #[v]:=by cases v <;> simp_all [Value.cells,Value.oneCell']
   refine ⟨b,c,(over c.toList i v.cells.toList).toArray,t2,hm,hw,?_,?_,?_⟩
   ·simp [over,hvc]; omega
   ·have hrun := aie (P := P) (off := i) (v := v) hT hw (by rw [hvc, hsz]; rfl) (by omega) (by rw [hvc]; simpa using hv)
    simp [execOp,Instr.storeAt,hxv,Instr.sureAddr,hyv,hrun]
   ·intro g S w' hg hS hw'
    refine .vec hw' ?_ (fun u hu => ?_)
    ·rw [hc, hvc]
     unfold over
     rw [List.set_eq_take_append_cons_drop,if_pos hi]
     simp
    ·rcases List.mem_or_eq_of_mem_set hu with h9 | h9
     ·exact h1 u h9
     ·rw [h9]; exact hv
inductive Lent (H : Hp) (hid : List Nat) : AV -> AV -> Prop
  | same {x : AV} (h : x.nm = []) : Lent H hid x x
  | ms {k off len : Nat} {vs : List Value} (hk : lk H k = some (.vec vs)) (hh : k ∉ hid) (hl : off + len <= vs.length) (hm : vs.length <= acf) : Lent H hid (.ms k 1 off len) (.lst 1 (((vs.drop off).take len).map .v))
theorem bfa {g : Nat -> Array Value -> Prop} {S : Nat -> Nat -> Prop} {m : Nat -> Option Nat} {u y : Value} (h : Rep g S m u (.v y)) : u = y:=by cases h; rfl
theorem aru {m : Nat -> Option Nat} {b : Nat} : ¬ Own [] m b:=by rintro ⟨k,x,h,_⟩; cases h
def bet (ext : Nat -> Prop) (H : Hp) (hid : List Nat) (m : Nat -> Option Nat) (b : Nat) : Prop := ext b \/ ∃ k z,k ∈ hid /\ lk H k = some z /\ m k = some b
theorem bea {ext : Nat -> Prop} {H : Hp} {hid : List Nat} {m m2 : Nat -> Option Nat} {w : World} {b : Nat} {cs : Array Value} (h : Im ext H m w b cs) : Im (bet ext H hid m) [] m2 w b cs :=
 ⟨fun h' => h'.elim h.1 (fun ⟨k,z,_,hz,hb⟩ => h.2.1 ⟨k,z,hz,hb⟩),aru,h.2.2⟩
theorem a1l {ext : Nat -> Prop} {H : Hp} {hid : List Nat} {m : Nat -> Option Nat} {w : World} (hh : HeapRel ext H m w) {k b : Nat} {z : Blk} (hk : lk H k = some z) (hb : m k = some b) (hn : k ∉ hid) : ¬ bet ext H hid m b := by
 rintro (h | ⟨k',z',h1,h2,h3⟩)
 ·exact (hh.sep k z b hk hb).1 h
 ·have := hh.inj k k' z z' b hk h2 hb h3
  subst this; exact hn h1
theorem Lent.rep {ext : Nat -> Prop} {H : Hp} {hid : List Nat} {m : Nat -> Option Nat} {w : World} (hh : HeapRel ext H m w) {x x' : AV} (h : Lent H hid x x') :
  ∀ {v : Value},Rep (Im ext H m w) (Sz w) m v x -> ∀ m2 : Nat -> Option Nat,Rep (Im (bet ext H hid m) [] m w) (Sz w) m2 v x' := by
 cases h with
 | same hn => intro v hv m2; exact (agl hn hv).mono (fun _ _ h => bea h) (fun _ _ h => h) (fun _ _ _ h => h)
 | @ms k off len vs hk hnh hl hm =>
  intro v hr m2
  have hb := hh.blk k _ hk
  cases hr with
  | ms0 a => simp only [List.take_zero]; exact .lst0 _ _ _
  | @ms _ _ _ _ _ cap b hmk hc hS =>
   rw [hmk] at hb
   cases hb with
   | @vec _ _ c t hw hcv h1 =>
    have hcs : c.size = vs.length:=by rw [<- hcv]; simp
    have hlen : (((vs.drop off).take len).map AV.v).length = len:=by rw [length_map,length_take,List.length_drop]; omega
    have he' : ∀ (i : Nat) (e : AV), (((vs.drop off).take len).map AV.v)[i]? = some e -> ∃ u, e = .v u /\ c[off + i]? = some u /\ u ∈ vs := by
     intro i e he
     rw [getElem?_map,map_eq_some_iff] at he
     obtain ⟨u,he,rfl⟩ := he
     rw [getElem?_take] at he
     split at he
     ·rw [getElem?_drop] at he
      exact ⟨u,rfl,by rw [<- Array.getElem?_toList,hcv]; exact he,mem_of_getElem? he⟩
     ·cases he
    have := Rep.lst (g := Im (bet ext H hid m) [] m w) (S := Sz w) (m := m2) (b := b) (off := off) (cap := cap) (sz := 1) (es := ((vs.drop off).take len).map AV.v) (cs := c) (fun i j => c.getD (off + i) undef)
     ⟨a1l hh hk hmk hnh,aru,t,(0,0),hw⟩ (by omega) (by omega) ?_ ?_ ?_ ?_
    ·rw [hlen] at this; simpa using this
    ·intro i e he
     obtain ⟨u,rfl,_⟩ := he' i e he; rfl
    ·intro i j e x he hx
     obtain ⟨u,rfl,_,hm⟩ := he' i e he
     cases j with
     | zero => cases hx; exact h1 u hm
     | succ j => cases hx
    ·intro i j e x he hx
     obtain ⟨u,rfl,hu,_⟩ := he' i e he
     cases j with
     | zero => rw [Nat.mul_one,Nat.add_zero,getD_eq_getD_getElem?,hu]; rfl
     | succ j => cases hx
    ·intro i j e x he hx
     obtain ⟨u,rfl,hu,_⟩ := he' i e he
     cases j with
     | zero => cases hx; rw [getD_eq_getD_getElem?,hu]; exact .v _
     | succ j => cases hx
def bhj : AV -> Bool
  | .v (.int _ _) => true
  | _ => false
def bhg : AV -> Bool
  | .v (.int _ _) => false
  | .v _ => true
  | .lst _ _ => true
  | .ms _ _ _ _ => true
  | _ => false
mutual
def AV.li : AV -> Bool
  | .v _ => true
  | .agg cs => AV.lis cs
  | .tup cs => AV.lis cs
  | .lst sz es => Nat.beq sz 1 && es.all bhj
  | _ => false
def AV.lis : List AV -> Bool
  | [] => true
  | x :: l => x.li && AV.lis l
end
theorem AV.lis_mem : ∀ {l : List AV} {c : AV}, AV.lis l = true -> c ∈ l -> c.li = true
 | x :: l, c, h, hc => by
  simp only [AV.lis,and_eq_true] at h
  rcases List.mem_cons.1 hc with rfl | hc
  ·exact h.1
  ·exact AV.lis_mem h.2 hc
theorem a4i {g : Nat -> Array Value -> Prop} {S : Nat -> Nat -> Prop} {m : Nat -> Option Nat} {u : Value} {x : AV} (hx : bhg x = true) (h : Rep g S m u x) (kk : IntKind) (z : Int) : u ≠ .int kk z := by
 rintro rfl
 cases h <;> cases hx
theorem bgw {g g' : Nat -> Array Value -> Prop} {S S' : Nat -> Nat -> Prop} {m m' : Nat -> Option Nat} {v : Value} {x : AV} (hx : x.li = true)
  (hg : ∀ b cs (o : Nat) (kk : IntKind) (z : Int),cs[o]? = some (.int kk z) -> g b cs -> g' b cs) (h : Rep g S m v x) : Rep g' S' m' v x := by
 induction h with
 | v => exact .v _
 | agg hn h1 hr ih => exact .agg hn h1 (fun j u c hu hc => ih j u c hu hc (AV.lis_mem hx (mem_of_getElem? hc)))
 | tup hn hr ih => exact .tup hn (fun j u c hu hc => ih j u c hu hc (AV.lis_mem hx (mem_of_getElem? hc)))
 | lst0 a cap sz => exact .lst0 _ _ _
 | @lst _ b off cap sz es cs u hb hc hl hs h1 hu hr _ =>
  simp only [AV.li,and_eq_true] at hx
  have hsz := eq_of_beq_eq_true hx.1
  subst hsz
  match es,hx,hc,hl,hs,h1,hu,hr with
  | [],_,_,_,_,_,_,_ => exact .lst0 _ _ _
  | e :: es, hx, hc, hl, hs, h1, hu, hr =>
   have hcell : ∀ (i j : Nat) (e' c : AV), (e :: es)[i]? = some e' -> e'.cells[j]? = some c -> ∃ kk z, c = .v (.int kk z) := by
    intro i j e' c he hc'
    have h9 := List.all_eq_true.1 hx.2 e' (mem_of_getElem? he)
    cases e' with
    | v y => cases y with
     | int kk z =>
      cases j with
      | zero => cases hc'; exact ⟨_,_,rfl⟩
      | succ j => cases hc'
     | _ => cases h9
    | _ => cases h9
   have he0 : ∃ kk z, e = .v (.int kk z) := by
    have h9 := List.all_eq_true.1 hx.2 e (by simp)
    cases e with
    | v y => cases y with
     | int kk z => exact ⟨_,_,rfl⟩
     | _ => cases h9
    | _ => cases h9
   obtain ⟨kk,z,rfl⟩ := he0
   have h8 := hu 0 0 _ _ rfl rfl
   have h7 := hr 0 0 _ _ rfl rfl
   have h6 : u 0 0 = .int kk z := bfa h7
   rw [h6] at h8
   refine .lst u (hg b cs _ kk z h8 hb) hc hl hs h1 hu (fun i j e' c he hc' => ?_)
   obtain ⟨k2,z2,rfl⟩ := hcell i j e' c he hc'
   rw [bfa (hr i j _ _ he hc')]; exact .v _
 | _ => cases hx
theorem Con.lend {f : FuncId} {k : Nat} {cs : List AV} {cs' : Value -> List AV} {H : Hp} {r : AV} (hid : List Nat) (j0 : Nat) (hk : lk H k = some (.box cs)) (hkh : k ∉ hid)
  (hc : ∀ v : Value, v.oneCell' = true -> (cs' v).length = cs.length /\ (∀ (j : Nat) (x : AV), (cs' v)[j]? = some x -> x.one = true) /\
   ∀ (j : Nat) (x x' : AV),cs[j]? = some x -> (cs' v)[j]? = some x' -> (j = j0 /\ x' = .v v) \/ Lent H hid x x')
  (hj : j0 < cs.length)
  (hH : ∀ k z,lk H k = some z -> k ∈ hid \/ (∃ cs,z = .box cs /\ cs.all bhg = true) \/ ∃ vs,z = .vec vs /\ ∀ v ∈ vs,∀ kk z,v ≠ .int kk z) (hr : r.li = true) (h : ∀ v : Value,FnC P f [.iptr (cs' v)] r) : Con P f [.ptr k 0] H r H := by
 refine ⟨(h undef).ok,?_⟩
 intro ext m w vs hext hheap hvs hrep
 have hsz : 0 < vs.size:=by rw [hvs]; exact Nat.one_pos
 have hr0 := hrep 0 vs[0] _ (Array.getElem?_eq_getElem hsz) rfl
 have hb := hheap.blk k _ hk
 generalize hv0 : vs[0] = v0 at hr0
 cases hr0 with
 | @ptr _ _ _ b hmk =>
  rw [hmk] at hb
  cases hb with
  | @box _ _ c t hw hn h1 hrr =>
   have hj0 : j0 < c.size:=by omega
   have hx0 := getElem?_eq_getElem (l := cs) (i := j0) (by omega)
   have hone : (c[j0]).oneCell' = true := (hrr j0 _ _ (Array.getElem?_eq_getElem hj0) hx0).one (h1 j0 _ hx0)
   obtain ⟨g1,g2,g3⟩ := hc c[j0] hone
   have hext' : ∀ b, bet ext H hid m b -> b < w.heap.size := by
    rintro b (h9 | ⟨k',z',_,h2,h3⟩)
    ·exact hext b h9
    ·exact (hheap.sep k' z' b h2 h3).2
   have hcall := (h c[j0]).ret (bet ext H hid m) m w vs hext' ⟨fun k z hz => by (cases hz), fun k k' x x' b hx => by (cases hx), fun k x b hx => by (cases hx)⟩ (by rw [hvs]; rfl) (by
    intro j v x hv hx
    match j,hx with
    | 0, hx =>
     cases hx
     rw [Array.getElem?_eq_getElem hsz,hv0] at hv
     cases hv
     refine .iptr (cs := c) (fun j => c.getD j undef) ⟨a1l hheap hk hmk hkh,aru,t,(0,0),hw⟩ g2 ?_ ?_
     ·intro j x hx
      have hlt : j < c.size:=by rw [hn,<- g1]; exact (List.getElem?_eq_some_iff.1 hx).1
      rw [Nat.zero_add,getD_eq_getD_getElem?,Array.getElem?_eq_getElem hlt]; rfl
     ·intro j x hx
      have hlt : j < c.size:=by rw [hn,<- g1]; exact (List.getElem?_eq_some_iff.1 hx).1
      obtain ⟨y,hy⟩ := aa3 g1 hx
      have hcv : c[j]? = some (c.getD j undef):=by rw [getD_eq_getD_getElem?,Array.getElem?_eq_getElem hlt]; rfl
      rcases g3 j y x hy hx with ⟨rfl,rfl⟩ | hl
      ·have : c.getD j undef = c[j] := by rw [Array.getElem?_eq_getElem hlt] at hcv; exact (Option.some.inj hcv).symm
       rw [this]; exact .v _
      ·exact hl.rep hheap (hrr j _ y hcv hy) abz)
   refine Calls.mono hcall ?_
   rintro e w' ⟨v,m',rfl,hf,hh,hnew,hkeep,hres⟩
   have hkeepB : ∀ b,b < w.heap.size -> w'.heap[b]? = w.heap[b]? := fun b hb => hf.keep b hb aru
   have hframe : Frame (Own H m) w w' := ⟨hf.os,hf.tape,hf.output,hf.size,hf.sz,fun b hb _ => hkeepB b hb⟩
   have him := ab1 (ext := ext) hframe (hp' := H) (m' := m) (fun k x b hk hb => .inl ⟨k,x,hk,hb⟩)
   refine ⟨v,m,rfl,hframe,⟨?_,hheap.inj,?_⟩,fun k x b hk hb => .inl ⟨k,x,hk,hb⟩,fun _ _ _ _ _ => rfl,?_⟩
   ·intro k z hz
    exact BlkRep.mono (w := w) him hf.sz (fun _ _ _ h => h) rfl (fun b hb => hkeepB b (hheap.sep k z b hz hb).2) (hheap.blk k z hz)
   ·intro k z b hz hb
    have := hheap.sep k z b hz hb
    exact ⟨this.1,lt_of_lt_of_le this.2 hf.size⟩
   ·refine bgw hr ?_ hres
    rintro b2 cs2 o kk z ho ⟨g1,g2,t2,fl,g3⟩
    refine ⟨fun h9 => g1 (.inl h9),?_,t2,fl,g3⟩
    rintro ⟨k2,y,hk2,hb2⟩
    have hlt := fun b hb => (hheap.sep k2 _ b hk2 hb).2
    have h3 := hheap.blk k2 _ hk2
    rw [hb2] at h3
    rcases hH k2 y hk2 with h9 | ⟨cl,rfl,hcl⟩ | ⟨vs2,rfl,hvl⟩
    ·exact g1 (.inr ⟨k2,y,h9,hk2,hb2⟩)
    ·cases h3 with
     | @box _ _ c2 t' hw2 hn2 h12 hrr2 =>
      have hcc : c2 = cs2 := by
       rw [hkeepB b2 (hlt b2 hb2),hw2] at g3
       injection g3 with g3
       injection g3
      subst hcc
      have ho' : o < c2.size := (Array.getElem?_eq_some_iff.1 ho).1
      have hx := getElem?_eq_getElem (l := cl) (i := o) (by omega)
      exact a4i (List.all_eq_true.1 hcl _ (mem_of_getElem? hx)) (hrr2 o _ _ ho hx) kk z rfl
    ·cases h3 with
     | @vec _ _ c2 t' hw2 hc2 h12 =>
      have hcc : c2 = cs2 := by
       rw [hkeepB b2 (hlt b2 hb2),hw2] at g3
       injection g3 with g3
       injection g3
      subst hcc
      have : Value.int kk z ∈ vs2:=by rw [<- hc2]; exact Array.mem_toList_iff.2 (Array.mem_of_getElem? ho)
      exact hvl _ this kk z rfl
end Go.Lw
namespace Go.Lw
open Go.Proofs
def bv (xs : List Bool) : List Value := xs.map .bool
theorem ae2 (xs : List Bool) : (bv xs).length = xs.length := length_map _
theorem ay9 (xs : List Bool) (n : Nat) : (bv xs).set n (.bool true) = bv (xs.set n true):=by unfold bv; rw [map_set]
theorem bel (xs : List Bool) : ∀ v ∈ bv xs, ∀ kk z, v ≠ .int kk z := by
 intro v hv kk z
 obtain ⟨b,_,rfl⟩ := List.mem_map.1 hv
 exact fun h => by cases h
theorem a7n (xs : List Bool) : (bv xs).map AV.v = xs.map bl:=by unfold bv; rw [map_map]; rfl
theorem a3u (n : Nat) : List.replicate n (Value.bool false) = bv (List.replicate n false):=by unfold bv; rw [map_replicate]
theorem bdy (xs : List Int) : (xs.map i64).all bhj = true := by
 rw [all_eq_true]
 intro x hx
 obtain ⟨b,_,rfl⟩ := List.mem_map.1 hx
 rfl
theorem bmn (g : Gr) (b : Bool) : (AV.tup [g.av, bl b]).li = true := by
 simp only [AV.li,AV.lis,Gr.av,bdy]
 rfl
def fdB (l : Li) (n : Nat) : Blk := .box (l.av.cells ++ [.ms 23 1 0 l.bodies.length,.ms 27 1 0 l.bodies.length,.ms 31 1 0 l.joints.length,.ms 900 4 0 n])
def fdH (l : Li) (known used : List Bool) (out : List Gr) : Hp :=
  [(33,some (fdB l out.length)),(23,some (.vec (bv known))),(27,some (.vec (bv (aau l)))),(31,some (.vec (bv used))),(900,some (.row 4 (out.map Gr.av)))]
theorem a57 {xs : List Bool} {n : Nat} (h : xs.length = n) : AV.lst 1 ((((bv xs).drop 0).take n).map .v) = .lst 1 (xs.map bl) := by
 rw [drop_zero,take_of_length_le (by rw [ae2]; omega),a7n]
theorem ao2 (l : Li) (hl : l.ok) (hli : liE l = 0) (known used : List Bool) (hk : known.length = l.bodies.length) (hu : used.length = l.joints.length) (hm : l.bodies.length <= acf /\ l.joints.length <= acf) (out : List Gr) :
  Con prog 348 [.ptr 33 0] (fdH l known used out) (.tup [((afz l known).getD default).av,bl (afz l known).isSome]) (fdH l known used out) := by
 refine Con.lend (cs := l.av.cells ++ [.ms 23 1 0 l.bodies.length, .ms 27 1 0 l.bodies.length, .ms 31 1 0 l.joints.length, .ms 900 4 0 out.length])
  (cs' := fun v => fdC l known (aau l) [.lst 1 (used.map bl),.v v]) [900] 7 rfl (by decide) ?_ (by simp [Li.av,AV.cells]) ?_ (bmn _ _) (fun v => a7k l hl hli known hk _)
 ·intro v hv
  refine ⟨rfl,?_,?_⟩
  ·intro j x hx
   match j,hx with
   | 0,hx => cases hx; rfl
   | 1,hx => cases hx; rfl
   | 2,hx => cases hx; rfl
   | 3,hx => cases hx; rfl
   | 4,hx => cases hx; rfl
   | 5,hx => cases hx; rfl
   | 6,hx => cases hx; rfl
   | 7,hx => cases hx; exact hv
   | j + 8,hx => cases hx
  ·intro j x x' hx hx'
   match j,hx,hx' with
   | 0,hx,hx' => cases hx; cases hx'; exact .inr (.same rfl)
   | 1,hx,hx' => cases hx; cases hx'; exact .inr (.same rfl)
   | 2,hx,hx' => cases hx; cases hx'; exact .inr (.same rfl)
   | 3,hx,hx' => cases hx; cases hx'; exact .inr (.same rfl)
   | 4, hx, hx' =>
    cases hx; cases hx'
    have h := Lent.ms (H := fdH l known used out) (hid := [900]) (k := 23) (off := 0) (len := l.bodies.length) (vs := bv known) rfl (by decide) (by rw [ae2]; omega) (by rw [ae2]; omega)
    rw [a57 hk] at h
    exact .inr h
   | 5, hx, hx' =>
    cases hx; cases hx'
    have h := Lent.ms (H := fdH l known used out) (hid := [900]) (k := 27) (off := 0) (len := l.bodies.length) (vs := bv (aau l)) rfl (by decide) (by rw [ae2,agx]; omega) (by rw [ae2,agx]; omega)
    rw [a57 (agx l)] at h
    exact .inr h
   | 6, hx, hx' =>
    cases hx; cases hx'
    have h := Lent.ms (H := fdH l known used out) (hid := [900]) (k := 31) (off := 0) (len := l.joints.length) (vs := bv used) rfl (by decide) (by rw [ae2]; omega) (by rw [ae2]; omega)
    rw [a57 hu] at h
    exact .inr h
   | 7,hx,hx' => cases hx; cases hx'; exact .inl ⟨rfl,rfl⟩
   | j + 8,hx,hx' => cases hx
 ·intro k z hz
  simp only [fdH,aad] at hz
  split at hz
  ·cases hz; exact .inr (.inl ⟨_,rfl,rfl⟩)
  split at hz
  ·cases hz; exact .inr (.inr ⟨_,rfl,bel _⟩)
  split at hz
  ·cases hz; exact .inr (.inr ⟨_,rfl,bel _⟩)
  split at hz
  ·cases hz; exact .inr (.inr ⟨_,rfl,bel _⟩)
  split at hz
  ·subst_vars; exact .inl (by decide)
  ·cases hz
def fdR (l : Li) : AV := if liE l = 0 then .iptr (fdC l (age l) (aau l) [.lst 1 ((ap9 l).map bl),.lst 4 ((afd l).map Gr.av)]) else .v (.pointer none)
def al3 (l : Li) (out : List Gr) : List Bool := out.foldl (fun k g => abb k g.joints) (List.replicate l.joints.length false)
theorem arm (l : Li) (out : List Gr) : (al3 l out).length = l.joints.length:=by unfold al3; rw [am5,List.length_replicate]
theorem a76 (l : Li) (out : List Gr) (g : Gr) : al3 l (out ++ [g]) = abb (al3 l out) g.joints:=by unfold al3; rw [List.foldl_append]; rfl
theorem an9 {k : List Bool} {bs : List Int} {i : Nat} {b : Int} (h : bs[i]? = some b) : abb k (bs.take (i + 1)) = (abb k (bs.take i)).set b.toNat true := by
 unfold abb
 rw [aah h,List.foldl_append]; rfl
theorem a00 {l : Li} (hli : liE l = 0) {known : List Bool} {out : List Gr} {g : Gr} (hk : known.length = l.bodies.length) (h : abi l (unk known) known out = (age l, afd l)) (hg : afz l known = some g) :
  abi l (unk (abb known g.bodies)) (abb known g.bodies) (out ++ [g]) = (age l,afd l) := by
 have hlt := agv hli hk hg
 obtain ⟨n,hn⟩ : ∃ n,unk known = n + 1 := ⟨unk known - 1,by omega⟩
 rw [hn] at h
 unfold abi at h
 rw [hg] at h
 rw [<- h]
 exact ahd hli _ _ _ _ (by rw [aeo]; exact hk) (le_refl _) (by omega)
theorem a73 {l : Li} {known : List Bool} {out : List Gr} (h : abi l (unk known) known out = (age l, afd l)) (hg : afz l known = none) : known = age l /\ out = afd l := by
 cases hn : unk known with
 | zero => rw [hn] at h; exact ⟨(Prod.mk.inj h).1,(Prod.mk.inj h).2⟩
 | succ n => rw [hn] at h; unfold abi at h; rw [hg] at h; exact ⟨(Prod.mk.inj h).1,(Prod.mk.inj h).2⟩
theorem a8o {n : Nat} : unk (ags n 0) <= n := by
 unfold unk
 exact le_trans List.countP_le_length (Nat.le_of_eq (akw _ _))
theorem a0h {l : Li} (hli : liE l = 0) : abi l (unk (ags l.bodies.length 0)) (ags l.bodies.length 0) [] = (age l, afd l) := by
 rw [<- az0]
 exact ahd hli _ _ _ _ (akw _ _) (le_refl _) a8o
theorem bfd {l : Li} (hli : liE l = 0) {known : List Bool} {out : List Gr} (hk : known.length = l.bodies.length) (h : abi l (unk known) known out = (age l, afd l)) : out.length <= 8 := by
 obtain ⟨gs,e⟩ := agh (l := l) (unk known) known out
 rw [e] at h
 have h1 := (a8j hli).2
 have h2 : out ++ gs = afd l := (Prod.mk.inj h).2
 rw [<- h2,length_append] at h1; omega
theorem a5p (l : Li) (known used : List Bool) (out : List Gr) (hk : known.length = l.bodies.length) (hu : used.length = l.joints.length) (hm : l.bodies.length <= acf /\ l.joints.length <= acf) :
  Wk ⟨[(5,some (.ptr 33 0))],fdH l known used out⟩ ⟨[(5,some (.iptr (fdC l known (aau l) [.lst 1 (used.map bl),.lst 4 (out.map Gr.av)])))],[]⟩ := by
 have hd := agx l
 have q1 : .ms 23 1 0 l.bodies.length = AV.ms 23 1 0 ((bv known).map AV.v).length:=by rw [length_map,ae2,hk]
 refine (Wk.of (sl := [(5, some (.ptr 33 0))]) (hp := [(33, some (fdB l out.length)), (23, some (.row 1 ((bv known).map .v))), (27, some (.row 1 ((bv (aau l)).map .v))), (31, some (.row 1 ((bv used).map .v))), (900, some (.row 4 (out.map Gr.av)))])
  (.k .nil) (.cons rfl (.refl _) (.cons rfl (.vecRow (by rw [ae2]; omega)) (.cons rfl (.vecRow (by rw [ae2]; omega)) (.cons rfl (.vecRow (by rw [ae2]; omega)) (.cons rfl (.refl _) .nil)))))).trans ?_
 refine (Wk.freeze (k := 23) rfl).trans ?_
 refine (Wk.of (sl := [(5, some (.ptr 33 0))]) (hp := [(33, some (.box (l.av.cells ++ [.lst 1 (known.map bl), .ms 27 1 0 l.bodies.length, .ms 31 1 0 l.joints.length, .ms 900 4 0 out.length]))), (27, some (.row 1 ((bv (aau l)).map .v))), (31, some (.row 1 ((bv used).map .v))), (900, some (.row 4 (out.map Gr.av)))])
  (.k .nil) (.cons rfl (BlkSub.boxL (.cons (.refl _) (.cons (.refl _) (.cons (.refl _) (.cons (.refl _) (.cons (.of ((acb (by rw [length_map,ae2,hk])).trans (by rw [a7n]))) (.cons (.refl _) (.cons (.refl _) (.cons (.refl _) .nil)))))))) rfl) (.cons rfl (.refl _) (.cons rfl (.refl _) (.cons rfl (.refl _) .nil))))).trans ?_
 refine (Wk.freeze (k := 27) rfl).trans ?_
 refine (Wk.of (sl := [(5, some (.ptr 33 0))]) (hp := [(33, some (.box (l.av.cells ++ [.lst 1 (known.map bl), .lst 1 ((aau l).map bl), .ms 31 1 0 l.joints.length, .ms 900 4 0 out.length]))), (31, some (.row 1 ((bv used).map .v))), (900, some (.row 4 (out.map Gr.av)))])
  (.k .nil) (.cons rfl (BlkSub.boxL (.cons (.refl _) (.cons (.refl _) (.cons (.refl _) (.cons (.refl _) (.cons (.refl _) (.cons (.of ((acb (by rw [length_map,ae2,hd])).trans (by rw [a7n]))) (.cons (.refl _) (.cons (.refl _) .nil)))))))) rfl) (.cons rfl (.refl _) (.cons rfl (.refl _) .nil)))).trans ?_
 refine (Wk.freeze (k := 31) rfl).trans ?_
 refine (Wk.of (sl := [(5, some (.ptr 33 0))]) (hp := [(33, some (.box (l.av.cells ++ [.lst 1 (known.map bl), .lst 1 ((aau l).map bl), .lst 1 (used.map bl), .ms 900 4 0 out.length]))), (900, some (.row 4 (out.map Gr.av)))])
  (.k .nil) (.cons rfl (BlkSub.boxL (.cons (.refl _) (.cons (.refl _) (.cons (.refl _) (.cons (.refl _) (.cons (.refl _) (.cons (.refl _) (.cons (.of ((acb (by rw [length_map,ae2,hu])).trans (by rw [a7n]))) (.cons (.refl _) .nil)))))))) rfl) (.cons rfl (.refl _) .nil))).trans ?_
 refine (Wk.freeze (k := 900) rfl).trans ?_
 refine (Wk.of (sl := [(5, some (.ptr 33 0))]) (hp := [(33, some (.box (fdC l known (aau l) [.lst 1 (used.map bl), .lst 4 (out.map Gr.av)])))])
  (.k .nil) (.cons rfl (BlkSub.boxL (.cons (.refl _) (.cons (.refl _) (.cons (.refl _) (.cons (.refl _) (.cons (.refl _) (.cons (.refl _) (.cons (.refl _) (.cons (.of (acb (by rw [length_map]))) .nil)))))))) rfl) .nil)).trans ?_
 refine (Wk.freezeB (k := 33) rfl rfl).trans ?_
 exact Wk.of (.k .nil) .nil
theorem a7w (l : Li) (hl : l.ok) : FnC prog 260 [l.av] (.tup [fdR l, afe (liE l)]) := by
 refine gF0 func260 ?_
 refine gc (alg l hl) ?_
 refine gC (fun ht17 => ?_) (fun ht17 => ?_)
 ·have h1 := acy ht17
  refine gE2 ?_
  unfold fdR; rw [if_neg h1]
 ·have hli := ach ht17
  have h8 := (aeq hli).2.2.2.1
  have h0 := (aeq hli).2.2.2.2
  have hj16 : l.joints.length <= 16:=by have := (aeq hli).2.1; unfold axh at this; split at this; cases this; omega
  have hld := hl.ld
  have hm : l.bodies.length <= acf /\ l.joints.length <= acf:=by unfold acf; omega
  refine gl ?_
  refine gs (avz (.tmp rfl) T162 rfl T4 rfl rfl rfl rfl (by dsimp only; omega) rfl) ?_
  refine gl ?_
  refine gs (avz (.tmp rfl) T162 rfl T4 rfl rfl rfl rfl (by dsimp only; omega) rfl) ?_
  refine gl ?_
  refine gs (avz (.tmp rfl) T162 rfl T4 rfl rfl rfl rfl (by dsimp only; omega) rfl) ?_
  refine gD ?_
  refine gs (aas (n := 0) (.tmp rfl) (.const _) T162 rfl T4 rfl rfl (by omega) rfl) ?_
  refine gs (asq (.tmp rfl) rfl (by rw [List.length_replicate]; omega) (.const _) rfl T4 rfl) ?_ (6,0)
  refine gW (Wk.of (sl := [(1,some (.ptr 1 0)),(5,some (.ptr 33 0))]) (hp := [(1,some (.box l.av.cells)),(33,some (.box (l.av.cells ++ [.ms 23 1 0 l.bodies.length,.ms 27 1 0 l.bodies.length,.ms 31 1 0 l.joints.length,.v (.slice none 0 0)]))),(23,some (.vec (bv (ags l.bodies.length 0)))),(27,some (.vec (bv (List.replicate l.bodies.length false)))),(31,some (.vec (bv (List.replicate l.joints.length false))))]) abu (.cons rfl (.refl _) (.cons rfl (.refl _) (.cons rfl (BlkSub.of (by rw [a3u,ay9]; rfl)) (.cons rfl (BlkSub.of (by rw [a3u])) (.cons rfl (BlkSub.of (by rw [a3u])) .nil)))))) ?_
  refine gl ?_
  refine gL1 [1,5,40,41] [1,23,31] (fun (i : Nat) => [(42,some (i64 i))]) (fun i => [(33,some (.box (l.av.cells ++ [.ms 23 1 0 l.bodies.length,.ms 27 1 0 l.bodies.length,.ms 31 1 0 l.joints.length,.v (.slice none 0 0)]))),(27,some (.vec (bv (abb (List.replicate l.bodies.length false) ((l.drivers.map Dr.body).take i)))))]) (fun i => i <= l.drivers.length) (fun i => l.drivers.length - i) 0 (zero_le _) ?_
  rintro i hi K1 hK1
  refine gC (fun ht43 => ?_) (fun ht43 => ?_) (st2 := (11,0))
  ·have hin := acr ht43
   obtain ⟨d,hd⟩ := adg hin
   have hb := an4 (a3o hli hd)
   have hmt := an9 (k := List.replicate l.bodies.length false) (bs := l.drivers.map Dr.body) (i := i) (b := d.body) (by rw [getElem?_map,hd]; rfl)
   refine gi (aap hd) ?_
   refine gs (aas (n := d.body.toNat) (.tmp rfl) (.tmp rfl) T162 rfl T4 rfl (by omega) (by omega) rfl) ?_
   refine gs (asq (.tmp rfl) rfl (by rw [ae2,aeo,List.length_replicate]; omega) (.const _) rfl T4 rfl) ?_
   refine gD ?_
   refine ga abl ?_
   exact gK1 hK1 (i + 1) hin (hw := Wk.of abu (.cons rfl (.refl _) (.cons rfl (BlkSub.of (by rw [ay9,hmt])) (.cons rfl (.refl _) (.cons rfl (.refl _) (.cons rfl (.refl _) .nil))))))
  ·have hin := aa8 hi ht43
   have hall : abb (List.replicate l.bodies.length false) ((l.drivers.map Dr.body).take i) = aau l:=by rw [hin]; unfold aau; rw [take_of_length_le (by rw [length_map]; omega)]
   refine gW ((Wk.virt 900 4 rfl).trans <| Wk.of (sl := [(1,some (.ptr 1 0)),(5,some (.ptr 33 0))]) (hp := [(33,some (fdB l 0)),(23,some (.vec (bv (ags l.bodies.length 0)))),(27,some (.vec (bv (aau l)))),(31,some (.vec (bv (List.replicate l.joints.length false)))),(900,some (.row 4 []))]) abu (.cons rfl (BlkSub.boxL (.cons (.refl _) (.cons (.refl _) (.cons (.refl _) (.cons (.refl _) (.cons (.refl _) (.cons (.refl _) (.cons (.refl _) (.cons (Sub.nilMs _ _ _) .nil)))))))) rfl) (.cons rfl (.refl _) (.cons rfl (BlkSub.of (by rw [hall])) (.cons rfl (.refl _) (.cons rfl (.refl _) .nil)))))) ?_
   refine gt (aam (ao2 l hl hli (ags l.bodies.length 0) (List.replicate l.joints.length false) (akw _ _) List.length_replicate hm []) (.cons (.tmp rfl) .nil) (fun k z h => h) rfl rfl) ?_
   refine gL2 [5,8] [] (fun (known : List Bool) (out : List Gr) => [(9,some (bl (afz l known).isSome))]) (fun known out => [(8,some (.box ((afz l known).getD default).av.cells)),(33,some (fdB l out.length)),(23,some (.vec (bv known))),(27,some (.vec (bv (aau l)))),(31,some (.vec (bv (al3 l out)))),(900,some (.row 4 (out.map Gr.av)))]) (fun known out => known.length = l.bodies.length /\ abi l (unk known) known out = (age l,afd l)) (fun known _ => unk known) (ags l.bodies.length 0) ([]) ⟨akw _ _,a0h hli⟩ ?_
   rintro known out ⟨hk,hf⟩ K2 hK2
   refine gC (fun ht59 => ?_) (fun ht59 => ?_) (st1 := (77777,0)) (st2 := (27,0))
   ·obtain ⟨g, hg⟩ := awv ht59
    have hgo := ax5 hli hg
    have hout := bfd hli hk hf
    refine gW (Wk.of (sl := [(5,some (.ptr 33 0)),(8,some (.ptr 8 0))]) (hp := [(8,some (.box g.av.cells)),(33,some (fdB l out.length)),(23,some (.vec (bv known))),(27,some (.vec (bv (aau l)))),(31,some (.vec (bv (al3 l out)))),(900,some (.row 4 (out.map Gr.av)))]) abu (.cons rfl (BlkSub.of (by rw [hg]; rfl)) (.cons rfl (.refl _) (.cons rfl (.refl _) (.cons rfl (.refl _) (.cons rfl (.refl _) (.cons rfl (.refl _) .nil))))))) ?_
    refine gl ?_
    refine gL1 [5,8,66,67] [8,33,27,31,900] (fun (j : Nat) => [(68,some (i64 j))]) (fun j => [(23,some (.vec (bv (abb known (g.bodies.take j)))))]) (fun j => j <= g.bodies.length) (fun j => g.bodies.length - j) 0 (zero_le _) ?_
    rintro j hj K3 hK3
    refine gC (fun ht69 => ?_) (fun ht69 => ?_)
    ·have hin := acr ht69
     obtain ⟨b,hb⟩ := adg hin
     have hbb := hgo.b b (mem_of_getElem? hb)
     have hlb := hgo.lb
     refine gi (aap hb) ?_
     refine gs (aas (n := b.toNat) (.tmp rfl) (.tmp rfl) T162 rfl T4 rfl (by omega) (by omega) rfl) ?_
     refine gs (asq (.tmp rfl) rfl (by rw [ae2,aeo]; omega) (.const _) rfl T4 rfl) ?_
     refine ga abl ?_
     exact gK1 hK3 (j + 1) hin (hw := Wk.of abu (.cons rfl (BlkSub.of (by rw [ay9,an9 hb])) (.cons rfl (.refl _) (.cons rfl (.refl _) (.cons rfl (.refl _) (.cons rfl (.refl _) (.cons rfl (.refl _) .nil)))))))
    ·have hin := aa8 hj ht69
     subst hin
     refine gl ?_
     refine gL1 [5,8,80,81] [8,33,27,900] (fun (q : Nat) => [(82,some (i64 q))]) (fun q => [(23,some (.vec (bv (abb known g.bodies)))),(31,some (.vec (bv (abb (al3 l out) (g.joints.take q)))))]) (fun q => q <= g.joints.length) (fun q => g.joints.length - q) 0 (zero_le _) ?_ (h2 := (.cons rfl (BlkSub.of (by rw [take_length])) (.cons rfl (.refl _) .nil)))
     rintro q hq K4 hK4
     refine gC (fun ht83 => ?_) (fun ht83 => ?_)
     ·have hin := acr ht83
      obtain ⟨b,hb⟩ := adg hin
      have hbb := hgo.j b (mem_of_getElem? hb)
      have hlj := hgo.lj
      refine gi (aap hb) ?_
      refine gs (aas (n := b.toNat) (.tmp rfl) (.tmp rfl) T162 rfl T4 rfl (by omega) (by omega) rfl) ?_
      refine gs (asq (.tmp rfl) rfl (by rw [ae2,aeo,arm]; omega) (.const _) rfl T4 rfl) ?_
      refine ga abl ?_
      exact gK1 hK4 (q + 1) hin (hw := Wk.of abu (.cons rfl (.refl _) (.cons rfl (BlkSub.of (by rw [ay9,an9 hb])) (.cons rfl (.refl _) (.cons rfl (.refl _) (.cons rfl (.refl _) (.cons rfl (.refl _) .nil)))))))
     ·have hin := aa8 hq ht83
      subst hin
      refine gs (abq (.tmp rfl) rfl (by rw [length_map]) (.tmp rfl) T86 rfl T129 rfl rfl (by simp only [length_cons,length_nil]; omega) rfl rfl) ?_
      refine gD ?_ (25,0)
      refine gW (Wk.of (sl := [(5,some (.ptr 33 0)),(8,some (.ptr 8 0))]) (hp := [(8,some (.box g.av.cells)),(33,some (.box (l.av.cells ++ [.ms 23 1 0 l.bodies.length,.ms 27 1 0 l.bodies.length,.ms 31 1 0 l.joints.length,.ms 100 4 0 (out ++ [g]).length]))),(100,some (.row 4 ((out ++ [g]).map Gr.av))),(23,some (.vec (bv (abb known g.bodies)))),(27,some (.vec (bv (aau l)))),(31,some (.vec (bv (al3 l (out ++ [g])))))]) abu (.cons rfl (.refl _) (.cons rfl (BlkSub.of (by rw [length_append]; rfl)) (.cons rfl (BlkSub.of (by rw [map_append]; rfl)) (.cons rfl (.refl _) (.cons rfl (.refl _) (.cons rfl (BlkSub.of (by rw [a76,take_length])) .nil))))))) ?_ (25,0)
      refine gW (Wk.rekey (k := 100) (d := 900) rfl rfl) ?_ (26,0)
      refine gW (Wk.o (sl := [(5,some (.ptr 33 0)),(103,some (g.av))]) (hp := [(33,some (fdB l (out ++ [g]).length)),(23,some (.vec (bv (abb known g.bodies)))),(27,some (.vec (bv (aau l)))),(31,some (.vec (bv (al3 l (out ++ [g]))))),(900,some (.row 4 ((out ++ [g]).map Gr.av)))])) ?_
      refine gt (aam (ao2 l hl hli (abb known g.bodies) (al3 l (out ++ [g])) (by rw [aeo]; exact hk) (arm _ _) hm (out ++ [g])) (.cons (.tmp rfl) .nil) (by intro k z h; simp only [fdH,aad] at h; split at h; (subst_vars; exact h); split at h; (subst_vars; exact h); split at h; (subst_vars; exact h); split at h; (subst_vars; exact h); split at h; (subst_vars; exact h); cases h) rfl rfl) ?_
      exact gK2 hK2 (abb known g.bodies) (out ++ [g]) ⟨by rw [aeo]; exact hk,a00 hli hk hf hg⟩ (agv hli hk hg)
   ·have hg := avd ht59
    obtain ⟨e1,e2⟩ := a73 hf hg
    subst e1 e2
    refine gW (Wk.o (sl := [(5,some (.ptr 33 0))]) (hp := [(33,some (fdB l (afd l).length)),(23,some (.vec (bv (age l)))),(27,some (.vec (bv (aau l)))),(31,some (.vec (bv (al3 l (afd l))))),(900,some (.row 4 ((afd l).map Gr.av)))])) ?_ (27,0)
    refine gW (a5p l (age l) (al3 l (afd l)) (afd l) hk (arm _ _) hm) ?_
    refine gE2 ?_
    unfold fdR; rw [if_pos hli,hli]; rfl
end Go.Lw
namespace Go.Lw
open Go.Proofs
theorem bab {α : Type} [BEq α] [LawfulBEq α] {xs : List α} {b : α} {ok : Nat -> Bool} (h : ∀ i x, xs[i]? = some x -> ok i = !(b == x)) : decide (0 <= ixI (adc xs.length ok)) = xs.contains b := by
 cases hf : adc xs.length ok with
 | some i =>
  obtain ⟨h1,h2⟩ := aca hf
  obtain ⟨x,hx⟩ := adg h1
  rw [h i x hx] at h2
  have : b = x:=by simpa using h2
  subst this
  rw [List.contains_iff_mem.2 (mem_of_getElem? hx)]
  exact decide_eq_true (by show (0 : Int) <= (i : Int); omega)
 | none =>
  rw [decide_eq_false (by show ¬ (0 : Int) <= -1; decide)]
  symm
  rw [<- Bool.not_eq_true,List.contains_iff_mem]
  intro hm
  obtain ⟨i,hi⟩ := List.mem_iff_getElem?.1 hm
  have hlt := (List.getElem?_eq_some_iff.1 hi).1
  unfold adc at hf
  rw [List.find?_eq_none] at hf
  have := hf i (List.mem_range.2 hlt)
  rw [h i b hi] at this
  simp at this
theorem as4 (xs : List Bool) (b : Bool) (hl : xs.length <= 281474976710656) : FnC prog 349 [.lst 1 (xs.map bl), bl b] (i64 (ixI (adc xs.length (fun i => !(b == xs.getD i false))))) := by
 refine gF0 func349 ?_
 refine gl ?_
 refine gL1 [0,1,7] [] (fun (i : Nat) => [(8,some (i64 i))]) (fun _ => []) (fun i => i <= xs.length /\ ∀ j,j < i -> (!(b == xs.getD j false)) = true) (fun i => xs.length - i) 0 ⟨zero_le _,fun j h => by omega⟩ ?_
 rintro i ⟨hi,hj⟩ K1 hK1
 refine gC (fun ht9 => ?_) (fun ht9 => ?_)
 ·have hin := acr ht9
  obtain ⟨x,hx⟩ := adg hin
  have hg : xs.getD i false = x := abc hx
  refine gi (aap hx) ?_
  refine gC (fun ht16 => ?_) (fun ht16 => ?_)
  ·have h2 : (b == x) = true := ht16
   refine gE1 ?_
   rw [afn hin hj (by rw [hg,h2]; rfl)]; rfl
  ·have h2 : (b == x) = false := ht16
   refine ga abl ?_
   exact gK1 hK1 (i + 1) ⟨hin,fun j h9 => by rcases lt_or_ge j i with g | g; exact hj j g; (have : j = i:=by omega); subst this; rw [hg,h2]; rfl⟩
 ·have hin := aa8 hi ht9
  subst hin
  refine gE1 ?_
  rw [aee hj]; rfl
theorem ah5 (xs : List Bool) (b : Bool) (hl : xs.length <= 281474976710656) : FnC prog 261 [.lst 1 (xs.map bl), bl b] (bl (xs.contains b)) := by
 refine gF0 func261 ?_
 refine gc (as4 xs b hl) ?_
 refine gE1 ?_
 rw [<- bab (xs := xs) (b := b) (ok := fun i => !(b == xs.getD i false)) (fun i x hx => by rw [abc hx])]; rfl
theorem av3 (xs : List Int) (b : Int) (hl : xs.length <= 281474976710656) : FnC prog 352 [.lst 1 (xs.map i64), i64 b] (i64 (ixI (adc xs.length (fun i => !(b == xs.getD i 0))))) := by
 refine gF0 func352 ?_
 refine gl ?_
 refine gL1 [0,1,7] [] (fun (i : Nat) => [(8,some (i64 i))]) (fun _ => []) (fun i => i <= xs.length /\ ∀ j,j < i -> (!(b == xs.getD j 0)) = true) (fun i => xs.length - i) 0 ⟨zero_le _,fun j h => by omega⟩ ?_
 rintro i ⟨hi,hj⟩ K1 hK1
 refine gC (fun ht9 => ?_) (fun ht9 => ?_)
 ·have hin := acr ht9
  obtain ⟨x,hx⟩ := adg hin
  have hg : xs.getD i 0 = x := abc hx
  refine gi (aap hx) ?_
  refine gC (fun ht16 => ?_) (fun ht16 => ?_)
  ·have h2 : (b == x) = true := ht16
   refine gE1 ?_
   rw [afn hin hj (by rw [hg,h2]; rfl)]; rfl
  ·have h2 : (b == x) = false := ht16
   refine ga abl ?_
   exact gK1 hK1 (i + 1) ⟨hin,fun j h9 => by rcases lt_or_ge j i with g | g; exact hj j g; (have : j = i:=by omega); subst this; rw [hg,h2]; rfl⟩
 ·have hin := aa8 hi ht9
  subst hin
  refine gE1 ?_
  rw [aee hj]; rfl
theorem ajc (xs : List Int) (b : Int) (hl : xs.length <= 281474976710656) : FnC prog 264 [.lst 1 (xs.map i64), i64 b] (bl (xs.contains b)) := by
 refine gF0 func264 ?_
 refine gc (av3 xs b hl) ?_
 refine gE1 ?_
 rw [<- bab (xs := xs) (b := b) (ok := fun i => !(b == xs.getD i 0)) (fun i x hx => by rw [abc hx])]; rfl
theorem a1k (l : Li) (hl : l.ok) : FnC prog 144 [l.av] (.tup [.lst 4 (((if liE l = 0 then ayz l else [])).map Gr.av), afe (if liE l = 0 then aof l else liE l)]) := by
 refine gF0 func144 ?_
 refine gc (a7w l hl) (hnm := (by unfold fdR; split <;> rfl)) ?_
 refine gC (fun ht12 => ?_) (fun ht12 => ?_) (st2 := (77777,0))
 ·have h1 := acy ht12
  refine gR ?_
  exact acl (by rw [if_neg h1,if_neg h1]; exact Sub.tup (.cons (.nil _ _ _) (.cons (.refl _) .nil)))
 ·have hli := ach ht12
  have h8 := (aeq hli).2.2.2.1
  have hj16 : l.joints.length <= 16:=by have := (aeq hli).2.1; unfold axh at this; split at this; cases this; omega
  have lk1 : (age l).length = l.bodies.length:=by unfold age; rw [am5,akw]
  have lk2 : (ap9 l).length = l.joints.length:=by unfold ap9; rw [am5,List.length_replicate]
  have e1 : fdR l = .iptr (fdC l (age l) (aau l) [.lst 1 ((ap9 l).map bl),.lst 4 ((afd l).map Gr.av)]):=by unfold fdR; rw [if_pos hli]
  have c1 := ayt (k := age l)
  have c2 := ayt (k := ap9 l)
  refine gW (Wk.of (sl := [(4,some (.iptr (fdC l (age l) (aau l) [.lst 1 ((ap9 l).map bl),.lst 4 ((afd l).map Gr.av)]))),(5,some (afe (liE l)))]) (hp := []) (.cons rfl (Sub.of e1) (.k .nil)) .nil) ?_
  refine gc (ah5 (age l) false (by omega)) ?_
  refine gcG (fun _ => (ah5 (ap9 l) false (by omega))) ?_
  refine gC (fun ht25 => ?_) (fun ht25 => ?_)
  ·have h2 : aof l = 7 := by
    unfold aof
    rw [if_neg]
    intro h
    have h3 : (age l).contains false = false := c1.1 (by omega)
    have h4 : (ap9 l).contains false = false := c2.1 (by omega)
    rw [h3,h4] at ht25; cases ht25
   refine gR ?_
   exact acl (by rw [if_pos hli,if_pos hli]; unfold ayz; rw [if_neg (by rw [h2]; simp),h2]; exact Sub.tup (.cons (.nil _ _ _) (.cons (.refl _) .nil)))
  ·have h2 : aof l = 0 := by
    unfold aof
    rw [if_pos]
    cases h3 : (age l).contains false <;> cases h4 : (ap9 l).contains false <;> rw [h3,h4] at ht25 <;> first | (cases ht25; done) | (have g1 := c1.2 h3; have g2 := c2.2 h4; omega)
   refine gE2 ?_
   rw [if_pos hli,if_pos hli,h2]; unfold ayz; rw [if_pos h2]; rfl
end Go.Lw
namespace Go.Lw
open Go.Proofs
theorem be5 {l : Li} {g : Gr} {i : Nat} {z : Int} {j : Jt} (hz : g.joints[i]? = some z) (hj : l.joints[z.toNat]? = some j) : (a0e l g)[i]? = some (anc g j) := by
 unfold a0e; rw [getElem?_map,hz,Option.map_some,abc hj]
theorem arl {l : Li} {g : Gr} {i : Nat} {z : Int} {j : Jt} {a : Int} (hz : g.joints[i]? = some z) (hj : l.joints[z.toNat]? = some j) (ha : anc g j = a) : ((a0e l g).take i).map i64 ++ [i64 a] = ((a0e l g).take (i + 1)).map i64 := by
 rw [aah (be5 hz hj),ha,map_append]; rfl
theorem be3 {z : Int} {n : Nat} (h0 : 0 <= z) (h1 : z < n) : cond (aab .lss z 0) true (aab .geq z (n : Int)) = false := by
 rw [show aab .lss z 0 = false from decide_eq_false (by omega)]
 exact decide_eq_false (by omega)
theorem av2 (l : Li) (hl : l.ok) (hli : liE l = 0) (g : Gr) (hg : GrOk l g) : Con prog 146 [l.av, g.av] [] (.tup [.ms 900 1 0 g.joints.length, .v .nilIface]) [(900, some (.row 1 ((a0e l g).map i64)))] := by
 have hlb := hg.lb
 have hlj := hg.lj
 refine gF func146 (fun k z h => by cases h) ?_
 refine gc (alg l hl) ?_
 refine gC (fun ht16 => ?_) (fun ht16 => ?_) (st1 := (3,0))
 ·(rw [hli] at ht16; cases ht16)
 ·refine gl ?_
  refine gW ((Wk.virt 900 1 rfl).trans <| Wk.of (sl := [(2,some (.ptr 2 0)),(3,some (.ptr 3 0)),(7,some (.ms 900 1 0 0)),(19,some (.lst 1 (g.joints.map i64))),(20,some (i64 g.joints.length)),(21,some (i64 0))]) (hp := [(2,some (.box l.av.cells)),(3,some (.box g.av.cells)),(900,some (.row 1 []))]) (.k (.k (.cons rfl (Sub.nilMs _ _ _) (.k (.k (.k .nil)))))) (.cons rfl (.refl _) (.cons rfl (.refl _) (.cons rfl (.refl _) .nil)))) ?_
  refine gL1 [2,3,19,20] [2,3] (fun (i : Nat) => [(7,some (.ms 900 1 0 i)),(21,some (i64 i))]) (fun i => [(900,some (.row 1 (((a0e l g).take i).map i64)))]) (fun i => i <= g.joints.length) (fun i => g.joints.length - i) 0 (zero_le _) ?_
  rintro i hi K1 hK1
  refine gC (fun ht22 => ?_) (fun ht22 => ?_) (st2 := (18,0))
  ·have hin := acr ht22
   obtain ⟨z,hz⟩ := adg hin
   obtain ⟨z0,z1⟩ := hg.j z (mem_of_getElem? hz)
   obtain ⟨j,hj⟩ : ∃ j,l.joints[z.toNat]? = some j := adg (by omega)
   have hlt : (((a0e l g).take i).map i64).length = i:=by rw [length_map,length_take,a5c]; omega
   refine gi (aap hz) ?_
   refine glG ?_
   refine gC (fun ht33 => ?_) (fun ht33 => ?_) (st1 := (9,0))
   ·(rw [be3 z0 z1] at ht33; cases ht33)
   ·refine gi (aqc (n := z.toNat) (by omega) hj) ?_
    refine gc (ajc g.bodies j.a (by omega)) ?_
    refine gc (ajc g.bodies j.b (by omega)) ?_
    refine gD ?_
    refine gC (fun ht55 => ?_) (fun ht55 => ?_)
    ·have ha : anc g j = -1 := by unfold anc; cases h1 : g.bodies.contains j.a <;> cases h2 : g.bodies.contains j.b <;> rw [h1, h2] at ht55 <;> first | (cases ht55; done) | rfl
     refine gs (abq (.tmp rfl) rfl hlt.symm (.tmp rfl) T31 rfl T3 rfl rfl (by simp only [length_cons,length_nil]; omega) rfl rfl) ?_ (17,0)
     refine gW (Wk.of (sl := [(2,some (.ptr 2 0)),(3,some (.ptr 3 0)),(7,some (.ms 62 1 0 (i + 1))),(19,some (.lst 1 (g.joints.map i64))),(20,some (i64 g.joints.length)),(21,some (i64 i))]) (hp := [(2,some (.box l.av.cells)),(3,some (.box g.av.cells)),(62,some (.row 1 (((a0e l g).take (i + 1)).map i64)))]) abu (.cons rfl (.refl _) (.cons rfl (.refl _) (.cons rfl (BlkSub.of (congrArg (Blk.row 1) (arl hz hj ha))) .nil)))) ?_ (17,0)
     refine gW (Wk.rekey (k := 62) (d := 900) rfl rfl) ?_
     refine ga abl ?_
     exact gK1 hK1 (i + 1) hin
    ·refine gC (fun ht63 => ?_) (fun ht63 => ?_)
     ·have ha : anc g j = j.b := by unfold anc; cases h1 : g.bodies.contains j.a <;> cases h2 : g.bodies.contains j.b <;> rw [h1] at ht63 <;> rw [h1, h2] at ht55 <;> first | (cases ht55; done) | (cases ht63; done) | rfl
      refine gs (abq (.tmp rfl) rfl hlt.symm (.tmp rfl) T31 rfl T3 rfl rfl (by simp only [length_cons,length_nil]; omega) rfl rfl) ?_ (17,0)
      refine gW (Wk.of (sl := [(2,some (.ptr 2 0)),(3,some (.ptr 3 0)),(7,some (.ms 69 1 0 (i + 1))),(19,some (.lst 1 (g.joints.map i64))),(20,some (i64 g.joints.length)),(21,some (i64 i))]) (hp := [(2,some (.box l.av.cells)),(3,some (.box g.av.cells)),(69,some (.row 1 (((a0e l g).take (i + 1)).map i64)))]) abu (.cons rfl (.refl _) (.cons rfl (.refl _) (.cons rfl (BlkSub.of (congrArg (Blk.row 1) (arl hz hj ha))) .nil)))) ?_ (17,0)
      refine gW (Wk.rekey (k := 69) (d := 900) rfl rfl) ?_
      refine ga abl ?_
      exact gK1 hK1 (i + 1) hin
     ·have ha : anc g j = j.a := by unfold anc; rw [if_neg (by rw [show g.bodies.contains j.a = false from ht63]; simp)]
      refine gs (abq (.tmp rfl) rfl hlt.symm (.tmp rfl) T31 rfl T3 rfl rfl (by simp only [length_cons,length_nil]; omega) rfl rfl) ?_ (17,0)
      refine gW (Wk.of (sl := [(2,some (.ptr 2 0)),(3,some (.ptr 3 0)),(7,some (.ms 54 1 0 (i + 1))),(19,some (.lst 1 (g.joints.map i64))),(20,some (i64 g.joints.length)),(21,some (i64 i))]) (hp := [(2,some (.box l.av.cells)),(3,some (.box g.av.cells)),(54,some (.row 1 (((a0e l g).take (i + 1)).map i64)))]) abu (.cons rfl (.refl _) (.cons rfl (.refl _) (.cons rfl (BlkSub.of (congrArg (Blk.row 1) (arl hz hj ha))) .nil)))) ?_ (17,0)
      refine gW (Wk.rekey (k := 54) (d := 900) rfl rfl) ?_
      refine ga abl ?_
      exact gK1 hK1 (i + 1) hin
  ·have hin := aa8 hi ht22
   subst hin
   refine gW (Wk.of (sl := [(7,some (.ms 900 1 0 g.joints.length))]) (hp := [(900,some (.row 1 ((a0e l g).map i64)))]) abu (.cons rfl (BlkSub.of (by rw [take_of_length_le (by rw [a5c]; exact le_refl _)])) .nil)) ?_
   refine gR ?_
   exact Fin.keep (aly rfl)
end Go.Lw
namespace Go.Lw
def a3d (s : ByteArray) (n : Int) : Bd := ⟨s,[⟨⟨#[97]⟩,rt ((0 : Int) : Rat),rt ((0 : Int) : Rat)⟩,⟨⟨#[98]⟩,rt (n : Rat),rt ((0 : Int) : Rat)⟩]⟩
def fb : Li := ⟨⟨#[102, 111, 117, 114, 98, 97, 114]⟩, [a3d ⟨#[102, 114, 97, 109, 101]⟩ 4, a3d ⟨#[99, 114, 97, 110, 107]⟩ 3, a3d ⟨#[99, 111, 117, 112, 108, 101, 114]⟩ 5, a3d ⟨#[114, 111, 99, 107, 101, 114]⟩ 6],
  [⟨⟨#[111]⟩,0,1,0,0,0,0⟩,⟨⟨#[112]⟩,0,2,0,1,1,0⟩,⟨⟨#[113]⟩,0,3,0,0,1,0⟩,⟨⟨#[114]⟩,0,2,1,3,1,0⟩],[⟨⟨#[100]⟩,1⟩]⟩
def t0 : Tn := ⟨⟨false,[],[]⟩,false⟩
theorem ar9 (a b : ByteArray) : eqS a b = (a.data.toList == b.data.toList) := by
 unfold eqS; rw [Go.ByteArray.toList_eq,Go.ByteArray.toList_eq]
theorem bca {s : ByteArray} (hs : s.size <= 281474976710656) {n : Int} (hn : -9223372036854775808 <= n /\ n <= 9223372036854775807) :
  (a3d s n).name.size <= 281474976710656 /\ (a3d s n).pts.length <= 281474976710656 /\ ∀ m ∈ (a3d s n).pts,m.name.size <= 281474976710656 /\ m.x.wok /\ m.y.wok := by
 have h0 : (rt ((0 : Int) : Rat)).ok := (bax (by omega)).ok
 have h1 : (rt (n : Rat)).ok := (bax hn).ok
 refine ⟨hs,by show 2 <= _; omega,fun m hm => ?_⟩
 simp only [a3d,mem_cons,not_mem_nil,or_false] at hm
 rcases hm with rfl | rfl
 ·exact ⟨by show 1 <= _; omega,h0.wok,h0.wok⟩
 ·exact ⟨by show 1 <= _; omega,h1.wok,h0.wok⟩
end Go.Lw
namespace Go.Lw
open Go.Proofs
def feG (P : Program) (n : Nat) : Option (FE P) := match h : P.funcs[n]? with
  | none => none
  | some fn => match hb : fn.body with
    | none => none
    | some c => match hn : (fn.name == "runtime.NumGoroutine") with
      | true => none
      | false => some ⟨n,fn,c,fn.results.toList,h,hb,hn,by simp⟩
def smQ (q : Rat) : Bool := Nat.blt q.num.natAbs 18446744073709551616 && Nat.blt q.den 18446744073709551616
theorem a15 {q : Rat} (h : smQ q = true) : Qb 64 q := by
 simp only [smQ,and_eq_true,Nat.blt_eq] at h
 exact ⟨h.1,h.2⟩
theorem af6 {q : Rat} (h : smQ q = true) : Qs q := (a15 h).qs (by omega)
def n0 (q : Rat) : AV := nA (sh 0 (q : Rat))
def z0 : AV := aez []
theorem aja {q : Rat} (h : smQ q = true) : Nm ([] : List (List Rat)).length 64 (sh 0 (q : Rat)) := Nm.ofQ (by decide) (Cb.one (a15 h))
theorem a6j (q : Rat) : dec ([] : List (List Rat)).length (sh 0 (q : Rat)) = q := al7 0 q
theorem a79 : Tw [] 1 where
 three:=by decide
 len := fun j hj => absurd hj (Nat.not_lt_zero j)
 pos := fun j hj => absurd hj (Nat.not_lt_zero j)
 rb := ⟨1,1,by omega,fun d hd => absurd hd not_mem_nil,by decide,by decide⟩
 le:=by decide
theorem lm0 : lm ([] : List (List Rat)).length = 200000000000 := rfl
def dW : List AV -> Nat
  | [] => 0
  | x :: l => match x with
    | .v (.int _ (.ofNat n)) => n + 4294967296 * dW l
    | _ => 0
def dWs : AV -> Nat
  | .lst _ l => dW l
  | _ => 0
def dQ (x : AV) : Rat := match x with
  | .agg (.v (.bool s) :: n :: d :: _) => match s with
    | true => mkRat (-(dWs n : Int)) (dWs d)
    | false => mkRat (dWs n : Int) (dWs d)
  | _ => 0
def dN (x : AV) : Rat := match x with
  | .lst _ (x :: _) => dQ x
  | _ => 0
abbrev En := Option (Ent prog)
def w2 (f : FuncId) (g : Rat -> Rat -> AV) (h : ∀ p q, smQ p = true -> smQ q = true -> FnC prog f [qA p, qA q] (g p q)) (p q : Rat) : En := match hh : smQ p && smQ q with
  | true => some ⟨f,[qA p,qA q],g p q,[],h p q (by rw [and_eq_true] at hh; exact hh.1) (by rw [and_eq_true] at hh; exact hh.2)⟩
  | false => none
def oQ2 (f : FuncId) (g : Rat -> Rat -> AV) (h : ∀ p q, smQ p = true -> smQ q = true -> FnC prog f [qA p, qA q] (g p q)) (xs : List AV) : En := match xs with
  | [a,b] => w2 f g h (dQ a) (dQ b)
  | _ => none
def w1 (f : FuncId) (a : Rat -> AV) (g : Rat -> AV) (h : ∀ p, smQ p = true -> FnC prog f [a p] (g p)) (p : Rat) : En := match hh : smQ p with
  | true => some ⟨f,[a p],g p,[],h p hh⟩
  | false => none
def oQ1 (f : FuncId) (g : Rat -> AV) (h : ∀ p, smQ p = true -> FnC prog f [qA p] (g p)) (xs : List AV) : En := match xs with
  | [a] => w1 f qA g h (dQ a)
  | _ => none
def w3 (f : FuncId) (g : Rat -> Rat -> AV) (h : ∀ p q, smQ p = true -> smQ q = true -> FnC prog f [z0, n0 p, n0 q] (g p q)) (p q : Rat) : En := match hh : smQ p && smQ q with
  | true => some ⟨f,[z0,n0 p,n0 q],g p q,[],h p q (by rw [and_eq_true] at hh; exact hh.1) (by rw [and_eq_true] at hh; exact hh.2)⟩
  | false => none
def oT2 (f : FuncId) (g : Rat -> Rat -> AV) (h : ∀ p q, smQ p = true -> smQ q = true -> FnC prog f [z0, n0 p, n0 q] (g p q)) (xs : List AV) : En := match xs with
  | [_,a,b] => w3 f g h (dN a) (dN b)
  | _ => none
def w4 (f : FuncId) (g : Rat -> AV) (h : ∀ p, smQ p = true -> FnC prog f [z0, n0 p] (g p)) (p : Rat) : En := match hh : smQ p with
  | true => some ⟨f,[z0,n0 p],g p,[],h p hh⟩
  | false => none
def oT1 (f : FuncId) (g : Rat -> AV) (h : ∀ p, smQ p = true -> FnC prog f [z0, n0 p] (g p)) (xs : List AV) : En := match xs with
  | [_,a] => w4 f g h (dN a)
  | _ => none
def oC (f : FuncId) (ys : List AV) (r : AV) (h : FnC prog f ys r) (xs : List AV) : En := some ⟨f,ys,r,[],h⟩
def dI (x : AV) : Int := match x with
  | .v (.int _ z) => z
  | _ => 0
def oI (f : FuncId) (g : Int -> AV) (h : ∀ z, (-9223372036854775808 <= z /\ z <= 9223372036854775807) -> FnC prog f [i64 z] (g z)) (xs : List AV) : En := match xs with
  | [a] => match (inferInstance : Decidable (-9223372036854775808 <= dI a /\ dI a <= 9223372036854775807)) with
    | .isTrue hh => some ⟨f,[i64 (dI a)],g (dI a),[],h (dI a) hh⟩
    | .isFalse _ => none
  | _ => none
theorem be7 (p q : Rat) (hp : smQ p = true) (hq : smQ q = true) : FnC prog 231 [z0, n0 p, n0 q] (.tup [n0 (p + q), .v .nilIface]) := by
 have h := a37 a79 (aja hp) (aja hq) (by rw [lm0]; omega)
 rw [a6j,a6j] at h; exact h
theorem bh3 (p q : Rat) (hp : smQ p = true) (hq : smQ q = true) : FnC prog 163 [z0, n0 p, n0 q] (.tup [n0 (p + -q), .v .nilIface]) := by
 have h := a4p a79 (aja hp) (aja hq) (by rw [lm0]; omega)
 rw [a6j,a6j] at h; exact h
theorem bgg (p q : Rat) (hp : smQ p = true) (hq : smQ q = true) : FnC prog 164 [z0, n0 p, n0 q] (.tup [n0 (p * q), .v .nilIface]) := by
 have h := a1j a79 (aja hp) (aja hq) (by rw [lm0]; omega)
 rw [a6j,a6j] at h; exact h
theorem a9o (p : Rat) (hp : smQ p = true) : FnC prog 205 [z0, n0 p] (.tup [i64 (amb p), .v .nilIface]) := by
 have h := a21 a79 (aja hp) (by rw [lm0]; omega)
 rw [a6j] at h; exact h
theorem bf6 (p : Rat) (hp : smQ p = true) : FnC prog 148 [z0, n0 p] (.tup [n0 (-p), .v .nilIface]) := by
 have h := a1o a79 (aja hp) (by rw [lm0]; omega)
 rw [a6j] at h; exact h
theorem a5y (p q : Rat) (hp : smQ p = true) (hq : smQ q = true) : FnC prog 17 [z0, n0 p, n0 q] (bl (decide (amb (p + -q) = 0))) := by
 have h := apw a79 (aja hp) (aja hq) (by rw [lm0]; omega)
 rw [a6j,a6j] at h; exact h
def bnk : FuncId -> Option (List AV -> En)
  | 231 => some (oT2 231 _ be7)
  | 163 => some (oT2 163 _ bh3)
  | 164 => some (oT2 164 _ bgg)
  | 205 => some (oT1 205 _ a9o)
  | 148 => some (oT1 148 _ bf6)
  | 145 => some (oC 145 [z0] (.v .nilIface) (anl a79))
  | 149 => some (oQ1 149 n0 fun _ h => blf (af6 h))
  | 17 => some (oT2 17 _ a5y)
  | 150 => some (oI 150 (fun z => qA z) are)
  | 120 => some (oI 120 (fun z => qA z) a88)
  | 137 => some (oQ1 137 n0 fun _ h => bl1 (af6 h))
  | 206 => some (oQ2 206 (fun p q => qA (p + q)) fun _ _ h h' => blm (af6 h) (af6 h'))
  | 281 => some (oQ2 281 (fun p q => qA (p - q)) fun _ _ h h' => bmq (af6 h) (af6 h'))
  | 288 => some (oQ2 288 (fun p q => qA (p * q)) fun _ _ h h' => bll (af6 h) (af6 h'))
  | 431 => some (oQ2 431 (fun p q => .tup [qA (p / q),afe (if q = 0 then 8 else 0)]) fun _ _ h h' => bk6 (af6 h) (af6 h'))
  | 111 => some (oQ1 111 (fun p => qA (-p)) fun _ h => bky (af6 h))
  | 313 => some (oQ1 313 (fun p => i64 (amb p)) fun _ h => bip (af6 h))
  | _ => none
def dIs (x : AV) : List Int := match x with
  | .lst _ es => es.map dI
  | _ => []
def dG (x : AV) : Gr := match x with
  | .agg [k,b,j,d] => ⟨dI k,dIs b,dIs j,dI d⟩
  | _ => default
def blu (n : Nat) (l : List Int) : Bool := l.all fun z => aab .leq 0 z && aab .lss z n
theorem a04 {n : Nat} {l : List Int} (h : blu n l = true) : ∀ x ∈ l, 0 <= x /\ x < n := by
 intro x hx
 have := List.all_eq_true.1 h x hx
 simp only [and_eq_true,aab,decide_eq_true_eq] at this
 exact this
def grB (l : Li) (g : Gr) : Bool := blu l.bodies.length g.bodies && blu l.joints.length g.joints && Nat.ble g.bodies.length 2 && Nat.ble g.joints.length 3
theorem bgx {l : Li} {g : Gr} (h : grB l g = true) : GrOk l g := by
 simp only [grB,and_eq_true,Nat.ble_eq] at h
 exact ⟨a04 h.1.1.1,a04 h.1.1.2,h.1.2,h.2⟩
def bn0 (l : Li) (hl : l.ok) (hli : liE l = 0) (g : Gr) : En := match hh : grB l g with
  | true => some ⟨146,[l.av,g.av],_,_,av2 l hl hli g (bgx hh)⟩
  | false => none
def bnj (l : Li) (hl : l.ok) (hli : liE l = 0) (xs : List AV) : En := match xs with
  | [_,g] => bn0 l hl hli (dG g)
  | _ => none
theorem bds (l : Li) (hl : l.ok) (hli : liE l = 0) : FnC prog 144 [l.av] (.tup [.lst 4 ((ayz l).map Gr.av), afe (aof l)]) := by
 have h := a1k l hl
 rw [if_pos hli,if_pos hli] at h; exact h
def aj5 (l : Li) (hl : l.ok) (hli : liE l = 0) : FuncId -> Option (List AV -> En)
  | 144 => some (oC 144 [l.av] _ (bds l hl hli))
  | 146 => some (bnj l hl hli)
  | 229 => some (oQ1 229 (fun p => bl (rt p).valid) fun _ h => ab2 _ (af6 h).ok)
  | f => bnk f
def orP : List (Ent prog) -> FuncId -> Bool
  | [],_ => false
  | e :: l, f => match Nat.beq e.f f with
    | true => true
    | false => orP l f
def orS (xs : List AV) (f : FuncId) : List (Ent prog) -> En
  | [] => none
  | e :: l => match Nat.beq e.f f && awq xs e.xs with
    | true => some e
    | false => orS xs f l
def orF (L : List (Ent prog)) (o : FuncId -> Option (List AV -> En)) (f : FuncId) : Option (List AV -> En) := match orP L f with
  | true => some fun xs => match orS xs f L with
    | some e => some e
    | none => match o f with
      | some g => g xs
      | none => none
  | false => o f
def aj6 (n : FuncId) : Bool := Nat.beq n 147 || (Nat.beq n 265 || Nat.beq n 353)
end Go.Lw
namespace Go.Lw
open Go.Proofs
def dL (x : AV) : List Rat := match x with
  | .lst _ es => es.map dQ
  | _ => []
def bi2 : Nat -> Nat -> Bool
  | 0,l => Nat.beq l 1
  | n + 1,l => Nat.beq l (2 ^ (n + 1)) || bi2 n l
def nmB (n : Nat) (l : List Rat) : Bool := l.all smQ && (Nat.beq l.length 0 || bi2 n l.length)
theorem a12 : ∀ {n l : Nat}, bi2 n l = true -> ∃ j, j <= n /\ l = 2 ^ j
 | 0,l,h => ⟨0,le_refl _,by unfold bi2 at h; exact eq_of_beq_eq_true h⟩
 | n + 1, l, h => by
  unfold bi2 at h
  rw [or_eq_true] at h
  rcases h with h | h
  ·exact ⟨n + 1,le_refl _,eq_of_beq_eq_true h⟩
  ·obtain ⟨j, h1, h2⟩ := a12 h
   exact ⟨j,by omega,h2⟩
theorem a2x {n : Nat} (h5 : n <= 5) {l : List Rat} (h : nmB n l = true) : Nm n 4000 l := by
 unfold nmB at h
 rw [and_eq_true,or_eq_true,all_eq_true] at h
 obtain ⟨h1,h2⟩ := h
 have hl : Nl n l := by
  rcases h2 with h2 | h2
  ·exact .inl (List.eq_nil_of_length_eq_zero (eq_of_beq_eq_true h2))
  ·exact .inr (a12 h2)
 have h3 := hl.le
 have h4 : l.length <= 32 := le_trans h3 (aa7 (b := 5) h5)
 obtain ⟨D,N,a1,a2,a3⟩ := aq2 (e := 64) (l := l) (fun q hq => a15 (h1 q hq))
 obtain ⟨k,hk⟩ : ∃ k,k = 4000 := ⟨_,rfl⟩
 rw [<- hk]
 exact ⟨h5,hl,D,N,a1,le_trans a2 (aa7 (by omega)),le_trans a3 (aa7 (by omega))⟩
structure TE where
  ts : List (List Rat)
  R : Nat
  tw : Tw ts R
  kb : eB R ts.length <= 300000
theorem TE.ct (t : TE) : Ct t.ts 4000 300000 := ⟨⟨t.R,t.tw,t.kb⟩,by omega,by omega,by omega,by omega⟩
def TE.A (t : TE) : AV := aez t.ts
abbrev TE.N (t : TE) : Type := Et t.ts
section
variable (t : TE)
def v2 (f : FuncId) (g : t.N -> t.N -> AV) (h : ∀ a b, nmB t.ts.length a = true -> nmB t.ts.length b = true -> FnC prog f [t.A, nA a, nA b] (g (dE t.ts a) (dE t.ts b))) (a b : List Rat) : En :=
  match hh : nmB t.ts.length a && nmB t.ts.length b with
  | true => some ⟨f,[t.A,nA a,nA b],g (dE t.ts a) (dE t.ts b),[],h a b (by rw [and_eq_true] at hh; exact hh.1) (by rw [and_eq_true] at hh; exact hh.2)⟩
  | false => none
def oV2 (f : FuncId) (g : t.N -> t.N -> AV) (h : ∀ a b, nmB t.ts.length a = true -> nmB t.ts.length b = true -> FnC prog f [t.A, nA a, nA b] (g (dE t.ts a) (dE t.ts b))) (xs : List AV) : En := match xs with
  | [_,a,b] => v2 t f g h (dL a) (dL b)
  | _ => none
def v1 (f : FuncId) (g : t.N -> AV) (h : ∀ a, nmB t.ts.length a = true -> FnC prog f [t.A, nA a] (g (dE t.ts a))) (a : List Rat) : En :=
  match hh : nmB t.ts.length a with
  | true => some ⟨f,[t.A,nA a],g (dE t.ts a),[],h a hh⟩
  | false => none
def oV1 (f : FuncId) (g : t.N -> AV) (h : ∀ a, nmB t.ts.length a = true -> FnC prog f [t.A, nA a] (g (dE t.ts a))) (xs : List AV) : En := match xs with
  | [_,a] => v1 t f g h (dL a)
  | _ => none
theorem TE.zl {a : List Rat} (h : nmB t.ts.length a = true) : Zl t.ts 4000 300000 a (dE t.ts a) 1 0 := Zl.at (a2x t.tw.five h) (le_refl _)
theorem bfs (a b : List Rat) (ha : nmB t.ts.length a = true) (hb : nmB t.ts.length b = true) : FnC prog 231 [t.A, nA a, nA b] (.tup [nA (sX (dE t.ts a + dE t.ts b)), .v .nilIface]) := by
 haveI := t.ct; haveI := t.zl ha; haveI := t.zl hb; exact a8g
theorem bf9 (a b : List Rat) (ha : nmB t.ts.length a = true) (hb : nmB t.ts.length b = true) : FnC prog 163 [t.A, nA a, nA b] (.tup [nA (sX (dE t.ts a - dE t.ts b)), .v .nilIface]) := by
 haveI := t.ct; haveI := t.zl ha; haveI := t.zl hb; exact bgm
theorem bjp (a b : List Rat) (ha : nmB t.ts.length a = true) (hb : nmB t.ts.length b = true) : FnC prog 164 [t.A, nA a, nA b] (.tup [nA (sX (dE t.ts a * dE t.ts b)), .v .nilIface]) := by
 haveI := t.ct; haveI := t.zl ha; haveI := t.zl hb; exact bbn
theorem bgt (a : List Rat) (ha : nmB t.ts.length a = true) : FnC prog 148 [t.A, nA a] (.tup [nA (sX (-dE t.ts a)), .v .nilIface]) := by
 haveI := t.ct; haveI := t.zl ha; exact bmc
theorem bc5 (a : List Rat) (ha : nmB t.ts.length a = true) : FnC prog 205 [t.A, nA a] (.tup [i64 (sgE (dE t.ts a)), .v .nilIface]) := by
 haveI := t.ct; haveI := t.zl ha; exact bih
theorem a90 (a b : List Rat) (ha : nmB t.ts.length a = true) (hb : nmB t.ts.length b = true) : FnC prog 449 [t.A, nA a, nA b] (.tup [i64 (sgE (dE t.ts a - dE t.ts b)), .v .nilIface]) := by
 have h1 := amv t.ts.length
 exact bi9 t.tw (a2x t.tw.five ha) (a2x t.tw.five hb) (by omega)
theorem a9i (a : List Rat) (ha : nmB t.ts.length a = true) : FnC prog 53 [t.A, nA a] (i64 (sgE (dE t.ts a))) := by
 haveI := t.ct; haveI := t.zl ha; exact bdx
theorem a1g (a b : List Rat) (ha : nmB t.ts.length a = true) (hb : nmB t.ts.length b = true) : FnC prog 17 [t.A, nA a, nA b] (bl (eqE (dE t.ts a) (dE t.ts b))) := by
 haveI := t.ct; haveI := t.zl ha; haveI := t.zl hb; exact anh
end
def smL (l : List Rat) : Bool := l.all smQ && Nat.ble l.length 1000000
theorem aq0 {l : List Rat} (h : smL l = true) : (∀ q ∈ l, Qs q) /\ l.length <= 1000000 := by
 unfold smL at h
 rw [and_eq_true,all_eq_true,Nat.ble_eq] at h
 exact ⟨fun q hq => af6 (h.1 q hq),h.2⟩
def wdE (a : List Rat) (n : Nat) : En := match hh : Nat.ble a.length n && Nat.ble n 1000000 with
  | true => some ⟨366,[nA a,i64 n],nA (aat a n),[],ah9 a n (by rw [and_eq_true,Nat.ble_eq] at hh; exact hh.1) (by rw [and_eq_true,Nat.ble_eq,Nat.ble_eq] at hh; omega)⟩
  | false => none
def oWd (xs : List AV) : En := match xs with
  | [a,n] => wdE (dL a) (dI n).toNat
  | _ => none
def bnx (a b : List Rat) : En := match hh : smL a && smL b with
  | true => some ⟨285, [nA a, nA b], nA (acj a b), [], by
      rw [and_eq_true] at hh
      exact ac5 a b (aq0 hh.1).1 (aq0 hh.2).1 (by have := (aq0 hh.1).2; omega) (by have := (aq0 hh.2).2; omega)⟩
  | false => none
def oPl (xs : List AV) : En := match xs with
  | [a,b] => bnx (dL a) (dL b)
  | _ => none
def miE (a : List Rat) : En := match hh : smL a with
  | true => some ⟨269,[nA a],nA (aby a),[],ad4 a (aq0 hh).1 (by have := (aq0 hh).2; omega)⟩
  | false => none
def oMi (xs : List AV) : En := match xs with
  | [a] => miE (dL a)
  | _ => none
def joE (a b : List Rat) (n : Nat) : En := match hh : Nat.ble a.length n && Nat.ble b.length n && Nat.ble n 1000000 with
  | true => some ⟨368, [nA a, nA b, i64 n], nA (ahm a b n), [], by
      rw [and_eq_true,and_eq_true,Nat.ble_eq,Nat.ble_eq,Nat.ble_eq] at hh
      exact ah8 a b n hh.1.1 hh.1.2 (by omega)⟩
  | false => none
def oJo (xs : List AV) : En := match xs with
  | [a,b,n] => joE (dL a) (dL b) (dI n).toNat
  | _ => none
def bnu : List AV -> Bool
  | .agg (.lst _ [] :: _) :: _ => true
  | .agg (.v _ :: _) :: _ => true
  | _ => false
def byT (o o' : List AV -> En) (xs : List AV) : En := match bnu xs with
  | true => o xs
  | false => o' xs
def bm8 : TE := ⟨[],1,a79,by decide⟩
def aj4 (t : TE) (o : FuncId -> Option (List AV -> En)) : FuncId -> Option (List AV -> En)
  | 231 => some (byT (oT2 231 _ be7) (oV2 t 231 (fun x y => .tup [nA (sX (x + y)),.v .nilIface]) (bfs t)))
  | 163 => some (byT (oT2 163 _ bh3) (oV2 t 163 (fun x y => .tup [nA (sX (x - y)),.v .nilIface]) (bf9 t)))
  | 164 => some (byT (oT2 164 _ bgg) (oV2 t 164 (fun x y => .tup [nA (sX (x * y)),.v .nilIface]) (bjp t)))
  | 148 => some (byT (oT1 148 _ bf6) (oV1 t 148 (fun x => .tup [nA (sX (-x)),.v .nilIface]) (bgt t)))
  | 205 => some (byT (oT1 205 _ a9o) (oV1 t 205 (fun x => .tup [i64 (sgE x),.v .nilIface]) (bc5 t)))
  | 145 => some (byT (oC 145 [z0] (.v .nilIface) (anl a79)) (oC 145 [t.A] (.v .nilIface) (anl t.tw)))
  | 53 => some (oV1 t 53 (fun x => i64 (sgE x)) (a9i t))
  | 17 => some (byT (oT2 17 _ a5y) (oV2 t 17 (fun x y => bl (eqE x y)) (a1g t)))
  | 366 => some oWd
  | 285 => some oPl
  | 269 => some oMi
  | 368 => some oJo
  | 449 => some (byT (oV2 bm8 449 (fun x y => .tup [i64 (sgE (x - y)),.v .nilIface]) (a90 bm8)) (oV2 t 449 (fun x y => .tup [i64 (sgE (x - y)),.v .nilIface]) (a90 t)))
  | f => o f
theorem bnq : Tw [[(16 : Rat)]] 10 where
 three:=by decide
 len := fun j hj => by
  obtain rfl : j = 0:=by have : j < 1 := hj; omega
  rfl
 pos := fun j hj => by
  obtain rfl : j = 0:=by have : j < 1 := hj; omega
  decide +kernel
 rb := ⟨1, 16, by omega, fun d hd => by
  rw [List.mem_singleton.1 hd]
  exact ⟨by omega,fun q hq => ⟨16,by rw [List.mem_singleton.1 hq]; decide +kernel,by decide⟩⟩,by decide,by decide⟩
 le:=by decide
def aj7 : TE := ⟨[[(16 : Rat)]],10,bnq,by decide⟩
end Go.Lw
namespace Go.Lw
def ck : Li := ⟨⟨#[115, 108, 105, 100, 101, 114]⟩, [a3d ⟨#[102, 114, 97, 109, 101]⟩ 1, a3d ⟨#[99, 114, 97, 110, 107]⟩ 3, a3d ⟨#[114, 111, 100]⟩ 5],
  [⟨⟨#[111]⟩,0,1,0,0,0,0⟩,⟨⟨#[112]⟩,0,2,0,1,1,0⟩,⟨⟨#[115]⟩,1,2,1,0,0,1⟩],[⟨⟨#[100]⟩,1⟩]⟩
theorem adu : liE ck = 0 := by
 have h1 : a65 ck = 0 := by
  unfold a65 afo bdE az2 mkE
  simp only [ar9]
  decide +kernel
 have h2 : axh ck = 0 := by
  unfold axh afo jtE az2
  simp only [ar9]
  decide +kernel
 have h3 : a6k ck = 0 := by
  unfold a6k afo drE az2
  simp only [ar9]
  decide +kernel
 unfold liE
 rw [h1,h2,h3]
 decide +kernel
theorem bjm : ck.okw := by
 refine ⟨by decide,fun b hb => ?_,fun j hj => ?_,fun d hd => ?_,by decide,by decide,by decide⟩
 ·simp only [ck, mem_cons, not_mem_nil, or_false] at hb
  rcases hb with rfl | rfl | rfl <;> exact bca (by decide) (by omega)
 ·simp only [ck, mem_cons, not_mem_nil, or_false] at hj
  rcases hj with rfl | rfl | rfl <;> decide
 ·simp only [ck, mem_cons, not_mem_nil, or_false] at hd
  rcases hd with rfl; decide
theorem adv : ck.ok := bmf (by decide +kernel) bjm
end Go.Lw
namespace Go.Lw
open Go.Proofs
set_option maxRecDepth 20000
def bdu : AV := .agg [.v (.string ⟨⟨[97]⟩⟩),.v (.bool false),.lst 1 [],.lst 1 [],.v (.bool false),.v (.slice none 0 0),.v (.slice none 0 0)]
def bg1 : AV := .lst 3 [.agg [.v (.bool false),.lst 1 [],.lst 1 []],.agg [.v (.bool true),.lst 1 [.v (.int .u32 1)],.lst 1 [.v (.int .u32 1)]]]
def bmv : AV := .lst 3 [.agg [.v (.bool false),.lst 1 [],.lst 1 []],.agg [.v (.bool true),.lst 1 [.v (.int .u32 1)],.lst 1 [.v (.int .u32 5)]]]
def a7i : AV := .lst 3 [.agg [.v (.bool false),.lst 1 [],.lst 1 []],.agg [.v (.bool false),.lst 1 [.v (.int .u32 1)],.lst 1 [.v (.int .u32 1)]]]
def bch : AV := .lst 3 [.agg [.v (.bool false),.lst 1 [],.lst 1 []],.agg [.v (.bool false),.lst 1 [.v (.int .u32 1)],.lst 1 [.v (.int .u32 5)]]]
def bls : AV := .agg [.v (.string ⟨⟨[111]⟩⟩),.v (.int .i64 0),.v (.int .i64 1),.v (.int .i64 0),.v (.int .i64 0),.v (.int .i64 0),.v (.int .i64 0)]
def bko : AV := .agg [.v (.string ⟨⟨[112]⟩⟩),.v (.int .i64 0),.v (.int .i64 2),.v (.int .i64 0),.v (.int .i64 1),.v (.int .i64 1),.v (.int .i64 0)]
def bkg : AV := .agg [.v (.string ⟨⟨[115]⟩⟩),.v (.int .i64 1),.v (.int .i64 2),.v (.int .i64 1),.v (.int .i64 0),.v (.int .i64 0),.v (.int .i64 1)]
def bix : AV := .agg [.v (.slice none 0 0),.lst 3 [.agg [.v (.bool false),.lst 1 [.v (.int .u32 1)],.lst 1 [.v (.int .u32 1)]]],.lst 3 [],.lst 3 []]
def blv : AV := .agg [bg1,.lst 3 []]
def bht : AV := .agg [a7i,.lst 3 []]
def a1z : AV := .agg [.lst 3 [.agg [.v (.bool false),.lst 1 [.v (.int .u32 1)],.lst 1 [.v (.int .u32 1)]]],.v (.slice none 0 0),.v (.slice none 0 0),.v (.slice none 0 0)]
def bfc : AV := .agg [.v (.slice none 0 0),.lst 3 [.agg [.v (.bool false),.lst 1 [.v (.int .u32 1)],.lst 1 [.v (.int .u32 1)]]],.v (.slice none 0 0),.v (.slice none 0 0)]
def bf2 : AV := .agg [.v (.string ⟨⟨[98]⟩⟩),.v (.bool false),.lst 1 [.v (.int .u32 1)],.lst 1 [.v (.int .u32 1)],.v (.bool false),.v (.slice none 0 0),.v (.slice none 0 0)]
def bf3 : AV := .agg [.v (.string ⟨⟨[98]⟩⟩),.v (.bool false),.lst 1 [.v (.int .u32 3)],.lst 1 [.v (.int .u32 1)],.v (.bool false),.v (.slice none 0 0),.v (.slice none 0 0)]
def bga : AV := .agg [.v (.string ⟨⟨[98]⟩⟩),.v (.bool false),.lst 1 [.v (.int .u32 5)],.lst 1 [.v (.int .u32 1)],.v (.bool false),.v (.slice none 0 0),.v (.slice none 0 0)]
def bf4 : AV := .lst 7 [bdu,bf2]
def bjk : AV := .lst 7 [bdu,bf3]
def bgr : AV := .lst 7 [bdu,bga]
def bas : AV := .lst 2 [bht,blv]
def a9u : AV := .lst 3 [.agg [.v (.slice none 0 0),.v (.slice none 0 0),.v (.slice none 0 0)],.agg [.lst 3 [.agg [.v (.bool false),.lst 1 [.v (.int .u32 1)],.lst 1 [.v (.int .u32 1)]]],.lst 3 [],.lst 3 []],.agg [.lst 3 [],.lst 3 [.agg [.v (.bool true),.lst 1 [.v (.int .u32 3)],.lst 1 [.v (.int .u32 1)]]],.lst 3 []]]
def bh6 : AV := .agg [bmv,.lst 3 [.agg [.v (.bool true),.lst 1 [.v (.int .u32 3)],.lst 1 [.v (.int .u32 5)]]],.lst 3 [],.lst 3 [.agg [.v (.bool false),.lst 1 [.v (.int .u32 3)],.lst 1 [.v (.int .u32 1)]]]]
def bi7 : AV := .agg [bch,.lst 3 [.agg [.v (.bool true),.lst 1 [.v (.int .u32 3)],.lst 1 [.v (.int .u32 5)]]],.lst 3 [],.lst 3 [.agg [.v (.bool false),.lst 1 [.v (.int .u32 3)],.lst 1 [.v (.int .u32 1)]]]]
def bfm : AV := .lst 4 [bh6]
def bg8 : AV := .lst 4 [bi7]
def bge : AV := .agg [bch,.lst 3 [.agg [.v (.bool true),.lst 1 [.v (.int .u32 3)],.lst 1 [.v (.int .u32 5)]]],.v (.slice none 0 0),.lst 3 [.agg [.v (.bool false),.lst 1 [.v (.int .u32 3)],.lst 1 [.v (.int .u32 1)]]]]
def bhl : AV := .agg [.v (.string ⟨⟨[114,111,100]⟩⟩),bgr]
def bia : AV := .agg [.v (.string ⟨⟨[99,114,97,110,107]⟩⟩),bjk]
def bg0 : AV := .agg [.v (.int .i64 2),.v (.bool false),.lst 1 [.v (.int .u32 5)],.lst 1 [.v (.int .u32 1)],.v (.bool false),.v (.slice none 0 0),.v (.slice none 0 0),.v (.bool true),.lst 1 [.v (.int .u32 1)],.lst 1 [.v (.int .u32 1)],.v (.bool false),.v (.slice none 0 0),.v (.slice none 0 0),.v (.bool false),.v (.slice none 0 0),.v (.slice none 0 0)]
def bjh : AV := .agg [.v (.string ⟨⟨[102,114,97,109,101]⟩⟩),bf4]
def a9p : AV := .lst 16 [bg0]
def bie : AV := .lst 7 [bls,bko,bkg]
def ba9 : AV := .agg [.lst 1 [.lst 3 [.agg [.v (.bool false),.lst 1 [.v (.int .u32 16)],.lst 1 [.v (.int .u32 1)]]]],bg8,.v (.int .i64 1)]
def bad : AV := .agg [.lst 1 [.lst 3 [.agg [.v (.bool false),.lst 1 [.v (.int .u32 16)],.lst 1 [.v (.int .u32 1)]]]],bfm,.v (.int .i64 (-1))]
def bfn : AV := .lst 4 [a1z,bfc,bge]
def ak4 : AV := .agg [.lst 1 [.lst 3 [.agg [.v (.bool false),.lst 1 [.v (.int .u32 16)],.lst 1 [.v (.int .u32 1)]]]],bfn,.lst 1 [.v (.int .i64 1),.v (.int .i64 1)]]
def bgc : AV := .lst 2 [bjh,bia,bhl]
def ajh : AV := .agg [.v (.string ⟨⟨[115,108,105,100,101,114]⟩⟩),bgc,bie,.lst 2 [.agg [.v (.string ⟨⟨[100]⟩⟩),.v (.int .i64 1)]]]
theorem bn6 : Con prog 119 [] [] (ajh) [] := adw ⟨orF [] ((aj4 aj7 (aj5 ck adv adu))),feG prog,aj6⟩ 6000 (base := 2000) (av := []) (by kernel_rfl)
def bib : List (Ent prog) := ⟨_,_,_,_,bn6⟩ :: []
theorem bnw : Con prog 347 [.agg [.v (.slice none 0 0)],.lst 3 [],.lst 3 [.agg [.v (.bool false),.lst 1 [.v (.int .u32 1)],.lst 1 [.v (.int .u32 1)]]]] [] (.tup [.v (.slice none 0 0),.v .nilIface]) [] := adw ⟨orF bib ((aj4 aj7 (aj5 ck adv adu))),feG prog,aj6⟩ 6000 (base := 2000) (av := []) (by kernel_rfl)
def bim : List (Ent prog) := ⟨_,_,_,_,bnw⟩ :: bib
theorem bnm : Con prog 347 [.agg [.v (.slice none 0 0)],.lst 3 [.agg [.v (.bool false),.lst 1 [.v (.int .u32 1)],.lst 1 [.v (.int .u32 1)]]],.lst 3 [.agg [.v (.bool false),.lst 1 [.v (.int .u32 1)],.lst 1 [.v (.int .u32 1)]]]] [] (.tup [.ms 300 3 0 1,.v .nilIface]) [(300,some (.row 3 [.agg [.v (.bool false),.lst 1 [.v (.int .u32 1)],.lst 1 [.v (.int .u32 1)]]]))] := adw ⟨orF bim ((aj4 aj7 (aj5 ck adv adu))),feG prog,aj6⟩ 6000 (base := 2000) (av := []) (by kernel_rfl)
def bjr : List (Ent prog) := ⟨_,_,_,_,bnm⟩ :: bim
theorem bn7 : Con prog 52 [ajh,.v (.int .i64 0),.agg [.v (.bool false),.lst 1 [.v (.int .u32 1)],.lst 1 [.v (.int .u32 1)],.v (.bool false)],.agg [.v (.slice none 0 0),.lst 4 [a1z,.agg [.v (.slice none 0 0),.v (.slice none 0 0),.v (.slice none 0 0),.v (.slice none 0 0)],.agg [.v (.slice none 0 0),.v (.slice none 0 0),.v (.slice none 0 0),.v (.slice none 0 0)]],.v (.slice none 0 0)]] [] (.tup [.lst 3 [.agg [.v (.slice none 0 0),.lst 4 [bix],.v (.int .i64 1)]],.v .nilIface]) [] := adw ⟨orF bjr ((aj4 aj7 (aj5 ck adv adu))),feG prog,aj6⟩ 6000 (base := 2000) (av := []) (by kernel_rfl)
def be9 : List (Ent prog) := ⟨_,_,_,_,bn7⟩ :: bjr
theorem bnt : Con prog 347 [.agg [.lst 1 [.lst 3 [.agg [.v (.bool false),.lst 1 [.v (.int .u32 16)],.lst 1 [.v (.int .u32 1)]]]]],a7i,.lst 3 [.agg [.v (.bool false),.lst 1 [.v (.int .u32 1)],.lst 1 [.v (.int .u32 1)]]]] [] (.tup [.ms 300 3 0 2,.v .nilIface]) [(300,some (.row 3 [.agg [.v (.bool false),.lst 1 [],.lst 1 []],.agg [.v (.bool false),.lst 1 [.v (.int .u32 1)],.lst 1 [.v (.int .u32 1)]]]))] := adw ⟨orF be9 ((aj4 aj7 (aj5 ck adv adu))),feG prog,aj6⟩ 6000 (base := 2000) (av := []) (by kernel_rfl)
def bi8 : List (Ent prog) := ⟨_,_,_,_,bnt⟩ :: be9
theorem bno : Con prog 347 [.agg [.lst 1 [.lst 3 [.agg [.v (.bool false),.lst 1 [.v (.int .u32 16)],.lst 1 [.v (.int .u32 1)]]]]],bg1,.lst 3 [.agg [.v (.bool false),.lst 1 [.v (.int .u32 1)],.lst 1 [.v (.int .u32 1)]]]] [] (.tup [.ms 300 3 0 2,.v .nilIface]) [(300,some (.row 3 [.agg [.v (.bool false),.lst 1 [],.lst 1 []],.agg [.v (.bool true),.lst 1 [.v (.int .u32 1)],.lst 1 [.v (.int .u32 1)]]]))] := adw ⟨orF bi8 ((aj4 aj7 (aj5 ck adv adu))),feG prog,aj6⟩ 6000 (base := 2000) (av := []) (by kernel_rfl)
def bgq : List (Ent prog) := ⟨_,_,_,_,bno⟩ :: bi8
theorem bnd : Con prog 254 [.agg [.v (.slice none 0 0)],.agg [.lst 3 [],.lst 3 [.agg [.v (.bool false),.lst 1 [.v (.int .u32 3)],.lst 1 [.v (.int .u32 1)]]],.lst 3 [.agg [.v (.bool false),.lst 1 [.v (.int .u32 25)],.lst 1 [.v (.int .u32 1)]]]],.agg [.lst 3 [],.lst 3 []],.agg [.lst 3 [.agg [.v (.bool false),.lst 1 [.v (.int .u32 1)],.lst 1 [.v (.int .u32 1)]]],.lst 3 []]] [] (.tup [.agg [.ms 301 1 0 1,bas],.v .nilIface]) [(301,some (.row 1 [.lst 3 [.agg [.v (.bool false),.lst 1 [.v (.int .u32 16)],.lst 1 [.v (.int .u32 1)]]]]))] := adw ⟨orF bgq ((aj4 aj7 (aj5 ck adv adu))),feG prog,aj6⟩ 6000 (base := 2000) (av := []) (by kernel_rfl)
def bh1 : List (Ent prog) := ⟨_,_,_,_,bnd⟩ :: bgq
theorem bny : Con prog 347 [.agg [.lst 1 [.lst 3 [.agg [.v (.bool false),.lst 1 [.v (.int .u32 16)],.lst 1 [.v (.int .u32 1)]]]]],.lst 3 [.agg [.v (.bool false),.lst 1 [],.lst 1 []],.agg [.v (.bool false),.lst 1 [.v (.int .u32 5)],.lst 1 [.v (.int .u32 1)]]],.lst 3 [.agg [.v (.bool false),.lst 1 [.v (.int .u32 25)],.lst 1 [.v (.int .u32 1)]]]] [] (.tup [.ms 300 3 0 2,.v .nilIface]) [(300,some (.row 3 [.agg [.v (.bool false),.lst 1 [],.lst 1 []],.agg [.v (.bool false),.lst 1 [.v (.int .u32 1)],.lst 1 [.v (.int .u32 5)]]]))] := adw ⟨orF bh1 ((aj4 aj7 (aj5 ck adv adu))),feG prog,aj6⟩ 6000 (base := 2000) (av := []) (by kernel_rfl)
def bhp : List (Ent prog) := ⟨_,_,_,_,bny⟩ :: bh1
theorem bnf : Con prog 347 [.agg [.lst 1 [.lst 3 [.agg [.v (.bool false),.lst 1 [.v (.int .u32 16)],.lst 1 [.v (.int .u32 1)]]]]],.lst 3 [.agg [.v (.bool true),.lst 1 [.v (.int .u32 15)],.lst 1 [.v (.int .u32 1)]]],.lst 3 [.agg [.v (.bool false),.lst 1 [.v (.int .u32 25)],.lst 1 [.v (.int .u32 1)]]]] [] (.tup [.ms 300 3 0 1,.v .nilIface]) [(300,some (.row 3 [.agg [.v (.bool true),.lst 1 [.v (.int .u32 3)],.lst 1 [.v (.int .u32 5)]]]))] := adw ⟨orF bhp ((aj4 aj7 (aj5 ck adv adu))),feG prog,aj6⟩ 6000 (base := 2000) (av := []) (by kernel_rfl)
def bjn : List (Ent prog) := ⟨_,_,_,_,bnf⟩ :: bhp
theorem bng : Con prog 347 [.agg [.lst 1 [.lst 3 [.agg [.v (.bool false),.lst 1 [.v (.int .u32 16)],.lst 1 [.v (.int .u32 1)]]]]],.lst 3 [.agg [.v (.bool false),.lst 1 [],.lst 1 []],.agg [.v (.bool true),.lst 1 [.v (.int .u32 5)],.lst 1 [.v (.int .u32 1)]]],.lst 3 [.agg [.v (.bool false),.lst 1 [.v (.int .u32 25)],.lst 1 [.v (.int .u32 1)]]]] [] (.tup [.ms 300 3 0 2,.v .nilIface]) [(300,some (.row 3 [.agg [.v (.bool false),.lst 1 [],.lst 1 []],.agg [.v (.bool true),.lst 1 [.v (.int .u32 1)],.lst 1 [.v (.int .u32 5)]]]))] := adw ⟨orF bjn ((aj4 aj7 (aj5 ck adv adu))),feG prog,aj6⟩ 6000 (base := 2000) (av := []) (by kernel_rfl)
def bid : List (Ent prog) := ⟨_,_,_,_,bng⟩ :: bjn
theorem bkp : Con prog 253 [.agg [.lst 1 [.lst 3 [.agg [.v (.bool false),.lst 1 [.v (.int .u32 16)],.lst 1 [.v (.int .u32 1)]]]],bas],.lst 14 [.agg [.v (.bool false),.lst 1 [],.lst 1 [],.v (.bool false),.v (.slice none 0 0),.v (.slice none 0 0),.lst 3 [],.lst 3 [.agg [.v (.bool false),.lst 1 [.v (.int .u32 3)],.lst 1 [.v (.int .u32 1)]]],.v (.bool false),.lst 1 [.v (.int .u32 5)],.lst 1 [.v (.int .u32 1)],.v (.bool false),.v (.slice none 0 0),.v (.slice none 0 0)]]] [] (.tup [.ms 300 3 0 2,.v .nilIface]) [(300,some (.row 3 [ba9,bad]))] := adw ⟨orF bid ((aj4 aj7 (aj5 ck adv adu))),feG prog,aj6⟩ 6000 (base := 2000) (av := []) (by kernel_rfl)
def a9q : List (Ent prog) := ⟨_,_,_,_,bkp⟩ :: bid
theorem blg : Con prog 52 [ajh,.v (.int .i64 1),.agg [.v (.bool false),.v (.slice none 0 0),.v (.slice none 0 0),.v (.bool false)],.agg [.v (.slice none 0 0),.lst 4 [a1z,bix,.agg [.v (.slice none 0 0),.v (.slice none 0 0),.v (.slice none 0 0),.v (.slice none 0 0)]],.lst 1 [.v (.int .i64 1)]]] [] (.tup [.ms 300 3 0 2,.v .nilIface]) [(300,some (.row 3 [ba9,bad]))] := adw ⟨orF a9q ((aj4 aj7 (aj5 ck adv adu))),feG prog,aj6⟩ 6000 (base := 2000) (av := []) (by kernel_rfl)
def a9w : List (Ent prog) := ⟨_,_,_,_,blg⟩ :: a9q
theorem bj7 : Con prog 370 [.lst 3 [.agg [.v (.bool false),.lst 1 [.v (.int .u32 16)],.lst 1 [.v (.int .u32 1)]]]] [] (.ms 300 3 0 1) [(300,some (.row 3 [.agg [.v (.bool false),.lst 1 [.v (.int .u32 16)],.lst 1 [.v (.int .u32 1)]]]))] := adw ⟨orF a9w ((aj4 aj7 (aj5 ck adv adu))),feG prog,aj6⟩ 6000 (base := 2000) (av := []) (by kernel_rfl)
def a93 : List (Ent prog) := ⟨_,_,_,_,bj7⟩ :: a9w
theorem bk8 : Con prog 370 [.lst 3 [.agg [.v (.bool false),.lst 1 [.v (.int .u32 1)],.lst 1 [.v (.int .u32 1)]]]] [] (.ms 300 3 0 1) [(300,some (.row 3 [.agg [.v (.bool false),.lst 1 [.v (.int .u32 1)],.lst 1 [.v (.int .u32 1)]]]))] := adw ⟨orF a93 ((aj4 aj7 (aj5 ck adv adu))),feG prog,aj6⟩ 6000 (base := 2000) (av := []) (by kernel_rfl)
def bay : List (Ent prog) := ⟨_,_,_,_,bk8⟩ :: a93
theorem bj9 : Con prog 370 [.v (.slice none 0 0)] [] (.v (.slice none 0 0)) [] := adw ⟨orF bay ((aj4 aj7 (aj5 ck adv adu))),feG prog,aj6⟩ 6000 (base := 2000) (av := []) (by kernel_rfl)
def a9s : List (Ent prog) := ⟨_,_,_,_,bj9⟩ :: bay
theorem bl7 : Con prog 370 [.lst 3 []] [] (.v (.slice none 0 0)) [] := adw ⟨orF a9s ((aj4 aj7 (aj5 ck adv adu))),feG prog,aj6⟩ 6000 (base := 2000) (av := []) (by kernel_rfl)
def a98 : List (Ent prog) := ⟨_,_,_,_,bl7⟩ :: a9s
theorem blx : Con prog 370 [bch] [] (.ms 300 3 0 2) [(300,some (.row 3 [.agg [.v (.bool false),.lst 1 [],.lst 1 []],.agg [.v (.bool false),.lst 1 [.v (.int .u32 1)],.lst 1 [.v (.int .u32 5)]]]))] := adw ⟨orF a98 ((aj4 aj7 (aj5 ck adv adu))),feG prog,aj6⟩ 6000 (base := 2000) (av := []) (by kernel_rfl)
def ba6 : List (Ent prog) := ⟨_,_,_,_,blx⟩ :: a98
theorem bku : Con prog 370 [.lst 3 [.agg [.v (.bool true),.lst 1 [.v (.int .u32 3)],.lst 1 [.v (.int .u32 5)]]]] [] (.ms 300 3 0 1) [(300,some (.row 3 [.agg [.v (.bool true),.lst 1 [.v (.int .u32 3)],.lst 1 [.v (.int .u32 5)]]]))] := adw ⟨orF ba6 ((aj4 aj7 (aj5 ck adv adu))),feG prog,aj6⟩ 6000 (base := 2000) (av := []) (by kernel_rfl)
def ban : List (Ent prog) := ⟨_,_,_,_,bku⟩ :: ba6
theorem bme : Con prog 370 [.lst 3 [.agg [.v (.bool false),.lst 1 [.v (.int .u32 3)],.lst 1 [.v (.int .u32 1)]]]] [] (.ms 300 3 0 1) [(300,some (.row 3 [.agg [.v (.bool false),.lst 1 [.v (.int .u32 3)],.lst 1 [.v (.int .u32 1)]]]))] := adw ⟨orF ban ((aj4 aj7 (aj5 ck adv adu))),feG prog,aj6⟩ 6000 (base := 2000) (av := []) (by kernel_rfl)
def a9n : List (Ent prog) := ⟨_,_,_,_,bme⟩ :: ban
theorem bkr : Con prog 104 [ajh,.lst 4 [.agg [.v (.bool false),.lst 1 [.v (.int .u32 1)],.lst 1 [.v (.int .u32 1)],.v (.bool false)]],.lst 1 [.v (.int .i64 1),.v (.int .i64 1)]] [] (.tup [ak4,.v .nilIface]) [] := adw ⟨orF a9n ((aj4 aj7 (aj5 ck adv adu))),feG prog,aj6⟩ 6000 (base := 2000) (av := []) (by kernel_rfl)
def bah : List (Ent prog) := ⟨_,_,_,_,bkr⟩ :: a9n
theorem bml : Con prog 304 [ajh,.lst 4 [.agg [.v (.bool false),.lst 1 [.v (.int .u32 1)],.lst 1 [.v (.int .u32 1)],.v (.bool false)]],ak4] [] (.tup [.v (.bool true),.agg [.v (.int .i64 0),.v (.int .i64 0)],.v .nilIface]) [] := adw ⟨orF bah ((aj4 aj7 (aj5 ck adv adu))),feG prog,aj6⟩ 6000 (base := 2000) (av := []) (by kernel_rfl)
def bar : List (Ent prog) := ⟨_,_,_,_,bml⟩ :: bah
theorem bkc : Con prog 13 [ajh,.v (.int .i64 0),ak4] [] (.tup [.lst 3 [.agg [.v (.bool false),.lst 1 [.v (.int .u32 1)],.lst 1 [.v (.int .u32 1)]]],.v .nilIface]) [] := adw ⟨orF bar ((aj4 aj7 (aj5 ck adv adu))),feG prog,aj6⟩ 6000 (base := 2000) (av := []) (by kernel_rfl)
def a9x : List (Ent prog) := ⟨_,_,_,_,bkc⟩ :: bar
theorem bkh : Con prog 13 [ajh,.v (.int .i64 1),ak4] [] (.tup [a7i,.v .nilIface]) [] := adw ⟨orF a9x ((aj4 aj7 (aj5 ck adv adu))),feG prog,aj6⟩ 6000 (base := 2000) (av := []) (by kernel_rfl)
def baw : List (Ent prog) := ⟨_,_,_,_,bkh⟩ :: a9x
theorem bk2 : Con prog 318 [ajh,.lst 4 [.agg [.v (.bool false),.lst 1 [.v (.int .u32 1)],.lst 1 [.v (.int .u32 1)],.v (.bool false)]],ak4] [] (.tup [.v (.slice none 0 0),.v .nilIface]) [] := adw ⟨orF baw ((aj4 aj7 (aj5 ck adv adu))),feG prog,aj6⟩ 6000 (base := 2000) (av := []) (by kernel_rfl)
def bak : List (Ent prog) := ⟨_,_,_,_,bk2⟩ :: baw
theorem bms : Con prog 347 [.agg [.lst 1 [.lst 3 [.agg [.v (.bool false),.lst 1 [.v (.int .u32 16)],.lst 1 [.v (.int .u32 1)]]]]],.lst 3 [],a7i] [] (.tup [.v (.slice none 0 0),.v .nilIface]) [] := adw ⟨orF bak ((aj4 aj7 (aj5 ck adv adu))),feG prog,aj6⟩ 6000 (base := 2000) (av := []) (by kernel_rfl)
def ba8 : List (Ent prog) := ⟨_,_,_,_,bms⟩ :: bak
theorem bkx : Con prog 223 [ajh,.lst 4 [.agg [.v (.bool false),.lst 1 [.v (.int .u32 1)],.lst 1 [.v (.int .u32 1)],.v (.bool false)]],ak4,.v (.int .i64 0)] [] (.tup [.ms 300 3 0 3,.v .nilIface]) [(300,some (.row 3 [.agg [.v (.slice none 0 0),.v (.slice none 0 0),.v (.slice none 0 0)],.agg [.lst 3 [.agg [.v (.bool false),.lst 1 [.v (.int .u32 1)],.lst 1 [.v (.int .u32 1)]]],.lst 3 [],.lst 3 []],.agg [.lst 3 [],.lst 3 [.agg [.v (.bool true),.lst 1 [.v (.int .u32 3)],.lst 1 [.v (.int .u32 1)]]],.lst 3 []]]))] := adw ⟨orF ba8 ((aj4 aj7 (aj5 ck adv adu))),feG prog,aj6⟩ 6000 (base := 2000) (av := []) (by kernel_rfl)
def bav : List (Ent prog) := ⟨_,_,_,_,bkx⟩ :: ba8
theorem bmd : Con prog 328 [ak4,a9u,.v (.int .i64 2),.agg [.v (.bool false),.lst 1 [.v (.int .u32 5)],.lst 1 [.v (.int .u32 1)]],.agg [.v (.bool false),.v (.slice none 0 0),.v (.slice none 0 0)]] [] (.tup [.agg [.lst 3 [.agg [.v (.bool true),.lst 1 [.v (.int .u32 3)],.lst 1 [.v (.int .u32 1)]]],.lst 3 []],.v .nilIface]) [] := adw ⟨orF bav ((aj4 aj7 (aj5 ck adv adu))),feG prog,aj6⟩ 6000 (base := 2000) (av := []) (by kernel_rfl)
def a92 : List (Ent prog) := ⟨_,_,_,_,bmd⟩ :: bav
theorem bl9 : Con prog 126 [ak4,a9u,a9p] [] (.tup [.lst 3 [.agg [.v (.bool false),.lst 1 [.v (.int .u32 3)],.lst 1 [.v (.int .u32 1)]]],.v .nilIface]) [] := adw ⟨orF a92 ((aj4 aj7 (aj5 ck adv adu))),feG prog,aj6⟩ 6000 (base := 2000) (av := []) (by kernel_rfl)
def a9t : List (Ent prog) := ⟨_,_,_,_,bl9⟩ :: a92
theorem blr : Con prog 121 [ajh,.lst 4 [.agg [.v (.bool false),.lst 1 [.v (.int .u32 1)],.lst 1 [.v (.int .u32 1)],.v (.bool false)]],ak4,a9p] [] (.tup [.ms 300 1 0 1,.v .nilIface]) [(300,some (.row 1 [.lst 3 [.agg [.v (.bool true),.lst 1 [.v (.int .u32 3)],.lst 1 [.v (.int .u32 1)]]]]))] := adw ⟨orF a9t ((aj4 aj7 (aj5 ck adv adu))),feG prog,aj6⟩ 6000 (base := 2000) (av := []) (by kernel_rfl)
def bfq : List (Ent prog) := ⟨_,_,_,_,blr⟩ :: a9t
theorem ahi : FnC prog 41 [] (bl true) := adw ⟨orF bfq ((aj4 aj7 (aj5 ck adv adu))),feG prog,aj6⟩ 6000 (base := 2000) (av := []) (by kernel_rfl)
end Go.Lw
namespace Go.Lw
open Go.Proofs
theorem bld {p q : Bool} (h : cond (cond (!true) true (!p)) true (!q) = false) : p = true /\ q = true:=by cases p <;> cases q <;> simp_all
theorem aqh {a : As} {r : List Vr} (vl : VL a r) (h : ae9 a r = 0) {ls : List Ld} (hl : ∀ f ∈ ls, LdOk f) (hz : ano r.length ls = 0) : Zu 4000 300000 (af0 a r ls) (100 * ls.length) (101 * ls.length) := by
 refine axn (vl.al.ct (ad1 h).chk) (fun f hf => ?_)
 obtain ⟨i,v,b,Z⟩ := aur vl h (hl f hf) ((ahx hz).2 f hf)
 exact Z.zs
theorem auj (a : As) (ha : a.ok) (r : List Vr) (hr : ∀ x ∈ r, ai2 x.l) (hrl : r.length <= 281474976710656) (ls : List Ld) (hw : ∀ f ∈ ls, ∀ x ∈ f.l, x.wok) (hll : ls.length <= 281474976710656) :
  FnC prog 7 [a.av,.lst 3 (r.map Vr.av),.lst 16 (ls.map Ld.av)] (bl true) := by
 refine gF0 func7 ?_
 refine gc ahi ?_
 refine gcG (fun _ => (aph a ha r hr hrl)) ?_
 refine gcG (fun _ => (ajx ls ⟨hw,hll⟩)) ?_
 refine gC (fun ht23 => ?_) (fun ht23 => ?_)
 ·refine gc ahi ?_
  refine gE1 ?_
  first | rfl | (simp; done)
 ·obtain ⟨h1, h2⟩ := bld ht23
  have vl := bbw h1 ha hr
  obtain ⟨hlo,hn⟩ := a3i h2 hw
  have hok : ∀ f ∈ ls,LdOk f := fun f hf => (hlo f hf).o
  refine gc (aeb a r vl ls hok (by omega)) ?_
  refine gc (au2 a r vl ls hok (by omega)) ?_
  refine gC (fun ht40 => ?_) (fun ht40 => ?_)
  ·have h3 := ah0 ht40
   rw [a3a h3]
   refine gl ?_
   refine gcG (fun _ => (azm (ap3 a r ls))) ?_
   refine gE1 ?_
   simp [aab]; rfl
  ·have h3 := ahu ht40
   obtain ⟨h4,h5⟩ := bkt h3
   have hck := (ad1 h4).chk
   haveI c := vl.al.ct hck
   obtain ⟨tw,etw⟩ := acd vl.al.tr hck
   haveI z := aqh vl h4 hok h5
   have h6 := (ahx h5).1
   have hE := anh (ts := llq a.rs) (u := 4000) (k := 300000) (a := sX (af0 a r ls)) (b := sX (af0 a r ls)) (by omega)
   rw [ar7,<- etw] at hE
   rw [as5 h3,h3]
   refine gcG (fun _ => hE) ?_
   refine gE1 ?_
   rfl
end Go.Lw
namespace Go.Lw
open Go.Proofs Go.Proofs.YtjidoooidfcjgaaGreat
open Go.ChangeShapes Go.WideShapes Go.ChangeAt Go.RowKit
set_option maxRecDepth 100000 in
theorem akr (os : Os) (started : os.Started) (H : Type) (enc : TypeId × Value -> H) :
  ReturnsInHanded {} Tryz.checked os 7 .any (Rows.forcePowersSpec.pre6 enc prog Tryz.f7 Rows.forcePowersRow.domain false) (Rows.forcePowersSpec.post enc prog Tryz.f7 false true false false) := by
 refine returnsInHanded_of_change_sized (C := Tryz.checked) own started (by kernel_rfl) func7
  (ChangeSpec.witness6 (enc := enc) (C := Tryz.checked) false ⟨#[],#[.agg #[.slice none 0 0,.slice none 0 0,.slice none 0 0],.slice none 0 0,.slice none 0 0],[]⟩ 8 (by kernel_rfl) (by kernel_rfl) (by kernel_rfl) (by kernel_rfl)) ?_
 intro W base args ds gs before hval0 hW hcnd hwt0 _
 have hval : ∀ (j : Nat) t v,Tryz.f7.params[j]? = some t -> args[j]? = some v -> Value.okWide prog W .any base t v := hval0
 have hwt : (DataW.weightsEach prog (Tryz.f7.params.toList ++ Rows.forcePowersSpec.plain.varTypes prog) (ds ++ gs)).all (· <= reachBytes) = true := hwt0
 have hW' := hW
 obtain ⟨p,q,hA0,hV,rfl,hfz,hnd⟩ := hW
 have hA : DataW.TrodAll enc prog W 0 (fun _ => true) true Tryz.f7.params.toList args.toList ds p := hA0
 rw [Tryz.params7] at hA hval hwt
 obtain ⟨v0,v1,v2,d0,d1,d2,p0,p1,p2,rfl,rfl,rfl,h0,h1,h2⟩ := trodAll_three hA
 obtain ⟨rfl,rfl⟩ := trodVars_none hV
 clear hA0 hval0 hwt0
 have hlt : ∀ x ∈ p0 ++ p1 ++ p2,x.block < W.heap.size := fun x hx => hW'.lt x (by simpa using hx)
 have hw0 : ∀ n ∈ d0.weights prog 33, n <= reachBytes := fun n hn => by
  have := List.all_eq_true.1 hwt n (DataW.weights_mem_each (j := 0) rfl rfl n hn)
  simpa using this
 have hw1 : ∀ n ∈ d1.weights prog 90, n <= reachBytes := fun n hn => by
  have := List.all_eq_true.1 hwt n (DataW.weights_mem_each (j := 1) rfl rfl n hn)
  simpa using this
 have hw2 : ∀ n ∈ d2.weights prog 91, n <= reachBytes := fun n hn => by
  have := List.all_eq_true.1 hwt n (DataW.weights_mem_each (j := 2) rfl rfl n hn)
  simpa using this
 obtain ⟨x0,q0,r0⟩ := a4w Tryz.underlying33 a91 (hval 0 33 v0 rfl rfl) h0 hw0
 obtain ⟨x1,q1,r1⟩ := au1 ayq (fun _ => rfl) (aid Tryz.underlying90 (hval 1 90 v1 rfl rfl)) h1 hw1
 obtain ⟨x2,q2,r2⟩ := au1 aw6 (fun _ => rfl) (aid Tryz.underlying91 (hval 2 91 v2 rfl rfl)) h2 hw2
 have hc := FnC.calls (W := W) (vs := #[v0, v1, v2]) (auj x0 q0 x1 q1.1 q1.2 x2 q2.1 q2.2) rfl (fun j v x hv hx => by
  match j,hv,hx with
  | 0,hv,hx => cases hv; cases hx; exact r0
  | 1,hv,hx => cases hv; cases hx; exact r1
  | 2,hv,hx => cases hv; cases hx; exact r2)
 refine hc.mono fun e W' ⟨he,hb⟩ => ?_
 subst he
 refine ⟨_,rfl,ak9 hW' rfl rfl (fun _ _ _ => trodAll_mk1 (shut_bool Tryz.underlying4 _)) (fun sp hsp => ?_) rfl hb (ok_one (by kernel_rfl) rfl (okWide_bool_mk Tryz.underlying4 _))⟩
 rw [Tryz.params7]
 have hs : ∀ x ∈ p0 ++ p1 ++ p2,sp x.block = true := fun x hx => hsp x (by simpa using hx)
 have g0 := aiw (sp' := sp) (by kernel_rfl) (of_decide_eq_true (by kernel_rfl)) h0 hb (fun x hx => hlt x (by simp [hx])) (fun x hx => hs x (by simp [hx]))
 have g1 := aiw (sp' := sp) (by kernel_rfl) (of_decide_eq_true (by kernel_rfl)) h1 hb (fun x hx => hlt x (by simp [hx])) (fun x hx => hs x (by simp [hx]))
 have g2 := aiw (sp' := sp) (by kernel_rfl) (of_decide_eq_true (by kernel_rfl)) h2 hb (fun x hx => hlt x (by simp [hx])) (fun x hx => hs x (by simp [hx]))
 have g := trodAll_mk3 g0 g1 g2
 rw [show p0 ++ p1 ++ p2 ++ [] = p0 ++ (p1 ++ p2) from by simp]
 exact g
set_option maxRecDepth 100000 in
theorem apa : prog.closure 7 = [7,41,119,220,120,221,241,333,222,133,236,239,332,240,215,237,330,393,334,395,243,394,242,238,331,396,244,104,194,144,260,102,198,300,372,373,410,199,229,326,308,312,380,377,381,422,423,362,424,425,421,426,427,310,271,270,327,307,311,200,301,302,374,207,306,379,201,348,401,432,444,434,447,448,446,402,433,445,436,435,403,261,349,210,313,295,203,196,150,208,209,309,376,378,149,206,305,268,350,345,364,195,296,192,370,297,52,56,145,262,263,351,286,367,288,368,366,285,269,111,146,264,352,147,266,363,265,353,359,409,354,404,355,405,406,356,407,408,437,357,358,360,361,148,267,138,247,335,281,397,431,443,248,151,157,73,71,167,169,168,284,164,365,282,163,287,231,159,170,158,249,155,280,68,161,283,165,59,258,347,400,65,162,63,66,250,139,58,152,156,251,336,398,337,61,252,153,272,225,273,205,154,275,160,274,277,276,279,278,338,339,340,399,341,342,343,256,344,346,253,259,140,62,72,254,141,69,166,64,70,67,255,257,298,371,121,223,304,375,412,413,438,439,449,414,411,416,417,440,441,442,450,415,419,420,418,318,384,428,429,13,57,319,385,430,386,226,324,392,323,325,320,321,387,388,390,389,322,391,124,227,228,125,126,230,328,224,123,54,137,213,132,212,314,315,382,134,49,135,245,17,79,175,129,233,292,176,235,329,293,234,294,369,177,178,116,42,122,143,55,43,44,45,46,47,130,127,128,181,182,184,84,180,83,179,48,131,183,232,85,16]:=by kernel_rfl
theorem akj : joinedFacts prog 7 Tryz.f7 Rows.forcePowersSpec Rows.forcePowersRow = true := by
 unfold joinedFacts Program.recurses Program.inPlace Program.unfollowed Program.varsNamed
 rw [apa,ave,ax0,ayu,a1d,ax4,aw7]
 kernel_rfl
theorem forcePowers_holds : Rows.ForcePowersSaid :=
 OpenClaim.holds_of_wide 7 Tryz.f7 rfl rfl rfl rfl rfl rfl rfl ⟨rfl, rfl, rfl, rfl, rfl⟩ rfl rfl rfl rfl rfl (by kernel_rfl) func7 akj
  (of_decide_eq_true (by kernel_rfl)) (by unfold Func.isWrapper; first | (rw [if_pos (by decide +kernel)]; kernel_rfl) | (rw [if_neg (by decide +kernel)]; exact ⟨rfl,rfl⟩))
  (fun os started H enc _ => akr os started H enc)
end Go.Lw
namespace Go.Lw
open Go.Proofs
theorem bkq {p q s : Bool} {e n : Nat} (h : cond (cond (cond (cond (cond (!true) true (!p)) true (aab .neq (e : Int) 0)) true (!q)) true (!s)) true (aab .gtr (n : Int) 12) = false) : p = true /\ e = 0 /\ q = true /\ s = true /\ n <= 12 := by
 cases p
 ·cases h
 ·cases he : aab .neq (e : Int) 0
  ·rw [he] at h
   cases q
   ·cases h
   ·cases s
    ·cases h
    ·exact ⟨rfl,ahu he,rfl,rfl,aul (b := 12) h⟩
  ·rw [he] at h; cases h
theorem baq {a : As} {r : List Vr} (vl : VL a r) (h : ae9 a r = 0) (xs : List (Et (llq a.rs))) (hx : ∀ x ∈ xs, Nm (llq a.rs).length 2000000000 (sX x)) (hl : xs.length <= 1000) :
  FnC prog 47 [agt a.rs,.lst 1 (xs.map fun x => nA (sX x))] (i64 0) := by
 have hck := (ad1 h).chk
 have hlm := amv (llq a.rs).length
 have hlm2 := amv a.rs.length
 have h1 := alh a.rs 40000 2000000000 vl.al.tr (xs.map fun x => (sX x).map rt) (fun l hl => by
  obtain ⟨x,hx9,rfl⟩ := List.mem_map.1 hl
  exact (hx x hx9).rt (by omega)) (by omega) (by rw [length_map]; exact hl)
 rw [ae7 hck (fun l hl => by
  obtain ⟨x,hx9,rfl⟩ := List.mem_map.1 hl
  rw [<- aoy a.rs]
  exact ape (hx x hx9).nl),map_map,show (nR ∘ fun x : Et (llq a.rs) => (sX x).map rt) = fun x => nA (sX x) from funext fun x => aec _] at h1
 exact h1
theorem bh4 {p : Bool} (h : cond (!true) true (!p) = false) : p = true := by
 cases p
 ·cases h
 ·rfl
theorem atv (a : As) (ha : a.ok) (r : List Vr) (hr : ∀ x ∈ r, ai2 x.l) (hrl : r.length <= 281474976710656) (l1 l2 : List Ld) (hw1 : bem l1) (hw2 : bem l2) :
  FnC prog 8 [a.av,.lst 3 (r.map Vr.av),.agg [.lst 16 (l1.map Ld.av),.lst 16 (l2.map Ld.av)]] (bl true) := by
 have hll1 := hw1.2
 have hll2 := hw2.2
 refine gF0 func8 ?_
 refine gc ahi ?_
 refine gcG (fun _ => (aph a ha r hr hrl)) ?_
 refine gcG (fun h => (atf a r (bbw (bh4 h) ha hr))) ?_
 refine gs (abn rfl rfl rfl (fun h => agi (.tmp rfl) (.const _) T98 rfl T91 rfl (by omega) (by omega) rfl)) ?_
 refine gcG (fun _ => (ajx l1 hw1)) ?_
 refine gs (abn rfl rfl rfl (fun h => agi (.tmp rfl) (.const _) T98 rfl T91 rfl (by omega) (by omega) rfl)) ?_
 refine gcG (fun _ => (ajx l2 hw2)) ?_
 refine gs (abn rfl rfl rfl (fun h => agi (.tmp rfl) (.const _) T98 rfl T91 rfl (by omega) (by omega) rfl)) ?_
 refine glG ?_
 refine gs (abn rfl rfl rfl (fun h => agi (.tmp rfl) (.const _) T98 rfl T91 rfl (by omega) (by omega) rfl)) ?_
 refine glG ?_
 refine gaG (fun _ => (acz (by unfold acf; omega) (by unfold acf; omega))) ?_
 refine gC (fun ht53 => ?_) (fun ht53 => ?_)
 ·refine gc ahi ?_
  refine gE1 ?_
  first | rfl | (simp; done)
 ·obtain ⟨h1, h4, h2, h3, hn⟩ := bkq ht53
  have vl := bbw h1 ha hr
  obtain ⟨hlo1,_⟩ := a3i h2 hw1.1
  obtain ⟨hlo2,_⟩ := a3i h3 hw2.1
  have ho1 : ∀ f ∈ l1,LdOk f := fun f hf => (hlo1 f hf).o
  have ho2 : ∀ f ∈ l2,LdOk f := fun f hf => (hlo2 f hf).o
  have ho3 : ∀ f ∈ l1 ++ l2, LdOk f := fun f hf => by
   rcases List.mem_append.1 hf with h9 | h9
   ·exact ho1 f h9
   ·exact ho2 f h9
  have hln : (l1 ++ l2).length <= 12:=by rw [length_append]; omega
  have hpe : ∀ ls,ap3 a r ls = ano r.length ls := fun ls => avf h4
  refine gs (agi (.tmp rfl) (.const _) T98 rfl T91 rfl (by omega) (by omega) rfl) ?_
  refine gc (aeb a r vl l1 ho1 (by omega)) ?_
  refine gs (agi (.tmp rfl) (.const _) T98 rfl T91 rfl (by omega) (by omega) rfl) ?_
  refine gc (aeb a r vl l2 ho2 (by omega)) ?_
  refine gs (ab3 T91 rfl T103 rfl rfl rfl) ?_
  refine gs (agi (.tmp rfl) (.const _) T98 rfl T91 rfl (by omega) (by omega) rfl) ?_
  refine gs (abq (.tmp rfl) rfl rfl (.tmp rfl) T91 rfl T103 rfl rfl (by simp only [length_map]; omega) rfl rfl) ?_
  refine gs (agi (.tmp rfl) (.const _) T98 rfl T91 rfl (by omega) (by omega) rfl) ?_
  refine gs (aew (.tmp rfl) rfl (by simp) (.tmp rfl) T91 rfl T103 rfl rfl (by simp only [length_map]; omega) rfl rfl) ?_
  refine gc (Con.subA (.cons (.refl _) (.cons (.refl _) (.cons (Sub.of (by rw [map_append]; rfl)) .nil))) (aeb a r vl (l1 ++ l2) ho3 (by omega))) ?_
  refine gD ?_
  refine gC (fun ht89 => ?_) (fun ht89 => ?_) (st2 := (8,5))
  ·have h5 : ap3 a r (l1 ++ l2) ≠ 0 := by
    intro h6
    rw [hpe,a3x (by omega)] at h6
    rw [hpe,hpe,h6.1,h6.2] at ht89
    cases ht89
   refine gE1 ?_
   cases h6 : (!ae5 (ast (ap3 a r (l1 ++ l2))))
   ·exact absurd (ach h6) h5
   ·rfl
  ·have h5 : ap3 a r l1 = 0 /\ ap3 a r l2 = 0 := by
    cases h6 : (!ae5 (ast (ap3 a r l1)))
    ·rw [h6] at ht89; exact ⟨ach h6,ach ht89⟩
    ·rw [h6] at ht89; cases ht89
   obtain ⟨h5,h6⟩ := h5
   have z1 : ano r.length l1 = 0:=by rw [<- hpe]; exact h5
   have z2 : ano r.length l2 = 0:=by rw [<- hpe]; exact h6
   have z3 : ano r.length (l1 ++ l2) = 0 := (a3x (by omega)).2 ⟨z1,z2⟩
   have h7 : ap3 a r (l1 ++ l2) = 0 := (hpe _).trans z3
   have hck := (ad1 h4).chk
   haveI c := vl.al.ct hck
   obtain ⟨tw,etw⟩ := acd vl.al.tr hck
   haveI y1 := aqh vl h4 ho1 z1
   haveI y2 := aqh vl h4 ho2 z2
   haveI y3 := aqh vl h4 ho3 z3
   have hB := baq vl h4 [af0 a r l1, af0 a r l2, af0 a r (l1 ++ l2)] (fun x hx => by
    simp only [mem_cons,not_mem_nil,or_false] at hx
    rcases hx with rfl | rfl | rfl
    ·exact y1.nm.mono (by omega)
    ·exact y2.nm.mono (by omega)
    ·exact y3.nm.mono (by omega)) (by show 3 <= 1000; omega)
   have hP := an0 (ts := llq a.rs) (u := 4000) (k := 300000) (a := sX (af0 a r l1)) (b := sX (af0 a r l2)) (by omega)
   rw [<- a3g] at hP
   have hE := anh (ts := llq a.rs) (u := 4000) (k := 300000) (a := sX (af0 a r (l1 ++ l2))) (b := sX (af0 a r (l1 ++ l2))) (by omega)
   rw [ar7] at hE
   rw [<- etw] at hP hE
   rw [as5 h5,as5 h6,as5 h7,h5,h6,h7]
   first | (refine gs (abn rfl rfl rfl (fun h => aaa (.opt rfl (o1 h)) rfl rfl T29 rfl rfl rfl)) ?_; trace "@@linkwork/linkworklaw44.ForceLinear 8.4 aaa") | (refine go ?_; trace "@@linkwork/linkworklaw44.ForceLinear 8.4 s_auto")
   refine gcG (fun _ => hB) ?_ (8,15)
   first | (refine gs (abn rfl rfl rfl (fun h => aaa (.opt rfl (o1 h)) rfl rfl T29 rfl rfl rfl)) ?_ (8, 17); trace "@@linkwork/linkworklaw44.ForceLinear 8.14 aaa") | (refine go ?_ (8, 17); trace "@@linkwork/linkworklaw44.ForceLinear 8.14 s_auto")
   first | (refine gs (abn rfl rfl rfl (fun h => aaa (.opt rfl (o1 h)) rfl rfl T29 rfl rfl rfl)) ?_; trace "@@linkwork/linkworklaw44.ForceLinear 8.16 aaa") | (refine go ?_; trace "@@linkwork/linkworklaw44.ForceLinear 8.16 s_auto")
   refine gcG (fun _ => hP) ?_
   refine gcG (fun _ => hE) ?_
   refine gD ?_
   refine gC (fun ht115 => ?_) (fun ht115 => ?_) (st1 := (9,0))
   ·exact absurd ht115 (by simp [aab,ast,ae5])
   ·refine gs (agi (.tmp rfl) (.const _) T98 rfl T91 rfl (by omega) (by omega) rfl) ?_ (10, 2)
    first | (refine gs (aaa (.tmp rfl) rfl rfl T91 rfl rfl rfl) ?_ (10, 3); trace "@@linkwork/linkworklaw44.ForceLinear 10.1 aaa") | (refine go ?_ (10, 3); trace "@@linkwork/linkworklaw44.ForceLinear 10.1 s_auto")
    first | (refine go ?_; refine gl ?_; trace "@@linkwork/linkworklaw44.ForceLinear 10.2 ahe") | (refine go ?_; refine ge rfl ?_; trace "@@linkwork/linkworklaw44.ForceLinear 10.2 aet") | (refine go ?_; trace "@@linkwork/linkworklaw44.ForceLinear 10.2 s_auto")
    refine gC (fun ht119 => ?_) (fun ht119 => ?_)
    ·refine gE1 ?_
     rfl
    ·have h8 : 0 < l1.length := by
      have := amx ht119
      omega
     obtain ⟨f,hf⟩ := adg h8
     have hfm := mem_of_getElem? hf
     have lo := hlo1 f hfm
     have ld := (ahx z1).2 f hfm
     have e1 : ano r.length [f] = 0 := a1a ld
     have e2 : ano r.length [ld2 f] = 0 := a1a (bmm ld)
     have p1 : ap3 a r [f] = 0 := (hpe _).trans e1
     have p2 : ap3 a r [ld2 f] = 0 := (hpe _).trans e2
     have o1 : ∀ g ∈ [f],LdOk g := fun g hg => by rw [List.mem_singleton.1 hg]; exact lo.o
     have o2 : ∀ g ∈ [ld2 f],LdOk g := fun g hg => by rw [List.mem_singleton.1 hg]; exact biv lo
     haveI y4 := aqh vl h4 o1 e1
     haveI y5 := aqh vl h4 o2 e2
     have hC1 := aeb a r vl [f] o1 (by show 1 <= 100; omega)
     have hC2 := aeb a r vl [ld2 f] o2 (by show 1 <= 100; omega)
     rw [p1,as5 p1] at hC1
     rw [p2,as5 p2] at hC2
     have hB2 := baq vl h4 [af0 a r [f], af0 a r [ld2 f]] (fun x hx => by
      simp only [mem_cons,not_mem_nil,or_false] at hx
      rcases hx with rfl | rfl
      ·exact y4.nm.mono (by show 100 * 1 * 4000 + 101 * 1 * 300000 <= _; omega)
      ·exact y5.nm.mono (by show 100 * 1 * 4000 + 101 * 1 * 300000 <= _; omega)) (by show 2 <= 1000; omega)
     have hP2 := an0 (ts := llq a.rs) (u := 4000) (k := 300000) (a := sX (af0 a r [f])) (b := sX (af0 a r [f])) (by show 100 * 1 + 101 * 1 + (100 * 1 + 101 * 1) <= 10000; omega)
     have hs : af0 a r [f] + af0 a r [f] = af0 a r [ld2 f]:=by rw [awy,awy,bh9]
     rw [hs] at hP2
     have hE2 := anh (ts := llq a.rs) (u := 4000) (k := 300000) (a := sX (af0 a r [ld2 f])) (b := sX (af0 a r [ld2 f])) (by show 100 * 1 + 101 * 1 + (100 * 1 + 101 * 1) <= 10000; omega)
     rw [ar7] at hE2
     rw [<- etw] at hP2 hE2
     have kx := lo f.fx (by simp [Ld.l])
     have ky := lo f.fy (by simp [Ld.l])
     have km := lo f.m (by simp [Ld.l])
     refine gs (agi (.tmp rfl) (.const _) T98 rfl T91 rfl (by omega) (by omega) rfl) ?_ (12,2)
     first | (refine gs (aaa (.tmp rfl) rfl rfl T91 rfl rfl rfl) ?_; trace "@@linkwork/linkworklaw44.ForceLinear 12.1 aaa") | (refine go ?_; trace "@@linkwork/linkworklaw44.ForceLinear 12.1 s_auto")
     refine gi (aap hf) ?_ (12,4)
     first | (refine gs (aaa (.tmp rfl) rfl rfl T103 rfl rfl rfl) ?_ (12, 6); trace "@@linkwork/linkworklaw44.ForceLinear 12.3 aaa") | (refine go ?_ (12, 6); trace "@@linkwork/linkworklaw44.ForceLinear 12.3 s_auto")
     first | (refine gs (aaw (.tmp rfl) rfl rfl rfl (.tmp rfl) rfl rfl T103 rfl rfl) ?_ (13, 1); trace "@@linkwork/linkworklaw44.ForceLinear 12.5 aaw") | (refine gs (acn (.tmp rfl) rfl rfl (.tmp rfl) rfl rfl T103 rfl rfl rfl) ?_ (13, 1); trace "@@linkwork/linkworklaw44.ForceLinear 12.5 acn") | (refine go ?_ (13, 1); trace "@@linkwork/linkworklaw44.ForceLinear 12.5 s_auto")
     first | (refine gs (aaa (.tmp rfl) rfl rfl T33 rfl rfl rfl) ?_ (13, 3); trace "@@linkwork/linkworklaw44.ForceLinear 13.0 aaa") | (refine go ?_ (13, 3); trace "@@linkwork/linkworklaw44.ForceLinear 13.0 s_auto")
     first | (refine gs (aaa (.tmp rfl) rfl rfl T103 rfl rfl rfl) ?_; trace "@@linkwork/linkworklaw44.ForceLinear 13.2 aaa") | (refine go ?_; trace "@@linkwork/linkworklaw44.ForceLinear 13.2 s_auto")
     refine gc hC1 ?_ (14,2)
     first | (refine gs (aaa (.tmp rfl) rfl rfl T82 rfl rfl rfl) ?_ (14, 4); trace "@@linkwork/linkworklaw44.ForceLinear 14.1 aaa") | (refine go ?_ (14, 4); trace "@@linkwork/linkworklaw44.ForceLinear 14.1 s_auto")
     first | (refine gs (aaa (.tmp rfl) rfl rfl T82 rfl rfl rfl) ?_; trace "@@linkwork/linkworklaw44.ForceLinear 14.3 aaa") | (refine go ?_; trace "@@linkwork/linkworklaw44.ForceLinear 14.3 s_auto")
     refine gc (aii f.fx f.fx kx.1 kx.1) ?_ (14,7)
     first | (refine gs (aaa (.tmp rfl) rfl rfl T82 rfl rfl rfl) ?_ (14, 9); trace "@@linkwork/linkworklaw44.ForceLinear 14.6 aaa") | (refine go ?_ (14, 9); trace "@@linkwork/linkworklaw44.ForceLinear 14.6 s_auto")
     first | (refine gs (aaa (.tmp rfl) rfl rfl T82 rfl rfl rfl) ?_; trace "@@linkwork/linkworklaw44.ForceLinear 14.8 aaa") | (refine go ?_; trace "@@linkwork/linkworklaw44.ForceLinear 14.8 s_auto")
     refine gc (aii f.fy f.fy ky.1 ky.1) ?_ (14,12)
     first | (refine gs (aaa (.tmp rfl) rfl rfl T82 rfl rfl rfl) ?_ (14, 14); trace "@@linkwork/linkworklaw44.ForceLinear 14.11 aaa") | (refine go ?_ (14, 14); trace "@@linkwork/linkworklaw44.ForceLinear 14.11 s_auto")
     first | (refine gs (aaa (.tmp rfl) rfl rfl T82 rfl rfl rfl) ?_; trace "@@linkwork/linkworklaw44.ForceLinear 14.13 aaa") | (refine go ?_; trace "@@linkwork/linkworklaw44.ForceLinear 14.13 s_auto")
     refine gc (aii f.m f.m km.1 km.1) ?_ (14,17)
     first | (refine gs (aaw (.tmp rfl) rfl rfl rfl (.tmp rfl) rfl rfl T82 rfl rfl) ?_ (14, 19); trace "@@linkwork/linkworklaw44.ForceLinear 14.16 aaw") | (refine gs (acn (.tmp rfl) rfl rfl (.tmp rfl) rfl rfl T82 rfl rfl rfl) ?_ (14, 19); trace "@@linkwork/linkworklaw44.ForceLinear 14.16 acn") | (refine go ?_ (14, 19); trace "@@linkwork/linkworklaw44.ForceLinear 14.16 s_auto")
     first | (refine gs (aaw (.tmp rfl) rfl rfl rfl (.tmp rfl) rfl rfl T82 rfl rfl) ?_ (14, 21); trace "@@linkwork/linkworklaw44.ForceLinear 14.18 aaw") | (refine gs (acn (.tmp rfl) rfl rfl (.tmp rfl) rfl rfl T82 rfl rfl rfl) ?_ (14, 21); trace "@@linkwork/linkworklaw44.ForceLinear 14.18 acn") | (refine go ?_ (14, 21); trace "@@linkwork/linkworklaw44.ForceLinear 14.18 s_auto")
     first | (refine gs (aaw (.tmp rfl) rfl rfl rfl (.tmp rfl) rfl rfl T82 rfl rfl) ?_; trace "@@linkwork/linkworklaw44.ForceLinear 14.20 aaw") | (refine gs (acn (.tmp rfl) rfl rfl (.tmp rfl) rfl rfl T82 rfl rfl rfl) ?_; trace "@@linkwork/linkworklaw44.ForceLinear 14.20 acn") | (refine go ?_; trace "@@linkwork/linkworklaw44.ForceLinear 14.20 s_auto")
     refine gD ?_ (15,0)
     refine gW (Wk.o (sl := [(1,some (.lst 3 (r.map Vr.av))),(3,some (.ptr 3 0)),(13,some (.ptr 13 0)),(14,some (nA (sX (af0 a r [f])))),(15,some (.v .nilIface))]) (hp := [(3,some (.box a.av.cells)),(13,some (.box (ld2 f).cells))])) ?_ (15,1)
     first | (refine gs (aaa (.tmp rfl) rfl rfl T33 rfl rfl rfl) ?_ (15, 3); trace "@@linkwork/linkworklaw44.ForceLinear 15.0 aaa") | (refine go ?_ (15, 3); trace "@@linkwork/linkworklaw44.ForceLinear 15.0 s_auto")
     first | (refine gs (aaa (.tmp rfl) rfl rfl T103 rfl rfl rfl) ?_; trace "@@linkwork/linkworklaw44.ForceLinear 15.2 aaa") | (refine go ?_; trace "@@linkwork/linkworklaw44.ForceLinear 15.2 s_auto")
     refine gc hC2 ?_ (16,9)
     first | (refine gs (abn rfl rfl rfl (fun h => aaa (.opt rfl (o1 h)) rfl rfl T29 rfl rfl rfl)) ?_; trace "@@linkwork/linkworklaw44.ForceLinear 16.8 aaa") | (refine go ?_; trace "@@linkwork/linkworklaw44.ForceLinear 16.8 s_auto")
     refine gcG (fun _ => hB2) ?_ (16,18)
     first | (refine gs (abn rfl rfl rfl (fun h => aaa (.opt rfl (o1 h)) rfl rfl T29 rfl rfl rfl)) ?_ (16, 20); trace "@@linkwork/linkworklaw44.ForceLinear 16.17 aaa") | (refine go ?_ (16, 20); trace "@@linkwork/linkworklaw44.ForceLinear 16.17 s_auto")
     first | (refine gs (abn rfl rfl rfl (fun h => aaa (.opt rfl (o1 h)) rfl rfl T29 rfl rfl rfl)) ?_; trace "@@linkwork/linkworklaw44.ForceLinear 16.19 aaa") | (refine go ?_; trace "@@linkwork/linkworklaw44.ForceLinear 16.19 s_auto")
     refine gcG (fun _ => hP2) ?_
     refine gcG (fun _ => hE2) ?_
     refine gD ?_
     refine gE1 ?_
     rfl
end Go.Lw
