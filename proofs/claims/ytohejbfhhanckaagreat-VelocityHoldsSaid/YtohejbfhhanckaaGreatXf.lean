/- VelocityHolds: for any linkage, assembly and velocities the law returns true and leaves its arguments as they were. No other condition. Part 6 of 7: what the later parts need -/
import Derived.Test.YtohejbfhhanckaaGreatXe
set_option linter.unusedVariables false
namespace Go.Lw
variable {P : Program} {N : Nat}
def rdC (s : AS) : Operand -> Option AV
  | .tmp t => match s.get t with
    | some x => match x with
      | .opt _ _ => none
      | x => some x
    | none => none
  | .const c => some (.v c)
  | .func f => some (.v (.func (.func f) #[] #[]))
  | .global _ => none
theorem rdC_ok {s : AS} {o : Operand} {x : AV} (h : rdC s o = some x) : Ev s o x := by
 cases o with
 | tmp t =>
  simp only [rdC] at h
  split at h
  ·rename_i y hy
   split at h
   ·cases h
   ·cases h; exact .tmp hy
  ·cases h
 | const c => cases h; exact .const c
 | func f => cases h; exact .func f
 | global n => cases h
def rdLC (s : AS) : List Operand -> Option (List AV)
  | [] => some []
  | o :: os => match rdC s o with
    | some x => match rdLC s os with
      | some xs => some (x :: xs)
      | none => none
    | none => none
theorem rdLC_ok {s : AS} : ∀ {os : List Operand} {xs : List AV}, rdLC s os = some xs -> EvL s os xs
 | [],xs,h => by cases h; exact .nil
 | o :: os, xs, h => by
  unfold rdLC at h
  split at h
  ·rename_i x h1
   split at h
   ·rename_i ys h2; cases h; exact .cons (rdC_ok h1) (rdLC_ok h2)
   ·cases h
  ·cases h
def wN {α : Type} (n : Nat) (f : Nat -> α) : α := match n with
  | 0 => f 0
  | m + 1 => f (m + 1)
theorem wN_eq {α : Type} (n : Nat) (f : Nat -> α) : wN n f = f n:=by cases n <;> rfl
def wI {α : Type} (z : Int) (f : Int -> α) : α := match z with
  | .ofNat n => match n with
    | 0 => f 0
    | m + 1 => f (Int.ofNat (m + 1))
  | .negSucc n => f (.negSucc n)
theorem wI_eq {α : Type} (z : Int) (f : Int -> α) : wI z f = f z := by
 cases z with
 | ofNat n => cases n <;> rfl
 | negSucc n => rfl
structure V1 where
  x : AV
  rt : List Nat
  rd : List Nat
def isErrB : Value -> Bool
  | .nilIface => true
  | .iface _ _ => true
  | _ => false
theorem isErrB_ok {v : Value} (h : isErrB v = true) : isErr v := by
 cases v <;> first | exact .inl rfl | exact .inr ⟨_,_,rfl⟩ | cases h
def isBit : BinOp -> Bool
  | .and | .or | .xor | .andNot => true
  | _ => false
theorem isBit_ok : ∀ {op : BinOp},isBit op = true -> (match op with | .and | .or | .xor | .andNot => true | _ => false) = true:=by intro op; cases op <;> intro h <;> first | rfl | cases h
def binI (op : BinOp) (x y : Operand) (k k' : IntKind) (a b : Int) : Option V1 := match op with
  | .add | .sub | .mul => match Nat.beq (ikn k) (ikn k') with
    | true => wI (k.wrap (iarith op a b)) fun z => some ⟨.v (.int k z),rtOf x ++ rtOf y,[]⟩
    | false => none
  | .quo => match Nat.beq (ikn k) (ikn k') with
    | true => match b with
      | .ofNat 0 => none
      | b => wI (k.wrap (a.tdiv b)) fun z => some ⟨.v (.int k z),rtOf x ++ rtOf y,[]⟩
    | false => none
  | .rem => match Nat.beq (ikn k) (ikn k') with
    | true => match b with
      | .ofNat 0 => none
      | b => wI (a.tmod b) fun z => some ⟨.v (.int k z),rtOf x ++ rtOf y,[]⟩
    | false => none
  | .shl => match b with
    | .ofNat n => wI (k.wrap (a * 2 ^ (min n k.bits))) fun z => some ⟨.v (.int k z),rtOf x ++ rtOf y,[]⟩
    | .negSucc _ => none
  | .shr => match b with
    | .ofNat n => wI (a.fdiv (2 ^ (min n k.bits))) fun z => some ⟨.v (.int k z),rtOf x ++ rtOf y,[]⟩
    | .negSucc _ => none
  | .eql | .neq | .lss | .leq | .gtr | .geq => match Nat.beq (ikn k) (ikn k') with
    | true => match icmp op a b with
      | true => some ⟨.v (.bool true),rtOf x ++ rtOf y,[]⟩
      | false => some ⟨.v (.bool false),rtOf x ++ rtOf y,[]⟩
    | false => none
  | op => match isBit op && Nat.beq (ikn k) (ikn k') with
    | true => wI (ibits op k a b) fun z => some ⟨.v (.int k z),rtOf x ++ rtOf y,[]⟩
    | false => none
section
variable {s : AS} {R : Array Oper} {d : Nat} {t T : TypeId} {pos : String} {after : Array Edge}
theorem binI_ok {op : BinOp} {x y : Operand} {k k' : IntKind} {a b : Int} {S : TypeId} {r : V1} (hx : Ev s x (.v (.int k a))) (hy : Ev s y (.v (.int k' b))) (h : binI op x y k k' a b = some r) (hN : Nat.blt d N = true) :
  Step P N R s ⟨some d,.binOp op S x y T,t,pos,after,none⟩ ⟨some r.x,[],r.rt,r.rd⟩ := by
 have hc : ∀ (op : BinOp), isCmp op = true -> (match Nat.beq (ikn k) (ikn k') with
  | true => match icmp op a b with
   | true => some (⟨.v (.bool true),rtOf x ++ rtOf y,[]⟩ : V1)
   | false => some ⟨.v (.bool false),rtOf x ++ rtOf y,[]⟩
  | false => none) = some r -> Step P N R s ⟨some d,.binOp op S x y T,t,pos,after,none⟩ ⟨some r.x,[],r.rt,r.rd⟩ := by
  intro op hop h'
  split at h'
  ·rename_i hk
   cases ikn_inj hk
   have := s_cmp (P := P) (R := R) (op := op) (S := S) (T := T) (t := t) (pos := pos) (after := after) hx hy (by cases op <;> simp_all [isCmp]) hN
   split at h'
   ·rename_i hb; cases h'; rw [hb] at this; exact this
   ·rename_i hb; cases h'; rw [hb] at this; exact this
  ·cases h'
 have ha : ∀ (op : BinOp), isAr op = true -> (match Nat.beq (ikn k) (ikn k') with
  | true => wI (k.wrap (iarith op a b)) fun z => some (⟨.v (.int k z),rtOf x ++ rtOf y,[]⟩ : V1)
  | false => none) = some r -> Step P N R s ⟨some d,.binOp op S x y T,t,pos,after,none⟩ ⟨some r.x,[],r.rt,r.rd⟩ := by
  intro op hop h'
  split at h'
  ·rename_i hk
   cases ikn_inj hk
   rw [wI_eq] at h'
   cases h'
   exact s_arith hx hy (isAr_ok hop) hN
  ·cases h'
 have hb : ∀ (op : BinOp), (match isBit op && Nat.beq (ikn k) (ikn k') with
  | true => wI (ibits op k a b) fun z => some (⟨.v (.int k z),rtOf x ++ rtOf y,[]⟩ : V1)
  | false => none) = some r -> Step P N R s ⟨some d,.binOp op S x y T,t,pos,after,none⟩ ⟨some r.x,[],r.rt,r.rd⟩ := by
  intro op h'
  split at h'
  ·rename_i hk
   simp only [Bool.and_eq_true] at hk
   cases ikn_inj hk.2
   rw [wI_eq] at h'
   cases h'
   exact s_bits hx hy (isBit_ok hk.1) hN
  ·cases h'
 cases op with
 | add => exact ha _ rfl h
 | sub => exact ha _ rfl h
 | mul => exact ha _ rfl h
 | quo =>
  simp only [binI] at h
  split at h
  ·rename_i hk
   cases ikn_inj hk
   split at h
   ·cases h
   ·rename_i hb0
    rw [wI_eq] at h; cases h
    exact s_quo hx hy (fun e => hb0 (by rw [e]; rfl)) hN
  ·cases h
 | rem =>
  simp only [binI] at h
  split at h
  ·rename_i hk
   cases ikn_inj hk
   split at h
   ·cases h
   ·rename_i hb0
    rw [wI_eq] at h; cases h
    exact s_rem hx hy (fun e => hb0 (by rw [e]; rfl)) hN
  ·cases h
 | shl =>
  simp only [binI] at h
  split at h
  ·rename_i n
   rw [wI_eq] at h
   obtain rfl := Option.some.inj h
   have := s_shl (P := P) (R := R) (S := S) (T := T) (t := t) (pos := pos) (after := after) hx hy (Int.natCast_nonneg n) hN
   simp only [Int.ofNat_eq_natCast,Int.toNat_natCast] at this
   exact this
  ·cases h
 | shr =>
  simp only [binI] at h
  split at h
  ·rename_i n
   rw [wI_eq] at h
   obtain rfl := Option.some.inj h
   have := s_shr (P := P) (R := R) (S := S) (T := T) (t := t) (pos := pos) (after := after) hx hy (Int.natCast_nonneg n) hN
   simp only [Int.ofNat_eq_natCast,Int.toNat_natCast] at this
   exact this
  ·cases h
 | eql => exact hc _ rfl h
 | neq => exact hc _ rfl h
 | lss => exact hc _ rfl h
 | leq => exact hc _ rfl h
 | gtr => exact hc _ rfl h
 | geq => exact hc _ rfl h
 | _ => exact hb _ h
end
def neB (op : BinOp) (b : Bool) : Bool := match op with
  | .eql => b
  | _ => !b
def nilV : AV -> Option Bool
  | .v (.slice none 0 0) => some true
  | .lst _ (_ :: _) => some false
  | .ms _ _ _ (_ + 1) => some false
  | _ => none
theorem run_slNil {S : TypeId} {w : World} {E : TypeId} (h3 : (underlying S).run P w = .ok (.slice E) w) {a : Option Addr} {n c : Nat} :
  (Op.equal S (.slice a n c) (.slice none 0 0)).run P w = .ok a.isNone w := by
 show (Op.equalIn (9999 + 1) S _ _).run P w = _
 rw [Op.equalIn]
 cases a <;> simp [h3]
theorem s_slNil {s : AS} {R : Array Oper} {d : Nat} {x : Operand} {xv : AV} {b : Bool} {op : BinOp} {S T t E : TypeId} {ti : TI} {pos : String} {after : Array Edge} (hop : op = .eql \/ op = .neq)
  (hx : Ev s x xv) (hv : nilV xv = some b) (hS : tinfo P S = some ti) (hk : ti.k = .slice E) (hN : Nat.blt d N = true) :
  Step P N R s ⟨some d,.binOp op S x (.const (.slice none 0 0)) T,t,pos,after,none⟩ ⟨some (.v (.bool (neB op b))),[],rtOf x,[]⟩ :=
 step_val rfl rfl hN fun s' hag C m a w hr => ⟨.bool (neB op b), by
  have h := (hx.agree hag (fun _ h => h)).rep hr
  obtain ⟨d2,h3,h4,-,-⟩ := run_und hS w
  obtain rfl := tk_slice (h4.trans hk)
  have h2 : a.eval (.const (.slice none 0 0)) = .slice none 0 0 := rfl
  obtain ⟨ad, n, c, he, hb⟩ : ∃ ad n c, a.eval x = .slice ad n c /\ ad.isNone = b := by
   generalize a.eval x = u at h
   unfold nilV at hv
   split at hv
   ·cases hv; cases h; exact ⟨_,_,_,rfl,rfl⟩
   ·cases hv
    cases h with
    | lst u hb hc hl hs h1 hu hr => exact ⟨_,_,_,rfl,rfl⟩
   ·cases hv
    cases h with
    | ms hm hc hS => exact ⟨_,_,_,rfl,rfl⟩
   ·cases hv
  have h5 := run_slNil (P := P) (a := ad) (n := n) (c := c) h3
  rcases hop with rfl | rfl <;> simp [execOp,he,h2,eqGuard,binOp,h5,hb,neB],.v _⟩
theorem s_sliceNil {s : AS} {R : Array Oper} {d : Nat} {x : Operand} {lo hi : Option Operand} {T E t : TypeId} {ti te : TI} {pos : String} {after : Array Edge}
  (hx : Ev s x (.v (.slice none 0 0))) (hl : EvI s lo 0 0) (hh : EvI s hi 0 0) (hT : tinfo P T = some ti) (hk : ti.k = .slice E) (hE : tinfo P E = some te) (hN : Nat.blt d N = true) :
  Step P N R s ⟨some d,.slice T x lo hi none,t,pos,after,none⟩ ⟨some (.v (.slice none 0 0)),[],rtOf x ++ (rtO lo ++ rtO hi),[]⟩ :=
 step_val rfl rfl hN fun s' hag C m a w hr => by
  have hxv := eval_v hr (hx.agree hag (fun _ h => List.mem_append.2 (.inl h)))
  have hl' := hl.agree hag (fun _ h => List.mem_append.2 (.inr (List.mem_append.2 (.inl h))))
  have hh' := hh.agree hag (fun _ h => List.mem_append.2 (.inr (List.mem_append.2 (.inr h))))
  obtain ⟨d2,hu,h3,-,-⟩ := run_und hT w
  obtain rfl := tk_slice (h3.trans hk)
  have := run_sliceBounds (P := P) hr (cap := 0) true hl' hh' (Nat.le_refl _) (Nat.le_refl _)
  exact ⟨.slice none 0 0,by simp [execOp,hxv,Instr.sliceAt,hu,Instr.slice,this,run_sizeOf hE],.v _⟩
theorem s_slice00 {s : AS} {R : Array Oper} {d : Nat} {x : Operand} {k1 k2 : IntKind} {sz : Nat} {es : List AV} {T E t : TypeId} {ti te : TI} {pos : String} {after : Array Edge}
  (hx : Ev s x (.lst sz es)) (hT : tinfo P T = some ti) (hk : ti.k = .slice E) (hE : tinfo P E = some te) (hsz : te.size = sz) (hN : Nat.blt d N = true) :
  Step P N R s ⟨some d,.slice T x none (some (.const (.int k1 0))) (some (.const (.int k2 0))),t,pos,after,none⟩ ⟨some (.ms d sz 0 0),[(d,some (.row sz []))],rtOf x,[]⟩ := by
 refine step_of rfl ?_
 intro s' hag hnew C m a w next hC hr hnext
 have hfr : s'.Fresh d := by
  rcases hnew d (by simp) with h | h
  ·cases h
  ·exact h
 have hxr := (hx.agree hag (fun _ h => h)).rep hr
 obtain ⟨d2,hu,h3,-,-⟩ := run_und hT w
 obtain rfl := tk_slice (h3.trans hk)
 obtain ⟨ad, n, c, he⟩ : ∃ ad n c, a.eval x = .slice ad n c := by
  generalize a.eval x = u at hxr
  cases hxr with
  | lst0 a cap => exact ⟨_,_,_,rfl⟩
  | lst u hb hc hl hs h1 hu hr => exact ⟨_,_,_,rfl⟩
 have e1 : a.eval (.const (.int k1 0)) = .int k1 0 := rfl
 have e2 : a.eval (.const (.int k2 0)) = .int k2 0 := rfl
 have hex : (execOp a.eval ⟨some d, .slice T x none (some (.const (.int k1 0))) (some (.const (.int k2 0))), t, pos, after, none⟩).run P w = .ok (.value (.slice ad 0 0)) w := by
  simp [execOp,he,e1,e2,Instr.sliceAt,hu,Instr.slice,Instr.sliceBounds,Instr.sliceBound,asIntOf,run_sizeOf hE]
 rw [hex]
 rw [Nat.blt_eq] at hN
 simp only [Oper.upon,Act.put]
 obtain ⟨m2,h1⟩ : ∃ m2,RelM C ⟨s'.sl,(d,some (.row sz [])) :: s'.hp⟩ m2 a w := ⟨_,hr.virt sz hfr⟩
 refine hnext m2 _ _ ?_
 have := h1.put d (.slice ad 0 0) (some (.ms d sz 0 0)) (fun z hz => by
  cases hz
  exact ⟨by have := hr.nt; omega,.ms0 _ _ _ _⟩)
 simpa [AS.app] using this
variable [Inhabited (Tys P)]
def isEq : BinOp -> Bool
  | .eql | .neq => true
  | _ => false
def bytL : List UInt8 -> List UInt8 -> Bool
  | [], y => match y with
    | [] => true
    | _ => false
  | x :: l, y => match y with
    | x' :: l' => match Nat.beq x.toNat x'.toNat with
      | true => bytL l l'
      | false => false
    | [] => false
theorem bytL_ok : ∀ {a b : List UInt8}, bytL a b = (a == b)
 | [],[] => rfl
 | [],_ :: _ => rfl
 | _ :: _,[] => rfl
 | x :: l, x' :: l' => by
  show (match Nat.beq x.toNat x'.toNat with | true => bytL l l' | false => false) = _
  cases h : Nat.beq x.toNat x'.toNat with
  | true =>
   have : x = x' := UInt8.toNat_inj.1 (Nat.eq_of_beq_eq_true h)
   subst this
   simp only [bytL_ok (a := l)]
   simp
  | false =>
   have : x ≠ x' := fun e => Nat.ne_of_beq_eq_false h (by rw [e])
   simp [this]
def bytB (a b : ByteArray) : Bool := bytL a.data.toList b.data.toList
theorem bytB_eq (a b : ByteArray) : (a.toList == b.toList) = bytB a b := by
 unfold bytB; rw [bytL_ok,ByteArray.toList_eq,ByteArray.toList_eq]
def binV (P : Program) [Inhabited (Tys P)] (op : BinOp) (S : TypeId) (x y : Operand) (vx vy : Value) : Option V1 := match vx with
  | .int k a => match vy with
    | .int k' b => binI op x y k k' a b
    | _ => none
  | vx => match vy with
    | .nilIface => match y with
      | .const _ => match isErrB vx with
        | true => match tyOf P S with
          | some ti => match ti.k with
            | .iface _ => match op with
              | .eql => some ⟨.v (.bool (isNil vx)),rtOf x ++ [],[]⟩
              | .neq => some ⟨.v (.bool !(isNil vx)),rtOf x ++ [],[]⟩
              | _ => none
            | _ => none
          | none => none
        | false => none
      | _ => none
    | .string b => match vx with
      | .string a => match op with
        | .eql => match bytB a b with
          | true => some ⟨.v (.bool true),rtOf x ++ rtOf y,[]⟩
          | false => some ⟨.v (.bool false),rtOf x ++ rtOf y,[]⟩
        | .neq => match bytB a b with
          | true => some ⟨.v (.bool false),rtOf x ++ rtOf y,[]⟩
          | false => some ⟨.v (.bool true),rtOf x ++ rtOf y,[]⟩
        | _ => none
      | _ => none
    | vy => match aBin P op S x y [] vx vy with
      | some r => match r.ob with
        | [] => some ⟨r.x,r.rt,r.rd⟩
        | _ => none
      | none => none
def sliV (P : Program) [Inhabited (Tys P)] (T sz : Nat) : Bool := match tyOf P T with
  | some ti => match ti.k with
    | .slice E => match tyOf P E with
      | some te => Nat.beq te.size sz
      | none => false
    | _ => false
  | none => false
theorem sliV_ok {T sz : Nat} (h : sliV P T sz = true) : ∃ ti E te, tinfo P T = some ti /\ ti.k = .slice E /\ tinfo P E = some te /\ te.size = sz := by
 unfold sliV at h
 split at h
 ·rename_i ti hti
  split at h
  ·rename_i E hk
   split at h
   ·rename_i te hte
    exact ⟨ti,E,te,tyOf_ok hti,hk,tyOf_ok hte,Nat.eq_of_beq_eq_true h⟩
   ·cases h
  ·cases h
 ·cases h
def bdC (s : AS) (o : Option Operand) (d : Nat) : Option Nat := match o with
  | none => some d
  | some x => match rdC s x with
    | some (.v (.int _ (.ofNat n))) => some n
    | _ => none
theorem bdC_ok {s : AS} {o : Option Operand} {d n : Nat} (h : bdC s o d = some n) : EvI s o d n := by
 cases o with
 | none => cases h; exact .none d
 | some x =>
  simp only [bdC] at h
  split at h
  ·rename_i hx
   cases h
   exact .some (i := Int.ofNat n) d (rdC_ok hx) (Int.natCast_nonneg _)
  ·cases h
def ldE (ti : TI) (l : List AV) : Option AV := match ti.ag with
  | true => match frc (l.take ti.size) with
    | some r => some (.agg r)
    | none => none
  | false => match Nat.beq ti.size 1 with
    | true => match l with
      | x :: _ => some x
      | [] => none
    | false => none
theorem ldE_ok {ti : TI} {l : List AV} {x : AV} (h : ldE ti l = some x) : (ti.ag || Nat.beq ti.size 1) = true /\ x = mkT ti.ag (l.take ti.size) := by
 unfold ldE at h
 split at h
 ·rename_i ha
  split at h
  ·rename_i r hr; cases h; rw [ha,frc_ok hr]; exact ⟨rfl,rfl⟩
  ·cases h
 ·rename_i ha
  split at h
  ·rename_i h1
   split at h
   ·cases h; rw [ha,Nat.eq_of_beq_eq_true h1]; exact ⟨rfl,rfl⟩
   ·cases h
  ·cases h
def eq2V (P : Program) (op : BinOp) (S : TypeId) (x y : Operand) (a b c e : Int) : Option V1 := match op with
  | .eql => match eq2B P S with
    | true => match a == c && b == e with
      | true => some ⟨.v (.bool true),rtOf x ++ rtOf y,[]⟩
      | false => some ⟨.v (.bool false),rtOf x ++ rtOf y,[]⟩
    | false => none
  | _ => none
def opV (P : Program) [Inhabited (Tys P)] (s : AS) (op : Op) : Option V1 := match op with
  | .pick c x y => match rdC s c with
    | some (.v (.bool b)) => match b with
      | true => match rdC s x with
        | some (.v (.bool z)) => some ⟨.v (.bool z),rtOf c ++ (rtOf x ++ rtOf y),[]⟩
        | _ => none
      | false => match rdC s y with
        | some (.v (.bool z)) => some ⟨.v (.bool z),rtOf c ++ (rtOf x ++ rtOf y),[]⟩
        | _ => none
    | _ => none
  | .binOp op S x (.const (.slice none 0 0)) _ => match isEq op with
    | true => match rdC s x with
      | some xv => match nilV xv with
        | some b => match tyOf P S with
          | some ti => match ti.k with
            | .slice _ => match op with
              | .eql => some ⟨.v (.bool b),rtOf x,[]⟩
              | _ => match b with
                | true => some ⟨.v (.bool false),rtOf x,[]⟩
                | false => some ⟨.v (.bool true),rtOf x,[]⟩
            | _ => none
          | none => none
        | none => none
      | none => none
    | false => none
  | .binOp op S x y _ => match rdC s x with
    | some (.v vx) => match rdC s y with
      | some (.v vy) => binV P op S x y vx vy
      | _ => none
    | some (.agg [.v (.int .i64 a), .v (.int .i64 b)]) => match rdC s y with
      | some (.agg [.v (.int .i64 c),.v (.int .i64 e)]) => eq2V P op S x y a b c e
      | _ => none
    | _ => none
  | .unOp .neg _ x => match rdC s x with
    | some (.v (.int k n)) => wI (k.wrap (0 - n)) fun z => some ⟨.v (.int k z),rtOf x,[]⟩
    | _ => none
  | .convert S T x => match rdC s x with
    | some (.v (.int _ n)) => match tyOf P S with
      | some _ => match tyOf P T with
        | some ti => match ti.k with
          | .int k' => wI (k'.wrap n) fun z => some ⟨.v (.int k' z),rtOf x,[]⟩
          | _ => none
        | none => none
      | none => none
    | _ => none
  | .indexAddr T x ix => match rdC s ix with
    | some (.v (.int _ (.ofNat i))) => match rdC s x with
      | some (.lst sz es) => match sliV P T sz with
        | true => match es[i]? with
          | some e => some ⟨.iptr e.cells,rtOf x ++ rtOf ix,[]⟩
          | none => none
        | false => none
      | some (.ms k sz off len) => match sliV P T sz && Nat.blt i len with
        | true => wN (off + i) fun n => some ⟨.eptr k sz n 0,rtOf x ++ rtOf ix,[]⟩
        | false => none
      | _ => none
    | _ => none
  | .load T x => match rdC s x with
    | some (.eptr k sz i off) => match s.blk k with
      | some (.row sz' es) => match Nat.beq sz sz' with
        | true => match es[i]? with
          | some e => match tyOf P T with
            | some ti => match Nat.ble (off + ti.size) e.cells.length with
              | true => match ldE ti (e.cells.drop off) with
                | some v => some ⟨v,rtOf x,[k]⟩
                | none => none
              | false => none
            | none => none
          | none => none
        | false => none
      | _ => none
    | some y => match tyOf P T with
      | some ti => match aLoad P s ti x [] y with
        | some r => some ⟨r.x,r.rt,r.rd⟩
        | none => none
      | none => none
    | none => none
  | .index T x ix => match rdC s ix with
    | some (.v (.int _ (.ofNat i))) => match rdC s x with
      | some (.v (.string b)) => match tyOf P T with
        | some ti => match ti.k with
          | .string => match Nat.blt i b.size with
            | true => wN (b.data.getD i 0).toNat fun n => some ⟨.v (.int .u8 (Int.ofNat n)),rtOf x ++ rtOf ix,[]⟩
            | false => none
          | _ => none
        | none => none
      | _ => none
    | _ => none
  | .slice T x lo hi none => match rdC s x with
    | some (.lst sz es) => match bdC s lo 0 with
      | some l => match bdC s hi es.length with
        | some h => match sliV P T sz && Nat.ble l h && Nat.ble h es.length with
          | true => match frc ((es.drop l).take (h - l)) with
            | some r => some ⟨.lst sz r,rtOf x ++ (rtO lo ++ rtO hi),[]⟩
            | none => none
          | false => none
        | none => none
      | none => none
    | some (.v (.slice none 0 0)) => match bdC s lo 0 with
      | some 0 => match bdC s hi 0 with
        | some 0 => match tyOf P T with
          | some ti => match ti.k with
            | .slice E => match tyOf P E with
              | some _ => some ⟨.v (.slice none 0 0),rtOf x ++ (rtO lo ++ rtO hi),[]⟩
              | none => none
            | _ => none
          | none => none
        | _ => none
      | _ => none
    | some (.ms k sz off len) => match bdC s lo 0 with
      | some l => match bdC s hi len with
        | some h => match sliV P T sz && Nat.ble l h && Nat.ble h len with
          | true => wN (off + l) fun a => wN (h - l) fun b => some ⟨.ms k sz a b,rtOf x ++ (rtO lo ++ rtO hi),[]⟩
          | false => none
        | none => none
      | none => none
    | _ => none
  | .call ⟨.builtin .len, args, ts⟩ => match args.toList with
    | [x] => match ts.toList with
      | [T] => match rdC s x with
        | some (.lst _ es) => match tyOf P T with
          | some ti => match ti.k with
            | .slice _ => wN es.length fun n => some ⟨.v (.int .i64 (Int.ofNat n)),rtOf x,[]⟩
            | _ => none
          | none => none
        | some y => match aLen P x T [] y with
          | some r => some ⟨r.x,r.rt,r.rd⟩
          | none => none
        | none => none
      | _ => none
    | _ => none
  | op => match auto1 P false True s op with
    | some r => match r.ob with
      | [] => some ⟨r.x,r.rt,r.rd⟩
      | _ => none
    | none => none
section
variable {s : AS} {R : Array Oper} {d : Nat} {t T : TypeId} {pos : String} {after : Array Edge}
theorem binV_ok {op : BinOp} {x y : Operand} {vx vy : Value} {S : TypeId} {r : V1} (hx : Ev s x (.v vx)) (hy : Ev s y (.v vy)) (h : binV P op S x y vx vy = some r) (hN : Nat.blt d N = true) :
  Step P N R s ⟨some d,.binOp op S x y T,t,pos,after,none⟩ ⟨some r.x,[],r.rt,r.rd⟩ := by
 unfold binV at h
 split at h
 ·split at h
  ·exact binI_ok hx hy h hN
  ·cases h
 ·split at h
  ·split at h
   ·rename_i c
    have hc : c = .nilIface:=by cases hy; rfl
    subst hc
    split at h
    ·rename_i he
     split at h
     ·rename_i ti hti
      split at h
      ·rename_i hk
       split at h
       ·cases h; exact s_errEq hx (isErrB_ok he) (tyOf_ok hti) hk hN
       ·cases h; exact s_errNe hx (isErrB_ok he) (tyOf_ok hti) hk hN
       ·cases h
      ·cases h
     ·cases h
    ·cases h
   ·cases h
  ·split at h
   ·split at h
    ·have h9 := s_strCmp (P := P) (R := R) (S := S) (T := T) (t := t) (pos := pos) (after := after) hx hy hN
     rw [bytB_eq] at h9
     split at h
     ·rename_i hb; rw [hb] at h9; cases h; exact h9
     ·rename_i hb; rw [hb] at h9; cases h; exact h9
    ·have h9 := s_strNe (P := P) (R := R) (S := S) (T := T) (t := t) (pos := pos) (after := after) hx hy hN
     rw [bytB_eq] at h9
     split at h
     ·rename_i hb; rw [hb] at h9; cases h; exact h9
     ·rename_i hb; rw [hb] at h9; cases h; exact h9
    ·cases h
   ·cases h
  ·split at h
   ·rename_i r' h1
    split at h
    ·rename_i ho; cases h; exact aBin_ok hx hy h1 (by rw [ho]; exact .nil) hN
    ·cases h
   ·cases h
theorem opV_ok {op : Op} {r : V1} (h : opV P s op = some r) (hN : Nat.blt d N = true) : Step P N R s ⟨some d, op, t, pos, after, none⟩ ⟨some r.x, [], r.rt, r.rd⟩ := by
 unfold opV at h
 split at h
 ·split at h
  ·rename_i hc
   split at h
   ·split at h
    ·rename_i z hz; cases h
     exact s_pick (bz := z) (rdC_ok hc) (fun _ => rdC_ok hz) (fun e => by cases e) hN
    ·cases h
   ·split at h
    ·rename_i z hz; cases h
     exact s_pick (bx := z) (rdC_ok hc) (fun e => by cases e) (fun _ => rdC_ok hz) hN
    ·cases h
  ·cases h
 ·rename_i op S x T
  split at h
  ·rename_i hop
   have hop : op = .eql \/ op = .neq:=by cases op <;> first | exact .inl rfl | exact .inr rfl | cases hop
   split at h
   ·rename_i xv hx
    split at h
    ·rename_i b hv
     split at h
     ·rename_i ti hti
      split at h
      ·rename_i hk
       have h9 := s_slNil (P := P) (R := R) (T := T) (t := t) (pos := pos) (after := after) hop (rdC_ok hx) hv (tyOf_ok hti) hk hN
       rcases hop with rfl | rfl
       ·cases h; exact h9
       ·cases b <;> (cases h; exact h9)
      ·cases h
     ·cases h
    ·cases h
   ·cases h
  ·cases h
 ·rename_i T hne
  split at h
  ·rename_i hx
   split at h
   ·rename_i hy; exact binV_ok (rdC_ok hx) (rdC_ok hy) h hN
   ·cases h
  ·rename_i hx
   split at h
   ·rename_i hy
    unfold eq2V at h
    split at h
    ·split at h
     ·rename_i he
      have h9 := s_eq2 (P := P) (R := R) (T := T) (t := t) (pos := pos) (after := after) (rdC_ok hx) (rdC_ok hy) he hN
      split at h
      ·rename_i hb; rw [hb] at h9; cases h; exact h9
      ·rename_i hb; rw [hb] at h9; cases h; exact h9
     ·cases h
    ·cases h
   ·cases h
  ·cases h
 ·split at h
  ·rename_i hx; rw [wI_eq] at h; cases h; exact s_neg (rdC_ok hx) hN
  ·cases h
 ·split at h
  ·rename_i hx
   split at h
   ·rename_i hS
    split at h
    ·rename_i hT
     split at h
     ·rename_i hk; rw [wI_eq] at h; cases h; exact s_cvt (rdC_ok hx) hN (tyOf_ok hS) (tyOf_ok hT) hk
     ·cases h
    ·cases h
   ·cases h
  ·cases h
 ·split at h
  ·rename_i i hi
   split at h
   ·rename_i hx
    split at h
    ·rename_i hs
     obtain ⟨ti,E,te,h1,h2,h3,h4⟩ := sliV_ok hs
     split at h
     ·rename_i e he; cases h
      exact s_idxLst (i := Int.ofNat i) (rdC_ok hx) (rdC_ok hi) h1 h2 h3 h4 (Int.natCast_nonneg _) he hN
     ·cases h
    ·cases h
   ·rename_i hx
    split at h
    ·rename_i hs
     simp only [Bool.and_eq_true,Nat.blt_eq] at hs
     obtain ⟨ti,E,te,h1,h2,h3,h4⟩ := sliV_ok hs.1
     rw [wN_eq] at h; cases h
     exact s_idxMs (i := Int.ofNat i) (rdC_ok hx) (rdC_ok hi) h1 h2 h3 h4 (Int.natCast_nonneg _) (Int.ofNat_lt.2 hs.2) hN
    ·cases h
   ·cases h
  ·cases h
 ·split at h
  ·rename_i hx
   split at h
   ·rename_i hk
    split at h
    ·rename_i hs
     split at h
     ·rename_i e he
      split at h
      ·rename_i ti hT
       split at h
       ·rename_i hle
        split at h
        ·rename_i v hv
         cases h
         cases Nat.eq_of_beq_eq_true hs
         obtain ⟨h1,rfl⟩ := ldE_ok hv
         exact s_loadEptr (rdC_ok hx) hk he (tyOf_ok hT) hle h1 hN
        ·cases h
       ·cases h
      ·cases h
     ·cases h
    ·cases h
   ·cases h
  ·rename_i hx
   split at h
   ·rename_i ti hT
    split at h
    ·rename_i h1; cases h; exact aLoad_ok (rdC_ok hx) (tyOf_ok hT) h1 hN
    ·cases h
   ·cases h
  ·cases h
 ·split at h
  ·rename_i i hi
   split at h
   ·rename_i hx
    split at h
    ·rename_i ti hT
     split at h
     ·rename_i hk
      split at h
      ·rename_i hb
       rw [Nat.blt_eq] at hb
       rw [wN_eq] at h; cases h
       exact s_idxStr (i := Int.ofNat i) (rdC_ok hx) (rdC_ok hi) (tyOf_ok hT) hk (Int.natCast_nonneg _) (Int.ofNat_lt.2 hb) hN
      ·cases h
     ·cases h
    ·cases h
   ·cases h
  ·cases h
 ·split at h
  ·rename_i hx
   split at h
   ·rename_i l hl
    split at h
    ·rename_i hh hhi
     split at h
     ·rename_i hs
      simp only [Bool.and_eq_true,Nat.ble_eq] at hs
      obtain ⟨ti,E,te,h1,h2,h3,h4⟩ := sliV_ok hs.1.1
      split at h
      ·rename_i hr; cases h; cases frc_ok hr
       exact s_sliceLst (rdC_ok hx) (bdC_ok hl) (bdC_ok hhi) h1 h2 h3 h4 hs.1.2 hs.2 hN
      ·cases h
     ·cases h
    ·cases h
   ·cases h
  ·rename_i hx
   split at h
   ·rename_i hl
    split at h
    ·rename_i hh
     split at h
     ·rename_i ti hT
      split at h
      ·rename_i E hk
       split at h
       ·rename_i te hE
        cases h
        exact s_sliceNil (rdC_ok hx) (bdC_ok hl) (bdC_ok hh) (tyOf_ok hT) hk (tyOf_ok hE) hN
       ·cases h
      ·cases h
     ·cases h
    ·cases h
   ·cases h
  ·rename_i hx
   split at h
   ·rename_i l hl
    split at h
    ·rename_i hh hhi
     split at h
     ·rename_i hs
      simp only [Bool.and_eq_true,Nat.ble_eq] at hs
      obtain ⟨ti,E,te,h1,h2,h3,h4⟩ := sliV_ok hs.1.1
      rw [wN_eq,wN_eq] at h; cases h
      exact s_sliceMs (rdC_ok hx) (bdC_ok hl) (bdC_ok hhi) h1 h2 h3 h4 hs.1.2 hs.2 hN
     ·cases h
    ·cases h
   ·cases h
  ·cases h
 ·rename_i args ts
  split at h
  ·rename_i x hx
   split at h
   ·rename_i T hT
    have e1 : args = #[x]:=by apply Array.toList_inj.1; simpa using hx
    have e2 : ts = #[T]:=by apply Array.toList_inj.1; simpa using hT
    subst e1; subst e2
    split at h
    ·rename_i h1
     split at h
     ·rename_i ti hti
      split at h
      ·rename_i hk; rw [wN_eq] at h; cases h; exact s_lenLst (rdC_ok h1) (tyOf_ok hti) hk hN
      ·cases h
     ·cases h
    ·rename_i h1
     split at h
     ·rename_i h2; cases h; exact aLen_ok (rdC_ok h1) h2 hN
     ·cases h
    ·cases h
   ·cases h
  ·cases h
 ·split at h
  ·rename_i h1
   split at h
   ·rename_i ho; cases h; exact auto1_ok h1 (by rw [ho]; exact .nil) trivial hN
   ·cases h
  ·cases h
end
end Go.Lw
namespace Go.Lw
variable {P : Program} {N : Nat}
def tr (a b k : Nat) : Nat := match Nat.beq k a with
  | true => b
  | false => match Nat.beq k b with
    | true => a
    | false => k
theorem tr_eq (a b k : Nat) : tr a b k = if k = a then b else if k = b then a else k := by
 unfold tr
 split
 ·rename_i h; rw [if_pos (Nat.eq_of_beq_eq_true h)]
 ·rename_i h; rw [if_neg (Nat.ne_of_beq_eq_false h)]
  split
  ·rename_i h; rw [if_pos (Nat.eq_of_beq_eq_true h)]
  ·rename_i h; rw [if_neg (Nat.ne_of_beq_eq_false h)]
theorem tr_tr (a b k : Nat) : tr a b (tr a b k) = k := by
 simp only [tr_eq]
 by_cases h1 : k = a
 ·subst h1
  by_cases h2 : b = k
  ·simp [h2]
  ·simp [h2]
 ·by_cases h2 : k = b
  ·subst h2; simp [h1]
  ·simp [h1,h2]
theorem pmH_pmH {σ : Nat -> Nat} (hσ : ∀ k, σ (σ k) = k) : ∀ H : Hp, pmH σ (pmH σ H) = H
 | [] => rfl
 | (k, x) :: l => by
  simp only [pmH,hσ,pmH_pmH hσ l]
  cases x with
  | none => rfl
  | some x => simp only [Blk.pm_pm hσ]
def tA : List (Nat × Nat) -> List AV -> List AV
  | [],xs => xs
  | p :: L,xs => tA L (xs.map (AV.pm (tr p.1 p.2)))
def tH : List (Nat × Nat) -> Hp -> Hp
  | [],H => H
  | p :: L,H => tH L (pmH (tr p.1 p.2) H)
def rB : List (Nat × Nat) -> AV -> AV
  | [],r => r
  | p :: L,r => (rB L r).pm (tr p.1 p.2)
def hB : List (Nat × Nat) -> Hp -> Hp
  | [],H => H
  | p :: L,H => pmH (tr p.1 p.2) (hB L H)
theorem conT {f : FuncId} : ∀ {L : List (Nat × Nat)} {xs : List AV} {H H' : Hp} {r : AV}, Con P f (tA L xs) (tH L H) r H' -> Con P f xs H (rB L r) (hB L H')
 | [],xs,H,H',r,h => h
 | p :: L, xs, H, H', r, h => by
  have h1 := (conT (L := L) h).pm (tr_tr p.1 p.2)
  rw [pmH_pmH (tr_tr p.1 p.2),List.map_map] at h1
  have e : (AV.pm (tr p.1 p.2) ∘ AV.pm (tr p.1 p.2)) = id:=by funext x; exact AV.pm_pm (tr_tr p.1 p.2) x
  rw [e,List.map_id] at h1
  exact h1
def zipK : Nat -> List Nat -> List (Nat × Nat)
  | _,[] => []
  | b,k :: ks => (k,b) :: zipK (b + 1) ks
def memB (k : Nat) : List Nat -> Bool
  | [] => false
  | x :: l => match Nat.beq k x with
    | true => true
    | false => memB k l
def reach (s : AS) : Nat -> List Nat -> List Nat -> List Nat
  | 0,_,acc => acc
  | n + 1, ks, acc => match ks with
    | [] => acc
    | k :: ks => match memB k acc with
      | true => reach s n ks acc
      | false => match s.blk k with
        | some z => reach s n (z.nm ++ ks) (acc ++ [k])
        | none => reach s n ks acc
def pkH (s : AS) : List Nat -> Hp
  | [] => []
  | k :: ks => match s.blk k with
    | some z => (k,some z) :: pkH s ks
    | none => pkH s ks
theorem pkH_ok {s : AS} : ∀ {ks : List Nat} {k : Nat} {z : Blk}, lk (pkH s ks) k = some z -> lk s.hp k = some z
 | [],k,z,h => by cases h
 | k' :: ks, k, z, h => by
  unfold pkH at h
  split at h
  ·rename_i y hy
   rw [lk_cons] at h
   split at h
   ·rename_i e; cases h; rw [e]; exact hy
   ·exact pkH_ok h
  ·exact pkH_ok h
structure Ent (P : Program) where
  f : FuncId
  xs : List AV
  r : AV
  H' : Hp
  con : Con P f xs [] r H'
structure FE (P : Program) where
  f : FuncId
  fn : Func
  c : Code
  rs : List ResultVar
  hf : P.funcs[f]? = some fn
  hb : fn.body = some c
  hn : (fn.name == "runtime.NumGoroutine") = false
  hrs : fn.results = rs.toArray
structure Env (P : Program) where
  orc : FuncId -> Option (List AV -> Option (Ent P))
  fe : FuncId -> Option (FE P)
  mt : FuncId -> Bool
def vEq : Value -> Value -> Bool
  | .int k a,.int k' b => Nat.beq (ikn k) (ikn k') && icmp .eql a b
  | .bool a,.bool b => a == b
  | .nilIface,.nilIface => true
  | .string a,.string b => bytB a b
  | .slice none 0 0,.slice none 0 0 => true
  | .func (.func f) ⟨[]⟩ ⟨[]⟩,.func (.func g) ⟨[]⟩ ⟨[]⟩ => Nat.beq f g
  | .nilFunc,.nilFunc => true
  | .pointer none,.pointer none => true
  | .iface T v,.iface T' v' => Nat.beq T T' && vEq v v'
  | _,_ => false
theorem byt_ext {a b : ByteArray} (h : bytB a b = true) : a = b := by
 unfold bytB at h
 rw [bytL_ok] at h
 have h := eq_of_beq h
 have e : ∀ c : ByteArray,c = ⟨⟨c.data.toList⟩⟩ := fun c => by cases c; rfl
 rw [e a,e b,h]
theorem vEq_ok : ∀ (a b : Value), vEq a b = true -> a = b
 | .iface T v, b, h => by
  cases b with
  | iface T' v' =>
   simp only [vEq,Bool.and_eq_true] at h
   rw [Nat.eq_of_beq_eq_true h.1,vEq_ok v v' h.2]
  | _ => simp [vEq] at h
 | .int k a, b, h => by
  cases b with
  | int k' b =>
   simp only [vEq,Bool.and_eq_true] at h
   rw [ikn_inj h.1,eq_of_beq (show (a == b) = true from h.2)]
  | _ => simp [vEq] at h
 | .bool a, b, h => by
  cases b with
  | bool b => simp only [vEq,beq_iff_eq] at h; rw [h]
  | _ => simp [vEq] at h
 | .string a, b, h => by
  cases b with
  | string b => simp only [vEq] at h; rw [byt_ext h]
  | _ => simp [vEq] at h
 | .nilIface, b, h => by
  cases b <;> simp [vEq] at h
  rfl
 | .slice x n c, b, h => by
  unfold vEq at h
  split at h <;> simp_all
 | .float ..,b,h => by simp [vEq] at h
 | .complex ..,b,h => by simp [vEq] at h
 | .pointer p, b, h => by
  unfold vEq at h
  split at h <;> simp_all
 | .map _,b,h => by simp [vEq] at h
 | .chan _,b,h => by simp [vEq] at h
 | .func f x y, b, h => by
  unfold vEq at h
  split at h <;> first | (simp_all; done) | (simp_all; exact Nat.eq_of_beq_eq_true h)
 | .nilFunc, b, h => by
  unfold vEq at h
  split at h <;> simp_all
 | .agg _,b,h => by simp [vEq] at h
 | .tuple _,b,h => by simp [vEq] at h
mutual
def subB : AV -> AV -> Bool
  | .v a, y => match y with
    | .v b => vEq a b
    | .lst _ es => match es with
      | [] => match a with
        | .slice _ 0 _ => true
        | _ => false
      | _ => false
    | _ => false
  | .lst sz es, y => match y with
    | .lst sz' es' => Nat.beq sz sz' && subCs es es'
    | _ => false
  | .agg cs, y => match y with
    | .agg cs' => subBs cs cs'
    | _ => false
  | .tup cs, y => match y with
    | .tup cs' => subTs cs cs'
    | _ => false
  | _,_ => false
def subBs : List AV -> List AV -> Bool
  | [], y => match y with
    | [] => true
    | _ => false
  | x :: l, y => match y with
    | x' :: l' => x'.one && subB x x' && subBs l l'
    | [] => false
def subTs : List AV -> List AV -> Bool
  | [], y => match y with
    | [] => true
    | _ => false
  | x :: l, y => match y with
    | x' :: l' => subB x x' && subTs l l'
    | [] => false
def subCs : List AV -> List AV -> Bool
  | [], y => match y with
    | [] => true
    | _ => false
  | x :: l, y => match y with
    | x' :: l' => subE x x' && subCs l l'
    | [] => false
def subE : AV -> AV -> Bool
  | .agg cs, y => match y with
    | .agg cs' => subBs cs cs'
    | _ => false
  | .v a, y => match y with
    | .v b => vEq a b && b.oneCell'
    | .lst _ es => match es with
      | [] => match a with
        | .slice _ 0 _ => true
        | _ => false
      | _ => false
    | _ => false
  | .lst sz es, y => match y with
    | .lst sz' es' => Nat.beq sz sz' && subCs es es'
    | _ => false
  | _,_ => false
end
theorem sub_v {a : Value} {y : AV} (h : subB (.v a) y = true) : Sub (.v a) y := by
 cases y with
 | v b => simp only [subB] at h; rw [vEq_ok _ _ h]; exact .refl _
 | lst sz es =>
  cases es with
  | nil =>
   cases a with
   | slice x n c =>
    cases n with
    | zero => exact .nil _ _ _
    | succ n => simp [subB] at h
   | _ => simp [subB] at h
  | cons e es => simp [subB] at h
 | _ => simp [subB] at h
mutual
theorem subB_ok : ∀ (x y : AV), subB x y = true -> Sub x y
 | .v a,y,h => sub_v h
 | .lst sz es, y, h => by
  cases y with
  | lst sz' es' =>
   simp only [subB,Bool.and_eq_true] at h
   cases Nat.eq_of_beq_eq_true h.1
   exact Sub.lst (subCs_ok es es' h.2).1 (subCs_ok es es' h.2).2
  | _ => simp [subB] at h
 | .agg cs, y, h => by
  cases y with
  | agg cs' =>
   simp only [subB] at h
   exact Sub.agg (subBs_ok cs cs' h).1 (subBs_ok cs cs' h).2
  | _ => simp [subB] at h
 | .tup cs, y, h => by
  cases y with
  | tup cs' =>
   simp only [subB] at h
   exact Sub.tup (subTs_ok cs cs' h)
  | _ => simp [subB] at h
 | .iptr _,y,h => by simp [subB] at h
 | .ms ..,y,h => by simp [subB] at h
 | .ptr ..,y,h => by simp [subB] at h
 | .eptr ..,y,h => by simp [subB] at h
 | .fn ..,y,h => by simp [subB] at h
 | .opt ..,y,h => by simp [subB] at h
 | .yl ..,y,h => by simp [subB] at h
 | .cl ..,y,h => by simp [subB] at h
theorem subBs_ok : ∀ (l l' : List AV), subBs l l' = true -> SubL l l' /\ l'.all AV.one = true
 | [],[],h => ⟨.nil,rfl⟩
 | [],_ :: _,h => by simp [subBs] at h
 | _ :: _,[],h => by simp [subBs] at h
 | x :: l, x' :: l', h => by
  simp only [subBs,Bool.and_eq_true] at h
  obtain ⟨h1,h2⟩ := subBs_ok l l' h.2
  exact ⟨.cons (subB_ok x x' h.1.2) h1,by simp only [List.all_cons,h.1.1,h2,Bool.and_self]⟩
theorem subTs_ok : ∀ (l l' : List AV), subTs l l' = true -> SubL l l'
 | [],[],h => .nil
 | [],_ :: _,h => by simp [subTs] at h
 | _ :: _,[],h => by simp [subTs] at h
 | x :: l, x' :: l', h => by
  simp only [subTs,Bool.and_eq_true] at h
  exact .cons (subB_ok x x' h.1) (subTs_ok l l' h.2)
theorem subCs_ok : ∀ (l l' : List AV), subCs l l' = true -> l.length = l'.length /\ ∀ (i : Nat) (e e' : AV), l[i]? = some e -> l'[i]? = some e' -> CellsSub e e'
 | [],[],h => ⟨rfl,fun i e e' h => by simp at h⟩
 | [],_ :: _,h => by simp [subCs] at h
 | _ :: _,[],h => by simp [subCs] at h
 | x :: l, x' :: l', h => by
  simp only [subCs,Bool.and_eq_true] at h
  obtain ⟨h1,h2⟩ := subCs_ok l l' h.2
  refine ⟨by simp [h1],?_⟩
  intro i e e' he he'
  cases i with
  | zero => simp at he he'; subst he; subst he'; exact subE_ok x x' h.1
  | succ i => exact h2 i e e' (by simpa using he) (by simpa using he')
theorem subE_ok : ∀ (x y : AV), subE x y = true -> CellsSub x y
 | .v a, y, h => by
  have one : ∀ {z : AV}, z.cells = [z] -> z.one = true -> Sub (.v a) z -> CellsSub (.v a) z := by
   intro z h1 h2 h3
   refine ⟨by rw [h1]; rfl,?_⟩
   intro j x y hx hy
   rw [h1] at hy
   cases j with
   | zero => simp [AV.cells] at hx hy; subst hx; subst hy; exact ⟨h2,h3⟩
   | succ j => simp at hy
  cases y with
  | v b =>
   simp only [subE,Bool.and_eq_true] at h
   exact one rfl h.2 (by rw [vEq_ok _ _ h.1]; exact .refl _)
  | lst sz es =>
   refine one rfl rfl (sub_v ?_)
   cases es with
   | nil => unfold subE at h; unfold subB; exact h
   | cons => simp [subE] at h
  | _ => simp [subE] at h
 | .lst sz es, y, h => by
  cases y with
  | lst sz' es' =>
   simp only [subE,Bool.and_eq_true] at h
   cases Nat.eq_of_beq_eq_true h.1
   refine ⟨rfl,?_⟩
   intro j x y hx hy
   cases j with
   | zero =>
    simp [AV.cells] at hx hy; subst hx; subst hy
    exact ⟨rfl,Sub.lst (subCs_ok es es' h.2).1 (subCs_ok es es' h.2).2⟩
   | succ j => simp [AV.cells] at hy
  | _ => simp [subE] at h
 | .agg cs, y, h => by
  cases y with
  | agg cs' =>
   simp only [subE] at h
   obtain ⟨h1,h2⟩ := subBs_ok cs cs' h
   exact ⟨h1.len,fun j x y hx hy => ⟨List.all_eq_true.1 h2 y (List.mem_of_getElem? hy),h1.get j x y hx hy⟩⟩
  | _ => simp [subE] at h
 | .tup ..,y,h => by simp [subE] at h
 | .iptr _,y,h => by simp [subE] at h
 | .ms ..,y,h => by simp [subE] at h
 | .ptr ..,y,h => by simp [subE] at h
 | .eptr ..,y,h => by simp [subE] at h
 | .fn ..,y,h => by simp [subE] at h
 | .opt ..,y,h => by simp [subE] at h
 | .yl ..,y,h => by simp [subE] at h
 | .cl ..,y,h => by simp [subE] at h
end
end Go.Lw
namespace Go.Lw
variable {P : Program} {N : Nat}
inductive OR where
  | ok (u : Out)
  | need (k : Nat)
  | no
inductive CR where
  | ok (H : Hp) (r : AV) (H' : Hp)
  | need (k : Nat)
  | no
def subLB : List AV -> List AV -> Bool
  | [], y => match y with
    | [] => true
    | _ => false
  | x :: l, y => match y with
    | x' :: l' => subB x x' && subLB l l'
    | [] => false
theorem subLB_ok : ∀ {l l' : List AV}, subLB l l' = true -> SubL l l'
 | [],[],h => .nil
 | [],_ :: _,h => by simp [subLB] at h
 | _ :: _,[],h => by simp [subLB] at h
 | x :: l, x' :: l', h => by
  simp only [subLB,Bool.and_eq_true] at h
  exact .cons (subB_ok x x' h.1) (subLB_ok h.2)
def mx : Nat -> List Nat -> Nat
  | m,[] => m
  | m, k :: l => match Nat.blt m k && Nat.blt k 1000 with
    | true => mx k l
    | false => mx m l
def srchK (s : AS) : Nat -> Nat -> Nat
  | 0,k => k
  | n + 1, k => match s.freshB k with
    | true => k
    | false => srchK s n (k + 1)
def nxt (s : AS) (av : List Nat) : Nat := srchK s 100 (mx (mx 299 (s.hp.map (·.1))) av + 1)
mutual
theorem AV.pm_id (σ : Nat -> Nat) : ∀ x : AV, x.nm = [] -> x.pm σ = x
 | .ms k sz off len,h => by simp [AV.nm] at h
 | .ptr k off,h => by simp [AV.nm] at h
 | .eptr k sz i off,h => by simp [AV.nm] at h
 | .yl k,h => by simp [AV.nm] at h
 | .agg cs,h => by simp only [AV.pm]; rw [AV.pms_id σ cs (by simpa only [AV.nm] using h)]
 | .tup cs,h => by simp only [AV.pm]; rw [AV.pms_id σ cs (by simpa only [AV.nm] using h)]
 | .fn f cs,h => by simp only [AV.pm]; rw [AV.pms_id σ cs (by simpa only [AV.nm] using h)]
 | .opt b x,h => by simp only [AV.pm]; rw [AV.pm_id σ x (by simpa only [AV.nm] using h)]
 | .v x,h => rfl
 | .lst sz l,h => rfl
 | .iptr l,h => rfl
 | .cl f cs ds,h => rfl
theorem AV.pms_id (σ : Nat -> Nat) : ∀ l : List AV, AV.nms l = [] -> AV.pms σ l = l
 | [],h => rfl
 | x :: l, h => by
  simp only [AV.nms,List.append_eq_nil_iff] at h
  simp only [AV.pms]; rw [AV.pm_id σ x h.1,AV.pms_id σ l h.2]
end
theorem con_key {f : FuncId} {xs : List AV} {r : AV} {H' : Hp} (h : Con P f xs [] r H') (hx : AV.nms xs = []) (k d : Nat) : Con P f xs [] (r.pm (tr k d)) (pmH (tr k d) H') := by
 have h1 := h.pm (tr_tr k d)
 rw [<- AV.pms_eq,AV.pms_id _ xs hx] at h1
 exact h1
abbrev CallF := List Nat -> FuncId -> List AV -> Hp -> Option (AV × Hp)
def CallF.Ok (P : Program) (F : CallF) : Prop := ∀ av f xs H r H',F av f xs H = some (r,H') -> Con P f xs H r H'
def rowK (s : AS) : List Nat -> Option Nat
  | [] => none
  | k :: ks => match s.blk k with
    | some (.row _ _) => some k
    | _ => rowK s ks
def callG (F : CallF) (s : AS) (av : List Nat) (f : FuncId) (xs : List AV) : CR :=
  match pkH s (reach s 300 (AV.nms xs) []) with
  | H => match F (s.hp.map (·.1) ++ av) f xs H with
    | some (r,H') => .ok H r H'
    | none => .no
def callB (E : Env P) (F : CallF) (s : AS) (av : List Nat) (f : FuncId) (xs : List AV) : CR := match E.mt f with
  | true => callG F s av f xs
  | false => match rowK s (AV.nms xs) with
    | some k => .need k
    | none => callG F s av f xs
def callR (E : Env P) (F : CallF) (s : AS) (av : List Nat) (f : FuncId) (xs : List AV) : CR := match E.orc f with
  | some g => match AV.nms xs with
    | k :: _ => .need k
    | [] => match g xs with
      | some e => match Nat.beq e.f f && subLB xs e.xs with
        | true => match e.H' with
          | (k,some z) :: l => .ok [] (e.r.pm (tr k (nxt s av))) (pmH (tr k (nxt s av)) e.H')
          | _ => .ok [] e.r e.H'
        | false => callB E F s av f xs
      | none => callB E F s av f xs
  | none => callB E F s av f xs
theorem callG_ok {F : CallF} (hF : F.Ok P) {s : AS} {av : List Nat} {f : FuncId} {xs : List AV} {H H' : Hp} {r : AV} (h : callG F s av f xs = .ok H r H') : Con P f xs H r H' /\ ∀ k z, lk H k = some z -> s.blk k = some z := by
 unfold callG at h
 simp only at h
 split at h
 ·rename_i h1; cases h; exact ⟨hF _ _ _ _ _ _ h1,fun k z hz => pkH_ok hz⟩
 ·cases h
theorem callB_ok {E : Env P} {F : CallF} (hF : F.Ok P) {s : AS} {av : List Nat} {f : FuncId} {xs : List AV} {H H' : Hp} {r : AV} (h : callB E F s av f xs = .ok H r H') : Con P f xs H r H' /\ ∀ k z, lk H k = some z -> s.blk k = some z := by
 unfold callB at h
 split at h
 ·exact callG_ok hF h
 ·split at h
  ·cases h
  ·exact callG_ok hF h
theorem callR_ok {E : Env P} {F : CallF} (hF : F.Ok P) {s : AS} {av : List Nat} {f : FuncId} {xs : List AV} {H H' : Hp} {r : AV} (h : callR E F s av f xs = .ok H r H') : Con P f xs H r H' /\ ∀ k z, lk H k = some z -> s.blk k = some z := by
 unfold callR at h
 split at h
 ·split at h
  ·cases h
  ·rename_i hn
   split at h
   ·rename_i e he
    split at h
    ·rename_i hc
     simp only [Bool.and_eq_true] at hc
     have hf := Nat.eq_of_beq_eq_true hc.1
     subst hf
     have h9 := Con.subA (subLB_ok hc.2) e.con
     split at h
     ·rename_i k z l _
      obtain ⟨rfl,rfl,rfl⟩ := CR.ok.inj h
      exact ⟨con_key h9 hn _ _,fun k z hz => by cases hz⟩
     ·obtain ⟨rfl, rfl, rfl⟩ := CR.ok.inj h
      exact ⟨h9,fun k z hz => by cases hz⟩
    ·exact callB_ok hF h
   ·exact callB_ok hF h
 ·exact callB_ok hF h
theorem s_append0 {s : AS} {R : Array Oper} {d q sz cap0 : Nat} {a0 : Option Addr} {xs : List AV} {x y : Operand} {T E t : TypeId} {ti te : TI} {pos : String} {after : Array Edge}
  (hx : Ev s x (.v (.slice a0 0 0))) (hy : Ev s y (.lst sz xs)) (hT : tinfo P T = some ti) (hkd : ti.k = .slice E) (hE : tinfo P E = some te)
  (hsz : te.size = sz) (hz0 : (Nat.beq te.zero.length te.size && Nat.blt 0 te.size && Nat.blt 0 te.bytes) = true) (hb : (0 + xs.length) * te.bytes <= 140737488355328) (hdk : Nat.beq d q = false)
  (hN : Nat.blt d N = true) :
  Step P N R s ⟨some d, .call ⟨.builtin .append, #[x, y], #[T, T]⟩, t, pos, after, none⟩
   ⟨some (.ms d sz 0 (0 + xs.length)),[(d,some (.row sz ([] ++ xs))),(q,none)],rtOf x ++ rtOf y,[]⟩ := by
 refine ⟨fun s' hag hnew C m a w Q next hC hr hnext => ?_⟩
 have hq : s'.Fresh q := by
  rcases hnew q (by simp) with h | h
  ·cases h
  ·exact h
 have hd : s'.Fresh d := by
  rcases hnew d (by simp) with h | h
  ·cases h
  ·exact h
 have hdq := Nat.ne_of_beq_eq_false hdk
 have hx' := hx.agree hag (fun _ h => List.mem_append.2 (.inl h))
 have hy' := hy.agree hag (fun _ h => List.mem_append.2 (.inr h))
 let s2 : AS := ⟨s'.sl,(q,some (.row sz [])) :: s'.hp⟩
 have evs : ∀ {o : Operand} {z : AV}, Ev s' o z -> Ev s2 o z := fun h => by
  cases h with
  | tmp h => exact .tmp h
  | opt h hb => exact .opt h hb
  | const c => exact .const c
  | func f => exact .func f
 have st := s_appendG (P := P) (N := N) (R := R) (s := s2) (d := d) (k := q) (t := t) (pos := pos) (after := after) (es := []) (evs hx') (fun g S m v h => Sub.nilMs a0 q sz g S m v h) (by simp [s2,AS.blk,lk_cons]) rfl (evs hy') hT hkd hE hsz hz0 hb hdk hN
 refine st.run s2 ⟨fun _ _ => rfl,fun _ _ => rfl⟩ ?_ C _ a w Q next hC (hr.virt sz hq) (fun m' a' w' hr' => hnext m' a' w' ?_)
 ·intro k hk
  simp only [List.map_cons,List.map_nil,List.mem_cons,List.not_mem_nil,or_false] at hk
  rcases hk with rfl | rfl
  ·exact .inr (Fresh.row hd hdq (fun h => h))
  ·exact .inl (by simp)
 ·refine RelM.congr ?_ ?_ hr'
  ·intro t; rfl
  ·intro k
   simp only [AS.app,AS.blk,s2,List.cons_append,List.nil_append,lk_cons]
   split
   ·rfl
   ·split <;> rfl
mutual
def avEq : AV -> AV -> Bool
  | .v a, y => match y with
    | .v b => vEq a b
    | _ => false
  | .lst sz es, y => match y with
    | .lst sz' es' => Nat.beq sz sz' && avEqs es es'
    | _ => false
  | .agg cs, y => match y with
    | .agg cs' => avEqs cs cs'
    | _ => false
  | .tup cs, y => match y with
    | .tup cs' => avEqs cs cs'
    | _ => false
  | .iptr cs, y => match y with
    | .iptr cs' => avEqs cs cs'
    | _ => false
  | .ms k sz off len, y => match y with
    | .ms k' sz' off' len' => Nat.beq k k' && (Nat.beq sz sz' && (Nat.beq off off' && Nat.beq len len'))
    | _ => false
  | .ptr k off, y => match y with
    | .ptr k' off' => Nat.beq k k' && Nat.beq off off'
    | _ => false
  | .eptr k sz i off, y => match y with
    | .eptr k' sz' i' off' => Nat.beq k k' && (Nat.beq sz sz' && (Nat.beq i i' && Nat.beq off off'))
    | _ => false
  | .fn f cs, y => match y with
    | .fn f' cs' => Nat.beq f f' && avEqs cs cs'
    | _ => false
  | .opt _ _,_ => false
  | .yl _,_ => false
  | .cl _ _ _,_ => false
def avEqs : List AV -> List AV -> Bool
  | [], y => match y with
    | [] => true
    | _ => false
  | x :: l, y => match y with
    | x' :: l' => avEq x x' && avEqs l l'
    | [] => false
end
mutual
theorem avEq_ok : ∀ (x y : AV), avEq x y = true -> x = y
 | .v a,y,h => by cases y <;> simp [avEq] at h; rw [vEq_ok _ _ h]
 | .lst sz es, y, h => by
  cases y <;> simp only [avEq,Bool.and_eq_true,Bool.false_eq_true] at h
  rw [Nat.eq_of_beq_eq_true h.1,avEqs_ok _ _ h.2]
 | .agg cs,y,h => by cases y <;> simp only [avEq,Bool.false_eq_true] at h; rw [avEqs_ok _ _ h]
 | .tup cs,y,h => by cases y <;> simp only [avEq,Bool.false_eq_true] at h; rw [avEqs_ok _ _ h]
 | .iptr cs,y,h => by cases y <;> simp only [avEq,Bool.false_eq_true] at h; rw [avEqs_ok _ _ h]
 | .ms k sz off len, y, h => by
  cases y <;> simp only [avEq,Bool.and_eq_true,Bool.false_eq_true] at h
  rw [Nat.eq_of_beq_eq_true h.1,Nat.eq_of_beq_eq_true h.2.1,Nat.eq_of_beq_eq_true h.2.2.1,Nat.eq_of_beq_eq_true h.2.2.2]
 | .ptr k off, y, h => by
  cases y <;> simp only [avEq,Bool.and_eq_true,Bool.false_eq_true] at h
  rw [Nat.eq_of_beq_eq_true h.1,Nat.eq_of_beq_eq_true h.2]
 | .eptr k sz i off, y, h => by
  cases y <;> simp only [avEq,Bool.and_eq_true,Bool.false_eq_true] at h
  rw [Nat.eq_of_beq_eq_true h.1,Nat.eq_of_beq_eq_true h.2.1,Nat.eq_of_beq_eq_true h.2.2.1,Nat.eq_of_beq_eq_true h.2.2.2]
 | .fn f cs, y, h => by
  cases y <;> simp only [avEq,Bool.and_eq_true,Bool.false_eq_true] at h
  rw [Nat.eq_of_beq_eq_true h.1,avEqs_ok _ _ h.2]
 | .opt ..,y,h => by simp [avEq] at h
 | .yl ..,y,h => by simp [avEq] at h
 | .cl ..,y,h => by simp [avEq] at h
theorem avEqs_ok : ∀ (l l' : List AV), avEqs l l' = true -> l = l'
 | [],[],h => rfl
 | [],_ :: _,h => by simp [avEqs] at h
 | _ :: _,[],h => by simp [avEqs] at h
 | x :: l, x' :: l', h => by
  simp only [avEqs,Bool.and_eq_true] at h
  rw [avEq_ok x x' h.1,avEqs_ok l l' h.2]
end
def blkEq : Blk -> Blk -> Bool
  | .box cs,.box cs' => avEqs cs cs'
  | .row sz es,.row sz' es' => Nat.beq sz sz' && avEqs es es'
  | _,_ => false
theorem blkEq_ok {x y : Blk} (h : blkEq x y = true) : x = y := by
 cases x <;> cases y <;> simp only [blkEq,Bool.false_eq_true] at h
 ·rw [avEqs_ok _ _ h]
 ·simp only [Bool.and_eq_true] at h
  rw [Nat.eq_of_beq_eq_true h.1,avEqs_ok _ _ h.2]
theorem memB_ok {k : Nat} : ∀ {l : List Nat}, memB k l = true ↔ k ∈ l
 | [] => by simp [memB]
 | x :: l => by
  unfold memB
  split
  ·rename_i h; simp [Nat.eq_of_beq_eq_true h]
  ·rename_i h; rw [memB_ok (l := l)]; simp [Nat.ne_of_beq_eq_false h]
def chg (H : Hp) : List Nat -> Hp -> Hp
  | _,[] => []
  | seen, (k, x) :: l => match memB k seen with
    | true => chg H seen l
    | false => match x with
      | some z => match lk H k with
        | some y => match blkEq y z with
          | true => chg H (k :: seen) l
          | false => (k,some z) :: chg H (k :: seen) l
        | none => (k,some z) :: chg H (k :: seen) l
      | none => (k,none) :: chg H (k :: seen) l
theorem chg_ok {H R : Hp} (hR : ∀ t y, lk H t = some y -> lk R t = some y) : ∀ {l : Hp} {seen : List Nat} {t : Nat}, t ∉ seen -> lk (chg H seen l ++ R) t = if t ∈ l.map (·.1) then lk l t else lk R t
 | [],seen,t,h => by simp [chg]
 | (k, x) :: l, seen, t, h => by
  have rest : t ≠ k -> lk (chg H (k :: seen) l ++ R) t = if t ∈ ((k, x) :: l).map (·.1) then lk ((k, x) :: l) t else lk R t := by
   intro hne
   rw [chg_ok hR (fun hh => by rcases List.mem_cons.1 hh with e | e; exact hne e; exact h e)]
   simp only [List.map_cons,List.mem_cons,hne,false_or]
   rw [lk_cons,if_neg hne]
  have head : lk ((k, x) :: (chg H (k :: seen) l ++ R)) t = if t ∈ ((k, x) :: l).map (·.1) then lk ((k, x) :: l) t else lk R t := by
   rw [lk_cons]
   by_cases e : t = k
   ·rw [if_pos e,lk_cons,if_pos e]; simp [e]
   ·rw [if_neg e,rest e]
  unfold chg
  split
  ·rename_i hm
   have hne : t ≠ k := fun e => h (by rw [e]; exact memB_ok.1 hm)
   rw [chg_ok hR h]
   simp only [List.map_cons,List.mem_cons,hne,false_or]
   rw [lk_cons,if_neg hne]
  ·split
   ·rename_i z
    split
    ·rename_i y hy
     split
     ·rename_i he
      by_cases e : t = k
      ·rw [chg_none (by rw [e]; exact List.mem_cons_self ..), e, hR k y hy, blkEq_ok he]
       simp [lk_cons]
      ·exact rest e
     ·exact head
    ·exact head
   ·exact head
where
 chg_none {H R : Hp} : ∀ {l : Hp} {seen : List Nat} {t : Nat}, t ∈ seen -> lk (chg H seen l ++ R) t = lk R t
  | [],seen,t,h => rfl
  | (k, x) :: l, seen, t, h => by
   unfold chg
   split
   ·exact chg_none h
   ·rename_i hm
    have hne : t ≠ k := fun e => by rw [e] at h; rw [memB_ok.2 h] at hm; cases hm
    have ih := chg_none (H := H) (R := R) (l := l) (List.mem_cons_of_mem k h)
    split
    ·split
     ·split
      ·exact ih
      ·show lk (_ :: (_ ++ R)) t = _
       rw [lk_cons,if_neg hne]; exact ih
     ·show lk (_ :: (_ ++ R)) t = _
      rw [lk_cons,if_neg hne]; exact ih
    ·show lk (_ :: (_ ++ R)) t = _
     rw [lk_cons,if_neg hne]; exact ih
theorem chg_keys {H : Hp} : ∀ {l : Hp} {seen : List Nat} {k : Nat}, k ∈ l.map (·.1) -> k ∉ seen -> k ∈ (chg H seen l).map (·.1) \/ ∃ y, lk H k = some y
 | [],seen,k,h,_ => by simp at h
 | (k', x) :: l, seen, k, h, hs => by
  unfold chg
  by_cases e : k = k'
  ·subst e
   have hm : memB k seen = false := by
    cases hq : memB k seen with
    | true => exact absurd (memB_ok.1 hq) hs
    | false => rfl
   simp only [hm]
   split
   ·split
    ·rename_i y hy
     split
     ·exact .inr ⟨y,hy⟩
     ·exact .inl (by simp)
    ·exact .inl (by simp)
   ·exact .inl (by simp)
  ·have h' : k ∈ l.map (·.1) := by simpa [e] using h
   have hs' : k ∉ k' :: seen := fun hh => by rcases List.mem_cons.1 hh with e' | e'; exact e e'; exact hs e'
   have ih1 := chg_keys (H := H) h' hs
   have ih2 := chg_keys (H := H) h' hs'
   split
   ·exact ih1
   ·split
    ·split
     ·split
      ·exact ih2
      ·rcases ih2 with h | h
       ·exact .inl (List.mem_cons_of_mem _ h)
       ·exact .inr h
     ·rcases ih2 with h | h
      ·exact .inl (List.mem_cons_of_mem _ h)
      ·exact .inr h
    ·rcases ih2 with h | h
     ·exact .inl (List.mem_cons_of_mem _ h)
     ·exact .inr h
theorem step_slim {R : Array Oper} {s : AS} {o : Oper} {x : Option AV} {H U : Hp} {rt : List Nat} (hH : ∀ k z, lk H k = some z -> s.blk k = some z) (h : Step P N R s o ⟨x, U, rt, H.map (·.1)⟩) :
  Step P N R s o ⟨x,chg H [] U,rt,H.map (·.1)⟩ := by
 refine ⟨fun s' hag hnew C m a w Q next hC hr hnext => ?_⟩
 have hH' : ∀ k z,lk H k = some z -> lk s'.hp k = some z := fun k z hz => (hag.2 k (mem_keys_of_lk hz)).trans (hH k z hz)
 refine h.run s' hag (fun k hk => ?_) C m a w Q next hC hr (fun m' a' w' hr' => hnext m' a' w' ?_)
 ·rcases chg_keys (H := H) hk (seen := []) (by simp) with h1 | ⟨y, hy⟩
  ·exact hnew k h1
  ·exact .inl (mem_keys_of_lk hy)
 ·refine RelM.congr (s := s'.app o.dst ⟨x, U, rt, H.map (·.1)⟩) (fun t => rfl) (fun k => ?_) hr'
  simp only [AS.blk,AS.app]
  rw [chg_ok hH' (by simp),lk_append]
variable [Inhabited (Tys P)]
def appC (P : Program) [Inhabited (Tys P)] (s : AS) (d : Nat) (x y : Operand) (T : TypeId) : OR := match rdC s y with
  | some (.lst sz xs) => match tyOf P T with
    | some ti => match ti.k with
      | .slice E => match tyOf P E with
        | some te => match Nat.beq te.size sz && (Nat.beq te.zero.length te.size && Nat.blt 0 te.size && Nat.blt 0 te.bytes) with
          | true => match rdC s x with
            | some (.ms k sz' off len) => match s.blk k with
              | some (.row sz2 es) => match Nat.beq sz' sz && Nat.beq off 0 && Nat.beq sz2 sz && Nat.beq len es.length && Nat.ble ((len + xs.length) * te.bytes) 140737488355328 with
                | true => match Nat.beq d k with
                  | true => .no
                  | false => match frc (es ++ xs) with
                    | some l => wN (len + xs.length) fun n => .ok ⟨some (.ms d sz 0 n),[(d,some (.row sz l)),(k,none)],rtOf x ++ rtOf y,[k]⟩
                    | none => .no
                | false => .no
              | _ => .no
            | some (.v (.slice a0 0 0)) => match Nat.ble ((0 + xs.length) * te.bytes) 140737488355328 with
              | true => match Nat.beq d 299 with
                | true => .no
                | false => match frc ([] ++ xs) with
                  | some l => wN (0 + xs.length) fun n => .ok ⟨some (.ms d sz 0 n),[(d,some (.row sz l)),(299,none)],rtOf x ++ rtOf y,[]⟩
                  | none => .no
              | false => .no
            | _ => .no
          | false => .no
        | none => .no
      | _ => .no
    | none => .no
  | some (.ms k _ _ _) => .need k
  | _ => .no
theorem appC_ok {s : AS} {R : Array Oper} {d : Nat} {x y : Operand} {T t : TypeId} {u : Out} {pos : String} {after : Array Edge} (h : appC P s d x y T = .ok u) (hN : Nat.blt d N = true) :
  Step P N R s ⟨some d,.call ⟨.builtin .append,#[x,y],#[T,T]⟩,t,pos,after,none⟩ u := by
 unfold appC at h
 split at h
 ·rename_i sz xs hy
  split at h
  ·rename_i ti hT
   split at h
   ·rename_i E hk
    split at h
    ·rename_i te hE
     split at h
     ·rename_i hc
      simp only [Bool.and_eq_true] at hc
      have hsz := Nat.eq_of_beq_eq_true hc.1
      have hz0 : (Nat.beq te.zero.length te.size && Nat.blt 0 te.size && Nat.blt 0 te.bytes) = true:=by simp only [Bool.and_eq_true]; exact hc.2
      split at h
      ·rename_i k sz' off len hx
       split at h
       ·rename_i sz2 es hb
        split at h
        ·rename_i hg
         simp only [Bool.and_eq_true,Nat.ble_eq] at hg
         obtain ⟨⟨⟨⟨g1,g2⟩,g3⟩,g4⟩,g5⟩ := hg
         cases Nat.eq_of_beq_eq_true g1
         cases Nat.eq_of_beq_eq_true g2
         cases Nat.eq_of_beq_eq_true g3
         split at h
         ·cases h
         ·rename_i hdk
          split at h
          ·rename_i l hl
           cases frc_ok hl
           rw [wN_eq] at h; cases h
           exact s_append (rdC_ok hx) hb (Nat.eq_of_beq_eq_true g4) (rdC_ok hy) (tyOf_ok hT) hk (tyOf_ok hE) hsz hz0 g5 hdk hN
          ·cases h
        ·cases h
       ·cases h
      ·rename_i a0 hx
       split at h
       ·rename_i g5
        rw [Nat.ble_eq] at g5
        split at h
        ·cases h
        ·rename_i hdk
         split at h
         ·rename_i l hl
          cases frc_ok hl
          rw [wN_eq] at h; cases h
          exact s_append0 (cap0 := 0) (rdC_ok hx) (rdC_ok hy) (tyOf_ok hT) hk (tyOf_ok hE) hsz hz0 g5 hdk hN
         ·cases h
       ·cases h
      ·cases h
     ·cases h
    ·cases h
   ·cases h
  ·cases h
 ·cases h
 ·cases h
def stoE (P : Program) [Inhabited (Tys P)] (s : AS) (T : TypeId) (x y : Operand) : OR := match rdC s x with
  | some (.eptr k sz i off) => match rdC s y with
    | some v => match v.nm with
      | k' :: _ => .need k'
      | [] => match s.blk k with
        | some (.row sz' es) => match es[i]? with
          | some e => match tyOf P T with
            | some ti => match Nat.beq sz sz' && v.ok && Nat.beq v.cells.length ti.size && Nat.ble (off + ti.size) e.cells.length with
              | true => match e with
                | .agg cs => match frc (over cs off v.cells) with
                  | some l => match frc (es.set i (.agg l)) with
                    | some es' => .ok ⟨none,[(k,some (.row sz es'))],rtOf x ++ rtOf y,[k]⟩
                    | none => .no
                  | none => .no
                | e => match Nat.beq off 0 && Nat.beq v.cells.length 1 with
                  | true => match frc (es.set i v) with
                    | some es' => .ok ⟨none,[(k,some (.row sz es'))],rtOf x ++ rtOf y,[k]⟩
                    | none => .no
                  | false => .no
              | false => .no
            | none => .no
          | none => .no
        | _ => .no
    | none => .no
  | _ => .no
theorem cells_one1 {e : AV} (h : ∀ cs, e ≠ .agg cs) : e.cells = [e] := by
 cases e <;> first | rfl | exact absurd rfl (h _)
theorem stoE_ok {s : AS} {R : Array Oper} {x y : Operand} {T t : TypeId} {u : Out} {pos : String} {after : Array Edge} (h : stoE P s T x y = .ok u) :
  Step P N R s ⟨none,.store T x y,t,pos,after,none⟩ u := by
 unfold stoE at h
 split at h
 ·rename_i k sz i off hx
  split at h
  ·rename_i v hy
   split at h
   ·cases h
   ·rename_i hnm
    split at h
    ·rename_i sz' es hb
     split at h
     ·rename_i e he
      split at h
      ·rename_i ti hT
       split at h
       ·rename_i hc
        simp only [Bool.and_eq_true] at hc
        obtain ⟨⟨⟨c1,c2⟩,c3⟩,c4⟩ := hc
        cases Nat.eq_of_beq_eq_true c1
        split at h
        ·rename_i cs
         split at h
         ·rename_i l hl
          split at h
          ·rename_i es' hes
           cases h
           cases frc_ok hl
           cases frc_ok hes
           exact s_stEptr (rdC_ok hx) hb he (rdC_ok hy) c2 hnm (tyOf_ok hT) c3 c4 rfl
          ·cases h
         ·cases h
        ·rename_i hne
         split at h
         ·rename_i hg
          simp only [Bool.and_eq_true] at hg
          split at h
          ·rename_i es' hes
           cases h
           cases frc_ok hes
           cases Nat.eq_of_beq_eq_true hg.1
           refine s_stEptr (rdC_ok hx) hb he (rdC_ok hy) c2 hnm (tyOf_ok hT) c3 c4 ?_
           rw [cells_one1 hne]
           have := Nat.eq_of_beq_eq_true hg.2
           simp [over,this]
          ·cases h
         ·cases h
       ·cases h
      ·cases h
     ·cases h
    ·cases h
  ·cases h
 ·cases h
def mkS (P : Program) [Inhabited (Tys P)] (d : Nat) (T : TypeId) (n : Int) (rt : List Nat) : OR := match tyOf P T with
  | some ti => match ti.k with
    | .slice E => match tyOf P E with
      | some te => match te.zero.all Value.oneCell' && (Nat.beq te.zero.length te.size && Nat.blt 0 te.size && Nat.blt 0 te.bytes && (te.ag || Nat.beq te.size 1)) with
        | true => match n with
          | .ofNat n => match Nat.ble (n * te.bytes) 281474976710656 with
            | true => match frc (List.replicate n (mkT te.ag (te.zero.map .v))) with
              | some l => .ok ⟨some (.ms d te.size 0 n),[(d,some (.row te.size l))],rt,[]⟩
              | none => .no
            | false => .no
          | .negSucc _ => .no
        | false => .no
      | none => .no
    | _ => .no
  | none => .no
theorem mkS_ok {s : AS} {R : Array Oper} {d : Nat} {x : Operand} {T t : TypeId} {n : Int} {u : Out} {pos : String} {after : Array Edge} (hx : Ev s x (.v (.int .i64 n))) (h : mkS P d T n (rtOf x) = .ok u) (hN : Nat.blt d N = true) :
  Step P N R s ⟨some d,.makeSlice T x x,t,pos,after,none⟩ u := by
 unfold mkS at h
 split at h
 ·rename_i ti hT
  split at h
  ·rename_i E hk
   split at h
   ·rename_i te hE
    split at h
    ·rename_i hc
     rw [Bool.and_eq_true] at hc
     split at h
     ·rename_i n
      split at h
      ·rename_i hb
       rw [Nat.ble_eq] at hb
       split at h
       ·rename_i l hl
        cases h
        cases frc_ok hl
        exact s_make (n := Int.ofNat n) hx (tyOf_ok hT) hk (tyOf_ok hE) hc.1 hc.2 (Int.natCast_nonneg _) (by simp only [Int.ofNat_eq_natCast]; omega) hN
       ·cases h
      ·cases h
     ·cases h
    ·cases h
   ·cases h
  ·cases h
 ·cases h
theorem s_callK {P : Program} {N : Nat} {s : AS} {R : Array Oper} {d f : Nat} {g : Operand} {args : Array Operand} {ts : Array TypeId} {xs : List AV} {H H' : Hp} {r : AV} {t : TypeId} {pos : String} {after : Array Edge}
  (hg : Ev s g (.v (.func (.func f) #[] #[]))) (hcon : Con P f xs H r H') (ha : EvL s args.toList xs) (hH : ∀ k z,lk H k = some z -> s.blk k = some z) (hok : callOkB s H H' r = true) (hN : Nat.blt d N = true) :
  Step P N R s ⟨some d,.call ⟨.value g,args,ts⟩,t,pos,after,none⟩ ⟨some r,H' ++ dead H,rtOf g ++ rtL args.toList,H.map (·.1)⟩ :=
 step_call rfl (fun d' h => by cases h; exact ⟨hN, rfl⟩) hcon hH hok fun s' hag C m a w hr => by
  have hag' : AgreeOn s s' ⟨none,[],rtOf g ++ rtL args.toList,[]⟩ := ⟨hag,fun k hk => by cases hk⟩
  have ha' := ha.agree hag' (fun _ h => List.mem_append.2 (.inr h))
  have hgr := (hg.agree hag' (fun _ h => List.mem_append.2 (.inl h))).rep hr
  generalize hv : a.eval g = u at hgr
  cases hgr
  refine ⟨args.map a.eval,exec_callV (caps := #[]) rfl hv hcon.ok (by simp),?_,?_⟩
  ·have := ha'.length; simpa using this
  ·intro j v x hv hx; exact ha'.rep hr j v x (by simpa using hv) hx
def opdEq : Operand -> Operand -> Bool
  | .tmp a,.tmp b => Nat.beq a b
  | .const (.int k a),.const (.int k' b) => Nat.beq (ikn k) (ikn k') && icmp .eql a b
  | _,_ => false
theorem opdEq_ok {x y : Operand} (h : opdEq x y = true) : y = x := by
 unfold opdEq at h
 split at h
 ·rw [Nat.eq_of_beq_eq_true h]
 ·rename_i k a k' b
  simp only [Bool.and_eq_true] at h
  rw [ikn_inj h.1,eq_of_beq (show (a == b) = true from h.2)]
 ·cases h
def opD (E : Env P) (F : CallF) (av : List Nat) (s : AS) (d : Nat) (op : Op) : OR := match op with
  | .call c => match c with
    | ⟨.value g, args, ts⟩ => match rdLC s args.toList with
      | some xs => match g with
        | .func f => match callR E F s av f xs with
          | .ok H r H' => match callOkB s H H' r with
            | true => .ok ⟨some r,chg H [] (H' ++ dead H),rtL args.toList,H.map (·.1)⟩
            | false => .no
          | .need k => .need k
          | .no => .no
        | g => match rdC s g with
          | some (.fn f caps) => match callR E F s av f (xs ++ caps) with
            | .ok H r H' => match callOkB s H H' r with
              | true => .ok ⟨some r,chg H [] (H' ++ dead H),rtOf g ++ rtL args.toList,H.map (·.1)⟩
              | false => .no
            | .need k => .need k
            | .no => .no
          | some (.v (.func (.func f) ⟨[]⟩ ⟨[]⟩)) => match callR E F s av f xs with
            | .ok H r H' => match callOkB s H H' r with
              | true => .ok ⟨some r,chg H [] (H' ++ dead H),rtOf g ++ rtL args.toList,H.map (·.1)⟩
              | false => .no
            | .need k => .need k
            | .no => .no
          | some (.cl f pre caps) => match callR E F s av f (pre ++ xs ++ caps) with
            | .ok H r H' => match callOkB s H H' r with
              | true => .ok ⟨some r,chg H [] (H' ++ dead H),rtOf g ++ rtL args.toList,H.map (·.1)⟩
              | false => .no
            | .need k => .need k
            | .no => .no
          | _ => .no
      | none => .no
    | ⟨.builtin .append, args, ts⟩ => match args.toList with
      | [x, y] => match ts.toList with
        | [T, T'] => match Nat.beq T T' with
          | true => appC P s d x y T
          | false => .no
        | _ => .no
      | _ => .no
    | c => match opV P s (.call c) with
      | some r => .ok ⟨some r.x,[],r.rt,r.rd⟩
      | none => .no
  | .makeSlice T x y => match opdEq x y with
    | true => match rdC s x with
      | some (.v (.int .i64 n)) => mkS P d T n (rtOf x)
      | _ => .no
    | false => .no
  | .slice T x none (some (.const (.int k1 (.ofNat 0)))) (some (.const (.int k2 (.ofNat 0)))) => match rdC s x with
    | some (.lst sz es) => match sliV P T sz with
      | true => .ok ⟨some (.ms d sz 0 0),[(d,some (.row sz []))],rtOf x,[]⟩
      | false => .no
    | _ => .no
  | .buildSlice T n parts => match n with
    | 0 => match parts.toList with
      | [] => match tyOf P T with
        | some ti => match ti.k with
          | .slice E => match tyOf P E with
            | some te => match te.zero.all Value.oneCell' && Nat.beq te.zero.length te.size with
              | true => .ok ⟨some (.ms d te.size 0 0),[(d,some (.row te.size []))],[],[]⟩
              | false => .no
            | none => .no
          | _ => .no
        | none => .no
      | _ => .no
    | n + 1 => match opV P s (.buildSlice T (n + 1) parts) with
      | some r => .ok ⟨some r.x,[],r.rt,r.rd⟩
      | none => match rdLC s (parts.toList.map (·.2)) with
        | some xs => match AV.nms xs with
          | k :: _ => .need k
          | [] => .no
        | none => .no
  | op => match opV P s op with
    | some r => .ok ⟨some r.x,[],r.rt,r.rd⟩
    | none => match aNew P s d op with
      | some r => match r.2 with
        | [] => .ok r.1
        | _ => .no
      | none => .no
theorem opD_ok {E : Env P} {F : CallF} (hF : F.Ok P) {av : List Nat} {s : AS} {R : Array Oper} {d : Nat} {op : Op} {u : Out} {t : TypeId} {pos : String} {after : Array Edge} (h : opD E F av s d op = .ok u) (hN : Nat.blt d N = true) :
  Step P N R s ⟨some d,op,t,pos,after,none⟩ u := by
 unfold opD at h
 split at h
 ·split at h
  ·rename_i g args ts
   split at h
   ·rename_i xs hxs
    split at h
    ·rename_i f
     split at h
     ·rename_i H r H' hc
      split at h
      ·rename_i hok
       cases h
       obtain ⟨h1,h2⟩ := callR_ok hF hc
       exact step_slim h2 (s_callH h1 (rdLC_ok hxs) h2 hok hN)
      ·cases h
     ·cases h
     ·cases h
    ·split at h
     ·rename_i f caps hg
      split at h
      ·rename_i H r H' hc
       split at h
       ·rename_i hok
        cases h
        obtain ⟨h1,h2⟩ := callR_ok hF hc
        exact step_slim h2 (s_callV (rdC_ok hg) h1 (rdLC_ok hxs) h2 hok hN)
       ·cases h
      ·cases h
      ·cases h
     ·rename_i f hg
      split at h
      ·rename_i H r H' hc
       split at h
       ·rename_i hok
        cases h
        obtain ⟨h1,h2⟩ := callR_ok hF hc
        exact step_slim h2 (s_callK (rdC_ok hg) h1 (rdLC_ok hxs) h2 hok hN)
       ·cases h
      ·cases h
      ·cases h
     ·rename_i f pre caps hg
      split at h
      ·rename_i H r H' hc
       split at h
       ·rename_i hok
        cases h
        obtain ⟨h1,h2⟩ := callR_ok hF hc
        exact step_slim h2 (s_callW (rdC_ok hg) h1 (rdLC_ok hxs) h2 hok hN)
       ·cases h
      ·cases h
      ·cases h
     ·cases h
   ·cases h
  ·rename_i args ts
   split at h
   ·rename_i x y hx
    split at h
    ·rename_i T T' hT
     split at h
     ·rename_i hTT
      cases Nat.eq_of_beq_eq_true hTT
      have e1 : args = #[x,y]:=by apply Array.toList_inj.1; simpa using hx
      have e2 : ts = #[T,T]:=by apply Array.toList_inj.1; simpa using hT
      subst e1; subst e2
      exact appC_ok h hN
     ·cases h
    ·cases h
   ·cases h
  ·split at h
   ·rename_i h1; cases h; exact opV_ok h1 hN
   ·cases h
 ·split at h
  ·rename_i he
   cases opdEq_ok he
   split at h
   ·rename_i hx; exact mkS_ok (rdC_ok hx) h hN
   ·cases h
  ·cases h
 ·split at h
  ·rename_i hx
   split at h
   ·rename_i hs
    obtain ⟨ti,E,te,h1,h2,h3,h4⟩ := sliV_ok hs
    cases h
    exact s_slice00 (rdC_ok hx) h1 h2 h3 h4 hN
   ·cases h
  ·cases h
 ·rename_i T n parts
  split at h
  ·split at h
   ·rename_i hp
    have : parts = #[]:=by apply Array.toList_inj.1; simpa using hp
    subst this
    split at h
    ·rename_i ti hT
     split at h
     ·rename_i E hk
      split at h
      ·rename_i te hE
       split at h
       ·rename_i hc
        rw [Bool.and_eq_true] at hc
        cases h
        exact s_buildMs0 (tyOf_ok hT) hk (tyOf_ok hE) hc.1 hc.2 hN
       ·cases h
      ·cases h
     ·cases h
    ·cases h
   ·cases h
  ·split at h
   ·rename_i h1; cases h; exact opV_ok h1 hN
   ·split at h
    ·split at h <;> cases h
    ·cases h
 ·split at h
  ·rename_i h1; cases h; exact opV_ok h1 hN
  ·split at h
   ·rename_i h1
    split at h
    ·rename_i ho; cases h; exact aNew_ok h1 (by rw [ho]; exact .nil) hN
    ·cases h
   ·cases h
def opN (E : Env P) (F : CallF) (av : List Nat) (s : AS) (op : Op) : OR := match op with
  | .call c => match c with
    | ⟨.value (.func f), args, ts⟩ => match rdLC s args.toList with
      | some xs => match callR E F s av f xs with
        | .ok H r H' => match callOkB s H H' r with
          | true => .ok ⟨none,chg H [] (H' ++ dead H),rtL args.toList,H.map (·.1)⟩
          | false => .no
        | .need k => .need k
        | .no => .no
      | none => .no
    | _ => .no
  | .store T x y => match aSto P s (.store T x y) with
    | some r => match r.2 with
      | [] => .ok r.1
      | _ => .no
    | none => stoE P s T x y
  | _ => .no
theorem opN_ok {E : Env P} {F : CallF} (hF : F.Ok P) {av : List Nat} {s : AS} {R : Array Oper} {op : Op} {u : Out} {t : TypeId} {pos : String} {after : Array Edge} (h : opN E F av s op = .ok u) :
  Step P N R s ⟨none,op,t,pos,after,none⟩ u := by
 unfold opN at h
 split at h
 ·split at h
  ·rename_i f args ts
   split at h
   ·rename_i xs hxs
    split at h
    ·rename_i H r H' hc
     split at h
     ·rename_i hok
      cases h
      obtain ⟨h1,h2⟩ := callR_ok hF hc
      exact step_slim h2 (s_callH0 h1 (rdLC_ok hxs) h2 hok)
     ·cases h
    ·cases h
    ·cases h
   ·cases h
  ·cases h
 ·split at h
  ·rename_i h1
   split at h
   ·rename_i ho; cases h; exact aSto_ok h1 (by rw [ho]; exact .nil)
   ·cases h
  ·exact stoE_ok h
 ·cases h
theorem Step.sub {P : Program} {N : Nat} {R : Array Oper} {s : AS} {o : Oper} {x y : AV} {upd : Hp} {rt rd : List Nat} (h : Step P N R s o ⟨some x, upd, rt, rd⟩) (hs : Sub x y) : Step P N R s o ⟨some y, upd, rt, rd⟩ := by
 refine ⟨fun s' hag hnew C m a w Q next hC hr hnext => h.run s' hag hnew C m a w Q next hC hr (fun m' a' w' hr' => hnext m' a' w' ?_)⟩
 refine hr'.weak (fun t z hz => ?_) (fun k z hz => ⟨z,hz,.refl _⟩)
 rw [get_app] at hz
 split at hz
 ·rename_i ht; cases hz; exact ⟨x,by rw [get_app,if_pos ht],hs⟩
 ·rename_i ht; exact ⟨z,by rw [get_app,if_neg ht]; exact hz,.refl _⟩
theorem Sub.opt_true (x : AV) : Sub (.opt true x) x := fun g S m v h => by cases h with | opt h _ => exact h rfl
theorem keys_mapHp (f : AV -> AV) (k : Nat) : ∀ l : Hp, (mapHp f k l).map (·.1) = l.map (·.1)
 | [] => rfl
 | (k',x) :: l => by simp only [mapHp,List.map_cons,keys_mapHp f k l]
theorem step_frzU {P : Program} {N : Nat} {R : Array Oper} {s : AS} {o : Oper} {d : Nat} {x : AV} {upd : Hp} {rt rd : List Nat} {k sz : Nat} {es : List AV} (hd : o.dst = some d) (hk : lk upd k = some (.row sz es)) (hrd : k ∉ rd)
  (h : Step P N R s o ⟨some x,upd,rt,rd⟩) : Step P N R s o ⟨some (x.fz k sz es),mapHp (AV.fz k sz es) k upd,rt,rd⟩ := by
 refine ⟨fun s' hag hnew C m a w Q next hC hr hnext => ?_⟩
 have hnew' : NewOk s' ⟨some x,upd,rt,rd⟩ := fun k' hk' => hnew k' (by rw [keys_mapHp]; exact hk')
 have hfr : s'.Fresh k := by
  rcases hnew' k (mem_keys_of_lk hk) with h | h
  ·exact absurd h hrd
  ·exact h
 refine h.run s' hag hnew' C m a w Q next hC hr (fun m' a' w' hr' => ?_)
 rw [hd] at hr'
 have hkk : (s'.app (some d) ⟨some x, upd, rt, rd⟩).blk k = some (.row sz es) := by
  show lk (upd ++ s'.hp) k = _
  rw [lk_append,if_pos (mem_keys_of_lk hk),hk]
 obtain ⟨m2,hr2⟩ := Wk.freeze hkk C m' a' w' hr'
 refine hnext m2 a' w' ?_
 rw [hd]
 refine hr2.congr ?_ ?_
 ·intro t
  simp only [AS.get,lk_mapSl,AS.app,lk_cons]
  split
  ·rfl
  ·cases hx : lk s'.sl t with
   | none => rfl
   | some y => simp only [Option.map_some]; rw [AV.fz_id _ _ _ _ (hfr.2.2.1 t y hx)]
 ·intro k'
  simp only [AS.blk,AS.app]
  rw [lk_mapHp,lk_append,lk_append,keys_mapHp,lk_mapHp]
  by_cases h1 : k' = k
  ·subst h1
   rw [if_pos rfl,if_pos (mem_keys_of_lk hk),if_pos rfl]
  ·rw [if_neg h1, if_neg h1]
   split
   ·rfl
   ·cases hx : lk s'.hp k' with
    | none => rfl
    | some y => simp only [Option.map_some]; rw [blk_map_id (hfr.2.2.2 k' y hx)]
def frzU : List Nat -> Out -> Out
  | [],u => u
  | k :: ks, u => match u.val with
    | some x => match lk u.upd k with
      | some (.row sz es) => match memB k u.rd with
        | false => frzU ks ⟨some (x.fz k sz es),mapHp (AV.fz k sz es) k u.upd,u.rt,u.rd⟩
        | true => frzU ks u
      | _ => frzU ks u
    | none => u
theorem frzU_ok {P : Program} {N : Nat} {R : Array Oper} {s : AS} {o : Oper} {d : Nat} (hd : o.dst = some d) : ∀ {ks : List Nat} {u : Out}, Step P N R s o u -> Step P N R s o (frzU ks u)
 | [],u,h => h
 | k :: ks, u, h => by
  unfold frzU
  split
  ·rename_i x hx
   split
   ·rename_i sz es hk
    split
    ·rename_i hm
     refine frzU_ok hd ?_
     obtain ⟨val,upd,rt,rd⟩ := u
     simp only at hx hk hm
     subst hx
     exact step_frzU hd hk (fun hh => by rw [memB_ok.2 hh] at hm; cases hm) h
    ·exact frzU_ok hd h
   ·exact frzU_ok hd h
  ·exact h
def opE (E : Env P) (F : CallF) (av fz : List Nat) (N : Nat) (R : List Oper) (s : AS) (o : Oper) : OR := match o.guard with
  | none => match o.dst with
    | some d => match Nat.blt d N with
      | true => match opD E F av s d o.op with
        | .ok u => .ok (frzU fz u)
        | r => r
      | false => .no
    | none => opN E F av s o.op
  | some (j, want) => match R[j]? with
    | some og => match og.dst with
      | some g => match o.dst with
        | some d => match Nat.blt d N with
          | true => match s.get g with
            | some (.v (.bool b)) => match b == want with
              | true => match opD E F av s d o.op with
                | .ok u => match (frzU fz u) with
                  | ⟨some x,upd,rt,rd⟩ => .ok ⟨some x,upd,g :: rt,rd⟩
                  | ⟨none,_,_,_⟩ => .no
                | r => r
              | false => .ok ⟨some (.opt false (.v (.bool false))),[],[g],[]⟩
            | some (.opt false (.v (.bool b))) => .ok ⟨some (.opt false (.v (.bool false))),[],[g],[]⟩
            | _ => .no
          | false => .no
        | none => .no
      | none => .no
    | none => .no
theorem opE_ok {E : Env P} {F : CallF} (hF : F.Ok P) {av fz : List Nat} {R : List Oper} {s : AS} {o : Oper} {u : Out} (h : opE E F av fz N R s o = .ok u) : Step P N R.toArray s o u := by
 obtain ⟨dst,op,ty,pos,after,guard⟩ := o
 unfold opE at h
 simp only at h
 split at h
 ·split at h
  ·split at h
   ·rename_i hN
    split at h
    ·rename_i u' h1; cases h; exact frzU_ok rfl (opD_ok hF h1 hN)
    ·rename_i hno; exact absurd h (hno u)
   ·cases h
  ·exact opN_ok hF h
 ·rename_i j want
  split at h
  ·rename_i og hog
   split at h
   ·rename_i g hg
    split at h
    ·rename_i d
     split at h
     ·rename_i hN
      have hj : (R.toArray[j]?).bind (·.dst) = some g:=by simp [hog,hg]
      split at h
      ·rename_i b hb
       split at h
       ·rename_i hw
        split at h
        ·rename_i u' h1
         have hs := frzU_ok (ks := fz) rfl (opD_ok (R := R.toArray) (t := ty) (pos := pos) (after := after) hF h1 hN)
         split at h
         ·rename_i x upd rt rd hx
          cases h
          rw [hx] at hs
          have h2 := s_guardH (want := want) hj hb hN (fun hne => absurd (eq_of_beq hw) hne) (fun _ => hs)
          rw [hw] at h2
          exact h2.sub (.opt_true x)
         ·cases h
        ·rename_i hno; exact absurd h (hno u)
       ·rename_i hw
        cases h
        have h2 := s_guard (P := P) (op := op) (t := ty) (pos := pos) (after := after) (want := want) (x := .v (.bool false)) (rt := []) (rd := []) hj hb hN (fun e => by rw [e] at hw; simp at hw)
        rw [hw] at h2
        exact h2
      ·rename_i b hb
       cases h
       exact s_guardO (P := P) (op := op) (t := ty) (pos := pos) (after := after) (want := want) (x := .v (.bool false)) (rt := []) (rd := []) hj hb hN (fun e => by cases e)
      ·cases h
     ·cases h
    ·cases h
   ·cases h
  ·cases h
end Go.Lw
namespace Go.Lw
variable {P : Program} {N : Nat} [Inhabited (Tys P)]
theorem awp_postW {P : Program} {N : Nat} {c : Code} {Q Q' : Exit -> AS -> Prop} {s : AS} (h : AWP P N c Q s) (hq : ∀ e s, Q e s -> ∃ s', Wk s s' /\ Q' e s') : AWP P N c Q' s :=
 fun C m a w n hN hr => wpIn_mono (h C m a w n hN hr) fun e _ _ ⟨s', m', hQ, hr'⟩ => by
  obtain ⟨s2,hw,hQ'⟩ := hq e s' hQ
  obtain ⟨m2,hr2⟩ := hw C m' _ _ hr'
  exact ⟨s2,m2,hQ',hr2⟩
def dd {α : Type} : List Nat -> List (Nat × Option α) -> List (Nat × Option α)
  | _,[] => []
  | seen, (t, x) :: l => match memB t seen with
    | true => dd seen l
    | false => match x with
      | some v => (t,some v) :: dd (t :: seen) l
      | none => dd (t :: seen) l
theorem dd_ok {α : Type} : ∀ {l : List (Nat × Option α)} {seen : List Nat} {t : Nat} {x : α}, lk (dd seen l) t = some x -> t ∉ seen /\ lk l t = some x
 | [],seen,t,x,h => by cases h
 | (t', y) :: l, seen, t, x, h => by
  unfold dd at h
  rw [lk_cons]
  split at h
  ·rename_i hm
   obtain ⟨h1,h2⟩ := dd_ok h
   refine ⟨h1,?_⟩
   rw [if_neg (fun (e : t = t') => h1 (by rw [e]; exact memB_ok.1 hm))]; exact h2
  ·rename_i hm
   have hm' : t' ∉ seen := fun hh => by rw [memB_ok.2 hh] at hm; cases hm
   split at h
   ·rw [lk_cons] at h
    split at h
    ·rename_i e; cases h; subst e; exact ⟨hm',by rw [if_pos rfl]⟩
    ·rename_i e
     obtain ⟨h1,h2⟩ := dd_ok h
     rw [if_neg e]
     exact ⟨fun hh => h1 (List.mem_cons_of_mem _ hh),h2⟩
   ·obtain ⟨h1, h2⟩ := dd_ok h
    have hne : t ≠ t' := fun e => h1 (by rw [e]; exact List.mem_cons_self ..)
    rw [if_neg hne]
    exact ⟨fun hh => h1 (List.mem_cons_of_mem _ hh),h2⟩
theorem wk_less {s : AS} {sl : Slots} {hp : Hp} (h1 : ∀ t x, lk sl t = some x -> lk s.sl t = some x) (h2 : ∀ k x, lk hp k = some x -> lk s.hp k = some x) : Wk s ⟨sl, hp⟩ :=
 fun C m a w hr => ⟨m,hr.weak (fun t x hx => ⟨x,h1 t x hx,.refl _⟩) (fun k x hx => ⟨x,h2 k x hx,.refl _⟩)⟩
def ddS (s : AS) : AS := ⟨dd [] s.sl,dd [] s.hp⟩
theorem wk_dd (s : AS) : Wk s (ddS s) := wk_less (fun t x h => (dd_ok h).2) (fun t x h => (dd_ok h).2)
def noK (k : Nat) : List Nat -> Slots -> Slots
  | _,[] => []
  | seen, (t, x) :: l => match memB t seen with
    | true => noK k seen l
    | false => match x with
      | some v => match memB k v.nm with
        | true => noK k (t :: seen) l
        | false => (t,some v) :: noK k (t :: seen) l
      | none => noK k (t :: seen) l
theorem noK_ok {k : Nat} : ∀ {l : Slots} {seen : List Nat} {t : Nat} {x : AV}, lk (noK k seen l) t = some x -> t ∉ seen /\ lk l t = some x
 | [],seen,t,x,h => by cases h
 | (t', y) :: l, seen, t, x, h => by
  unfold noK at h
  rw [lk_cons]
  have rest : ∀ {l' : Slots}, lk (noK k (t' :: seen) l) t = some x -> t ∉ seen /\ (if t = t' then y else lk l t) = some x := by
   intro _ h
   obtain ⟨h1,h2⟩ := noK_ok h
   rw [if_neg (fun (e : t = t') => h1 (by rw [e]; exact List.mem_cons_self ..))]
   exact ⟨fun hh => h1 (List.mem_cons_of_mem _ hh),h2⟩
  split at h
  ·rename_i hm
   obtain ⟨h1,h2⟩ := noK_ok h
   refine ⟨h1,?_⟩
   rw [if_neg (fun (e : t = t') => h1 (by rw [e]; exact memB_ok.1 hm))]; exact h2
  ·rename_i hm
   have hm' : t' ∉ seen := fun hh => by rw [memB_ok.2 hh] at hm; cases hm
   split at h
   ·split at h
    ·exact rest (l' := l) h
    ·rw [lk_cons] at h
     split at h
     ·rename_i e; cases h; subst e; exact ⟨hm',by rw [if_pos rfl]⟩
     ·rename_i e
      obtain ⟨h1,h2⟩ := noK_ok h
      rw [if_neg e]
      exact ⟨fun hh => h1 (List.mem_cons_of_mem _ hh),h2⟩
   ·exact rest (l' := l) h
def rekS (s : AS) (k d : Nat) (y : Blk) : AS := ⟨mapSl (AV.rn k d) s.sl,renHp k d y s.hp⟩
def fixD (s : AS) (av : List Nat) (d : Nat) : Option AS := match s.freshB d with
  | true => some s
  | false => match s.blk d with
    | some y => match s.freshB (nxt s av) with
      | true => some (rekS s d (nxt s av) y)
      | false => none
    | none => some ⟨noK d [] s.sl,s.hp⟩
theorem fixD_ok {s s' : AS} {av : List Nat} {d : Nat} (h : fixD s av d = some s') : Wk s s' := by
 unfold fixD at h
 split at h
 ·cases h; exact .refl _
 ·split at h
  ·rename_i y hy
   split at h
   ·rename_i hf; cases h; exact Wk.rekey hy hf
   ·cases h
  ·cases h; exact wk_less (fun t x h => (noK_ok h).2) (fun _ _ h => h)
def newD (o : Oper) : Option Nat := match o.dst with
  | some d => match o.op with
    | .alloc _ => some d
    | .box _ _ => some d
    | .makeSlice _ _ _ => some d
    | .buildSlice _ 0 _ => some d
    | .slice _ _ _ _ (some _) => some d
    | .call ⟨.builtin .append,_,_⟩ => some d
    | _ => none
  | none => none
def prep (av : List Nat) : List Oper -> AS -> Option AS
  | [],s => some s
  | o :: os, s => match newD o with
    | some d => match fixD s av d with
      | some s' => prep av os s'
      | none => none
    | none => prep av os s
theorem prep_ok {av : List Nat} : ∀ {os : List Oper} {s s' : AS}, prep av os s = some s' -> Wk s s'
 | [],s,s',h => by cases h; exact .refl _
 | o :: os, s, s', h => by
  unfold prep at h
  split at h
  ·split at h
   ·rename_i h1; exact (fixD_ok h1).trans (prep_ok h)
   ·cases h
  ·exact prep_ok h
inductive RR where
  | ok (s : AS) (us : List Out)
  | need (k : Nat)
  | no
def nB {α : Type} : List α -> Bool
  | [] => true
  | _ => false
def opsE (E : Env P) (F : CallF) (av fz : List Nat) (N : Nat) (R : List Oper) : List Oper -> AS -> List Out -> RR
  | [],s,us => .ok s us
  | o :: os, s, us => match opE E F av fz N R s o with
    | .ok u => match nB u.upd || newOkB s u with
      | true => match s.app o.dst u with
        | ⟨sl,hp⟩ => opsE E F av fz N R os ⟨sl,hp⟩ (us ++ [u])
      | false => .no
    | .need k => .need k
    | .no => .no
theorem opsE_ok {E : Env P} {F : CallF} (hF : F.Ok P) {av fz : List Nat} {R : List Oper} : ∀ {os : List Oper} {s : AS} {us : List Out} {s' : AS} {us' : List Out}, opsE E F av fz N R os s us = .ok s' us' ->
  ARun P N R.toArray os s us (fun s2 us2 => s2 = s' /\ us2 = us')
 | [],s,us,s',us',h => by cases h; exact ⟨rfl,rfl⟩
 | o :: os, s, us, s', us', h => by
  unfold opsE at h
  split at h
  ·rename_i u hu
   split at h
   ·rename_i hn
    refine ⟨u,opE_ok hF hu,?_,opsE_ok hF h⟩
    cases hu' : nB u.upd with
    | true =>
     intro k hk
     have : u.upd = []:=by cases hq : u.upd with | nil => rfl | cons a b => rw [hq] at hu'; cases hu'
     rw [this] at hk; cases hk
    | false => rw [hu'] at hn; exact newOk_of hn
   ·cases h
  ·cases h
  ·cases h
structure Sys where
  code : Nat -> Nat -> List Nat -> Code -> AS -> Option (Exit × AS)
  fn : Nat -> List Nat -> FuncId -> List AV -> Hp -> Option (AV × Hp)
def trF (S : Sys) (base : Nat) : CallF := fun av f xs H => match zipK base (H.map (·.1)) with
  | L => match S.fn (base + 100) av f (tA L xs) (tH L H) with
    | some (r,H') => some (rB L r,hB L H')
    | none => none
def isR (e : Exit) : Bool := match e with
  | .normal => true
  | _ => false
def frzS (s : AS) (k : Nat) : Option AS := match s.blk k with
  | some (.row sz es) => some ⟨mapSl (AV.fz k sz es) s.sl,mapHp (AV.fz k sz es) k s.hp⟩
  | _ => none
theorem frzS_ok {s s' : AS} {k : Nat} (h : frzS s k = some s') : Wk s s' := by
 unfold frzS at h
 split at h
 ·rename_i hk; cases h; exact Wk.freeze hk
 ·cases h
def regE (E : Env P) (F : CallF) (av : List Nat) (N : Nat) (A : List Oper) (d : Bool) : Nat -> List Nat -> AS -> Option AS
  | 0,_,_ => none
  | n + 1, fz, s0 => match opsE E F av fz N A A s0 [] with
    | .ok s' us => match d with
      | false => some s'
      | true => match chk A us s0 with
        | true => some s'
        | false => none
    | .need k => match frzS s0 k with
      | some ⟨sl,hp⟩ => regE E F av N A d n fz ⟨sl,hp⟩
      | none => match memB k fz with
        | true => none
        | false => regE E F av N A d n (k :: fz) s0
    | .no => none
theorem regE_ok {E : Env P} {F : CallF} (hF : F.Ok P) {av : List Nat} {id : Nat} {A : Array Oper} {d : Bool} (hnd : A.toList.all nd = true) : ∀ {n : Nat} {fz : List Nat} {s s1 : AS}, regE E F av N A.toList d n fz s = some s1 ->
  AWP P N (.region id A d) (fun e' s' => e' = .normal /\ s' = s1) s
 | 0,fz,s,s1,h => by cases h
 | n + 1, fz, s, s1, h => by
  unfold regE at h
  split at h
  ·rename_i s' us h1
   refine awp_reg (Q := fun e' s' => e' = .normal /\ s' = s1) (k := []) hnd (fun _ => (default : Tys P).mix) (arun_mono ?_ (opsE_ok hF h1))
   rintro s2 us2 ⟨hs,hu⟩
   rw [hs,hu]
   split at h
   ·obtain rfl := Option.some.inj h
    exact ⟨(fun e => by cases e),rfl,rfl⟩
   ·split at h
    ·rename_i hc
     obtain rfl := Option.some.inj h
     exact ⟨fun _ => hc,rfl,rfl⟩
    ·cases h
  ·split at h
   ·rename_i sl hp hf
    exact awp_weaken (frzS_ok hf) (regE_ok hF hnd h)
   ·split at h
    ·cases h
    ·exact regE_ok hF hnd h
  ·cases h
def codeS (E : Env P) (S : Sys) (N base : Nat) (av : List Nat) (c : Code) (s : AS) : Option (Exit × AS) := match c with
  | .skip => some (.normal,s)
  | .ret => some (.ret,s)
  | .exit id => some (.exit id,s)
  | .seq x y => match S.code N base av x s with
    | some (e, s1) => match isR e with
      | true => S.code N base av y s1
      | false => some (e,s1)
    | none => none
  | .block id c => match S.code N base av c s with
    | some (e, s1) => match e with
      | .exit id' => match Nat.beq id' id with
        | true => some (.normal,s1)
        | false => some (.exit id',s1)
      | e => some (e,s1)
    | none => none
  | .cond c x y => match rdC s c with
    | some (.v (.bool b)) => match b with
      | true => S.code N base av x s
      | false => S.code N base av y s
    | _ => none
  | .loop c => match S.code N base av c s with
    | some (e, s1) => match isR e with
      | true => match ddS s1 with
        | ⟨sl,hp⟩ => S.code N base av (.loop c) ⟨sl,hp⟩
      | false => some (e,s1)
    | none => none
  | .region id A d => match allNd A.toList with
    | true => match prep av A.toList s with
      | some s0 => match regE E (trF S base) av N A.toList d 20 [] s0 with
        | some s' => some (.normal,s')
        | none => none
      | none => none
    | false => none
  | _ => none
def renL (st : Nat) : List Nat -> AS -> Option AS
  | [],s => some s
  | k :: ks, s => match s.blk k with
    | some y => match srchK s 100 st with
      | d => match s.freshB d with
        | true => renL st ks (rekS s k d y)
        | false => none
    | none => none
theorem renL_ok {st : Nat} : ∀ {ks : List Nat} {s s' : AS}, renL st ks s = some s' -> Wk s s'
 | [],s,s',h => by cases h; exact .refl _
 | k :: ks, s, s', h => by
  unfold renL at h
  split at h
  ·rename_i y hy
   simp only at h
   split at h
   ·rename_i hf; exact (Wk.rekey (s := s) hy hf).trans (renL_ok h)
   ·cases h
  ·cases h
def cnt : Nat -> List Nat -> List Nat
  | _,[] => []
  | n,_ :: l => n :: cnt (n + 1) l
def loc : List Nat -> List Nat
  | [] => []
  | k :: ks => match Nat.blt k 1000 with
    | true => k :: loc ks
    | false => loc ks
def selS (sl : Slots) : List Nat -> Slots
  | [] => []
  | t :: ts => match lk sl t with
    | some x => (t,some x) :: selS sl ts
    | none => selS sl ts
theorem selS_ok {sl : Slots} : ∀ {ts : List Nat} {t : Nat} {x : AV}, lk (selS sl ts) t = some x -> lk sl t = some x
 | [],t,x,h => by cases h
 | t' :: ts, t, x, h => by
  unfold selS at h
  split at h
  ·rename_i y hy
   rw [lk_cons] at h
   split at h
   ·rename_i e; cases h; rw [e]; exact hy
   ·exact selS_ok h
  ·exact selS_ok h
def rsT : List ResultVar -> List Nat
  | [] => []
  | r :: rs => (match r with
    | .tmp t => t
    | .cell t _ => t) :: rsT rs
def finR (P : Program) [Inhabited (Tys P)] (rs : List ResultVar) (Hk : List Nat) (s : AS) : Option (AV × Hp) := match resL P s rs with
  | some ys => some (resT ys,pkH s (reach s 300 (AV.nms ys ++ Hk) []))
  | none => none
theorem finR_ok {rs : List ResultVar} {Hk : List Nat} {s : AS} {r : AV} {H' : Hp} (h : finR P rs Hk s = some (r, H')) : ∃ xs, ResL P s rs xs /\ Fin s (resT xs) r H' := by
 unfold finR at h
 split at h
 ·rename_i ys hy
  cases h
  exact ⟨ys,resL_ok hy,.keep (fun k z hz => pkH_ok hz)⟩
 ·cases h
def finS (P : Program) [Inhabited (Tys P)] (av : List Nat) (rs : List ResultVar) (Hk : List Nat) (s : AS) : Option (AV × Hp) := match reach s 300 (AV.nms ((selS s.sl (rsT rs)).filterMap (·.2)) ++ Hk) [] with
  | K => match loc K with
    | [] => finR P rs Hk s
    | k :: ks => match renL 700 (k :: ks) ⟨selS s.sl (rsT rs), pkH s K⟩ with
      | some s2 => match renL (mx 299 av + 1) (cnt 700 (k :: ks)) s2 with
        | some s3 => finR P rs Hk s3
        | none => none
      | none => none
theorem finS_ok {av : List Nat} {rs : List ResultVar} {Hk : List Nat} {s : AS} {r : AV} {H' : Hp} (h : finS P av rs Hk s = some (r, H')) : ∃ s2, Wk s s2 /\ ∃ xs, ResL P s2 rs xs /\ Fin s2 (resT xs) r H' := by
 unfold finS at h
 simp only at h
 split at h
 ·exact ⟨s,.refl _,finR_ok h⟩
 ·split at h
  ·rename_i s2 h2
   split at h
   ·rename_i s3 h3
    exact ⟨s3,((wk_less (fun t x => selS_ok) (fun k x => pkH_ok)).trans (renL_ok h2)).trans (renL_ok h3),finR_ok h⟩
   ·cases h
  ·cases h
def allGe : Hp -> Bool
  | [] => true
  | (k,_) :: l => Nat.ble 1000 k && allGe l
theorem allGe_ok : ∀ {H : Hp} {k : Nat} {z : Blk}, allGe H = true -> lk H k = some z -> 1000 <= k
 | [],k,z,_,h => by cases h
 | (k', x) :: l, k, z, h0, h => by
  simp only [allGe,Bool.and_eq_true,Nat.ble_eq] at h0
  rw [lk_cons] at h
  split at h
  ·rename_i e; rw [e]; exact h0.1
  ·exact allGe_ok h0.2 h
def fnS (E : Env P) (S : Sys) (base : Nat) (av : List Nat) (f : FuncId) (xs : List AV) (H : Hp) : Option (AV × Hp) := match E.fe f with
  | some fe => match Nat.beq fe.f f && allGe H with
    | true => match initF 0 xs with
      | some sl => match S.code fe.fn.ntmps base av fe.c ⟨sl, H⟩ with
        | some (e, s1) => match isEnd e with
          | true => finS P av fe.rs (H.map (·.1)) s1
          | false => none
        | none => none
      | none => none
    | false => none
  | none => none
def ev (E : Env P) (n : Nat) : Sys := Nat.rec ⟨fun _ _ _ _ _ => none,fun _ _ _ _ _ => none⟩ (fun _ S => ⟨codeS E S,fnS E S⟩) n
structure SysOk (P : Program) (S : Sys) : Prop where
  code : ∀ N base av c s e s1,S.code N base av c s = some (e,s1) -> AWP P N c (fun e' s' => e' = e /\ s' = s1) s
  fn : ∀ base av f xs H r H',S.fn base av f xs H = some (r,H') -> Con P f xs H r H'
theorem trF_ok {P : Program} {S : Sys} (h : SysOk P S) (base : Nat) : (trF S base).Ok P := by
 intro av f xs H r H' h1
 unfold trF at h1
 simp only at h1
 split at h1
 ·rename_i h2; cases h1; exact conT (h.fn _ _ _ _ _ _ _ h2)
 ·cases h1
theorem fnS_ok {E : Env P} {S : Sys} (h : SysOk P S) {base : Nat} {av : List Nat} {f : FuncId} {xs : List AV} {H H' : Hp} {r : AV} (h1 : fnS E S base av f xs H = some (r, H')) : Con P f xs H r H' := by
 unfold fnS at h1
 split at h1
 ·rename_i fe hfe
  split at h1
  ·rename_i hc
   simp only [Bool.and_eq_true] at hc
   have hf := Nat.eq_of_beq_eq_true hc.1
   subst hf
   split at h1
   ·rename_i sl hsl
    cases initF_ok hsl
    split at h1
    ·rename_i e s1 h2
     split at h1
     ·rename_i he
      refine con_of fe.hf fe.hb fe.hn fe.hrs rfl (fun k z hz => allGe_ok hc.2 hz) ?_
      refine awp_postW (h.code _ _ _ _ _ _ _ h2) ?_
      rintro e' s' ⟨he',hs'⟩
      rw [he',hs']
      obtain ⟨s2,hw,hx⟩ := finS_ok h1
      refine ⟨s2,hw,?_⟩
      cases e <;> first | exact hx | exact (nomatch he)
     ·cases h1
    ·cases h1
   ·cases h1
  ·cases h1
 ·cases h1
theorem ev_ok (E : Env P) : ∀ n m, m <= n -> SysOk P (ev E m)
 | 0, m, hm => by
  have : m = 0:=by omega
  subst this
  exact { code := (fun _ _ _ _ _ _ _ h => by cases h),fn := (fun _ _ _ _ _ _ _ h => by cases h) }
 | n + 1, m, hm => by
  by_cases hmn : m <= n
  ·exact ev_ok E n m hmn
  ·have : m = n + 1 := by omega
   subst this
   have ih := ev_ok E n n (Nat.le_refl _)
   refine ⟨?_,fun base av f xs H r H' h => fnS_ok ih h⟩
   intro N base av c s e s1 h
   change codeS E (ev E n) N base av c s = some (e,s1) at h
   cases c with
   | skip => cases h; exact awp_skip ⟨rfl,rfl⟩
   | ret => cases h; exact awp_ret ⟨rfl,rfl⟩
   | exit id => cases h; exact awp_exit ⟨rfl,rfl⟩
   | seq x y =>
    simp only [codeS] at h
    split at h
    ·rename_i e1 s2 h1
     refine awp_seq fun K hK => awp_mono (ih.code _ _ _ _ _ _ _ h1) ?_
     rintro e' s' ⟨he,hs⟩
     rw [he,hs]
     split at h
     ·rename_i hr
      cases e1 <;> first | exact hK _ (ih.code _ _ _ _ _ _ _ h) | exact (nomatch hr)
     ·rename_i hr
      obtain ⟨rfl,rfl⟩ := Prod.mk.inj (Option.some.inj h)
      cases e1 <;> first | exact ⟨rfl,rfl⟩ | exact (nomatch hr)
    ·cases h
   | block id c =>
    simp only [codeS] at h
    split at h
    ·rename_i e1 s2 h1
     refine awp_block (awp_mono (ih.code _ _ _ _ _ _ _ h1) ?_)
     rintro e' s' ⟨he,hs⟩
     rw [he,hs]
     split at h
     ·rename_i id'
      show match Nat.beq id' id with | true => _ | false => _
      split at h
      ·rename_i hb
       obtain ⟨rfl,rfl⟩ := Prod.mk.inj (Option.some.inj h)
       simp only [hb]; exact ⟨trivial,trivial⟩
      ·rename_i hb
       obtain ⟨rfl,rfl⟩ := Prod.mk.inj (Option.some.inj h)
       simp only [hb]; exact ⟨trivial,trivial⟩
     ·rename_i hne
      obtain ⟨rfl,rfl⟩ := Prod.mk.inj (Option.some.inj h)
      cases e1 <;> first | exact ⟨rfl,rfl⟩ | exact absurd rfl (hne _)
    ·cases h
   | cond c x y =>
    simp only [codeS] at h
    split at h
    ·rename_i b hb
     split at h
     ·exact awp_cond (rdC_ok hb) (fun _ => ih.code _ _ _ _ _ _ _ h) (fun e => by cases e)
     ·exact awp_cond (rdC_ok hb) (fun e => by cases e) (fun _ => ih.code _ _ _ _ _ _ _ h)
    ·cases h
   | loop c =>
    refine awp_loop (fun m s => m <= n + 1 /\ (ev E m).code N base av (.loop c) s = some (e,s1)) (n := n + 1) (.refl _) ⟨Nat.le_refl _,h⟩ ?_
    rintro m s ⟨hm,hI⟩ K hK
    cases m with
    | zero => cases hI
    | succ m =>
     change codeS E (ev E m) N base av (.loop c) s = some (e,s1) at hI
     have ihm := ev_ok E n m (by omega)
     simp only [codeS] at hI
     split at hI
     ·rename_i e1 s2 h1
      refine awp_mono (ihm.code _ _ _ _ _ _ _ h1) ?_
      rintro e' s' ⟨he,hs⟩
      rw [he,hs]
      split at hI
      ·rename_i hr
       cases e1 <;> first | exact hK _ _ m (wk_dd s2) ⟨by omega,hI⟩ (by omega) | exact (nomatch hr)
      ·rename_i hr
       obtain ⟨rfl,rfl⟩ := Prod.mk.inj (Option.some.inj hI)
       cases e1 <;> first | exact ⟨rfl,rfl⟩ | exact (nomatch hr)
     ·cases hI
   | region id A d =>
    simp only [codeS] at h
    split at h
    ·rename_i hnd
     split at h
     ·rename_i s0 h0
      refine awp_weaken (prep_ok h0) ?_
      split at h
      ·rename_i s' h1
       obtain ⟨rfl,rfl⟩ := Prod.mk.inj (Option.some.inj h)
       exact regE_ok (trF_ok ih base) (allNd_ok hnd) h1
      ·cases h
     ·cases h
    ·cases h
   | _ => cases h
theorem ev_fn (E : Env P) (n : Nat) {base : Nat} {av : List Nat} {f : FuncId} {xs : List AV} {H H' : Hp} {r : AV} (h : (ev E n).fn base av f xs H = some (r, H')) : Con P f xs H r H' :=
 (ev_ok E n n (Nat.le_refl _)).fn _ _ _ _ _ _ _ h
end Go.Lw
namespace Go.Lw
structure Gr where
  kind : Int
  bodies : List Int
  joints : List Int
  driver : Int
instance : Inhabited Gr := ⟨⟨0,[],[],0⟩⟩
def Gr.av (g : Gr) : AV := .agg [i64 g.kind,.lst 1 (g.bodies.map i64),.lst 1 (g.joints.map i64),i64 g.driver]
def kn (k : List Bool) (i : Int) : Bool := k.getD i.toNat false
def onlyK (n : Nat) (b : Int) : List Bool := (List.replicate n false).set b.toNat true
def drivenB (l : Li) (b : Int) : Bool := l.drivers.any (fun d => decide (d.body = b))
def freeB (l : Li) (known : List Bool) (b : Int) : Bool := !kn known b && !drivenB l b
def jHit (kind body : Int) (oth : List Bool) (j : Jt) : Bool := decide (j.kind = kind) && (decide (j.a = body) && kn oth j.b || decide (j.b = body) && kn oth j.a)
def jointI (l : Li) (kind body : Int) (oth : List Bool) : Int := ixI (firstB l.joints.length (fun i => !jHit kind body oth (l.joints.getD i default)))
def drHit (l : Li) (known : List Bool) (i : Nat) : Bool := !kn known (l.drivers.getD i default).body && decide (0 <= jointI l 0 (l.drivers.getD i default).body known)
def driverG (l : Li) (known : List Bool) : Option Gr :=
  (firstB l.drivers.length (fun i => !drHit l known i)).map fun i => ⟨0,[(l.drivers.getD i default).body],[jointI l 0 (l.drivers.getD i default).body known],i⟩
def prHit (l : Li) (known : List Bool) (i k : Nat) : Bool :=
  (freeB l known i && freeB l known k) && (decide (0 <= jointI l 0 i known) && decide (0 <= jointI l 0 k known) && decide (0 <= jointI l 0 i (onlyK l.bodies.length k)))
def prAt (l : Li) (known : List Bool) (i : Nat) : Option Nat := (firstB (l.bodies.length - (i + 1)) (fun k => !prHit l known i (i + 1 + k))).map (· + (i + 1))
def prG (l : Li) (known : List Bool) (i k : Nat) : Gr := ⟨1,[i,k],[jointI l 0 i known,jointI l 0 k known,jointI l 0 i (onlyK l.bodies.length k)],0⟩
def pairG (l : Li) (known : List Bool) : Option Gr :=
  (firstB l.bodies.length (fun i => (prAt l known i).isNone)).map fun i => match prAt l known i with
    | some k => prG l known i k
    | none => default
def sgHit (l : Li) (known : List Bool) (i : Nat) : Bool := freeB l known i && (decide (0 <= jointI l 0 i known) && decide (0 <= jointI l 1 i known))
def sgG (l : Li) (known : List Bool) (i : Nat) : Gr :=
  ⟨if (l.joints.getD (jointI l 1 i known).toNat default).a = i then 2 else 3,[i],[jointI l 0 i known,jointI l 1 i known],0⟩
def singleG (l : Li) (known : List Bool) : Option Gr := (firstB l.bodies.length (fun i => !sgHit l known i)).map (sgG l known)
def nextG (l : Li) (known : List Bool) : Option Gr := (driverG l known).or ((pairG l known).or (singleG l known))
def markAll (known : List Bool) (bs : List Int) : List Bool := bs.foldl (fun k b => k.set b.toNat true) known
def findFrom (l : Li) : Nat -> List Bool -> List Gr -> List Bool × List Gr
  | 0,known,out => (known,out)
  | n + 1, known, out => match nextG l known with
    | none => (known,out)
    | some g => findFrom l n (markAll known g.bodies) (out ++ [g])
def findG (l : Li) : List Gr := (findFrom l l.bodies.length (onlyK l.bodies.length 0) []).2
def restK (l : Li) : List Bool := (findG l).foldl (fun k g => markAll k g.bodies) (onlyK l.bodies.length 0)
def restJ (l : Li) : List Bool := (findG l).foldl (fun k g => markAll k g.joints) (List.replicate l.joints.length false)
def unmarked (k : List Bool) : List Int := ((List.range k.length).filter (fun i => !k.getD i false)).map (fun i : Nat => ((i : Nat) : Int))
def splitE (l : Li) : Nat := if (unmarked (restK l)).length + (unmarked (restJ l)).length = 0 then 0 else 7
def splitG (l : Li) : List Gr := if splitE l = 0 then findG l else []
theorem jhit_cond {kind body : Int} {oth : List Bool} {j : Jt} {va vb : Bool} (ea : kn oth j.a = va) (eb : kn oth j.b = vb) :
  cond (icmp .eql j.kind kind) (cond (cond (icmp .eql j.a body) vb false) true (cond (icmp .eql j.b body) va false)) false = jHit kind body oth j := by
 unfold jHit
 rw [int_eqb,int_eqb,int_eqb,ea,eb,and_cond,and_cond,and_cond,or_cond]
theorem len_only (n : Nat) (b : Int) : (onlyK n b).length = n:=by unfold onlyK; simp
theorem len_mark : ∀ (bs : List Int) (k : List Bool), (markAll k bs).length = k.length
 | [],k => rfl
 | b :: bs, k => by
  show (markAll (k.set b.toNat true) bs).length = _
  rw [len_mark bs]; simp
theorem firstB_some {n i : Nat} {ok : Nat -> Bool} (h : firstB n ok = some i) : i < n /\ ok i = false := by
 unfold firstB at h
 rw [List.find?_range_eq_some] at h
 exact ⟨by simpa using h.2.1,by simpa using h.1⟩
theorem jointI_lt {l : Li} {kind body : Int} {oth : List Bool} : -1 <= jointI l kind body oth /\ jointI l kind body oth < l.joints.length := by
 unfold jointI
 cases h : firstB l.joints.length (fun i => !jHit kind body oth (l.joints.getD i default)) with
 | none => exact ⟨by decide,by show (-1 : Int) < _; omega⟩
 | some i => have := (firstB_some h).1; exact ⟨by show (-1 : Int) <= (i : Int); omega,by show (i : Int) < _; omega⟩
structure GrOk (l : Li) (g : Gr) : Prop where
  b : ∀ x ∈ g.bodies,0 <= x /\ x < l.bodies.length
  j : ∀ x ∈ g.joints,0 <= x /\ x < l.joints.length
  lb : g.bodies.length <= 2
  lj : g.joints.length <= 3
theorem driverG_ok {l : Li} (hl : liE l = 0) {known : List Bool} {g : Gr} (h : driverG l known = some g) : GrOk l g := by
 unfold driverG at h
 rw [Option.map_eq_some_iff] at h
 obtain ⟨i,hi,rfl⟩ := h
 obtain ⟨h1,h2⟩ := firstB_some hi
 obtain ⟨d,hd⟩ := getx h1
 have h3 := inB_t (dr_in hl hd)
 unfold drHit at h2
 simp only [Bool.not_eq_false',Bool.and_eq_true,decide_eq_true_eq] at h2
 rw [getD_of hd] at h2 ⊢
 have h4 := jointI_lt (l := l) (kind := 0) (body := d.body) (oth := known)
 refine ⟨fun x hx => ?_,fun x hx => ?_,by simp,by simp⟩
 ·rw [List.mem_singleton.1 hx]; exact h3
 ·rw [List.mem_singleton.1 hx]; exact ⟨h2.2,h4.2⟩
theorem pairG_ok {l : Li} {known : List Bool} {g : Gr} (h : pairG l known = some g) : GrOk l g := by
 unfold pairG at h
 rw [Option.map_eq_some_iff] at h
 obtain ⟨i,hi,h⟩ := h
 obtain ⟨h1,h2⟩ := firstB_some hi
 split at h
 ·rename_i k hk
  subst h
  unfold prAt at hk
  rw [Option.map_eq_some_iff] at hk
  obtain ⟨k',hk',rfl⟩ := hk
  obtain ⟨h3,h4⟩ := firstB_some hk'
  rw [show i + 1 + k' = k' + (i + 1) by omega] at h4
  unfold prHit at h4
  simp only [Bool.not_eq_false',Bool.and_eq_true,decide_eq_true_eq] at h4
  obtain ⟨_,⟨j1,j2⟩,j3⟩ := h4
  refine ⟨fun x hx => ?_,fun x hx => ?_,by simp [prG],by simp [prG]⟩
  ·simp only [prG, List.mem_cons, List.not_mem_nil, or_false] at hx
   rcases hx with rfl | rfl <;> constructor <;> omega
  ·simp only [prG, List.mem_cons, List.not_mem_nil, or_false] at hx
   rcases hx with rfl | rfl | rfl
   ·exact ⟨j1,jointI_lt.2⟩
   ·exact ⟨j2,jointI_lt.2⟩
   ·exact ⟨j3,jointI_lt.2⟩
 ·rename_i hk; rw [hk] at h2; cases h2
theorem singleG_ok {l : Li} {known : List Bool} {g : Gr} (h : singleG l known = some g) : GrOk l g := by
 unfold singleG at h
 rw [Option.map_eq_some_iff] at h
 obtain ⟨i,hi,rfl⟩ := h
 obtain ⟨h1,h2⟩ := firstB_some hi
 unfold sgHit at h2
 simp only [Bool.not_eq_false',Bool.and_eq_true,decide_eq_true_eq] at h2
 obtain ⟨_,j1,j2⟩ := h2
 refine ⟨fun x hx => ?_,fun x hx => ?_,by simp [sgG],by simp [sgG]⟩
 ·simp only [sgG, List.mem_cons, List.not_mem_nil, or_false] at hx
  subst hx; constructor <;> omega
 ·simp only [sgG, List.mem_cons, List.not_mem_nil, or_false] at hx
  rcases hx with rfl | rfl
  ·exact ⟨j1,jointI_lt.2⟩
  ·exact ⟨j2,jointI_lt.2⟩
theorem nextG_ok {l : Li} (hl : liE l = 0) {known : List Bool} {g : Gr} (h : nextG l known = some g) : GrOk l g := by
 unfold nextG at h
 cases h1 : driverG l known with
 | some g' => rw [h1] at h; cases h; exact driverG_ok hl h1
 | none =>
  rw [h1] at h
  cases h2 : pairG l known with
  | some g' => rw [h2] at h; cases h; exact pairG_ok h2
  | none => rw [h2] at h; exact singleG_ok h
theorem findFrom_ok {l : Li} (hl : liE l = 0) : ∀ (n : Nat) (known : List Bool) (out : List Gr), (∀ g ∈ out, GrOk l g) -> (∀ g ∈ (findFrom l n known out).2, GrOk l g) /\ (findFrom l n known out).2.length <= out.length + n
 | 0,known,out,h => ⟨h,by simp [findFrom]⟩
 | n + 1, known, out, h => by
  unfold findFrom
  cases hg : nextG l known with
  | none => exact ⟨h,by simp⟩
  | some g =>
   have h1 := findFrom_ok hl n (markAll known g.bodies) (out ++ [g]) (fun x hx => by
    rcases List.mem_append.1 hx with hx | hx
    ·exact h x hx
    ·rw [List.mem_singleton.1 hx]; exact nextG_ok hl hg)
   refine ⟨h1.1,?_⟩
   have := h1.2
   rw [List.length_append] at this
   show (findFrom l n (markAll known g.bodies) (out ++ [g])).2.length <= _
   simp only [List.length_cons,List.length_nil] at this
   omega
theorem findG_ok {l : Li} (hl : liE l = 0) : (∀ g ∈ findG l, GrOk l g) /\ (findG l).length <= 8 := by
 have h := findFrom_ok hl l.bodies.length (onlyK l.bodies.length 0) [] (fun g hg => by cases hg)
 have h8 := (li_parts hl).2.2.2.1
 exact ⟨h.1,by have := h.2; simp only [List.length_nil] at this; unfold findG; omega⟩
end Go.Lw
namespace Go.Lw
def otherI (j : Jt) (b : Int) : Int := if b = j.a then j.b else if b = j.b then j.a else -1
def gHit (kind body : Int) (p : Int -> Bool) (j : Jt) : Bool := decide (j.kind = kind) && (decide (0 <= otherI j body) && p (otherI j body))
def gJ (l : Li) (kind body : Int) (p : Int -> Bool) : Int := ixI (firstB l.joints.length (fun i => !gHit kind body p (l.joints.getD i default)))
theorem g_in {b : Bool} {z : Int} (h : cond b (icmp .geq z 0) false = true) : 0 <= z := by
 cases b
 ·cases h
 ·exact of_decide_eq_true h
theorem g_cond {a k z : Int} {q : Bool} : cond (cond (icmp .eql a k) (icmp .geq z 0) false) q false = (decide (a = k) && (decide (0 <= z) && q)) := by
 rw [int_eqb,show icmp .geq z 0 = decide (0 <= z) from rfl,and_cond,and_cond,Bool.and_assoc]
theorem other_lt {l : Li} (hli : liE l = 0) {i : Nat} {j : Jt} (hj : l.joints[i]? = some j) (b : Int) : otherI j b < l.bodies.length := by
 obtain ⟨i1,i2,_⟩ := jt_in hli hj
 have b1 := inB_t i1
 have b2 := inB_t i2
 unfold otherI
 split
 ·omega
 ·split <;> omega
theorem firstB_congr {n : Nat} {ok ok' : Nat -> Bool} (h : ∀ i, i < n -> ok i = ok' i) : firstB n ok = firstB n ok' := by
 unfold firstB
 have : ∀ l : List Nat, (∀ i ∈ l, i < n) -> l.find? (fun i => !ok i) = l.find? (fun i => !ok' i) := by
  intro l
  induction l with
  | nil => intro _; rfl
  | cons a l ih =>
   intro hl
   simp only [List.find?_cons,h a (hl a (by simp)),ih (fun i hi => hl i (by simp [hi]))]
 exact this _ (fun i hi => List.mem_range.1 hi)
theorem gJ_eq {l : Li} (hli : liE l = 0) {kind body : Int} {p : Int -> Bool} {oth : List Bool} (h : ∀ o : Int, 0 <= o -> o < l.bodies.length -> p o = kn oth o) : gJ l kind body p = jointI l kind body oth := by
 unfold gJ jointI
 rw [firstB_congr]
 intro i hi
 obtain ⟨j,hj⟩ := getx hi
 rw [getD_of hj]
 obtain ⟨i1,i2,_⟩ := jt_in hli hj
 have b1 := inB_t i1
 have b2 := inB_t i2
 congr 1
 unfold gHit jHit
 congr 1
 unfold otherI
 by_cases h1 : body = j.a
 ·subst h1
  rw [if_pos rfl,h _ b2.1 b2.2]
  by_cases h2 : j.b = j.a
  ·simp [h2,b1.1]
  ·simp [h2,b2.1]
 ·rw [if_neg h1]
  by_cases h2 : body = j.b
  ·subst h2
   rw [if_pos rfl,h _ b1.1 b1.2]
   have h3 : ¬ j.a = j.b := fun e => h1 e.symm
   simp [h3,b1.1]
  ·rw [if_neg h2]
   have h3 : ¬ j.a = body := fun e => h1 e.symm
   have h4 : ¬ j.b = body := fun e => h2 e.symm
   simp [h3,h4]
theorem kn_set {k : List Bool} {i : Nat} {b : Int} (h0 : 0 <= b) (hi : i < k.length) : kn (k.set i true) b = (decide (b = i) || kn k b) := by
 unfold kn
 rw [List.getD_eq_getElem?_getD,List.getElem?_set,List.getD_eq_getElem?_getD]
 by_cases h : b = i
 ·rw [decide_eq_true h, Bool.true_or, if_pos (by omega)]
  rw [if_pos (by omega)]; rfl
 ·rw [decide_eq_false h,Bool.false_or,if_neg (by omega)]
theorem kn_mark : ∀ {bs : List Int} {k : List Bool} {b : Int}, 0 <= b -> (∀ x ∈ bs, 0 <= x /\ x < k.length) -> kn (markAll k bs) b = (bs.any (fun x => decide (x = b)) || kn k b)
 | [],k,b,h0,h => by simp [markAll]
 | x :: bs, k, b, h0, h => by
  show kn (markAll (k.set x.toNat true) bs) b = _
  obtain ⟨hx0,hx1⟩ := h x (by simp)
  rw [kn_mark h0 (fun y hy => by rw [List.length_set]; exact h y (by simp [hy])),kn_set h0 (by omega),List.any_cons]
  have e : decide (b = (x.toNat : Int)) = decide (x = b) := decide_eq_decide.2 (by omega)
  rw [e]
  cases decide (x = b) <;> simp
theorem kn_false (n : Nat) (b : Int) : kn (List.replicate n false) b = false := by
 unfold kn
 rw [List.getD_eq_getElem?_getD,List.getElem?_replicate]
 split <;> rfl
def drivenL (l : Li) : List Bool := markAll (List.replicate l.bodies.length false) (l.drivers.map Dr.body)
theorem len_driven (l : Li) : (drivenL l).length = l.bodies.length:=by unfold drivenL; rw [len_mark,List.length_replicate]
theorem kn_driven {l : Li} (hli : liE l = 0) {b : Int} (h0 : 0 <= b) : kn (drivenL l) b = drivenB l b := by
 unfold drivenL drivenB
 rw [kn_mark h0,kn_false,Bool.or_false,List.any_map]
 ·rfl
 ·intro x hx
  obtain ⟨d,hd,rfl⟩ := List.mem_map.1 hx
  obtain ⟨i,hi⟩ := List.mem_iff_getElem?.1 hd
  have := inB_t (dr_in hli hi)
  rw [List.length_replicate]; omega
theorem kn_only {n : Nat} {b o : Int} (h0 : 0 <= o) (hb0 : 0 <= b) (hb : b < n) : kn (onlyK n b) o = decide (o = b) := by
 unfold onlyK
 rw [kn_set h0 (by rw [List.length_replicate]; omega),kn_false,Bool.or_false]
 exact decide_eq_decide.2 (by omega)
def unk (k : List Bool) : Nat := k.countP (fun x => !x)
theorem unk_set {k : List Bool} {i : Nat} (h : k[i]? = some false) : unk (k.set i true) + 1 = unk k := by
 unfold unk
 have hi := (List.getElem?_eq_some_iff.1 h).1
 have he := (List.getElem?_eq_some_iff.1 h).2
 rw [List.countP_set hi,he]
 have : 0 < k.countP (fun x => !x) := List.countP_pos_iff.2 ⟨false,List.mem_of_getElem? h,rfl⟩
 simp; omega
theorem unk_set_le (k : List Bool) (i : Nat) : unk (k.set i true) <= unk k := by
 by_cases hi : i < k.length
 ·unfold unk; rw [List.countP_set hi]; simp
 ·rw [List.set_eq_of_length_le (by omega)]; exact Nat.le_refl _
theorem unk_mark_le : ∀ (bs : List Int) (k : List Bool), unk (markAll k bs) <= unk k
 | [],k => Nat.le_refl _
 | x :: bs,k => Nat.le_trans (unk_mark_le bs (k.set x.toNat true)) (unk_set_le k _)
theorem unk_mark {x : Int} {bs : List Int} {k : List Bool} (h : k[x.toNat]? = some false) : unk (markAll k (x :: bs)) < unk k := by
 have h1 := unk_mark_le bs (k.set x.toNat true)
 have h2 := unk_set h
 show unk (markAll (k.set x.toNat true) bs) < _
 omega
theorem kn_get {k : List Bool} {b : Int} (h : kn k b = false) (h1 : b.toNat < k.length) : k[b.toNat]? = some false := by
 unfold kn at h
 rw [List.getD_eq_getElem?_getD,List.getElem?_eq_getElem h1] at h
 rw [List.getElem?_eq_getElem h1]
 simpa using h
theorem nextG_new {l : Li} (hl : liE l = 0) {known : List Bool} (hk : known.length = l.bodies.length) {g : Gr} (h : nextG l known = some g) : ∃ x bs, g.bodies = x :: bs /\ known[x.toNat]? = some false := by
 unfold nextG at h
 cases h1 : driverG l known with
 | some g' =>
  rw [h1] at h; cases h
  unfold driverG at h1
  rw [Option.map_eq_some_iff] at h1
  obtain ⟨i,hi,rfl⟩ := h1
  obtain ⟨h2,h3⟩ := firstB_some hi
  obtain ⟨d,hd⟩ := getx h2
  have h4 := inB_t (dr_in hl hd)
  rw [getD_of hd] at *
  unfold drHit at h3
  rw [getD_of hd] at h3
  simp only [Bool.not_eq_false',Bool.and_eq_true,Bool.not_eq_true',decide_eq_true_eq] at h3
  exact ⟨_,_,rfl,kn_get h3.1 (by omega)⟩
 | none =>
  rw [h1] at h
  cases h2 : pairG l known with
  | some g' =>
   rw [h2] at h; cases h
   unfold pairG at h2
   rw [Option.map_eq_some_iff] at h2
   obtain ⟨i,hi,h2⟩ := h2
   obtain ⟨h3,h4⟩ := firstB_some hi
   split at h2
   ·rename_i k hk'
    subst h2
    unfold prAt at hk'
    rw [Option.map_eq_some_iff] at hk'
    obtain ⟨k',hk',rfl⟩ := hk'
    obtain ⟨h5,h6⟩ := firstB_some hk'
    unfold prHit freeB at h6
    simp only [Bool.not_eq_false',Bool.and_eq_true,Bool.not_eq_true',decide_eq_true_eq] at h6
    exact ⟨_,_,rfl,kn_get h6.1.1.1 (by omega)⟩
   ·rename_i hk'; rw [hk'] at h4; cases h4
  | none =>
   rw [h2] at h
   have h : singleG l known = some g := h
   unfold singleG at h
   rw [Option.map_eq_some_iff] at h
   obtain ⟨i,hi,rfl⟩ := h
   obtain ⟨h3,h4⟩ := firstB_some hi
   unfold sgHit freeB at h4
   simp only [Bool.not_eq_false',Bool.and_eq_true,Bool.not_eq_true',decide_eq_true_eq] at h4
   exact ⟨_,_,rfl,kn_get h4.1.1 (by omega)⟩
theorem nextG_less {l : Li} (hl : liE l = 0) {known : List Bool} (hk : known.length = l.bodies.length) {g : Gr} (h : nextG l known = some g) : unk (markAll known g.bodies) < unk known := by
 obtain ⟨x,bs,e,h1⟩ := nextG_new hl hk h
 rw [e]; exact unk_mark h1
theorem findFrom_more {l : Li} (hl : liE l = 0) : ∀ (n m : Nat) (known : List Bool) (out : List Gr), known.length = l.bodies.length -> unk known <= n -> unk known <= m -> findFrom l n known out = findFrom l m known out
 | 0,0,known,out,hk,h1,h2 => rfl
 | 0, m + 1, known, out, hk, h1, h2 => by
  unfold findFrom
  cases hg : nextG l known with
  | none => rfl
  | some g => have := nextG_less hl hk hg; omega
 | n + 1, 0, known, out, hk, h1, h2 => by
  unfold findFrom
  cases hg : nextG l known with
  | none => rfl
  | some g => have := nextG_less hl hk hg; omega
 | n + 1, m + 1, known, out, hk, h1, h2 => by
  unfold findFrom
  cases hg : nextG l known with
  | none => rfl
  | some g =>
   have := nextG_less hl hk hg
   exact findFrom_more hl n m _ _ (by rw [len_mark]; exact hk) (by omega) (by omega)
theorem findFrom_known {l : Li} : ∀ (n : Nat) (known : List Bool) (out : List Gr), ∃ gs, findFrom l n known out = (gs.foldl (fun k g => markAll k g.bodies) known, out ++ gs)
 | 0,known,out => ⟨[],by simp [findFrom]⟩
 | n + 1, known, out => by
  unfold findFrom
  cases hg : nextG l known with
  | none => exact ⟨[],by simp⟩
  | some g =>
   obtain ⟨gs,e⟩ := findFrom_known n (markAll known g.bodies) (out ++ [g])
   exact ⟨g :: gs,by show findFrom l n _ _ = _; rw [e]; simp⟩
theorem find_restK (l : Li) : findFrom l l.bodies.length (onlyK l.bodies.length 0) [] = (restK l, findG l) := by
 obtain ⟨gs,e⟩ := findFrom_known (l := l) l.bodies.length (onlyK l.bodies.length 0) []
 unfold restK findG
 rw [e]; simp
theorem unm_zero {k : List Bool} : (unmarked k).length = 0 ↔ k.contains false = false := by
 unfold unmarked
 rw [List.length_map,List.length_eq_zero_iff,List.filter_eq_nil_iff]
 constructor
 ·intro h
  rw [<- Bool.not_eq_true,List.contains_iff_mem]
  intro hm
  obtain ⟨i,hi⟩ := List.mem_iff_getElem?.1 hm
  have hlt := (List.getElem?_eq_some_iff.1 hi).1
  have := h i (List.mem_range.2 hlt)
  rw [List.getD_eq_getElem?_getD,hi] at this
  simp at this
 ·intro h i hi
  rw [<- Bool.not_eq_true,List.contains_iff_mem] at h
  intro hc
  have hlt := List.mem_range.1 hi
  rw [List.getD_eq_getElem?_getD,List.getElem?_eq_getElem hlt] at hc
  simp at hc
  exact h (hc ▸ List.getElem_mem hlt)
theorem sub_gr0 : Sub (.agg [.v (.int .i64 0),.v (.slice none 0 0),.v (.slice none 0 0),.v (.int .i64 0)]) (Gr.av default) := .agg (.cons (.refl _) (.cons (.nil _ _ _) (.cons (.nil _ _ _) (.cons (.refl _) .nil)))) rfl
theorem geq_t {z : Int} (h : icmp .geq z 0 = true) : 0 <= z := of_decide_eq_true h
theorem geq_f {z : Int} (h : icmp .geq z 0 = false) : ¬ 0 <= z := of_decide_eq_false h
theorem three_b {a b c : Int} : cond (cond (icmp .geq a 0) (icmp .geq b 0) false) (icmp .geq c 0) false = (decide (0 <= a) && decide (0 <= b) && decide (0 <= c)) := by
 have e : ∀ z : Int,icmp .geq z 0 = decide (0 <= z) := fun z => rfl
 rw [e,e,e,and_cond,and_cond]
theorem two_b {a b : Int} : cond (icmp .lss a 0) true (icmp .lss b 0) = !(decide (0 <= a) && decide (0 <= b)) := by
 have e : ∀ z : Int,icmp .lss z 0 = !decide (0 <= z) := fun z => by rw [<- decide_not]; exact decide_eq_decide.2 (by omega)
 rw [e,e,or_cond,Bool.not_and]
theorem two_t {a b : Int} (h : cond (icmp .lss a 0) true (icmp .lss b 0) = true) : (decide (0 <= a) && decide (0 <= b)) = false:=by rw [two_b] at h; exact not_t h
theorem two_f {a b : Int} (h : cond (icmp .lss a 0) true (icmp .lss b 0) = false) : 0 <= a /\ 0 <= b := by
 rw [two_b] at h
 have := not_f h
 simpa using this
end Go.Lw
namespace Go.Lw
open Go.Proofs
abbrev fdC (l : Li) (known driven : List Bool) (r : List AV) : List AV := l.av.cells ++ (.lst 1 (known.map bl) :: .lst 1 (driven.map bl) :: r)
theorem c_g_other (j : Jt) (b : Int) : FnC Tryz.prog 371 [j.av, i64 b] (i64 (otherI j b)) := by
 refine gF0 Tryz.func371 ?_
 refine gC (fun ht6 => ?_) (fun ht6 => ?_)
 ·have h1 : b = j.a := eql_t ht6
  refine gE1 ?_
  unfold otherI; rw [if_pos h1]
 ·have h1 : b ≠ j.a := eql_f ht6
  refine gC (fun ht12 => ?_) (fun ht12 => ?_)
  ·have h2 : b = j.b := eql_t ht12
   refine gE1 ?_
   unfold otherI; rw [if_neg h1,if_pos h2]
  ·have h2 : b ≠ j.b := eql_f ht12
   refine gE1 ?_
   unfold otherI; rw [if_neg h1,if_neg h2]; rfl
theorem c_g_joint1 (j : Jt) (kind body : Int) (f : FuncId) (pre caps : List AV) (p : Int -> Bool) (hp : 0 <= otherI j body -> FnC Tryz.prog f (pre ++ [i64 (otherI j body)] ++ caps) (bl (p (otherI j body)))) :
  FnC Tryz.prog 370 [j.av,.iptr [i64 body],.iptr [i64 kind],.iptr [.cl f pre caps]] (bl (gHit kind body p j)) := by
 refine gF0 Tryz.func370 ?_
 refine gc (c_g_other j body) ?_
 refine gcG (fun h => (hp (g_in h))) ?_
 refine gE1 ?_
 exact congrArg bl g_cond
theorem c_indexFunc_Joint (bs : List Jt) (hl : bs.length <= 281474976710656) (f : FuncId) (pre caps : List AV) (ok : Nat -> Bool)
  (hf : ∀ (i : Nat) (b : Jt),bs[i]? = some b -> (∀ j,j < i -> ok j = true) -> FnC Tryz.prog f (pre ++ [b.av] ++ caps) (bl (!ok i))) :
  FnC Tryz.prog 369 [.lst 7 (bs.map Jt.av),.cl f pre caps] (i64 (ixI (firstB bs.length ok))) := by
 refine gF0 Tryz.func369 ?_
 refine gl ?_
 refine gL1 [0,1,7] [] (fun (i : Nat) => [(8,some (i64 i))]) (fun _ => []) (fun i => i <= bs.length /\ ∀ j,j < i -> ok j = true) (fun i => bs.length - i) 0 ⟨Nat.zero_le _,fun j h => by omega⟩ ?_
 rintro i ⟨hi,hj⟩ K1 hK1
 refine gC (fun ht9 => ?_) (fun ht9 => ?_)
 ·have hin := lss_t ht9
  obtain ⟨b,hb⟩ := getx hin
  refine gi (getmap hb) ?_
  refine gc (hf i b hb hj) ?_
  refine gC (fun ht16 => ?_) (fun ht16 => ?_)
  ·have h2 := not_t ht16
   refine gE1 ?_
   rw [firstB_at hin hj h2]; rfl
  ·have h2 := not_f ht16
   refine ga (i64_add1 (by unfold maxL; omega)) ?_
   exact gK1 hK1 (i + 1) ⟨hin,fun j h9 => by rcases Nat.lt_or_ge j i with g | g; exact hj j g; (have : j = i:=by omega); subst this; exact h2⟩
 ·have hin := lss_end hi ht9
  subst hin
  refine gE1 ?_
  rw [firstB_all hj]; rfl
theorem c_g_joint (l : Li) (hl : l.ok) (hli : liE l = 0) (Fd : List AV) (kind body : Int) (f : FuncId) (pre caps : List AV) (p : Int -> Bool)
  (hp : ∀ o : Int,0 <= o -> o < l.bodies.length -> FnC Tryz.prog f (pre ++ [i64 o] ++ caps) (bl (p o))) :
  FnC Tryz.prog 342 [.iptr (l.av.cells ++ Fd),i64 kind,i64 body,.cl f pre caps] (i64 (gJ l kind body p)) := by
 refine gF0 Tryz.func342 ?_ (1,0)
 refine gW ((Wk.freezeB (k := 7) rfl rfl).trans <| (Wk.freezeB (k := 5) rfl rfl).trans <| (Wk.freezeB (k := 6) rfl rfl).trans <| Wk.o (sl := [(0,some (.iptr (l.av.cells ++ Fd))),(5,some (.iptr [i64 kind])),(6,some (.iptr [i64 body])),(7,some (.iptr [.cl f pre caps]))]) (hp := [])) ?_
 refine gc (Con.subA (.cons (.refl _) (.cons (sub_cl rfl) .nil)) (c_indexFunc_Joint l.joints hl.lj 370 [] [.iptr [i64 body],.iptr [i64 kind],.iptr [.cl f pre caps]] (fun i => !gHit kind body p (l.joints.getD i default)) (fun i b hb hj => by rw [Bool.not_not,getD_of hb]; exact c_g_joint1 b kind body f pre caps p (fun h => hp _ h (other_lt hli hb body))))) ?_
 refine gE1 ?_
 rfl
theorem c_g_isKnown (l : Li) (known driven : List Bool) (r : List AV) (b : Int) (h0 : 0 <= b) (h1 : b < known.length) : FnC Tryz.prog 367 [.iptr (fdC l known driven r), i64 b] (bl (kn known b)) := by
 obtain ⟨v,hv⟩ : ∃ v,known[b.toNat]? = some v := getx (by omega)
 have ev : kn known b = v := getD_of hv
 refine gF0 Tryz.func367 ?_
 refine gi (getzx (n := b.toNat) (by omega) hv) ?_
 refine gE1 ?_
 rw [ev]
theorem c_g_anchored (l : Li) (hl : l.ok) (hli : liE l = 0) (known driven : List Bool) (hk : known.length = l.bodies.length) (r : List AV) (kind body : Int) :
  FnC Tryz.prog 340 [.iptr (fdC l known driven r),i64 kind,i64 body] (i64 (gJ l kind body (kn known))) := by
 refine gF0 Tryz.func340 ?_
 refine gc (c_g_joint l hl hli _ kind body 367 [.iptr (fdC l known driven r)] [] (kn known) (fun o h0 h1 => c_g_isKnown l known driven r o h0 (by omega))) ?_
 refine gE1 ?_
 rfl
theorem c_g_pair1 (o j : Int) : FnC Tryz.prog 343 [i64 o, .iptr [i64 j]] (bl (decide (o = j))) := by
 refine gF0 Tryz.func343 ?_
 refine gE1 ?_
 exact congrArg bl int_eqb
theorem c_g_free (l : Li) (known driven : List Bool) (hd : driven.length = known.length) (r : List AV) (b : Int) (h0 : 0 <= b) (h1 : b < known.length) :
  FnC Tryz.prog 344 [.iptr (fdC l known driven r),i64 b] (bl (!kn known b && !kn driven b)) := by
 obtain ⟨v,hv⟩ : ∃ v,known[b.toNat]? = some v := getx (by omega)
 have ev : kn known b = v := getD_of hv
 obtain ⟨u,hu⟩ : ∃ u,driven[b.toNat]? = some u := getx (by omega)
 have eu : kn driven b = u := getD_of hu
 refine gF0 Tryz.func344 ?_
 refine gi (getzx (n := b.toNat) (by omega) hv) ?_
 refine giG (fun _ => (getzx (n := b.toNat) (by omega) hu)) ?_
 refine gE1 ?_
 rw [ev,eu]; exact congrArg bl (and_cond _ _)
end Go.Lw
namespace Go.Lw
open Go.Proofs
theorem c_g_driver (l : Li) (hl : l.ok) (hli : liE l = 0) (known driven : List Bool) (hk : known.length = l.bodies.length) (r : List AV) :
  FnC Tryz.prog 282 [.iptr (fdC l known driven r)] (.tup [((driverG l known).getD default).av,bl (driverG l known).isSome]) := by
 have hld := hl.ld
 refine gF0 Tryz.func282 ?_
 refine gl ?_
 refine gL1 [0,2,11,12] [2] (fun (i : Nat) => [(13,some (i64 i))]) (fun _ => []) (fun i => i <= l.drivers.length /\ ∀ j,j < i -> (!drHit l known j) = true) (fun i => l.drivers.length - i) 0 ⟨Nat.zero_le _,fun j h => by omega⟩ ?_
 rintro i ⟨hi,hj⟩ K1 hK1
 refine gC (fun ht14 => ?_) (fun ht14 => ?_)
 ·have hin := lss_t ht14
  obtain ⟨d,hd⟩ := getx hin
  have hdd : l.drivers.getD i default = d := getD_of hd
  have hb := inB_t (dr_in hli hd)
  obtain ⟨v,hv⟩ : ∃ v,known[d.body.toNat]? = some v := getx (by omega)
  have ev : kn known d.body = v := getD_of hv
  have ej : gJ l 0 d.body (kn known) = jointI l 0 d.body known := gJ_eq hli (fun o _ _ => rfl)
  refine gi (getmap hd) ?_
  refine gi (getzx (n := d.body.toNat) (by omega) hv) ?_
  refine gD ?_
  refine gC (fun ht25 => ?_) (fun ht25 => ?_)
  ·have h2 : drHit l known i = false := by unfold drHit; rw [hdd, ev, ht25]; rfl
   refine ga (i64_add1 (by unfold maxL; omega)) ?_
   exact gK1 hK1 (i + 1) ⟨hin,fun k h9 => by rcases Nat.lt_or_ge k i with g | g; exact hj k g; (have : k = i:=by omega); subst this; rw [h2]; rfl⟩
  ·have hv0 : v = false := ht25
   refine gc (show FnC _ _ _ (i64 (jointI l 0 d.body known)) by rw [<- ej]; exact c_g_anchored l hl hli known driven hk r 0 d.body) ?_
   refine gC (fun ht31 => ?_) (fun ht31 => ?_)
   ·have h2 : drHit l known i = true := by unfold drHit; rw [hdd, ev, hv0, decide_eq_true (geq_t ht31)]; rfl
    have hg : driverG l known = some ⟨0,[d.body],[jointI l 0 d.body known],i⟩:=by unfold driverG; rw [firstB_at hin hj (by rw [h2]; rfl),<- hdd]; rfl
    refine gE2 ?_
    rw [hg]; rfl
   ·have h2 : drHit l known i = false := by unfold drHit; rw [hdd, decide_eq_false (geq_f ht31), Bool.and_false]
    refine ga (i64_add1 (by unfold maxL; omega)) ?_
    exact gK1 hK1 (i + 1) ⟨hin,fun k h9 => by rcases Nat.lt_or_ge k i with g | g; exact hj k g; (have : k = i:=by omega); subst this; rw [h2]; rfl⟩
 ·have hin := lss_end hi ht14
  subst hin
  have hg : driverG l known = none:=by unfold driverG; rw [firstB_all hj]; rfl
  refine gR ?_
  exact Fin.sub Fin.pure (by rw [hg]; exact Sub.tup (.cons sub_gr0 (.cons (.refl _) .nil)))
theorem g_free (l : Li) (hli : liE l = 0) (known : List Bool) (hk : known.length = l.bodies.length) (r : List AV) (b : Nat) (h1 : b < l.bodies.length) :
  FnC Tryz.prog 344 [.iptr (fdC l known (drivenL l) r),i64 b] (bl (freeB l known b)) := by
 have h := c_g_free l known (drivenL l) (by rw [len_driven,hk]) r b (by omega) (by omega)
 rw [kn_driven hli (by omega)] at h
 exact h
theorem g_anch (l : Li) (hl : l.ok) (hli : liE l = 0) (known : List Bool) (hk : known.length = l.bodies.length) (r : List AV) (kind body : Int) :
  FnC Tryz.prog 340 [.iptr (fdC l known (drivenL l) r),i64 kind,i64 body] (i64 (jointI l kind body known)) := by
 have h := c_g_anchored l hl hli known (drivenL l) hk r kind body
 rw [gJ_eq hli (fun o _ _ => rfl)] at h
 exact h
theorem c_g_single (l : Li) (hl : l.ok) (hli : liE l = 0) (known : List Bool) (hk : known.length = l.bodies.length) (r : List AV) :
  FnC Tryz.prog 284 [.iptr (fdC l known (drivenL l) r)] (.tup [((singleG l known).getD default).av,bl (singleG l known).isSome]) := by
 have h8 := (li_parts hli).2.2.2.1
 refine gF0 Tryz.func284 ?_
 refine gl ?_
 refine gL1 [0,2,12,13] [2] (fun (i : Nat) => [(14,some (i64 i))]) (fun _ => []) (fun i => i <= l.bodies.length /\ ∀ j,j < i -> (!sgHit l known j) = true) (fun i => l.bodies.length - i) 0 ⟨Nat.zero_le _,fun j h => by omega⟩ ?_
 rintro i ⟨hi,hj⟩ K1 hK1
 refine gC (fun ht15 => ?_) (fun ht15 => ?_)
 ·have hin := lss_t ht15
  refine gc (g_free l hli known hk r i hin) ?_
  refine gC (fun ht20 => ?_) (fun ht20 => ?_)
  ·have h2 : sgHit l known i = false := by unfold sgHit; rw [not_t ht20]; rfl
   refine ga (i64_add1 (by unfold maxL; omega)) ?_
   exact gK1 hK1 (i + 1) ⟨hin,fun k h9 => by rcases Nat.lt_or_ge k i with g | g; exact hj k g; (have : k = i:=by omega); subst this; rw [h2]; rfl⟩
  ·have hf := not_f ht20
   refine gc (g_anch l hl hli known hk r 0 i) ?_
   refine gc (g_anch l hl hli known hk r 1 i) ?_
   refine gC (fun ht32 => ?_) (fun ht32 => ?_)
   ·have h2 : sgHit l known i = false := by unfold sgHit; rw [two_t ht32, Bool.and_false]
    refine ga (i64_add1 (by unfold maxL; omega)) ?_
    exact gK1 hK1 (i + 1) ⟨hin,fun k h9 => by rcases Nat.lt_or_ge k i with g | g; exact hj k g; (have : k = i:=by omega); subst this; rw [h2]; rfl⟩
   ·obtain ⟨p0, s0⟩ := two_f ht32
    have s1 := (jointI_lt (l := l) (kind := 1) (body := i) (oth := known)).2
    have h2 : sgHit l known i = true:=by unfold sgHit; rw [hf,decide_eq_true p0,decide_eq_true s0]; rfl
    obtain ⟨j,hjt⟩ : ∃ j,l.joints[(jointI l 1 i known).toNat]? = some j := getx (by omega)
    have hjd : l.joints.getD (jointI l 1 i known).toNat default = j := getD_of hjt
    have hg : singleG l known = some (sgG l known i):=by unfold singleG; rw [firstB_at hin hj (by rw [h2]; rfl),Option.map_some]
    refine gi (getzx (n := (jointI l 1 i known).toNat) (by omega) hjt) ?_
    refine gC (fun ht43 => ?_) (fun ht43 => ?_)
    ·have hji : j.a = i := eql_t ht43
     refine gE2 ?_
     rw [hg]; unfold sgG; rw [hjd]; simp only [Option.getD_some,if_pos hji]; rfl
    ·have hji : j.a ≠ i := eql_f ht43
     refine gE2 ?_
     rw [hg]; unfold sgG; rw [hjd]; simp only [Option.getD_some,if_neg hji]; rfl
 ·have hin := lss_end hi ht15
  subst hin
  have hg : singleG l known = none:=by unfold singleG; rw [firstB_all hj]; rfl
  refine gR ?_
  exact Fin.sub Fin.pure (by rw [hg]; exact Sub.tup (.cons sub_gr0 (.cons (.refl _) .nil)))
theorem c_g_pairs (Fd : List AV) : FnC Tryz.prog 341 [.iptr Fd] (.fn 368 [.iptr [.iptr Fd]]) := by
 refine gF0 Tryz.func341 ?_ (1,0)
 refine gW ((Wk.freezeB (k := 1) rfl rfl).trans <| Wk.o (sl := [(1,some (.iptr [.iptr Fd]))]) (hp := [])) ?_
 refine gE1 ?_
 rfl
end Go.Lw
namespace Go.Lw
open Go.Proofs
def rgOf : Code -> Option (Array Tmp × Code × Code)
  | .rangeFunc _ ps x y => some (ps,x,y)
  | .seq a b => match rgOf a with
    | some r => some r
    | none => rgOf b
  | .block _ c => rgOf c
  | _ => none
def rgD (n : Nat) (o : Option Code) : LpD := match o with
  | some c => match rgOf c with
    | some (ps,x,y) => ⟨ps,x,y,n⟩
    | none => ⟨#[],.skip,.skip,0⟩
  | none => ⟨#[],.skip,.skip,0⟩
def pb0 (D : LpD) (Fd : List AV) (h : Bool) : Blk := .loop D (match h with | true => .done | false => .ready) (match h with | true => some .ret | false => none) [(1,some (.iptr [.iptr Fd])),(2,some (.ptr 1001 0)),(3,some (.ptr 1002 0))]
def pb1 (g : Gr) : Blk := .box [i64 g.kind,.lst 1 (g.bodies.map i64),.lst 1 (g.joints.map i64),i64 g.driver]
def pb2 (h : Bool) : Blk := .box [bl h]
def pairH (D : LpD) (Fd : List AV) (h : Bool) (g : Gr) : Hp := [(1000,some (pb0 D Fd h)),(1001,some (pb1 g)),(1002,some (pb2 h))]
theorem lkPair {D : LpD} {Fd : List AV} {h : Bool} {g : Gr} {k : Nat} {z : Blk} (hz : lk (pairH D Fd h g) k = some z) : 1000 <= k := by
 unfold pairH at hz
 simp only [lk_cons] at hz
 split at hz
 ·omega
 ·split at hz
  ·omega
  ·split at hz
   ·omega
   ·cases hz
theorem hno_pair {D : LpD} {Fd : List AV} {s : AS} (hs : ∀ k z, lk (pairH D Fd false default) k = some z -> s.blk k = some z) :
  ∀ k ∈ (pairH D Fd false default ++ dead (pairH D Fd false default)).map (·.1),k ∈ (pairH D Fd false default).map (·.1) /\ lk (pairH D Fd false default ++ dead (pairH D Fd false default)) k = s.blk k := by
 intro k hk
 have hk' : k = 1000 \/ k = 1001 \/ k = 1002 := by
  simp [pairH,dead] at hk
  omega
 rcases hk' with rfl | rfl | rfl
 ·exact ⟨by simp [pairH],(hs _ _ rfl).symm⟩
 ·exact ⟨by simp [pairH],(hs _ _ rfl).symm⟩
 ·exact ⟨by simp [pairH],(hs _ _ rfl).symm⟩
theorem pr_free {l : Li} {known : List Bool} {i k : Nat} (h : cond (freeB l known i) (freeB l known k) false = false) : prHit l known i k = false := by
 rw [and_cond] at h
 unfold prHit
 rw [h]; rfl
theorem keepP {H R : Hp} {k : Nat} {z : Blk} (h : lk H k = some z) : lk (H ++ R) k = some z:=by rw [lk_append,if_pos (mem_keys_of_lk h)]; exact h
theorem fr1 {a b : Bool} (h : cond a b false = true) : a = true:=by cases a <;> simp_all
theorem fr2 {a b : Bool} (h : cond a b false = true) : b = true:=by cases a <;> simp_all
theorem c_g_pairs1 (D : LpD) (l : Li) (hl : l.ok) (hli : liE l = 0) (known : List Bool) (hk : known.length = l.bodies.length) (r : List AV)
  (hy : ∀ i k : Nat, i < k -> k < l.bodies.length -> freeB l known i = true -> freeB l known k = true ->
   YCon Tryz.prog 1000 [i64 i,i64 k] (pairH D (fdC l known (drivenL l) r) false default) (bl (!prHit l known i k)) (pairH D (fdC l known (drivenL l) r) (prHit l known i k) (cond (prHit l known i k) (prG l known i k) default))) :
  Con Tryz.prog 368 [.yl 1000,.iptr [.iptr (fdC l known (drivenL l) r)]] (pairH D (fdC l known (drivenL l) r) false default) (.tup []) (pairH D (fdC l known (drivenL l) r) (pairG l known).isSome ((pairG l known).getD default)) := by
 have h8 := (li_parts hli).2.2.2.1
 refine gF Tryz.func368 (fun k z h => lkPair h) ?_
 refine gl ?_
 refine gL1 [0,1,10] [1000,1001,1002] (fun (i : Nat) => [(11,some (i64 i))]) (fun _ => []) (fun i => i <= l.bodies.length /\ ∀ j,j < i -> (prAt l known j).isNone = true) (fun i => l.bodies.length - i) 0 ⟨Nat.zero_le _,fun j h => by omega⟩ ?_
 rintro i ⟨hi,hj⟩ K1 hK1
 refine gC (fun ht12 => ?_) (fun ht12 => ?_)
 ·have hin := lss_t ht12
  refine ga (i64_add1 (by unfold maxL; omega)) ?_
  refine gL1 [0,1,3,10,11] [] (fun (k : Nat) => [(4,some (i64 (i + 1 + k : Nat)))]) (fun _ => [(1000,some (pb0 D (fdC l known (drivenL l) r) false)),(1001,some (pb1 default)),(1002,some (pb2 false))]) (fun k => i + 1 + k <= l.bodies.length /\ ∀ j,j < k -> (!prHit l known i (i + 1 + j)) = true) (fun k => l.bodies.length - k) 0 ⟨by omega,fun j h => by omega⟩ ?_
  rintro k ⟨hkl,hkj⟩ K2 hK2
  refine gl ?_
  refine gC (fun ht23 => ?_) (fun ht23 => ?_)
  ·have hkn : i + 1 + k < l.bodies.length := lss_t ht23
   refine gc (g_free l hli known hk r i hin) ?_
   refine gcG (fun _ => (g_free l hli known hk r (i + 1 + k) hkn)) ?_
   refine gs (s_guardH rfl rfl rfl (by intro hb; have h0 : prHit l known i (i + 1 + k) = false := pr_free (by simpa using hb); simp only [h0,cond_false]; exact hno_pair (by intro k z h; exact h)) (fun hb => s_yield (k := 1000) (.opt rfl (by rw [hb]; rfl)) (hy i (i + 1 + k) (by omega) hkn (fr1 hb) (fr2 hb)) (.cons (.opt rfl (by rw [hb]; rfl)) (.cons (.opt rfl (by rw [hb]; rfl)) .nil)) (by intro k z h; exact h) rfl rfl)) ?_
   refine gC (fun ht40 => ?_) (fun ht40 => ?_)
   ·have h2 : prHit l known i (i + 1 + k) = true := by have h9 := fr2 ht40; rw [Bool.not_not] at h9; exact h9
    have hat : prAt l known i = some (i + 1 + k):=by unfold prAt; rw [firstB_at (by omega) hkj (by rw [h2]; rfl),Option.map_some]; congr 1; omega
    have hg : pairG l known = some (prG l known i (i + 1 + k)):=by unfold pairG; rw [firstB_at hin hj (by rw [hat]; rfl),Option.map_some,hat]
    refine gR ?_
    simp only [hg,h2,Option.isSome_some,Option.getD_some,cond_true]
    exact Fin.keep (fun k z h => keepP h)
   ·have h2 : prHit l known i (i + 1 + k) = false := by cases hc : cond (freeB l known i) (freeB l known ((i + 1 + k : Nat) : Int)) false with | false => exact pr_free hc | true => rw [hc, Bool.not_not] at ht40; exact ht40
    refine ga (i64_add1 (by unfold maxL; omega)) ?_
    exact gK1 hK2 (k + 1) ⟨by omega,fun j h9 => by rcases Nat.lt_or_ge j k with g | g; exact hkj j g; (have : j = k:=by omega); subst this; rw [h2]; rfl⟩ (hw := Wk.of (by repeat (first | exact SlW.nil | refine SlW.k ?_)) (.cons rfl (BlkSub.of (by rw [h2])) (.cons rfl (BlkSub.of (by rw [h2]; rfl)) (.cons rfl (BlkSub.of (by rw [h2])) .nil))))
  ·have hkn : ¬ i + 1 + k < l.bodies.length := fun h => by have h1 := lss_f ht23; omega
   have hat : prAt l known i = none:=by unfold prAt; rw [show l.bodies.length - (i + 1) = k by omega,firstB_all hkj]; rfl
   refine ga (i64_add1 (by unfold maxL; omega)) ?_
   exact gK1 hK1 (i + 1) ⟨hin,fun j h9 => by rcases Nat.lt_or_ge j i with g | g; exact hj j g; (have : j = i:=by omega); subst this; rw [hat]; rfl⟩
 ·have hin := lss_end hi ht12
  have hg : pairG l known = none:=by unfold pairG; rw [<- hin,firstB_all hj]; rfl
  refine gR ?_
  simp only [hg,Option.isSome_none,Option.getD_none]
  exact Fin.keep (fun k z h => h)
end Go.Lw
namespace Go.Lw
open Go.Proofs
theorem gZ {P : Program} {N : Nat} {Q : Exit -> AS -> Prop} {c : Code} {s : AS} (h : Gd P N Q (.code c [] s)) : AWP P N c Q s := h
theorem awp0_weaken {P : Program} {N : Nat} {Q : Exit -> AS -> Prop} {c : Code} {s s' : AS} (hw : Wk s s') (h : AWP0 P N c Q s') : AWP0 P N c Q s := by
 intro C m a w n hro hN hr
 obtain ⟨m',hr'⟩ := hw C m a w hr
 exact h C m' a w n hro hN hr'
def swp (k : Nat) : Nat := bif Nat.beq k 1000 then 900 else bif Nat.beq k 900 then 1000 else bif Nat.beq k 1001 then 2 else bif Nat.beq k 2 then 1001 else bif Nat.beq k 1002 then 3 else bif Nat.beq k 3 then 1002 else k
theorem nb {a b : Nat} (h : ¬ a = b) : Nat.beq a b = false := by
 cases h1 : Nat.beq a b
 ·rfl
 ·exact absurd (Nat.eq_of_beq_eq_true h1) h
theorem swp_swp (k : Nat) : swp (swp k) = k := by
 by_cases h1 : k = 1000
 ·subst h1; rfl
 by_cases h2 : k = 900
 ·subst h2; rfl
 by_cases h3 : k = 1001
 ·subst h3; rfl
 by_cases h4 : k = 2
 ·subst h4; rfl
 by_cases h5 : k = 1002
 ·subst h5; rfl
 by_cases h6 : k = 3
 ·subst h6; rfl
 have e : swp k = k:=by simp only [swp,nb h1,nb h2,nb h3,nb h4,nb h5,nb h6,cond_false]
 rw [e,e]
theorem c_g_pair (l : Li) (hl : l.ok) (hli : liE l = 0) (known : List Bool) (hk : known.length = l.bodies.length) (r : List AV) :
  FnC Tryz.prog 283 [.iptr (fdC l known (drivenL l) r)] (.tup [((pairG l known).getD default).av,bl (pairG l known).isSome]) := by
 refine con_ofR (rs := Tryz.f283.results.toList) Tryz.func283 rfl rfl (by simp) rfl (fun k z h => by cases h) ?_
 refine awp0_seq (gZ (go ?_))
 refine awp0_weaken (s' := ⟨[(1,some (.iptr [.iptr (fdC l known (drivenL l) r)])),(2,some (.ptr 2 0)),(3,some (.ptr 3 0))],[(2,some (pb1 default)),(3,some (pb2 false))]⟩) ((Wk.freezeB (k := 1) rfl rfl).trans (Wk.of (.cons rfl (.refl _) (.cons rfl (.refl _) (.cons rfl (.refl _) .nil))) (.cons rfl (BlkSub.boxL (.cons (.refl _) (.cons (.nil _ _ _) (.cons (.nil _ _ _) (.cons (.refl _) .nil)))) rfl) (.cons rfl (.refl _) .nil)))) ?_
 refine awp0_seq0 ?_
 refine awp0_seq (gZ (go ?_))
 refine gc (c_g_pairs (fdC l known (drivenL l) r)) ?_
 refine awp0_block ?_
 have hy : ∀ i k : Nat, i < k -> k < l.bodies.length -> freeB l known i = true -> freeB l known k = true ->
   YCon Tryz.prog 1000 [i64 i,i64 k] (pairH (rgD Tryz.f283.ntmps Tryz.f283.body) (fdC l known (drivenL l) r) false default) (bl (!prHit l known i k)) (pairH (rgD Tryz.f283.ntmps Tryz.f283.body) (fdC l known (drivenL l) r) (prHit l known i k) (cond (prHit l known i k) (prG l known i k) default)) := by
  intro i k hik hkn hfi hfk
  refine ycon_of (k := 1000) (fun k z h => lkPair h) rfl rfl (by intro p hp; have h9 : p ∈ [11,12] := hp; have h8 : p = 11 \/ p = 12 := (by simpa using h9); show p < 42; rcases h8 with h7 | h7 <;> (rw [h7]; decide)) ?_
  refine gZ (go ?_)
  refine ⟨rfl,_,_,rfl,?_⟩
  have hJ : gJ l 0 i (fun o => decide (o = (k : Int))) = jointI l 0 i (onlyK l.bodies.length k) := gJ_eq hli (fun o h0 h1 => (kn_only h0 (by omega) (by omega)).symm)
  refine gZ (go ?_)
  refine gc (g_anch l hl hli known hk r 0 i) ?_
  refine gc (g_anch l hl hli known hk r 0 k) ?_
  refine gD ?_ (5,0)
  refine gW (Wk.freezeB (k := 5) rfl rfl) ?_
  refine gc (r := i64 (jointI l 0 i (onlyK l.bodies.length k))) (by rw [<- hJ]; exact Con.subA (.cons (.refl _) (.cons (.refl _) (.cons (.refl _) (.cons (sub_cl rfl) .nil)))) (c_g_joint l hl hli _ 0 i 343 [] [.iptr [i64 k]] (fun o => decide (o = (k : Int))) (fun o h0 h1 => c_g_pair1 o k))) ?_
  refine gC (fun ht => ?_) (fun ht => ?_)
  ·have h2 : prHit l known i k = true := by unfold prHit; rw [hfi, hfk]; exact (three_b.symm.trans ht)
   rw [h2]
   exact ⟨_,_,rfl,Fin.keep (by intro q z h; simp only [pairH,lk_cons] at h; split at h; (subst_vars; exact h); split at h; (subst_vars; exact h); split at h; (subst_vars; exact h); cases h)⟩
  ·have h2 : prHit l known i k = false := by unfold prHit; rw [hfi, hfk]; exact (three_b.symm.trans ht)
   rw [h2]
   exact ⟨_,_,rfl,Fin.keep (by intro q z h; simp only [pairH,lk_cons] at h; split at h; (subst_vars; exact h); split at h; (subst_vars; exact h); split at h; (subst_vars; exact h); cases h)⟩
 have hcon := Con.pm swp_swp (c_g_pairs1 _ l hl hli known hk r hy)
 cases hg : pairG l known with
 | none =>
  rw [hg] at hcon
  refine awp0_range (k := 900) (sl0 := [(1,some (.iptr [.iptr (fdC l known (drivenL l) r)])),(2,some (.ptr 2 0)),(3,some (.ptr 3 0))]) (.tmp rfl) (by intro t x h; simp only [lk_cons] at h; split at h; (subst_vars; exact h); split at h; (subst_vars; exact h); split at h; (subst_vars; exact h); cases h) rfl rfl hcon (fun k' z h => h) rfl rfl rfl rfl (by intro h; cases h) (.inl ⟨rfl,?_⟩)
  refine awp0_seq (gZ (go ?_))
  refine AWP.out (gZ (go ?_))
  refine gR ?_
  exact Fin.sub Fin.pure (Sub.tup (.cons sub_gr0 (.cons (.refl _) .nil)))
 | some g =>
  rw [hg] at hcon
  refine awp0_range (k := 900) (sl0 := [(1,some (.iptr [.iptr (fdC l known (drivenL l) r)])),(2,some (.ptr 2 0)),(3,some (.ptr 3 0))]) (.tmp rfl) (by intro t x h; simp only [lk_cons] at h; split at h; (subst_vars; exact h); split at h; (subst_vars; exact h); split at h; (subst_vars; exact h); cases h) rfl rfl hcon (fun k' z h => h) rfl rfl rfl rfl (by intro h; cases h) (.inr ⟨rfl,?_⟩)
  exact (gE2 (P := Tryz.prog) (N := Tryz.f283.ntmps) (e := .ret) rfl)
end Go.Lw
namespace Go.Lw
open Go.Proofs
theorem some_of {α : Type} {o : Option α} (h : o.isSome = true) : ∃ x,o = some x:=by cases o <;> simp_all
theorem none_of {α : Type} {o : Option α} (h : o.isSome = false) : o = none:=by cases o <;> simp_all
theorem c_g_next (l : Li) (hl : l.ok) (hli : liE l = 0) (known : List Bool) (hk : known.length = l.bodies.length) (r : List AV) :
  FnC Tryz.prog 207 [.iptr (fdC l known (drivenL l) r)] (.tup [((nextG l known).getD default).av,bl (nextG l known).isSome]) := by
 refine gF0 Tryz.func207 ?_
 refine gc (c_g_driver l hl hli known (drivenL l) hk r) ?_
 refine gC (fun ht13 => ?_) (fun ht13 => ?_)
 ·obtain ⟨g, hg⟩ := some_of ht13
  refine gE2 ?_
  unfold nextG; rw [hg]; rfl
 ·have hg := none_of ht13
  refine gc (c_g_pair l hl hli known hk r) ?_
  refine gC (fun ht20 => ?_) (fun ht20 => ?_)
  ·obtain ⟨g, hg2⟩ := some_of ht20
   refine gE2 ?_
   unfold nextG; rw [hg,hg2]; rfl
  ·have hg2 := none_of ht20
   refine gc (c_g_single l hl hli known hk r) ?_
   refine gE2 ?_
   unfold nextG; rw [hg,hg2]; rfl
end Go.Lw
namespace Go.Lw
open Go.Proofs
theorem c_r25_onlyO (d : Nat) (hd : Nat.blt d 1000 = true) (l : Li) (hl : l.bodies.length <= 1000) (b : Nat) (hb : b < l.bodies.length) :
  Con Tryz.prog 229 [l.av,i64 b] [] (.ms d 1 0 l.bodies.length) [(d,some (.row 1 ((onlyK l.bodies.length b).map bl)))] := by
 refine gF Tryz.func229 (fun k z h => by cases h) ?_
 refine gl ?_
 refine gs (s_make (.tmp rfl) T222 rfl T4 rfl rfl (by omega) (by dsimp only; omega) rfl) ?_
 refine gs (s_idxMs (.tmp rfl) (.tmp rfl) T222 rfl T4 rfl (by omega) (by omega) rfl) ?_
 refine gs (s_stElem (.tmp rfl) rfl (by rw [List.getElem?_replicate,if_pos (by simp; omega)]) rfl (.const _) rfl rfl T4 rfl rfl) ?_ (3,0)
 refine gW (Wk.of (sl := [(5,some (.ms 9 1 0 l.bodies.length))]) (hp := [(9,some (.row 1 ((onlyK l.bodies.length b).map bl)))]) (.cons rfl (Sub.of (by rw [Int.toNat_natCast])) .nil) (.cons rfl (BlkSub.of (by unfold onlyK; simp only [List.map_set,List.map_replicate,Nat.zero_add,Int.toNat_natCast]; rfl)) .nil)) ?_ (3,0)
 refine gW (Wk.rekey (k := 9) (d := 900) rfl rfl) ?_
 refine gR ?_
 exact Fin.own1 rfl hd rfl
theorem c_r25_only (l : Li) (hl : l.bodies.length <= 1000) (b : Nat) (hb : b < l.bodies.length) : FnC Tryz.prog 229 [l.av, i64 b] (.lst 1 ((onlyK l.bodies.length b).map bl)) := by
 have h := Con.freeze (by rw [List.length_map,len_only]; omega) (c_r25_onlyO 0 rfl l hl b hb)
 rw [List.drop_zero,List.take_of_length_le (by rw [List.length_map,len_only]; exact Nat.le_refl _)] at h
 exact h
theorem c_r25_driven (l : Li) (hl : l.ok) (b : Int) : FnC Tryz.prog 350 [l.av, i64 b] (bl (drivenB l b)) := by
 have hld := hl.ld
 refine gF0 Tryz.func350 ?_
 refine gl ?_
 refine gL1 [1,8,9] [] (fun (i : Nat) => [(10,some (i64 i))]) (fun _ => []) (fun i => i <= l.drivers.length /\ (l.drivers.take i).any (fun d => decide (d.body = b)) = false) (fun i => l.drivers.length - i) 0 ⟨Nat.zero_le _,rfl⟩ ?_
 rintro i ⟨hi,hj⟩ K1 hK1
 refine gC (fun ht11 => ?_) (fun ht11 => ?_)
 ·have hin := lss_t ht11
  obtain ⟨d,hd⟩ := getx hin
  refine gi (getmap hd) ?_
  refine gC (fun ht17 => ?_) (fun ht17 => ?_)
  ·have h1 : d.body = b := eql_t ht17
   refine gE1 ?_
   unfold drivenB; rw [List.any_eq_true.2 ⟨d,List.mem_of_getElem? hd,decide_eq_true h1⟩]; rfl
  ·have h1 : d.body ≠ b := eql_f ht17
   refine ga (i64_add1 (by unfold maxL; omega)) ?_
   exact gK1 hK1 (i + 1) ⟨hin,any_step hd hj (decide_eq_false h1)⟩
 ·have hin := lss_end hi ht11
  subst hin
  rw [List.take_length] at hj
  refine gE1 ?_
  unfold drivenB; rw [hj]; rfl
theorem c_r25_joint (l : Li) (hl : l.ok) (hli : liE l = 0) (kind body : Int) (oth : List Bool) (ho : oth.length = l.bodies.length) : FnC Tryz.prog 297 [l.av, i64 kind, i64 body, .lst 1 (oth.map bl)] (i64 (jointI l kind body oth)) := by
 have hlj := hl.lj
 refine gF0 Tryz.func297 ?_
 refine gl ?_
 refine gL1 [1,2,3,12,13] [] (fun (i : Nat) => [(14,some (i64 i))]) (fun _ => []) (fun i => i <= l.joints.length /\ ∀ j,j < i -> (!jHit kind body oth (l.joints.getD j default)) = true) (fun i => l.joints.length - i) 0 ⟨Nat.zero_le _,fun j h => by omega⟩ ?_
 rintro i ⟨hi,hj⟩ K1 hK1
 refine gC (fun ht15 => ?_) (fun ht15 => ?_)
 ·have hin := lss_t ht15
  obtain ⟨j,hjt⟩ := getx hin
  have hjd : l.joints.getD i default = j := getD_of hjt
  obtain ⟨i1,i2,_⟩ := jt_in hli hjt
  have b1 := inB_t i1
  have b2 := inB_t i2
  obtain ⟨va,hva⟩ : ∃ v,oth[j.a.toNat]? = some v := getx (by omega)
  obtain ⟨vb,hvb⟩ : ∃ v,oth[j.b.toNat]? = some v := getx (by omega)
  have ea : kn oth j.a = va := getD_of hva
  have eb : kn oth j.b = vb := getD_of hvb
  refine gi (getmap hjt) ?_
  refine giG (fun _ => (getzx (n := j.b.toNat) (by omega) hvb)) ?_
  refine giG (fun _ => (getzx (n := j.a.toNat) (by omega) hva)) ?_
  refine gC (fun ht48 => ?_) (fun ht48 => ?_)
  ·have h2 : jHit kind body oth j = true := by rw [<- jhit_cond (va := va) (vb := vb) ea eb]; exact ht48
   refine gE1 ?_
   unfold jointI; rw [firstB_at hin hj (by rw [hjd,h2]; rfl)]; rfl
  ·have h2 : jHit kind body oth j = false := by rw [<- jhit_cond (va := va) (vb := vb) ea eb]; exact ht48
   refine ga (i64_add1 (by unfold maxL; omega)) ?_
   exact gK1 hK1 (i + 1) ⟨hin,fun k h9 => by rcases Nat.lt_or_ge k i with g | g; exact hj k g; (have : k = i:=by omega); subst this; rw [hjd,h2]; rfl⟩
 ·have hin := lss_end hi ht15
  subst hin
  refine gE1 ?_
  unfold jointI; rw [firstB_all hj]; rfl
theorem c_r25_free (l : Li) (hl : l.ok) (known : List Bool) (b : Nat) (hb : b < known.length) : FnC Tryz.prog 298 [l.av, .lst 1 (known.map bl), i64 b] (bl (freeB l known b)) := by
 obtain ⟨v,hv⟩ := getx hb
 have ev : kn known (b : Int) = v := getD_of (by rw [Int.toNat_natCast]; exact hv)
 refine gF0 Tryz.func298 ?_
 refine gi (getmap hv) ?_
 refine gcG (fun _ => (c_r25_driven l hl b)) ?_
 refine gE1 ?_
 unfold freeB; rw [ev]; exact congrArg bl (and_cond _ _)
end Go.Lw
namespace Go.Lw
open Go.Proofs
theorem borJ {l : Li} {known : List Bool} (hl : l.ok) (hli : liE l = 0) (kind body : Int) (hk : known.length = l.bodies.length) :
  Con Tryz.prog 297 [l.av,i64 kind,i64 body,.ms 1000 1 0 known.length] [(1000,some (.row 1 (known.map bl)))] (i64 (jointI l kind body known)) [(1000,some (.row 1 (known.map bl)))] := by
 refine Con.borrow (args := [l.av,i64 kind,i64 body,.lst 1 (known.map bl)]) 1000 1 (known.map bl) rfl rfl rfl ?_ rfl (fun k' x h => by cases h) (c_r25_joint l hl hli kind body known hk)
 intro j x' hj
 match j,hj with
 | 0,hj => cases hj; exact .inl rfl
 | 1,hj => cases hj; exact .inl rfl
 | 2,hj => cases hj; exact .inl rfl
 | 3,hj => cases hj; exact .inr ⟨0,known.length,rfl,by simp,by rw [List.drop_zero,List.take_of_length_le (by simp)]; rfl⟩
theorem borF {l : Li} {known : List Bool} (hl : l.ok) (b : Nat) (hb : b < known.length) :
  Con Tryz.prog 298 [l.av,.ms 1000 1 0 known.length,i64 b] [(1000,some (.row 1 (known.map bl)))] (bl (freeB l known b)) [(1000,some (.row 1 (known.map bl)))] := by
 refine Con.borrow (args := [l.av,.lst 1 (known.map bl),i64 b]) 1000 1 (known.map bl) rfl rfl rfl ?_ rfl (fun k' x h => by cases h) (c_r25_free l hl known b hb)
 intro j x' hj
 match j,hj with
 | 0,hj => cases hj; exact .inl rfl
 | 1,hj => cases hj; exact .inr ⟨0,known.length,rfl,by simp,by rw [List.drop_zero,List.take_of_length_le (by simp)]; rfl⟩
 | 2,hj => cases hj; exact .inl rfl
theorem c_r25_driver (l : Li) (hl : l.ok) (hli : liE l = 0) (known : List Bool) (hk : known.length = l.bodies.length) : Con Tryz.prog 230 [l.av, .ms 1000 1 0 known.length] [(1000, some (.row 1 (known.map bl)))] (.tup [((driverG l known).getD default).av, bl (driverG l known).isSome]) [(1000, some (.row 1 (known.map bl)))] := by
 have hld := hl.ld
 refine gF Tryz.func230 (fun k z h => lk1000 h) ?_
 refine gl ?_
 refine gL1 [2,4,10,11] [2,4,1000] (fun (i : Nat) => [(1,some (.ms 1000 1 0 known.length)),(12,some (i64 i))]) (fun _ => []) (fun i => i <= l.drivers.length /\ ∀ j,j < i -> (!drHit l known j) = true) (fun i => l.drivers.length - i) 0 ⟨Nat.zero_le _,fun j h => by omega⟩ ?_
 rintro i ⟨hi,hj⟩ K1 hK1
 refine gC (fun ht13 => ?_) (fun ht13 => ?_)
 ·have hin := lss_t ht13
  obtain ⟨d,hd⟩ := getx hin
  have hdd : l.drivers.getD i default = d := getD_of hd
  have hb := inB_t (dr_in hli hd)
  obtain ⟨v,hv⟩ : ∃ v,known[d.body.toNat]? = some v := getx (by omega)
  have ev : kn known d.body = v := getD_of hv
  refine gi (getmap hd) ?_
  refine gs (s_idxMs (.tmp rfl) (.tmp rfl) T222 rfl T4 rfl (by omega) (by omega) rfl) ?_
  refine gs (s_loadEptr (.tmp rfl) rfl (by rw [Nat.zero_add,List.getElem?_map,hv]; rfl) T4 rfl rfl rfl) ?_
  refine gC (fun ht21 => ?_) (fun ht21 => ?_)
  ·have h2 : drHit l known i = false := by unfold drHit; rw [hdd, ev, ht21]; rfl
   refine ga (i64_add1 (by unfold maxL; omega)) ?_
   exact gK1 hK1 (i + 1) ⟨hin,fun k h9 => by rcases Nat.lt_or_ge k i with g | g; exact hj k g; (have : k = i:=by omega); subst this; rw [h2]; rfl⟩
  ·have hv0 : v = false := ht21
   refine gt (s_callR (borJ hl hli 0 d.body hk) (.cons (.tmp rfl) (.cons (.const _) (.cons (.tmp rfl) (.cons (.tmp rfl) .nil)))) rfl rfl rfl) ?_
   refine gC (fun ht28 => ?_) (fun ht28 => ?_)
   ·have h2 : drHit l known i = true := by unfold drHit; rw [hdd, ev, hv0, decide_eq_true (geq_t ht28)]; rfl
    have hg : driverG l known = some ⟨0,[d.body],[jointI l 0 d.body known],i⟩:=by unfold driverG; rw [firstB_at hin hj (by rw [h2]; rfl),<- hdd]; rfl
    refine gR ?_
    rw [hg]
    exact Fin.keep (keep1 rfl)
   ·have h2 : drHit l known i = false := by unfold drHit; rw [hdd, decide_eq_false (geq_f ht28), Bool.and_false]
    refine ga (i64_add1 (by unfold maxL; omega)) ?_
    exact gK1 hK1 (i + 1) ⟨hin,fun k h9 => by rcases Nat.lt_or_ge k i with g | g; exact hj k g; (have : k = i:=by omega); subst this; rw [h2]; rfl⟩
 ·have hin := lss_end hi ht13
  subst hin
  have hg : driverG l known = none:=by unfold driverG; rw [firstB_all hj]; rfl
  refine gR ?_
  exact Fin.sub (Fin.keep (keep1 rfl)) (by rw [hg]; exact Sub.tup (.cons sub_gr0 (.cons (.refl _) .nil)))
theorem c_r25_pair (l : Li) (hl : l.ok) (hli : liE l = 0) (known : List Bool) (hk : known.length = l.bodies.length) : Con Tryz.prog 231 [l.av, .ms 1000 1 0 known.length] [(1000, some (.row 1 (known.map bl)))] (.tup [((pairG l known).getD default).av, bl (pairG l known).isSome]) [(1000, some (.row 1 (known.map bl)))] := by
 have h8 := (li_parts hli).2.2.2.1
 refine gF Tryz.func231 (fun k z h => lk1000 h) ?_
 refine gl ?_
 refine gL1 [2,4,12,13] [2,4,1000] (fun (i : Nat) => [(1,some (.ms 1000 1 0 known.length)),(14,some (i64 i))]) (fun _ => []) (fun i => i <= l.bodies.length /\ ∀ j,j < i -> (prAt l known j).isNone = true) (fun i => l.bodies.length - i) 0 ⟨Nat.zero_le _,fun j h => by omega⟩ ?_
 rintro i ⟨hi,hj⟩ K1 hK1
 refine gC (fun ht15 => ?_) (fun ht15 => ?_)
 ·have hin := lss_t ht15
  refine ga (i64_add1 (by unfold maxL; omega)) ?_
  refine gL1 [2,4,6,12,13,14] [2,4,1000] (fun (k : Nat) => [(1,some (.ms 1000 1 0 known.length)),(7,some (i64 (i + 1 + k : Nat)))]) (fun _ => []) (fun k => i + 1 + k <= l.bodies.length /\ ∀ j,j < k -> (!prHit l known i (i + 1 + j)) = true) (fun k => l.bodies.length - k) 0 ⟨by omega,fun j h => by omega⟩ ?_
  rintro k ⟨hkl,hkj⟩ K2 hK2
  refine gl ?_
  refine gC (fun ht23 => ?_) (fun ht23 => ?_)
  ·have hkn : i + 1 + k < l.bodies.length := lss_t ht23
   refine gt (s_callR (borF hl i (by omega)) (.cons (.tmp rfl) (.cons (.tmp rfl) (.cons (.tmp rfl) .nil))) rfl rfl rfl) ?_
   refine gu (s_guard rfl rfl rfl (fun h => s_callR (borF hl (i + 1 + k) (by omega)) (.cons (.opt rfl (o1 h)) (.cons (.opt rfl (o1 h)) (.cons (.opt rfl (o1 h)) .nil))) rfl rfl rfl)) ?_
   refine gC (fun ht37 => ?_) (fun ht37 => ?_)
   ·have h2 : prHit l known i (i + 1 + k) = false := by unfold prHit; rw [show (freeB l known i && freeB l known ((i + 1 + k : Nat) : Int)) = false from by rcases or_t ht37 with g | g; (rw [g]; rfl); (rw [g, Bool.and_false])]; rfl
    refine ga (i64_add1 (by unfold maxL; omega)) ?_
    exact gK1 hK2 (k + 1) ⟨by omega,fun j h9 => by rcases Nat.lt_or_ge j k with g | g; exact hkj j g; (have : j = k:=by omega); subst this; rw [h2]; rfl⟩
   ·have hff := or_f ht37
    refine gt (s_callR (borJ hl hli 0 i hk) (.cons (.tmp rfl) (.cons (.const _) (.cons (.tmp rfl) (.cons (.tmp rfl) .nil)))) rfl rfl rfl) ?_
    refine gt (s_callR (borJ hl hli 0 (i + 1 + k : Nat) hk) (.cons (.tmp rfl) (.cons (.const _) (.cons (.tmp rfl) (.cons (.tmp rfl) .nil)))) rfl rfl rfl) ?_
    refine gc (c_r25_only l (by omega) (i + 1 + k) hkn) ?_
    refine gc (c_r25_joint l hl hli 0 i (onlyK l.bodies.length ((i + 1 + k : Nat) : Int)) (len_only _ _)) ?_
    refine gD ?_
    refine gC (fun ht61 => ?_) (fun ht61 => ?_)
    ·have h2 : prHit l known i (i + 1 + k) = true := by unfold prHit; rw [hff.1, hff.2]; exact (three_b.symm.trans ht61)
     have hat : prAt l known i = some (i + 1 + k):=by unfold prAt; rw [firstB_at (by omega) hkj (by rw [h2]; rfl),Option.map_some]; congr 1; omega
     have hg : pairG l known = some (prG l known i (i + 1 + k)):=by unfold pairG; rw [firstB_at hin hj (by rw [hat]; rfl),Option.map_some,hat]
     refine gR ?_
     rw [hg]
     exact Fin.keep (keep1 rfl)
    ·have h2 : prHit l known i (i + 1 + k) = false := by unfold prHit; rw [show (decide (0 <= jointI l 0 i known) && decide (0 <= jointI l 0 ((i + 1 + k : Nat) : Int) known) && decide (0 <= jointI l 0 i (onlyK l.bodies.length ((i + 1 + k : Nat) : Int)))) = false from three_b.symm.trans ht61, Bool.and_false]
     refine ga (i64_add1 (by unfold maxL; omega)) ?_
     exact gK1 hK2 (k + 1) ⟨by omega,fun j h9 => by rcases Nat.lt_or_ge j k with g | g; exact hkj j g; (have : j = k:=by omega); subst this; rw [h2]; rfl⟩
  ·have hkn : ¬ i + 1 + k < l.bodies.length := fun h => by have h1 := lss_f ht23; omega
   have hat : prAt l known i = none:=by unfold prAt; rw [show l.bodies.length - (i + 1) = k by omega,firstB_all hkj]; rfl
   refine ga (i64_add1 (by unfold maxL; omega)) ?_
   exact gK1 hK1 (i + 1) ⟨hin,fun j h9 => by rcases Nat.lt_or_ge j i with g | g; exact hj j g; (have : j = i:=by omega); subst this; rw [hat]; rfl⟩
 ·have hin := lss_end hi ht15
  have hg : pairG l known = none:=by unfold pairG; rw [<- hin,firstB_all hj]; rfl
  refine gR ?_
  exact Fin.sub (Fin.keep (keep1 rfl)) (by rw [hg]; exact Sub.tup (.cons sub_gr0 (.cons (.refl _) .nil)))
theorem c_r25_single (l : Li) (hl : l.ok) (hli : liE l = 0) (known : List Bool) (hk : known.length = l.bodies.length) : Con Tryz.prog 232 [l.av, .ms 1000 1 0 known.length] [(1000, some (.row 1 (known.map bl)))] (.tup [((singleG l known).getD default).av, bl (singleG l known).isSome]) [(1000, some (.row 1 (known.map bl)))] := by
 have h8 := (li_parts hli).2.2.2.1
 refine gF Tryz.func232 (fun k z h => lk1000 h) ?_
 refine gl ?_
 refine gL1 [2,4,11,12] [2,4,1000] (fun (i : Nat) => [(1,some (.ms 1000 1 0 known.length)),(13,some (i64 i))]) (fun _ => []) (fun i => i <= l.bodies.length /\ ∀ j,j < i -> (!sgHit l known j) = true) (fun i => l.bodies.length - i) 0 ⟨Nat.zero_le _,fun j h => by omega⟩ ?_
 rintro i ⟨hi,hj⟩ K1 hK1
 refine gC (fun ht14 => ?_) (fun ht14 => ?_)
 ·have hin := lss_t ht14
  refine gt (s_callR (borF hl i (by omega)) (.cons (.tmp rfl) (.cons (.tmp rfl) (.cons (.tmp rfl) .nil))) rfl rfl rfl) ?_
  refine gC (fun ht20 => ?_) (fun ht20 => ?_)
  ·have h2 : sgHit l known i = false := by unfold sgHit; rw [not_t ht20]; rfl
   refine ga (i64_add1 (by unfold maxL; omega)) ?_
   exact gK1 hK1 (i + 1) ⟨hin,fun k h9 => by rcases Nat.lt_or_ge k i with g | g; exact hj k g; (have : k = i:=by omega); subst this; rw [h2]; rfl⟩
  ·have hf := not_f ht20
   refine gt (s_callR (borJ hl hli 0 i hk) (.cons (.tmp rfl) (.cons (.const _) (.cons (.tmp rfl) (.cons (.tmp rfl) .nil)))) rfl rfl rfl) ?_
   refine gt (s_callR (borJ hl hli 1 i hk) (.cons (.tmp rfl) (.cons (.const _) (.cons (.tmp rfl) (.cons (.tmp rfl) .nil)))) rfl rfl rfl) ?_
   refine gD ?_
   refine gC (fun ht34 => ?_) (fun ht34 => ?_)
   ·have h2 : sgHit l known i = false := by unfold sgHit; rw [two_t ht34, Bool.and_false]
    refine ga (i64_add1 (by unfold maxL; omega)) ?_
    exact gK1 hK1 (i + 1) ⟨hin,fun k h9 => by rcases Nat.lt_or_ge k i with g | g; exact hj k g; (have : k = i:=by omega); subst this; rw [h2]; rfl⟩
   ·obtain ⟨p0, s0⟩ := two_f ht34
    have s1 := (jointI_lt (l := l) (kind := 1) (body := i) (oth := known)).2
    have h2 : sgHit l known i = true:=by unfold sgHit; rw [hf,decide_eq_true p0,decide_eq_true s0]; rfl
    obtain ⟨j,hjt⟩ : ∃ j,l.joints[(jointI l 1 i known).toNat]? = some j := getx (by omega)
    have hjd : l.joints.getD (jointI l 1 i known).toNat default = j := getD_of hjt
    have hg : singleG l known = some (sgG l known i):=by unfold singleG; rw [firstB_at hin hj (by rw [h2]; rfl),Option.map_some]
    refine gi (getzx (n := (jointI l 1 i known).toNat) (by omega) hjt) ?_
    refine gC (fun ht42 => ?_) (fun ht42 => ?_)
    ·have hji : j.a = i := eql_t ht42
     refine gR ?_
     rw [hg]; unfold sgG; rw [hjd]; simp only [Option.getD_some,if_pos hji]
     exact Fin.keep (keep1 rfl)
    ·have hji : j.a ≠ i := eql_f ht42
     refine gR ?_
     rw [hg]; unfold sgG; rw [hjd]; simp only [Option.getD_some,if_neg hji]
     exact Fin.keep (keep1 rfl)
 ·have hin := lss_end hi ht14
  have hg : singleG l known = none:=by unfold singleG; rw [<- hin,firstB_all hj]; rfl
  refine gR ?_
  exact Fin.sub (Fin.keep (keep1 rfl)) (by rw [hg]; exact Sub.tup (.cons sub_gr0 (.cons (.refl _) .nil)))
end Go.Lw
namespace Go.Lw
open Go.Proofs
theorem mark_step {k : List Bool} {bs : List Int} {q : Nat} {x : Int} (h : bs[q]? = some x) : markAll k (bs.drop q) = markAll (k.set x.toNat true) (bs.drop (q + 1)) := by
 have hi := (List.getElem?_eq_some_iff.1 h).1
 rw [List.drop_eq_getElem_cons hi,(List.getElem?_eq_some_iff.1 h).2]; rfl
theorem find_step {l : Li} {n : Nat} {known : List Bool} {out : List Gr} {g : Gr} (h : nextG l known = some g) : findFrom l (n + 1) known out = findFrom l n (markAll known g.bodies) (out ++ [g]) := by
 show (match nextG l known with | none => _ | some g => _) = _
 rw [h]
theorem find_stop {l : Li} {n : Nat} {known : List Bool} {out : List Gr} (h : nextG l known = none) : findFrom l n known out = (known, out) := by
 cases n with
 | zero => rfl
 | succ n => show (match nextG l known with | none => _ | some g => _) = _; rw [h]
theorem isNone_of {α : Type} {o : Option α} (h : o.isSome = false) : o = none:=by cases o <;> simp_all
theorem or_some {α : Type} {a b : Option α} (h : a.isSome = true) : a = a.or b:=by cases a <;> simp_all
theorem nextG_single {l : Li} {known : List Bool} (h : (driverG l known).or (pairG l known) = none) : nextG l known = singleG l known := by
 unfold nextG
 rw [<- Option.or_assoc,h]; rfl
theorem nextG_first {l : Li} {known : List Bool} (h : ((driverG l known).or (pairG l known)).isSome = true) : nextG l known = (driverG l known).or (pairG l known) := by
 unfold nextG
 rw [<- Option.or_assoc]; exact (or_some h).symm
theorem c_r25_Find (l : Li) (hl : l.ok) (hli : liE l = 0) : FnC Tryz.prog 165 [l.av] (.lst 4 ((findG l).map Gr.av)) := by
 have h8 := (li_parts hli).2.2.2.1
 have h0 := (li_parts hli).2.2.2.2
 refine gF0 Tryz.func165 ?_
 refine gt (s_callH (c_r25_onlyO 900 rfl l (by omega) 0 (by omega)) (.cons (.tmp rfl) (.cons (.const _) .nil)) (by first | exact hH0 | exact hH1 rfl | exact hH2 rfl rfl) rfl rfl) ?_
 refine gl ?_
 refine gW (Wk.virt 901 4 rfl) ?_
 refine gL3 [1,13] [1] (fun (i : Nat) (known : List Bool) (out : List Gr) => [(3,some (.ms 900 1 0 known.length)),(4,some (.ms 901 4 0 out.length)),(14,some (i64 i))]) (fun _ known out => [(900,some (.row 1 (known.map bl))),(901,some (.row 4 (out.map Gr.av)))]) (fun i known out => i <= l.bodies.length /\ known.length = l.bodies.length /\ out.length <= i /\ findFrom l (l.bodies.length - i) known out = findFrom l l.bodies.length (onlyK l.bodies.length 0) []) (fun i _ _ => l.bodies.length - i) 0 (onlyK l.bodies.length 0) ([]) ⟨Nat.zero_le _,len_only _ _,Nat.le_refl _,rfl⟩ ?_ (h1 := (.cons rfl (Sub.of (by rw [len_only])) (.k (.k .nil))))
 rintro i known out ⟨hi,hk,hol,hff⟩ K1 hK1
 refine gC (fun ht15 => ?_) (fun ht15 => ?_) (st2 := (18,0))
 ·have hin := lss_t ht15
  have hd1 := Con.rekey1 900 rfl rfl rfl (c_r25_driver l hl hli known hk)
  have hp1 := Con.rekey1 900 rfl rfl rfl (c_r25_pair l hl hli known hk)
  have hs1 := Con.rekey1 900 rfl rfl rfl (c_r25_single l hl hli known hk)
  refine gt (s_callH hd1 (.cons (.tmp rfl) (.cons (.tmp rfl) .nil)) (by first | exact hH0 | exact hH1 rfl | exact hH2 rfl rfl) rfl rfl) ?_
  refine gJ1 [1,5,13,14] [1,900,901] (fun (o : Option Gr) => [(3,some (.ms 900 1 0 known.length)),(4,some (.ms 901 4 0 out.length)),(6,some (bl o.isSome))]) (fun o => [(5,some (.box (o.getD default).av.cells))]) (fun o => o = (driverG l known).or (pairG l known)) ?_ ?_
  ·intro K2 hK2
   refine gC (fun ht23 => ?_) (fun ht23 => ?_)
   ·refine gt (s_callH hp1 (.cons (.tmp rfl) (.cons (.tmp rfl) .nil)) (by first | exact hH0 | exact hH1 rfl | exact hH2 rfl rfl) rfl rfl) ?_
    exact jK1 hK2 (pairG l known) (by rw [isNone_of (not_t ht23)]; rfl)
   ·exact jK1 hK2 (driverG l known) (or_some (not_f ht23))
  ·rintro o ho
   refine gJ1 [1,5,13,14] [1,900,901] (fun (og : Option Gr) => [(3,some (.ms 900 1 0 known.length)),(4,some (.ms 901 4 0 out.length)),(6,some (bl og.isSome))]) (fun og => [(5,some (.box (og.getD default).av.cells))]) (fun og => og = nextG l known) ?_ ?_
   ·intro K3 hK3
    refine gC (fun ht31 => ?_) (fun ht31 => ?_)
    ·refine gt (s_callH hs1 (.cons (.tmp rfl) (.cons (.tmp rfl) .nil)) (by first | exact hH0 | exact hH1 rfl | exact hH2 rfl rfl) rfl rfl) ?_
     exact jK1 hK3 (singleG l known) (by have := isNone_of (not_t ht31); rw [ho] at this; exact (nextG_single this).symm)
    ·exact jK1 hK3 o (by rw [ho]; exact (nextG_first (by rw [<- ho]; exact not_f ht31)).symm)
   ·rintro og hog
    refine gC (fun ht39 => ?_) (fun ht39 => ?_) (st1 := (18,0))
    ·have hn : nextG l known = none := by rw [<- hog]; exact isNone_of (not_t ht39)
     have hfin : findG l = out:=by unfold findG; rw [<- hff,find_stop hn]
     refine gW ((Wk.freeze (k := 901) rfl).trans <| Wk.of (sl := [(4,some (.lst 4 ((findG l).map Gr.av)))]) (hp := []) (.cons rfl (Sub.of (by rw [hfin,fz_all (by rw [List.length_map])])) .nil) .nil) ?_
     refine gE1 ?_
     rfl
    ·obtain ⟨g, hg⟩ : ∃ g, og = some g := Option.isSome_iff_exists.1 (not_f ht39)
     have hng : nextG l known = some g:=by rw [<- hog,hg]
     have hgo := nextG_ok hli hng
     subst hg
     refine gs (s_append (.tmp rfl) rfl (by rw [List.length_map]) (.tmp rfl) T137 rfl T166 rfl rfl (by dsimp only; simp only [List.length_cons,List.length_nil]; omega) rfl rfl) ?_ (12,0)
     refine gW (Wk.of (sl := [(1,some (.ptr 1 0)),(3,some (.ms 900 1 0 known.length)),(4,some (.ms 43 4 0 (out ++ [g]).length)),(5,some (.ptr 5 0)),(13,some (i64 l.bodies.length)),(14,some (i64 i))]) (hp := [(1,some (.box l.av.cells)),(5,some (.box g.av.cells)),(900,some (.row 1 (known.map bl))),(43,some (.row 4 ((out ++ [g]).map Gr.av)))]) (.k (.k (.cons rfl (Sub.of (by rw [List.length_append]; rfl)) (.k (.k (.k .nil)))))) (.cons rfl (.refl _) (.cons rfl (.refl _) (.cons rfl (.refl _) (.cons rfl (BlkSub.of (by rw [List.map_append]; rfl)) .nil))))) ?_ (12,0)
     refine gW (Wk.rekey (k := 43) (d := 901) rfl rfl) ?_
     refine gl ?_
     refine gL2 [1,13,14,45,46] [1,901] (fun (q : Nat) (kk : List Bool) => [(3,some (.ms 900 1 0 kk.length)),(4,some (.ms 901 4 0 (out ++ [g]).length)),(47,some (i64 q))]) (fun _ kk => [(900,some (.row 1 (kk.map bl)))]) (fun q kk => q <= g.bodies.length /\ kk.length = l.bodies.length /\ markAll kk (g.bodies.drop q) = markAll known g.bodies) (fun q _ => g.bodies.length - q) 0 known ⟨Nat.zero_le _,hk,rfl⟩ ?_
     rintro q kk ⟨hq,hkk,hmk⟩ K4 hK4
     refine gC (fun ht48 => ?_) (fun ht48 => ?_)
     ·have hqn := lss_t ht48
      obtain ⟨x,hx⟩ := getx hqn
      have hxb := hgo.b x (List.mem_of_getElem? hx)
      obtain ⟨v,hv⟩ : ∃ v,kk[x.toNat]? = some v := getx (by omega)
      refine gi (getmap hx) ?_
      refine gs (s_idxMs (.tmp rfl) (.tmp rfl) T222 rfl T4 rfl (by omega) (by omega) rfl) ?_
      refine gs (s_stElem (.tmp rfl) rfl (by rw [Nat.zero_add,List.getElem?_map,hv]; rfl) rfl (.const _) rfl rfl T4 rfl rfl) ?_
      refine ga (i64_add1 (by have := hgo.lb; unfold maxL; omega)) ?_
      exact gK2 hK4 (q + 1) (kk.set x.toNat true) ⟨hqn,by rw [List.length_set]; exact hkk,by rw [<- mark_step hx]; exact hmk⟩ (hw := Wk.of (.cons rfl (Sub.of (by rw [List.length_set])) (.k (.k (.k (.k (.k (.k (.k .nil)))))))) (.cons rfl (BlkSub.of (by rw [List.map_set,Nat.zero_add]; rfl)) (.cons rfl (.refl _) (.cons rfl (.refl _) .nil))))
     ·have hqn := lss_end hq ht48
      have hmk2 : kk = markAll known g.bodies:=by rw [hqn,List.drop_length] at hmk; exact hmk
      refine ga (i64_add1 (by unfold maxL; omega)) ?_
      exact gK3 hK1 (i + 1) kk (out ++ [g]) ⟨hin,hkk,by rw [List.length_append]; simp only [List.length_cons,List.length_nil]; omega,by rw [hmk2,<- find_step hng,<- hff]; congr 1; omega⟩
 ·have hin := lss_end hi ht15
  have hfin : findG l = out:=by unfold findG; rw [<- hff,show l.bodies.length - i = 0 by omega]; rfl
  refine gW ((Wk.freeze (k := 901) rfl).trans <| Wk.of (sl := [(4,some (.lst 4 ((findG l).map Gr.av)))]) (hp := []) (.cons rfl (Sub.of (by rw [hfin,fz_all (by rw [List.length_map])])) .nil) .nil) ?_
  refine gE1 ?_
  rfl
end Go.Lw
namespace Go.Lw
open Go.Proofs
theorem fold_step {α : Type} {f : List Bool -> α -> List Bool} {k : List Bool} {l : List α} {i : Nat} {x : α} (h : l[i]? = some x) : (l.drop i).foldl f k = (l.drop (i + 1)).foldl f (f k x) := by
 have hi := (List.getElem?_eq_some_iff.1 h).1
 rw [List.drop_eq_getElem_cons hi,(List.getElem?_eq_some_iff.1 h).2]; rfl
def unm (k : List Bool) (i : Nat) : List Int := ((List.range i).filter (fun j => !k.getD j false)).map (fun j : Nat => ((j : Nat) : Int))
theorem unm_hit {k : List Bool} {i : Nat} (h : k.getD i false = false) : unm k (i + 1) = unm k i ++ [(i : Int)] := by
 unfold unm
 rw [List.range_succ,List.filter_append,List.map_append,List.filter_cons,h]; rfl
theorem unm_miss {k : List Bool} {i : Nat} (h : k.getD i false = true) : unm k (i + 1) = unm k i := by
 unfold unm
 rw [List.range_succ,List.filter_append,List.map_append,List.filter_cons,h]; simp
theorem unm_len (k : List Bool) (i : Nat) : (unm k i).length <= i := by
 unfold unm
 rw [List.length_map]
 exact Nat.le_trans (List.length_filter_le _ _) (by simp)
theorem len_fold {α : Type} {f : α -> List Int} : ∀ (gs : List α) (k : List Bool), (gs.foldl (fun k g => markAll k (f g)) k).length = k.length
 | [],k => rfl
 | g :: gs,k => by rw [List.foldl_cons,len_fold gs,len_mark]
theorem len_unK (l : Li) : (unmarked (restK l)).length <= l.bodies.length := by
 have h := unm_len (restK l) (restK l).length
 have e : (restK l).length = l.bodies.length:=by unfold restK; rw [len_fold,len_only]
 rw [e] at h
 unfold unmarked; rw [e]; exact h
theorem len_unJ (l : Li) : (unmarked (restJ l)).length <= l.joints.length := by
 have h := unm_len (restJ l) (restJ l).length
 have e : (restJ l).length = l.joints.length:=by unfold restJ; rw [len_fold,List.length_replicate]
 rw [e] at h
 unfold unmarked; rw [e]; exact h
theorem c_r25_Rest (l : Li) (hl : l.ok) (hli : liE l = 0) : FnC Tryz.prog 164 [l.av] (.tup [.lst 1 ((unmarked (restK l)).map i64), .lst 1 ((unmarked (restJ l)).map i64)]) := by
 have h8 := (li_parts hli).2.2.2.1
 have h0 := (li_parts hli).2.2.2.2
 have hj16 : l.joints.length <= 16:=by have := (li_parts hli).2.1; unfold jtsE at this; split at this; cases this; omega
 obtain ⟨hgo,hgl⟩ := findG_ok hli
 refine gF0 Tryz.func164 ?_
 refine gt (s_callH (c_r25_onlyO 900 rfl l (by omega) 0 (by omega)) (.cons (.tmp rfl) (.cons (.const _) .nil)) (by first | exact hH0 | exact hH1 rfl | exact hH2 rfl rfl) rfl rfl) ?_
 refine gl ?_
 refine gs (s_make (.tmp rfl) T222 rfl T4 rfl rfl (by omega) (by dsimp only; omega) rfl) ?_
 refine gD ?_ (2,0)
 refine gW (Wk.of (sl := [(1,some (.ptr 1 0)),(2,some (.v (.slice none 0 0))),(3,some (.v (.slice none 0 0))),(4,some (.ms 900 1 0 (onlyK l.bodies.length 0).length)),(5,some (.ms 21 1 0 (List.replicate l.joints.length false).length))]) (hp := [(1,some (.box l.av.cells)),(900,some (.row 1 ((onlyK l.bodies.length 0).map bl))),(21,some (.row 1 ((List.replicate l.joints.length false).map bl)))]) (.k (.k (.k (.cons rfl (Sub.of (by rw [len_only])) (.cons rfl (Sub.of (by rw [List.length_replicate,Int.toNat_natCast])) .nil))))) (.cons rfl (.refl _) (.cons rfl (.refl _) (.cons rfl (BlkSub.of (by rw [List.map_replicate,Int.toNat_natCast]; rfl)) .nil)))) ?_ (2,0)
 refine gW (Wk.rekey (k := 21) (d := 901) rfl rfl) ?_
 refine gc (c_r25_Find l hl hli) ?_
 refine gl ?_
 refine gL3 [1,2,3,23,24] [1] (fun (i : Nat) (k1 k2 : List Bool) => [(4,some (.ms 900 1 0 k1.length)),(5,some (.ms 901 1 0 k2.length)),(25,some (i64 i))]) (fun _ k1 k2 => [(900,some (.row 1 (k1.map bl))),(901,some (.row 1 (k2.map bl)))]) (fun i k1 k2 => i <= (findG l).length /\ k1.length = l.bodies.length /\ k2.length = l.joints.length /\ ((findG l).drop i).foldl (fun k g => markAll k g.bodies) k1 = restK l /\ ((findG l).drop i).foldl (fun k g => markAll k g.joints) k2 = restJ l) (fun i _ _ => (findG l).length - i) 0 (onlyK l.bodies.length 0) (List.replicate l.joints.length false) ⟨Nat.zero_le _,len_only _ _,List.length_replicate,rfl,rfl⟩ ?_
 rintro i k1 k2 ⟨hi,hk1,hk2,hf1,hf2⟩ K1 hK1
 refine gC (fun ht26 => ?_) (fun ht26 => ?_)
 ·have hin := lss_t ht26
  obtain ⟨g,hg⟩ := getx hin
  have hgk := hgo g (List.mem_of_getElem? hg)
  have hlb := hgk.lb
  have hlj := hgk.lj
  refine gi (getmap hg) ?_
  refine gl ?_
  refine gL2 [1,2,3,7,23,24,25,30,31] [1,7,901] (fun (q : Nat) (kk : List Bool) => [(4,some (.ms 900 1 0 kk.length)),(5,some (.ms 901 1 0 k2.length)),(32,some (i64 q))]) (fun _ kk => [(900,some (.row 1 (kk.map bl)))]) (fun q kk => q <= g.bodies.length /\ kk.length = l.bodies.length /\ markAll kk (g.bodies.drop q) = markAll k1 g.bodies) (fun q _ => g.bodies.length - q) 0 k1 ⟨Nat.zero_le _,hk1,rfl⟩ ?_
  rintro q kk ⟨hq,hkk,hmk⟩ K2 hK2
  refine gC (fun ht33 => ?_) (fun ht33 => ?_)
  ·have hqn := lss_t ht33
   obtain ⟨x,hx⟩ := getx hqn
   have hxb := hgk.b x (List.mem_of_getElem? hx)
   obtain ⟨v,hv⟩ : ∃ v,kk[x.toNat]? = some v := getx (by omega)
   refine gi (getmap hx) ?_
   refine gs (s_idxMs (.tmp rfl) (.tmp rfl) T222 rfl T4 rfl (by omega) (by omega) rfl) ?_
   refine gs (s_stElem (.tmp rfl) rfl (by rw [Nat.zero_add,List.getElem?_map,hv]; rfl) rfl (.const _) rfl rfl T4 rfl rfl) ?_
   refine ga (i64_add1 (by unfold maxL; omega)) ?_
   exact gK2 hK2 (q + 1) (kk.set x.toNat true) ⟨hqn,by rw [List.length_set]; exact hkk,by rw [<- mark_step hx]; exact hmk⟩ (hw := Wk.of (.cons rfl (Sub.of (by rw [List.length_set])) (.k (.k (.k (.k (.k (.k (.k (.k (.k (.k (.k .nil)))))))))))) (.cons rfl (BlkSub.of (by rw [List.map_set,Nat.zero_add]; rfl)) (.cons rfl (.refl _) (.cons rfl (.refl _) (.cons rfl (.refl _) .nil)))))
  ·have hqn := lss_end hq ht33
   have hmk2 : kk = markAll k1 g.bodies:=by rw [hqn,List.drop_length] at hmk; exact hmk
   refine gl ?_
   refine gL2 [1,2,3,23,24,25,41,42] [1,900] (fun (p : Nat) (jj : List Bool) => [(4,some (.ms 900 1 0 kk.length)),(5,some (.ms 901 1 0 jj.length)),(43,some (i64 p))]) (fun _ jj => [(901,some (.row 1 (jj.map bl)))]) (fun p jj => p <= g.joints.length /\ jj.length = l.joints.length /\ markAll jj (g.joints.drop p) = markAll k2 g.joints) (fun p _ => g.joints.length - p) 0 k2 ⟨Nat.zero_le _,hk2,rfl⟩ ?_
   rintro p jj ⟨hp,hjj,hmj⟩ K3 hK3
   refine gC (fun ht44 => ?_) (fun ht44 => ?_)
   ·have hpn := lss_t ht44
    obtain ⟨x,hx⟩ := getx hpn
    have hxb := hgk.j x (List.mem_of_getElem? hx)
    obtain ⟨v,hv⟩ : ∃ v,jj[x.toNat]? = some v := getx (by omega)
    refine gi (getmap hx) ?_
    refine gs (s_idxMs (.tmp rfl) (.tmp rfl) T222 rfl T4 rfl (by omega) (by omega) rfl) ?_
    refine gs (s_stElem (.tmp rfl) rfl (by rw [Nat.zero_add,List.getElem?_map,hv]; rfl) rfl (.const _) rfl rfl T4 rfl rfl) ?_
    refine ga (i64_add1 (by unfold maxL; omega)) ?_
    exact gK2 hK3 (p + 1) (jj.set x.toNat true) ⟨hpn,by rw [List.length_set]; exact hjj,by rw [<- mark_step hx]; exact hmj⟩ (hw := Wk.of (.k (.cons rfl (Sub.of (by rw [List.length_set])) (.k (.k (.k (.k (.k (.k (.k (.k (.k .nil))))))))))) (.cons rfl (BlkSub.of (by rw [List.map_set,Nat.zero_add]; rfl)) (.cons rfl (.refl _) (.cons rfl (.refl _) .nil))))
   ·have hpn := lss_end hp ht44
    have hmj2 : jj = markAll k2 g.joints:=by rw [hpn,List.drop_length] at hmj; exact hmj
    refine ga (i64_add1 (by unfold maxL; omega)) ?_
    exact gK3 hK1 (i + 1) kk jj ⟨hin,hkk,hjj,by rw [hmk2,<- hf1,fold_step hg],by rw [hmj2,<- hf2,fold_step hg]⟩
 ·have hin := lss_end hi ht26
  have e1 : k1 = restK l:=by rw [hin,List.drop_length] at hf1; exact hf1
  have e2 : k2 = restJ l:=by rw [hin,List.drop_length] at hf2; exact hf2
  refine gW (Wk.virt 902 1 rfl) ?_
  refine gL1 [3,53] [900,901] (fun (i : Nat) => [(2,some (.ms 902 1 0 (unm k1 i).length)),(5,some (.ms 901 1 0 k2.length)),(52,some (.ms 900 1 0 k1.length)),(54,some (i64 i))]) (fun i => [(902,some (.row 1 ((unm k1 i).map i64)))]) (fun i => i <= k1.length) (fun i => k1.length - i) 0 (Nat.zero_le _) ?_
  rintro i ha K4 hK4
  refine gC (fun ht55 => ?_) (fun ht55 => ?_) (st2 := (22,0))
  ·have hin6 := lss_t ht55
   obtain ⟨v,hv⟩ := getx hin6
   have hvd : k1.getD i false = v := getD_of hv
   have hul := unm_len k1 i
   refine gs (s_idxMs (.tmp rfl) (.tmp rfl) T222 rfl T4 rfl (by omega) (by omega) rfl) ?_
   refine gs (s_loadEptr (.tmp rfl) rfl (by rw [Nat.zero_add,Int.toNat_natCast,List.getElem?_map,hv]; rfl) T4 rfl rfl rfl) ?_
   refine gC (fun ht60 => ?_) (fun ht60 => ?_)
   ·have hu := unm_hit (k := k1) (i := i) (by rw [hvd]; exact not_t ht60)
    refine gs (s_append (.tmp rfl) rfl (by rw [List.length_map]) (.tmp rfl) T26 rfl T3 rfl rfl (by dsimp only; simp only [List.length_cons,List.length_nil]; omega) rfl rfl) ?_ (21,0)
    refine gW (Wk.of (sl := [(2,some (.ms 64 1 0 (unm k1 (i + 1)).length)),(3,some (.v (.slice none 0 0))),(5,some (.ms 901 1 0 k2.length)),(52,some (.ms 900 1 0 k1.length)),(53,some (i64 k1.length)),(54,some (i64 i))]) (hp := [(900,some (.row 1 (k1.map bl))),(901,some (.row 1 (k2.map bl))),(64,some (.row 1 ((unm k1 (i + 1)).map i64)))]) (.cons rfl (Sub.of (by rw [hu,List.length_append]; rfl)) (.k (.k (.k (.k (.k .nil)))))) (.cons rfl (.refl _) (.cons rfl (.refl _) (.cons rfl (BlkSub.of (by rw [hu,List.map_append]; rfl)) .nil)))) ?_ (21,0)
    refine gW (Wk.rekey (k := 64) (d := 902) rfl rfl) ?_
    refine ga (i64_add1 (by unfold maxL; omega)) ?_
    exact gK1 hK4 (i + 1) hin6 (hw := Wk.of (.cons rfl (Sub.of (by first | rw [hu]; done | rfl)) (.k (.k (.k (.k (.k .nil)))))) (.cons rfl (BlkSub.of (by first | rw [hu]; done | rfl)) (.cons rfl (.refl _) (.cons rfl (.refl _) .nil))))
   ·have hu := unm_miss (k := k1) (i := i) (by rw [hvd]; exact not_f ht60)
    refine ga (i64_add1 (by unfold maxL; omega)) ?_
    exact gK1 hK4 (i + 1) hin6 (hw := Wk.of (.cons rfl (Sub.of (by first | rw [hu]; done | rfl)) (.k (.k (.k (.k (.k .nil)))))) (.cons rfl (BlkSub.of (by first | rw [hu]; done | rfl)) (.cons rfl (.refl _) (.cons rfl (.refl _) .nil))))
  ·have hin6 := lss_end ha ht55
   refine gW ((Wk.freeze (k := 902) rfl).trans <| Wk.of (sl := [(2,some (.lst 1 ((unmarked (restK l)).map i64))),(3,some (.v (.slice none 0 0))),(5,some (.ms 901 1 0 k2.length))]) (hp := [(901,some (.row 1 (k2.map bl)))]) (.cons rfl (Sub.of (by rw [fz_all (by rw [List.length_map]),hin6,e1]; rfl)) (.k (.k .nil))) (.cons rfl (.refl _) .nil)) ?_
   refine gW (Wk.virt 902 1 rfl) ?_
   refine gL1 [2,67] [901] (fun (i : Nat) => [(3,some (.ms 902 1 0 (unm k2 i).length)),(66,some (.ms 901 1 0 k2.length)),(68,some (i64 i))]) (fun i => [(902,some (.row 1 ((unm k2 i).map i64)))]) (fun i => i <= k2.length) (fun i => k2.length - i) 0 (Nat.zero_le _) ?_
   rintro i hb K5 hK5
   refine gC (fun ht69 => ?_) (fun ht69 => ?_) (st2 := (28,0))
   ·have hin8 := lss_t ht69
    obtain ⟨v,hv⟩ := getx hin8
    have hvd : k2.getD i false = v := getD_of hv
    have hul := unm_len k2 i
    refine gs (s_idxMs (.tmp rfl) (.tmp rfl) T222 rfl T4 rfl (by omega) (by omega) rfl) ?_
    refine gs (s_loadEptr (.tmp rfl) rfl (by rw [Nat.zero_add,Int.toNat_natCast,List.getElem?_map,hv]; rfl) T4 rfl rfl rfl) ?_
    refine gC (fun ht74 => ?_) (fun ht74 => ?_)
    ·have hu := unm_hit (k := k2) (i := i) (by rw [hvd]; exact not_t ht74)
     refine gs (s_append (.tmp rfl) rfl (by rw [List.length_map]) (.tmp rfl) T26 rfl T3 rfl rfl (by dsimp only; simp only [List.length_cons,List.length_nil]; omega) rfl rfl) ?_ (27,0)
     refine gW (Wk.of (sl := [(2,some (.lst 1 ((unmarked (restK l)).map i64))),(3,some (.ms 78 1 0 (unm k2 (i + 1)).length)),(66,some (.ms 901 1 0 k2.length)),(67,some (i64 k2.length)),(68,some (i64 i))]) (hp := [(901,some (.row 1 (k2.map bl))),(78,some (.row 1 ((unm k2 (i + 1)).map i64)))]) (.k (.cons rfl (Sub.of (by rw [hu,List.length_append]; rfl)) (.k (.k (.k .nil))))) (.cons rfl (.refl _) (.cons rfl (BlkSub.of (by rw [hu,List.map_append]; rfl)) .nil))) ?_ (27,0)
     refine gW (Wk.rekey (k := 78) (d := 902) rfl rfl) ?_
     refine ga (i64_add1 (by unfold maxL; omega)) ?_
     exact gK1 hK5 (i + 1) hin8 (hw := Wk.of (.cons rfl (Sub.of (by first | rw [hu]; done | rfl)) (.k (.k (.k (.k .nil))))) (.cons rfl (BlkSub.of (by first | rw [hu]; done | rfl)) (.cons rfl (.refl _) .nil)))
    ·have hu := unm_miss (k := k2) (i := i) (by rw [hvd]; exact not_f ht74)
     refine ga (i64_add1 (by unfold maxL; omega)) ?_
     exact gK1 hK5 (i + 1) hin8 (hw := Wk.of (.cons rfl (Sub.of (by first | rw [hu]; done | rfl)) (.k (.k (.k (.k .nil))))) (.cons rfl (BlkSub.of (by first | rw [hu]; done | rfl)) (.cons rfl (.refl _) .nil)))
   ·have hin8 := lss_end hb ht69
    refine gW ((Wk.freeze (k := 902) rfl).trans <| Wk.of (sl := [(2,some (.lst 1 ((unmarked (restK l)).map i64))),(3,some (.lst 1 ((unmarked (restJ l)).map i64)))]) (hp := []) (.k (.cons rfl (Sub.of (by rw [fz_all (by rw [List.length_map]),hin8,e2]; rfl)) .nil)) .nil) ?_
    refine gE2 ?_
    rfl
theorem c_r25_Split (l : Li) (hl : l.ok) (hli : liE l = 0) : FnC Tryz.prog 104 [l.av] (.tup [.lst 4 ((splitG l).map Gr.av), i64 (splitE l)]) := by
 have h8 := (li_parts hli).2.2.2.1
 have hj16 : l.joints.length <= 16:=by have := (li_parts hli).2.1; unfold jtsE at this; split at this; cases this; omega
 have u1 := len_unK l
 have u2 := len_unJ l
 refine gF0 Tryz.func104 ?_
 refine gc (c_r25_Rest l hl hli) ?_
 refine gl ?_
 refine gl ?_
 refine ga (i64_addI (by omega)) ?_
 refine gC (fun ht16 => ?_) (fun ht16 => ?_)
 ·have h1 : 0 < (unmarked (restK l)).length + (unmarked (restJ l)).length := gtr_t ht16
  have hE : splitE l = 7:=by unfold splitE; rw [if_neg (by omega)]
  refine gR ?_
  exact fin_sub (by unfold splitG; rw [if_neg (by rw [hE]; decide),hE]; exact Sub.tup (.cons (.nil _ _ _) (.cons (.refl _) .nil)))
 ·have h1 : (unmarked (restK l)).length + (unmarked (restJ l)).length <= 0 := gtr_f ht16
  have hE : splitE l = 0:=by unfold splitE; rw [if_pos (by omega)]
  refine gc (c_r25_Find l hl hli) ?_
  refine gE2 ?_
  unfold splitG; rw [if_pos hE,hE]; rfl
end Go.Lw
namespace Go.Lw
variable {P : Program} {N : Nat} {R : Array Oper} {s : AS}
theorem s_makeV {d : Nat} {x : Operand} {n : Nat} {z : Value} {T E t : TypeId} {ti te : TI} {pos : String} {after : Array Edge} (hx : Ev s x (.v (.int .i64 n)))
    (hT : tinfo P T = some ti) (hk : ti.k = .slice E) (hE : tinfo P E = some te) (hz : te.zero = [z]) (hz1 : z.oneCell' = true) (hs : Nat.beq te.size 1 = true) (hbb : Nat.blt 0 te.bytes = true)
    (hb : (n : Int) * te.bytes <= 281474976710656) (hN : Nat.blt d N = true) :
    Step P N R s ⟨some d, .makeSlice T x x, t, pos, after, none⟩
      ⟨some (.ms d 1 0 n),[(d,some (.vec (List.replicate n z)))],rtOf x,[]⟩ :=
  step_new rfl rfl hN (by simp) fun s' hag hfr C m a w hr => by
    have hxv := eval_v hr (hx.agree hag (fun _ h => h))
    have hs := Nat.eq_of_beq_eq_true hs
    rw [Nat.blt_eq] at hbb
    obtain ⟨d2,h3,h4,-,-⟩ := run_und hT w
    obtain rfl := tk_slice (h4.trans hk)
    obtain ⟨zv,h5,h6⟩ := run_zero hE w
    obtain ⟨ie,h7,h8,-⟩ := run_typeInfo hE w
    have h6' : zv.cells.toList = [z] := h6.trans hz
    have hzc : zv.cells = #[z]:=by rw [<- Array.toArray_toList (xs := zv.cells),h6']
    have hnb : (n : Int) <= 281474976710656 := by
      have : (n : Int) * 1 <= n * te.bytes := Int.mul_le_mul_of_nonneg_left (by omega) (by omega)
      omega
    have hw1 : IntKind.i64.wrap (n : Int) = n := IntWalk.i64_in n (by omega)
    obtain ⟨zero,hzero⟩ : ∃ zero : Array Value,zero = (if n * te.size = 0 then #[] else zv.cells) := ⟨_,rfl⟩
    refine ⟨.slice (some ⟨w.heap.size,0,none⟩) n n,(Array.range (n * te.size)).map (zero[· % zero.size]!),E,w.drawn,?_,?_,?_,?_⟩
    · have hmk : (Instr.makeSlice T (.int .i64 n) (.int .i64 n)).run P w =
          .ok (.slice (some ⟨w.heap.size,0,none⟩) n n) { w with heap := w.heap.push (.cells ((Array.range (n * te.size)).map (zero[· % zero.size]!)) E) } := by
        have hc : ¬ (((n : Int) < 0 \/ 281474976710656 < (ie.bytes : Int) * n) \/ (n : Int) < 0) := by
          rw [h8,Int.mul_comm]; omega
        simp only [Instr.makeSlice,Sem.run_bind,h3,Result.andThen_ok,asInt,asIntOf,Sem.run_pure,h7,hw1]
        rw [if_neg (by simpa using hc)]
        simp only [Sem.run_bind,run_askRoom,Result.andThen_ok,run_sizeOf hE,Int.toNat_natCast]
        by_cases h0 : n * te.size = 0
        · rw [if_pos h0] at hzero ⊢
          subst hzero
          simp only [Sem.run_bind,Sem.run_pure,Result.andThen_ok,newRow,run_newObj]
        · rw [if_neg h0] at hzero ⊢
          subst hzero
          simp only [Sem.run_bind,Sem.run_pure,Result.andThen_ok,h5,newRow,run_newObj]
      simp only [execOp,hxv,Sem.run_bind,hmk,Result.andThen_ok,Sem.run_pure]
    · exact fun h => h
    · intro g S m' w' hg hS hm hw
      refine .vec hw ?_ (fun v hv => by rw [List.eq_of_mem_replicate hv]; exact hz1)
      apply List.ext_getElem?
      intro j
      rw [Array.getElem?_toList,List.getElem?_replicate]
      by_cases hj : j < n
      · have hpos : ¬ n * te.size = 0 := by rw [hs]; omega
        rw [if_neg hpos,hzc] at hzero
        subst hzero
        rw [if_pos hj]
        simp only [Array.getElem?_map,Array.getElem?_range,show j < n * te.size by rw [hs]; omega,if_true,Option.map_some,Option.some.injEq]
        simp [Nat.mod_one]
      · rw [if_neg hj,Array.getElem?_eq_none (by simp [hs]; omega)]
    · intro g S m' hm hS
      have := Rep.ms (g := g) (S := S) (m := m') (k := d) (sz := 1) (off := 0) (len := n) (cap := n) hm (Nat.le_refl _) (by simpa [hs] using hS)
      simpa using this
theorem s_stVec {x y : Operand} {k i : Nat} {vs : List Value} {v : Value} {T t : TypeId} {ti : TI} {pos : String} {after : Array Edge}
  (hx : Ev s x (.eptr k 1 i 0)) (hk : s.blk k = some (.vec vs)) (hi : i < vs.length) (hy : Ev s y (.v v)) (hv : v.oneCell' = true) (hT : tinfo P T = some ti) (hsz : Nat.beq ti.size 1 = true) :
  Step P N R s ⟨none,.store T x y,t,pos,after,none⟩ ⟨none,[(k,some (.vec (vs.set i v)))],rtOf x ++ rtOf y,[k]⟩ :=
 step_store rfl rfl (by simp) hk fun s' hag C m a w hr => by
  have hsz := Nat.eq_of_beq_eq_true hsz
  obtain ⟨b,hm,hxv⟩ := eval_eptr hr (hx.agree hag (fun _ h => List.mem_append.2 (.inl h)))
  have hyv := eval_v hr (hy.agree hag (fun _ h => List.mem_append.2 (.inr h)))
  have hb := hr.heap.blk k _ ((hag.2 k (by simp)).trans hk)
  rw [hm] at hb
  cases hb with
  | @vec _ _ c t2 hw hc h1 =>
   have hcs : c.size = vs.length:=by rw [<- hc]; simp
   have hvc : v.cells = #[v]:=by cases v <;> simp_all [Value.cells,Value.oneCell']
   refine ⟨b,c,(over c.toList i v.cells.toList).toArray,t2,hm,hw,?_,?_,?_⟩
   ·simp [over,hvc]; omega
   ·have hrun := run_storeVar (P := P) (off := i) (v := v) hT hw (by rw [hvc, hsz]; rfl) (by omega) (by rw [hvc]; simpa using hv)
    simp [execOp,Instr.storeAt,hxv,Instr.sureAddr,hyv,hrun]
   ·intro g S w' hg hS hw'
    refine .vec hw' ?_ (fun u hu => ?_)
    ·rw [hc, hvc]
     unfold over
     rw [List.set_eq_take_append_cons_drop,if_pos hi]
     simp
    ·rcases List.mem_or_eq_of_mem_set hu with h9 | h9
     ·exact h1 u h9
     ·rw [h9]; exact hv
inductive Lent (H : Hp) (hid : List Nat) : AV -> AV -> Prop
  | same {x : AV} (h : x.nm = []) : Lent H hid x x
  | ms {k off len : Nat} {vs : List Value} (hk : lk H k = some (.vec vs)) (hh : k ∉ hid) (hl : off + len <= vs.length) (hm : vs.length <= maxL) : Lent H hid (.ms k 1 off len) (.lst 1 (((vs.drop off).take len).map .v))
theorem rep_v {g : Nat -> Array Value -> Prop} {S : Nat -> Nat -> Prop} {m : Nat -> Option Nat} {u y : Value} (h : Rep g S m u (.v y)) : u = y:=by cases h; rfl
theorem own_nil {m : Nat -> Option Nat} {b : Nat} : ¬ Own [] m b:=by rintro ⟨k,x,h,_⟩; cases h
def hidE (ext : Nat -> Prop) (H : Hp) (hid : List Nat) (m : Nat -> Option Nat) (b : Nat) : Prop := ext b \/ ∃ k z,k ∈ hid /\ lk H k = some z /\ m k = some b
theorem im_lent {ext : Nat -> Prop} {H : Hp} {hid : List Nat} {m m2 : Nat -> Option Nat} {w : World} {b : Nat} {cs : Array Value} (h : Im ext H m w b cs) : Im (hidE ext H hid m) [] m2 w b cs :=
 ⟨fun h' => h'.elim h.1 (fun ⟨k,z,_,hz,hb⟩ => h.2.1 ⟨k,z,hz,hb⟩),own_nil,h.2.2⟩
theorem not_hid {ext : Nat -> Prop} {H : Hp} {hid : List Nat} {m : Nat -> Option Nat} {w : World} (hh : HeapRel ext H m w) {k b : Nat} {z : Blk} (hk : lk H k = some z) (hb : m k = some b) (hn : k ∉ hid) : ¬ hidE ext H hid m b := by
 rintro (h | ⟨k',z',h1,h2,h3⟩)
 ·exact (hh.sep k z b hk hb).1 h
 ·have := hh.inj k k' z z' b hk h2 hb h3
  subst this; exact hn h1
theorem Lent.rep {ext : Nat -> Prop} {H : Hp} {hid : List Nat} {m : Nat -> Option Nat} {w : World} (hh : HeapRel ext H m w) {x x' : AV} (h : Lent H hid x x') :
  ∀ {v : Value},Rep (Im ext H m w) (Sz w) m v x -> ∀ m2 : Nat -> Option Nat,Rep (Im (hidE ext H hid m) [] m w) (Sz w) m2 v x' := by
 cases h with
 | same hn => intro v hv m2; exact (rep_names hn hv).mono (fun _ _ h => im_lent h) (fun _ _ h => h) (fun _ _ _ h => h)
 | @ms k off len vs hk hnh hl hm =>
  intro v hr m2
  have hb := hh.blk k _ hk
  cases hr with
  | ms0 a => simp only [List.take_zero]; exact .lst0 _ _ _
  | @ms _ _ _ _ _ cap b hmk hc hS =>
   rw [hmk] at hb
   cases hb with
   | @vec _ _ c t hw hcv h1 =>
    have hcs : c.size = vs.length:=by rw [<- hcv]; simp
    have hlen : (((vs.drop off).take len).map AV.v).length = len:=by rw [List.length_map,List.length_take,List.length_drop]; omega
    have he' : ∀ (i : Nat) (e : AV), (((vs.drop off).take len).map AV.v)[i]? = some e -> ∃ u, e = .v u /\ c[off + i]? = some u /\ u ∈ vs := by
     intro i e he
     rw [List.getElem?_map,Option.map_eq_some_iff] at he
     obtain ⟨u,he,rfl⟩ := he
     rw [List.getElem?_take] at he
     split at he
     ·rw [List.getElem?_drop] at he
      exact ⟨u,rfl,by rw [<- Array.getElem?_toList,hcv]; exact he,List.mem_of_getElem? he⟩
     ·cases he
    have := Rep.lst (g := Im (hidE ext H hid m) [] m w) (S := Sz w) (m := m2) (b := b) (off := off) (cap := cap) (sz := 1) (es := ((vs.drop off).take len).map AV.v) (cs := c) (fun i j => c.getD (off + i) undef)
     ⟨not_hid hh hk hmk hnh,own_nil,t,(0,0),hw⟩ (by omega) (by omega) ?_ ?_ ?_ ?_
    ·rw [hlen] at this; simpa using this
    ·intro i e he
     obtain ⟨u,rfl,_⟩ := he' i e he; rfl
    ·intro i j e x he hx
     obtain ⟨u,rfl,_,hm⟩ := he' i e he
     cases j with
     | zero => cases hx; exact h1 u hm
     | succ j => cases hx
    ·intro i j e x he hx
     obtain ⟨u,rfl,hu,_⟩ := he' i e he
     cases j with
     | zero => rw [Nat.mul_one,Nat.add_zero,Array.getD_eq_getD_getElem?,hu]; rfl
     | succ j => cases hx
    ·intro i j e x he hx
     obtain ⟨u,rfl,hu,_⟩ := he' i e he
     cases j with
     | zero => cases hx; rw [Array.getD_eq_getD_getElem?,hu]; exact .v _
     | succ j => cases hx
def isInt : AV -> Bool
  | .v (.int _ _) => true
  | _ => false
def noInt : AV -> Bool
  | .v (.int _ _) => false
  | .v _ => true
  | .lst _ _ => true
  | .ms _ _ _ _ => true
  | _ => false
mutual
def AV.li : AV -> Bool
  | .v _ => true
  | .agg cs => AV.lis cs
  | .tup cs => AV.lis cs
  | .lst sz es => Nat.beq sz 1 && es.all isInt
  | _ => false
def AV.lis : List AV -> Bool
  | [] => true
  | x :: l => x.li && AV.lis l
end
theorem AV.lis_mem : ∀ {l : List AV} {c : AV}, AV.lis l = true -> c ∈ l -> c.li = true
 | x :: l, c, h, hc => by
  simp only [AV.lis,Bool.and_eq_true] at h
  rcases List.mem_cons.1 hc with rfl | hc
  ·exact h.1
  ·exact AV.lis_mem h.2 hc
theorem rep_noInt {g : Nat -> Array Value -> Prop} {S : Nat -> Nat -> Prop} {m : Nat -> Option Nat} {u : Value} {x : AV} (hx : noInt x = true) (h : Rep g S m u x) (kk : IntKind) (z : Int) : u ≠ .int kk z := by
 rintro rfl
 cases h <;> cases hx
theorem rep_li {g g' : Nat -> Array Value -> Prop} {S S' : Nat -> Nat -> Prop} {m m' : Nat -> Option Nat} {v : Value} {x : AV} (hx : x.li = true)
  (hg : ∀ b cs (o : Nat) (kk : IntKind) (z : Int),cs[o]? = some (.int kk z) -> g b cs -> g' b cs) (h : Rep g S m v x) : Rep g' S' m' v x := by
 induction h with
 | v => exact .v _
 | agg hn h1 hr ih => exact .agg hn h1 (fun j u c hu hc => ih j u c hu hc (AV.lis_mem hx (List.mem_of_getElem? hc)))
 | tup hn hr ih => exact .tup hn (fun j u c hu hc => ih j u c hu hc (AV.lis_mem hx (List.mem_of_getElem? hc)))
 | lst0 a cap sz => exact .lst0 _ _ _
 | @lst _ b off cap sz es cs u hb hc hl hs h1 hu hr _ =>
  simp only [AV.li,Bool.and_eq_true] at hx
  have hsz := Nat.eq_of_beq_eq_true hx.1
  subst hsz
  match es,hx,hc,hl,hs,h1,hu,hr with
  | [],_,_,_,_,_,_,_ => exact .lst0 _ _ _
  | e :: es, hx, hc, hl, hs, h1, hu, hr =>
   have hcell : ∀ (i j : Nat) (e' c : AV), (e :: es)[i]? = some e' -> e'.cells[j]? = some c -> ∃ kk z, c = .v (.int kk z) := by
    intro i j e' c he hc'
    have h9 := List.all_eq_true.1 hx.2 e' (List.mem_of_getElem? he)
    cases e' with
    | v y => cases y with
     | int kk z =>
      cases j with
      | zero => cases hc'; exact ⟨_,_,rfl⟩
      | succ j => cases hc'
     | _ => cases h9
    | _ => cases h9
   have he0 : ∃ kk z, e = .v (.int kk z) := by
    have h9 := List.all_eq_true.1 hx.2 e (by simp)
    cases e with
    | v y => cases y with
     | int kk z => exact ⟨_,_,rfl⟩
     | _ => cases h9
    | _ => cases h9
   obtain ⟨kk,z,rfl⟩ := he0
   have h8 := hu 0 0 _ _ rfl rfl
   have h7 := hr 0 0 _ _ rfl rfl
   have h6 : u 0 0 = .int kk z := rep_v h7
   rw [h6] at h8
   refine .lst u (hg b cs _ kk z h8 hb) hc hl hs h1 hu (fun i j e' c he hc' => ?_)
   obtain ⟨k2,z2,rfl⟩ := hcell i j e' c he hc'
   rw [rep_v (hr i j _ _ he hc')]; exact .v _
 | _ => cases hx
theorem Con.lend {f : FuncId} {k : Nat} {cs : List AV} {cs' : Value -> List AV} {H : Hp} {r : AV} (hid : List Nat) (j0 : Nat) (hk : lk H k = some (.box cs)) (hkh : k ∉ hid)
  (hc : ∀ v : Value, v.oneCell' = true -> (cs' v).length = cs.length /\ (∀ (j : Nat) (x : AV), (cs' v)[j]? = some x -> x.one = true) /\
   ∀ (j : Nat) (x x' : AV),cs[j]? = some x -> (cs' v)[j]? = some x' -> (j = j0 /\ x' = .v v) \/ Lent H hid x x')
  (hj : j0 < cs.length)
  (hH : ∀ k z,lk H k = some z -> k ∈ hid \/ (∃ cs,z = .box cs /\ cs.all noInt = true) \/ ∃ vs,z = .vec vs /\ ∀ v ∈ vs,∀ kk z,v ≠ .int kk z) (hr : r.li = true) (h : ∀ v : Value,FnC P f [.iptr (cs' v)] r) : Con P f [.ptr k 0] H r H := by
 refine ⟨(h undef).ok,?_⟩
 intro ext m w vs hext hheap hvs hrep
 have hsz : 0 < vs.size:=by rw [hvs]; exact Nat.one_pos
 have hr0 := hrep 0 vs[0] _ (Array.getElem?_eq_getElem hsz) rfl
 have hb := hheap.blk k _ hk
 generalize hv0 : vs[0] = v0 at hr0
 cases hr0 with
 | @ptr _ _ _ b hmk =>
  rw [hmk] at hb
  cases hb with
  | @box _ _ c t hw hn h1 hrr =>
   have hj0 : j0 < c.size:=by omega
   have hx0 := List.getElem?_eq_getElem (l := cs) (i := j0) (by omega)
   have hone : (c[j0]).oneCell' = true := (hrr j0 _ _ (Array.getElem?_eq_getElem hj0) hx0).one (h1 j0 _ hx0)
   obtain ⟨g1,g2,g3⟩ := hc c[j0] hone
   have hext' : ∀ b, hidE ext H hid m b -> b < w.heap.size := by
    rintro b (h9 | ⟨k',z',_,h2,h3⟩)
    ·exact hext b h9
    ·exact (hheap.sep k' z' b h2 h3).2
   have hcall := (h c[j0]).ret (hidE ext H hid m) m w vs hext' ⟨fun k z hz => by (cases hz), fun k k' x x' b hx => by (cases hx), fun k x b hx => by (cases hx)⟩ (by rw [hvs]; rfl) (by
    intro j v x hv hx
    match j,hx with
    | 0, hx =>
     cases hx
     rw [Array.getElem?_eq_getElem hsz,hv0] at hv
     cases hv
     refine .iptr (cs := c) (fun j => c.getD j undef) ⟨not_hid hheap hk hmk hkh,own_nil,t,(0,0),hw⟩ g2 ?_ ?_
     ·intro j x hx
      have hlt : j < c.size:=by rw [hn,<- g1]; exact (List.getElem?_eq_some_iff.1 hx).1
      rw [Nat.zero_add,Array.getD_eq_getD_getElem?,Array.getElem?_eq_getElem hlt]; rfl
     ·intro j x hx
      have hlt : j < c.size:=by rw [hn,<- g1]; exact (List.getElem?_eq_some_iff.1 hx).1
      obtain ⟨y,hy⟩ := get_of_length g1 hx
      have hcv : c[j]? = some (c.getD j undef):=by rw [Array.getD_eq_getD_getElem?,Array.getElem?_eq_getElem hlt]; rfl
      rcases g3 j y x hy hx with ⟨rfl,rfl⟩ | hl
      ·have : c.getD j undef = c[j] := by rw [Array.getElem?_eq_getElem hlt] at hcv; exact (Option.some.inj hcv).symm
       rw [this]; exact .v _
      ·exact hl.rep hheap (hrr j _ y hcv hy) noKeys)
   refine Calls.mono hcall ?_
   rintro e w' ⟨v,m',rfl,hf,hh,hnew,hkeep,hres⟩
   have hkeepB : ∀ b,b < w.heap.size -> w'.heap[b]? = w.heap[b]? := fun b hb => hf.keep b hb own_nil
   have hframe : Frame (Own H m) w w' := ⟨hf.os,hf.tape,hf.output,hf.size,hf.sz,fun b hb _ => hkeepB b hb⟩
   have him := im_mono (ext := ext) hframe (hp' := H) (m' := m) (fun k x b hk hb => .inl ⟨k,x,hk,hb⟩)
   refine ⟨v,m,rfl,hframe,⟨?_,hheap.inj,?_⟩,fun k x b hk hb => .inl ⟨k,x,hk,hb⟩,fun _ _ _ _ _ => rfl,?_⟩
   ·intro k z hz
    exact BlkRep.mono (w := w) him hf.sz (fun _ _ _ h => h) rfl (fun b hb => hkeepB b (hheap.sep k z b hz hb).2) (hheap.blk k z hz)
   ·intro k z b hz hb
    have := hheap.sep k z b hz hb
    exact ⟨this.1,Nat.lt_of_lt_of_le this.2 hf.size⟩
   ·refine rep_li hr ?_ hres
    rintro b2 cs2 o kk z ho ⟨g1,g2,t2,fl,g3⟩
    refine ⟨fun h9 => g1 (.inl h9),?_,t2,fl,g3⟩
    rintro ⟨k2,y,hk2,hb2⟩
    have hlt := fun b hb => (hheap.sep k2 _ b hk2 hb).2
    have h3 := hheap.blk k2 _ hk2
    rw [hb2] at h3
    rcases hH k2 y hk2 with h9 | ⟨cl,rfl,hcl⟩ | ⟨vs2,rfl,hvl⟩
    ·exact g1 (.inr ⟨k2,y,h9,hk2,hb2⟩)
    ·cases h3 with
     | @box _ _ c2 t' hw2 hn2 h12 hrr2 =>
      have hcc : c2 = cs2 := by
       rw [hkeepB b2 (hlt b2 hb2),hw2] at g3
       injection g3 with g3
       injection g3
      subst hcc
      have ho' : o < c2.size := (Array.getElem?_eq_some_iff.1 ho).1
      have hx := List.getElem?_eq_getElem (l := cl) (i := o) (by omega)
      exact rep_noInt (List.all_eq_true.1 hcl _ (List.mem_of_getElem? hx)) (hrr2 o _ _ ho hx) kk z rfl
    ·cases h3 with
     | @vec _ _ c2 t' hw2 hc2 h12 =>
      have hcc : c2 = cs2 := by
       rw [hkeepB b2 (hlt b2 hb2),hw2] at g3
       injection g3 with g3
       injection g3
      subst hcc
      have : Value.int kk z ∈ vs2:=by rw [<- hc2]; exact Array.mem_toList_iff.2 (Array.mem_of_getElem? ho)
      exact hvl _ this kk z rfl
end Go.Lw
namespace Go.Lw
open Go.Proofs
def bv (xs : List Bool) : List Value := xs.map .bool
theorem len_bv (xs : List Bool) : (bv xs).length = xs.length := List.length_map _
theorem bv_set (xs : List Bool) (n : Nat) : (bv xs).set n (.bool true) = bv (xs.set n true):=by unfold bv; rw [List.map_set]
theorem bv_no (xs : List Bool) : ∀ v ∈ bv xs, ∀ kk z, v ≠ .int kk z := by
 intro v hv kk z
 obtain ⟨b,_,rfl⟩ := List.mem_map.1 hv
 exact fun h => by cases h
theorem bv_av (xs : List Bool) : (bv xs).map AV.v = xs.map bl:=by unfold bv; rw [List.map_map]; rfl
theorem bv_rep (n : Nat) : List.replicate n (Value.bool false) = bv (List.replicate n false):=by unfold bv; rw [List.map_replicate]
theorem ints_li (xs : List Int) : (xs.map i64).all isInt = true := by
 rw [List.all_eq_true]
 intro x hx
 obtain ⟨b,_,rfl⟩ := List.mem_map.1 hx
 rfl
theorem gr_li (g : Gr) (b : Bool) : (AV.tup [g.av, bl b]).li = true := by
 simp only [AV.li,AV.lis,Gr.av,ints_li]
 rfl
def fdB (l : Li) (n : Nat) : Blk := .box (l.av.cells ++ [.ms 23 1 0 l.bodies.length,.ms 27 1 0 l.bodies.length,.ms 31 1 0 l.joints.length,.ms 900 4 0 n])
def fdH (l : Li) (known used : List Bool) (out : List Gr) : Hp :=
  [(33,some (fdB l out.length)),(23,some (.vec (bv known))),(27,some (.vec (bv (drivenL l)))),(31,some (.vec (bv used))),(900,some (.row 4 (out.map Gr.av)))]
theorem sl_all {xs : List Bool} {n : Nat} (h : xs.length = n) : AV.lst 1 ((((bv xs).drop 0).take n).map .v) = .lst 1 (xs.map bl) := by
 rw [List.drop_zero,List.take_of_length_le (by rw [len_bv]; omega),bv_av]
theorem c_find_next (l : Li) (hl : l.ok) (hli : liE l = 0) (known used : List Bool) (hk : known.length = l.bodies.length) (hu : used.length = l.joints.length) (hm : l.bodies.length <= maxL /\ l.joints.length <= maxL) (out : List Gr) :
  Con Tryz.prog 207 [.ptr 33 0] (fdH l known used out) (.tup [((nextG l known).getD default).av,bl (nextG l known).isSome]) (fdH l known used out) := by
 refine Con.lend (cs := l.av.cells ++ [.ms 23 1 0 l.bodies.length, .ms 27 1 0 l.bodies.length, .ms 31 1 0 l.joints.length, .ms 900 4 0 out.length])
  (cs' := fun v => fdC l known (drivenL l) [.lst 1 (used.map bl),.v v]) [900] 7 rfl (by decide) ?_ (by simp [Li.av,AV.cells]) ?_ (gr_li _ _) (fun v => c_g_next l hl hli known hk _)
 ·intro v hv
  refine ⟨rfl,?_,?_⟩
  ·intro j x hx
   match j,hx with
   | 0,hx => cases hx; rfl
   | 1,hx => cases hx; rfl
   | 2,hx => cases hx; rfl
   | 3,hx => cases hx; rfl
   | 4,hx => cases hx; rfl
   | 5,hx => cases hx; rfl
   | 6,hx => cases hx; rfl
   | 7,hx => cases hx; exact hv
   | j + 8,hx => cases hx
  ·intro j x x' hx hx'
   match j,hx,hx' with
   | 0,hx,hx' => cases hx; cases hx'; exact .inr (.same rfl)
   | 1,hx,hx' => cases hx; cases hx'; exact .inr (.same rfl)
   | 2,hx,hx' => cases hx; cases hx'; exact .inr (.same rfl)
   | 3,hx,hx' => cases hx; cases hx'; exact .inr (.same rfl)
   | 4, hx, hx' =>
    cases hx; cases hx'
    have h := Lent.ms (H := fdH l known used out) (hid := [900]) (k := 23) (off := 0) (len := l.bodies.length) (vs := bv known) rfl (by decide) (by rw [len_bv]; omega) (by rw [len_bv]; omega)
    rw [sl_all hk] at h
    exact .inr h
   | 5, hx, hx' =>
    cases hx; cases hx'
    have h := Lent.ms (H := fdH l known used out) (hid := [900]) (k := 27) (off := 0) (len := l.bodies.length) (vs := bv (drivenL l)) rfl (by decide) (by rw [len_bv,len_driven]; omega) (by rw [len_bv,len_driven]; omega)
    rw [sl_all (len_driven l)] at h
    exact .inr h
   | 6, hx, hx' =>
    cases hx; cases hx'
    have h := Lent.ms (H := fdH l known used out) (hid := [900]) (k := 31) (off := 0) (len := l.joints.length) (vs := bv used) rfl (by decide) (by rw [len_bv]; omega) (by rw [len_bv]; omega)
    rw [sl_all hu] at h
    exact .inr h
   | 7,hx,hx' => cases hx; cases hx'; exact .inl ⟨rfl,rfl⟩
   | j + 8,hx,hx' => cases hx
 ·intro k z hz
  simp only [fdH,lk_cons] at hz
  split at hz
  ·cases hz; exact .inr (.inl ⟨_,rfl,rfl⟩)
  split at hz
  ·cases hz; exact .inr (.inr ⟨_,rfl,bv_no _⟩)
  split at hz
  ·cases hz; exact .inr (.inr ⟨_,rfl,bv_no _⟩)
  split at hz
  ·cases hz; exact .inr (.inr ⟨_,rfl,bv_no _⟩)
  split at hz
  ·subst_vars; exact .inl (by decide)
  ·cases hz
def fdR (l : Li) : AV := if liE l = 0 then .iptr (fdC l (restK l) (drivenL l) [.lst 1 ((restJ l).map bl),.lst 4 ((findG l).map Gr.av)]) else .v (.pointer none)
def usedL (l : Li) (out : List Gr) : List Bool := out.foldl (fun k g => markAll k g.joints) (List.replicate l.joints.length false)
theorem len_used (l : Li) (out : List Gr) : (usedL l out).length = l.joints.length:=by unfold usedL; rw [len_fold,List.length_replicate]
theorem used_app (l : Li) (out : List Gr) (g : Gr) : usedL l (out ++ [g]) = markAll (usedL l out) g.joints:=by unfold usedL; rw [List.foldl_append]; rfl
theorem mark_take {k : List Bool} {bs : List Int} {i : Nat} {b : Int} (h : bs[i]? = some b) : markAll k (bs.take (i + 1)) = (markAll k (bs.take i)).set b.toNat true := by
 unfold markAll
 rw [take_succ_get h,List.foldl_append]; rfl
theorem find_more {l : Li} (hli : liE l = 0) {known : List Bool} {out : List Gr} {g : Gr} (hk : known.length = l.bodies.length) (h : findFrom l (unk known) known out = (restK l, findG l)) (hg : nextG l known = some g) :
  findFrom l (unk (markAll known g.bodies)) (markAll known g.bodies) (out ++ [g]) = (restK l,findG l) := by
 have hlt := nextG_less hli hk hg
 obtain ⟨n,hn⟩ : ∃ n,unk known = n + 1 := ⟨unk known - 1,by omega⟩
 rw [hn] at h
 unfold findFrom at h
 rw [hg] at h
 rw [<- h]
 exact findFrom_more hli _ _ _ _ (by rw [len_mark]; exact hk) (Nat.le_refl _) (by omega)
theorem find_end {l : Li} {known : List Bool} {out : List Gr} (h : findFrom l (unk known) known out = (restK l, findG l)) (hg : nextG l known = none) : known = restK l /\ out = findG l := by
 cases hn : unk known with
 | zero => rw [hn] at h; exact ⟨(Prod.mk.inj h).1,(Prod.mk.inj h).2⟩
 | succ n => rw [hn] at h; unfold findFrom at h; rw [hg] at h; exact ⟨(Prod.mk.inj h).1,(Prod.mk.inj h).2⟩
theorem unk_only {n : Nat} : unk (onlyK n 0) <= n := by
 unfold unk
 exact Nat.le_trans List.countP_le_length (Nat.le_of_eq (len_only _ _))
theorem find_start {l : Li} (hli : liE l = 0) : findFrom l (unk (onlyK l.bodies.length 0)) (onlyK l.bodies.length 0) [] = (restK l, findG l) := by
 rw [<- find_restK]
 exact findFrom_more hli _ _ _ _ (len_only _ _) (Nat.le_refl _) unk_only
theorem out_le {l : Li} (hli : liE l = 0) {known : List Bool} {out : List Gr} (hk : known.length = l.bodies.length) (h : findFrom l (unk known) known out = (restK l, findG l)) : out.length <= 8 := by
 obtain ⟨gs,e⟩ := findFrom_known (l := l) (unk known) known out
 rw [e] at h
 have h1 := (findG_ok hli).2
 have h2 : out ++ gs = findG l := (Prod.mk.inj h).2
 rw [<- h2,List.length_append] at h1; omega
theorem wk_finder (l : Li) (known used : List Bool) (out : List Gr) (hk : known.length = l.bodies.length) (hu : used.length = l.joints.length) (hm : l.bodies.length <= maxL /\ l.joints.length <= maxL) :
  Wk ⟨[(5,some (.ptr 33 0))],fdH l known used out⟩ ⟨[(5,some (.iptr (fdC l known (drivenL l) [.lst 1 (used.map bl),.lst 4 (out.map Gr.av)])))],[]⟩ := by
 have hd := len_driven l
 have q1 : .ms 23 1 0 l.bodies.length = AV.ms 23 1 0 ((bv known).map AV.v).length:=by rw [List.length_map,len_bv,hk]
 refine (Wk.of (sl := [(5, some (.ptr 33 0))]) (hp := [(33, some (fdB l out.length)), (23, some (.row 1 ((bv known).map .v))), (27, some (.row 1 ((bv (drivenL l)).map .v))), (31, some (.row 1 ((bv used).map .v))), (900, some (.row 4 (out.map Gr.av)))])
  (.k .nil) (.cons rfl (.refl _) (.cons rfl (.vecRow (by rw [len_bv]; omega)) (.cons rfl (.vecRow (by rw [len_bv]; omega)) (.cons rfl (.vecRow (by rw [len_bv]; omega)) (.cons rfl (.refl _) .nil)))))).trans ?_
 refine (Wk.freeze (k := 23) rfl).trans ?_
 refine (Wk.of (sl := [(5, some (.ptr 33 0))]) (hp := [(33, some (.box (l.av.cells ++ [.lst 1 (known.map bl), .ms 27 1 0 l.bodies.length, .ms 31 1 0 l.joints.length, .ms 900 4 0 out.length]))), (27, some (.row 1 ((bv (drivenL l)).map .v))), (31, some (.row 1 ((bv used).map .v))), (900, some (.row 4 (out.map Gr.av)))])
  (.k .nil) (.cons rfl (BlkSub.boxL (.cons (.refl _) (.cons (.refl _) (.cons (.refl _) (.cons (.refl _) (.cons (.of ((fz_all (by rw [List.length_map,len_bv,hk])).trans (by rw [bv_av]))) (.cons (.refl _) (.cons (.refl _) (.cons (.refl _) .nil)))))))) rfl) (.cons rfl (.refl _) (.cons rfl (.refl _) (.cons rfl (.refl _) .nil))))).trans ?_
 refine (Wk.freeze (k := 27) rfl).trans ?_
 refine (Wk.of (sl := [(5, some (.ptr 33 0))]) (hp := [(33, some (.box (l.av.cells ++ [.lst 1 (known.map bl), .lst 1 ((drivenL l).map bl), .ms 31 1 0 l.joints.length, .ms 900 4 0 out.length]))), (31, some (.row 1 ((bv used).map .v))), (900, some (.row 4 (out.map Gr.av)))])
  (.k .nil) (.cons rfl (BlkSub.boxL (.cons (.refl _) (.cons (.refl _) (.cons (.refl _) (.cons (.refl _) (.cons (.refl _) (.cons (.of ((fz_all (by rw [List.length_map,len_bv,hd])).trans (by rw [bv_av]))) (.cons (.refl _) (.cons (.refl _) .nil)))))))) rfl) (.cons rfl (.refl _) (.cons rfl (.refl _) .nil)))).trans ?_
 refine (Wk.freeze (k := 31) rfl).trans ?_
 refine (Wk.of (sl := [(5, some (.ptr 33 0))]) (hp := [(33, some (.box (l.av.cells ++ [.lst 1 (known.map bl), .lst 1 ((drivenL l).map bl), .lst 1 (used.map bl), .ms 900 4 0 out.length]))), (900, some (.row 4 (out.map Gr.av)))])
  (.k .nil) (.cons rfl (BlkSub.boxL (.cons (.refl _) (.cons (.refl _) (.cons (.refl _) (.cons (.refl _) (.cons (.refl _) (.cons (.refl _) (.cons (.of ((fz_all (by rw [List.length_map,len_bv,hu])).trans (by rw [bv_av]))) (.cons (.refl _) .nil)))))))) rfl) (.cons rfl (.refl _) .nil))).trans ?_
 refine (Wk.freeze (k := 900) rfl).trans ?_
 refine (Wk.of (sl := [(5, some (.ptr 33 0))]) (hp := [(33, some (.box (fdC l known (drivenL l) [.lst 1 (used.map bl), .lst 4 (out.map Gr.av)])))])
  (.k .nil) (.cons rfl (BlkSub.boxL (.cons (.refl _) (.cons (.refl _) (.cons (.refl _) (.cons (.refl _) (.cons (.refl _) (.cons (.refl _) (.cons (.refl _) (.cons (.of (fz_all (by rw [List.length_map]))) .nil)))))))) rfl) .nil)).trans ?_
 refine (Wk.freezeB (k := 33) rfl rfl).trans ?_
 exact Wk.of (.k .nil) .nil
theorem c_g_find (l : Li) (hl : l.ok) : FnC Tryz.prog 145 [l.av] (.tup [fdR l, errA (liE l)]) := by
 refine gF0 Tryz.func145 ?_
 refine gc (c_model_Check l hl) ?_
 refine gC (fun ht17 => ?_) (fun ht17 => ?_)
 ·have h1 := nNil_t ht17
  refine gE2 ?_
  unfold fdR; rw [if_neg h1]
 ·have hli := nNil_f ht17
  have h8 := (li_parts hli).2.2.2.1
  have h0 := (li_parts hli).2.2.2.2
  have hj16 : l.joints.length <= 16:=by have := (li_parts hli).2.1; unfold jtsE at this; split at this; cases this; omega
  have hld := hl.ld
  have hm : l.bodies.length <= maxL /\ l.joints.length <= maxL:=by unfold maxL; omega
  refine gl ?_
  refine gs (s_makeV (.tmp rfl) T222 rfl T4 rfl rfl rfl rfl (by dsimp only; omega) rfl) ?_
  refine gl ?_
  refine gs (s_makeV (.tmp rfl) T222 rfl T4 rfl rfl rfl rfl (by dsimp only; omega) rfl) ?_
  refine gl ?_
  refine gs (s_makeV (.tmp rfl) T222 rfl T4 rfl rfl rfl rfl (by dsimp only; omega) rfl) ?_
  refine gD ?_
  refine gs (s_idxMs0 (n := 0) (.tmp rfl) (.const _) T222 rfl T4 rfl rfl (by omega) rfl) ?_
  refine gs (s_stVec (.tmp rfl) rfl (by rw [List.length_replicate]; omega) (.const _) rfl T4 rfl) ?_ (6,0)
  refine gW (Wk.of (sl := [(1,some (.ptr 1 0)),(5,some (.ptr 33 0))]) (hp := [(1,some (.box l.av.cells)),(33,some (.box (l.av.cells ++ [.ms 23 1 0 l.bodies.length,.ms 27 1 0 l.bodies.length,.ms 31 1 0 l.joints.length,.v (.slice none 0 0)]))),(23,some (.vec (bv (onlyK l.bodies.length 0)))),(27,some (.vec (bv (List.replicate l.bodies.length false)))),(31,some (.vec (bv (List.replicate l.joints.length false))))]) (by repeat (first | exact SlW.nil | refine SlW.k ?_)) (.cons rfl (.refl _) (.cons rfl (.refl _) (.cons rfl (BlkSub.of (by rw [bv_rep,bv_set]; rfl)) (.cons rfl (BlkSub.of (by rw [bv_rep])) (.cons rfl (BlkSub.of (by rw [bv_rep])) .nil)))))) ?_
  refine gl ?_
  refine gL1 [1,5,40,41] [1,23,31] (fun (i : Nat) => [(42,some (i64 i))]) (fun i => [(33,some (.box (l.av.cells ++ [.ms 23 1 0 l.bodies.length,.ms 27 1 0 l.bodies.length,.ms 31 1 0 l.joints.length,.v (.slice none 0 0)]))),(27,some (.vec (bv (markAll (List.replicate l.bodies.length false) ((l.drivers.map Dr.body).take i)))))]) (fun i => i <= l.drivers.length) (fun i => l.drivers.length - i) 0 (Nat.zero_le _) ?_
  rintro i hi K1 hK1
  refine gC (fun ht43 => ?_) (fun ht43 => ?_) (st2 := (11,0))
  ·have hin := lss_t ht43
   obtain ⟨d,hd⟩ := getx hin
   have hb := inB_t (dr_in hli hd)
   have hmt := mark_take (k := List.replicate l.bodies.length false) (bs := l.drivers.map Dr.body) (i := i) (b := d.body) (by rw [List.getElem?_map,hd]; rfl)
   refine gi (getmap hd) ?_
   refine gs (s_idxMs0 (n := d.body.toNat) (.tmp rfl) (.tmp rfl) T222 rfl T4 rfl (by omega) (by omega) rfl) ?_
   refine gs (s_stVec (.tmp rfl) rfl (by rw [len_bv,len_mark,List.length_replicate]; omega) (.const _) rfl T4 rfl) ?_
   refine gD ?_
   refine ga (i64_add1 (by unfold maxL; omega)) ?_
   exact gK1 hK1 (i + 1) hin (hw := Wk.of (by repeat (first | exact SlW.nil | refine SlW.k ?_)) (.cons rfl (.refl _) (.cons rfl (BlkSub.of (by rw [bv_set,hmt])) (.cons rfl (.refl _) (.cons rfl (.refl _) (.cons rfl (.refl _) .nil))))))
  ·have hin := lss_end hi ht43
   have hall : markAll (List.replicate l.bodies.length false) ((l.drivers.map Dr.body).take i) = drivenL l:=by rw [hin]; unfold drivenL; rw [List.take_of_length_le (by rw [List.length_map]; omega)]
   refine gW ((Wk.virt 900 4 rfl).trans <| Wk.of (sl := [(1,some (.ptr 1 0)),(5,some (.ptr 33 0))]) (hp := [(33,some (fdB l 0)),(23,some (.vec (bv (onlyK l.bodies.length 0)))),(27,some (.vec (bv (drivenL l)))),(31,some (.vec (bv (List.replicate l.joints.length false)))),(900,some (.row 4 []))]) (by repeat (first | exact SlW.nil | refine SlW.k ?_)) (.cons rfl (BlkSub.boxL (.cons (.refl _) (.cons (.refl _) (.cons (.refl _) (.cons (.refl _) (.cons (.refl _) (.cons (.refl _) (.cons (.refl _) (.cons (Sub.nilMs _ _ _) .nil)))))))) rfl) (.cons rfl (.refl _) (.cons rfl (BlkSub.of (by rw [hall])) (.cons rfl (.refl _) (.cons rfl (.refl _) .nil)))))) ?_
   refine gt (s_callH (c_find_next l hl hli (onlyK l.bodies.length 0) (List.replicate l.joints.length false) (len_only _ _) List.length_replicate hm []) (.cons (.tmp rfl) .nil) (fun k z h => h) rfl rfl) ?_
   refine gL2 [5,8] [] (fun (known : List Bool) (out : List Gr) => [(9,some (bl (nextG l known).isSome))]) (fun known out => [(8,some (.box ((nextG l known).getD default).av.cells)),(33,some (fdB l out.length)),(23,some (.vec (bv known))),(27,some (.vec (bv (drivenL l)))),(31,some (.vec (bv (usedL l out)))),(900,some (.row 4 (out.map Gr.av)))]) (fun known out => known.length = l.bodies.length /\ findFrom l (unk known) known out = (restK l,findG l)) (fun known _ => unk known) (onlyK l.bodies.length 0) ([]) ⟨len_only _ _,find_start hli⟩ ?_
   rintro known out ⟨hk,hf⟩ K2 hK2
   refine gC (fun ht59 => ?_) (fun ht59 => ?_) (st1 := (77777,0)) (st2 := (27,0))
   ·obtain ⟨g, hg⟩ := some_of ht59
    have hgo := nextG_ok hli hg
    have hout := out_le hli hk hf
    refine gW (Wk.of (sl := [(5,some (.ptr 33 0)),(8,some (.ptr 8 0))]) (hp := [(8,some (.box g.av.cells)),(33,some (fdB l out.length)),(23,some (.vec (bv known))),(27,some (.vec (bv (drivenL l)))),(31,some (.vec (bv (usedL l out)))),(900,some (.row 4 (out.map Gr.av)))]) (by repeat (first | exact SlW.nil | refine SlW.k ?_)) (.cons rfl (BlkSub.of (by rw [hg]; rfl)) (.cons rfl (.refl _) (.cons rfl (.refl _) (.cons rfl (.refl _) (.cons rfl (.refl _) (.cons rfl (.refl _) .nil))))))) ?_
    refine gl ?_
    refine gL1 [5,8,66,67] [8,33,27,31,900] (fun (j : Nat) => [(68,some (i64 j))]) (fun j => [(23,some (.vec (bv (markAll known (g.bodies.take j)))))]) (fun j => j <= g.bodies.length) (fun j => g.bodies.length - j) 0 (Nat.zero_le _) ?_
    rintro j hj K3 hK3
    refine gC (fun ht69 => ?_) (fun ht69 => ?_)
    ·have hin := lss_t ht69
     obtain ⟨b,hb⟩ := getx hin
     have hbb := hgo.b b (List.mem_of_getElem? hb)
     have hlb := hgo.lb
     refine gi (getmap hb) ?_
     refine gs (s_idxMs0 (n := b.toNat) (.tmp rfl) (.tmp rfl) T222 rfl T4 rfl (by omega) (by omega) rfl) ?_
     refine gs (s_stVec (.tmp rfl) rfl (by rw [len_bv,len_mark]; omega) (.const _) rfl T4 rfl) ?_
     refine ga (i64_add1 (by unfold maxL; omega)) ?_
     exact gK1 hK3 (j + 1) hin (hw := Wk.of (by repeat (first | exact SlW.nil | refine SlW.k ?_)) (.cons rfl (BlkSub.of (by rw [bv_set,mark_take hb])) (.cons rfl (.refl _) (.cons rfl (.refl _) (.cons rfl (.refl _) (.cons rfl (.refl _) (.cons rfl (.refl _) .nil)))))))
    ·have hin := lss_end hj ht69
     subst hin
     refine gl ?_
     refine gL1 [5,8,80,81] [8,33,27,900] (fun (q : Nat) => [(82,some (i64 q))]) (fun q => [(23,some (.vec (bv (markAll known g.bodies)))),(31,some (.vec (bv (markAll (usedL l out) (g.joints.take q)))))]) (fun q => q <= g.joints.length) (fun q => g.joints.length - q) 0 (Nat.zero_le _) ?_ (h2 := (.cons rfl (BlkSub.of (by rw [List.take_length])) (.cons rfl (.refl _) .nil)))
     rintro q hq K4 hK4
     refine gC (fun ht83 => ?_) (fun ht83 => ?_)
     ·have hin := lss_t ht83
      obtain ⟨b,hb⟩ := getx hin
      have hbb := hgo.j b (List.mem_of_getElem? hb)
      have hlj := hgo.lj
      refine gi (getmap hb) ?_
      refine gs (s_idxMs0 (n := b.toNat) (.tmp rfl) (.tmp rfl) T222 rfl T4 rfl (by omega) (by omega) rfl) ?_
      refine gs (s_stVec (.tmp rfl) rfl (by rw [len_bv,len_mark,len_used]; omega) (.const _) rfl T4 rfl) ?_
      refine ga (i64_add1 (by unfold maxL; omega)) ?_
      exact gK1 hK4 (q + 1) hin (hw := Wk.of (by repeat (first | exact SlW.nil | refine SlW.k ?_)) (.cons rfl (.refl _) (.cons rfl (BlkSub.of (by rw [bv_set,mark_take hb])) (.cons rfl (.refl _) (.cons rfl (.refl _) (.cons rfl (.refl _) (.cons rfl (.refl _) .nil)))))))
     ·have hin := lss_end hq ht83
      subst hin
      refine gs (s_append (.tmp rfl) rfl (by rw [List.length_map]) (.tmp rfl) T137 rfl T166 rfl rfl (by simp only [List.length_map,List.length_cons,List.length_nil]; omega) rfl rfl) ?_
      refine gD ?_ (25,0)
      refine gW (Wk.of (sl := [(5,some (.ptr 33 0)),(8,some (.ptr 8 0))]) (hp := [(8,some (.box g.av.cells)),(33,some (.box (l.av.cells ++ [.ms 23 1 0 l.bodies.length,.ms 27 1 0 l.bodies.length,.ms 31 1 0 l.joints.length,.ms 100 4 0 (out ++ [g]).length]))),(100,some (.row 4 ((out ++ [g]).map Gr.av))),(23,some (.vec (bv (markAll known g.bodies)))),(27,some (.vec (bv (drivenL l)))),(31,some (.vec (bv (usedL l (out ++ [g])))))]) (by repeat (first | exact SlW.nil | refine SlW.k ?_)) (.cons rfl (.refl _) (.cons rfl (BlkSub.of (by rw [List.length_append]; rfl)) (.cons rfl (BlkSub.of (by rw [List.map_append]; rfl)) (.cons rfl (.refl _) (.cons rfl (.refl _) (.cons rfl (BlkSub.of (by rw [used_app,List.take_length])) .nil))))))) ?_ (25,0)
      refine gW (Wk.rekey (k := 100) (d := 900) rfl rfl) ?_ (26,0)
      refine gW (Wk.o (sl := [(5,some (.ptr 33 0)),(103,some (g.av))]) (hp := [(33,some (fdB l (out ++ [g]).length)),(23,some (.vec (bv (markAll known g.bodies)))),(27,some (.vec (bv (drivenL l)))),(31,some (.vec (bv (usedL l (out ++ [g]))))),(900,some (.row 4 ((out ++ [g]).map Gr.av)))])) ?_
      refine gt (s_callH (c_find_next l hl hli (markAll known g.bodies) (usedL l (out ++ [g])) (by rw [len_mark]; exact hk) (len_used _ _) hm (out ++ [g])) (.cons (.tmp rfl) .nil) (by intro k z h; simp only [fdH,lk_cons] at h; split at h; (subst_vars; exact h); split at h; (subst_vars; exact h); split at h; (subst_vars; exact h); split at h; (subst_vars; exact h); split at h; (subst_vars; exact h); cases h) rfl rfl) ?_
      exact gK2 hK2 (markAll known g.bodies) (out ++ [g]) ⟨by rw [len_mark]; exact hk,find_more hli hk hf hg⟩ (nextG_less hli hk hg)
   ·have hg := none_of ht59
    obtain ⟨e1,e2⟩ := find_end hf hg
    subst e1 e2
    refine gW (Wk.o (sl := [(5,some (.ptr 33 0))]) (hp := [(33,some (fdB l (findG l).length)),(23,some (.vec (bv (restK l)))),(27,some (.vec (bv (drivenL l)))),(31,some (.vec (bv (usedL l (findG l))))),(900,some (.row 4 ((findG l).map Gr.av)))])) ?_ (27,0)
    refine gW (wk_finder l (restK l) (usedL l (findG l)) (findG l) hk (len_used _ _) hm) ?_
    refine gE2 ?_
    unfold fdR; rw [if_pos hli,hli]; rfl
end Go.Lw
namespace Go.Lw
open Go.Proofs
theorem ix_any {α : Type} [BEq α] [LawfulBEq α] {xs : List α} {b : α} {ok : Nat -> Bool} (h : ∀ i x, xs[i]? = some x -> ok i = !(b == x)) : decide (0 <= ixI (firstB xs.length ok)) = xs.contains b := by
 cases hf : firstB xs.length ok with
 | some i =>
  obtain ⟨h1,h2⟩ := firstB_some hf
  obtain ⟨x,hx⟩ := getx h1
  rw [h i x hx] at h2
  have : b = x:=by simpa using h2
  subst this
  rw [List.contains_iff_mem.2 (List.mem_of_getElem? hx)]
  exact decide_eq_true (by show (0 : Int) <= (i : Int); omega)
 | none =>
  rw [decide_eq_false (by show ¬ (0 : Int) <= -1; decide)]
  symm
  rw [<- Bool.not_eq_true,List.contains_iff_mem]
  intro hm
  obtain ⟨i,hi⟩ := List.mem_iff_getElem?.1 hm
  have hlt := (List.getElem?_eq_some_iff.1 hi).1
  unfold firstB at hf
  rw [List.find?_eq_none] at hf
  have := hf i (List.mem_range.2 hlt)
  rw [h i b hi] at this
  simp at this
theorem c_index_bool (xs : List Bool) (b : Bool) (hl : xs.length <= 281474976710656) : FnC Tryz.prog 208 [.lst 1 (xs.map bl), bl b] (i64 (ixI (firstB xs.length (fun i => !(b == xs.getD i false))))) := by
 refine gF0 Tryz.func208 ?_
 refine gl ?_
 refine gL1 [0,1,7] [] (fun (i : Nat) => [(8,some (i64 i))]) (fun _ => []) (fun i => i <= xs.length /\ ∀ j,j < i -> (!(b == xs.getD j false)) = true) (fun i => xs.length - i) 0 ⟨Nat.zero_le _,fun j h => by omega⟩ ?_
 rintro i ⟨hi,hj⟩ K1 hK1
 refine gC (fun ht9 => ?_) (fun ht9 => ?_)
 ·have hin := lss_t ht9
  obtain ⟨x,hx⟩ := getx hin
  have hg : xs.getD i false = x := getD_of hx
  refine gi (getmap hx) ?_
  refine gC (fun ht16 => ?_) (fun ht16 => ?_)
  ·have h2 : (b == x) = true := ht16
   refine gE1 ?_
   rw [firstB_at hin hj (by rw [hg,h2]; rfl)]; rfl
  ·have h2 : (b == x) = false := ht16
   refine ga (i64_add1 (by unfold maxL; omega)) ?_
   exact gK1 hK1 (i + 1) ⟨hin,fun j h9 => by rcases Nat.lt_or_ge j i with g | g; exact hj j g; (have : j = i:=by omega); subst this; rw [hg,h2]; rfl⟩
 ·have hin := lss_end hi ht9
  subst hin
  refine gE1 ?_
  rw [firstB_all hj]; rfl
theorem c_contains_bool (xs : List Bool) (b : Bool) (hl : xs.length <= 281474976710656) : FnC Tryz.prog 146 [.lst 1 (xs.map bl), bl b] (bl (xs.contains b)) := by
 refine gF0 Tryz.func146 ?_
 refine gc (c_index_bool xs b hl) ?_
 refine gE1 ?_
 rw [<- ix_any (xs := xs) (b := b) (ok := fun i => !(b == xs.getD i false)) (fun i x hx => by rw [getD_of hx])]; rfl
theorem c_index_int (xs : List Int) (b : Int) (hl : xs.length <= 281474976710656) : FnC Tryz.prog 351 [.lst 1 (xs.map i64), i64 b] (i64 (ixI (firstB xs.length (fun i => !(b == xs.getD i 0))))) := by
 refine gF0 Tryz.func351 ?_
 refine gl ?_
 refine gL1 [0,1,7] [] (fun (i : Nat) => [(8,some (i64 i))]) (fun _ => []) (fun i => i <= xs.length /\ ∀ j,j < i -> (!(b == xs.getD j 0)) = true) (fun i => xs.length - i) 0 ⟨Nat.zero_le _,fun j h => by omega⟩ ?_
 rintro i ⟨hi,hj⟩ K1 hK1
 refine gC (fun ht9 => ?_) (fun ht9 => ?_)
 ·have hin := lss_t ht9
  obtain ⟨x,hx⟩ := getx hin
  have hg : xs.getD i 0 = x := getD_of hx
  refine gi (getmap hx) ?_
  refine gC (fun ht16 => ?_) (fun ht16 => ?_)
  ·have h2 : (b == x) = true := ht16
   refine gE1 ?_
   rw [firstB_at hin hj (by rw [hg,h2]; rfl)]; rfl
  ·have h2 : (b == x) = false := ht16
   refine ga (i64_add1 (by unfold maxL; omega)) ?_
   exact gK1 hK1 (i + 1) ⟨hin,fun j h9 => by rcases Nat.lt_or_ge j i with g | g; exact hj j g; (have : j = i:=by omega); subst this; rw [hg,h2]; rfl⟩
 ·have hin := lss_end hi ht9
  subst hin
  refine gE1 ?_
  rw [firstB_all hj]; rfl
theorem c_contains_int (xs : List Int) (b : Int) (hl : xs.length <= 281474976710656) : FnC Tryz.prog 301 [.lst 1 (xs.map i64), i64 b] (bl (xs.contains b)) := by
 refine gF0 Tryz.func301 ?_
 refine gc (c_index_int xs b hl) ?_
 refine gE1 ?_
 rw [<- ix_any (xs := xs) (b := b) (ok := fun i => !(b == xs.getD i 0)) (fun i x hx => by rw [getD_of hx])]; rfl
theorem c_g_Split (l : Li) (hl : l.ok) : FnC Tryz.prog 83 [l.av] (.tup [.lst 4 (((if liE l = 0 then splitG l else [])).map Gr.av), errA (if liE l = 0 then splitE l else liE l)]) := by
 refine gF0 Tryz.func83 ?_
 refine gc (c_g_find l hl) (hnm := (by unfold fdR; split <;> rfl)) ?_
 refine gC (fun ht12 => ?_) (fun ht12 => ?_) (st2 := (77777,0))
 ·have h1 := nNil_t ht12
  refine gR ?_
  exact fin_sub (by rw [if_neg h1,if_neg h1]; exact Sub.tup (.cons (.nil _ _ _) (.cons (.refl _) .nil)))
 ·have hli := nNil_f ht12
  have h8 := (li_parts hli).2.2.2.1
  have hj16 : l.joints.length <= 16:=by have := (li_parts hli).2.1; unfold jtsE at this; split at this; cases this; omega
  have lk1 : (restK l).length = l.bodies.length:=by unfold restK; rw [len_fold,len_only]
  have lk2 : (restJ l).length = l.joints.length:=by unfold restJ; rw [len_fold,List.length_replicate]
  have e1 : fdR l = .iptr (fdC l (restK l) (drivenL l) [.lst 1 ((restJ l).map bl),.lst 4 ((findG l).map Gr.av)]):=by unfold fdR; rw [if_pos hli]
  have c1 := unm_zero (k := restK l)
  have c2 := unm_zero (k := restJ l)
  refine gW (Wk.of (sl := [(4,some (.iptr (fdC l (restK l) (drivenL l) [.lst 1 ((restJ l).map bl),.lst 4 ((findG l).map Gr.av)]))),(5,some (errA (liE l)))]) (hp := []) (.cons rfl (Sub.of e1) (.k .nil)) .nil) ?_
  refine gc (c_contains_bool (restK l) false (by omega)) ?_
  refine gcG (fun _ => (c_contains_bool (restJ l) false (by omega))) ?_
  refine gC (fun ht25 => ?_) (fun ht25 => ?_)
  ·have h2 : splitE l = 7 := by
    unfold splitE
    rw [if_neg]
    intro h
    have h3 : (restK l).contains false = false := c1.1 (by omega)
    have h4 : (restJ l).contains false = false := c2.1 (by omega)
    rw [h3,h4] at ht25; cases ht25
   refine gR ?_
   exact fin_sub (by rw [if_pos hli,if_pos hli]; unfold splitG; rw [if_neg (by rw [h2]; simp),h2]; exact Sub.tup (.cons (.nil _ _ _) (.cons (.refl _) .nil)))
  ·have h2 : splitE l = 0 := by
    unfold splitE
    rw [if_pos]
    cases h3 : (restK l).contains false <;> cases h4 : (restJ l).contains false <;> rw [h3,h4] at ht25 <;> first | (cases ht25; done) | (have g1 := c1.2 h3; have g2 := c2.2 h4; omega)
   refine gE2 ?_
   rw [if_pos hli,if_pos hli,h2]; unfold splitG; rw [if_pos h2]; rfl
end Go.Lw
namespace Go.Lw
end Go.Lw
namespace Go.Lw
def anc (g : Gr) (j : Jt) : Int := if g.bodies.contains j.a = true then (if g.bodies.contains j.b = true then -1 else j.b) else j.a
def ancL (l : Li) (g : Gr) : List Int := g.joints.map (fun j => anc g (l.joints.getD j.toNat default))
theorem len_anc (l : Li) (g : Gr) : (ancL l g).length = g.joints.length:=by unfold ancL; rw [List.length_map]
section
variable {l : Li} {k : Int} {a : As} {own : Bool}
end
theorem e4_lm (n : Nat) : 4000 <= lm n:=by have := lm_ge n; omega
theorem neqn_t {a b : Nat} (h : icmp .neq (a : Int) (b : Int) = true) : a ≠ b := by
 have h1 : ((a : Int) != (b : Int)) = true := h
 have h2 := bne_iff_ne.1 h1
 omega
theorem neqn_f {a b : Nat} (h : icmp .neq (a : Int) (b : Int) = false) : a = b := by
 have h1 : ((a : Int) != (b : Int)) = false := h
 have h2 : (a : Int) = b:=by simpa only [bne_eq_false_iff_eq] using h1
 omega
end Go.Lw
namespace Go.Lw
open Go.Proofs
theorem anc_at {l : Li} {g : Gr} {i : Nat} {z : Int} {j : Jt} (hz : g.joints[i]? = some z) (hj : l.joints[z.toNat]? = some j) : (ancL l g)[i]? = some (anc g j) := by
 unfold ancL; rw [List.getElem?_map,hz,Option.map_some,getD_of hj]
theorem anc_take {l : Li} {g : Gr} {i : Nat} {z : Int} {j : Jt} {a : Int} (hz : g.joints[i]? = some z) (hj : l.joints[z.toNat]? = some j) (ha : anc g j = a) : ((ancL l g).take i).map i64 ++ [i64 a] = ((ancL l g).take (i + 1)).map i64 := by
 rw [take_succ_get (anc_at hz hj),ha,List.map_append]; rfl
theorem in_rng {z : Int} {n : Nat} (h0 : 0 <= z) (h1 : z < n) : cond (icmp .lss z 0) true (icmp .geq z (n : Int)) = false := by
 rw [show icmp .lss z 0 = false from decide_eq_false (by omega)]
 exact decide_eq_false (by omega)
theorem c_g_Anchors (l : Li) (hl : l.ok) (hli : liE l = 0) (g : Gr) (hg : GrOk l g) : Con Tryz.prog 241 [l.av, g.av] [] (.tup [.ms 900 1 0 g.joints.length, .v .nilIface]) [(900, some (.row 1 ((ancL l g).map i64)))] := by
 have hlb := hg.lb
 have hlj := hg.lj
 refine gF Tryz.func241 (fun k z h => by cases h) ?_
 refine gc (c_model_Check l hl) ?_
 refine gC (fun ht16 => ?_) (fun ht16 => ?_) (st1 := (3,0))
 ·(rw [hli] at ht16; cases ht16)
 ·refine gl ?_
  refine gW ((Wk.virt 900 1 rfl).trans <| Wk.of (sl := [(2,some (.ptr 2 0)),(3,some (.ptr 3 0)),(7,some (.ms 900 1 0 0)),(19,some (.lst 1 (g.joints.map i64))),(20,some (i64 g.joints.length)),(21,some (i64 0))]) (hp := [(2,some (.box l.av.cells)),(3,some (.box g.av.cells)),(900,some (.row 1 []))]) (.k (.k (.cons rfl (Sub.nilMs _ _ _) (.k (.k (.k .nil)))))) (.cons rfl (.refl _) (.cons rfl (.refl _) (.cons rfl (.refl _) .nil)))) ?_
  refine gL1 [2,3,19,20] [2,3] (fun (i : Nat) => [(7,some (.ms 900 1 0 i)),(21,some (i64 i))]) (fun i => [(900,some (.row 1 (((ancL l g).take i).map i64)))]) (fun i => i <= g.joints.length) (fun i => g.joints.length - i) 0 (Nat.zero_le _) ?_
  rintro i hi K1 hK1
  refine gC (fun ht22 => ?_) (fun ht22 => ?_) (st2 := (18,0))
  ·have hin := lss_t ht22
   obtain ⟨z,hz⟩ := getx hin
   obtain ⟨z0,z1⟩ := hg.j z (List.mem_of_getElem? hz)
   obtain ⟨j,hj⟩ : ∃ j,l.joints[z.toNat]? = some j := getx (by omega)
   have hlt : (((ancL l g).take i).map i64).length = i:=by rw [List.length_map,List.length_take,len_anc]; omega
   refine gi (getmap hz) ?_
   refine glG ?_
   refine gC (fun ht33 => ?_) (fun ht33 => ?_) (st1 := (9,0))
   ·(rw [in_rng z0 z1] at ht33; cases ht33)
   ·refine gi (getzx (n := z.toNat) (by omega) hj) ?_
    refine gc (c_contains_int g.bodies j.a (by omega)) ?_
    refine gc (c_contains_int g.bodies j.b (by omega)) ?_
    refine gD ?_
    refine gC (fun ht55 => ?_) (fun ht55 => ?_)
    ·have ha : anc g j = -1 := by unfold anc; cases h1 : g.bodies.contains j.a <;> cases h2 : g.bodies.contains j.b <;> rw [h1, h2] at ht55 <;> first | (cases ht55; done) | rfl
     refine gs (s_append (.tmp rfl) rfl hlt.symm (.tmp rfl) T26 rfl T3 rfl rfl (by simp only [List.length_map,List.length_cons,List.length_nil]; omega) rfl rfl) ?_ (17,0)
     refine gW (Wk.of (sl := [(2,some (.ptr 2 0)),(3,some (.ptr 3 0)),(7,some (.ms 62 1 0 (i + 1))),(19,some (.lst 1 (g.joints.map i64))),(20,some (i64 g.joints.length)),(21,some (i64 i))]) (hp := [(2,some (.box l.av.cells)),(3,some (.box g.av.cells)),(62,some (.row 1 (((ancL l g).take (i + 1)).map i64)))]) (by repeat (first | exact SlW.nil | refine SlW.k ?_)) (.cons rfl (.refl _) (.cons rfl (.refl _) (.cons rfl (BlkSub.of (congrArg (Blk.row 1) (anc_take hz hj ha))) .nil)))) ?_ (17,0)
     refine gW (Wk.rekey (k := 62) (d := 900) rfl rfl) ?_
     refine ga (i64_add1 (by unfold maxL; omega)) ?_
     exact gK1 hK1 (i + 1) hin
    ·refine gC (fun ht63 => ?_) (fun ht63 => ?_)
     ·have ha : anc g j = j.b := by unfold anc; cases h1 : g.bodies.contains j.a <;> cases h2 : g.bodies.contains j.b <;> rw [h1] at ht63 <;> rw [h1, h2] at ht55 <;> first | (cases ht55; done) | (cases ht63; done) | rfl
      refine gs (s_append (.tmp rfl) rfl hlt.symm (.tmp rfl) T26 rfl T3 rfl rfl (by simp only [List.length_map,List.length_cons,List.length_nil]; omega) rfl rfl) ?_ (17,0)
      refine gW (Wk.of (sl := [(2,some (.ptr 2 0)),(3,some (.ptr 3 0)),(7,some (.ms 69 1 0 (i + 1))),(19,some (.lst 1 (g.joints.map i64))),(20,some (i64 g.joints.length)),(21,some (i64 i))]) (hp := [(2,some (.box l.av.cells)),(3,some (.box g.av.cells)),(69,some (.row 1 (((ancL l g).take (i + 1)).map i64)))]) (by repeat (first | exact SlW.nil | refine SlW.k ?_)) (.cons rfl (.refl _) (.cons rfl (.refl _) (.cons rfl (BlkSub.of (congrArg (Blk.row 1) (anc_take hz hj ha))) .nil)))) ?_ (17,0)
      refine gW (Wk.rekey (k := 69) (d := 900) rfl rfl) ?_
      refine ga (i64_add1 (by unfold maxL; omega)) ?_
      exact gK1 hK1 (i + 1) hin
     ·have ha : anc g j = j.a := by unfold anc; rw [if_neg (by rw [show g.bodies.contains j.a = false from ht63]; simp)]
      refine gs (s_append (.tmp rfl) rfl hlt.symm (.tmp rfl) T26 rfl T3 rfl rfl (by simp only [List.length_map,List.length_cons,List.length_nil]; omega) rfl rfl) ?_ (17,0)
      refine gW (Wk.of (sl := [(2,some (.ptr 2 0)),(3,some (.ptr 3 0)),(7,some (.ms 54 1 0 (i + 1))),(19,some (.lst 1 (g.joints.map i64))),(20,some (i64 g.joints.length)),(21,some (i64 i))]) (hp := [(2,some (.box l.av.cells)),(3,some (.box g.av.cells)),(54,some (.row 1 (((ancL l g).take (i + 1)).map i64)))]) (by repeat (first | exact SlW.nil | refine SlW.k ?_)) (.cons rfl (.refl _) (.cons rfl (.refl _) (.cons rfl (BlkSub.of (congrArg (Blk.row 1) (anc_take hz hj ha))) .nil)))) ?_ (17,0)
      refine gW (Wk.rekey (k := 54) (d := 900) rfl rfl) ?_
      refine ga (i64_add1 (by unfold maxL; omega)) ?_
      exact gK1 hK1 (i + 1) hin
  ·have hin := lss_end hi ht22
   subst hin
   refine gW (Wk.of (sl := [(7,some (.ms 900 1 0 g.joints.length))]) (hp := [(900,some (.row 1 ((ancL l g).map i64)))]) (by repeat (first | exact SlW.nil | refine SlW.k ?_)) (.cons rfl (BlkSub.of (by rw [List.take_of_length_le (by rw [len_anc]; exact Nat.le_refl _)])) .nil)) ?_
   refine gR ?_
   exact Fin.keep (keep1 rfl)
end Go.Lw
namespace Go.Lw
def barB (s : ByteArray) (n : Int) : Bd := ⟨s,[⟨⟨#[97]⟩,rt ((0 : Int) : Rat),rt ((0 : Int) : Rat)⟩,⟨⟨#[98]⟩,rt (n : Rat),rt ((0 : Int) : Rat)⟩]⟩
def fb : Li := ⟨⟨#[102, 111, 117, 114, 98, 97, 114]⟩, [barB ⟨#[102, 114, 97, 109, 101]⟩ 4, barB ⟨#[99, 114, 97, 110, 107]⟩ 3, barB ⟨#[99, 111, 117, 112, 108, 101, 114]⟩ 5, barB ⟨#[114, 111, 99, 107, 101, 114]⟩ 6],
  [⟨⟨#[111]⟩,0,1,0,0,0,0⟩,⟨⟨#[112]⟩,0,2,0,1,1,0⟩,⟨⟨#[113]⟩,0,3,0,0,1,0⟩,⟨⟨#[114]⟩,0,2,1,3,1,0⟩],[⟨⟨#[100]⟩,1⟩]⟩
def t0 : Tn := ⟨⟨false,[],[]⟩,false⟩
theorem eqS_data (a b : ByteArray) : eqS a b = (a.data.toList == b.data.toList) := by
 unfold eqS; rw [Go.ByteArray.toList_eq,Go.ByteArray.toList_eq]
theorem bar_okw {s : ByteArray} (hs : s.size <= 281474976710656) {n : Int} (hn : -9223372036854775808 <= n /\ n <= 9223372036854775807) :
  (barB s n).name.size <= 281474976710656 /\ (barB s n).pts.length <= 281474976710656 /\ ∀ m ∈ (barB s n).pts,m.name.size <= 281474976710656 /\ m.x.wok /\ m.y.wok := by
 have h0 : (rt ((0 : Int) : Rat)).ok := (int_qs (by omega)).ok
 have h1 : (rt (n : Rat)).ok := (int_qs hn).ok
 refine ⟨hs,by show 2 <= _; omega,fun m hm => ?_⟩
 simp only [barB,List.mem_cons,List.not_mem_nil,or_false] at hm
 rcases hm with rfl | rfl
 ·exact ⟨by show 1 <= _; omega,h0.wok,h0.wok⟩
 ·exact ⟨by show 1 <= _; omega,h1.wok,h0.wok⟩
end Go.Lw
