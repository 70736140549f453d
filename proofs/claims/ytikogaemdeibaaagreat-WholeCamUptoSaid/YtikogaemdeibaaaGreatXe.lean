/- WholeCam: for any cam, shift and position whose reading holds at most 1048576 values the law returns true and leaves its arguments as they were. No other condition. Part 5 of 7: what the later parts need -/
import Derived.Test.YtikogaemdeibaaaGreatXd
import Derived.Laws.Strings
set_option linter.unusedVariables false
open List (map_take map_map)
open List renaming mem_of_getElem? → ZR, mem_cons_of_mem → Z8, mem_append → ZY, mem_cons → aai, length_cons → Z7, mem_cons_self → aaa, length_append → aah, length_nil → aan, getD_eq_getElem?_getD → ZS, getElem?_eq_none → Z5, all_eq_true → Z6, getElem?_take → aak, getElem?_drop → aar, getElem?_map → ZZ, getElem?_append_right → aac, mem_singleton → Z3, getElem?_eq_getElem → ZV, map_append → aas, length_take → aao, take_of_length_le → aag, length_map → ZU, drop_zero → aax, take_length → aab, map_replicate → aau, map_set → aaw, not_mem_nil → aap, length_set → aa0, pairwise_cons → Yc, contains_iff_mem → Yg, pairwise_append → Yh, mem_or_eq_of_mem_set → Yi, find?_range_eq_none → Yj, length_eq_zero_iff → Yo, length_replicate → Yq, mem_map → Yr, any_eq_true → Ys, foldl_append → Yw, find?_range_eq_some → Yx, getElem_mem → Yy, getElem?_eq_some_iff → YA, pairwise_singleton → YE, eq_nil_of_length_eq_zero → YG, mem_of_mem_drop → YI, length_pos_iff → YL, replicate → YO, mem_append_left → YP, foldl_cons → YQ, mem_range → YR, getElem?_replicate → YS, mem_iff_getElem? → YU
open Nat renaming eq_of_beq_eq_true → ZT, le_refl → Z0, lt_of_lt_of_le → Z9, lt_or_ge → Z2, le_trans → aaj, mul_le_mul_right → aad, mul_le_mul_left → Z4, zero_le → aaf, pow_add → aat, le_of_lt → Xu, mul_add → Xy, eq_zero_or_pos → XC, zero_add → XF, add_assoc → XG, beq → XK, add_mul → XN, ble_eq → XS, blt → XU, add_zero → XW, mul_le_mul → XZ, mul_comm → X6, min_eq_left → X7, blt_eq → Yb
open Option renaming map_eq_some_iff → ZX, getD_some → ZO, map_some → ZP
open Bool renaming and_eq_true → ZW, not_eq_false' → Zk, false_eq_true → Zm, eq_iff_iff → Zq, not_eq_true → Zr, not_not → Zt, not_eq_true' → Zw
open Array renaming getD_eq_getD_getElem? → Z1, getElem?_eq_getElem → ZC, getElem?_eq_none → ZE, getElem?_toList → ZM
open Rat renaming intCast_one → Zb, intCast_add → Zc, divInt → Zd, le_refl → Zf, num_divInt_den → Zg
open Decidable renaming not_not → ZQ
open Go renaming Operand → abb, Value → abc, TypeId → abd, Program → abe, World → abf
open Go.Result renaming andThen_ok → abg
open Go.Sem renaming run_bind → abh, run_pure → abi
open Go.Proofs.Tryz
namespace Go.Lw
variable{P:abe}{N:Nat}[Inhabited (Tys P)]
theorem Ov{P:abe}{N:Nat}{c:Code}{Q Q':Exit->AS->Prop}{s:AS}(h:aR P N c Q s)(hq:∀e s,Q e s->∃s',Wk s s'/\Q' e s'):aR P N c Q' s :=
 fun C m a w n hN hr=>wpIn_mono (h C m a w n hN hr) fun e _ _ ⟨s',m',hQ,hr'⟩=>by
  obtain⟨s2,hw,hQ'⟩:=hq e s' hQ;obtain⟨m2,cP⟩:=hw C m' _ _ hr';exact⟨s2,m2,hQ',cP⟩
def dd{α:Type}:List Nat->List (Nat×Option α)->List (Nat×Option α)
  |_,[]=>[]
  |seen,(t,x)::l=>match gS t seen with
    |true=>dd seen l
    |false=>match x with
      |some v=>(t,some v)::dd (t::seen) l
      |none=>dd (t::seen) l
theorem q7{α:Type}:∀{l:List (Nat×Option α)}{seen:List Nat}{t:Nat}{x:α},lk (dd seen l) t=some x->t∉seen/\lk l t=some x
 |[],seen,t,x,h=>by cases h
 |(t',y)::l,seen,t,x,h=>by
  unfold dd at h;rw[aq];split at h
  ·rename_i hm;obtain⟨h1,h2⟩:=q7 h;refine⟨h1,?_⟩;rw[aa1 (fun(e:t=t')=>h1 (by rw[e];exact kY.1 hm))];exact h2
  ·rename_i hm;have hm':t' ∉ seen:=fun hh=>by rw [kY.2 hh] at hm; cases hm
   split at h
   ·rw[aq]at h;split at h
    ·rename_i e;cases h;subst e;exact⟨hm',by rw[aa2 rfl]⟩
    ·rename_i e;obtain⟨h1,h2⟩:=q7 h;rw[aa1 e];exact⟨fun hh=>h1 (Z8 _ hh),h2⟩
   ·obtain ⟨h1, h2⟩:=q7 h;have az:t ≠ t':=fun e=>h1 (by rw [e]; exact aaa ..)
    rw[aa1 az];exact⟨fun hh=>h1 (Z8 _ hh),h2⟩
theorem z3{s:AS}{sl:aX}{hp:Hp}(h1:∀t x,lk sl t=some x->lk s.sl t=some x)(h2:∀k x,lk hp k=some x->lk s.hp k=some x):Wk s ⟨sl,hp⟩ :=
 fun C m a w hr=>⟨m,hr.weak (fun t x hx=>⟨x,h1 t x hx,.refl _⟩) (fun k x hx=>⟨x,h2 k x hx,.refl _⟩)⟩
def G5(s:AS):AS:=⟨dd [] s.sl,dd [] s.hp⟩
theorem Pm(s:AS):Wk s (G5 s):=z3 (fun t x h=>(q7 h).2) (fun t x h=>(q7 h).2)
def mn(k:Nat):List Nat->aX->aX
  |_,[]=>[]
  |seen,(t,x)::l=>match gS t seen with
    |true=>mn k seen l
    |false=>match x with
      |some v=>match gS k v.nm with
        |true=>mn k (t::seen) l
        |false=>(t,some v)::mn k (t::seen) l
      |none=>mn k (t::seen) l
theorem tC{k:Nat}:∀{l:aX}{seen:List Nat}{t:Nat}{x:AV},lk (mn k seen l) t=some x->t∉seen/\lk l t=some x
 |[],seen,t,x,h=>by cases h
 |(t',y)::l,seen,t,x,h=>by
  unfold mn at h;rw[aq]
  have rest:∀{l':aX},lk (mn k (t'::seen) l) t=some x->t∉seen/\(if t=t' then y else lk l t)=some x:=by
   intro _ h;obtain⟨h1,h2⟩:=tC h;rw[aa1 (fun(e:t=t')=>h1 (by rw[e];exact aaa ..))];exact⟨fun hh=>h1 (Z8 _ hh),h2⟩
  split at h
  ·rename_i hm;obtain⟨h1,h2⟩:=tC h;refine⟨h1,?_⟩;rw[aa1 (fun(e:t=t')=>h1 (by rw[e];exact kY.1 hm))];exact h2
  ·rename_i hm;have hm':t' ∉ seen:=fun hh=>by rw [kY.2 hh] at hm; cases hm
   split at h
   ·split at h
    ·exact rest (l':=l) h
    ·rw[aq]at h;split at h
     ·rename_i e;cases h;subst e;exact⟨hm',by rw[aa2 rfl]⟩
     ·rename_i e;obtain⟨h1,h2⟩:=tC h;rw[aa1 e];exact⟨fun hh=>h1 (Z8 _ hh),h2⟩
   ·exact rest (l':=l) h
def DI(s:AS)(k d:Nat)(y:Blk):AS:=⟨fU (AV.rn k d) s.sl,kT k d y s.hp⟩
def xl(s:AS)(av:List Nat)(d:Nat):Option AS:=match s.freshB d with
  |true=>some s
  |false=>match s.blk d with
    |some y=>match s.freshB (sW s av)with
      |true=>some (DI s d (sW s av) y)
      |false=>none
    |none=>some ⟨mn d [] s.sl,s.hp⟩
theorem Ro{s s':AS}{av:List Nat}{d:Nat}(h:xl s av d=some s'):Wk s s':=by
 unfold xl at h;split at h
 ·cases h;exact .refl _
 ·split at h
  ·rename_i y hy;split at h
   ·rename_i hf;cases h;exact Wk.rk hy hf
   ·cases h
  ·cases h;exact z3 (fun t x h=>(tC h).2) (fun _ _ h=>h)
def Q7(o:Oper):Option Nat:=match o.dst with
  |some d=>match o.op with
    | .alloc _=>some d
    | .box _ _=>some d
    | .makeSlice _ _ _=>some d
    | .buildSlice _ 0 _=>some d
    | .slice _ _ _ _ (some _)=>some d
    | .call ⟨.builtin .append,_,_⟩=>some d
    |_=>none
  |none=>none
def qV(av:List Nat):List Oper->AS->Option AS
  |[],s=>some s
  |o::os,s=>match Q7 o with
    |some d=>match xl s av d with
      |some s'=>qV av os s'
      |none=>none
    |none=>qV av os s
theorem wO{av:List Nat}:∀{os:List Oper}{s s':AS},qV av os s=some s'->Wk s s'
 |[],s,s',h=>by cases h;exact .refl _
 |o::os,s,s',h=>by
  unfold qV at h;split at h
  ·split at h
   ·rename_i h1;exact(Ro h1).trans (wO h)
   ·cases h
  ·exact wO h
inductive RR where
  |ok (s:AS) (us:List Out)
  |need (k:Nat)
  |no
def nB{α:Type}:List α->Bool
  |[]=>true
  |_=>false
def tc(E:Env P)(F:ey)(av fz:List Nat)(N:Nat)(R:List Oper):List Oper->AS->List Out->RR
  |[],s,us=>.ok s us
  |o::os,s,us=>match yu E F av fz N R s o with
    | .ok u=>match nB u.upd||wi s u with
      |true=>match s.app o.dst u with
        |⟨sl,hp⟩=>tc E F av fz N R os ⟨sl,hp⟩ (us++[u])
      |false=>.no
    | .need k=>.need k
    | .no=>.no
theorem Gl{E:Env P}{F:ey}(hF:F.Ok P){av fz:List Nat}{R:List Oper}:∀{os:List Oper}{s:AS}{us:List Out}{s':AS}{us':List Out},tc E F av fz N R os s us=.ok s' us' ->
  eD P N R.toArray os s us (fun s2 us2=>s2=s'/\us2=us')
 |[],s,us,s',us',h=>by cases h;exact⟨rfl,rfl⟩
 |o::os,s,us,s',us',h=>by
  unfold tc at h;split at h
  ·rename_i u hu;split at h
   ·rename_i hn;refine⟨u,MQ hF hu,?_,Gl hF h⟩;cases hu':nB u.upd with
    |true =>
     intro k hk;have:u.upd=[]:=by cases hq:u.upd with |nil=>rfl |cons a b=>rw[hq]at hu';cases hu'
     rw[this]at hk;cases hk
    |false=>rw[hu']at hn;exact vo hn
   ·cases h
  ·cases h
  ·cases h
structure Sys where
  code:Nat->Nat->List Nat->Code->AS->Option (Exit×AS)
  fn:Nat->List Nat->FuncId->List AV->Hp->Option (AV×Hp)
def zf(S:Sys)(base:Nat):ey:=fun av f xs H=>match FQ base (H.map (·.1))with
  |L=>match S.fn (base+100) av f (tA L xs) (tH L H)with
    |some (r,H')=>some (rB L r,hB L H')
    |none=>none
def GF(e:Exit):Bool:=match e with
  | .normal=>true
  |_=>false
def x3(s:AS)(k:Nat):Option AS:=match s.blk k with
  |some (.row sz es)=>some ⟨fU (AV.fz k sz es) s.sl,dp (AV.fz k sz es) k s.hp⟩
  |_=>none
theorem Pc{s s':AS}{k:Nat}(h:x3 s k=some s'):Wk s s':=by
 unfold x3 at h;split at h
 ·rename_i hk;cases h;exact Wk.freeze hk
 ·cases h
def rT(E:Env P)(F:ey)(av:List Nat)(N:Nat)(A:List Oper)(d:Bool):Nat->List Nat->AS->Option AS
  |0,_,_=>none
  |n+1,fz,s0=>match tc E F av fz N A A s0 []with
    | .ok s' us=>match d with
      |false=>some s'
      |true=>match chk A us s0 with
        |true=>some s'
        |false=>none
    | .need k=>match x3 s0 k with
      |some ⟨sl,hp⟩=>rT E F av N A d n fz ⟨sl,hp⟩
      |none=>match gS k fz with
        |true=>none
        |false=>rT E F av N A d n (k::fz) s0
    | .no=>none
theorem yV{E:Env P}{F:ey}(hF:F.Ok P){av:List Nat}{id:Nat}{A:Array Oper}{d:Bool}(b9:A.toList.all nd=true):∀{n:Nat}{fz:List Nat}{s s1:AS},rT E F av N A.toList d n fz s=some s1 ->
  aR P N (.region id A d) (fun e' s'=>e'=.normal/\s'=s1) s
 |0,fz,s,s1,h=>by cases h
 |n+1,fz,s,s1,h=>by
  unfold rT at h;split at h
  ·rename_i s' us h1;refine Bl (Q:=fun e' s'=>e'=.normal/\s'=s1) (k:=[]) b9 (fun _=>(default:Tys P).mix) (tn ?_ (Gl hF h1));rintro s2 us2 ⟨hs,hu⟩;rw[hs,hu];split at h
   ·obtain rfl:=Option.some.inj h;exact⟨(fun e=>by cases e),rfl,rfl⟩
   ·split at h
    ·rename_i hc;obtain rfl:=Option.some.inj h;exact⟨fun _=>hc,rfl,rfl⟩
    ·cases h
  ·split at h
   ·rename_i sl hp hf;exact mM (Pc hf) (yV hF b9 h)
   ·split at h
    ·cases h
    ·exact yV hF b9 h
  ·cases h
def lY(E:Env P)(S:Sys)(N base:Nat)(av:List Nat)(c:Code)(s:AS):Option (Exit×AS):=match c with
  | .skip=>some (.normal,s)
  | .ret=>some (.ret,s)
  | .exit id=>some (.exit id,s)
  | .seq x y=>match S.code N base av x s with
    |some (e,s1)=>match GF e with
      |true=>S.code N base av y s1
      |false=>some (e,s1)
    |none=>none
  | .block id c=>match S.code N base av c s with
    |some (e,s1)=>match e with
      | .exit id'=>match XK id' id with
        |true=>some (.normal,s1)
        |false=>some (.exit id',s1)
      |e=>some (e,s1)
    |none=>none
  | .cond c x y=>match bM s c with
    |some (.v (.bool b))=>match b with
      |true=>S.code N base av x s
      |false=>S.code N base av y s
    |_=>none
  | .loop c=>match S.code N base av c s with
    |some (e,s1)=>match GF e with
      |true=>match G5 s1 with
        |⟨sl,hp⟩=>S.code N base av (.loop c) ⟨sl,hp⟩
      |false=>some (e,s1)
    |none=>none
  | .region id A d=>match qS A.toList with
    |true=>match qV av A.toList s with
      |some s0=>match rT E (zf S base) av N A.toList d 20 [] s0 with
        |some s'=>some (.normal,s')
        |none=>none
      |none=>none
    |false=>none
  |_=>none
def rj(st:Nat):List Nat->AS->Option AS
  |[],s=>some s
  |k::ks,s=>match s.blk k with
    |some y=>match wY s 100 st with
      |d=>match s.freshB d with
        |true=>rj st ks (DI s k d y)
        |false=>none
    |none=>none
theorem y8{st:Nat}:∀{ks:List Nat}{s s':AS},rj st ks s=some s'->Wk s s'
 |[],s,s',h=>by cases h;exact .refl _
 |k::ks,s,s',h=>by
  unfold rj at h;split at h
  ·rename_i y hy;simp only at h;split at h
   ·rename_i hf;exact(Wk.rk (s:=s) hy hf).trans (y8 h)
   ·cases h
  ·cases h
def DW:Nat->List Nat->List Nat
  |_,[]=>[]
  |n,_::l=>n::DW (n+1) l
def yU:List Nat->List Nat
  |[]=>[]
  |k::ks=>match XU k 1000 with
    |true=>k::yU ks
    |false=>yU ks
def oT(sl:aX):List Nat->aX
  |[]=>[]
  |t::ts=>match lk sl t with
    |some x=>(t,some x)::oT sl ts
    |none=>oT sl ts
theorem xf{sl:aX}:∀{ts:List Nat}{t:Nat}{x:AV},lk (oT sl ts) t=some x->lk sl t=some x
 |[],t,x,h=>by cases h
 |t'::ts,t,x,h=>by
  unfold oT at h;split at h
  ·rename_i y hy;rw[aq]at h;split at h
   ·rename_i e;cases h;rw[e];exact hy
   ·exact xf h
  ·exact xf h
def wV:List ResultVar->List Nat
  |[]=>[]
  |r::rs=>(match r with
    | .tmp t=>t
    | .cell t _=>t)::wV rs
def uK(P:abe)[Inhabited (Tys P)](rs:List ResultVar)(Hk:List Nat)(s:AS):Option (AV×Hp):=match nE P s rs with
  |some ys=>some (ck ys,nh s (oN s 300 (AV.nms ys++Hk) []))
  |none=>none
theorem Cm{rs:List ResultVar}{Hk:List Nat}{s:AS}{r:AV}{H':Hp}(h:uK P rs Hk s=some (r,H')):∃xs,ResL P s rs xs/\aM s (ck xs) r H':=by
 unfold uK at h;split at h
 ·rename_i ys hy;cases h;exact⟨ys,yz hy,.keep (fun k z hz=>qY hz)⟩
 ·cases h
def wE(P:abe)[Inhabited (Tys P)](av:List Nat)(rs:List ResultVar)(Hk:List Nat)(s:AS):Option (AV×Hp):=match oN s 300 (AV.nms ((oT s.sl (wV rs)).filterMap (·.2))++Hk) []with
  |K=>match yU K with
    |[]=>uK P rs Hk s
    |k::ks=>match rj 700 (k::ks) ⟨oT s.sl (wV rs),nh s K⟩with
      |some s2=>match rj (mx 299 av+1) (DW 700 (k::ks)) s2 with
        |some s3=>uK P rs Hk s3
        |none=>none
      |none=>none
theorem O1{av:List Nat}{rs:List ResultVar}{Hk:List Nat}{s:AS}{r:AV}{H':Hp}(h:wE P av rs Hk s=some (r,H')):∃s2,Wk s s2/\∃xs,ResL P s2 rs xs/\aM s2 (ck xs) r H':=by
 unfold wE at h;simp only at h;split at h
 ·exact⟨s,.refl _,Cm h⟩
 ·split at h
  ·rename_i s2 h2;split at h
   ·rename_i s3 h3;exact⟨s3,((z3 (fun t x=>xf) (fun k x=>qY)).trans (y8 h2)).trans (y8 h3),Cm h⟩
   ·cases h
  ·cases h
def uX:Hp->Bool
  |[]=>true
  |(k,_)::l=>Nat.ble 1000 k&&uX l
theorem CL:∀{H:Hp}{k:Nat}{z:Blk},uX H=true->lk H k=some z->1000<=k
 |[],k,z,_,h=>by cases h
 |(k',x)::l,k,z,h0,h=>by
  simp only[uX,ZW,XS]at h0;rw[aq]at h;split at h
  ·rename_i e;rw[e];exact h0.1
  ·exact CL h0.2 h
def xd(E:Env P)(S:Sys)(base:Nat)(av:List Nat)(f:FuncId)(xs:List AV)(H:Hp):Option (AV×Hp):=match E.fe f with
  |some fe=>match XK fe.f f&&uX H with
    |true=>match oZ 0 xs with
      |some sl=>match S.code fe.fn.ntmps base av fe.c ⟨sl,H⟩with
        |some (e,s1)=>match tE e with
          |true=>wE P av fe.rs (H.map (·.1)) s1
          |false=>none
        |none=>none
      |none=>none
    |false=>none
  |none=>none
def ev(E:Env P)(n:Nat):Sys:=Nat.rec ⟨fun _ _ _ _ _=>none,fun _ _ _ _ _=>none⟩ (fun _ S=>⟨lY E S,xd E S⟩) n
structure SysOk(P:abe)(S:Sys):Prop where
  code:∀N base av c s e s1,S.code N base av c s=some (e,s1)->aR P N c (fun e' s'=>e'=e/\s'=s1) s
  fn:∀base av f xs H r H',S.fn base av f xs H=some (r,H')->Con P f xs H r H'
theorem TA{P:abe}{S:Sys}(h:SysOk P S)(base:Nat):(zf S base).Ok P:=by
 intro av f xs H r H' h1;unfold zf at h1;simp only at h1;split at h1
 ·rename_i h2;cases h1;exact BF (h.fn _ _ _ _ _ _ _ h2)
 ·cases h1
theorem LG{E:Env P}{S:Sys}(h:SysOk P S){base:Nat}{av:List Nat}{f:FuncId}{xs:List AV}{H H':Hp}{r:AV}(h1:xd E S base av f xs H=some (r,H')):Con P f xs H r H':=by
 unfold xd at h1;split at h1
 ·rename_i fe Xi;split at h1
  ·rename_i hc;simp only[ZW]at hc;have hf:=ZT hc.1;subst hf;split at h1
   ·rename_i sl iu;cases uh iu;split at h1
    ·rename_i e s1 h2;split at h1
     ·rename_i he;refine ye fe.hf fe.hb fe.hn fe.hrs rfl (fun k z hz=>CL hc.2 hz) ?_;refine Ov (h.code _ _ _ _ _ _ _ h2) ?_;rintro e' s' ⟨he',hs'⟩;rw[he',hs'];obtain⟨s2,hw,hx⟩:=O1 h1;refine⟨s2,hw,?_⟩;cases e <;> first |exact hx |exact(nomatch he)
     ·cases h1
    ·cases h1
   ·cases h1
  ·cases h1
 ·cases h1
theorem uP(E:Env P):∀n m,m<=n->SysOk P (ev E m)
 |0,m,hm=>by
  have:m=0:=by omega
  subst this;exact { code:=(fun _ _ _ _ _ _ _ h=>by cases h),fn:=(fun _ _ _ _ _ _ _ h=>by cases h) }
 |n+1,m,hm=>by
  by_cases Wm:m<=n
  ·exact uP E n m Wm
  ·have : m = n + 1 := by omega
   subst this;have ih:=uP E n n (Z0 _);refine⟨?_,fun base av f xs H r H' h=>LG ih h⟩;intro N base av c s e s1 h
   change lY E (ev E n) N base av c s=some (e,s1)at h
   cases c with
   |skip=>cases h;exact BZ ⟨rfl,rfl⟩
   |ret=>cases h;exact Dv ⟨rfl,rfl⟩
   |exit id=>cases h;exact D4 ⟨rfl,rfl⟩
   |seq x y =>
    simp only[lY]at h;split at h
    ·rename_i e1 s2 h1;refine D5 fun K hK=>fv (ih.code _ _ _ _ _ _ _ h1) ?_
     rintro e' s' ⟨he,hs⟩;rw[he,hs];split at h
     ·rename_i hr;cases e1 <;> first |exact hK _ (ih.code _ _ _ _ _ _ _ h) |exact(nomatch hr)
     ·rename_i hr;obtain⟨rfl,rfl⟩:=Prod.mk.inj (Option.some.inj h);cases e1 <;> first |exact⟨rfl,rfl⟩ |exact(nomatch hr)
    ·cases h
   |block id c =>
    simp only[lY]at h;split at h
    ·rename_i e1 s2 h1;refine Ez (fv (ih.code _ _ _ _ _ _ _ h1) ?_);rintro e' s' ⟨he,hs⟩;rw[he,hs];split at h
     ·rename_i id';show match XK id' id with |true=>_ |false=>_
      split at h
      ·rename_i hb;obtain⟨rfl,rfl⟩:=Prod.mk.inj (Option.some.inj h);simp only[];exact⟨trivial,trivial⟩
      ·rename_i hb;obtain⟨rfl,rfl⟩:=Prod.mk.inj (Option.some.inj h);simp only[];exact⟨trivial,trivial⟩
     ·rename_i az;obtain⟨rfl,rfl⟩:=Prod.mk.inj (Option.some.inj h);cases e1 <;> first |exact⟨rfl,rfl⟩ |exact aa8 rfl (az _)
    ·cases h
   |cond c x y =>
    simp only[lY]at h;split at h
    ·rename_i b hb;split at h
     ·exact uY (aY hb) (fun _=>ih.code _ _ _ _ _ _ _ h) (fun e=>by cases e)
     ·exact uY (aY hb) (fun e=>by cases e) (fun _=>ih.code _ _ _ _ _ _ _ h)
    ·cases h
   |loop c =>
    refine nc (fun m s=>m<=n+1/\(ev E m).code N base av (.loop c) s=some (e,s1)) (n:=n+1) (.refl _) ⟨Z0 _,h⟩ ?_;rintro m s ⟨hm,hI⟩ K hK;cases m with
    |zero=>cases hI
    |succ m =>
     change lY E (ev E m) N base av (.loop c) s=some (e,s1)at hI
     have ihm:=uP E n m oz;simp only[lY]at hI;split at hI
     ·rename_i e1 s2 h1;refine fv (ihm.code _ _ _ _ _ _ _ h1) ?_;rintro e' s' ⟨he,hs⟩;rw[he,hs];split at hI
      ·rename_i hr;cases e1 <;> first |exact hK _ _ m (Pm s2) ⟨by omega,hI⟩ oz |exact(nomatch hr)
      ·rename_i hr;obtain⟨rfl,rfl⟩:=Prod.mk.inj (Option.some.inj hI);cases e1 <;> first |exact⟨rfl,rfl⟩ |exact(nomatch hr)
     ·cases hI
   |region id A d =>
    simp only[lY]at h;split at h
    ·rename_i b9;split at h
     ·rename_i s0 h0;refine mM (wO h0) ?_;split at h
      ·rename_i s' h1;obtain⟨rfl,rfl⟩:=Prod.mk.inj (Option.some.inj h);exact yV (TA ih base) (yK b9) h1
      ·cases h
     ·cases h
    ·cases h
   |_=>cases h
theorem dH(E:Env P)(n:Nat){base:Nat}{av:List Nat}{f:FuncId}{xs:List AV}{H H':Hp}{r:AV}(h:(ev E n).fn base av f xs H=some (r,H')):Con P f xs H r H' :=
 (uP E n n (Z0 _)).fn _ _ _ _ _ _ _ h
end Go.Lw
namespace Go.Lw
structure Nm(n e:Nat)(l:List Rat):Prop where
  five:n<=5
  nl:Nl n l
  cb:Cb e l
theorem Nm.mono{n e f:Nat}{l:List Rat}(h:Nm n e l)(hf:e<=f):Nm n f l:=⟨h.five,h.nl,h.cb.mono hf⟩
theorem Nm.rt{n e:Nat}{l:List Rat}(h:Nm n e l)(he:e<=lm n):NR (l.map Go.Lw.rt) e:=by
 have pZ:=mR n;refine⟨?_,by have:=h.nl.len5 h.five;rw[ZU];omega,by rw[iA];exact h.cb⟩;intro x hx;obtain⟨q,hq,rfl⟩:=Yr.1 hx;exact(h.cb.qs oz hq).ok
theorem Nm.chk{n e:Nat}{l:List Rat}(h:Nm n e l):cG n (l.map Go.Lw.rt)=0:=Fe h.nl
theorem Nm.add{n e f:Nat}{a b:List Rat}(ha:Nm n e a)(hb:Nm n f b):Nm n (e+f+1) (sh n (T.add n (am n a) (am n b))):=by
 refine⟨ha.five,lX _ _,?_⟩;rw[<- lV];exact(ha.cb.plus hb.cb).sh (rJ ha.nl hb.nl)
theorem Nm.neg{n e:Nat}{a:List Rat}(ha:Nm n e a):Nm n e (sh n (T.neg n (am n a))):=by
 refine⟨ha.five,lX _ _,?_⟩;rw[<- pq];exact ha.cb.minus.sh (re ha.nl)
theorem Nm.sub{n e f:Nat}{a b:List Rat}(ha:Nm n e a)(hb:Nm n f b):Nm n (e+f+1) (sh n (T.add n (am n a) (T.neg n (am n b)))):=by
 refine⟨ha.five,lX _ _,?_⟩;rw[<- pq,<- lV];exact(ha.cb.plus hb.cb.minus).sh (rJ ha.nl (re hb.nl))
abbrev kB(r n:Nat):Nat:=eB r n
theorem Nm.mul{ts:LL}{r n e f:Nat}(tw:Tw ts r)(hn:n=ts.length){a b:List Rat}(ha:Nm n e a)(hb:Nm n f b):Nm n (e+f+kB r n) (sh n (T.mul (aQ ts) n (am n a) (am n b))):=by
 subst hn;refine⟨ha.five,lX _ _,?_⟩;have h1:=fN ts ts.length tw.ok.1 ts.length ts.length a b (Z0 _) (Z0 _) ha.nl hb.nl;have h2:=Cb.mul tw.ok (k:=ts.length) (Z0 ts.length) (Z0 _) ha.nl hb.nl ha.cb hb.cb;rw[<- h1.2];exact h2.sh h1.1
theorem Nm.ofQ{n e:Nat}(hn:n<=5){q:Rat}(h:Cb e [q]):Nm n e (sh 0 (q:Rat)):=by
 refine⟨hn,(lX 0 q).mono (aaf _),?_⟩;have:=h.sh (k:=0) (.inr ⟨0,Z0 _,rfl⟩);exact this
theorem Cb.one{e:Nat}{q:Rat}(h:Qb e q):Cb e [q]:=by
 refine⟨q.den,q.num.natAbs,⟨by have:=q.den_nz;omega,?_⟩,Xu h.2,Xu h.1⟩;intro x hx;rw[Z3.1 hx];refine⟨q.num,?_,Z0 _⟩
 have hd:((q.den:Int):Rat)≠0:=by
  intro h0;have:(q.den:Int)=0:=Rat.intCast_eq_zero_iff.1 h0;have:=q.den_nz;omega
 have hq:q=(q.num:Rat)/((q.den:Int):Rat):=by
  rw[<- Rat.divInt_eq_div,Zg]
 have h1:(q.num:Rat)/((q.den:Int):Rat)*((q.den:Int):Rat)=(q.num:Rat):=Rat.div_mul_cancel hd;rw[<- hq]at h1;exact h1
theorem By(n:Nat)(q:Rat):am n (sh 0 (q:Rat))=T.ofQ n q:=by
 show am n (if q=0 then[]else[q])=_;split
 ·rename_i h;subst h;rw[nv]
  induction n with
  |zero=>rfl
  |succ n ih=>simp only[T.zero,T.ofQ,ih]
 ·exact qL n q
theorem Hw{ts:LL}{r e:Nat}(tw:Tw ts r){a:List Rat}(ha:Nm ts.length e a):bD (ts.map (List.map rt)) [a.map rt]=0:=by
 refine yI tw.chk (fun x hx=>?_);rw[Z3.1 hx,ZU];exact ha.chk
theorem sR{ts:LL}{r e f:Nat}(tw:Tw ts r){a b:List Rat}(ha:Nm ts.length e a)(hb:Nm ts.length f b):bD (ts.map (List.map rt)) [a.map rt,b.map rt]=0:=by
 refine yI tw.chk (fun x hx=>?_);rw[ZU];simp only[aai,aap,or_false]at hx;rcases hx with rfl |rfl
 ·exact ha.chk
 ·exact hb.chk
theorem BT{s:AS}{k:Nat}{x:Blk}(h:lk s.hp k=some x):∀k' z,lk [(k,some x)] k'=some z->lk s.hp k'=some z:=by
 intro k' z hz;obtain⟨rfl,h9⟩:=kA hz;cases h9;exact h
abbrev subT(ts:LL)(x y:T ts.length):T ts.length:=T.add ts.length x (T.neg ts.length y)
theorem Sub.fn0(f:FuncId):Sub (.v (.func (.func f) #[] #[])) (.fn f []):=fun g S m v h=>by
 cases h;exact .fn rfl (fun j u c hu hc=>by simp at hc)
def uL(ts:LL)(x y:T ts.length):Bool:=decide (T.sgn (aQ ts) ts.length (subT ts x y)=0)
theorem zL{n:Int}(h:-9223372036854775808<=n/\n<=9223372036854775807):Qs ((n:Rat)):=by
 refine⟨2,by unfold dj;omega,?_,?_⟩
 ·unfold Lz;simp only[Rat.num_intCast,Nat.reducePow];omega
 ·unfold Lz;simp only[Rat.den_intCast];decide
open Go.Proofs
theorem BB{ts:LL}{r e f:Nat}(tw:Tw ts r){a b:List Rat}(ha:Nm ts.length e a)(hb:Nm ts.length f b)(he:e+f<=lm ts.length) :
  FP 335 [cX ts,nA a,nA b] (.tup [nA (sh ts.length (T.add ts.length (am ts.length a) (am ts.length b))),.v .nilIface]):=by
 have h:=PE (ts.map (List.map rt)) r tw.tr (a.map rt) (b.map rt) e f (ha.rt oz) (hb.rt oz) (by rw[ZU];exact he);have h0:bD (ts.map (List.map rt)) [a.map rt,b.map rt]=0:=sR tw ha hb;rw[h0,aa2 rfl,nC,fS,fS,iA,iA,ZU]at h;exact h
theorem EZ{ts:LL}{r e f:Nat}(tw:Tw ts r){a b:List Rat}(ha:Nm ts.length e a)(hb:Nm ts.length f b)(he:e+f<=lm ts.length) :
  FP 331 [cX ts,nA a,nA b] (.tup [nA (sh ts.length (T.add ts.length (am ts.length a) (T.neg ts.length (am ts.length b)))),.v .nilIface]):=by
 have h:=QY (ts.map (List.map rt)) r tw.tr (a.map rt) (b.map rt) e f (ha.rt oz) (hb.rt oz) (by rw[ZU];exact he);have h0:bD (ts.map (List.map rt)) [a.map rt,b.map rt]=0:=sR tw ha hb;rw[h0,aa2 rfl,nC,fS,fS,iA,iA,ZU]at h;exact h
theorem A0{ts:LL}{r e f:Nat}(tw:Tw ts r){a b:List Rat}(ha:Nm ts.length e a)(hb:Nm ts.length f b)(he:e+f<=lm ts.length) :
  FP 336 [cX ts,nA a,nA b] (.tup [nA (sh ts.length (T.mul (aQ ts) ts.length (am ts.length a) (am ts.length b))),.v .nilIface]):=by
 have h:=J6 (ts.map (List.map rt)) r tw.tr (a.map rt) (b.map rt) e f (ha.rt oz) (hb.rt oz) (by rw[ZU];exact he);have h0:bD (ts.map (List.map rt)) [a.map rt,b.map rt]=0:=sR tw ha hb;rw[h0,aa2 rfl,nC,fS,fS,qJ,iA,iA,ZU]at h;exact h
theorem QW{ts:LL}{r e f:Nat}(tw:Tw ts r){a b:List Rat}(ha:Nm ts.length e a)(hb:Nm ts.length f b)(he:e+f+1<=lm ts.length) :
  FP 253 [cX ts,nA a,nA b] (.tup [i64 (T.sgn (aQ ts) ts.length (T.add ts.length (am ts.length a) (T.neg ts.length (am ts.length b)))),.v .nilIface]):=by
 have h:=Jv (ts.map (List.map rt)) r tw.tr (a.map rt) (b.map rt) e f (ha.rt oz) (hb.rt oz) (by rw[ZU];exact he);have h0:bD (ts.map (List.map rt)) [a.map rt,b.map rt]=0:=sR tw ha hb;rw[h0,aa2 rfl,nC,fS,fS,qJ,iA,iA,ZU]at h;exact h
theorem GX{ts:LL}{r e:Nat}(tw:Tw ts r){a:List Rat}(ha:Nm ts.length e a)(he:e<=lm ts.length) :
  FP 258 [cX ts,nA a] (.tup [i64 (T.sgn (aQ ts) ts.length (am ts.length a)),.v .nilIface]):=by
 have h:=Pi (ts.map (List.map rt)) r tw.tr (a.map rt) e (ha.rt he) (by rw[ZU];exact he);have h0:bD (ts.map (List.map rt)) [a.map rt]=0:=Hw tw ha;rw[h0,aa2 rfl,nC,fS,qJ,iA,ZU]at h;exact h
theorem FU{ts:LL}{r e:Nat}(tw:Tw ts r){a:List Rat}(ha:Nm ts.length e a)(he:e<=lm ts.length) :
  FP 221 [cX ts,nA a] (.tup [nA (sh ts.length (T.neg ts.length (am ts.length a))),.v .nilIface]):=by
 have h:=TF (ts.map (List.map rt)) r tw.tr (a.map rt) e (ha.rt he) (by rw[ZU];exact he);have h0:bD (ts.map (List.map rt)) [a.map rt]=0:=Hw tw ha;rw[h0,aa2 rfl,nC,fS,iA,ZU]at h;exact h
theorem wL{ts:LL}{r:Nat}(tw:Tw ts r):FP 125 [cX ts] (.v .nilIface):=by
 have h:=GM (ts.map (List.map rt)) r tw.tr;rw[tw.chk,nC]at h;exact h
theorem SW{q:Rat}(h:Qs q):FP 120 [qA q] (nA (sh 0 (q:Rat))):=by
 have h1:=Ni (rt q) h.ok (by rw[bQ];exact h);rw[bQ]at h1;exact h1
def iL(s:ByteArray)(i:Nat):Nat:=(s.data.getD i 0).toNat
def gX(c:Nat):Bool:=decide (97<=c/\c<=122)||decide (65<=c/\c<=90)
def qg(c:Nat):Bool:=decide (48<=c/\c<=57)
def kU(c:Nat):Bool:=gX c||qg c||decide (c=95)
def l8(s:ByteArray):Nat->Nat->Bool
  |_,0=>true
  |i,n+1=>kU (iL s i)&&l8 s (i+1) n
def kQ(s:ByteArray):Bool:=decide (0<s.size/\s.size<=24)&&gX (iL s 0)&&l8 s 0 s.size
def iM(s:ByteArray):Nat->Nat->Nat
  |i,0=>i
  |i,n+1=>if kU (iL s i)then iM s (i+1) n else i
theorem H0(s:ByteArray):∀(n i:Nat),i<=iM s i n/\iM s i n<=i+n
 |0,i=>⟨Z0 _,Z0 _⟩
 |n+1,i=>by
  simp only[iM];split
  ·have:=H0 s n (i+1);omega
  ·omega
theorem Bm(s:ByteArray):∀(n i:Nat),iM s i n=i+n↔l8 s i n=true
 |0,i=>by simp[iM,l8]
 |n+1,i=>by
  simp only[iM,l8,ZW];split
  ·rename_i h;rw[<- Bm s n (i+1),show i+(n+1)=i+1+n by omega];simp[h]
  ·rename_i h;constructor
   ·intro h';omega
   ·intro h';exact aa8 h'.1 h
theorem RK{c:Nat}(h:gX c=true):kU c=true:=by unfold kU;rw[h];rfl
def dA(s:ByteArray):Nat:=if 0<s.size/\gX (iL s 0)=true then iM s 1 (s.size-1)else 0
theorem KR(s:ByteArray):kQ s=decide (0<dA s/\dA s=s.size/\dA s<=24):=by
 unfold kQ dA;rw[Zq];simp only[ZW,aa3]
 by_cases h:0<s.size/\gX (iL s 0)=true
 ·rw[aa2 h];obtain⟨h1,h2⟩:=h;have h3:=Bm s (s.size-1) 1
  have h4:l8 s 0 s.size=l8 s 1 (s.size-1):=by
   obtain⟨n,hn⟩:∃n,s.size=n+1:=⟨s.size-1,by omega⟩
   rw[hn];simp only[l8,RK h2,Bool.true_and,Nat.add_sub_cancel]
  have h5:=H0 s (s.size-1) 1;rw[h4,<- h3];constructor
  ·rintro⟨⟨h6,h7⟩,h8⟩;omega
  ·rintro⟨h6,h7,h8⟩;exact⟨⟨by omega,h2⟩,by omega⟩
 ·rw[aa1 h];constructor
  ·rintro⟨⟨h1,h2⟩,h3⟩;exact aa8 ⟨h1.1,h2⟩ h
  ·rintro⟨h1,_⟩;omega
def ft(a b:ByteArray):Bool:=a.toList==b.toList
def fP(n:Nat)(err:Nat->Nat):Nat:=iG ((List.range n).map err)
theorem eS{n i:Nat}{err:Nat->Nat}(hi:i<n)(h:∀j,j<i->err j=0)(he:err i≠0):fP n err=err i:=by
 unfold fP
 have e:List.range n=List.range i++(i::(List.range' (i+1) (n-(i+1)))):=by
  obtain⟨d,rfl⟩:∃d,n=i+(d+1):=⟨n-i-1,by omega⟩
  rw[List.range_eq_range',List.range_eq_range',<- List.range'_append_1,XF,List.range'_succ,show i+(d+1)-(i+1)=d by omega]
 rw[e,aas,Ad _ _ (o8 (fun x hx=>by
  obtain⟨j,hj,rfl⟩:=Yr.1 hx;exact h j (YR.1 hj)))]
 show(if err i≠0 then err i else _)=_;rw[aa2 he]
theorem sS{n:Nat}{err:Nat->Nat}(h:∀j,j<n->err j=0):fP n err=0 :=
 o8 (fun x hx=>by obtain⟨j,hj,rfl⟩:=Yr.1 hx;exact h j (YR.1 hj))
theorem HU{n:Nat}{err:Nat->Nat}(h:fP n err=0):∀j,j<n->err j=0:=fun j hj =>
 rY h _ (Yr.2 ⟨j,YR.2 hj,rfl⟩)
structure Mk where
  name:ByteArray
  x:Rt
  y:Rt
instance:Inhabited Mk:=⟨⟨default,⟨false,[],[]⟩,⟨false,[],[]⟩⟩⟩
def Mk.av(m:Mk):AV:=.agg [.v (.string m.name),bl m.x.neg,ws m.x.num,ws m.x.den,bl m.y.neg,ws m.y.num,ws m.y.den]
structure Bd where
  name:ByteArray
  pts:List Mk
instance:Inhabited Bd:=⟨⟨default,[]⟩⟩
def Bd.av(b:Bd):AV:=.agg [.v (.string b.name),.lst 7 (b.pts.map Mk.av)]
structure Jt where
  name:ByteArray
  kind:Int
  a:Int
  point:Int
  b:Int
  on:Int
  to:Int
instance:Inhabited Jt:=⟨⟨default,0,0,0,0,0,0⟩⟩
def Jt.av(j:Jt):AV:=.agg [.v (.string j.name),i64 j.kind,i64 j.a,i64 j.point,i64 j.b,i64 j.on,i64 j.to]
structure Dr where
  name:ByteArray
  body:Int
instance:Inhabited Dr:=⟨⟨default,0⟩⟩
def Dr.av(d:Dr):AV:=.agg [.v (.string d.name),i64 d.body]
structure Li where
  name:ByteArray
  bo:List Bd
  jo:List Jt
  dv:List Dr
def Li.av(l:Li):AV:=.agg [.v (.string l.name),.lst 2 (l.bo.map Bd.av),.lst 7 (l.jo.map Jt.av),.lst 2 (l.dv.map Dr.av)]
structure Mk.ok(m:Mk):Prop where
  x:m.x.ok
  y:m.y.ok
  qx:Qb 1000 m.x.q
  qy:Qb 1000 m.y.q
structure Bd.ok(b:Bd):Prop where
  pts:∀m∈b.pts,m.ok
  names:∀m∈b.pts,m.name.size<=281474976710656
  ll:b.pts.length<=281474976710656
  name:b.name.size<=281474976710656
structure Li.ok(l:Li):Prop where
  name:l.name.size<=281474976710656
  bo:∀b∈l.bo,b.ok
  jnames:∀j∈l.jo,j.name.size<=281474976710656
  dnames:∀d∈l.dv,d.name.size<=281474976710656
  lb:l.bo.length<=281474976710656
  lj:l.jo.length<=281474976710656
  ld:l.dv.length<=281474976710656
def g9(l:List ByteArray)(i:Nat):Bool:=(l.take i).any (fun n=>ft n (l.getD i default))
def iS(ps:List Mk)(i:Nat):Nat :=
  if kQ (ps.getD i default).name=false then 5 else if g9 (ps.map Mk.name) i=true then 6
  else if(ps.getD i default).x.valid=true/\(ps.getD i default).y.valid=true then 0 else 3
def fx(bs:List Bd)(i:Nat):Nat :=
  if kQ (bs.getD i default).name=false then 5 else if g9 (bs.map Bd.name) i=true then 6
  else if 8<(bs.getD i default).pts.length then 4 else fP (bs.getD i default).pts.length (iS (bs.getD i default).pts)
def bU(i:Int)(n:Nat):Bool:=decide (0<=i/\i<n)
def eV(l:Li)(i:Int):List Mk:=(l.bo.getD i.toNat default).pts
def gw(l:Li)(j:Jt):Nat :=
  if j.kind≠0/\j.kind≠1 then 7
  else if bU j.a l.bo.length=false\/bU j.b l.bo.length=false then 9
  else if j.a=j.b then 13
  else if bU j.point (eV l j.a).length=false\/bU j.on (eV l j.b).length=false then 9
  else if j.kind=0 then(if j.to≠0 then 2 else 0)
  else if bU j.to (eV l j.b).length=false then 9
  else if((eV l j.b).getD j.on.toNat default).x.q=((eV l j.b).getD j.to.toNat default).x.q/\((eV l j.b).getD j.on.toNat default).y.q=((eV l j.b).getD j.to.toNat default).y.q then 8
  else 0
def i9(l:Li)(i:Nat):Nat :=
  if kQ (l.jo.getD i default).name=false then 5 else if g9 (l.jo.map Jt.name) i=true then 6 else gw l (l.jo.getD i default)
def eT(l:Li)(i:Nat):Nat :=
  if kQ (l.dv.getD i default).name=false then 5 else if g9 (l.dv.map Dr.name) i=true then 6
  else if bU (l.dv.getD i default).body l.bo.length=false then 9
  else if(l.dv.getD i default).body=0 then 7
  else if(l.dv.take i).any (fun d=>decide (d.body=(l.dv.getD i default).body))=true then 6 else 0
def kX(l:Li):Nat:=fP l.bo.length (fx l.bo)
def gb(l:Li):Nat:=if 16<l.jo.length then 4 else fP l.jo.length (i9 l)
def jG(l:Li):Nat:=if 2<l.dv.length then 4 else fP l.dv.length (eT l)
def a5(l:Li):Nat :=
  if kQ l.name=false then 5 else if l.bo.length=0 then 10 else if 8<l.bo.length then 4
  else if kX l≠0 then kX l else if gb l≠0 then gb l else jG l
theorem cI{α:Type}{l:List α}{i:Nat}{x d:α}(h:l[i]?=some x):l.getD i d=x:=by rw[ZS,h];rfl
theorem vj{α:Type}(f:α->ByteArray){l:List α}{i:Nat}{x:α}(h:l[i]?=some x):g9 (l.map f) i=(l.take i).any (fun y=>ft (f y) (f x)):=by
 unfold g9;have h1:(l.map f).getD i default=f x:=cI (by rw[ZZ,h];rfl);rw[h1,<- map_take,List.any_map];rfl
theorem ri{α:Type}{p:α->Bool}{l:List α}{k:Nat}{x:α}(h:l[k]?=some x)(hn:(l.take k).any p=false)(hp:p x=false):(l.take (k+1)).any p=false:=by
 rw[d7 h,List.any_append,hn];simp[hp]
theorem rU{α:Type}{p:α->Bool}{l:List α}{k i:Nat}{x:α}(h:l[k]?=some x)(hk:k<i)(hp:p x=true):(l.take i).any p=true:=by
 rw[Ys];exact⟨x,ZR (by rw[aak,aa2 hk];exact h),hp⟩
theorem GE(s:ByteArray):(s.toList==ByteArray.toList ⟨#[]⟩)=decide (s.size=0):=by
 have e:ByteArray.toList ⟨#[]⟩=[]:=Go.ByteArray.toList_eq _;have h:s.toList.length=s.size:=by rw[Go.ByteArray.toList_eq];cases s;rfl
 rw[e,Zq,beq_iff_eq,aa3];constructor
 ·intro h';rw[h']at h;simpa using h.symm
 ·intro h';exact YG oz
theorem D0{s:ByteArray}(h:(s.toList==ByteArray.toList ⟨#[]⟩)=false):0<s.size:=by
 rw[GE,decide_eq_false_iff_not]at h;omega
theorem aW{a b:Nat}(h:aa .lss (a:Int) (b:Int)=true):a<b:=by
 have:(a:Int)<b:=aa4 h;omega
theorem m4{a b:Nat}(h:aa .lss (a:Int) (b:Int)=false):b<=a:=by
 have:¬(a:Int)<b:=aa5 h;omega
theorem Uh{a b:Nat}{p:Bool}(h:cond (aa .lss (a:Int) (b:Int)) p false=true):a<b/\p=true:=by
 cases h1:aa .lss (a:Int) (b:Int)
 ·rw[h1]at h;cases h
 ·rw[h1]at h;exact⟨aW h1,h⟩
theorem SY{a b:Nat}{p:Bool}(h:cond (aa .lss (a:Int) (b:Int)) p false=false):a<b->p=false:=by
 intro h0;have h1:aa .lss (a:Int) (b:Int)=true:=aa6 (by omega:(a:Int)<b);rw[h1]at h;exact h
theorem U2{s:ByteArray}(h:cond (s.toList==ByteArray.toList ⟨#[]⟩) true (!gX (iL s 0))=true):dA s=0:=by
 unfold dA;rw[aa1];rintro⟨h1,h2⟩;rw[GE,aa7 oz,h2]at h;cases h
theorem LV{s:ByteArray}(h:cond (s.toList==ByteArray.toList ⟨#[]⟩) true (!gX (iL s 0))=false):0<s.size/\gX (iL s 0)=true:=by
 cases h1:(s.toList==ByteArray.toList ⟨#[]⟩)
 ·rw[h1]at h;exact⟨D0 h1,by simpa using h⟩
 ·rw[h1]at h;cases h
theorem KD(s:ByteArray):cond (cond (aa .gtr (dA s:Int) 0) (aa .eql (dA s:Int) (s.size:Int)) false) (aa .leq (dA s:Int) 24) false=kQ s:=by
 rw[KR,Zq,aa3];cases h1:aa .gtr (dA s:Int) 0
 ·have:¬(dA s:Int)>0:=aa5 h1;simp;omega
 ·have h1:(dA s:Int)>0:=aa4 h1;cases h2:aa .eql (dA s:Int) (s.size:Int)
  ·have : (dA s : Int) ≠ s.size := by simpa [aa] using h2
   simp;omega
  ·have h2:(dA s:Int)=s.size:=eq_of_beq h2
   have h3:aa .leq (dA s:Int) 24=true↔dA s<=24:=by
    show decide ((dA s:Int)<=24)=true↔_;rw[aa3];omega
   simp only[cond_true,h3];omega
theorem qw{α:Type}(sz:Nat)(f:α->AV)(l:List α)(n:Nat):AV.lst sz (((l.map f).drop 0).take (n-0))=.lst sz ((l.take n).map f):=by
 rw[Nat.sub_zero,aax,map_take]
theorem rm{α:Type}{l:List α}{i k:Nat}{x:α}(h:(l.take i)[k]?=some x):l[k]?=some x/\k<i:=by
 rw[aak]at h;split at h
 ·rename_i hk;exact⟨h,hk⟩
 ·cases h
theorem Q3(i:Int)(n:Nat):cond (aa .geq i 0) (aa .lss i (n:Int)) false=bU i n:=by
 unfold bU;rw[Zq,aa3];cases h:aa .geq i 0
 ·have:¬i>=0:=aa5 h;simp;omega
 ·have h:i>=0:=aa4 h;show decide (i<(n:Int))=true↔_;rw[aa3];omega
theorem i7{i:Int}{n:Nat}(h:bU i n=true):0<=i/\i<n:=aa4 h
theorem xW{p q:Bool}(h:cond (!p) true (!q)=true):p=false\/q=false:=by cases p <;> cases q <;> simp_all
theorem xR{p q:Bool}(h:cond (!p) true (!q)=false):p=true/\q=true:=by cases p <;> cases q <;> simp_all
theorem iN{p:Bool}(h:(!p)=true):p=false:=by cases p <;> simp_all
theorem iC{p:Bool}(h:(!p)=false):p=true:=by cases p <;> simp_all
theorem bG{a b:Nat}(h:aa .gtr (a:Int) (b:Int)=true):b<a:=by
 have:(a:Int)>b:=aa4 h;omega
theorem jq{a b:Nat}(h:aa .gtr (a:Int) (b:Int)=false):a<=b:=by
 have:¬(a:Int)>b:=aa5 h;omega
theorem bt{a b:Nat}(aU:a<=b)(h:aa .lss (a:Int) (b:Int)=false):a=b:=by have:=m4 h;omega
theorem jU{x y:Int}(h:aa .eql x y=true):x=y:=by simpa[aa]using h
theorem lR{x y:Int}(h:aa .eql x y=false):x≠y:=by simpa[aa]using h
theorem xc{x y:Int}(h:aa .neq x y=true):x≠y:=by simpa[aa]using h
theorem Tx{x y:Int}(h:aa .neq x y=false):x=y:=by simpa[aa]using h
theorem KE{k:Int}(h:cond (aa .neq k 0) (aa .neq k 1) false=true):k≠0/\k≠1:=by
 cases h1:aa .neq k 0
 ·rw[h1]at h;cases h
 ·rw[h1]at h;exact⟨xc h1,xc h⟩
theorem KQ{k:Int}(h:cond (aa .neq k 0) (aa .neq k 1) false=false):¬(k≠0/\k≠1):=by
 rintro⟨h1,h2⟩;have e1:aa .neq k 0=true:=by simpa[aa]using h1
 have e2:aa .neq k 1=true:=by simpa[aa]using h2
 rw[e1,e2]at h;cases h
theorem UR{p q r s:Rat}(h:cond (aa .eql (asQ (p-q)) 0) (aa .eql (asQ (r-s)) 0) false=true):p=q/\r=s:=by
 cases h1:aa .eql (asQ (p-q)) 0
 ·rw[h1]at h;cases h
 ·rw[h1]at h;have e1:=w9 (jU h1);have e2:=w9 (jU h);exact⟨by grind,by grind⟩
theorem Mo{p q r s:Rat}(h:cond (aa .eql (asQ (p-q)) 0) (aa .eql (asQ (r-s)) 0) false=false):¬(p=q/\r=s):=by
 rintro⟨rfl,rfl⟩;rw[Rat.sub_self,Rat.sub_self]at h;cases h
theorem F3{l:Li}{i:Int}(h:bU i l.bo.length=true):∃b,l.bo[i.toNat]?=some b/\eV l i=b.pts/\b∈l.bo/\0<=i:=by
 have h1:=i7 h;obtain⟨b,hb⟩:=aJ (l:=l.bo) (i:=i.toNat) oz;exact⟨b,hb,by unfold eV;rw[cI hb],ZR hb,h1.1⟩
theorem Bw{ps:List Mk}{i:Int}(h:bU i ps.length=true):∃m,ps[i.toNat]?=some m/\ps.getD i.toNat default=m/\m∈ps/\0<=i:=by
 have h1:=i7 h;obtain⟨m,hm⟩:=aJ (l:=ps) (i:=i.toNat) oz;exact⟨m,hm,cI hm,ZR hm,h1.1⟩
theorem FD{x y:Int}:aa .eql x y=decide (x=y):=by
 show(x==y)=decide (x=y);rw[Zq,beq_iff_eq,aa3]
theorem RG{n:Nat}(h:aa .eql (n:Int) 0=true):n=0:=by have:=jU h;omega
theorem UI{n:Nat}(h:aa .eql (n:Int) 0=false):n≠0:=by have:=lR h;omega
theorem R8{e:Nat}{q:Rat}(h:Qb e q):Cd q.den (2^e) [q]:=by
 refine⟨Nat.pos_of_ne_zero q.den_nz,fun p hp=>?_⟩;rw[Z3.1 hp];refine⟨q.num,?_,Xu h.1⟩
 have h0:((q.den:Int):Rat)≠0:=by
  intro h0;have:(q.den:Int)=0:=Rat.intCast_eq_zero_iff.1 h0;have:=q.den_nz;omega
 have h1:q=(q.num:Rat)/((q.den:Int):Rat):=by
  rw[<- Rat.divInt_eq_div];exact(Zg q).symm
 have h2:=Rat.div_mul_cancel (a:=(q.num:Rat)) h0;rw[<- h1]at h2;exact h2
theorem H4{e:Nat}:∀{l:List Rat},(∀q∈l,Qb e q)->∃D N,Cd D N l/\D<=2^(e*l.length)/\N<=2^(e*l.length+e)
 |[],_=>⟨1,1,Cd.nil oz,by simp,Nat.one_le_two_pow⟩
 |q::l,h=>by
  obtain⟨D,N,h1,h2,h3⟩:=H4 (l:=l) (fun p hp=>h p (Z8 _ hp));have hq:=h q (aaa ..);have e1:e*(q::l).length=e*l.length+e:=by rw[Z7,Xy,Nat.mul_one]
  have k1:=(h1.scale (Nat.pos_of_ne_zero q.den_nz))
  have k2:=((R8 hq).scale h1.1)
  rw[X6]at k2;refine⟨D*q.den,2^(e*l.length+e+e),?_,?_,?_⟩
  ·refine(Cd.app (a:=[q]) (k2.mono ?_) (k1.mono ?_))
   ·refine aaj (Z4 _ h2) ?_;rw[<- aat];exact cV oz
   ·refine aaj (XZ h3 (Xu hq.2)) ?_;rw[<- aat];exact Z0 _
  ·rw[e1,aat];exact XZ h2 (Xu hq.2)
  ·rw[e1];exact Z0 _
def Rt.wok(r:Rt):Prop:=Ws r.num/\Ws r.den
theorem Rt.wok.ok{r:Rt}{k:Nat}(h:r.wok)(hn:r.num.length<=k)(hd:r.den.length<=k)(hk:k<=100):r.ok:=⟨h.1,h.2,by unfold dj;omega,by unfold dj;omega⟩
theorem Rt.ok.wok{r:Rt}(h:r.ok):r.wok:=⟨h.1,h.2.1⟩
def mZ(l:List (List Rt)):Prop:=∀x∈l,(∀r∈x,r.wok)/\x.length<=281474976710656
theorem mZ.app{a b:List (List Rt)}(ha:mZ a)(hb:mZ b):mZ (a++b):=fun x hx=>by
 rcases ZY.1 hx with h |h
 ·exact ha x h
 ·exact hb x h
structure Pl where
  c:List Rt
  s:List Rt
  x:List Rt
  y:List Rt
instance:Inhabited Pl:=⟨⟨[],[],[],[]⟩⟩
def Pl.av(p:Pl):AV:=.agg [nR p.c,nR p.s,nR p.x,nR p.y]
def Pl.l(p:Pl):List (List Rt):=[p.c,p.s,p.x,p.y]
structure As where
  rs:List (List Rt)
  bs:List Pl
  ms:List Int
def As.av(a:As):AV:=.agg [.lst 1 (a.rs.map nR),.lst 4 (a.bs.map Pl.av),.lst 1 (a.ms.map i64)]
structure As.ok(a:As):Prop where
  rs:mZ a.rs
  rl:a.rs.length<=281474976710656
  bs:∀b∈a.bs,mZ b.l
  bl:a.bs.length<=281474976710656
theorem RB.mono{r r':Nat}{ts:LL}(h:RB r ts)(hr:r<=r'):RB r' ts:=by
 obtain⟨D,N,h0,h1,h2,h3⟩:=h;exact⟨D,N,h0,h1,aaj h2 (cV hr),aaj h3 (cV hr)⟩
theorem TR.mono{rs:List (List Rt)}{r r':Nat}(h:TR rs r)(hr:r<=r')(hl:r'<=5000000000):TR rs r':=⟨h.ok,h.len,h.ll,h.rb.mono hr,hl,h.three⟩
theorem NR.mono{x:List Rt}{e f:Nat}(h:NR x e)(hf:e<=f):NR x f:=⟨h.ok,h.len,h.cb.mono hf⟩
structure Li.okw(l:Li):Prop where
  name:l.name.size<=281474976710656
  pts:∀b∈l.bo,b.name.size<=281474976710656/\b.pts.length<=281474976710656/\∀m∈b.pts,m.name.size<=281474976710656/\m.x.wok/\m.y.wok
  jnames:∀j∈l.jo,j.name.size<=281474976710656
  dnames:∀d∈l.dv,d.name.size<=281474976710656
  lb:l.bo.length<=281474976710656
  lj:l.jo.length<=281474976710656
  ld:l.dv.length<=281474976710656
def yF(m:Mk):Bool:=decide (m.x.num.length<=4/\m.x.den.length<=4/\m.y.num.length<=4/\m.y.den.length<=4)
def Gb(b:Bd):Bool:=decide (b.pts.length<=30)&&b.pts.all yF
def Bo(l:Li):Bool:=l.bo.all Gb&&decide (l.bo.length<=30/\l.jo.length<=60/\l.dv.length<=30)
theorem NI{m:Mk}(h:yF m=true)(hx':m.x.wok)(hy':m.y.wok):m.ok:=by
 unfold yF at h;rw[aa3]at h;have hx:=hx'.ok h.1 h.2.1 oz;have hy:=hy'.ok h.2.2.1 h.2.2.2 oz;exact⟨hx,hy,(Rt.qb hx (k:=4) oz h.1 h.2.1).mono oz,(Rt.qb hy (k:=4) oz h.2.2.1 h.2.2.2).mono oz⟩
theorem Ui{l:Li}(h:Bo l=true)(ho:l.okw):l.ok:=by
 unfold Bo at h;rw[ZW,Z6]at h;refine⟨ho.name,fun b hb=>?_,ho.jnames,ho.dnames,ho.lb,ho.lj,ho.ld⟩;have h1:=h.1 b hb;unfold Gb at h1;rw[ZW,Z6]at h1;obtain⟨o1,o2,o3⟩:=ho.pts b hb;exact⟨fun m hm=>NI (h1.2 m hm) (o3 m hm).2.1 (o3 m hm).2.2,fun m hm=>(o3 m hm).1,o2,o1⟩
structure Pse.wok(p:Pse):Prop where
  t:p.turn.t.wok
  x:p.at_.x.wok
  y:p.at_.y.wok
theorem Pse.wok.rs{p:Pse}(h:p.wok):mZ [[p.turn.t,p.at_.x],[p.at_.y]]:=by
 intro x hx;simp only[aai,aap,or_false]at hx;rcases hx with rfl |rfl
 ·refine ⟨fun r hr => ?_, by show 2 <= _; omega⟩;simp only [aai,aap,or_false] at hr;rcases hr with rfl | rfl
  ·exact h.t
  ·exact h.x
 ·refine⟨fun r hr => ?_,by show 1<=_;omega⟩;simp only[aai,aap,or_false]at hr;subst hr;exact h.y
theorem Mz(a b:Bool):cond a true b=(a||b):=by cases a <;> rfl
structure Pq where
  c:List Rat
  s:List Rat
  x:List Rat
  y:List Rat
def Pq.av(p:Pq):AV:=.agg [nA p.c,nA p.s,nA p.x,nA p.y]
structure Pq.ok(n e:Nat)(p:Pq):Prop where
  c:Nm n e p.c
  s:Nm n e p.s
  x:Nm n e p.x
  y:Nm n e p.y
def My(p:Pse):Pq:=⟨sh 0 (To p.turn.half p.turn.t.q:Rat),sh 0 (R3 p.turn.half p.turn.t.q:Rat),sh 0 (p.at_.x.q:Rat),sh 0 (p.at_.y.q:Rat)⟩
def GY(ps:List Pse):Nat:=if ps.all Pse.ok=true then 0 else 2
def Lq(ts:LL)(b:Pl)(w:Pq):Bool :=
  uL ts (am ts.length (lq b.c)) (am ts.length w.c)&&uL ts (am ts.length (lq b.s)) (am ts.length w.s)&&uL ts (am ts.length (lq b.x)) (am ts.length w.x)&&uL ts (am ts.length (lq b.y)) (am ts.length w.y)
def mE(a:As)(ps:List Pse):Nat :=
  if dK a.rs≠0 then dK a.rs else if GY ps≠0 then GY ps else if a.bs.length≠ps.length then 10 else iG (a.bs.map (fun b=>bD a.rs b.l))
def mB(a:As)(ps:List Pse):Bool:=decide (mE a ps=0)&&(a.bs.zip ps).all (fun z=>Lq (bp a.rs) z.1 (My z.2))
instance:Inhabited Tn:=⟨⟨⟨false,[],[]⟩,false⟩⟩
def cg(n:Nat)(ok:Nat->Bool):Option Nat:=(List.range n).find? (fun i=>!ok i)
theorem jE{n i:Nat}{ok:Nat->Bool}(hi:i<n)(h:∀j,j<i->ok j=true)(he:ok i=false):cg n ok=some i:=by
 unfold cg;rw[Yx];exact⟨by rw[he];rfl,by simpa using hi,fun j hj=>by rw[h j hj];rfl⟩
theorem jB{n:Nat}{ok:Nat->Bool}(h:∀j,j<n->ok j=true):cg n ok=none:=by
 unfold cg;rw[Yj];exact fun j hj=>by rw[h j hj];rfl
theorem HQ{n:Nat}{ok:Nat->Bool}(h:cg n ok=none):∀j,j<n->ok j=true:=by
 unfold cg at h;rw[Yj]at h;intro j hj;have:=h j hj;simpa using this
def jV:Option Nat->Int
  |none=>-1
  |some i=>i
theorem jL{l:Li}(h:a5 l=0):kX l=0/\gb l=0/\jG l=0/\l.bo.length<=8/\l.bo.length≠0:=by
 unfold a5 at h;split at h
 ·cases h
 ·split at h
  ·cases h
  ·split at h
   ·cases h
   ·split at h
    ·rename_i h1;exact aa8 h h1
    ·rename_i g1 _ h1;split at h
     ·rename_i h2;exact aa8 h h2
     ·rename_i h2;exact⟨ZQ.1 h1,ZQ.1 h2,h,by omega,by omega⟩
theorem Un{l:Li}(h:a5 l=0){i:Nat}{j:Jt}(hj:l.jo[i]?=some j):gw l j=0:=by
 have h1:=(jL h).2.1;unfold gb at h1;split at h1
 ·cases h1
 ·have h2:=HU h1 i (YA.1 hj).1;unfold i9 at h2;rw[cI hj]at h2;split at h2
  ·cases h2
  ·split at h2
   ·cases h2
   ·exact h2
theorem HP{l:Li}(h:a5 l=0){i:Nat}{j:Jt}(hj:l.jo[i]?=some j) :
  bU j.a l.bo.length=true/\bU j.b l.bo.length=true/\bU j.point (eV l j.a).length=true/\bU j.on (eV l j.b).length=true/\(j.kind≠0->bU j.to (eV l j.b).length=true):=by
 have h1:=Un h hj;unfold gw at h1;split at h1
 ·cases h1
 ·split at h1
  ·cases h1
  ·rename_i h2;split at h1
   ·cases h1
   ·split at h1
    ·cases h1
    ·rename_i h3;have a1:bU j.a l.bo.length = true:=by cases h:bU j.a l.bo.length <;> simp_all
     have a2:bU j.b l.bo.length=true:=by cases h:bU j.b l.bo.length <;> simp_all
     have a3:bU j.point (eV l j.a).length=true:=by cases h:bU j.point (eV l j.a).length <;> simp_all
     have a4:bU j.on (eV l j.b).length=true:=by cases h:bU j.on (eV l j.b).length <;> simp_all
     refine⟨a1,a2,a3,a4,fun hk=>?_⟩;rw[aa1 hk]at h1;split at h1
     ·cases h1
     ·rename_i h4;cases h:bU j.to (eV l j.b).length <;> simp_all
theorem qf{l:Li}(h:a5 l=0){i:Nat}{d:Dr}(hd:l.dv[i]?=some d):bU d.body l.bo.length=true:=by
 have h1:=(jL h).2.2.1;unfold jG at h1;split at h1
 ·cases h1
 ·have h2:=HU h1 i (YA.1 hd).1;unfold eT at h2;rw[cI hd]at h2;split at h2
  ·cases h2
  ·split at h2
   ·cases h2
   ·split at h2
    ·cases h2
    ·rename_i h3;cases h:bU d.body l.bo.length <;> simp_all
structure Gr where
  kind:Int
  bo:List Int
  jo:List Int
  driver:Int
instance:Inhabited Gr:=⟨⟨0,[],[],0⟩⟩
def Gr.av(g:Gr):AV:=.agg [i64 g.kind,.lst 1 (g.bo.map i64),.lst 1 (g.jo.map i64),i64 g.driver]
def kn(k:List Bool)(i:Int):Bool:=k.getD i.toNat false
def ec(n:Nat)(b:Int):List Bool:=(YO n false).set b.toNat true
def y4(l:Li)(b:Int):Bool:=l.dv.any (fun d=>decide (d.body=b))
def f0(l:Li)(kw:List Bool)(b:Int):Bool:=!kn kw b&&!y4 l b
def wF(kind body:Int)(oth:List Bool)(j:Jt):Bool:=decide (j.kind=kind)&&(decide (j.a=body)&&kn oth j.b||decide (j.b=body)&&kn oth j.a)
def cH(l:Li)(kind body:Int)(oth:List Bool):Int:=jV (cg l.jo.length (fun i=>!wF kind body oth (l.jo.getD i default)))
def jI(l:Li)(kw:List Bool)(i:Nat):Bool:=!kn kw (l.dv.getD i default).body&&decide (0<=cH l 0 (l.dv.getD i default).body kw)
def iF(l:Li)(kw:List Bool):Option Gr :=
  (cg l.dv.length (fun i=>!jI l kw i)).map fun i=>⟨0,[(l.dv.getD i default).body],[cH l 0 (l.dv.getD i default).body kw],i⟩
def ep(l:Li)(kw:List Bool)(i k:Nat):Bool :=
  (f0 l kw i&&f0 l kw k)&&(decide (0<=cH l 0 i kw)&&decide (0<=cH l 0 k kw)&&decide (0<=cH l 0 i (ec l.bo.length k)))
def kI(l:Li)(kw:List Bool)(i:Nat):Option Nat:=(cg (l.bo.length-(i+1)) (fun k=>!ep l kw i (i+1+k))).map (·+(i+1))
def l6(l:Li)(kw:List Bool)(i k:Nat):Gr:=⟨1,[i,k],[cH l 0 i kw,cH l 0 k kw,cH l 0 i (ec l.bo.length k)],0⟩
def fT(l:Li)(kw:List Bool):Option Gr :=
  (cg l.bo.length (fun i=>(kI l kw i).isNone)).map fun i=>match kI l kw i with
    |some k=>l6 l kw i k
    |none=>default
def jK(l:Li)(kw:List Bool)(i:Nat):Bool:=f0 l kw i&&(decide (0<=cH l 0 i kw)&&decide (0<=cH l 1 i kw))
def mb(l:Li)(kw:List Bool)(i:Nat):Gr :=
  ⟨if(l.jo.getD (cH l 1 i kw).toNat default).a=i then 2 else 3,[i],[cH l 0 i kw,cH l 1 i kw],0⟩
def jl(l:Li)(kw:List Bool):Option Gr:=(cg l.bo.length (fun i=>!jK l kw i)).map (mb l kw)
def dB(l:Li)(kw:List Bool):Option Gr:=(iF l kw).or ((fT l kw).or (jl l kw))
def bI(kw:List Bool)(bs:List Int):List Bool:=bs.foldl (fun k b=>k.set b.toNat true) kw
def cW(l:Li):Nat->List Bool->List Gr->List Bool×List Gr
  |0,kw,out=>(kw,out)
  |n+1,kw,out=>match dB l kw with
    |none=>(kw,out)
    |some g=>cW l n (bI kw g.bo) (out++[g])
def da(l:Li):List Gr:=(cW l l.bo.length (ec l.bo.length 0) []).2
def dT(l:Li):List Bool:=(da l).foldl (fun k g=>bI k g.bo) (ec l.bo.length 0)
def jO(l:Li):List Bool:=(da l).foldl (fun k g=>bI k g.jo) (YO l.jo.length false)
def tf(k:List Bool):List Int:=((List.range k.length).filter (fun i=>!k.getD i false)).map (fun i:Nat=>((i:Nat):Int))
def nG(l:Li):Nat:=if(tf (dT l)).length+(tf (jO l)).length=0 then 0 else 7
def uv(l:Li):List Gr:=if nG l=0 then da l else[]
theorem qd(n:Nat)(b:Int):(ec n b).length=n:=by unfold ec;simp
theorem j6:∀(bs:List Int)(k:List Bool),(bI k bs).length=k.length
 |[],k=>rfl
 |b::bs,k=>by
  show(bI (k.set b.toNat true) bs).length=_;rw[j6 bs];simp
theorem iR{n i:Nat}{ok:Nat->Bool}(h:cg n ok=some i):i<n/\ok i=false:=by
 unfold cg at h;rw[Yx]at h;exact⟨by simpa using h.2.1,by simpa using h.1⟩
theorem nw{l:Li}{kind body:Int}{oth:List Bool}:-1<=cH l kind body oth/\cH l kind body oth<l.jo.length:=by
 unfold cH;cases h:cg l.jo.length (fun i=>!wF kind body oth (l.jo.getD i default))with
 |none=>exact⟨by decide,by show(-1:Int)<_;omega⟩
 |some i=>have:=(iR h).1;exact⟨by show(-1:Int)<=(i:Int);omega,by show(i:Int)<_;omega⟩
structure GrOk(l:Li)(g:Gr):Prop where
  b:∀x∈g.bo,0<=x/\x<l.bo.length
  j:∀x∈g.jo,0<=x/\x<l.jo.length
  lb:g.bo.length<=2
  lj:g.jo.length<=3
theorem Qn{l:Li}(hl:a5 l=0){kw:List Bool}{g:Gr}(h:iF l kw=some g):GrOk l g:=by
 unfold iF at h;rw[ZX]at h;obtain⟨i,hi,rfl⟩:=h;obtain⟨h1,h2⟩:=iR hi;obtain⟨d,hd⟩:=aJ h1;have h3:=i7 (qf hl hd);unfold jI at h2;simp only[Zk,ZW,aa3]at h2;rw[cI hd]at h2 ⊢;have h4:=nw (l:=l) (kind:=0) (body:=d.body) (oth:=kw);refine⟨fun x hx=>?_,fun x hx=>?_,by simp,by simp⟩
 ·rw[Z3.1 hx];exact h3
 ·rw[Z3.1 hx];exact⟨h2.2,h4.2⟩
theorem SR{l:Li}{kw:List Bool}{g:Gr}(h:fT l kw=some g):GrOk l g:=by
 unfold fT at h;rw[ZX]at h;obtain⟨i,hi,h⟩:=h;obtain⟨h1,h2⟩:=iR hi;split at h
 ·rename_i k hk;subst h;unfold kI at hk;rw [ZX] at hk;obtain ⟨k',hk',rfl⟩:=hk;obtain ⟨h3,h4⟩:=iR hk';rw [show i + 1 + k' = k' + (i + 1) by omega] at h4;unfold ep at h4;simp only [Zk,ZW,aa3] at h4;obtain ⟨_,⟨j1,j2⟩,j3⟩:=h4;refine ⟨fun x hx=>?_,fun x hx=>?_,by simp [l6],by simp [l6]⟩
  ·simp only[l6,aai,aap,or_false]at hx;rcases hx with rfl |rfl <;> constructor <;> omega
  ·simp only[l6,aai,aap,or_false]at hx;rcases hx with rfl |rfl |rfl
   ·exact⟨j1,nw.2⟩
   ·exact⟨j2,nw.2⟩
   ·exact⟨j3,nw.2⟩
 ·rename_i hk;rw[hk]at h2;cases h2
theorem SM{l:Li}{kw:List Bool}{g:Gr}(h:jl l kw=some g):GrOk l g:=by
 unfold jl at h;rw[ZX]at h;obtain⟨i,hi,rfl⟩:=h;obtain⟨h1,h2⟩:=iR hi;unfold jK at h2;simp only[Zk,ZW,aa3]at h2;obtain⟨_,j1,j2⟩:=h2;refine⟨fun x hx=>?_,fun x hx=>?_,by simp[mb],by simp[mb]⟩
 ·simp only[mb,aai,aap,or_false]at hx;subst hx;constructor <;> omega
 ·simp only[mb,aai,aap,or_false]at hx;rcases hx with rfl |rfl
  ·exact⟨j1,nw.2⟩
  ·exact⟨j2,nw.2⟩
theorem Er{l:Li}(hl:a5 l=0){kw:List Bool}{g:Gr}(h:dB l kw=some g):GrOk l g:=by
 unfold dB at h;cases h1:iF l kw with
 |some g'=>rw[h1]at h;cases h;exact Qn hl h1
 |none =>
  rw[h1]at h;cases h2:fT l kw with
  |some g'=>rw[h2]at h;cases h;exact SR h2
  |none=>rw[h2]at h;exact SM h
theorem E3{l:Li}(hl:a5 l=0):∀(n:Nat)(kw:List Bool)(out:List Gr),(∀g∈out,GrOk l g)->(∀g∈(cW l n kw out).2,GrOk l g)/\(cW l n kw out).2.length<=out.length+n
 |0,kw,out,h=>⟨h,by simp[cW]⟩
 |n+1,kw,out,h=>by
  unfold cW;cases hg:dB l kw with
  |none=>exact⟨h,by simp⟩
  |some g =>
   have h1:=E3 hl n (bI kw g.bo) (out++[g]) (fun x hx=>by
    rcases ZY.1 hx with hx |hx
    ·exact h x hx
    ·rw[Z3.1 hx];exact Er hl hg)
   refine⟨h1.1,?_⟩;have:=h1.2;rw[aah]at this;show(cW l n (bI kw g.bo) (out++[g])).2.length<=_;simp only[Z7,aan]at this;omega
theorem RQ{l:Li}(hl:a5 l=0):(∀g∈da l,GrOk l g)/\(da l).length<=8:=by
 have h:=E3 hl l.bo.length (ec l.bo.length 0) [] (fun g hg=>by cases hg);have h8:=(jL hl).2.2.2.1;exact⟨h.1,by have:=h.2;simp only[aan]at this;unfold da;omega⟩
def iO(j:Jt)(b:Int):Int:=if b=j.a then j.b else if b=j.b then j.a else -1
def uA(kind body:Int)(p:Int->Bool)(j:Jt):Bool:=decide (j.kind=kind)&&(decide (0<=iO j body)&&p (iO j body))
def gJ(l:Li)(kind body:Int)(p:Int->Bool):Int:=jV (cg l.jo.length (fun i=>!uA kind body p (l.jo.getD i default)))
theorem J9{b:Bool}{z:Int}(h:cond b (aa .geq z 0) false=true):0<=z:=by
 cases b
 ·cases h
 ·exact aa4 h
theorem MC{a k z:Int}{q:Bool}:cond (cond (aa .eql a k) (aa .geq z 0) false) q false=(decide (a=k)&&(decide (0<=z)&&q)):=by
 rw[FD,show aa .geq z 0=decide (0<=z)from rfl,pc,pc,Bool.and_assoc]
theorem Uy{l:Li}(aw:a5 l=0){i:Nat}{j:Jt}(hj:l.jo[i]?=some j)(b:Int):iO j b<l.bo.length:=by
 obtain⟨i1,i2,_⟩:=HP aw hj;have b1:=i7 i1;have b2:=i7 i2;unfold iO;split
 ·omega
 ·split <;> omega
theorem Rl{n:Nat}{ok ok':Nat->Bool}(h:∀i,i<n->ok i=ok' i):cg n ok=cg n ok':=by
 unfold cg
 have:∀l:List Nat,(∀i∈l,i<n)->l.find? (fun i=>!ok i)=l.find? (fun i=>!ok' i):=by
  intro l
  induction l with
  |nil=>intro _;rfl
  |cons a l ih =>
   intro hl;simp only[List.find?_cons,h a (hl a (by simp)),ih (fun i hi=>hl i (by simp[hi]))]
 exact this _ (fun i hi=>YR.1 hi)
theorem zn{l:Li}(aw:a5 l=0){kind body:Int}{p:Int->Bool}{oth:List Bool}(h:∀o:Int,0<=o->o<l.bo.length->p o=kn oth o):gJ l kind body p=cH l kind body oth:=by
 unfold gJ cH;rw[Rl];intro i hi;obtain⟨j,hj⟩:=aJ hi;rw[cI hj];obtain⟨i1,i2,_⟩:=HP aw hj;have b1:=i7 i1;have b2:=i7 i2;congr 1;unfold uA wF;congr 1;unfold iO
 by_cases h1:body=j.a
 ·subst h1;rw[aa2 rfl,h _ b2.1 b2.2]
  by_cases h2:j.b=j.a
  ·simp[h2,b1.1]
  ·simp[h2,b2.1]
 ·rw[aa1 h1]
  by_cases h2:body=j.b
  ·subst h2;rw[aa2 rfl,h _ b1.1 b1.2];have h3:¬j.a=j.b:=fun e=>h1 e.symm
   simp[h3,b1.1]
  ·rw[aa1 h2];have h3:¬j.a=body:=fun e=>h1 e.symm
   have h4:¬j.b=body:=fun e=>h2 e.symm
   simp[h3,h4]
theorem Gf{k:List Bool}{i:Nat}{b:Int}(h0:0<=b)(hi:i<k.length):kn (k.set i true) b=(decide (b=i)||kn k b):=by
 unfold kn;rw[ZS,List.getElem?_set,ZS]
 by_cases h:b=i
 ·rw[aa6 h,Bool.true_or,aa2 oz];rw[aa2 oz];rfl
 ·rw[aa7 h,Bool.false_or,aa1 oz]
theorem Bs:∀{bs:List Int}{k:List Bool}{b:Int},0<=b->(∀x∈bs,0<=x/\x<k.length)->kn (bI k bs) b=(bs.any (fun x=>decide (x=b))||kn k b)
 |[],k,b,h0,h=>by simp[bI]
 |x::bs,k,b,h0,h=>by
  show kn (bI (k.set x.toNat true) bs) b=_;obtain⟨iZ,iU⟩:=h x (by simp);rw[Bs h0 (fun y hy=>by rw[aa0];exact h y (by simp[hy])),Gf h0 oz,List.any_cons];have e:decide (b=(x.toNat:Int))=decide (x=b):=decide_eq_decide.2 oz;rw[e];cases decide (x=b) <;> simp
theorem H8(n:Nat)(b:Int):kn (YO n false) b=false:=by
 unfold kn;rw[ZS,YS];split <;> rfl
def bd(l:Li):List Bool:=bI (YO l.bo.length false) (l.dv.map Dr.body)
theorem rS(l:Li):(bd l).length=l.bo.length:=by unfold bd;rw[j6,Yq]
theorem KN{l:Li}(aw:a5 l=0){b:Int}(h0:0<=b):kn (bd l) b=y4 l b:=by
 unfold bd y4;rw[Bs h0,H8,Bool.or_false,List.any_map]
 ·rfl
 ·intro x hx;obtain⟨d,hd,rfl⟩:=Yr.1 hx;obtain⟨i,hi⟩:=YU.1 hd;have:=i7 (qf aw hi);rw[Yq];omega
theorem Oz{n:Nat}{b o:Int}(h0:0<=o)(eQ:0<=b)(hb:b<n):kn (ec n b) o=decide (o=b):=by
 unfold ec;rw[Gf h0 (by rw[Yq];omega),H8,Bool.or_false];exact decide_eq_decide.2 oz
def cA(k:List Bool):Nat:=k.countP (fun x=>!x)
theorem MI{k:List Bool}{i:Nat}(h:k[i]?=some false):cA (k.set i true)+1=cA k:=by
 unfold cA;have hi:=(YA.1 h).1;have he:=(YA.1 h).2;rw[List.countP_set hi,he];have:0<k.countP (fun x=>!x):=List.countP_pos_iff.2 ⟨false,ZR h,rfl⟩;simp;omega
theorem N6(k:List Bool)(i:Nat):cA (k.set i true)<=cA k:=by
 by_cases hi:i<k.length
 ·unfold cA;rw[List.countP_set hi];simp
 ·rw[List.set_eq_of_length_le oz];exact Z0 _
theorem Cy:∀(bs:List Int)(k:List Bool),cA (bI k bs)<=cA k
 |[],k=>Z0 _
 |x::bs,k=>aaj (Cy bs (k.set x.toNat true)) (N6 k _)
theorem Py{x:Int}{bs:List Int}{k:List Bool}(h:k[x.toNat]?=some false):cA (bI k (x::bs))<cA k:=by
 have h1:=Cy bs (k.set x.toNat true);have h2:=MI h;show cA (bI (k.set x.toNat true) bs)<_;omega
theorem yj{k:List Bool}{b:Int}(h:kn k b=false)(h1:b.toNat<k.length):k[b.toNat]?=some false:=by
 unfold kn at h;rw[ZS,ZV h1]at h;rw[ZV h1];simpa using h
theorem MO{l:Li}(hl:a5 l=0){kw:List Bool}(hk:kw.length=l.bo.length){g:Gr}(h:dB l kw=some g):∃x bs,g.bo=x::bs/\kw[x.toNat]?=some false:=by
 unfold dB at h;cases h1:iF l kw with
 |some g' =>
  rw[h1]at h;cases h
  unfold iF at h1;rw[ZX]at h1;obtain⟨i,hi,rfl⟩:=h1;obtain⟨h2,h3⟩:=iR hi;obtain⟨d,hd⟩:=aJ h2;have h4:=i7 (qf hl hd);rw[cI hd]at *;unfold jI at h3;rw[cI hd]at h3;simp only[Zk,ZW,Zw,aa3]at h3;exact⟨_,_,rfl,yj h3.1 oz⟩
 |none =>
  rw[h1]at h;cases h2:fT l kw with
  |some g' =>
   rw[h2]at h;cases h
   unfold fT at h2;rw[ZX]at h2;obtain⟨i,hi,h2⟩:=h2;obtain⟨h3,h4⟩:=iR hi;split at h2
   ·rename_i k hk';subst h2;unfold kI at hk';rw[ZX]at hk';obtain⟨k',hk',rfl⟩:=hk';obtain⟨h5,h6⟩:=iR hk';unfold ep f0 at h6;simp only[Zk,ZW,Zw,aa3]at h6;exact⟨_,_,rfl,yj h6.1.1.1 oz⟩
   ·rename_i hk';rw[hk']at h4;cases h4
  |none =>
   rw[h2]at h;have h:jl l kw=some g:=h;unfold jl at h;rw[ZX]at h;obtain⟨i,hi,rfl⟩:=h;obtain⟨h3,h4⟩:=iR hi;unfold jK f0 at h4;simp only[Zk,ZW,Zw,aa3]at h4;exact⟨_,_,rfl,yj h4.1.1 oz⟩
theorem rI{l:Li}(hl:a5 l=0){kw:List Bool}(hk:kw.length=l.bo.length){g:Gr}(h:dB l kw=some g):cA (bI kw g.bo)<cA kw:=by
 obtain⟨x,bs,e,h1⟩:=MO hl hk h;rw[e];exact Py h1
theorem zM{l:Li}(hl:a5 l=0):∀(n m:Nat)(kw:List Bool)(out:List Gr),kw.length=l.bo.length->cA kw<=n->cA kw<=m->cW l n kw out=cW l m kw out
 |0,0,kw,out,hk,h1,h2=>rfl
 |0,m+1,kw,out,hk,h1,h2=>by
  unfold cW;cases hg:dB l kw with
  |none=>rfl
  |some g=>have:=rI hl hk hg;omega
 |n+1,0,kw,out,hk,h1,h2=>by
  unfold cW;cases hg:dB l kw with
  |none=>rfl
  |some g=>have:=rI hl hk hg;omega
 |n+1,m+1,kw,out,hk,h1,h2=>by
  unfold cW;cases hg:dB l kw with
  |none=>rfl
  |some g =>
   have:=rI hl hk hg;exact zM hl n m _ _ (by rw[j6];exact hk) oz oz
theorem xH{l:Li}:∀(n:Nat)(kw:List Bool)(out:List Gr),∃gs,cW l n kw out=(gs.foldl (fun k g=>bI k g.bo) kw,out++gs)
 |0,kw,out=>⟨[],by simp[cW]⟩
 |n+1,kw,out=>by
  unfold cW;cases hg:dB l kw with
  |none=>exact⟨[],by simp⟩
  |some g =>
   obtain⟨gs,e⟩:=xH n (bI kw g.bo) (out++[g]);exact⟨g::gs,by show cW l n _ _=_;rw[e];simp⟩
theorem Nw(l:Li):cW l l.bo.length (ec l.bo.length 0) []=(dT l,da l):=by
 obtain⟨gs,e⟩:=xH (l:=l) l.bo.length (ec l.bo.length 0) [];unfold dT da;rw[e];simp
theorem GO{k:List Bool}:(tf k).length=0↔k.contains false=false:=by
 unfold tf;rw[ZU,Yo,List.filter_eq_nil_iff];constructor
 ·intro h;rw[<- Zr,Yg];intro hm;obtain⟨i,hi⟩:=YU.1 hm;have hlt:=(YA.1 hi).1;have:=h i (YR.2 hlt);rw[ZS,hi]at this;simp at this
 ·intro h i hi;rw[<- Zr,Yg]at h;intro hc;have hlt:=YR.1 hi;rw[ZS,ZV hlt]at hc;simp at hc;exact h (hc▸Yy hlt)
theorem xh:Sub (.agg [.v (.int .i64 0),.v (.slice none 0 0),.v (.slice none 0 0),.v (.int .i64 0)]) (Gr.av default):=.agg (.cons (.refl _) (.cons (.nil _ _ _) (.cons (.nil _ _ _) (.cons (.refl _) .nil)))) rfl
theorem Kh{z:Int}(h:aa .geq z 0=true):0<=z:=aa4 h
theorem Ol{z:Int}(h:aa .geq z 0=false):¬0<=z:=aa5 h
theorem B0{a b c:Int}:cond (cond (aa .geq a 0) (aa .geq b 0) false) (aa .geq c 0) false=(decide (0<=a)&&decide (0<=b)&&decide (0<=c)):=by
 have e:∀z:Int,aa .geq z 0=decide (0<=z):=fun z=>rfl
 rw[e,e,e,pc,pc]
theorem CU{a b:Int}:cond (aa .lss a 0) true (aa .lss b 0)=!(decide (0<=a)&&decide (0<=b)):=by
 have e:∀z:Int,aa .lss z 0=!decide (0<=z):=fun z=>by rw[<- decide_not];exact decide_eq_decide.2 oz
 rw[e,e,Mz,Bool.not_and]
theorem NJ{a b:Int}(h:cond (aa .lss a 0) true (aa .lss b 0)=true):(decide (0<=a)&&decide (0<=b))=false:=by rw[CU]at h;exact iN h
theorem RL{a b:Int}(h:cond (aa .lss a 0) true (aa .lss b 0)=false):0<=a/\0<=b:=by
 rw[CU]at h;have:=iC h;simpa using this
abbrev cz(l:Li)(kw driven:List Bool)(r:List AV):List AV:=l.av.cells++(.lst 1 (kw.map bl) :: .lst 1 (driven.map bl)::r)
theorem UQ(j:Jt)(b:Int):FP 346 [j.av,i64 b] (i64 (iO j b)):=by
 refine ai func346 ?_;refine gC (fun z=>?_) (fun z=>?_)
 ·have h1:b=j.a:=jU z;refine af ?_;unfold iO;rw[aa2 h1]
 have h1:b≠j.a:=lR z;refine gC (fun z=>?_) (fun z=>?_)
 ·have h2:b=j.b:=jU z;refine af ?_;unfold iO;rw[aa1 h1,aa2 h2]
 have h2:b≠j.b:=lR z;refine af ?_;unfold iO;rw[aa1 h1,aa1 h2];rfl
theorem NY(j:Jt)(kind body:Int)(f:FuncId)(pre caps:List AV)(p:Int->Bool)(hp:0<=iO j body->FP f (pre++[i64 (iO j body)]++caps) (bl (p (iO j body)))) :
  FP 345 [j.av,.iptr [i64 body],.iptr [i64 kind],.iptr [.cl f pre caps]] (bl (uA kind body p j)):=by
 refine ai func345 ?_;refine gc (UQ j body) ?_;refine aO (fun h=>(hp (J9 h))) ?_;refine af ?_;exact aa9 bl MC
theorem RI(bs:List Jt)(hl:bs.length<=281474976710656)(f:FuncId)(pre caps:List AV)(ok:Nat->Bool)
  (hf:∀(i:Nat)(b:Jt),bs[i]?=some b->(∀j,j<i->ok j=true)->FP f (pre++[b.av]++caps) (bl (!ok i))) :
  FP 344 [.lst 7 (bs.map Jt.av),.cl f pre caps] (i64 (jV (cg bs.length ok))):=by
 refine ai func344 ?_;refine gl ?_;refine aK [0,1,7] [] (fun(i:Nat)=>[pP 8 (i64 i)]) (fun _=>[]) (fun i=>i<=bs.length/\∀j,j<i->ok j=true) (fun i=>bs.length-i) 0 ⟨aaf _,fun j h=>by omega⟩ ?_;rintro i ⟨hi,hj⟩ K1 J1;refine gC (fun z=>?_) (fun z=>?_)
 ·have ab:=aW z;obtain⟨b,hb⟩:=aJ ab;refine gi (ao hb) ?_;refine gc (hf i b hb hj) ?_;refine gC (fun z=>?_) (fun z=>?_)
  ·have h2:=iN z;refine af ?_;rw[jE ab hj h2];rfl
  have h2:=iC z;refine ga aF ?_;exact aG J1 (i+1) ⟨ab,fun j h9=>by rcases Z2 j i with g |g;exact hj j g;(have:j=i:=by omega);subst this;exact h2⟩
 have ab:=bt hi z;subst ab;refine af ?_;rw[jB hj];rfl
theorem G3(l:Li)(hl:l.ok)(aw:a5 l=0)(Fd:List AV)(kind body:Int)(f:FuncId)(pre caps:List AV)(p:Int->Bool)
  (hp:∀o:Int,0<=o->o<l.bo.length->FP f (pre++[i64 o]++caps) (bl (p o))) :
  FP 317 [.iptr (l.av.cells++Fd),i64 kind,i64 body,.cl f pre caps] (i64 (gJ l kind body p)):=by
 refine ai func317 ?_ (1,0);refine gW ((Wk.freezeB (k:=7) rfl rfl).trans<|(Wk.freezeB (k:=5) rfl rfl).trans<|(Wk.freezeB (k:=6) rfl rfl).trans<|Wk.o (sl:=[pP 0 (.iptr (l.av.cells++Fd)),pP 5 (.iptr [i64 kind]),pP 6 (.iptr [i64 body]),pP 7 (.iptr [.cl f pre caps])]) (hp:=[])) ?_;refine gc (Con.sA (.cons (.refl _) (.cons (oF rfl) .nil)) (RI l.jo hl.lj 345 [] [.iptr [i64 body],.iptr [i64 kind],.iptr [.cl f pre caps]] (fun i=>!uA kind body p (l.jo.getD i default)) (fun i b hb hj=>by rw[Zt,cI hb];exact NY b kind body f pre caps p (fun h=>hp _ h (Uy aw hb body))))) ?_;refine af ?_;rfl
theorem Rc(l:Li)(kw driven:List Bool)(r:List AV)(b:Int)(h0:0<=b)(h1:b<kw.length):FP 342 [.iptr (cz l kw driven r),i64 b] (bl (kn kw b)):=by
 obtain⟨v,hv⟩:∃v,kw[b.toNat]?=some v:=aJ oz;have ev:kn kw b=v:=cI hv;refine ai func342 ?_;refine gi (ng (n:=b.toNat) oz hv) ?_;refine af ?_;rw[ev]
theorem F6(l:Li)(hl:l.ok)(aw:a5 l=0)(kw driven:List Bool)(hk:kw.length=l.bo.length)(r:List AV)(kind body:Int) :
  FP 315 [.iptr (cz l kw driven r),i64 kind,i64 body] (i64 (gJ l kind body (kn kw))):=by
 refine ai func315 ?_;refine gc (G3 l hl aw _ kind body 342 [.iptr (cz l kw driven r)] [] (kn kw) (fun o h0 h1=>Rc l kw driven r o h0 oz)) ?_;refine af ?_;rfl
theorem M1(o j:Int):FP 318 [i64 o,.iptr [i64 j]] (bl (decide (o=j))):=by
 refine ai func318 ?_;refine af ?_;exact aa9 bl FD
theorem Oe(l:Li)(kw driven:List Bool)(hd:driven.length=kw.length)(r:List AV)(b:Int)(h0:0<=b)(h1:b<kw.length) :
  FP 319 [.iptr (cz l kw driven r),i64 b] (bl (!kn kw b&&!kn driven b)):=by
 obtain⟨v,hv⟩:∃v,kw[b.toNat]?=some v:=aJ oz;have ev:kn kw b=v:=cI hv;obtain⟨u,hu⟩:∃u,driven[b.toNat]?=some u:=aJ oz;have eu:kn driven b=u:=cI hu;refine ai func319 ?_;refine gi (ng (n:=b.toNat) oz hv) ?_;refine fL (fun _=>(ng (n:=b.toNat) oz hu)) ?_;refine af ?_;rw[ev,eu];exact aa9 bl (pc _ _)
theorem RC(l:Li)(hl:l.ok)(aw:a5 l=0)(kw driven:List Bool)(hk:kw.length=l.bo.length)(r:List AV) :
  FP 265 [.iptr (cz l kw driven r)] (.tup [((iF l kw).getD default).av,bl (iF l kw).isSome]):=by
 have IR:=hl.ld;refine ai func265 ?_;refine gl ?_;refine aK [0,2,11,12] [2] (fun(i:Nat)=>[pP 13 (i64 i)]) (fun _=>[]) (fun i=>i<=l.dv.length/\∀j,j<i->(!jI l kw j)=true) (fun i=>l.dv.length-i) 0 ⟨aaf _,fun j h=>by omega⟩ ?_;rintro i ⟨hi,hj⟩ K1 J1;refine gC (fun z=>?_) (fun z=>?_)
 ·have ab:=aW z;obtain⟨d,hd⟩:=aJ ab;have vX:l.dv.getD i default=d:=cI hd;have hb:=i7 (qf aw hd);obtain⟨v,hv⟩:∃v,kw[d.body.toNat]?=some v:=aJ oz;have ev:kn kw d.body=v:=cI hv;have ej:gJ l 0 d.body (kn kw)=cH l 0 d.body kw:=zn aw (fun o _ _=>rfl);refine gi (ao hd) ?_;refine gi (ng (n:=d.body.toNat) oz hv) ?_;refine gD ?_;refine gC (fun z=>?_) (fun z=>?_)
  ·have h2 : jI l kw i = false := by unfold jI; rw [vX, ev, z]; rfl
   refine ga aF ?_;exact aG J1 (i+1) ⟨ab,fun k h9=>by rcases Z2 k i with g |g;exact hj k g;(have:k=i:=by omega);subst this;rw[h2];rfl⟩
  have lE:v=false:=z;refine gc (show gh _ _ _ (i64 (cH l 0 d.body kw)) by rw[<- ej];exact F6 l hl aw kw driven hk r 0 d.body) ?_;refine gC (fun z=>?_) (fun z=>?_)
  ·have h2 : jI l kw i = true := by unfold jI; rw [vX, ev, lE, aa6 (Kh z)]; rfl
   have hg:iF l kw=some ⟨0,[d.body],[cH l 0 d.body kw],i⟩:=by unfold iF;rw[jE ab hj (by rw[h2];rfl),<- vX];rfl
   refine bh ?_;rw[hg];rfl
  have h2:jI l kw i=false:=by unfold jI;rw[vX,aa7 (Ol z),Bool.and_false]
  refine ga aF ?_;exact aG J1 (i+1) ⟨ab,fun k h9=>by rcases Z2 k i with g |g;exact hj k g;(have:k=i:=by omega);subst this;rw[h2];rfl⟩
 have ab:=bt hi z;subst ab;have hg:iF l kw=none:=by unfold iF;rw[jB hj];rfl
 refine gR ?_;exact aM.sub aM.pure (by rw[hg];exact Sub.tup (.cons xh (.cons (.refl _) .nil)))
theorem zm(l:Li)(aw:a5 l=0)(kw:List Bool)(hk:kw.length=l.bo.length)(r:List AV)(b:Nat)(h1:b<l.bo.length) :
  FP 319 [.iptr (cz l kw (bd l) r),i64 b] (bl (f0 l kw b)):=by
 have h:=Oe l kw (bd l) (by rw[rS,hk]) r b oz oz;rw[KN aw oz]at h;exact h
theorem uR(l:Li)(hl:l.ok)(aw:a5 l=0)(kw:List Bool)(hk:kw.length=l.bo.length)(r:List AV)(kind body:Int) :
  FP 315 [.iptr (cz l kw (bd l) r),i64 kind,i64 body] (i64 (cH l kind body kw)):=by
 have h:=F6 l hl aw kw (bd l) hk r kind body;rw[zn aw (fun o _ _=>rfl)]at h;exact h
theorem MX(l:Li)(hl:l.ok)(aw:a5 l=0)(kw:List Bool)(hk:kw.length=l.bo.length)(r:List AV) :
  FP 267 [.iptr (cz l kw (bd l) r)] (.tup [((jl l kw).getD default).av,bl (jl l kw).isSome]):=by
 have h8:=(jL aw).2.2.2.1;refine ai func267 ?_;refine gl ?_;refine aK [0,2,12,13] [2] (fun(i:Nat)=>[pP 14 (i64 i)]) (fun _=>[]) (fun i=>i<=l.bo.length/\∀j,j<i->(!jK l kw j)=true) (fun i=>l.bo.length-i) 0 ⟨aaf _,fun j h=>by omega⟩ ?_;rintro i ⟨hi,hj⟩ K1 J1;refine gC (fun z=>?_) (fun z=>?_)
 ·have ab:=aW z;refine gc (zm l aw kw hk r i ab) ?_;refine gC (fun z=>?_) (fun z=>?_)
  ·have h2 : jK l kw i = false := by unfold jK; rw [iN z]; rfl
   refine ga aF ?_;exact aG J1 (i+1) ⟨ab,fun k h9=>by rcases Z2 k i with g |g;exact hj k g;(have:k=i:=by omega);subst this;rw[h2];rfl⟩
  have hf:=iC z;refine gc (uR l hl aw kw hk r 0 i) ?_;refine gc (uR l hl aw kw hk r 1 i) ?_;refine gC (fun z=>?_) (fun z=>?_)
  ·have h2 : jK l kw i = false := by unfold jK; rw [NJ z, Bool.and_false]
   refine ga aF ?_;exact aG J1 (i+1) ⟨ab,fun k h9=>by rcases Z2 k i with g |g;exact hj k g;(have:k=i:=by omega);subst this;rw[h2];rfl⟩
  obtain⟨p0,s0⟩:=RL z;have s1:=(nw (l:=l) (kind:=1) (body:=i) (oth:=kw)).2;have h2:jK l kw i=true:=by unfold jK;rw[hf,aa6 p0,aa6 s0];rfl
  obtain⟨j,IS⟩:∃j,l.jo[(cH l 1 i kw).toNat]?=some j:=aJ oz;have IT:l.jo.getD (cH l 1 i kw).toNat default=j:=cI IS;have hg:jl l kw=some (mb l kw i):=by unfold jl;rw[jE ab hj (by rw[h2];rfl),ZP]
  refine gi (ng (n:=(cH l 1 i kw).toNat) oz IS) ?_;refine gC (fun z=>?_) (fun z=>?_)
  ·have sJ:j.a=i:=jU z;refine bh ?_;rw[hg];unfold mb;rw[IT];simp only[ZO,aa2 sJ];rfl
  have sJ:j.a≠i:=lR z;refine bh ?_;rw[hg];unfold mb;rw[IT];simp only[ZO,aa1 sJ];rfl
 have ab:=bt hi z;subst ab;have hg:jl l kw=none:=by unfold jl;rw[jB hj];rfl
 refine gR ?_;exact aM.sub aM.pure (by rw[hg];exact Sub.tup (.cons xh (.cons (.refl _) .nil)))
theorem J7(Fd:List AV):FP 316 [.iptr Fd] (.fn 343 [.iptr [.iptr Fd]]):=by
 refine ai func316 ?_ (1,0);refine gW ((Wk.freezeB (k:=1) rfl rfl).trans<|Wk.o (sl:=[pP 1 (.iptr [.iptr Fd])]) (hp:=[])) ?_;refine af ?_;rfl
def tj:Code->Option (Array Tmp×Code×Code)
  | .rangeFunc _ ps x y=>some (ps,x,y)
  | .seq a b=>match tj a with
    |some r=>some r
    |none=>tj b
  | .block _ c=>tj c
  |_=>none
def A9(n:Nat)(o:Option Code):LpD:=match o with
  |some c=>match tj c with
    |some (ps,x,y)=>⟨ps,x,y,n⟩
    |none=>⟨#[],.skip,.skip,0⟩
  |none=>⟨#[],.skip,.skip,0⟩
def Ec(D:LpD)(Fd:List AV)(h:Bool):Blk:=.loop D (match h with |true=>.done |false=>.ready) (match h with |true=>some .ret |false=>none) [pP 1 (.iptr [.iptr Fd]),pP 2 (.ptr 1001 0),pP 3 (.ptr 1002 0)]
def zY(g:Gr):Blk:=.box [i64 g.kind,.lst 1 (g.bo.map i64),.lst 1 (g.jo.map i64),i64 g.driver]
def xL(h:Bool):Blk:=.box [bl h]
def ee(D:LpD)(Fd:List AV)(h:Bool)(g:Gr):Hp:=[pP 1000 (Ec D Fd h),pP 1001 (zY g),pP 1002 (xL h)]
theorem FJ{D:LpD}{Fd:List AV}{h:Bool}{g:Gr}{k:Nat}{z:Blk}(hz:lk (ee D Fd h g) k=some z):1000<=k:=by
 unfold ee at hz;simp only[aq]at hz;split at hz
 ·omega
 ·split at hz
  ·omega
  ·split at hz
   ·omega
   ·cases hz
theorem P3{D:LpD}{Fd:List AV}{s:AS}(hs:∀k z,lk (ee D Fd false default) k=some z->s.blk k=some z) :
  ∀k∈(ee D Fd false default++cr (ee D Fd false default)).map (·.1),k∈(ee D Fd false default).map (·.1)/\lk (ee D Fd false default++cr (ee D Fd false default)) k=s.blk k:=by
 intro k hk
 have hk':k=1000\/k=1001\/k=1002:=by
  simp[ee,cr]at hk;omega
 rcases hk' with rfl |rfl |rfl
 ·exact⟨by simp[ee],(hs _ _ rfl).symm⟩
 ·exact⟨by simp[ee],(hs _ _ rfl).symm⟩
 ·exact⟨by simp[ee],(hs _ _ rfl).symm⟩
theorem FV{l:Li}{kw:List Bool}{i k:Nat}(h:cond (f0 l kw i) (f0 l kw k) false=false):ep l kw i k=false:=by
 rw[pc]at h;unfold ep;rw[h];rfl
theorem Q0{H R:Hp}{k:Nat}{z:Blk}(h:lk H k=some z):lk (H++R) k=some z:=by rw[iD,aa2 (g7 h)];exact h
theorem RD{a b:Bool}(h:cond a b false=true):a=true:=by cases a <;> simp_all
theorem wl{a b:Bool}(h:cond a b false=true):b=true:=by cases a <;> simp_all
theorem LO(D:LpD)(l:Li)(hl:l.ok)(aw:a5 l=0)(kw:List Bool)(hk:kw.length=l.bo.length)(r:List AV)
  (hy:∀i k:Nat,i<k->k<l.bo.length->f0 l kw i=true->f0 l kw k=true ->
   vA prog 1000 [i64 i,i64 k] (ee D (cz l kw (bd l) r) false default) (bl (!ep l kw i k)) (ee D (cz l kw (bd l) r) (ep l kw i k) (cond (ep l kw i k) (l6 l kw i k) default))) :
  Con prog 343 [.yl 1000,.iptr [.iptr (cz l kw (bd l) r)]] (ee D (cz l kw (bd l) r) false default) (.tup []) (ee D (cz l kw (bd l) r) (fT l kw).isSome ((fT l kw).getD default)):=by
 have h8:=(jL aw).2.2.2.1;refine gF func343 (fun k z h=>FJ h) ?_;refine gl ?_;refine aK [0,1,10] [1000,1001,1002] (fun(i:Nat)=>[pP 11 (i64 i)]) (fun _=>[]) (fun i=>i<=l.bo.length/\∀j,j<i->(kI l kw j).isNone=true) (fun i=>l.bo.length-i) 0 ⟨aaf _,fun j h=>by omega⟩ ?_;rintro i ⟨hi,hj⟩ K1 J1;refine gC (fun y=>?_) (fun y=>?_)
 ·have ab:=aW y;refine ga aF ?_;refine aK [0,1,3,10,11] [] (fun (k:Nat)=>[pP 4 (i64 (i + 1 + k:Nat))]) (fun _=>[pP 1000 (Ec D (cz l kw (bd l) r) false),pP 1001 (zY default),pP 1002 (xL false)]) (fun k=>i + 1 + k <= l.bo.length /\ ∀ j,j < k -> (!ep l kw i (i + 1 + j)) = true) (fun k=>l.bo.length - k) 0 ⟨by omega,fun j h=>by omega⟩ ?_;rintro k ⟨Xj,AP⟩ K2 J2;refine gl ?_;refine gC (fun y=>?_) (fun y=>?_)
  ·have bP:i + 1 + k < l.bo.length:=aW y;refine gc (zm l aw kw hk r i ab) ?_;refine aO (fun _=>(zm l aw kw hk r (i + 1 + k) bP)) ?_;refine gs (Dx rfl rfl rfl (by intro hb; have h0:ep l kw i (i + 1 + k) = false:=FV (by simpa using hb); simp only [h0,cond_false]; exact P3 (by intro k z h; exact h)) (fun hb=>Tt (k:=1000) (.opt rfl (by rw [hb]; rfl)) (hy i (i + 1 + k) oz bP (RD hb) (wl hb)) (.cons (.opt rfl (by rw [hb]; rfl)) (.cons (.opt rfl (by rw [hb]; rfl)) .nil)) (by intro k z h; exact h) rfl rfl)) ?_;refine gC (fun y=>?_) (fun y=>?_)
   ·have h2 : ep l kw i (i + 1 + k) = true := by have h9 := wl y; rw [Zt] at h9; exact h9
    have ko:kI l kw i=some (i+1+k):=by unfold kI;rw[jE oz AP (by rw[h2];rfl),ZP];congr 1;omega
    have hg:fT l kw=some (l6 l kw i (i+1+k)):=by unfold fT;rw[jE ab hj (by rw[ko];rfl),ZP,ko]
    refine gR ?_;simp only[hg,h2,Option.isSome_some,ZO,cond_true];exact aM.keep (fun k z h=>Q0 h)
   have h2:ep l kw i (i+1+k)=false:=by cases hc:cond (f0 l kw i) (f0 l kw ((i+1+k:Nat):Int)) false with |false=>exact FV hc |true=>rw[hc,Zt]at y;exact y
   refine ga aF ?_;exact aG J2 (k+1) ⟨by omega,fun j h9=>by rcases Z2 j k with g |g;exact AP j g;(have:j=k:=by omega);subst this;rw[h2];rfl⟩ (hw:=Wk.of aI (.cons rfl (.of (by rw[h2])) (.cons rfl (.of (by rw[h2];rfl)) (.cons rfl (.of (by rw[h2])) .nil))))
  have bP:¬i+1+k<l.bo.length:=fun h=>by have h1:=m4 y;omega
  have ko:kI l kw i=none:=by unfold kI;rw[show l.bo.length-(i+1)=k by omega,jB AP];rfl
  refine ga aF ?_;exact aG J1 (i+1) ⟨ab,fun j h9=>by rcases Z2 j i with g |g;exact hj j g;(have:j=i:=by omega);subst this;rw[ko];rfl⟩
 have ab:=bt hi y;have hg:fT l kw=none:=by unfold fT;rw[<- ab,jB hj];rfl
 refine gR ?_;simp only[hg,Option.isSome_none,Option.getD_none];exact aM.keep (fun k z h=>h)
theorem gZ{P:abe}{N:Nat}{Q:Exit->AS->Prop}{c:Code}{s:AS}(h:Gd P N Q (.code c [] s)):aR P N c Q s:=h
theorem S1{P:abe}{N:Nat}{Q:Exit->AS->Prop}{c:Code}{s s':AS}(hw:Wk s s')(h:iK P N c Q s'):iK P N c Q s:=by
 intro C m a w n dZ hN hr;obtain⟨m',hr'⟩:=hw C m a w hr;exact h C m' a w n dZ hN hr'
def ug(k:Nat):Nat:=bif XK k 1000 then 900 else bif XK k 900 then 1000 else bif XK k 1001 then 2 else bif XK k 2 then 1001 else bif XK k 1002 then 3 else bif XK k 3 then 1002 else k
theorem nb{a b:Nat}(h:¬a=b):XK a b=false:=by
 cases h1:XK a b
 ·rfl
 ·exact aa8 (ZT h1) h
theorem Ma(k:Nat):ug (ug k)=k:=by
 by_cases h1:k=1000
 ·subst h1;rfl
 by_cases h2:k=900
 ·subst h2;rfl
 by_cases h3:k=1001
 ·subst h3;rfl
 by_cases h4:k=2
 ·subst h4;rfl
 by_cases h5:k=1002
 ·subst h5;rfl
 by_cases h6:k=3
 ·subst h6;rfl
 have e:ug k=k:=by simp only[ug,nb h1,nb h2,nb h3,nb h4,nb h5,nb h6,cond_false]
 rw[e,e]
theorem KX(l:Li)(hl:l.ok)(aw:a5 l=0)(kw:List Bool)(hk:kw.length=l.bo.length)(r:List AV) :
  FP 266 [.iptr (cz l kw (bd l) r)] (.tup [((fT l kw).getD default).av,bl (fT l kw).isSome]):=by
 refine BI (rs:=Tryz.f266.results.toList) func266 rfl rfl (by simp) rfl (fun k z h=>by cases h) ?_;refine yw (gZ (go ?_));refine S1 (s':=⟨[pP 1 (.iptr [.iptr (cz l kw (bd l) r)]),pP 2 (.ptr 2 0),pP 3 (.ptr 3 0)],[pP 2 (zY default),pP 3 (xL false)]⟩) ((Wk.freezeB (k:=1) rfl rfl).trans (Wk.of (.k (.k (.k .nil))) (.cons rfl (BlkSub.bL (.cons (.refl _) (.cons (.nil _ _ _) (.cons (.nil _ _ _) (.cons (.refl _) .nil)))) rfl) (.k .nil)))) ?_;refine Jx ?_;refine yw (gZ (go ?_));refine gc (J7 (cz l kw (bd l) r)) ?_;refine U0 ?_
 have hy:∀i k:Nat,i<k->k<l.bo.length->f0 l kw i=true->f0 l kw k=true ->
   vA prog 1000 [i64 i,i64 k] (ee (A9 Tryz.f266.ntmps Tryz.f266.body) (cz l kw (bd l) r) false default) (bl (!ep l kw i k)) (ee (A9 Tryz.f266.ntmps Tryz.f266.body) (cz l kw (bd l) r) (ep l kw i k) (cond (ep l kw i k) (l6 l kw i k) default)):=by
  intro i k Xk bP IU IV;refine Uu (k:=1000) (fun k z h=>FJ h) rfl rfl (by intro p hp;have h9:p∈[11,12]:=hp;have h8:p=11\/p=12:=(by simpa using h9);show p<42;rcases h8 with h7 |h7 <;> (rw[h7];decide)) ?_;refine gZ (go ?_);refine⟨rfl,_,_,rfl,?_⟩;have hJ:gJ l 0 i (fun o=>decide (o=(k:Int)))=cH l 0 i (ec l.bo.length k):=zn aw (fun o h0 h1=>(Oz h0 oz oz).symm);refine gZ (go ?_);refine gc (uR l hl aw kw hk r 0 i) ?_;refine gc (uR l hl aw kw hk r 0 k) ?_;refine gD ?_ (5,0);refine gW (Wk.freezeB (k:=5) rfl rfl) ?_;refine gc (r:=i64 (cH l 0 i (ec l.bo.length k))) (by rw[<- hJ];exact Con.sA (.cons (.refl _) (.cons (.refl _) (.cons (.refl _) (.cons (oF rfl) .nil)))) (G3 l hl aw _ 0 i 318 [] [.iptr [i64 k]] (fun o=>decide (o=(k:Int))) (fun o h0 h1=>M1 o k))) ?_;refine gC (fun ht=>?_) (fun ht=>?_)
  ·have h2 : ep l kw i k = true := by unfold ep; rw [IU, IV]; exact (B0.symm.trans ht)
   rw[h2];exact⟨_,_,rfl,aM.keep (by intro q z h;simp only[ee,aq]at h;split at h;(subst_vars;exact h);split at h;(subst_vars;exact h);split at h;(subst_vars;exact h);cases h)⟩
  ·have h2 : ep l kw i k = false := by unfold ep; rw [IU, IV]; exact (B0.symm.trans ht)
   rw[h2];exact⟨_,_,rfl,aM.keep (by intro q z h;simp only[ee,aq]at h;split at h;(subst_vars;exact h);split at h;(subst_vars;exact h);split at h;(subst_vars;exact h);cases h)⟩
 have cj:=Con.pm Ma (LO _ l hl aw kw hk r hy);cases hg:fT l kw with
 |none =>
  rw[hg]at cj;refine A5 (k:=900) (sl0:=[pP 1 (.iptr [.iptr (cz l kw (bd l) r)]),pP 2 (.ptr 2 0),pP 3 (.ptr 3 0)]) (.tmp rfl) (by intro t x h;simp only[aq]at h;split at h;(subst_vars;exact h);split at h;(subst_vars;exact h);split at h;(subst_vars;exact h);cases h) rfl rfl cj (fun k' z h=>h) rfl rfl rfl rfl (by intro h;cases h) (.inl ⟨rfl,?_⟩);refine yw (gZ (go ?_));refine aR.out (gZ (go ?_));refine gR ?_;exact aM.sub aM.pure (Sub.tup (.cons xh (.cons (.refl _) .nil)))
 |some g =>
  rw[hg]at cj;refine A5 (k:=900) (sl0:=[pP 1 (.iptr [.iptr (cz l kw (bd l) r)]),pP 2 (.ptr 2 0),pP 3 (.ptr 3 0)]) (.tmp rfl) (by intro t x h;simp only[aq]at h;split at h;(subst_vars;exact h);split at h;(subst_vars;exact h);split at h;(subst_vars;exact h);cases h) rfl rfl cj (fun k' z h=>h) rfl rfl rfl rfl (by intro h;cases h) (.inr ⟨rfl,?_⟩);exact(bh (P:=prog) (N:=Tryz.f266.ntmps) (e:=.ret) rfl)
theorem xF{α:Type}{o:Option α}(h:o.isSome=true):∃x,o=some x:=by cases o <;> simp_all
theorem y7{α:Type}{o:Option α}(h:o.isSome=false):o=none:=by cases o <;> simp_all
theorem MJ(l:Li)(hl:l.ok)(aw:a5 l=0)(kw:List Bool)(hk:kw.length=l.bo.length)(r:List AV) :
  FP 217 [.iptr (cz l kw (bd l) r)] (.tup [((dB l kw).getD default).av,bl (dB l kw).isSome]):=by
 refine ai func217 ?_;refine gc (RC l hl aw kw (bd l) hk r) ?_;refine gC (fun z=>?_) (fun z=>?_)
 ·obtain⟨g,hg⟩:=xF z;refine bh ?_;unfold dB;rw[hg];rfl
 have hg:=y7 z;refine gc (KX l hl aw kw hk r) ?_;refine gC (fun z=>?_) (fun z=>?_)
 ·obtain⟨g,nW⟩:=xF z;refine bh ?_;unfold dB;rw[hg,nW];rfl
 have nW:=y7 z;refine gc (MX l hl aw kw hk r) ?_;refine bh ?_;unfold dB;rw[hg,nW];rfl
def u8(n:Nat):AV:=.v (.int .u8 n)
theorem xV{p q:Bool}{a b:Nat}{c:Nat}(hp:p=decide (a<=c))(hq:q=decide (c<=b)):cond p q false=decide (a<=c/\c<=b):=by
 subst hp;subst hq
 by_cases h:a<=c
 ·simp[h]
 ·simp[h]
theorem zx(c k:Nat):aa .geq (c:Int) (k:Int)=decide (k<=c):=by simp only[aa,decide_eq_decide];omega
theorem yC(c k:Nat):aa .leq (c:Int) (k:Int)=decide (c<=k):=by simp only[aa,decide_eq_decide];omega
theorem Pf(c:Nat):cond (cond (aa .geq (c:Int) 97) (aa .leq (c:Int) 122) false) true (cond (aa .geq (c:Int) 65) (aa .leq (c:Int) 90) false)=gX c:=by
 have e1:cond (aa .geq (c:Int) 97) (aa .leq (c:Int) 122) false=decide (97<=c/\c<=122):=xV (zx c 97) (yC c 122);have e2:cond (aa .geq (c:Int) 65) (aa .leq (c:Int) 90) false=decide (65<=c/\c<=90):=xV (zx c 65) (yC c 90);rw[e1,e2];unfold gX;cases decide (97<=c/\c<=122) <;> rfl
theorem QC(c:Nat):cond (aa .geq (c:Int) 48) (aa .leq (c:Int) 57) false=qg c:=xV (zx c 48) (yC c 57)
theorem La(c:Nat):cond (cond (gX c) true (qg c)) true (aa .eql (c:Int) 95)=kU c:=by
 unfold kU
 have:aa .eql (c:Int) 95=decide (c=95):=by
  rw[Zq];simp only[aa,beq_iff_eq,aa3];omega
 rw[this];cases gX c <;> cases qg c <;> rfl
theorem E0(c:Nat):FP 247 [u8 c] (bl (gX c)):=by
 refine ai func247 ?_;refine af ?_;exact aa9 bl (Pf c)
theorem PQ(c:Nat):FP 307 [u8 c] (bl (qg c)):=by
 refine ai func307 ?_;refine af ?_;exact aa9 bl (QC c)
theorem QD(c:Nat):FP 248 [u8 c] (bl (kU c)):=by
 refine ai func248 ?_;refine gc (E0 c) ?_;refine aO (fun _=>(PQ c)) ?_;refine af ?_;exact aa9 bl (La c)
theorem PW(s:ByteArray)(hs:s.size<=281474976710656):FP 183 [.v (.string s)] (i64 (dA s)):=by
 refine ai func183 ?_;refine gs (bB rfl rfl rfl (fun h=>tR (.opt rfl (o1 h)) (.const _) T9 rfl oz (by have:=D0 h;omega) rfl)) ?_;refine aO (fun _=>(E0 (iL s 0))) ?_;refine gC (fun z=>?_) (fun z=>?_)
 ·have h0:dA s=0:=U2 z;refine af ?_;rw[h0];rfl
 obtain⟨h0,h1⟩:=LV z;refine aK [0] [] (fun(n:Nat)=>[pP 3 (i64 n)]) (fun _=>[]) (fun n=>1<=n/\n<=s.size/\iM s 1 (s.size-1)=iM s n (s.size-n)) (fun n=>s.size-n) 1 ⟨Z0 _,h0,rfl⟩ ?_;rintro n ⟨gB,hn,hw⟩ K1 J1;refine gs (bB rfl rfl rfl (fun h=>tR (.opt rfl (o1 h)) (.opt rfl (o1 h)) T9 rfl oz (by have:=aW h;omega) rfl)) ?_;refine aO (fun _=>(QD (iL s n))) ?_;refine gC (fun z=>?_) (fun z=>?_)
 ·have h2:n<s.size/\kU (iL s n)=true:=Uh z;refine ga aF ?_;exact aG J1 (n+1) ⟨by omega,by omega,by rw[hw,show s.size-n=(s.size-(n+1))+1 by omega];simp only[iM,h2.2,if_true]⟩
 have h2:n<s.size->kU (iL s n)=false:=SY z
 have h3:dA s=n:=by
  unfold dA;rw[aa2 ⟨h0,h1⟩,hw];rcases Z2 n s.size with h |h
  ·rw[show s.size-n=(s.size-(n+1))+1 by omega];simp only[iM,h2 h,Zm,if_false]
  ·rw[show s.size-n=0 by omega];rfl
 refine af ?_;rw[h3]
theorem rL(s:ByteArray)(hs:s.size<=281474976710656):FP 121 [.v (.string s)] (bl (kQ s)):=by
 refine ai func121 ?_;refine gc (PW s hs) ?_;refine af ?_;exact aa9 bl (KD s)
theorem oy(i:Int)(n:Nat):FP 185 [i64 i,i64 n] (bl (bU i n)):=by
 refine ai func185 ?_;refine af ?_;exact aa9 bl (Q3 i n)
theorem Te(bs:List Bd)(i5:∀b∈bs,b.ok)(hl:bs.length<=281474976710656):FP 122 [.lst 2 (bs.map Bd.av)] (be (fP bs.length (fx bs))):=by
 refine ai func122 ?_;refine gl ?_;refine aK [0,11,12] [] (fun(i:Nat)=>[pP 13 (i64 i)]) (fun _=>[]) (fun i=>i<=bs.length/\∀j,j<i->fx bs j=0) (fun i=>bs.length-i) 0 ⟨aaf _,fun j h=>by omega⟩ ?_;rintro i ⟨hi,hj⟩ K1 J1;refine gC (fun z=>?_) (fun z=>?_)
 ·have ab:=aW z;obtain⟨b,hb⟩:=aJ ab;have dR:bs.getD i default=b:=cI hb;have j7:=i5 b (ZR hb);have mF:=vj Bd.name hb;refine gi (ao hb) ?_;refine gc (rL b.name j7.name) ?_;refine gC (fun z=>?_) (fun z=>?_)
  ·have h1:=iN z;have e1:fx bs i = 5:=by unfold fx; rw [dR,aa2 h1]
   refine af ?_;rw[eS ab hj (by rw[e1];decide),e1];rfl
  have h1:=iC z;refine gs (d6 (.tmp rfl) (.none _) (.some _ (.tmp rfl) oz) T59 rfl T124 rfl oz (by simp only[ZU];omega) rfl) ?_;refine ge rfl ?_;refine aK [0,3,4,11,12,13] [4] (fun(k:Nat)=>[pP 25 (.lst 2 ((bs.take i).map Bd.av)),pP 26 (i64 i),pP 27 (i64 k)]) (fun _=>[]) (fun k=>k<=i/\(bs.take k).any (fun y=>ft y.name b.name)=false) (fun k=>i-k) 0 ⟨aaf _,rfl⟩ ?_ (h1:=(.cons rfl (.of (qw 2 Bd.av bs i)) (.cons rfl (Sub.int (by simp;omega)) (.k .nil))));rintro k ⟨hk,hd⟩ K2 J2;refine gC (fun z=>?_) (fun z=>?_)
  ·have bP:=aW z;obtain ⟨y,hy'⟩:∃ y,(bs.take i)[k]? = some y:=aJ (by simp; omega);have hy:=(rm hy').1;refine gi (ao hy') ?_;refine gC (fun z=>?_) (fun z=>?_)
   ·have h2:ft y.name b.name = true:=z;have e1:fx bs i = 6:=by unfold fx; rw [dR,aa1 (by rw [h1]; decide),aa2 (by rw [mF]; exact rU hy bP h2)]
    refine af ?_;rw[eS ab hj (by rw[e1];decide),e1];rfl
   have h2:ft y.name b.name=false:=z;refine ga aF ?_;exact aG J2 (k+1) ⟨bP,ri hy hd h2⟩
  have bP:=bt hk z;subst bP;have b9:¬g9 (bs.map Bd.name) k=true:=by rw[mF,hd];decide
  refine gl ?_;refine gC (fun z=>?_) (fun z=>?_)
  ·have h3:8 < b.pts.length:=bG z;have e1:fx bs k = 4:=by unfold fx; rw [dR,aa1 (by rw [h1]; decide),aa1 b9,aa2 h3]
   refine af ?_;rw[eS ab hj (by rw[e1];decide),e1];rfl
  have h3:b.pts.length<=8:=jq z;have e1:fx bs k=fP b.pts.length (iS b.pts):=by unfold fx;rw[dR,aa1 (by rw[h1];decide),aa1 b9,aa1 oz]
  refine gl ?_;refine aK [0,4,11,12,13,44,45] [4] (fun(p:Nat)=>[pP 46 (i64 p)]) (fun _=>[]) (fun p=>p<=b.pts.length/\∀j,j<p->iS b.pts j=0) (fun p=>b.pts.length-p) 0 ⟨aaf _,fun j h=>by omega⟩ ?_;rintro p ⟨hp,lJ⟩ K3 J3;refine gC (fun z=>?_) (fun z=>?_)
  ·have jx:=aW z;obtain⟨m,hm⟩:=aJ jx;have vY:b.pts.getD p default=m:=cI hm;have si:=ZR hm;have IW:=vj Mk.name hm;have IX:=j7.pts m si;refine gi (ao hm) ?_;refine gc (rL m.name (j7.names m si)) ?_;refine gC (fun z=>?_) (fun z=>?_)
   ·have h4:=iN z;have e2:iS b.pts p = 5:=by unfold iS; rw [vY,aa2 h4]
    have e3:fx bs k=5:=by rw[e1,eS jx lJ (by rw[e2];decide),e2]
    refine af ?_;rw[eS ab hj (by rw[e3];decide),e3];rfl
   have h4:=iC z;refine gs (d6 (.tmp rfl) (.none _) (.some _ (.tmp rfl) oz) T122 rfl T120 rfl oz (by simp only[ZU];omega) rfl) ?_;refine ge rfl ?_;refine aK [0,4,8,11,12,13,44,45,46] [4,8] (fun(q:Nat)=>[pP 59 (.lst 7 ((b.pts.take p).map Mk.av)),pP 60 (i64 p),pP 61 (i64 q)]) (fun _=>[]) (fun q=>q<=p/\(b.pts.take q).any (fun y=>ft y.name m.name)=false) (fun q=>p-q) 0 ⟨aaf _,rfl⟩ ?_ (h1:=(.cons rfl (.of (qw 7 Mk.av b.pts p)) (.cons rfl (Sub.int (by simp;omega)) (.k .nil))));rintro q ⟨hq,sK⟩ K4 J4;refine gC (fun z=>?_) (fun z=>?_)
   ·have lK:=aW z;obtain ⟨y,hy'⟩:∃ y,(b.pts.take p)[q]? = some y:=aJ (by simp; omega);have hy:=(rm hy').1;refine gi (ao hy') ?_;refine gC (fun z=>?_) (fun z=>?_)
    ·have h5:ft y.name m.name = true:=z;have e2:iS b.pts p = 6:=by unfold iS; rw [vY,aa1 (by rw [h4]; decide),aa2 (by rw [IW]; exact rU hy lK h5)]
     have e3:fx bs k=6:=by rw[e1,eS jx lJ (by rw[e2];decide),e2]
     refine af ?_;rw[eS ab hj (by rw[e3];decide),e3];rfl
    have h5:ft y.name m.name=false:=z;refine ga aF ?_;exact aG J4 (q+1) ⟨lK,ri hy sK h5⟩
   have lK:=bt hq z;subst lK;have IY:¬g9 (b.pts.map Mk.name) q=true:=by rw[IW,sK];decide
   refine gc (kD m.x IX.x) ?_;refine aO (fun _=>(kD m.y IX.y)) ?_;refine gC (fun z=>?_) (fun z=>?_)
   ·have h6:=xW z;have e2:iS b.pts q = 3:=by unfold iS; rw [vY,aa1 (by rw [h4]; decide),aa1 IY,aa1 (by rintro ⟨g1,g2⟩; rcases h6 with g | g; (rw [g1] at g; cases g); (rw [g2] at g; cases g))]
    have e3:fx bs k=3:=by rw[e1,eS jx lJ (by rw[e2];decide),e2]
    refine af ?_;rw[eS ab hj (by rw[e3];decide),e3];rfl
   have h6:=xR z;have e2:iS b.pts q=0:=by unfold iS;rw[vY,aa1 (by rw[h4];decide),aa1 IY,aa2 h6]
   refine ga aF ?_;exact aG J3 (q+1) ⟨jx,fun j h9=>by rcases Z2 j q with g |g;exact lJ j g;(have:j=q:=by omega);subst this;exact e2⟩
  have jx:=bt hp z;subst jx;have e2:fx bs k=0:=e1.trans (sS lJ);refine ga aF ?_;exact aG J1 (k+1) ⟨ab,fun j h9=>by rcases Z2 j k with g |g;exact hj j g;(have:j=k:=by omega);subst this;exact e2⟩
 have ab:=bt hi z;subst ab;refine af ?_;rw[sS hj];rfl
theorem Su(l:Li)(hl:l.ok)(j:Jt):FP 184 [l.av,j.av] (be (gw l j)):=by
 refine ai func184 ?_;refine gC (fun z=>?_) (fun z=>?_)
 ·have h1:=KE z;refine af ?_;unfold gw;rw[aa2 h1];rfl
 have h1:=KQ z;refine gl ?_;refine gc (oy j.a l.bo.length) ?_;refine cu ?_;refine aO (fun _=>(oy j.b l.bo.length)) ?_;refine gC (fun z=>?_) (fun z=>?_)
 ·have h2:=xW z;refine af ?_;unfold gw;rw[aa1 h1,aa2 h2];rfl
 have h2:=xR z;have nY:¬(bU j.a l.bo.length=false\/bU j.b l.bo.length=false):=by rw[h2.1,h2.2];simp
 obtain⟨A,hA,pA,mA,zA0⟩:=F3 h2.1;obtain⟨B,hB,pB,mB,zB0⟩:=F3 h2.2;refine gC (fun z=>?_) (fun z=>?_)
 ·have h3:=jU z;refine af ?_;unfold gw;rw[aa1 h1,aa1 nY,aa2 h3];rfl
 have h3:=lR z;refine gi (ao hB) ?_;refine gi (ao hA) ?_;refine gl ?_;refine gc (oy j.point A.pts.length) ?_;refine cu ?_;refine aO (fun _=>(oy j.on B.pts.length)) ?_;refine gD ?_;refine gC (fun z=>?_) (fun z=>?_)
 ·have h4:=xW z;refine af ?_;unfold gw;rw[aa1 h1,aa1 nY,aa1 h3,pA,pB,aa2 h4];rfl
 have h4:=xR z;have sL:¬(bU j.point A.pts.length=false\/bU j.on B.pts.length=false):=by rw[h4.1,h4.2];simp
 refine gC (fun z=>?_) (fun z=>?_)
 ·have h5:=jU z;refine gC (fun z=>?_) (fun z=>?_)
  ·have h6:=xc z;refine af ?_;unfold gw;rw[aa1 h1,aa1 nY,aa1 h3,pA,pB,aa1 sL,aa2 h5,aa2 h6];rfl
  have h6:=Tx z;refine af ?_;unfold gw;rw[aa1 h1,aa1 nY,aa1 h3,pA,pB,aa1 sL,aa2 h5,aa1 (by rw[h6];simp)];rfl
 have h5:=lR z;refine gl ?_;refine gc (oy j.to B.pts.length) ?_;refine gC (fun z=>?_) (fun z=>?_)
 ·have h6:=iN z;refine af ?_;unfold gw;rw[aa1 h1,aa1 nY,aa1 h3,pA,pB,aa1 sL,aa1 h5,aa2 h6];rfl
 have h6:=iC z;obtain⟨m1,g1,d1,mm1,z1⟩:=Bw h4.2;obtain⟨m2,g2,d2,mm2,z2⟩:=Bw h6;have mo1:=(hl.bo B mB).pts m1 mm1;have mo2:=(hl.bo B mB).pts m2 mm2;refine gi (ao g1) ?_;refine gi (ao g2) ?_;refine gD ?_;refine gc (yg m1.x m2.x mo1.x mo2.x) ?_;refine aO (fun _=>(yg m1.y m2.y mo1.y mo2.y)) ?_;refine gC (fun z=>?_) (fun z=>?_)
 ·have h7:=UR z;refine af ?_;unfold gw;rw[aa1 h1,aa1 nY,aa1 h3,pA,pB,aa1 sL,aa1 h5,aa1 (by rw[h6];decide),d1,d2,aa2 h7];rfl
 have h7:=Mo z;refine af ?_;unfold gw;rw[aa1 h1,aa1 nY,aa1 h3,pA,pB,aa1 sL,aa1 h5,aa1 (by rw[h6];decide),d1,d2,aa1 h7];rfl
theorem Pk(l:Li)(hl:l.ok):FP 123 [l.av] (be (gb l)):=by
 have IZ:=hl.lj;refine ai func123 ?_;refine gl ?_;refine gC (fun z=>?_) (fun z=>?_)
 ·have h0:16<l.jo.length:=bG z;refine af ?_;unfold gb;rw[aa2 h0];rfl
 have h0:l.jo.length<=16:=jq z;have e0:gb l=fP l.jo.length (i9 l):=by unfold gb;rw[aa1 oz]
 refine gl ?_;refine aK [1,14,15] [1] (fun(i:Nat)=>[pP 16 (i64 i)]) (fun _=>[]) (fun i=>i<=l.jo.length/\∀j,j<i->i9 l j=0) (fun i=>l.jo.length-i) 0 ⟨aaf _,fun j h=>by omega⟩ ?_;rintro i ⟨hi,hj⟩ K1 J1;refine gC (fun z=>?_) (fun z=>?_)
 ·have ab:=aW z;obtain⟨b,hb⟩:=aJ ab;have dR:l.jo.getD i default=b:=cI hb;have mF:=vj Jt.name hb;refine gi (ao hb) ?_;refine gc (rL b.name (hl.jnames b (ZR hb))) ?_;refine gC (fun z=>?_) (fun z=>?_)
  ·have h1:=iN z;have e1:i9 l i = 5:=by unfold i9; rw [dR,aa2 h1]
   refine af ?_;rw[e0,eS ab hj (by rw[e1];decide),e1];rfl
  have h1:=iC z;refine gs (d6 (.tmp rfl) (.none _) (.some _ (.tmp rfl) oz) T60 rfl T126 rfl oz (by simp only[ZU];omega) rfl) ?_;refine ge rfl ?_;refine aK [1,3,4,14,15,16] [1,4] (fun(k:Nat)=>[pP 29 (.lst 7 ((l.jo.take i).map Jt.av)),pP 30 (i64 i),pP 31 (i64 k)]) (fun _=>[]) (fun k=>k<=i/\(l.jo.take k).any (fun y=>ft y.name b.name)=false) (fun k=>i-k) 0 ⟨aaf _,rfl⟩ ?_ (h1:=(.cons rfl (.of (qw 7 Jt.av l.jo i)) (.cons rfl (Sub.int (by simp;omega)) (.k .nil))));rintro k ⟨hk,hd⟩ K2 J2;refine gC (fun z=>?_) (fun z=>?_)
  ·have bP:=aW z;obtain ⟨y,hy'⟩:∃ y,(l.jo.take i)[k]? = some y:=aJ (by simp; omega);have hy:=(rm hy').1;refine gi (ao hy') ?_;refine gC (fun z=>?_) (fun z=>?_)
   ·have h2:ft y.name b.name = true:=z;have e1:i9 l i = 6:=by unfold i9; rw [dR,aa1 (by rw [h1]; decide),aa2 (by rw [mF]; exact rU hy bP h2)]
    refine af ?_;rw[e0,eS ab hj (by rw[e1];decide),e1];rfl
   have h2:ft y.name b.name=false:=z;refine ga aF ?_;exact aG J2 (k+1) ⟨bP,ri hy hd h2⟩
  have bP:=bt hk z;subst bP;have b9:¬g9 (l.jo.map Jt.name) k=true:=by rw[mF,hd];decide
  have e1:i9 l k=gw l b:=by unfold i9;rw[dR,aa1 (by rw[h1];decide),aa1 b9]
  refine gc (Su l hl b) ?_;refine gC (fun z=>?_) (fun z=>?_)
  ·have h3:=fX z;refine af ?_;rw[e0,eS ab hj (by rw[e1];exact h3),e1]
  have h3:=f7 z;refine ga aF ?_;exact aG J1 (k+1) ⟨ab,fun j h9=>by rcases Z2 j k with g |g;exact hj j g;(have:j=k:=by omega);subst this;exact e1.trans h3⟩
 have ab:=bt hi z;subst ab;refine af ?_;rw[e0,sS hj];rfl
theorem Nr(l:Li)(hl:l.ok):FP 124 [l.av] (be (jG l)):=by
 have IR:=hl.ld;refine ai func124 ?_;refine gl ?_;refine gC (fun z=>?_) (fun z=>?_)
 ·have h0:2<l.dv.length:=bG z;refine af ?_;unfold jG;rw[aa2 h0];rfl
 have h0:l.dv.length<=2:=jq z;have e0:jG l=fP l.dv.length (eT l):=by unfold jG;rw[aa1 oz]
 refine gl ?_;refine aK [1,15,16] [1] (fun(i:Nat)=>[pP 17 (i64 i)]) (fun _=>[]) (fun i=>i<=l.dv.length/\∀j,j<i->eT l j=0) (fun i=>l.dv.length-i) 0 ⟨aaf _,fun j h=>by omega⟩ ?_;rintro i ⟨hi,hj⟩ K1 J1;refine gC (fun z=>?_) (fun z=>?_)
 ·have ab:=aW z;obtain⟨b,hb⟩:=aJ ab;have dR:l.dv.getD i default=b:=cI hb;have mF:=vj Dr.name hb;refine gi (ao hb) ?_;refine gc (rL b.name (hl.dnames b (ZR hb))) ?_;refine gC (fun z=>?_) (fun z=>?_)
  ·have h1:=iN z;have e1:eT l i = 5:=by unfold eT; rw [dR,aa2 h1]
   refine af ?_;rw[e0,eS ab hj (by rw[e1];decide),e1];rfl
  have h1:=iC z;refine gs (d6 (.tmp rfl) (.none _) (.some _ (.tmp rfl) oz) T61 rfl T128 rfl oz (by simp only[ZU];omega) rfl) ?_;refine ge rfl ?_;refine aK [1,3,4,15,16,17] [1,4] (fun(k:Nat)=>[pP 30 (.lst 2 ((l.dv.take i).map Dr.av)),pP 31 (i64 i),pP 32 (i64 k)]) (fun _=>[]) (fun k=>k<=i/\(l.dv.take k).any (fun y=>ft y.name b.name)=false) (fun k=>i-k) 0 ⟨aaf _,rfl⟩ ?_ (h1:=(.cons rfl (.of (qw 2 Dr.av l.dv i)) (.cons rfl (Sub.int (by simp;omega)) (.k .nil))));rintro k ⟨hk,hd⟩ K2 J2;refine gC (fun z=>?_) (fun z=>?_)
  ·have bP:=aW z;obtain ⟨y,hy'⟩:∃ y,(l.dv.take i)[k]? = some y:=aJ (by simp; omega);have hy:=(rm hy').1;refine gi (ao hy') ?_;refine gC (fun z=>?_) (fun z=>?_)
   ·have h2:ft y.name b.name = true:=z;have e1:eT l i = 6:=by unfold eT; rw [dR,aa1 (by rw [h1]; decide),aa2 (by rw [mF]; exact rU hy bP h2)]
    refine af ?_;rw[e0,eS ab hj (by rw[e1];decide),e1];rfl
   have h2:ft y.name b.name=false:=z;refine ga aF ?_;exact aG J2 (k+1) ⟨bP,ri hy hd h2⟩
  have bP:=bt hk z;subst bP;have b9:¬g9 (l.dv.map Dr.name) k=true:=by rw[mF,hd];decide
  refine gl ?_;refine gc (oy b.body l.bo.length) ?_;refine gC (fun z=>?_) (fun z=>?_)
  ·have h3:=iN z;have e1:eT l k = 9:=by unfold eT; rw [dR,aa1 (by rw [h1]; decide),aa1 b9,aa2 h3]
   refine af ?_;rw[e0,eS ab hj (by rw[e1];decide),e1];rfl
  have h3:=iC z;refine gC (fun z=>?_) (fun z=>?_)
  ·have h4:=jU z;have e1:eT l k = 7:=by unfold eT; rw [dR,aa1 (by rw [h1]; decide),aa1 b9,aa1 (by rw [h3]; decide),aa2 h4]
   refine af ?_;rw[e0,eS ab hj (by rw[e1];decide),e1];rfl
  have h4:=lR z;have e1:eT l k=if(l.dv.take k).any (fun d=>decide (d.body=b.body))=true then 6 else 0:=by unfold eT;rw[dR,aa1 (by rw[h1];decide),aa1 b9,aa1 (by rw[h3];decide),aa1 h4]
  refine gs (d6 (.tmp rfl) (.none _) (.some _ (.tmp rfl) oz) T61 rfl T128 rfl oz (by simp only[ZU];omega) rfl) ?_;refine ge rfl ?_;refine aK [1,4,15,16,17] [1,4] (fun(q:Nat)=>[pP 58 (.lst 2 ((l.dv.take k).map Dr.av)),pP 59 (i64 k),pP 60 (i64 q)]) (fun _=>[]) (fun q=>q<=k/\(l.dv.take q).any (fun d=>decide (d.body=b.body))=false) (fun q=>k-q) 0 ⟨aaf _,rfl⟩ ?_ (h1:=(.cons rfl (.of (qw 2 Dr.av l.dv k)) (.cons rfl (Sub.int (by simp;omega)) (.k .nil))));rintro q ⟨hq,sK⟩ K3 J3;refine gC (fun z=>?_) (fun z=>?_)
  ·have lK:=aW z;obtain ⟨y,hy'⟩:∃ y,(l.dv.take k)[q]? = some y:=aJ (by simp; omega);have hy:=(rm hy').1;refine gi (ao hy') ?_;refine gC (fun z=>?_) (fun z=>?_)
   ·have h5:decide (y.body = b.body) = true:=aa6 (jU z);have e2:eT l k = 6:=by rw [e1,aa2 (rU hy lK h5)]
    refine af ?_;rw[e0,eS ab hj (by rw[e2];decide),e2];rfl
   have h5:decide (y.body=b.body)=false:=aa7 (lR z);refine ga aF ?_;exact aG J3 (q+1) ⟨lK,ri hy sK h5⟩
  have lK:=bt hq z;subst lK;have e2:eT l q=0:=by rw[e1,sK];rfl
  refine ga aF ?_;exact aG J1 (q+1) ⟨ab,fun j h9=>by rcases Z2 j q with g |g;exact hj j g;(have:j=q:=by omega);subst this;exact e2⟩
 have ab:=bt hi z;subst ab;refine af ?_;rw[e0,sS hj];rfl
theorem F0(l:Li)(hl:l.ok):FP 68 [l.av] (be (a5 l)):=by
 have fj:=hl.lb;refine ai func68 ?_;refine gc (rL l.name hl.name) ?_;refine gC (fun z=>?_) (fun z=>?_)
 ·have h1:=iN z;refine af ?_;unfold a5;rw[aa2 h1];rfl
 have h1:=iC z;refine gl ?_;refine gC (fun z=>?_) (fun z=>?_)
 ·have h2:=RG z;refine af ?_;unfold a5;rw[aa1 (by rw[h1];decide),aa2 h2];rfl
 have h2:=UI z;refine gl ?_;refine gC (fun z=>?_) (fun z=>?_)
 ·have h3:8<l.bo.length:=bG z;refine af ?_;unfold a5;rw[aa1 (by rw[h1];decide),aa1 h2,aa2 h3];rfl
 have h3:l.bo.length<=8:=jq z;have e0:a5 l=if kX l≠0 then kX l else if gb l≠0 then gb l else jG l:=by unfold a5;rw[aa1 (by rw[h1];decide),aa1 h2,aa1 oz]
 refine gc (Te l.bo hl.bo fj) ?_;refine gC (fun z=>?_) (fun z=>?_)
 ·have h4:kX l≠0:=fX z;refine af ?_;rw[e0,aa2 h4];rfl
 have h4:kX l=0:=f7 z;refine gc (Pk l hl) ?_;refine gC (fun z=>?_) (fun z=>?_)
 ·have h5:=fX z;refine af ?_;rw[e0,aa1 (by rw[h4];simp),aa2 h5]
 have h5:=f7 z;refine gc (Nr l hl) ?_;refine af ?_;rw[e0,aa1 (by rw[h4];simp),aa1 (by rw[h5];simp)]
theorem ul{α:Type}{f:α->List Int}:∀(gs:List α)(k:List Bool),(gs.foldl (fun k g=>bI k (f g)) k).length=k.length
 |[],k=>rfl
 |g::gs,k=>by rw[YQ,ul gs,j6]
variable{P:abe}{N:Nat}{R:Array Oper}{s:AS}{pos:String}{after:Array Edge}
theorem zV{d:Nat}{x:abb}{n:Nat}{z:abc}{T E t:abd}{ti te:TI}(hx:Ev s x (.v (.int .i64 n)))
    (hT:ak P T=some ti) (hk:ti.k=.slice E) (hE:ak P E=some te) (hz:te.zero=[z]) (dX:z.oneCell'=true) (hs:XK te.size 1=true) (gH:XU 0 te.bytes=true)
    (hb:(n:Int)*te.bytes<=281474976710656) (hN:XU d N=true) :
    Step P N R s ⟨some d,.makeSlice T x x,t,pos,after,none⟩
      ⟨some (.ms d 1 0 n),[(d,some (.vec (YO n z)))],ae x,[]⟩ :=
  mY rfl rfl hN (by simp) fun s' aj hfr C m a w hr => by
    have cZ:=kR hr (hx.agree aj (fun _ h=>h));have hs:=ZT hs;rw[Yb]at gH;obtain⟨d2,h3,h4,-,-⟩:=bX hT w;obtain rfl:=eZ (h4.trans hk);obtain⟨zv,h5,h6⟩:=rf hE w;obtain⟨ie,h7,h8,-⟩:=C4 hE w;have h6':zv.cells.toList=[z]:=h6.trans hz;have Am:zv.cells=#[z]:=by rw[<- Array.toArray_toList (xs:=zv.cells),h6']
    have sa:(n:Int)<=281474976710656:=by
      have:(n:Int)*1<=n*te.bytes:=Int.mul_le_mul_of_nonneg_left oz oz;omega
    have iV:IntKind.i64.wrap (n:Int)=n:=IntWalk.i64_in n oz;obtain⟨zero,dO⟩:∃zero:Array abc,zero=(if n*te.size=0 then #[]else zv.cells):=⟨_,rfl⟩
    refine⟨.slice (some ⟨w.heap.size,0,none⟩) n n,(Array.range (n*te.size)).map (zero[· % zero.size]!),E,w.drawn,?_,?_,?_,?_⟩
    · have iW:(Instr.makeSlice T (.int .i64 n) (.int .i64 n)).run P w =
          .ok (.slice (some ⟨w.heap.size,0,none⟩) n n) { w with heap:=w.heap.push (.cells ((Array.range (n*te.size)).map (zero[· % zero.size]!)) E) }:=by
        have hc:¬(((n:Int)<0\/281474976710656<(ie.bytes:Int)*n)\/(n:Int)<0):=by
          rw[h8,Int.mul_comm];omega
        simp only[Instr.makeSlice,abh,h3,abg,asInt,asIntOf,abi,h7,iV];rw[aa1 (by simpa using hc)];simp only[abh,run_askRoom,abg,ef hE,Int.toNat_natCast]
        by_cases h0:n*te.size=0
        · rw[aa2 h0]at dO ⊢
          subst dO;simp only[abh,abi,abg,newRow,run_newObj]
        · rw[aa1 h0]at dO ⊢
          subst dO;simp only[abh,abi,abg,h5,newRow,run_newObj]
      simp only[execOp,cZ,abh,iW,abg,abi]
    · exact fun h=>h
    · intro g S m' w' hg hS hm hw
      refine .vec hw ?_ (fun v hv=>by rw[List.eq_of_mem_replicate hv];exact dX);apply List.ext_getElem?;intro j;rw[ZM,YS]
      by_cases hj:j<n
      · have fZ : ¬ n * te.size = 0 := by rw [hs]; omega
        rw[aa1 fZ,Am]at dO;subst dO;rw[aa2 hj];simp only[Array.getElem?_map,Array.getElem?_range,show j<n*te.size by rw[hs];omega,if_true,ZP,Option.some.injEq];simp[Nat.mod_one]
      · rw[aa1 hj,ZE (by simp[hs];omega)]
    · intro g S m' hm hS
      have:=Rep.ms (g:=g) (S:=S) (m:=m') (k:=d) (sz:=1) (off:=0) (len:=n) (cap:=n) hm (Z0 _) (by simpa[hs]using hS);simpa using this
theorem s9{x y:abb}{k i:Nat}{vs:List abc}{v:abc}{T t:abd}{ti:TI}
  (hx:Ev s x (.eptr k 1 i 0)) (hk:s.blk k=some (.vec vs)) (hi:i<vs.length) (hy:Ev s y (.v v)) (hv:v.oneCell'=true) (hT:ak P T=some ti) (aA:XK ti.size 1=true) :
  Step P N R s ⟨none,.store T x y,t,pos,after,none⟩ ⟨none,[(k,some (.vec (vs.set i v)))],ae x++ae y,[k]⟩ :=
 wU rfl rfl (by simp) hk fun s' aj C m a w hr => by
  have aA:=ZT aA;obtain⟨b,hm,cZ⟩:=uE hr (hx.agree aj (fun _ h=>ZY.2 (.inl h)));have gE:=kR hr (hy.agree aj (fun _ h=>ZY.2 (.inr h)));have hb:=hr.heap.blk k _ ((aj.2 k (by simp)).trans hk);rw[hm]at hb;cases hb with
  | @vec _ _ c t2 hw hc h1 =>
   have it:c.size=vs.length:=by rw[<- hc];simp
   have vZ:v.cells=#[v]:=by cases v <;> simp_all [Value.cells,Value.oneCell']
   refine⟨b,c,(over c.toList i v.cells.toList).toArray,t2,hm,hw,?_,?_,?_⟩
   ·simp[over,vZ];omega
   ·have db := yk (P := P) (off := i) (v := v) hT hw (by rw[vZ,aA];rfl) oz (by rw[vZ];simpa using hv);simp[execOp,Instr.storeAt,cZ,Instr.sureAddr,gE,db]
   ·intro g S w' hg hS hw';refine .vec hw' ?_ (fun u hu=>?_)
    ·rw[hc,vZ];unfold over;rw[List.set_eq_take_append_cons_drop,aa2 hi];simp
    ·rcases Yi hu with h9 |h9
     ·exact h1 u h9
     ·rw[h9];exact hv
inductive Lent(H:Hp)(hid:List Nat):AV->AV->Prop
  |same {x:AV} (h:x.nm=[]):Lent H hid x x
  |ms {k off len:Nat} {vs:List abc} (hk:lk H k=some (.vec vs)) (hh:k∉hid) (hl:off+len<=vs.length) (hm:vs.length<=an):Lent H hid (.ms k 1 off len) (.lst 1 (((vs.drop off).take len).map .v))
theorem E7{g:Nat->Array abc->Prop}{S:Nat->Nat->Prop}{m:Nat->Option Nat}{u y:abc}(h:Rep g S m u (.v y)):u=y:=by cases h;rfl
theorem tL{m:Nat->Option Nat}{b:Nat}:¬aB [] m b:=by rintro⟨k,x,h,_⟩;cases h
def pr(ext:Nat->Prop)(H:Hp)(hid:List Nat)(m:Nat->Option Nat)(b:Nat):Prop:=ext b\/∃k z,k∈hid/\lk H k=some z/\m k=some b
theorem JW{ext:Nat->Prop}{H:Hp}{hid:List Nat}{m m2:Nat->Option Nat}{w:abf}{b:Nat}{cs:Array abc}(h:Im ext H m w b cs):Im (pr ext H hid m) [] m2 w b cs :=
 ⟨fun h'=>h'.elim h.1 (fun⟨k,z,_,hz,hb⟩=>h.2.1 ⟨k,z,hz,hb⟩),tL,h.2.2⟩
theorem Ha{ext:Nat->Prop}{H:Hp}{hid:List Nat}{m:Nat->Option Nat}{w:abf}(hh:HeapRel ext H m w){k b:Nat}{z:Blk}(hk:lk H k=some z)(hb:m k=some b)(hn:k∉hid):¬pr ext H hid m b:=by
 rintro(h |⟨k',z',h1,h2,h3⟩)
 ·exact(hh.sep k z b hk hb).1 h
 ·have:=hh.inj k k' z z' b hk h2 hb h3;subst this;exact hn h1
theorem Lent.rep{ext:Nat->Prop}{H:Hp}{hid:List Nat}{m:Nat->Option Nat}{w:abf}(hh:HeapRel ext H m w){x x':AV}(h:Lent H hid x x') :
  ∀{v:abc},Rep (Im ext H m w) (Sz w) m v x->∀m2:Nat->Option Nat,Rep (Im (pr ext H hid m) [] m w) (Sz w) m2 v x':=by
 cases h with
 |same hn=>intro v hv m2;exact(tX hn hv).mono (fun _ _ h=>JW h) (fun _ _ h=>h) (fun _ _ _ h=>h)
 | @ms k off len vs hk Wn hl hm =>
  intro v hr m2;have hb:=hh.blk k _ hk;cases hr with
  |ms0 a=>simp only[List.take_zero];exact .lst0 _ _ _
  | @ms _ _ _ _ _ cap b iW hc hS =>
   rw[iW]at hb;cases hb with
   | @vec _ _ c t hw kf h1 =>
    have it:c.size=vs.length:=by rw[<- kf];simp
    have a6:(((vs.drop off).take len).map AV.v).length=len:=by rw[ZU,aao,List.length_drop];omega
    have he':∀(i:Nat)(e:AV),(((vs.drop off).take len).map AV.v)[i]?=some e->∃u,e=.v u/\c[off+i]?=some u/\u∈vs:=by
     intro i e he;rw[ZZ,ZX]at he;obtain⟨u,he,rfl⟩:=he;rw[aak]at he;split at he
     ·rw[aar]at he;exact⟨u,rfl,by rw[<- ZM,kf];exact he,ZR he⟩
     ·cases he
    have:=Rep.lst (g:=Im (pr ext H hid m) [] m w) (S:=Sz w) (m:=m2) (b:=b) (off:=off) (cap:=cap) (sz:=1) (es:=((vs.drop off).take len).map AV.v) (cs:=c) (fun i j=>c.getD (off+i) undef)
     ⟨Ha hh hk iW Wn,tL,t,(0,0),hw⟩ oz oz ?_ ?_ ?_ ?_
    ·rw[a6]at this;simpa using this
    ·intro i e he;obtain⟨u,rfl,_⟩:=he' i e he;rfl
    ·intro i j e x he hx;obtain⟨u,rfl,_,hm⟩:=he' i e he;cases j with
     |zero=>cases hx;exact h1 u hm
     |succ j=>cases hx
    ·intro i j e x he hx;obtain⟨u,rfl,hu,_⟩:=he' i e he;cases j with
     |zero=>rw[Nat.mul_one,XW,Z1,hu];rfl
     |succ j=>cases hx
    ·intro i j e x he hx;obtain⟨u,rfl,hu,_⟩:=he' i e he;cases j with
     |zero=>cases hx;rw[Z1,hu];exact .v _
     |succ j=>cases hx
def Bb:AV->Bool
  | .v (.int _ _)=>true
  |_=>false
def FL:AV->Bool
  | .v (.int _ _)=>false
  | .v _=>true
  | .lst _ _=>true
  | .ms _ _ _ _=>true
  |_=>false
mutual
def AV.li:AV->Bool
  | .v _=>true
  | .agg cs=>AV.lis cs
  | .tup cs=>AV.lis cs
  | .lst sz es=>XK sz 1&&es.all Bb
  |_=>false
def AV.lis:List AV->Bool
  |[]=>true
  |x::l=>x.li&&AV.lis l
end
theorem AV.lis_mem:∀{l:List AV}{c:AV},AV.lis l=true->c∈l->c.li=true
 |x::l,c,h,hc=>by
  simp only[AV.lis,ZW]at h;rcases aai.1 hc with rfl |hc
  ·exact h.1
  ·exact AV.lis_mem h.2 hc
theorem Kt{g:Nat->Array abc->Prop}{S:Nat->Nat->Prop}{m:Nat->Option Nat}{u:abc}{x:AV}(hx:FL x=true)(h:Rep g S m u x)(kk:IntKind)(z:Int):u≠.int kk z:=by
 rintro rfl;cases h <;> cases hx
theorem MS{g g':Nat->Array abc->Prop}{S S':Nat->Nat->Prop}{m m':Nat->Option Nat}{v:abc}{x:AV}(hx:x.li=true)
  (hg:∀b cs (o:Nat)(kk:IntKind)(z:Int),cs[o]?=some (.int kk z)->g b cs->g' b cs) (h:Rep g S m v x):Rep g' S' m' v x:=by
 induction h with
 |v=>exact .v _
 |agg hn h1 hr ih=>exact .agg hn h1 (fun j u c hu hc=>ih j u c hu hc (AV.lis_mem hx (ZR hc)))
 |tup hn hr ih=>exact .tup hn (fun j u c hu hc=>ih j u c hu hc (AV.lis_mem hx (ZR hc)))
 |lst0 a cap sz=>exact .lst0 _ _ _
 | @lst _ b off cap sz es cs u hb hc hl hs h1 hu hr _ =>
  simp only[AV.li,ZW]at hx;have aA:=ZT hx.1;subst aA
  match es,hx,hc,hl,hs,h1,hu,hr with
  |[],_,_,_,_,_,_,_=>exact .lst0 _ _ _
  |e::es,hx,hc,hl,hs,h1,hu,hr =>
   have dm:∀(i j:Nat)(e' c:AV),(e::es)[i]?=some e'->e'.cells[j]?=some c->∃kk z,c=.v (.int kk z):=by
    intro i j e' c he hc';have h9:=Z6.1 hx.2 e' (ZR he);cases e' with
    |v y=>cases y with
     |int kk z =>
      cases j with
      |zero=>cases hc';exact⟨_,_,rfl⟩
      |succ j=>cases hc'
     |_=>cases h9
    |_=>cases h9
   have Wo:∃kk z,e=.v (.int kk z):=by
    have h9:=Z6.1 hx.2 e (by simp);cases e with
    |v y=>cases y with
     |int kk z=>exact⟨_,_,rfl⟩
     |_=>cases h9
    |_=>cases h9
   obtain⟨kk,z,rfl⟩:=Wo;have h8:=hu 0 0 _ _ rfl rfl;have h7:=hr 0 0 _ _ rfl rfl;have h6:u 0 0=.int kk z:=E7 h7;rw[h6]at h8;refine .lst u (hg b cs _ kk z h8 hb) hc hl hs h1 hu (fun i j e' c he hc'=>?_);obtain⟨k2,z2,rfl⟩:=dm i j e' c he hc';rw[E7 (hr i j _ _ he hc')];exact .v _
 |_=>cases hx
theorem Con.lend{f:FuncId}{k:Nat}{cs:List AV}{cs':abc->List AV}{H:Hp}{r:AV}(hid:List Nat)(j0:Nat)(hk:lk H k=some (.box cs))(Wp:k∉hid)
  (hc:∀v:abc,v.oneCell'=true->(cs' v).length=cs.length/\(∀(j:Nat)(x:AV),(cs' v)[j]?=some x->x.one=true) /\
   ∀(j:Nat)(x x':AV),cs[j]?=some x->(cs' v)[j]?=some x'->(j=j0/\x'=.v v)\/Lent H hid x x')
  (hj:j0<cs.length)
  (hH:∀k z,lk H k=some z->k∈hid\/(∃cs,z=.box cs/\cs.all FL=true)\/∃vs,z=.vec vs/\∀v∈vs,∀kk z,v≠.int kk z) (hr:r.li=true) (h:∀v:abc,gh P f [.iptr (cs' v)] r):Con P f [.ptr k 0] H r H:=by
 refine⟨(h undef).ok,?_⟩;intro ext m w vs hext bw cM dP;have aA:0<vs.size:=by rw[cM];exact Nat.one_pos
 have is:=dP 0 vs[0] _ (ZC aA) rfl;have hb:=bw.blk k _ hk;generalize lE:vs[0]=v0 at is;cases is with
 | @ptr _ _ _ b iW =>
  rw[iW]at hb;cases hb with
  | @box _ _ c t hw hn h1 aE =>
   have fH:j0<c.size:=by omega
   have iZ:=ZV (l:=cs) (i:=j0) oz;have sF:(c[j0]).oneCell'=true:=(aE j0 _ _ (ZC fH) iZ).one (h1 j0 _ iZ);obtain⟨g1,g2,g3⟩:=hc c[j0] sF
   have Ao:∀b,pr ext H hid m b->b<w.heap.size:=by
    rintro b (h9 |⟨k',z',_,h2,h3⟩)
    ·exact hext b h9
    ·exact(bw.sep k' z' b h2 h3).2
   have Wq := (h c[j0]).ret (pr ext H hid m) m w vs Ao ⟨fun k z hz => by (cases hz), fun k k' x x' b hx => by (cases hx), fun k x b hx => by (cases hx)⟩ (by rw [cM]; rfl) (by
    intro j v x hv hx
    match j,hx with
    |0,hx =>
     cases hx;rw[ZC aA,lE]at hv;cases hv;refine .iptr (cs:=c) (fun j=>c.getD j undef) ⟨Ha bw hk iW Wp,tL,t,(0,0),hw⟩ g2 ?_ ?_
     ·intro j x hx;have hlt:j < c.size:=by rw [hn,<- g1]; exact (YA.1 hx).1
      rw[XF,Z1,ZC hlt];rfl
     ·intro j x hx;have hlt:j < c.size:=by rw [hn,<- g1]; exact (YA.1 hx).1
      obtain⟨y,hy⟩:=f8 g1 hx;have kf:c[j]?=some (c.getD j undef):=by rw[Z1,ZC hlt];rfl
      rcases g3 j y x hy hx with⟨rfl,rfl⟩ |hl
      ·have : c.getD j undef = c[j] := by rw [ZC hlt] at kf; exact (Option.some.inj kf).symm
       rw[this];exact .v _
      ·exact hl.rep bw (aE j _ y kf hy) bK)
   refine Calls.mono Wq ?_;rintro e w' ⟨v,m',rfl,hf,hh,ba,nL,lD⟩;have v5:∀b,b<w.heap.size->w'.heap[b]?=w.heap[b]? := fun b hb=>hf.keep b hb tL
   have ss:Frame (aB H m) w w':=⟨hf.os,hf.tape,hf.output,hf.size,hf.sz,fun b hb _=>v5 b hb⟩
   have bV:=df (ext:=ext) ss (hp':=H) (m':=m) (fun k x b hk hb=>.inl ⟨k,x,hk,hb⟩);refine⟨v,m,rfl,ss,⟨?_,bw.inj,?_⟩,fun k x b hk hb=>.inl ⟨k,x,hk,hb⟩,fun _ _ _ _ _=>rfl,?_⟩
   ·intro k z hz;exact BlkRep.mono (w:=w) bV hf.sz (fun _ _ _ h=>h) rfl (fun b hb=>v5 b (bw.sep k z b hz hb).2) (bw.blk k z hz)
   ·intro k z b hz hb;have:=bw.sep k z b hz hb;exact⟨this.1,Z9 this.2 hf.size⟩
   ·refine MS hr ?_ lD;rintro b2 cs2 o kk z ho ⟨g1,g2,t2,fl,g3⟩;refine⟨fun h9=>g1 (.inl h9),?_,t2,fl,g3⟩;rintro⟨k2,y,ez,aH⟩;have hlt:=fun b hb=>(bw.sep k2 _ b ez hb).2
    have h3:=bw.blk k2 _ ez;rw[aH]at h3;rcases hH k2 y ez with h9 |⟨cl,rfl,dY⟩ |⟨vs2,rfl,jt⟩
    ·exact g1 (.inr ⟨k2,y,h9,ez,aH⟩)
    ·cases h3 with
     | @box _ _ c2 t' iv lB Wr Az =>
      have AQ:c2=cs2:=by
       rw[v5 b2 (hlt b2 aH),iv]at g3
       injection g3 with g3
       injection g3
      subst AQ;have ho':o<c2.size:=(Array.getElem?_eq_some_iff.1 ho).1;have hx:=ZV (l:=cl) (i:=o) oz;exact Kt (Z6.1 dY _ (ZR hx)) (Az o _ _ ho hx) kk z rfl
    ·cases h3 with
     | @vec _ _ c2 t' iv mr Wr =>
      have AQ:c2=cs2:=by
       rw[v5 b2 (hlt b2 aH),iv]at g3
       injection g3 with g3
       injection g3
      subst AQ;have:Value.int kk z∈vs2:=by rw[<- mr];exact Array.mem_toList_iff.2 (Array.mem_of_getElem? ho)
      exact jt _ this kk z rfl
end Go.Lw
namespace Go.Lw
open Go.Proofs
def bv(xs:List Bool):List abc:=xs.map .bool
theorem fc(xs:List Bool):(bv xs).length=xs.length:=ZU _
theorem uB(xs:List Bool)(n:Nat):(bv xs).set n (.bool true)=bv (xs.set n true):=by unfold bv;rw[aaw]
theorem yG(xs:List Bool):∀v∈bv xs,∀kk z,v≠.int kk z:=by
 intro v hv kk z;obtain⟨b,_,rfl⟩:=Yr.1 hv;exact fun h=>by cases h
theorem tU(xs:List Bool):(bv xs).map AV.v=xs.map bl:=by unfold bv;rw[map_map];rfl
theorem zZ(n:Nat):YO n (Value.bool false)=bv (YO n false):=by unfold bv;rw[aau]
theorem NP(xs:List Int):(xs.map i64).all Bb=true:=by
 rw[Z6];intro x hx;obtain⟨b,_,rfl⟩:=Yr.1 hx;rfl
theorem JJ(g:Gr)(b:Bool):(AV.tup [g.av,bl b]).li=true:=by
 simp only[AV.li,AV.lis,Gr.av,NP];rfl
def mV(l:Li)(n:Nat):Blk:=.box (l.av.cells++[.ms 23 1 0 l.bo.length,.ms 27 1 0 l.bo.length,.ms 31 1 0 l.jo.length,.ms 900 4 0 n])
def lP(l:Li)(kw used:List Bool)(out:List Gr):Hp :=
  [pP 33 (mV l out.length),pP 23 (.vec (bv kw)),pP 27 (.vec (bv (bd l))),pP 31 (.vec (bv used)),pP 900 (.row 4 (out.map Gr.av))]
theorem wk{xs:List Bool}{n:Nat}(h:xs.length=n):AV.lst 1 ((((bv xs).drop 0).take n).map .v)=.lst 1 (xs.map bl):=by
 rw[aax,aag (by rw[fc];omega),tU]
theorem Ff(l:Li)(hl:l.ok)(aw:a5 l=0)(kw used:List Bool)(hk:kw.length=l.bo.length)(hu:used.length=l.jo.length)(hm:l.bo.length<=an/\l.jo.length<=an)(out:List Gr) :
  Con prog 217 [.ptr 33 0] (lP l kw used out) (.tup [((dB l kw).getD default).av,bl (dB l kw).isSome]) (lP l kw used out):=by
 refine Con.lend (cs:=l.av.cells++[.ms 23 1 0 l.bo.length,.ms 27 1 0 l.bo.length,.ms 31 1 0 l.jo.length,.ms 900 4 0 out.length])
  (cs':=fun v=>cz l kw (bd l) [.lst 1 (used.map bl),.v v]) [900] 7 rfl (by decide) ?_ (by simp[Li.av,AV.cells]) ?_ (JJ _ _) (fun v=>MJ l hl aw kw hk _)
 ·intro v hv;refine⟨rfl,?_,?_⟩
  ·intro j x hx
   match j,hx with
   |0,hx=>cases hx;rfl
   |1,hx=>cases hx;rfl
   |2,hx=>cases hx;rfl
   |3,hx=>cases hx;rfl
   |4,hx=>cases hx;rfl
   |5,hx=>cases hx;rfl
   |6,hx=>cases hx;rfl
   |7,hx=>cases hx;exact hv
   |j+8,hx=>cases hx
  ·intro j x x' hx hx'
   match j,hx,hx' with
   |0,hx,hx'=>cases hx;cases hx';exact .inr (.same rfl)
   |1,hx,hx'=>cases hx;cases hx';exact .inr (.same rfl)
   |2,hx,hx'=>cases hx;cases hx';exact .inr (.same rfl)
   |3,hx,hx'=>cases hx;cases hx';exact .inr (.same rfl)
   |4,hx,hx' =>
    cases hx;cases hx'
    have h:=Lent.ms (H:=lP l kw used out) (hid:=[900]) (k:=23) (off:=0) (len:=l.bo.length) (vs:=bv kw) rfl (by decide) (by rw[fc];omega) (by rw[fc];omega);rw[wk hk]at h;exact .inr h
   |5,hx,hx' =>
    cases hx;cases hx'
    have h:=Lent.ms (H:=lP l kw used out) (hid:=[900]) (k:=27) (off:=0) (len:=l.bo.length) (vs:=bv (bd l)) rfl (by decide) (by rw[fc,rS];omega) (by rw[fc,rS];omega);rw[wk (rS l)]at h;exact .inr h
   |6,hx,hx' =>
    cases hx;cases hx'
    have h:=Lent.ms (H:=lP l kw used out) (hid:=[900]) (k:=31) (off:=0) (len:=l.jo.length) (vs:=bv used) rfl (by decide) (by rw[fc];omega) (by rw[fc];omega);rw[wk hu]at h;exact .inr h
   |7,hx,hx'=>cases hx;cases hx';exact .inl ⟨rfl,rfl⟩
   |j+8,hx,hx'=>cases hx
 ·intro k z hz;simp only[lP,aq]at hz;split at hz
  ·cases hz;exact .inr (.inl ⟨_,rfl,rfl⟩)
  split at hz
  ·cases hz;exact .inr (.inr ⟨_,rfl,yG _⟩)
  split at hz
  ·cases hz;exact .inr (.inr ⟨_,rfl,yG _⟩)
  split at hz
  ·cases hz;exact .inr (.inr ⟨_,rfl,yG _⟩)
  split at hz
  ·subst_vars;exact .inl (by decide)
  ·cases hz
def pj(l:Li):AV:=if a5 l=0 then .iptr (cz l (dT l) (bd l) [.lst 1 ((jO l).map bl),.lst 4 ((da l).map Gr.av)])else .v (.pointer none)
def gO(l:Li)(out:List Gr):List Bool:=out.foldl (fun k g=>bI k g.jo) (YO l.jo.length false)
theorem yJ(l:Li)(out:List Gr):(gO l out).length=l.jo.length:=by unfold gO;rw[ul,Yq]
theorem NZ(l:Li)(out:List Gr)(g:Gr):gO l (out++[g])=bI (gO l out) g.jo:=by unfold gO;rw[Yw];rfl
theorem xz{k:List Bool}{bs:List Int}{i:Nat}{b:Int}(h:bs[i]?=some b):bI k (bs.take (i+1))=(bI k (bs.take i)).set b.toNat true:=by
 unfold bI;rw[d7 h,Yw];rfl
theorem OJ{l:Li}(aw:a5 l=0){kw:List Bool}{out:List Gr}{g:Gr}(hk:kw.length=l.bo.length)(h:cW l (cA kw) kw out=(dT l,da l))(hg:dB l kw=some g) :
  cW l (cA (bI kw g.bo)) (bI kw g.bo) (out++[g])=(dT l,da l):=by
 have hlt:=rI aw hk hg;obtain⟨n,hn⟩:∃n,cA kw=n+1:=⟨cA kw-1,by omega⟩
 rw[hn]at h;unfold cW at h;rw[hg]at h;rw[<- h];exact zM aw _ _ _ _ (by rw[j6];exact hk) (Z0 _) oz
theorem QJ{l:Li}{kw:List Bool}{out:List Gr}(h:cW l (cA kw) kw out=(dT l,da l))(hg:dB l kw=none):kw=dT l/\out=da l:=by
 cases hn:cA kw with
 |zero=>rw[hn]at h;exact⟨(Prod.mk.inj h).1,(Prod.mk.inj h).2⟩
 |succ n=>rw[hn]at h;unfold cW at h;rw[hg]at h;exact⟨(Prod.mk.inj h).1,(Prod.mk.inj h).2⟩
theorem NQ{n:Nat}:cA (ec n 0)<=n:=by
 unfold cA;exact aaj List.countP_le_length (Nat.le_of_eq (qd _ _))
theorem Pe{l:Li}(aw:a5 l=0):cW l (cA (ec l.bo.length 0)) (ec l.bo.length 0) []=(dT l,da l):=by
 rw[<- Nw];exact zM aw _ _ _ _ (qd _ _) (Z0 _) NQ
theorem O7{l:Li}(aw:a5 l=0){kw:List Bool}{out:List Gr}(hk:kw.length=l.bo.length)(h:cW l (cA kw) kw out=(dT l,da l)):out.length<=8:=by
 obtain⟨gs,e⟩:=xH (l:=l) (cA kw) kw out;rw[e]at h;have h1:=(RQ aw).2;have h2:out++gs=da l:=(Prod.mk.inj h).2;rw[<- h2,aah]at h1;omega
theorem Tf(l:Li)(kw used:List Bool)(out:List Gr)(hk:kw.length=l.bo.length)(hu:used.length=l.jo.length)(hm:l.bo.length<=an/\l.jo.length<=an) :
  Wk ⟨[pP 5 (.ptr 33 0)],lP l kw used out⟩ ⟨[pP 5 (.iptr (cz l kw (bd l) [.lst 1 (used.map bl),.lst 4 (out.map Gr.av)]))],[]⟩:=by
 have hd:=rS l;have q1:.ms 23 1 0 l.bo.length=AV.ms 23 1 0 ((bv kw).map AV.v).length:=by rw[ZU,fc,hk]
 refine(Wk.of (sl:=[pP 5 (.ptr 33 0)]) (hp:=[pP 33 (mV l out.length),pP 23 (.row 1 ((bv kw).map .v)),pP 27 (.row 1 ((bv (bd l)).map .v)),pP 31 (.row 1 ((bv used).map .v)),pP 900 (.row 4 (out.map Gr.av))])
  (.k .nil) (.k (.cons rfl (.vecRow (by rw[fc];omega)) (.cons rfl (.vecRow (by rw[fc];omega)) (.cons rfl (.vecRow (by rw[fc];omega)) (.k .nil)))))).trans ?_
 refine(Wk.freeze (k:=23) rfl).trans ?_
 refine(Wk.of (sl:=[pP 5 (.ptr 33 0)]) (hp:=[pP 33 (.box (l.av.cells++[.lst 1 (kw.map bl),.ms 27 1 0 l.bo.length,.ms 31 1 0 l.jo.length,.ms 900 4 0 out.length])),pP 27 (.row 1 ((bv (bd l)).map .v)),pP 31 (.row 1 ((bv used).map .v)),pP 900 (.row 4 (out.map Gr.av))])
  (.k .nil) (.cons rfl (BlkSub.bL (.cons (.refl _) (.cons (.refl _) (.cons (.refl _) (.cons (.refl _) (.cons (.of ((bH (by rw[ZU,fc,hk])).trans (by rw[tU]))) (.cons (.refl _) (.cons (.refl _) (.cons (.refl _) .nil)))))))) rfl) (.k (.k (.k .nil))))).trans ?_
 refine(Wk.freeze (k:=27) rfl).trans ?_
 refine(Wk.of (sl:=[pP 5 (.ptr 33 0)]) (hp:=[pP 33 (.box (l.av.cells++[.lst 1 (kw.map bl),.lst 1 ((bd l).map bl),.ms 31 1 0 l.jo.length,.ms 900 4 0 out.length])),pP 31 (.row 1 ((bv used).map .v)),pP 900 (.row 4 (out.map Gr.av))])
  (.k .nil) (.cons rfl (BlkSub.bL (.cons (.refl _) (.cons (.refl _) (.cons (.refl _) (.cons (.refl _) (.cons (.refl _) (.cons (.of ((bH (by rw[ZU,fc,hd])).trans (by rw[tU]))) (.cons (.refl _) (.cons (.refl _) .nil)))))))) rfl) (.k (.k .nil)))).trans ?_
 refine(Wk.freeze (k:=31) rfl).trans ?_
 refine(Wk.of (sl:=[pP 5 (.ptr 33 0)]) (hp:=[pP 33 (.box (l.av.cells++[.lst 1 (kw.map bl),.lst 1 ((bd l).map bl),.lst 1 (used.map bl),.ms 900 4 0 out.length])),pP 900 (.row 4 (out.map Gr.av))])
  (.k .nil) (.cons rfl (BlkSub.bL (.cons (.refl _) (.cons (.refl _) (.cons (.refl _) (.cons (.refl _) (.cons (.refl _) (.cons (.refl _) (.cons (.of ((bH (by rw[ZU,fc,hu])).trans (by rw[tU]))) (.cons (.refl _) .nil)))))))) rfl) (.k .nil))).trans ?_
 refine(Wk.freeze (k:=900) rfl).trans ?_
 refine(Wk.of (sl:=[pP 5 (.ptr 33 0)]) (hp:=[pP 33 (.box (cz l kw (bd l) [.lst 1 (used.map bl),.lst 4 (out.map Gr.av)]))])
  (.k .nil) (.cons rfl (BlkSub.bL (.cons (.refl _) (.cons (.refl _) (.cons (.refl _) (.cons (.refl _) (.cons (.refl _) (.cons (.refl _) (.cons (.refl _) (.cons (.of (bH (by rw[ZU]))) .nil)))))))) rfl) .nil)).trans ?_
 refine(Wk.freezeB (k:=33) rfl rfl).trans ?_;exact Wk.of (.k .nil) .nil
theorem LK(l:Li)(hl:l.ok):FP 172 [l.av] (.tup [pj l,be (a5 l)]):=by
 refine ai func172 ?_;refine gc (F0 l hl) ?_;refine gC (fun y=>?_) (fun y=>?_)
 ·have h1:=fX y;refine bh ?_;unfold pj;rw[aa1 h1]
 have aw:=f7 y;have h8:=(jL aw).2.2.2.1;have h0:=(jL aw).2.2.2.2;have Wt:l.jo.length<=16:=by have:=(jL aw).2.1;unfold gb at this;split at this;cases this;omega
 have IR:=hl.ld;have hm:l.bo.length<=an/\l.jo.length<=an:=by unfold an;omega
 refine gl ?_;refine gs (zV (.tmp rfl) T234 rfl T4 rfl rfl rfl rfl (by dsimp only;omega) rfl) ?_;refine gl ?_;refine gs (zV (.tmp rfl) T234 rfl T4 rfl rfl rfl rfl (by dsimp only;omega) rfl) ?_;refine gl ?_;refine gs (zV (.tmp rfl) T234 rfl T4 rfl rfl rfl rfl (by dsimp only;omega) rfl) ?_;refine gD ?_;refine gs (aP (n:=0) (.tmp rfl) (.const _) T234 rfl T4 rfl rfl oz rfl) ?_;refine gs (s9 (.tmp rfl) rfl (by rw[Yq];omega) (.const _) rfl T4 rfl) ?_ (6,0);refine gW (Wk.of (sl:=[pP 1 (.ptr 1 0),pP 5 (.ptr 33 0)]) (hp:=[pP 1 (.box l.av.cells),pP 33 (.box (l.av.cells++[.ms 23 1 0 l.bo.length,.ms 27 1 0 l.bo.length,.ms 31 1 0 l.jo.length,nS])),pP 23 (.vec (bv (ec l.bo.length 0))),pP 27 (.vec (bv (YO l.bo.length false))),pP 31 (.vec (bv (YO l.jo.length false)))]) aI (.k (.k (.cons rfl (.of (by rw[zZ,uB];rfl)) (.cons rfl (.of (by rw[zZ])) (.cons rfl (.of (by rw[zZ])) .nil)))))) ?_
 refine gl ?_;refine aK [1,5,40,41] [1,23,31] (fun(i:Nat)=>[pP 42 (i64 i)]) (fun i=>[pP 33 (.box (l.av.cells++[.ms 23 1 0 l.bo.length,.ms 27 1 0 l.bo.length,.ms 31 1 0 l.jo.length,nS])),pP 27 (.vec (bv (bI (YO l.bo.length false) ((l.dv.map Dr.body).take i))))]) (fun i=>i<=l.dv.length) (fun i=>l.dv.length-i) 0 (aaf _) ?_;rintro i hi K1 J1;refine gC (fun y=>?_) (fun y=>?_) (st2:=(11,0))
 ·have ab:=aW y;obtain⟨d,hd⟩:=aJ ab;have hb:=i7 (qf aw hd);have Wu:=xz (k:=YO l.bo.length false) (bs:=l.dv.map Dr.body) (i:=i) (b:=d.body) (by rw[ZZ,hd];rfl);refine gi (ao hd) ?_;refine gs (aP (n:=d.body.toNat) (.tmp rfl) (.tmp rfl) T234 rfl T4 rfl oz oz rfl) ?_;refine gs (s9 (.tmp rfl) rfl (by rw[fc,j6,Yq];omega) (.const _) rfl T4 rfl) ?_;refine gD ?_;refine ga aF ?_;exact aG J1 (i+1) ab (hw:=Wk.of aI (.k (.cons rfl (.of (by rw[uB,Wu])) (.k (.k (.k .nil))))))
 have ab:=bt hi y;have Wv:bI (YO l.bo.length false) ((l.dv.map Dr.body).take i)=bd l:=by rw[ab];unfold bd;rw[aag (by rw[ZU];omega)]
 refine gW ((Wk.virt 900 4 rfl).trans<|Wk.of (sl:=[pP 1 (.ptr 1 0),pP 5 (.ptr 33 0)]) (hp:=[pP 33 (mV l 0),pP 23 (.vec (bv (ec l.bo.length 0))),pP 27 (.vec (bv (bd l))),pP 31 (.vec (bv (YO l.jo.length false))),pP 900 (.row 4 [])]) aI (.cons rfl (BlkSub.bL (.cons (.refl _) (.cons (.refl _) (.cons (.refl _) (.cons (.refl _) (.cons (.refl _) (.cons (.refl _) (.cons (.refl _) (.cons (Sub.nM _ _ _) .nil)))))))) rfl) (.k (.cons rfl (.of (by rw[Wv])) (.k (.k .nil)))))) ?_
 refine gt (bF (Ff l hl aw (ec l.bo.length 0) (YO l.jo.length false) (qd _ _) Yq hm []) (gn rfl) (fun k z h=>h) rfl rfl) ?_;refine ek [5,8] [] (fun(kw:List Bool)(out:List Gr)=>[pP 9 (bl (dB l kw).isSome)]) (fun kw out=>[pP 8 (.box ((dB l kw).getD default).av.cells),pP 33 (mV l out.length),pP 23 (.vec (bv kw)),pP 27 (.vec (bv (bd l))),pP 31 (.vec (bv (gO l out))),pP 900 (.row 4 (out.map Gr.av))]) (fun kw out=>kw.length=l.bo.length/\cW l (cA kw) kw out=(dT l,da l)) (fun kw _=>cA kw) (ec l.bo.length 0) ([]) ⟨qd _ _,Pe aw⟩ ?_
 rintro kw out ⟨hk,hf⟩ K2 J2;refine gC (fun y=>?_) (fun y=>?_) (st1:=(77777,0)) (st2:=(27,0))
 ·obtain ⟨g, hg⟩:=xF y;have v6:=Er aw hg;have p4:=O7 aw hk hf;refine gW (Wk.of (sl:=[pP 5 (.ptr 33 0),pP 8 (.ptr 8 0)]) (hp:=[pP 8 (.box g.av.cells),pP 33 (mV l out.length),pP 23 (.vec (bv kw)),pP 27 (.vec (bv (bd l))),pP 31 (.vec (bv (gO l out))),pP 900 (.row 4 (out.map Gr.av))]) aI (.cons rfl (.of (by rw [hg]; rfl)) (.k (.k (.k (.k (.k .nil))))))) ?_;refine gl ?_;refine aK [5,8,66,67] [8,33,27,31,900] (fun (j:Nat)=>[pP 68 (i64 j)]) (fun j=>[pP 23 (.vec (bv (bI kw (g.bo.take j))))]) (fun j=>j <= g.bo.length) (fun j=>g.bo.length - j) 0 (aaf _) ?_;rintro j hj K3 J3;refine gC (fun y=>?_) (fun y=>?_)
  ·have ab:=aW y;obtain⟨b,hb⟩:=aJ ab;have gH:=v6.b b (ZR hb);have fj:=v6.lb;refine gi (ao hb) ?_;refine gs (aP (n:=b.toNat) (.tmp rfl) (.tmp rfl) T234 rfl T4 rfl oz oz rfl) ?_;refine gs (s9 (.tmp rfl) rfl (by rw[fc,j6];omega) (.const _) rfl T4 rfl) ?_;refine ga aF ?_;exact aG J3 (j+1) ab (hw:=Wk.of aI (.cons rfl (.of (by rw[uB,xz hb])) (.k (.k (.k (.k (.k .nil)))))))
  have ab:=bt hj y;subst ab;refine gl ?_;refine aK [5,8,80,81] [8,33,27,900] (fun(q:Nat)=>[pP 82 (i64 q)]) (fun q=>[pP 23 (.vec (bv (bI kw g.bo))),pP 31 (.vec (bv (bI (gO l out) (g.jo.take q))))]) (fun q=>q<=g.jo.length) (fun q=>g.jo.length-q) 0 (aaf _) ?_ (h2:=(.cons rfl (.of (by rw[aab])) (.k .nil)));rintro q hq K4 J4;refine gC (fun y=>?_) (fun y=>?_)
  ·have ab:=aW y;obtain⟨b,hb⟩:=aJ ab;have gH:=v6.j b (ZR hb);have IZ:=v6.lj;refine gi (ao hb) ?_;refine gs (aP (n:=b.toNat) (.tmp rfl) (.tmp rfl) T234 rfl T4 rfl oz oz rfl) ?_;refine gs (s9 (.tmp rfl) rfl (by rw[fc,j6,yJ];omega) (.const _) rfl T4 rfl) ?_;refine ga aF ?_;exact aG J4 (q+1) ab (hw:=Wk.of aI (.k (.cons rfl (.of (by rw[uB,xz hb])) (.k (.k (.k (.k .nil)))))))
  have ab:=bt hq y;subst ab;refine gs (cU (.tmp rfl) rfl (by rw[ZU]) (.tmp rfl) T134 rfl T180 rfl rfl (by simp only[Z7,aan];omega) rfl rfl) ?_;refine gD ?_ (25,0);refine gW (Wk.of (sl:=[pP 5 (.ptr 33 0),pP 8 (.ptr 8 0)]) (hp:=[pP 8 (.box g.av.cells),pP 33 (.box (l.av.cells++[.ms 23 1 0 l.bo.length,.ms 27 1 0 l.bo.length,.ms 31 1 0 l.jo.length,.ms 100 4 0 (out++[g]).length])),pP 100 (.row 4 ((out++[g]).map Gr.av)),pP 23 (.vec (bv (bI kw g.bo))),pP 27 (.vec (bv (bd l))),pP 31 (.vec (bv (gO l (out++[g]))))]) aI (.k (.cons rfl (.of (by rw[aah];rfl)) (.cons rfl (.of (by rw[aas];rfl)) (.k (.k (.cons rfl (.of (by rw[NZ,aab])) .nil))))))) ?_ (25,0)
  refine gW (Wk.rk (k:=100) (d:=900) rfl rfl) ?_ (26,0);refine gW (Wk.o (sl:=[pP 5 (.ptr 33 0),pP 103 (g.av)]) (hp:=[pP 33 (mV l (out++[g]).length),pP 23 (.vec (bv (bI kw g.bo))),pP 27 (.vec (bv (bd l))),pP 31 (.vec (bv (gO l (out++[g])))),pP 900 (.row 4 ((out++[g]).map Gr.av))])) ?_;refine gt (bF (Ff l hl aw (bI kw g.bo) (gO l (out++[g])) (by rw[j6];exact hk) (yJ _ _) hm (out++[g])) (gn rfl) (by intro k z h;simp only[lP,aq]at h;split at h;(subst_vars;exact h);split at h;(subst_vars;exact h);split at h;(subst_vars;exact h);split at h;(subst_vars;exact h);split at h;(subst_vars;exact h);cases h) rfl rfl) ?_;exact dt J2 (bI kw g.bo) (out++[g]) ⟨by rw[j6];exact hk,OJ aw hk hf hg⟩ (rI aw hk hg)
 have hg:=y7 y;obtain⟨e1,e2⟩:=QJ hf hg;subst e1 e2;refine gW (Wk.o (sl:=[pP 5 (.ptr 33 0)]) (hp:=[pP 33 (mV l (da l).length),pP 23 (.vec (bv (dT l))),pP 27 (.vec (bv (bd l))),pP 31 (.vec (bv (gO l (da l)))),pP 900 (.row 4 ((da l).map Gr.av))])) ?_ (27,0);refine gW (Tf l (dT l) (gO l (da l)) (da l) hk (yJ _ _) hm) ?_;refine bh ?_;unfold pj;rw[aa2 aw,aw];rfl
theorem Dp{α:Type}[BEq α][LawfulBEq α]{xs:List α}{b:α}{ok:Nat->Bool}(h:∀i x,xs[i]?=some x->ok i=!(b==x)):decide (0<=jV (cg xs.length ok))=xs.contains b:=by
 cases hf:cg xs.length ok with
 |some i =>
  obtain⟨h1,h2⟩:=iR hf;obtain⟨x,hx⟩:=aJ h1;rw[h i x hx]at h2;have:b=x:=by simpa using h2
  subst this;rw[Yg.2 (ZR hx)];exact aa6 (by show(0:Int)<=(i:Int);omega)
 |none =>
  rw[aa7 (by show ¬(0:Int) <= -1;decide)]
  symm
  rw[<- Zr,Yg];intro hm;obtain⟨i,hi⟩:=YU.1 hm;have hlt:=(YA.1 hi).1;unfold cg at hf;rw[List.find?_eq_none]at hf;have:=hf i (YR.2 hlt);rw[h i b hi]at this;simp at this
theorem JO(xs:List Bool)(b:Bool)(hl:xs.length<=281474976710656):FP 218 [.lst 1 (xs.map bl),bl b] (i64 (jV (cg xs.length (fun i=>!(b==xs.getD i false))))):=by
 refine ai func218 ?_;refine gl ?_;refine aK [0,1,7] [] (fun(i:Nat)=>[pP 8 (i64 i)]) (fun _=>[]) (fun i=>i<=xs.length/\∀j,j<i->(!(b==xs.getD j false))=true) (fun i=>xs.length-i) 0 ⟨aaf _,fun j h=>by omega⟩ ?_;rintro i ⟨hi,hj⟩ K1 J1;refine gC (fun z=>?_) (fun z=>?_)
 ·have ab:=aW z;obtain⟨x,hx⟩:=aJ ab;have hg:xs.getD i false=x:=cI hx;refine gi (ao hx) ?_;refine gC (fun z=>?_) (fun z=>?_)
  ·have h2:(b==x)=true:=z;refine af ?_;rw[jE ab hj (by rw[hg,h2];rfl)];rfl
  have h2:(b==x)=false:=z;refine ga aF ?_;exact aG J1 (i+1) ⟨ab,fun j h9=>by rcases Z2 j i with g |g;exact hj j g;(have:j=i:=by omega);subst this;rw[hg,h2];rfl⟩
 have ab:=bt hi z;subst ab;refine af ?_;rw[jB hj];rfl
theorem Bz(xs:List Bool)(b:Bool)(hl:xs.length<=281474976710656):FP 173 [.lst 1 (xs.map bl),bl b] (bl (xs.contains b)):=by
 refine ai func173 ?_;refine gc (JO xs b hl) ?_;refine af ?_;rw[<- Dp (xs:=xs) (b:=b) (ok:=fun i=>!(b==xs.getD i false)) (fun i x hx=>by rw[cI hx])];rfl
theorem QH(xs:List Int)(b:Int)(hl:xs.length<=281474976710656):FP 320 [.lst 1 (xs.map i64),i64 b] (i64 (jV (cg xs.length (fun i=>!(b==xs.getD i 0))))):=by
 refine ai func320 ?_;refine gl ?_;refine aK [0,1,7] [] (fun(i:Nat)=>[pP 8 (i64 i)]) (fun _=>[]) (fun i=>i<=xs.length/\∀j,j<i->(!(b==xs.getD j 0))=true) (fun i=>xs.length-i) 0 ⟨aaf _,fun j h=>by omega⟩ ?_;rintro i ⟨hi,hj⟩ K1 J1;refine gC (fun z=>?_) (fun z=>?_)
 ·have ab:=aW z;obtain⟨x,hx⟩:=aJ ab;have hg:xs.getD i 0=x:=cI hx;refine gi (ao hx) ?_;refine gC (fun z=>?_) (fun z=>?_)
  ·have h2:(b==x)=true:=z;refine af ?_;rw[jE ab hj (by rw[hg,h2];rfl)];rfl
  have h2:(b==x)=false:=z;refine ga aF ?_;exact aG J1 (i+1) ⟨ab,fun j h9=>by rcases Z2 j i with g |g;exact hj j g;(have:j=i:=by omega);subst this;rw[hg,h2];rfl⟩
 have ab:=bt hi z;subst ab;refine af ?_;rw[jB hj];rfl
theorem Gj(xs:List Int)(b:Int)(hl:xs.length<=281474976710656):FP 268 [.lst 1 (xs.map i64),i64 b] (bl (xs.contains b)):=by
 refine ai func268 ?_;refine gc (QH xs b hl) ?_;refine af ?_;rw[<- Dp (xs:=xs) (b:=b) (ok:=fun i=>!(b==xs.getD i 0)) (fun i x hx=>by rw[cI hx])];rfl
theorem SQ(l:Li)(hl:l.ok):FP 114 [l.av] (.tup [.lst 4 (((if a5 l=0 then uv l else[])).map Gr.av),be (if a5 l=0 then nG l else a5 l)]):=by
 refine ai func114 ?_;refine gc (LK l hl) (hnm:=(by unfold pj;split <;> rfl)) ?_;refine gC (fun z=>?_) (fun z=>?_) (st2:=(77777,0))
 ·have h1:=fX z;refine gR ?_;exact kK (by rw[aa1 h1,aa1 h1];exact Sub.tup (.cons (.nil _ _ _) (.cons (.refl _) .nil)))
 have aw:=f7 z;have h8:=(jL aw).2.2.2.1;have Wt:l.jo.length<=16:=by have:=(jL aw).2.1;unfold gb at this;split at this;cases this;omega
 have lk1:(dT l).length=l.bo.length:=by unfold dT;rw[ul,qd]
 have lk2:(jO l).length=l.jo.length:=by unfold jO;rw[ul,Yq]
 have e1:pj l=.iptr (cz l (dT l) (bd l) [.lst 1 ((jO l).map bl),.lst 4 ((da l).map Gr.av)]):=by unfold pj;rw[aa2 aw]
 have c1:=GO (k:=dT l);have c2:=GO (k:=jO l);refine gW (Wk.of (sl:=[pP 4 (.iptr (cz l (dT l) (bd l) [.lst 1 ((jO l).map bl),.lst 4 ((da l).map Gr.av)])),pP 5 (be (a5 l))]) (hp:=[]) (.cons rfl (.of e1) (.k .nil)) .nil) ?_;refine gc (Bz (dT l) false oz) ?_;refine aO (fun _=>(Bz (jO l) false oz)) ?_;refine gC (fun t25=>?_) (fun t25=>?_)
 ·have h2:nG l=7:=by
   unfold nG;rw[aa1];intro h;have h3:(dT l).contains false=false:=c1.1 oz;have h4:(jO l).contains false=false:=c2.1 oz;rw[h3,h4]at t25;cases t25
  refine gR ?_;exact kK (by rw[aa2 aw,aa2 aw];unfold uv;rw[aa1 (by rw[h2];simp),h2];exact Sub.tup (.cons (.nil _ _ _) (.cons (.refl _) .nil)))
 have h2:nG l=0:=by
  unfold nG;rw[aa2];cases h3:(dT l).contains false <;> cases h4:(jO l).contains false <;> rw[h3,h4]at t25 <;> first |(cases t25;done) |(have g1:=c1.2 h3;have g2:=c2.2 h4;omega)
 refine bh ?_;rw[aa2 aw,aa2 aw,h2];unfold uv;rw[aa2 h2];rfl
open Lean.Grind
def E(r:(k:Nat)->T k)(n:Nat):Type:=T n
namespace T
theorem ofQ_zero:∀n,ofQ n 0=zero n
 |0=>rfl
 |n+1=>by simp only[ofQ,zero,ofQ_zero n]
theorem ofQ_add:∀n (p q:Rat),ofQ n (p+q)=add n (ofQ n p) (ofQ n q)
 |0,p,q=>rfl
 |n+1,p,q=>by simp only[ofQ,add,ofQ_add n,add_zero]
theorem ofQ_neg:∀n (p:Rat),ofQ n (-p)=neg n (ofQ n p)
 |0,p=>rfl
 |n+1,p=>by simp only[ofQ,neg,ofQ_neg n,Bg]
end T
structure Laws(r:(k:Nat)->T k)(n:Nat):Prop where
  assoc:∀x y z,T.mul r n (T.mul r n x y) z=T.mul r n x (T.mul r n y z)
  dist:∀x y z,T.mul r n x (T.add n y z)=T.add n (T.mul r n x y) (T.mul r n x z)
  one:∀x,T.mul r n (T.ofQ n 1) x=x
theorem T.neg_mul'{r:(k:Nat)->T k}{n:Nat}(h:Laws r n)(x y:T n):T.mul r n (T.neg n x) y=T.neg n (T.mul r n x y):=by
 have h1:T.add n (T.mul r n x y) (T.mul r n (T.neg n x) y)=T.zero n:=by
  rw[T.mul_comm r n x,T.mul_comm r n (T.neg n x),<- h.dist,T.add_neg,T.mul_zero]
 have h2:=aa9 (fun z=>T.add n (T.neg n (T.mul r n x y)) z) h1;simp only[T.add_zero]at h2;rw[<- T.add_assoc,T.add_comm n (T.neg n _),T.add_neg,T.zero_add]at h2;exact h2
theorem T.mul_addr{r:(k:Nat)->T k}{n:Nat}(h:Laws r n)(a b c:T n):T.mul r n (T.add n a b) c=T.add n (T.mul r n a c) (T.mul r n b c):=by
 rw[T.mul_comm r n _ c,h.dist,T.mul_comm r n c,T.mul_comm r n c]
instance (r:(k:Nat)->T k)(n:Nat):Add (E r n):=⟨T.add n⟩
instance (r:(k:Nat)->T k)(n:Nat):Mul (E r n):=⟨T.mul r n⟩
instance (r:(k:Nat)->T k)(n:Nat):Neg (E r n):=⟨T.neg n⟩
instance (r:(k:Nat)->T k)(n:Nat):_root_.Sub (E r n):=⟨fun x y=>T.add n x (T.neg n y)⟩
instance (r:(k:Nat)->T k)(n c:Nat):OfNat (E r n) c:=⟨T.ofQ n (c:Rat)⟩
instance (r:(k:Nat)->T k)(n:Nat):NatCast (E r n):=⟨fun c=>T.ofQ n (c:Rat)⟩
instance (r:(k:Nat)->T k)(n:Nat):IntCast (E r n):=⟨fun c=>T.ofQ n (c:Rat)⟩
instance (r:(k:Nat)->T k)(n:Nat):SMul Nat (E r n):=⟨fun c x=>T.mul r n (T.ofQ n (c:Rat)) x⟩
instance (r:(k:Nat)->T k)(n:Nat):SMul Int (E r n):=⟨fun c x=>T.mul r n (T.ofQ n (c:Rat)) x⟩
def E.pow{r:(k:Nat)->T k}{n:Nat}(x:E r n):Nat->E r n
  |0=>T.ofQ n 1
  |c+1=>T.mul r n (E.pow x c) x
instance (r:(k:Nat)->T k)(n:Nat):HPow (E r n) Nat (E r n):=⟨E.pow⟩
@[reducible] def Laws.ring {r:(k:Nat)->T k} {n:Nat} (h:Laws r n):CommRing (E r n) where
  add_zero a:=by
    show T.add n a (T.ofQ n ((0:Nat):Rat))=a;rw[show(((0:Nat):Rat))=0 from rfl,T.ofQ_zero];exact T.add_zero n a
  add_comm a b:=T.add_comm n a b
  add_assoc a b c:=T.add_assoc n a b c
  mul_assoc a b c:=h.assoc a b c
  mul_one a:=(T.mul_comm r n a _).trans (h.one a)
  one_mul a:=h.one a
  left_distrib a b c:=h.dist a b c
  right_distrib a b c:=T.mul_addr h a b c
  zero_mul a:=by
    show T.mul r n (T.ofQ n ((0:Nat):Rat)) a=T.ofQ n ((0:Nat):Rat);rw[show(((0:Nat):Rat))=0 from rfl,T.ofQ_zero];exact T.zero_mul r n a
  mul_zero a:=by
    show T.mul r n a (T.ofQ n ((0:Nat):Rat))=T.ofQ n ((0:Nat):Rat);rw[show(((0:Nat):Rat))=0 from rfl,T.ofQ_zero];exact T.mul_zero r n a
  pow_zero a:=rfl
  pow_succ a c:=rfl
  ofNat_succ c:=by
    show T.ofQ n ((c+1:Nat):Rat)=T.add n (T.ofQ n (c:Rat)) (T.ofQ n ((1:Nat):Rat));rw[<- T.ofQ_add];congr 1;exact Rat.natCast_add c 1
  ofNat_eq_natCast c:=rfl
  nsmul_eq_natCast_mul c a:=rfl
  neg_add_cancel a:=(T.add_comm n (T.neg n a) a).trans ((T.add_neg n a).trans (T.ofQ_zero n).symm)
  sub a b:=T.add n a (T.neg n b)
  sub_eq_add_neg a b:=rfl
  neg_zsmul i a:=(aa9 (fun z=>T.mul r n z a) (show T.ofQ n ((-i:Int):Rat)=T.neg n (T.ofQ n (i:Rat)) by rw[Rat.intCast_neg,T.ofQ_neg])).trans (T.neg_mul' h _ a)
  zsmul_natCast_eq_nsmul c a:=rfl
  intCast_ofNat c:=rfl
  intCast_neg i:=by
    show T.ofQ n ((-i:Int):Rat)=T.neg n (T.ofQ n (i:Rat));rw[Rat.intCast_neg,T.ofQ_neg]
  mul_comm a b:=T.mul_comm r n a b
section
variable{R:Type}[CommRing R](x y u v p q d:R)
theorem Nv:(x*u+y*v*d)*p+(x*v+y*u)*q*d=x*(u*p+v*q*d)+y*(u*q+v*p)*d:=by grind
theorem PY:(x*u+y*v*d)*q+(x*v+y*u)*p=x*(u*q+v*p)+y*(u*p+v*q*d):=by grind
theorem Sa:x*(u+p)+y*(v+q)*d=(x*u+y*v*d)+(x*p+y*q*d):=by grind
theorem Kx:x*(v+q)+y*(u+p)=(x*v+y*u)+(x*q+y*p):=by grind
end
theorem nk(r:(k:Nat)->T k):∀n,Laws r n
 |0=>⟨fun x y z=>Rat.mul_assoc x y z,fun x y z=>Rat.mul_add x y z,fun x=>Rat.one_mul x⟩
 |n+1=>by
  have I:=(nk r n).ring;have h1:=(nk r n).one;refine⟨?_,?_,?_⟩
  ·rintro⟨x,y⟩ ⟨u,v⟩ ⟨p,q⟩;exact Prod.ext (@Nv (E r n) (nk r n).ring x y u v p q (r n)) (@PY (E r n) (nk r n).ring x y u v p q (r n))
  ·rintro⟨x,y⟩ ⟨u,v⟩ ⟨p,q⟩;exact Prod.ext (@Sa (E r n) (nk r n).ring x y u v p q (r n)) (@Kx (E r n) (nk r n).ring x y u v p q)
  ·rintro⟨u,v⟩;refine Prod.ext ?_ ?_
   ·show T.add n (T.mul r n (T.ofQ n 1) u) (T.mul r n (T.mul r n (T.zero n) v) (r n))=u;rw[h1,T.zero_mul,T.zero_mul,T.add_zero]
   ·show T.add n (T.mul r n (T.ofQ n 1) v) (T.mul r n (T.zero n) u)=v;rw[h1,T.zero_mul,T.add_zero]
instance eRing(r:(k:Nat)->T k)(n:Nat):CommRing (E r n):=(nk r n).ring
structure Sg(R:Type)[CommRing R](s:R->Int):Prop where
  cs:∀x,s x=-1\/s x=0\/s x=1
  one:s 1=1
  neg:∀x,s (-x)=-s x
  mul:∀x y,s (x*y)=s x*s y
  add:∀x y,0<=s x->0<=s y->0<=s (x+y)
namespace Sg
variable{R:Type}[CommRing R]{s:R->Int}
theorem zero(h:Sg R s):s 0=0:=by
 have h1:=h.neg 0;rw[show -(0:R)=0 by grind]at h1;omega
theorem zadd(h:Sg R s){x y:R}(hx:s x=0):s (x+y)=s y:=by
 have h1:=h.cs y;have h2:=h.cs (x+y);have n1:=h.neg x;have n2:=h.neg y;have n3:=h.neg (x+y);have a1:=h.add x y;have a2:=h.add (-x) (-y);have a3:=h.add (-x) (x+y);have a4:=h.add x (-(x+y));rw[show -x+-y=-(x+y) by grind]at a2;rw[show -x+(x+y)=y by grind]at a3;rw[show x+-(x+y)=-y by grind]at a4;omega
theorem kV(h:Sg R s){x y:R}(hx:s x=1)(hy:0<=s y):s (x+y)=1:=by
 have h2:=h.cs (x+y);have a1:=h.add x y;have n2:=h.neg y;have n3:=h.neg (x+y);have a4:=h.add (-(x+y)) y;have e:-(x+y)+y=-x:=by grind
 have n1:=h.neg x;rw[e]at a4;rcases h2 with h2 |h2 |h2
 ·omega
 ·have:=h.zadd (x:=-(x+y)) (y:=y) oz;rw[e]at this;omega
 ·exact h2
end Sg
def sg(r:(k:Nat)->T k)(n:Nat)(x:E r n):Int:=T.sgn r n x
variable{r:(k:Nat)->T k}{n:Nat}
theorem E.zero_def:(0:E r n)=T.zero n:=T.ofQ_zero n
theorem ow(q:Rat):asQ q=-1/\q<0\/asQ q=0/\q=0\/asQ q=1/\0<q:=by
 unfold asQ;split
 ·exact .inl ⟨rfl,by assumption⟩
 ·split
  ·exact .inr (.inr ⟨rfl,by assumption⟩)
  ·exact .inr (.inl ⟨rfl,by grind⟩)
end Go.Lw
namespace Go.Lw
def xA{r:(k:Nat)->T k}{n:Nat}(x:E r n):AV:=nA (sh n x)
abbrev Pn(r:(k:Nat)->T k)(n:Nat):Type:=E r n×E r n
def kZ(r:(k:Nat)->T k)(n:Nat):LL:=(List.range n).map fun k=>enc k (r k)
def qE{r:(k:Nat)->T k}{n:Nat}(q:Rat):E r n:=T.ofQ n q
theorem Fk:∀(n:Nat)(q:Rat),sh n (T.ofQ n q)=sh 0 (q:Rat)
 |0,q=>rfl
 |n+1,q=>by
  show(if T.isZ n (T.zero n)=true then sh n (T.ofQ n q)else _)=_;rw[aa2 ((T.isZ_iff n _).2 rfl),Fk n q]
theorem He:∀n:Nat,sh n (T.zero n)=[]
 |0=>rfl
 |n+1=>by
  show(if T.isZ n (T.zero n)=true then sh n (T.zero n)else _)=_;rw[aa2 ((T.isZ_iff n _).2 rfl),He n]
theorem qT(r:(k:Nat)->T k)(n:Nat):(kZ r n).length=n:=by simp[kZ]
theorem Gq{r:(k:Nat)->T k}{n j:Nat}(h:j<n):(kZ r n).getD j []=enc j (r j):=by
 unfold kZ;rw[ZS,ZZ,List.getElem?_range h];rfl
theorem Mi{r:(k:Nat)->T k}{n j:Nat}(h:j<n):aQ (kZ r n) j=r j:=by
 unfold aQ;rw[Gq h,tM]
theorem Sp{ts:LL}{R:Nat}(tw:Tw ts R):ts=kZ (aQ ts) ts.length:=by
 apply List.ext_getElem?;intro j
 by_cases hj:j<ts.length
 ·have h1:=Gq (r:=aQ ts) hj;have h2:=tw.len j hj;rw[ZS]at h1;rw[ZV (show j<(kZ (aQ ts) ts.length).length by rw[qT];exact hj)]at h1 ⊢;rw[ZO]at h1;rw[h1,ZV hj];unfold aQ;rw[oM _ _ h2,ZS,ZV hj];rfl
 ·rw[Z5 oz,Z5 (by rw[qT];omega)]
class Cx(r:(k:Nat)->T k)(n:Nat)(u k:outParam Nat):Prop where
  ex:∃R,Tw (kZ r n) R/\eB R n<=k
  k1:1<=k
  u3:3<=u
class Zu(u k:Nat){r:(k:Nat)->T k}{n:Nat}(x:E r n)(w v:outParam Nat):Prop where
  nm:Nm n (w*u+v*k) (sh n x)
class Zp(u k:Nat){r:(k:Nat)->T k}{n:Nat}(p:Pn r n)(w v:outParam Nat):Prop where
  x:Nm n (w*u+v*k) (sh n p.1)
  y:Nm n (w*u+v*k) (sh n p.2)
class Qz(u:Nat)(q:Rat)(w:outParam Nat):Prop where
  cb:Cb (w*u) [q]
section
variable{r:(k:Nat)->T k}{n u k:Nat}
theorem Cx.five(c:Cx r n u k):n<=5:=by obtain⟨R,tw,_⟩:=c.ex;have:=tw.five;rwa [qT]at this
theorem Cx.three(c:Cx r n u k):n<=3:=by obtain⟨R,tw,_⟩:=c.ex;have:=tw.three;rwa [qT]at this
theorem uD(w v w' v' u k:Nat):(w*u+v*k)+(w'*u+v'*k)=(w+w')*u+(v+v')*k:=by
 rw[XN,XN];omega
theorem Nm.eq{n e f:Nat}{l:List Rat}(h:Nm n e l)(hf:e=f):Nm n f l:=hf▸h
theorem Nm.addT{e f:Nat}{x y:T n}(hx:Nm n e (sh n x))(hy:Nm n f (sh n y)):Nm n (e+f+1) (sh n (T.add n x y)):=by
 have h:=hx.add hy
 rwa [jz,jz]at h
theorem Nm.subT{e f:Nat}{x y:T n}(hx:Nm n e (sh n x))(hy:Nm n f (sh n y)):Nm n (e+f+1) (sh n (T.add n x (T.neg n y))):=by
 have h:=hx.sub hy
 rwa [jz,jz]at h
theorem Nm.negT{e:Nat}{x:T n}(hx:Nm n e (sh n x)):Nm n e (sh n (T.neg n x)):=by
 have h:=hx.neg
 rwa [jz]at h
theorem Nm.mulT{R e f:Nat}(tw:Tw (kZ r n) R){x y:T n}(hx:Nm n e (sh n x))(hy:Nm n f (sh n y)):Nm n (e+f+eB R n) (sh n (T.mul r n x y)):=by
 have h:=Nm.mul tw (qT r n).symm hx hy
 rwa [jz,jz,T.mul_congr n (fun j hj=>Mi hj)]at h
instance Zu.add[c:Cx r n u k]{x y:E r n}{w v w' v':Nat}[hx:Zu u k x w v][hy:Zu u k y w' v']:Zu u k (x+y) (w+w') (v+v'+1) :=
  ⟨(Nm.addT hx.nm hy.nm).mono (by rw[uD,XN _ 1];have:=c.k1;omega)⟩
instance Zu.sub[c:Cx r n u k]{x y:E r n}{w v w' v':Nat}[hx:Zu u k x w v][hy:Zu u k y w' v']:Zu u k (x-y) (w+w') (v+v'+1) :=
  ⟨(Nm.subT hx.nm hy.nm).mono (by rw[uD,XN _ 1];have:=c.k1;omega)⟩
instance Zu.neg{x:E r n}{w v:Nat}[hx:Zu u k x w v]:Zu u k (-x) w v:=⟨Nm.negT hx.nm⟩
instance Zu.mul[c:Cx r n u k]{x y:E r n}{w v w' v':Nat}[hx:Zu u k x w v][hy:Zu u k y w' v']:Zu u k (x*y) (w+w') (v+v'+1):=by
  obtain⟨R,tw,hk⟩:=c.ex;exact⟨(Nm.mulT tw hx.nm hy.nm).mono (by rw[uD,XN _ 1];omega)⟩
instance Zu.qE[c:Cx r n u k]{q:Rat}{w:Nat}[h:Qz u q w]:Zu u k (qE q:E r n) w 0:=⟨by
  show Nm n _ (sh n (T.ofQ n q));rw[Fk];exact(Nm.ofQ c.five h.cb).eq oz⟩
theorem Cb.int{e:Nat}{z:Int}(h:z.natAbs<=2^e):Cb e [(z:Rat)] :=
 ⟨1,z.natAbs,⟨by omega,fun q hq=>⟨z,by rw[Z3.1 hq];exact Rat.mul_one _,Z0 _⟩⟩,Nat.one_le_two_pow,h⟩
theorem Qz.int[c:Cx r n u k]{z:Int}(h:z.natAbs<=8):Qz u (z:Rat) 1:=⟨Cb.int (aaj h (show 2^3<=_ from cV (by have:=c.u3;omega)))⟩
instance Zu.c0[c:Cx r n u k]:Zu u k (0:E r n) 0 0:=⟨by
  show Nm n _ (sh n (T.ofQ n ((0:Nat):Rat)));rw[show(((0:Nat):Rat))=0 from rfl,T.ofQ_zero,He];exact⟨c.five,.inl rfl,Cb.nil.mono (aaf _)⟩⟩
instance Zu.c1[c:Cx r n u k]:Zu u k (1:E r n) 1 0:=by
  haveI:Qz u ((1:Nat):Rat) 1:=Qz.int (c:=c) (z:=1) (by decide);exact(aba:Zu u k (Go.Lw.qE ((1:Nat):Rat):E r n) 1 0)
instance Zu.c2[c:Cx r n u k]:Zu u k (2:E r n) 1 0:=by
  haveI:Qz u ((2:Nat):Rat) 1:=Qz.int (c:=c) (z:=2) (by decide);exact(aba:Zu u k (Go.Lw.qE ((2:Nat):Rat):E r n) 1 0)
instance Zu.c4[c:Cx r n u k]:Zu u k (4:E r n) 1 0:=by
  haveI:Qz u ((4:Nat):Rat) 1:=Qz.int (c:=c) (z:=4) (by decide);exact(aba:Zu u k (Go.Lw.qE ((4:Nat):Rat):E r n) 1 0)
instance Zu.px{p:Pn r n}{w v:Nat}[h:Zp u k p w v]:Zu u k p.1 w v:=⟨h.x⟩
instance Zu.py{p:Pn r n}{w v:Nat}[h:Zp u k p w v]:Zu u k p.2 w v:=⟨h.y⟩
theorem FX{w v w' v' u k:Nat}(h:w<=w')(h':v<=v'):w*u+v*k<=w'*u+v'*k:=Nat.add_le_add (aad _ h) (aad _ h')
instance Zp.mk'{x y:E r n}{w v w' v':Nat}[hx:Zu u k x w v][hy:Zu u k y w' v']:Zp u k ((x,y):Pn r n) (max w w') (max v v') :=
  ⟨hx.nm.mono (FX (Nat.le_max_left ..) (Nat.le_max_left ..)),hy.nm.mono (FX (Nat.le_max_right ..) (Nat.le_max_right ..))⟩
def Sj(p q:Pn r n):Pn r n:=(p.1+q.1,p.2+q.2)
def Rn(p q:Pn r n):Pn r n:=(p.1-q.1,p.2-q.2)
def Oy(c:E r n)(p:Pn r n):Pn r n:=(c*p.1,c*p.2)
def SB(p q:Pn r n):E r n:=p.1*q.1+p.2*q.2
def RO(p q:Pn r n):E r n:=p.1*q.2-p.2*q.1
def TM(c s:E r n)(p:Pn r n):Pn r n:=(c*p.1-s*p.2,s*p.1+c*p.2)
def pQ(x y:Rat):Pn r n:=(qE x,qE y)
def MY(p:Pn r n):Pn r n:=(-p.2,p.1)
instance Zp.add[c:Cx r n u k]{p q:Pn r n}{w v w' v':Nat}[hp:Zp u k p w v][hq:Zp u k q w' v']:Zp u k (Sj p q) (w+w') (v+v'+1) :=
  ⟨(aba:Zu u k (p.1+q.1) (w+w') (v+v'+1)).nm,(aba:Zu u k (p.2+q.2) (w+w') (v+v'+1)).nm⟩
instance Zp.sub[c:Cx r n u k]{p q:Pn r n}{w v w' v':Nat}[hp:Zp u k p w v][hq:Zp u k q w' v']:Zp u k (Rn p q) (w+w') (v+v'+1) :=
  ⟨(aba:Zu u k (p.1-q.1) (w+w') (v+v'+1)).nm,(aba:Zu u k (p.2-q.2) (w+w') (v+v'+1)).nm⟩
instance Zp.scale[c:Cx r n u k]{a:E r n}{q:Pn r n}{w v w' v':Nat}[hp:Zu u k a w v][hq:Zp u k q w' v']:Zp u k (Oy a q) (w+w') (v+v'+1) :=
  ⟨(aba:Zu u k (a*q.1) (w+w') (v+v'+1)).nm,(aba:Zu u k (a*q.2) (w+w') (v+v'+1)).nm⟩
instance Zu.dot[c:Cx r n u k]{p q:Pn r n}{w v w' v':Nat}[hp:Zp u k p w v][hq:Zp u k q w' v']:Zu u k (SB p q) (w+w'+(w+w')) (v+v'+1+(v+v'+1)+1) :=
  (aba:Zu u k (p.1*q.1+p.2*q.2) _ _)
instance Zu.cross[c:Cx r n u k]{p q:Pn r n}{w v w' v':Nat}[hp:Zp u k p w v][hq:Zp u k q w' v']:Zu u k (RO p q) (w+w'+(w+w')) (v+v'+1+(v+v'+1)+1) :=
  (aba:Zu u k (p.1*q.2-p.2*q.1) _ _)
instance Zp.turn[c:Cx r n u k]{a b:E r n}{p:Pn r n}{w v w' v' w2 v2:Nat}[ha:Zu u k a w v][hb:Zu u k b w' v'][hp:Zp u k p w2 v2] :
    Zp u k (TM a b p) (w+w2+(w'+w2)) (v+v2+1+(v'+v2+1)+1) :=
  ⟨(aba:Zu u k (a*p.1-b*p.2) _ _).nm,by
    have h:=(aba:Zu u k (b*p.1+a*p.2) _ _).nm;exact h.eq (by rw[Nat.add_comm (w'+w2),Nat.add_comm (v'+v2+1)])⟩
instance Zp.ofQ[c:Cx r n u k]{x y:Rat}{w w':Nat}[hx:Qz u x w][hy:Qz u y w']:Zp u k (pQ x y:Pn r n) (max w w') (max 0 0) :=
  (aba:Zp u k ((qE x,qE y):Pn r n) _ _)
instance Zp.quart{p:Pn r n}{w v:Nat}[hp:Zp u k p w v]:Zp u k (MY p) w v:=⟨(aba:Zu u k (-p.2) w v).nm,hp.x⟩
end
abbrev Et(ts:LL):Type:=E (aQ ts) ts.length
def dE(ts:LL)(a:List Rat):Et ts:=am ts.length a
def sX{ts:LL}(x:Et ts):List Rat:=sh ts.length x
def pu{ts:LL}(x:Et ts):Int:=T.sgn (aQ ts) ts.length x
class Ct(ts:LL)(u k:outParam Nat):Prop where
  ex:∃R,Tw ts R/\eB R ts.length<=k
  k1:1<=k
  u3:3<=u
  ub:u<=1000000
  kb:k<=1000000
instance Ct.cx{ts:LL}{u k:Nat}[c:Ct ts u k]:Cx (aQ ts) ts.length u k:=by
  obtain⟨R,tw,h⟩:=c.ex;exact⟨⟨R,Sp tw▸tw,h⟩,c.k1,c.u3⟩
class Zl(ts:LL)(u k:Nat)(a:List Rat)(x:outParam (Et ts))(w v:outParam Nat):Prop where
  eq:am ts.length a=x
  nm:Nm ts.length (w*u+v*k) a
section
variable{ts:LL}{u k:Nat}
instance Zl.sX{x:Et ts}{w v:Nat}[h:Zu u k x w v]:Zl ts u k (sX x) x w v:=⟨jz _ _,h.nm⟩
instance Zl.q[c:Ct ts u k]{q:Rat}{w:Nat}[h:Qz u q w]:Zl ts u k (sh 0 (q:Rat)) (qE q:Et ts) w 0:=⟨By _ q,by
  obtain⟨R,tw,_⟩:=c.ex;exact(Nm.ofQ tw.five h.cb).eq oz⟩
instance Zl.nil [c : Ct ts u k] : Zl ts u k [] (0 : Et ts) 0 0 := ⟨by rw [nv]; exact E.zero_def.symm, by
  obtain⟨R,tw,_⟩:=c.ex;exact⟨tw.five,.inl rfl,Cb.nil.mono (aaf _)⟩⟩
theorem Zl.at{a:List Rat}{e:Nat}(h:Nm ts.length e a)(he:e<=u):Zl ts u k a (dE ts a) 1 0:=⟨rfl,h.mono oz⟩
theorem zy(c:Ct ts u k){w v m:Nat}(h:w+v<=m):w*u+v*k<=m*1000000:=by
 have h1:w*u<=w*1000000:=Z4 _ c.ub;have h2:v*k<=v*1000000:=Z4 _ c.kb;omega
theorem Q8(c:Ct ts u k){w v:Nat}(h:w+v<=10000):w*u+v*k<=lm ts.length:=by
 have h1:=zy c h;have h2:=ui ts.length;omega
theorem Zl.up(c:Ct ts u k){a:List Rat}{x:Et ts}{w v m:Nat}(h:Zl ts u k a x w v)(hm:w+v<=m):Nm ts.length (m*1000000) a:=h.nm.mono (zy c hm)
theorem Ct.kk(c:Ct ts u k){R:Nat}(h:eB R ts.length<=k):kB R ts.length<=1000000:=aaj h c.kb
def dotE(x y z t:Et ts):Et ts:=x*z+y*t
def crsE(x y z t:Et ts):Et ts:=x*t-y*z
instance Zu.dotE[c:Ct ts u k]{x y z t:Et ts}{w1 v1 w2 v2 w3 v3 w4 v4:Nat}[Zu u k x w1 v1][Zu u k y w2 v2][Zu u k z w3 v3][Zu u k t w4 v4]:Zu u k (dotE x y z t) (w1+w3+(w2+w4)) (v1+v3+1+(v2+v4+1)+1) :=
  (aba:Zu u k (x*z+y*t) _ _)
instance Zu.crsE[c:Ct ts u k]{x y z t:Et ts}{w1 v1 w2 v2 w3 v3 w4 v4:Nat}[Zu u k x w1 v1][Zu u k y w2 v2][Zu u k z w3 v3][Zu u k t w4 v4]:Zu u k (crsE x y z t) (w1+w4+(w2+w3)) (v1+v4+1+(v2+v3+1)+1) :=
  (aba:Zu u k (x*t-y*z) _ _)
end
def kC(g:Gr)(j:Jt):Int:=if g.bo.contains j.a=true then(if g.bo.contains j.b=true then -1 else j.b)else j.a
def gQ(l:Li)(g:Gr):List Int:=g.jo.map (fun j=>kC g (l.jo.getD j.toNat default))
theorem BH(l:Li)(g:Gr):(gQ l g).length=g.jo.length:=by unfold gQ;rw[ZU]
section
variable{l:Li}{k:Int}{a:As}{own:Bool}
end
open Go.Proofs
theorem R6{l:Li}{g:Gr}{i:Nat}{z:Int}{j:Jt}(hz:g.jo[i]?=some z)(hj:l.jo[z.toNat]?=some j):(gQ l g)[i]?=some (kC g j):=by
 unfold gQ;rw[ZZ,hz,ZP,cI hj]
theorem zw{l:Li}{g:Gr}{i:Nat}{z:Int}{j:Jt}{a:Int}(hz:g.jo[i]?=some z)(hj:l.jo[z.toNat]?=some j)(ha:kC g j=a):((gQ l g).take i).map i64++[i64 a]=((gQ l g).take (i+1)).map i64:=by
 rw[d7 (R6 hz hj),ha,aas];rfl
theorem On{z:Int}{n:Nat}(h0:0<=z)(h1:z<n):cond (aa .lss z 0) true (aa .geq z (n:Int))=false:=by
 rw[show aa .lss z 0=false from aa7 oz];exact aa7 oz
theorem QV(l:Li)(hl:l.ok)(aw:a5 l=0)(g:Gr)(hg:GrOk l g):Con prog 219 [l.av,g.av] [] (.tup [.ms 900 1 0 g.jo.length,.v .nilIface]) [pP 900 (.row 1 ((gQ l g).map i64))]:=by
 have fj:=hg.lb;have IZ:=hg.lj;refine gF func219 (fun k z h=>by cases h) ?_;refine gc (F0 l hl) ?_;refine gC (fun y=>?_) (fun y=>?_) (st1:=(3,0))
 ·(rw[aw]at y;cases y)
 refine gl ?_;refine gW ((Wk.virt 900 1 rfl).trans<|Wk.of (sl:=[pP 2 (.ptr 2 0),pP 3 (.ptr 3 0),pP 7 (.ms 900 1 0 0),pP 19 (.lst 1 (g.jo.map i64)),pP 20 (i64 g.jo.length),pP 21 (i64 0)]) (hp:=[pP 2 (.box l.av.cells),pP 3 (.box g.av.cells),pP 900 (.row 1 [])]) (.k (.k (.cons rfl (Sub.nM _ _ _) (.k (.k (.k .nil)))))) (.k (.k (.k .nil)))) ?_;refine aK [2,3,19,20] [2,3] (fun(i:Nat)=>[pP 7 (.ms 900 1 0 i),pP 21 (i64 i)]) (fun i=>[pP 900 (.row 1 (((gQ l g).take i).map i64))]) (fun i=>i<=g.jo.length) (fun i=>g.jo.length-i) 0 (aaf _) ?_;rintro i hi K1 J1;refine gC (fun y=>?_) (fun y=>?_) (st2:=(18,0))
 ·have ab:=aW y;obtain ⟨z,hz⟩:=aJ ab;obtain ⟨z0,z1⟩:=hg.j z (ZR hz);obtain ⟨j,hj⟩:∃ j,l.jo[z.toNat]? = some j:=aJ oz;have hlt:(((gQ l g).take i).map i64).length = i:=by rw [ZU,aao,BH]; omega
  refine gi (ao hz) ?_;refine cu ?_;refine gC (fun y=>?_) (fun y=>?_) (st1:=(9,0))
  ·(rw[On z0 z1]at y;cases y)
  refine gi (ng (n:=z.toNat) oz hj) ?_;refine gc (Gj g.bo j.a oz) ?_;refine gc (Gj g.bo j.b oz) ?_;refine gD ?_;refine gC (fun t55=>?_) (fun t55=>?_)
  ·have ha : kC g j = -1 := by unfold kC; cases h1 : g.bo.contains j.a <;> cases h2 : g.bo.contains j.b <;> rw [h1, h2] at t55 <;> first | (cases t55; done) | rfl
   refine gs (cU (.tmp rfl) rfl hlt.symm (.tmp rfl) T81 rfl T3 rfl rfl (by simp only[Z7,aan];omega) rfl rfl) ?_ (17,0);refine gW (Wk.of (sl:=[pP 2 (.ptr 2 0),pP 3 (.ptr 3 0),pP 7 (.ms 62 1 0 (i+1)),pP 19 (.lst 1 (g.jo.map i64)),pP 20 (i64 g.jo.length),pP 21 (i64 i)]) (hp:=[pP 2 (.box l.av.cells),pP 3 (.box g.av.cells),pP 62 (.row 1 (((gQ l g).take (i+1)).map i64))]) aI (.k (.k (.cons rfl (.of (aa9 (Blk.row 1) (zw hz hj ha))) .nil)))) ?_ (17,0);refine gW (Wk.rk (k:=62) (d:=900) rfl rfl) ?_;refine ga aF ?_;exact aG J1 (i+1) ab
  refine gC (fun y=>?_) (fun y=>?_)
  ·have ha : kC g j = j.b := by unfold kC; cases h1 : g.bo.contains j.a <;> cases h2 : g.bo.contains j.b <;> rw [h1] at y <;> rw [h1, h2] at t55 <;> first | (cases t55; done) | (cases y; done) | rfl
   refine gs (cU (.tmp rfl) rfl hlt.symm (.tmp rfl) T81 rfl T3 rfl rfl (by simp only[Z7,aan];omega) rfl rfl) ?_ (17,0);refine gW (Wk.of (sl:=[pP 2 (.ptr 2 0),pP 3 (.ptr 3 0),pP 7 (.ms 69 1 0 (i+1)),pP 19 (.lst 1 (g.jo.map i64)),pP 20 (i64 g.jo.length),pP 21 (i64 i)]) (hp:=[pP 2 (.box l.av.cells),pP 3 (.box g.av.cells),pP 69 (.row 1 (((gQ l g).take (i+1)).map i64))]) aI (.k (.k (.cons rfl (.of (aa9 (Blk.row 1) (zw hz hj ha))) .nil)))) ?_ (17,0);refine gW (Wk.rk (k:=69) (d:=900) rfl rfl) ?_;refine ga aF ?_;exact aG J1 (i+1) ab
  have ha:kC g j=j.a:=by unfold kC;rw[aa1 (by rw[show g.bo.contains j.a=false from y];simp)]
  refine gs (cU (.tmp rfl) rfl hlt.symm (.tmp rfl) T81 rfl T3 rfl rfl (by simp only[Z7,aan];omega) rfl rfl) ?_ (17,0);refine gW (Wk.of (sl:=[pP 2 (.ptr 2 0),pP 3 (.ptr 3 0),pP 7 (.ms 54 1 0 (i+1)),pP 19 (.lst 1 (g.jo.map i64)),pP 20 (i64 g.jo.length),pP 21 (i64 i)]) (hp:=[pP 2 (.box l.av.cells),pP 3 (.box g.av.cells),pP 54 (.row 1 (((gQ l g).take (i+1)).map i64))]) aI (.k (.k (.cons rfl (.of (aa9 (Blk.row 1) (zw hz hj ha))) .nil)))) ?_ (17,0);refine gW (Wk.rk (k:=54) (d:=900) rfl rfl) ?_;refine ga aF ?_;exact aG J1 (i+1) ab
 have ab:=bt hi y;subst ab;refine gW (Wk.of (sl:=[pP 7 (.ms 900 1 0 g.jo.length)]) (hp:=[pP 900 (.row 1 ((gQ l g).map i64))]) aI (.cons rfl (.of (by rw[aag (by rw[BH];exact Z0 _)])) .nil)) ?_;refine gR ?_;exact aM.keep (BT rfl)
def tZ(s:ByteArray)(n:Int):Bd:=⟨s,[⟨⟨#[97]⟩,rt ((0:Int):Rat),rt ((0:Int):Rat)⟩,⟨⟨#[98]⟩,rt (n:Rat),rt ((0:Int):Rat)⟩]⟩
def fb:Li:=⟨⟨#[102,111,117,114,98,97,114]⟩,[tZ ⟨#[102,114,97,109,101]⟩ 4,tZ ⟨#[99,114,97,110,107]⟩ 3,tZ ⟨#[99,111,117,112,108,101,114]⟩ 5,tZ ⟨#[114,111,99,107,101,114]⟩ 6],
  [⟨⟨#[111]⟩,0,1,0,0,0,0⟩,⟨⟨#[112]⟩,0,2,0,1,1,0⟩,⟨⟨#[113]⟩,0,3,0,0,1,0⟩,⟨⟨#[114]⟩,0,2,1,3,1,0⟩],[⟨⟨#[100]⟩,1⟩]⟩
def t0:Tn:=⟨⟨false,[],[]⟩,false⟩
theorem xw(a b:ByteArray):ft a b=(a.data.toList==b.data.toList):=by
 unfold ft;rw[Go.ByteArray.toList_eq,Go.ByteArray.toList_eq]
def dC(P:abe)(n:Nat):Option (FE P):=match h:P.funcs[n]? with
  |none=>none
  |some fn=>match hb:fn.body with
    |none=>none
    | some c => match hn : (fn.name == "runtime.NumGoroutine") with
      |true=>none
      |false=>some ⟨n,fn,c,fn.results.toList,h,hb,hn,by simp⟩
def bT(q:Rat):Bool:=XU q.num.natAbs 18446744073709551616&&XU q.den 18446744073709551616
theorem yx{q:Rat}(h:bT q=true):Qb 64 q:=by
 simp only[bT,ZW,Yb]at h;exact⟨h.1,h.2⟩
theorem ia{q:Rat}(h:bT q=true):Qs q:=(yx h).qs oz
def n0(q:Rat):AV:=nA (sh 0 (q:Rat))
def z0:AV:=cX []
theorem me{q:Rat}(h:bT q=true):Nm ([]:LL).length 64 (sh 0 (q:Rat)):=Nm.ofQ (by decide) (Cb.one (yx h))
theorem mi(q:Rat):am ([]:LL).length (sh 0 (q:Rat))=q:=By 0 q
theorem lZ:Tw [] 1 where
 three:=by decide
 len:=fun j hj=>aa8 hj (Nat.not_lt_zero j)
 pos:=fun j hj=>aa8 hj (Nat.not_lt_zero j)
 rb:=⟨1,1,by omega,fun d hd=>aa8 hd aap,by decide,by decide⟩
 le:=by decide
theorem qR:lm ([]:LL).length=200000000000:=rfl
def dW:List AV->Nat
  |[]=>0
  |x::l=>match x with
    | .v (.int _ (.ofNat n))=>n+4294967296*dW l
    |_=>0
def u7:AV->Nat
  | .lst _ l=>dW l
  |_=>0
def dQ(x:AV):Rat:=match x with
  | .agg (.v (.bool s)::n::d::_)=>match s with
    |true=>mkRat (-(u7 n:Int)) (u7 d)
    |false=>mkRat (u7 n:Int) (u7 d)
  |_=>0
def dN(x:AV):Rat:=match x with
  | .lst _ (x::_)=>dQ x
  |_=>0
abbrev En:=Option (Ent prog)
def w2(f:FuncId)(g:Rat->Rat->AV)(h:∀p q,bT p=true->bT q=true->FP f [qA p,qA q] (g p q))(p q:Rat):En:=match hh:bT p&&bT q with
  |true=>some ⟨f,[qA p,qA q],g p q,[],h p q (by rw[ZW]at hh;exact hh.1) (by rw[ZW]at hh;exact hh.2)⟩
  |false=>none
def vB(f:FuncId)(g:Rat->Rat->AV)(h:∀p q,bT p=true->bT q=true->FP f [qA p,qA q] (g p q))(xs:List AV):En:=match xs with
  |[a,b]=>w2 f g h (dQ a) (dQ b)
  |_=>none
def w1(f:FuncId)(a:Rat->AV)(g:Rat->AV)(h:∀p,bT p=true->FP f [a p] (g p))(p:Rat):En:=match hh:bT p with
  |true=>some ⟨f,[a p],g p,[],h p hh⟩
  |false=>none
def uW(f:FuncId)(g:Rat->AV)(h:∀p,bT p=true->FP f [qA p] (g p))(xs:List AV):En:=match xs with
  |[a]=>w1 f qA g h (dQ a)
  |_=>none
def w3(f:FuncId)(g:Rat->Rat->AV)(h:∀p q,bT p=true->bT q=true->FP f [z0,n0 p,n0 q] (g p q))(p q:Rat):En:=match hh:bT p&&bT q with
  |true=>some ⟨f,[z0,n0 p,n0 q],g p q,[],h p q (by rw[ZW]at hh;exact hh.1) (by rw[ZW]at hh;exact hh.2)⟩
  |false=>none
def pa(f:FuncId)(g:Rat->Rat->AV)(h:∀p q,bT p=true->bT q=true->FP f [z0,n0 p,n0 q] (g p q))(xs:List AV):En:=match xs with
  |[_,a,b]=>w3 f g h (dN a) (dN b)
  |_=>none
def w4(f:FuncId)(g:Rat->AV)(h:∀p,bT p=true->FP f [z0,n0 p] (g p))(p:Rat):En:=match hh:bT p with
  |true=>some ⟨f,[z0,n0 p],g p,[],h p hh⟩
  |false=>none
def ue(f:FuncId)(g:Rat->AV)(h:∀p,bT p=true->FP f [z0,n0 p] (g p))(xs:List AV):En:=match xs with
  |[_,a]=>w4 f g h (dN a)
  |_=>none
def oC(f:FuncId)(ys:List AV)(r:AV)(h:FP f ys r)(xs:List AV):En:=some ⟨f,ys,r,[],h⟩
def dI(x:AV):Int:=match x with
  | .v (.int _ z)=>z
  |_=>0
def oI(f:FuncId)(g:Int->AV)(h:∀z,(-9223372036854775808<=z/\z<=9223372036854775807)->FP f [i64 z] (g z))(xs:List AV):En:=match xs with
  |[a]=>match(aba:Decidable (-9223372036854775808<=dI a/\dI a<=9223372036854775807))with
    | .isTrue hh=>some ⟨f,[i64 (dI a)],g (dI a),[],h (dI a) hh⟩
    | .isFalse _=>none
  |_=>none
theorem Dl(p q:Rat)(hp:bT p=true)(hq:bT q=true):FP 335 [z0,n0 p,n0 q] (.tup [n0 (p+q),.v .nilIface]):=by
 have h:=BB lZ (me hp) (me hq) (by rw[qR];omega);rw[mi,mi]at h;exact h
theorem Ca(p q:Rat)(hp:bT p=true)(hq:bT q=true):FP 331 [z0,n0 p,n0 q] (.tup [n0 (p+-q),.v .nilIface]):=by
 have h:=EZ lZ (me hp) (me hq) (by rw[qR];omega);rw[mi,mi]at h;exact h
theorem DD(p q:Rat)(hp:bT p=true)(hq:bT q=true):FP 336 [z0,n0 p,n0 q] (.tup [n0 (p*q),.v .nilIface]):=by
 have h:=A0 lZ (me hp) (me hq) (by rw[qR];omega);rw[mi,mi]at h;exact h
theorem B6(p:Rat)(hp:bT p=true):FP 258 [z0,n0 p] (.tup [i64 (asQ p),.v .nilIface]):=by
 have h:=GX lZ (me hp) (by rw[qR];omega);rw[mi]at h;exact h
theorem Br(p:Rat)(hp:bT p=true):FP 221 [z0,n0 p] (.tup [n0 (-p),.v .nilIface]):=by
 have h:=FU lZ (me hp) (by rw[qR];omega);rw[mi]at h;exact h
def SN:FuncId->Option (List AV->En)
  |335=>some (pa 335 _ Dl)
  |331=>some (pa 331 _ Ca)
  |336=>some (pa 336 _ DD)
  |258=>some (ue 258 _ B6)
  |221=>some (ue 221 _ Br)
  |125=>some (oC 125 [z0] (.v .nilIface) (wL lZ))
  |120=>some (uW 120 n0 fun _ h=>SW (ia h))
  |18=>some (oI 18 (fun z=>qA z) pH)
  |25=>some (oI 25 (fun z=>qA z) AZ)
  |33=>some (vB 33 (fun p q=>qA (p+q)) fun _ _ h h'=>kF (ia h) (ia h'))
  |39=>some (vB 39 (fun p q=>qA (p-q)) fun _ _ h h'=>lW (ia h) (ia h'))
  |55=>some (vB 55 (fun p q=>qA (p*q)) fun _ _ h h'=>lU (ia h) (ia h'))
  |56=>some (vB 56 (fun p q=>.tup [qA (p/q),be (if q=0 then 8 else 0)]) fun _ _ h h'=>zu (ia h) (ia h'))
  |94=>some (uW 94 (fun p=>qA (-p)) fun _ h=>SX (ia h))
  |17=>some (uW 17 (fun p=>i64 (asQ p)) fun _ h=>jd (ia h))
  |_=>none
def CP(x:AV):List Int:=match x with
  | .lst _ es=>es.map dI
  |_=>[]
def dG(x:AV):Gr:=match x with
  | .agg [k,b,j,d]=>⟨dI k,CP b,CP j,dI d⟩
  |_=>default
def xe(n:Nat)(l:List Int):Bool:=l.all fun z=>aa .leq 0 z&&aa .lss z n
theorem Ht{n:Nat}{l:List Int}(h:xe n l=true):∀x∈l,0<=x/\x<n:=by
 intro x hx;have:=Z6.1 h x hx;simp only[ZW,aa,aa3]at this;exact this
def xC(l:Li)(g:Gr):Bool:=xe l.bo.length g.bo&&xe l.jo.length g.jo&&Nat.ble g.bo.length 2&&Nat.ble g.jo.length 3
theorem Pz{l:Li}{g:Gr}(h:xC l g=true):GrOk l g:=by
 simp only[xC,ZW,XS]at h;exact⟨Ht h.1.1.1,Ht h.1.1.2,h.1.2,h.2⟩
def Pt(l:Li)(hl:l.ok)(aw:a5 l=0)(g:Gr):En:=match hh:xC l g with
  |true=>some ⟨219,[l.av,g.av],_,_,QV l hl aw g (Pz hh)⟩
  |false=>none
def JF(l:Li)(hl:l.ok)(aw:a5 l=0)(xs:List AV):En:=match xs with
  |[_,g]=>Pt l hl aw (dG g)
  |_=>none
theorem LU(l:Li)(hl:l.ok)(aw:a5 l=0):FP 114 [l.av] (.tup [.lst 4 ((uv l).map Gr.av),be (nG l)]):=by
 have h:=SQ l hl;rw[aa2 aw,aa2 aw]at h;exact h
def Ld(l:Li)(hl:l.ok)(aw:a5 l=0):FuncId->Option (List AV->En)
  |114=>some (oC 114 [l.av] _ (LU l hl aw))
  |219=>some (JF l hl aw)
  |7=>some (uW 7 (fun p=>bl (rt p).valid) fun _ h=>kD _ (ia h).ok)
  |f=>SN f
def F9:List (Ent prog)->FuncId->Bool
  |[],_=>false
  |e::l,f=>match XK e.f f with
    |true=>true
    |false=>F9 l f
def Di(xs:List AV)(f:FuncId):List (Ent prog)->En
  |[]=>none
  |e::l=>match XK e.f f&&mS xs e.xs with
    |true=>some e
    |false=>Di xs f l
def dF(L:List (Ent prog))(o:FuncId->Option (List AV->En))(f:FuncId):Option (List AV->En):=match F9 L f with
  |true=>some fun xs=>match Di xs f L with
    |some e=>some e
    |none=>match o f with
      |some g=>g xs
      |none=>none
  |false=>o f
def du(n:FuncId):Bool:=XK n 220||(XK n 269||XK n 321)
structure Po(e:Nat)(p:List Rat):Prop where
  td:cS p
  len:p.length<=30
  b:Pb e p
theorem Po.mono{e f:Nat}{p:List Rat}(h:Po e p)(hf:e<=f):Po f p:=⟨h.td,h.len,h.b.mono hf⟩
theorem Po.qs{e:Nat}{p:List Rat}(h:Po e p)(he:e<=1000000000000){c:Rat}(hc:c∈p):Qs c:=(h.b c hc).qs oz
theorem BS:∀{p:List Rat},cS p->0<p.length->∃c,p[p.length-1]?=some c/\c≠0
 |[],_,h=>by simp at h
 |[c],hp,_=>⟨c,rfl,hp.ne rfl⟩
 |c::d::p,hp,_=>by
  obtain⟨x,hx,h0⟩:=BS hp.tail (by simp);exact⟨x,hx,h0⟩
theorem Gy:∀p:List Rat,ptr p=p.take (ptr p).length
 |[]=>rfl
 |c::p=>by
  have ih:=Gy p;unfold ptr;split
  ·rfl
  ·show c::ptr p=c::p.take (ptr p).length;rw[<- ih]
theorem Rq:∀{p:List Rat}{n:Nat},ptr (p.take n)=ptr p->(∃c,p[n-1]?=some c/\c≠0)->n<=p.length->0<n->n=(ptr p).length:=by
 intro p n h hc hn h0;obtain⟨c,hc,az⟩:=hc
 have h1:cS (p.take n):=by
  have key:∀(l:List Rat)(c:Rat),l[l.length-1]?=some c->c≠0->cS l:=by
   intro l
   induction l with
   |nil=>intro c h;simp at h
   |cons d l ih =>
    intro c h az;cases l with
    |nil =>
     simp at h;subst h;exact ol rfl (fun _=>az)
    |cons d2 l =>
     refine ol (ih c (by simpa using h) az) (fun e=>by cases e)
  refine key _ c ?_ az;rw[aao,X7 hn,aak,aa2 oz];exact hc
 rw[h1]at h;have h2:=aa9 List.length h;rw[aao]at h2;omega
theorem Jr{p:List Rat}{n:Nat}(h:ptr (p.take (n+1))=ptr p)(hc:p[n]?=some 0):ptr (p.take n)=ptr p:=by
 rw[<- h];refine wg (o7 _) (o7 _) (fun t=>?_);rw[lS,lS]
 have key:∀(l:List Rat)(n:Nat),l[n]?=some 0->au (l.take n) t=au (l.take (n+1)) t:=by
  intro l
  induction l with
  |nil=>intro n h;simp at h
  |cons d l ih =>
   intro n h;cases n with
   |zero =>
    simp at h;subst h;show(0:Rat)=0+t*0;grind
   |succ n =>
    show d+t*au (l.take n) t=d+t*au (l.take (n+1)) t;rw[ih n (by simpa using h)]
 exact key p n hc
theorem FN(t:Rat)(i:Nat):∀k,t^(i+k)=t^i*t^k
 |0=>by rw[XW,Rat.pow_zero];grind
 |k+1=>by rw[<- XG,Rat.pow_succ,Rat.pow_succ,FN t i k];grind
theorem FO(n:Nat):BlkSub (.row 3 (YO n (.agg [.v (.bool false),nS,nS]))) (.row 3 ((YO n (0:Rat)).map qA)):=by
 refine .row (by simp) ?_;intro i e e' he he';rw[aau,YS]at he';rw[YS]at he;split at he
 ·rename_i h;rw[aa2 h]at he';cases he;cases he'
  refine⟨rfl,?_⟩;intro j x y hx hy
  match j,hx,hy with
  |0,hx,hy=>cases hx;cases hy;exact⟨rfl,.refl _⟩
  |1,hx,hy=>cases hx;cases hy;exact⟨rfl,.nil _ _ _⟩
  |2,hx,hy=>cases hx;cases hy;exact⟨rfl,.nil _ _ _⟩
 ·cases he
theorem HE{n:Nat}{l:List Rat}(h:l=YO n 0):BlkSub (.row 3 (YO n (.agg [.v (.bool false),nS,nS]))) (.row 3 (l.map qA)):=by rw[h];exact FO n
def gr(l:List Rat)(i:Nat):List Rat:=l.take i++YO (l.length-i) 0
theorem Le(l:List Rat):gr l 0=YO l.length 0:=by unfold gr;simp
theorem Ju{l:List Rat}{i:Nat}(h:i<=l.length):(gr l i).length=l.length:=by unfold gr;simp;omega
theorem L4(l:List Rat):gr l l.length=l:=by unfold gr;simp
theorem LP{l:List Rat}{i:Nat}{x:Rat}(hx:l[i]?=some x):(gr l i).set i x=gr l (i+1):=by
 have hi:=(YA.1 hx).1;unfold gr;rw[List.set_append_right _ _ (by rw[aao];omega),aao,X7 oz,Nat.sub_self];have e:l.length-i=(l.length-(i+1))+1:=by omega
 rw[e,List.replicate_succ];show l.take i++x::YO (l.length-(i+1)) 0=_;rw[d7 hx];simp
theorem Mc{l:List Rat}{i:Nat}(h:i<l.length):(gr l i)[i]?=some 0:=by
 unfold gr;rw[aac (by rw[aao];omega),aao,X7 oz,Nat.sub_self,YS,aa2 oz]
theorem q5{x:Rat}:aa .eql (asQ x) 0=decide (x=0):=by
 have h:aa .eql (asQ x) 0=decide (asQ x=0):=rfl;rw[h];rcases ow x with h |h |h
 ·rw[aa7 oz,aa7 (by grind)]
 ·rw[aa6 h.1,aa6 h.2]
 ·rw[aa7 oz,aa7 (by grind)]
theorem wG{n:Nat}{x:Rat}(h:cond (aa .gtr (n:Int) 0) (aa .eql (asQ x) 0) false=true):0<n/\x=0:=by
 rw[q5]at h;cases h1:aa .gtr (n:Int) 0
 ·rw[h1]at h;cases h
 ·rw[h1]at h;exact⟨bG (b:=0) h1,aa4 h⟩
theorem Ek{n:Nat}{x:Rat}(h:cond (aa .gtr (n:Int) 0) (aa .eql (asQ x) 0) false=false)(h0:0<n):x≠0:=by
 intro hx;rw[q5,hx,show aa .gtr (n:Int) 0=true from aa6 oz]at h;cases h
theorem Qm{n:Nat}{x:Rat}(h0:0<n->x≠0)(h:cond (aa .gtr (n:Int) 0) (aa .eql (asQ x) 0) false=true):False:=by
 obtain⟨h1,h2⟩:=wG h;exact h0 h1 h2
theorem rx{e:Nat}{p:List Rat}(hp:Po e p)(he:e<=1000000000000):FP 85 [nA p] (be 0):=by
 have gI:=hp.len;have nQ:=BS hp.td;refine ai func85 ?_;refine gl ?_;refine gC (fun y=>?_) (fun y=>?_) (st1:=(2,0));exact aa8 (bG (b:=65) y) oz;refine gl ?_;refine aK [0,9,10] [] (fun(i:Nat)=>[pP 11 (i64 i)]) (fun _=>[]) (fun i=>i<=p.length) (fun i=>p.length-i) 0 (aaf _) ?_;rintro i hi K1 J1;refine gC (fun y=>?_) (fun y=>?_)
 ·have ab:=aW y;obtain⟨q,hq⟩:=aJ ab;have hv:=kD (rt q) (hp.qs he (ZR hq)).ok;rw[tv]at hv;refine gi (ao hq) ?_;refine gc hv ?_;refine gf ?_;refine ga aF ?_;exact aG J1 (i+1) ab
 obtain⟨z,hz⟩:∃z,0<p.length->p[p.length-1]?=some z/\z≠0:=by
  by_cases h:0<p.length
  ·obtain⟨z,h1⟩:=nQ h;exact⟨z,fun _=>h1⟩
  ·exact⟨0,fun h1=>aa8 h1 h⟩
 refine gl ?_;refine cu ?_;refine fD (fun h=>(bZ (by have:=bG (b:=0) h;omega) (by unfold an;omega))) ?_;refine fL (fun h=>(ao (hz (bG (b:=0) h)).1)) ?_;refine aO (fun h=>(jd (hp.qs he (ZR (hz (bG (b:=0) h)).1)))) ?_;refine gC (fun y=>?_) (fun y=>?_) (st1:=(10,0));exact(Qm (fun h=>(hz h).2) y).elim;refine af ?_
 first |rfl |(simp;done)
theorem Ue{ps:LL}(h:∀p∈ps,FP 85 [nA p] (be 0))(hl:ps.length<=1000):FP 95 [.lst 1 (ps.map nA)] (be 0):=by
 refine ai func95 ?_;refine gl ?_;refine aK [6,7] [] (fun(i:Nat)=>[pP 8 (i64 i)]) (fun _=>[]) (fun i=>i<=ps.length) (fun i=>ps.length-i) 0 (aaf _) ?_;rintro i hi K1 J1;refine gC (fun z=>?_) (fun z=>?_)
 ·have ab:=aW z;obtain⟨p,hp⟩:=aJ ab;refine gi (ao hp) ?_;refine gc (h p (ZR hp)) ?_;refine gf ?_;refine ga aF ?_;exact aG J1 (i+1) ab
 refine af ?_
 first |rfl |(simp;done)
theorem Rz(d:Nat)(hd:XU d 1000=true)(p:List Rat)(hq:∀c∈p,Qs c)(hl:p.length<=1000) :
  Con prog 41 [nA p] [] (.ms d 3 0 (ptr p).length) [(d,some (.row 3 (p.map qA)))]:=by
 refine gF func41 (fun k z h=>by cases h) ?_;refine gl ?_;refine gW (Wk.virt 900 3 rfl) ?_;refine aK [6,7] [] (fun(j:Nat)=>[pP 3 (.ms 900 3 0 j),pP 8 (i64 j)]) (fun j=>[pP 900 (.row 3 ((p.take j).map qA))]) (fun j=>j<=p.length) (fun j=>p.length-j) 0 (aaf _) ?_ (h1:=(.cons rfl (Sub.nM _ _ _) (.k .nil)));rintro j hj K1 J1;refine gC (fun y=>?_) (fun y=>?_)
 ·have eR:=aW y;obtain⟨q,iw⟩:=aJ eR;have sH:=ru (rt q) (rt 0) (hq q (ZR iw)).ok Qs.zero.ok;rw[Df,bQ]at sH;refine gi (ao iw) ?_;refine gc (Con.sA (.cons (.refl _) (.cons mH .nil)) sH) ?_;refine gs (cU (.tmp rfl) rfl (by rw[ZU,aao];omega) (.tmp rfl) T35 rfl T24 rfl rfl (by simp only[Z7,aan];omega) rfl rfl) ?_ (6,0);refine gW (Wk.of (sl:=[pP 6 (nA p),pP 7 (i64 p.length),pP 8 (i64 j),pP 3 (.ms 17 3 0 (j+1))]) (hp:=[pP 17 (.row 3 ((p.take (j+1)).map qA))]) aI (.cons rfl (.of (by rw[d7 iw,aas];rfl)) .nil)) ?_ (6,0);refine gW (Wk.rk (k:=17) (d:=900) rfl rfl) ?_;refine ga aF ?_;exact aG J1 (j+1) eR
 have eR:=bt hj y;subst eR;refine gW (Wk.of (sl:=[pP 3 (.ms 900 3 0 p.length)]) (hp:=[pP 900 (.row 3 (p.map qA))]) aI (.cons rfl (.of (by rw[aab])) .nil)) ?_;refine aK [] [900] (fun(n:Nat)=>[pP 3 (.ms 900 3 0 n)]) (fun _=>[]) (fun n=>n<=p.length/\ptr (p.take n)=ptr p) (fun n=>n) p.length ⟨Z0 _,by rw[aab]⟩ ?_;rintro n ⟨hn,hv⟩ K2 J2;refine fD (fun h=>(bZ (bG (b:=0) h) (by unfold an;omega))) ?_;refine gs (bB rfl rfl rfl (fun h=>aP (n:=n-1) (.opt rfl (o1 h)) (.opt rfl (o1 h)) T35 rfl T24 rfl oz (by have:=bG (b:=0) h;omega) rfl)) ?_;refine gs (bB rfl rfl rfl (fun h=>ay (.opt rfl (o1 h)) rfl (ao (dD (l:=p) (i:=n-1) (by have:=bG (b:=0) h;omega))) T24 rfl rfl rfl)) ?_;refine aO (fun h=>(jd (hq _ (ZR (dD (l:=p) (i:=n-1) (by have:=bG (b:=0) h;omega)))))) ?_;refine gC (fun t31=>?_) (fun t31=>?_)
 ·obtain ⟨h1, h2⟩:=wG t31;have h3:p[n - 1]? = some 0:=by rw [dD (l:=p) (i:=n - 1) oz,h2]
  refine ga (bZ oz (by unfold an;omega)) ?_;refine gs (od (.tmp rfl) (.none _) (.some _ (.tmp rfl) oz) T35 rfl T24 rfl oz oz rfl) ?_;exact aG J2 (n-1) ⟨by omega,Jr (by rw[show n-1+1=n by omega];exact hv) h3⟩ (hw:=Wk.of (.cons rfl (.of (by congr 1)) .nil) (.k .nil))
 have gB:n=(ptr p).length:=by
  rcases XC n with h |h
  ·subst h;rw[List.take_zero]at hv;rw[<- hv];rfl
  ·exact Rq hv ⟨_,dD (l:=p) (i:=n-1) oz,Ek t31 h⟩ hn h
 subst gB;refine gR ?_;exact aM.own1 rfl hd rfl
theorem qc(p:List Rat)(hq:∀c∈p,Qs c)(hl:p.length<=1000):FP 41 [nA p] (nA (ptr p)):=by
 have h:=Con.freeze (by rw[ZU,XF];exact m5 p) (Rz 0 rfl p hq hl)
 rwa [aax,<- map_take,<- Gy]at h
theorem Fg(p:List Rat)(i:Nat):FP 164 [nA p,i64 i] (qA (p.getD i 0)):=by
 refine ai func164 ?_;refine gl ?_;refine gC (fun z=>?_) (fun z=>?_)
 ·have h1:i<p.length:=aW z;refine gi (ao (dD (l:=p) h1)) ?_;refine af ?_
  first |rfl |(simp;done)
 have h1:p.length<=i:=m4 z;refine gR ?_;exact jD (by rw[ZS,Z5 h1];exact mH)
theorem RS{e f k:Nat}{p q:List Rat}{c:Rat}(hp:Pb e p)(hq:Pb f q)(hc:Qb k c)(h:e+(k+f)+1<=1000000000000)(lp:p.length<=60)(lq:q.length<=60):FP 96 [nA p,nA q,qA c] (nA (kV p q c)):=by
 have gI:=rv c p q;have hb:=hp.lin hc hq;obtain⟨L,hL⟩:∃L,L=fK p q c:=⟨_,rfl⟩
 rw[<- hL]at gI hb;have nI:∀i,Qs (p.getD i 0):=fun i=>uy hp oz i
 have pX:∀i,Qs (q.getD i 0):=fun i=>uy hq oz i
 have sM:Qs c:=hc.qs oz;have it:∀i,Qs (c*q.getD i 0):=fun i=>(hc.mul (Gs hq i)).qs oz
 refine ai func96 ?_;refine gl ?_;refine gl ?_;refine gs (qo (.tmp rfl) (.tmp rfl) rfl) ?_;refine gs (fW (.tmp rfl) T35 rfl T24 rfl rfl oz (by dsimp only;omega) rfl) ?_ (2,0);refine gW (Wk.of (sl:=[pP 0 (nA p),pP 1 (nA q),pP 5 (.ptr 5 0),pP 7 (.ms 14 3 0 L.length)]) (hp:=[pP 5 (.box (qA c).cells),pP 14 (.row 3 ((gr L 0).map qA))]) (.k (.k (.k (.cons rfl (.of (by rw[gI];show AV.ms 14 3 0 _=_;congr 1;omega)) .nil)))) (.k (.cons rfl (HE (by rw[Le,gI];congr 1;omega)) .nil))) ?_ (2,0);refine gW (Wk.rk (k:=14) (d:=900) rfl rfl) ?_;refine aK [0,1,5,16] [5] (fun(i:Nat)=>[pP 7 (.ms 900 3 0 L.length),pP 15 (.ms 900 3 0 L.length),pP 17 (i64 i)]) (fun i=>[pP 900 (.row 3 ((gr L i).map qA))]) (fun i=>i<=L.length) (fun i=>L.length-i) 0 (aaf _) ?_;rintro i hi K1 J1;refine gC (fun z=>?_) (fun z=>?_) (st2:=(7,0))
 ·have ab:=aW z
  have hx:L[i]?=some (p.getD i 0+c*q.getD i 0):=by
   have h1:=dD (l:=L) ab;rw[hL,G4,<- hL]at h1;exact h1
  refine gc (Fg p i) ?_;refine gc (Fg q i) ?_;refine gc (lU sM (pX i)) ?_;refine gc (kF (nI i) (it i)) ?_;refine gs (aP (n:=i) (.tmp rfl) (.tmp rfl) T35 rfl T24 rfl oz oz rfl) ?_;refine gs (bJ (.tmp rfl) rfl (ao (Mc ab)) rfl (.tmp rfl) rfl rfl T24 rfl rfl) ?_;refine gD ?_ (6,0);refine gW (Wk.of (sl:=[pP 0 (nA p),pP 1 (nA q),pP 5 (.ptr 5 0),pP 7 (.ms 900 3 0 L.length),pP 15 (.ms 900 3 0 L.length),pP 16 (i64 L.length),pP 17 (i64 i)]) (hp:=[pP 5 (.box (qA c).cells),pP 900 (.row 3 ((gr L (i+1)).map qA))]) aI (.k (.cons rfl (.of (by rw[<- LP hx,aaw])) .nil))) ?_;refine ga aF ?_;exact aG J1 (i+1) ab
 have ab:=bt hi z;subst ab;refine gW ((Wk.freeze (k:=900) rfl).trans<|Wk.of (sl:=[pP 7 (nA L)]) (hp:=[]) (.cons rfl (.of (by rw[bH (by rw[ZU,Ju (Z0 _)]),L4];rfl)) .nil) .nil) ?_;refine gc (qc L (fun x hx=>(hb x hx).qs oz) oz) ?_;refine af ?_;rw[hL];rfl
theorem M8{e f:Nat}{p q:List Rat}(hp:Pb e p)(hq:Pb f q)(lp:p.length<=30)(lq:q.length<=30)(h:31*(e+f+4)<=1000000000000):FP 97 [nA p,nA q] (nA (ij p q)):=by
 refine ai func97 ?_;refine gl ?_;refine cu ?_;refine gC (fun t17=>?_) (fun t17=>?_)
 ·have h1:ij p q=[]:=by
   by_cases h0:p=[]
   ·rw[h0];rfl
   ·have h2:q=[]:=by
     refine Decidable.byContradiction fun h2=>?_
     have h3:=YL.2 h0;have h4:=YL.2 h2;rw[show aa .eql (p.length:Int) 0=false from aa7 oz,show aa .eql (q.length:Int) 0=false from aa7 oz]at t17;cases t17
    rw[h2];exact Fp p
  refine gR ?_;exact jD (by rw[h1];exact Sub.nil _ _ _)
 have h0:p≠[]:=fun h0=>by rw[h0]at t17;cases t17
 have h1:q≠[]:=fun h1=>by
  rw[h1]at t17;cases h9:aa .eql (p.length:Int) 0 <;> rw[h9]at t17 <;> cases t17
 have h2:=YL.2 h0;have h3:=YL.2 h1;refine gl ?_;refine gl ?_;refine ga (eY (by unfold an;omega) (by unfold an;omega)) ?_;refine ga (bZ oz (by unfold an;omega)) ?_;refine gs (fW (.tmp rfl) T35 rfl T24 rfl rfl oz (by dsimp only;omega) rfl) ?_ (4,0);refine gW (Wk.of (sl:=[pP 0 (nA p),pP 1 (nA q),pP 5 (.ms 24 3 0 (p.length+q.length-1))]) (hp:=[pP 24 (.row 3 ((YO (p.length+q.length-1) (0:Rat)).map qA))]) aI (.cons rfl (HE (by congr 1)) .nil)) ?_ (4,0);refine gW (Wk.rk (k:=24) (d:=900) rfl rfl) ?_;refine gl ?_;refine ek [0,1,25,26] [] (fun(i:Nat)(L:List Rat)=>[pP 5 (.ms 900 3 0 (p.length+q.length-1)),pP 27 (i64 i)]) (fun _ L=>[pP 900 (.row 3 (L.map qA))]) (fun i L=>i<=p.length/\L.length=p.length+q.length-1/\(∀t,au L t=au (p.take i) t*au q t)/\∀j,Qb (i*(e+f+4)+1) (L.getD j 0)) (fun i _=>p.length-i) 0 (YO (p.length+q.length-1) 0) ⟨aaf _,Yq,fun t=>by rw[QQ];show(0:Rat)=0*au q t;grind,fun j=>by rw[ZS,YS];split <;> exact Qb.zero.mono oz⟩ ?_
 rintro i L ⟨hi,hL,eA,hb⟩ K1 J1;refine gC (fun z=>?_) (fun z=>?_) (st2:=(13,0))
 ·have ab:=aW z;obtain ⟨x,hx⟩:=aJ ab;have lL:=(hp x (ZR hx)).qs (show e <= 4398046511104 by omega);have Xl:i * (e + f + 4) <= 30 * (e + f + 4):=aad _ oz;refine gi (ao hx) ?_;refine gl ?_;refine ek [0,1,25,26,27,6,7,32,33] [7] (fun (k:Nat) (M:List Rat)=>[pP 5 (.ms 900 3 0 (p.length + q.length - 1)),pP 34 (i64 k)]) (fun _ M=>[pP 900 (.row 3 (M.map qA))]) (fun k M=>k <= q.length /\ M.length = p.length + q.length - 1 /\ (∀ t,au M t = au L t + x * t ^ i * au (q.take k) t) /\ (∀ j,Qb ((i + 1) * (e + f + 4) + 1) (M.getD j 0)) /\ ∀ j,i + k <= j -> M.getD j 0 = L.getD j 0) (fun k _=>q.length - k) 0 L ⟨aaf _,hL,fun t=>by show au L t = au L t + x * t ^ i * 0; grind,fun j=>(hb j).mono (by rw [XN]; omega),fun j _=>rfl⟩ ?_
  rintro k M ⟨hk,hM,I0,I1,heq⟩ K2 J2;refine gC (fun z=>?_) (fun z=>?_)
  ·have bP:=aW z;obtain ⟨y,hy⟩:=aJ bP;have Ww:=(hq y (ZR hy)).qs (show f <= 4398046511104 by omega);have I2:=(hp x (ZR hx)).mul (hq y (ZR hy));have fI:=hb (i + k);have I3:=heq (i + k) (Z0 _);have v7:i + k < M.length:=by omega
   have cD:=dD v7
   have ba:Qb ((i+1)*(e+f+4)+1) (M.getD (i+k) 0+x*y):=by
    rw[I3];exact(fI.add I2).mono (by rw[XN];omega)
   refine gi (ao hy) ?_;refine ga (eY (by unfold an;omega) (by unfold an;omega)) ?_;refine ga (eY (by unfold an;omega) (by unfold an;omega)) ?_;refine gs (aP (n:=i+k) (.tmp rfl) (.tmp rfl) T35 rfl T24 rfl oz oz rfl) ?_;refine gs (ay (.tmp rfl) rfl (ao cD) T24 rfl rfl rfl) ?_;refine gc (lU lL Ww) ?_;refine gc (kF (by rw[I3];exact fI.qs oz) (I2.qs oz)) ?_;refine gs (aP (n:=i+k) (.tmp rfl) (.tmp rfl) T35 rfl T24 rfl oz oz rfl) ?_;refine gs (bJ (.tmp rfl) rfl (ao cD) rfl (.tmp rfl) rfl rfl T24 rfl rfl) ?_;refine gD ?_ (11,0);refine gW (Wk.of (sl:=[pP 0 (nA p),pP 1 (nA q),pP 5 (.ms 900 3 0 (p.length+q.length-1)),pP 25 (nA p),pP 26 (i64 p.length),pP 27 (i64 i),pP 6 (i64 i),pP 7 (.ptr 7 0),pP 32 (nA q),pP 33 (i64 q.length),pP 34 (i64 k)]) (hp:=[pP 7 (.box (qA x).cells),pP 900 (.row 3 ((M.set (i+k) (M.getD (i+k) 0+x*y)).map qA))]) aI (.k (.cons rfl (.of (by rw[aaw])) .nil))) ?_
   refine ga aF ?_;exact dt J2 (k+1) (M.set (i+k) (M.getD (i+k) 0+x*y)) ⟨bP,by rw[aa0];exact hM,fun t=>by rw[Fn _ _ _ _ v7,I0,yT t hy,FN];grind,fun j=>by rw[vd _ _ _ _ v7];split;exact ba;exact I1 j,fun j hj=>by rw[vd _ _ _ _ v7,aa1 oz];exact heq j oz⟩
  have bP:=bt hk z;subst bP;refine ga aF ?_;exact dt J1 (i+1) M ⟨ab,hM,fun t=>by rw[I0,eA,yT t hx,aab];grind,I1⟩
 have ab:=bt hi z;subst ab;have hr:ptr L=ij p q:=wg (o7 _) (o7 _) (fun t=>by rw[lS,eA,aab,Fm]);refine gW ((Wk.freeze (k:=900) rfl).trans<|Wk.of (sl:=[pP 5 (nA L)]) (hp:=[]) (.cons rfl (.of (by rw[bH (by rw[ZU];exact hL.symm)];rfl)) .nil) .nil) ?_;refine gc (qc L (fun x hx=>((Kc hb) x hx).qs (by have h9:p.length*(e+f+4)<=30*(e+f+4):=aad _ lp;omega)) oz) ?_;refine af ?_;rw[hr]
theorem Em{e k:Nat}{p:List Rat}{x:Rat}(hp:Pb e p)(hx:Qb k x):∀n,n<=p.length->Qb ((p.length-n)*(e+k+4)+1) (au (p.drop n) x):=by
 have key:∀q:List Rat,Pb e q->Qb (q.length*(e+k+4)+1) (au q x):=by
  intro q
  induction q with
  |nil=>intro _;exact Qb.zero.mono (by simp)
  |cons c q ih =>
   intro h;have h1:=ih (fun y hy=>h y (Z8 _ hy));refine((h c (aaa ..)).add (hx.mul h1)).mono ?_;rw[Z7,XN];omega
 intro n hn;have h:=key (p.drop n) (fun c hc=>hp c (YI hc));rw[List.length_drop]at h;exact h
theorem UG{e k:Nat}{p:List Rat}{x:Rat}(hp:Po e p)(hx:Qb k x)(h:31*(e+k+4)<=1000000000000):FP 167 [nA p,qA x] (.tup [qA (au p x),.v .nilIface]):=by
 have l1:=hp.len;have lL:=hx.qs (show k<=4398046511104 by omega);have dR:∀n,n<=p.length->Qb ((p.length-n)*(e+k+4)+1) (au (p.drop n) x):=Em hp.b hx;refine ai func167 ?_;refine gc (rx hp oz) ?_;refine gf ?_;refine gl ?_;refine ga (co oz) ?_;refine aK [0,3,4,7] [3,4] (fun(n:Nat)=>[pP 8 (i64 ((n:Int)-1))]) (fun n=>[pP 7 (.box (qA (au (p.drop n) x)).cells)]) (fun n=>n<=p.length) (fun n=>n) p.length (Z0 _) ?_ (h2:=(.cons rfl (BlkSub.bL (by rw[List.drop_length];exact .cons (.refl _) (.cons (.nil _ _ _) (.cons (.nil _ _ _) .nil))) rfl) .nil));rintro n hn K1 J1;refine gC (fun z=>?_) (fun z=>?_)
 ·have d5 : 0 < n := by have h9 := aa4 (p := (n : Int) - 1 >= 0) z; omega
  obtain⟨m,rfl⟩:∃m,n=m+1:=⟨n-1,by omega⟩
  obtain⟨c,hc⟩:=aJ (l:=p) (i:=m) oz;have sM:=hp.qs oz (ZR hc);have aN:=dR (m+1) hn;have Xm:(p.length-(m+1))*(e+k+4)<=30*(e+k+4):=aad _ oz;refine gc (lU (aN.qs oz) lL) ?_;refine gi (ng (n:=m) oz hc) ?_;refine gc (kF ((aN.mul hx).qs oz) sM) ?_;refine gD ?_ (7,0);refine gW (Wk.of (sl:=[pP 0 (nA p),pP 3 (.ptr 3 0),pP 4 (.ptr 4 0),pP 7 (.ptr 7 0),pP 8 (i64 (((m+1:Nat):Int)-1))]) (hp:=[pP 3 (.box (qA x).cells),pP 4 (.box [.v (.bool false),nS,nS]),pP 7 (.box (qA (au (p.drop m) x)).cells)]) aI (.k (.k (.cons rfl (.of (by rw[L3 x hc,Rat.add_comm,Rat.mul_comm];rfl)) .nil)))) ?_;refine ga (co oz) ?_;exact aG J1 m oz (hw:=Wk.of (.cons rfl (.of (by congr 3;omega)) (.k (.k (.k (.k .nil))))) (.k (.k (.k .nil))))
 have d5:n=0:=by have h9:=aa5 (p:=(n:Int)-1>=0) z;omega
 subst d5;refine bh ?_
 first |rfl |(simp;done)
theorem Tl{a b:Int}(ha:-9223372036854775808<=a/\a<=9223372036854775807)(hb:-9223372036854775808<=b/\b<=9223372036854775807):FP 169 [i64 a,i64 b] (.tup [qA (Zd a b),be (if b=0 then 8 else 0)]):=by
 have za:Zs a:=⟨2,by omega,by unfold Lz;simp only[Nat.reducePow];omega⟩
 have zb:Zs b:=⟨2,by omega,by unfold Lz;simp only[Nat.reducePow];omega⟩
 refine ai func169 ?_;refine gc (ve a ha) ?_;refine gc (ve b hb) ?_;refine gc (zN za zb) ?_;refine bh ?_
 first |rfl |(simp;done)
def fr(x:Rat):Rat:=x-(x.floor:Rat)
theorem fy(x:Rat):0<=fr x:=by have:=Rat.floor_le x;unfold fr;grind
theorem ml(x:Rat):fr x<1:=by
 have h:=Rat.lt_floor_add_one x;rw[Zc,Zb]at h;unfold fr;grind
theorem ut(x:Rat):x=fr x+(x.floor:Rat):=by unfold fr;grind
theorem uV{a b:Int}(h:(a:Rat)<(b:Rat)):a<b:=Rat.intCast_lt_intCast.1 h
theorem CN{x y:Rat}(h0:0<=y)(h1:y<1)(n:Int)(h:x=y+(n:Rat)):fr x=y:=by
 have a1:=fy x;have a2:=ml x;have a3:=ut x
 have a4:n=x.floor:=by
  have b1:(n:Rat)<((x.floor+1:Int):Rat):=by rw[Zc,Zb];grind
  have b2:((x.floor:Int):Rat)<((n+1:Int):Rat):=by rw[Zc,Zb];grind
  have:=uV b1;have:=uV b2;omega
 rw[<- a4]at a3;grind
section sorting
variable{α:Type}(κ:α->Rat)
def cC:List α->Nat->List α
  |ys,0=>ys
  |ys,j+1=>match ys[j]?,ys[j+1]? with
    |some a,some b=>if κ b<κ a then cC ((ys.set (j+1) a).set j b) j else ys
    |_,_=>ys
def fV:Nat->Nat->List α->List α
  |0,_,ys=>ys
  |k+1,i,ys=>fV k (i+1) (cC κ ys i)
def ce(xs:List α):List α:=fV κ (xs.length-1) 1 xs
theorem x4:∀(j:Nat)(ys:List α),(cC κ ys j).length=ys.length
 |0,ys=>by unfold cC;rfl
 |j+1,ys=>by
  unfold cC;split
  ·split
   ·rw[x4 j];simp
   ·rfl
  ·rfl
theorem GD:∀(j:Nat)(ys:List α),(cC κ ys j).Perm ys
 |0,ys=>by unfold cC;exact .refl _
 |j+1,ys=>by
  unfold cC;split
  ·rename_i a b ha hb;split
   ·refine(GD j _).trans ?_;obtain⟨h1,rfl⟩:=YA.1 ha;obtain⟨h2,rfl⟩:=YA.1 hb;exact List.set_set_perm h2 h1
   ·exact .refl _
  ·exact .refl _
theorem CB:∀(k i:Nat)(ys:List α),(fV κ k i ys).Perm ys
 |0,i,ys=>.refl _
 |k+1,i,ys=>(CB k (i+1) _).trans (GD κ i ys)
theorem je(xs:List α):(ce κ xs).Perm xs:=CB κ _ _ _
theorem HR:∀(j:Nat)(ys:List α),(cC κ ys j).map κ=cC (fun x=>x) (ys.map κ) j
 |0,ys=>by unfold cC;rfl
 |j+1,ys=>by
  unfold cC;rw[ZZ,ZZ];cases ha:ys[j]? with
  |none=>rfl
  |some a =>
   cases hb:ys[j+1]? with
   |none=>rfl
   |some b =>
    show(if κ b<κ a then _ else _:List α).map κ=if κ b<κ a then _ else _;split
    ·rw[HR j,aaw,aaw]
    ·rfl
theorem EU:∀(k i:Nat)(ys:List α),(fV κ k i ys).map κ=fV (fun x=>x) k i (ys.map κ)
 |0,i,ys=>rfl
 |k+1,i,ys=>by
  show(fV κ k (i+1) (cC κ ys i)).map κ=fV (fun x=>x) k (i+1) (cC (fun x=>x) (ys.map κ) i);rw[EU k,HR]
end sorting
def KO(ys:List Rat)(i:Nat):Prop:=∀p q,p<q->q<i->ys.getD p 0<=ys.getD q 0
def KI(ys:List Rat)(i j:Nat):Prop:=∀p q,p<q->q<=i->q≠j->ys.getD p 0<=ys.getD q 0
theorem Kw{ys:List Rat}{i:Nat}(h:KO ys i):KI ys i i:=fun p q h1 h2 h3=>h p q h1 oz
theorem De{ys:List Rat}{i j:Nat}(h:KI ys i j)(hj:j=0\/ys.getD (j-1) 0<=ys.getD j 0):KO ys (i+1):=by
 intro p q h1 h2
 by_cases hq:q=j
 ·subst hq;rcases hj with hj |hj
  ·omega
  ·by_cases hp:p=q-1
   ·subst hp;exact hj
   ·exact Rat.le_trans (h p (q-1) oz oz oz) hj
 ·exact h p q h1 oz hq
theorem Si{ys:List Rat}{i j:Nat}(h:KI ys i (j+1))(hi:j+1<=i)(hl:i<ys.length)(hlt:ys.getD (j+1) 0<ys.getD j 0):KI ((ys.set (j+1) (ys.getD j 0)).set j (ys.getD (j+1) 0)) i j:=by
 intro p q h1 h2 h3
 have e:∀r,((ys.set (j+1) (ys.getD j 0)).set j (ys.getD (j+1) 0)).getD r 0=if r=j then ys.getD (j+1) 0 else if r=j+1 then ys.getD j 0 else ys.getD r 0:=fun r=>by
  rw[vd _ _ _ _ (by rw[aa0];omega),vd _ _ _ _ oz]
 rw[e,e,aa1 h3]
 by_cases hq:q=j+1
 ·rw[aa2 hq]
  by_cases hp:p=j
  ·rw[aa2 hp];exact Rat.le_of_lt hlt
  ·rw[aa1 hp,aa1 oz];exact h p j oz oz oz
 ·rw[aa1 hq]
  by_cases hp:p=j
  ·rw[aa2 hp];exact h (j+1) q oz h2 hq
  ·rw[aa1 hp]
   by_cases nX:p=j+1
   ·rw[aa2 nX];exact h j q oz h2 hq
   ·rw[aa1 nX];exact h p q h1 h2 hq
theorem Ba(i:Nat):∀(j:Nat)(ys:List Rat),KI ys i j->j<=i->i<ys.length->KO (cC (fun x=>x) ys j) (i+1)
 |0,ys,h,_,_=>by unfold cC;exact De h (.inl rfl)
 |j+1,ys,h,hj,hl=>by
  have ha:ys[j]?=some (ys.getD j 0):=dD oz;have hb:ys[j+1]?=some (ys.getD (j+1) 0):=dD oz;unfold cC;rw[ha,hb];show KO (if ys.getD (j+1) 0<ys.getD j 0 then _ else _) (i+1);split
  ·rename_i hlt;exact Ba i j _ (Si h hj hl hlt) oz (by simpa using hl)
  ·rename_i hlt;exact De h (.inr (Rat.not_lt.1 hlt))
theorem Bu:∀(k i:Nat)(ys:List Rat),KO ys i->i+k=ys.length->KO (fV (fun x=>x) k i ys) ys.length
 |0,i,ys,h,hl=>by rw[<- hl];exact h
 |k+1,i,ys,h,hl=>by
  have h1:=Bu k (i+1) (cC (fun x=>x) ys i) (Ba i i ys (Kw h) (Z0 _) oz) (by rw[x4];omega)
  rwa [x4]at h1
theorem CY{α:Type}(κ:α->Rat)(xs:List α):(ce κ xs).Pairwise fun a b=>κ a<=κ b:=by
 have h:KO ((ce κ xs).map κ) xs.length:=by
  unfold ce;rw[EU]
  by_cases h0:xs.length=0
  ·intro p q h1 h2;omega
  ·have h1 := Bu (xs.length - 1) 1 (xs.map κ) (fun p q h1 h2 => by omega) (by rw [ZU]; omega)
   rwa [ZU]at h1
 have hl:(ce κ xs).length=xs.length:=(je κ xs).length_eq;refine List.pairwise_iff_getElem.2 fun p q hp hq nZ=>?_
 have h1:=h p q nZ oz;rw[ZS,ZS,ZZ,ZZ,ZV hp,ZV hq]at h1;exact h1
abbrev Ac:=Rat×Rat
def bC(l:List Ac)(x:Rat):Prop:=∃a∈l,a.1<=x/\x<a.2
def fE(l:List Ac):Prop:=(∀a∈l,a.1<a.2)/\l.Pairwise fun a b=>a.2<b.1
theorem jP(x:Rat):¬bC [] x:=fun⟨_,h,_⟩=>by cases h
theorem ew{a:Ac}{l:List Ac}{x:Rat}:bC (a::l) x↔(a.1<=x/\x<a.2)\/bC l x:=by
 constructor
 ·rintro⟨b,hb,h⟩;rcases aai.1 hb with rfl |hb
  ·exact .inl h
  ·exact .inr ⟨b,hb,h⟩
 ·rintro(h |⟨b,hb,h⟩)
  ·exact⟨a,aaa ..,h⟩
  ·exact⟨b,Z8 _ hb,h⟩
theorem oJ{l m:List Ac}{x:Rat}:bC (l++m) x↔bC l x\/bC m x:=by
 constructor
 ·rintro⟨b,hb,h⟩;rcases ZY.1 hb with hb |hb
  ·exact .inl ⟨b,hb,h⟩
  ·exact .inr ⟨b,hb,h⟩
 ·rintro(⟨b,hb,h⟩ |⟨b,hb,h⟩)
  ·exact⟨b,YP _ hb,h⟩
  ·exact⟨b,List.mem_append_right _ hb,h⟩
theorem KV{l m:List Ac}(h:l.Perm m){x:Rat}:bC l x↔bC m x:=by
 constructor
 ·rintro⟨b,hb,k⟩;exact⟨b,h.mem_iff.1 hb,k⟩
 ·rintro⟨b,hb,k⟩;exact⟨b,h.mem_iff.2 hb,k⟩
theorem fE.tail{a:Ac}{l:List Ac}(h:fE (a::l)):fE l:=⟨fun b hb=>h.1 b (Z8 _ hb),(Yc.1 h.2).2⟩
theorem fE.ge{a:Ac}{l:List Ac}(h:fE (a::l)){x:Rat}(hx:bC l x):a.2<x:=by
 obtain⟨b,hb,k,_⟩:=hx;have:=(Yc.1 h.2).1 b hb;grind
theorem fE.hd{a:Ac}{l:List Ac}(h:fE (a::l)){x:Rat}(hx:bC (a::l) x):a.1<=x:=by
 rcases ew.1 hx with k |k
 ·exact k.1
 ·have:=h.ge k;have:=h.1 a (aaa ..);grind
theorem DF{a b:Ac}{l m:List Ac}(hl:fE (a::l))(hm:fE (b::m))(h:∀x,bC (a::l) x->bC (b::m) x)(he:a.1=b.1):a.2<=b.2:=by
 refine Rat.not_lt.1 fun hlt=>?_
 have h1:=hm.1 b (aaa ..);have h2:=h b.2 (ew.2 (.inl ⟨by grind,hlt⟩));rcases ew.1 h2 with k |k
 ·grind
 ·have:=hm.ge k;grind
theorem Gv:∀{l m:List Ac},fE l->fE m->(∀x,bC l x↔bC m x)->l=m
 |[],[],_,_,_=>rfl
 |[],b::m,_,hm,h=>aa8 ((h b.1).2 (ew.2 (.inl ⟨Zf,hm.1 b (aaa ..)⟩))) (jP _)
 |a::l,[],hl,_,h=>aa8 ((h a.1).1 (ew.2 (.inl ⟨Zf,hl.1 a (aaa ..)⟩))) (jP _)
 |a::l,b::m,hl,hm,h=>by
  have e1:a.1=b.1:=Rat.le_antisymm (hl.hd ((h b.1).2 (ew.2 (.inl ⟨Zf,hm.1 b (aaa ..)⟩)))) (hm.hd ((h a.1).1 (ew.2 (.inl ⟨Zf,hl.1 a (aaa ..)⟩))));have e2:a.2=b.2:=Rat.le_antisymm (DF hl hm (fun x=>(h x).1) e1) (DF hm hl (fun x=>(h x).2) e1.symm);have e3:a=b:=Prod.ext e1 e2;subst e3;rw[Gv hl.tail hm.tail fun x=>?_];constructor
  ·intro k;have k1:=hl.ge k;rcases ew.1 ((h x).1 (ew.2 (.inr k)))with k2 |k2
   ·grind
   ·exact k2
  ·intro k;have k1:=hm.ge k;rcases ew.1 ((h x).2 (ew.2 (.inr k)))with k2 |k2
   ·grind
   ·exact k2
def mxR(a b:Rat):Rat:=if b<=a then a else b
theorem TG{a b x:Rat}:x<mxR a b↔x<a\/x<b:=by unfold mxR;split <;> grind
theorem Mu{a b:Rat}:a<=mxR a b/\b<=mxR a b:=by unfold mxR;split <;> grind
def cO(out:List Ac)(a:Ac):List Ac :=
  match out.getLast? with
  |some b=>if a.1<=b.2 then out.set (out.length-1) (b.1,mxR b.2 a.2)else out++[a]
  |none=>out++[a]
def fM(l:List Ac):List Ac:=(ce Prod.fst l).foldl cO []
theorem Hx{α:Type}(l:List α)(b c:α):(l++[b]).set ((l++[b]).length-1) c=l++[c]:=by
 rw[aah,List.set_append_right _ _ (by simp)];simp
theorem Pp{out:List Ac}{a:Ac}(h:fE out)(hb:∀b∈out,b.1<=a.1)(ha:a.1<a.2) :
  fE (cO out a)/\(∀x,bC (cO out a) x↔bC out x\/(a.1<=x/\x<a.2))/\∀b∈cO out a,b.1<=a.1:=by
 unfold cO;split
 ·rename_i b hl;obtain ⟨l,rfl⟩:=List.getLast?_eq_some_iff.1 hl;have p5:=hb b (by simp);have aH:=h.1 b (by simp);have hp:=Yh.1 h.2;split
  ·rename_i aU;rw[Hx];refine⟨⟨?_,?_⟩,?_,?_⟩
   ·intro c hc;rcases ZY.1 hc with hc |hc
    ·exact h.1 c (YP _ hc)
    ·rw[Z3]at hc;subst hc;have:=Mu (a:=b.2) (b:=a.2);show b.1<mxR b.2 a.2;grind
   ·refine Yh.2 ⟨hp.1,YE ..,fun c hc d hd=>?_⟩;rw[Z3]at hd;subst hd;exact hp.2.2 c hc b (by simp)
   ·intro x;rw[oJ,oJ]
    have e1:bC [(b.1,mxR b.2 a.2)] x↔b.1<=x/\x<mxR b.2 a.2:=by
     rw[ew];exact⟨fun k=>k.resolve_right (jP _),.inl⟩
    have e2:bC [b] x↔b.1<=x/\x<b.2:=by
     rw[ew];exact⟨fun k=>k.resolve_right (jP _),.inl⟩
    rw[e1,e2,TG];constructor
    ·rintro(k |⟨k,k2 |k2⟩)
     ·exact .inl (.inl k)
     ·exact .inl (.inr ⟨k,k2⟩)
     ·rcases Rat.le_total (a:=a.1) (b:=x)with k3 |k3
      ·exact .inr ⟨k3,k2⟩
      ·by_cases k4:x<b.2
       ·exact .inl (.inr ⟨k,k4⟩)
       ·exact .inr ⟨by grind,k2⟩
    ·rintro((k |k) |k)
     ·exact .inl k
     ·exact .inr ⟨k.1,.inl k.2⟩
     ·exact .inr ⟨by grind,.inr k.2⟩
   ·intro c hc;rcases ZY.1 hc with hc |hc
    ·exact hb c (YP _ hc)
    ·rw[Z3]at hc;subst hc;exact p5
  ·rename_i aU;have hlt:b.2<a.1:=Rat.not_le.1 aU;refine⟨⟨?_,?_⟩,?_,?_⟩
   ·intro c hc;rcases ZY.1 hc with hc |hc
    ·exact h.1 c hc
    ·rw[Z3]at hc;subst hc;exact ha
   ·refine Yh.2 ⟨h.2,YE ..,fun c hc d hd=>?_⟩;rw[Z3]at hd;subst hd;rcases ZY.1 hc with hc |hc
    ·have k1 := hp.2.2 c hc b (by simp);grind
    ·rw[Z3]at hc;subst hc;exact hlt
   ·intro x;rw[oJ (m:=[a]),ew (l:=[])];constructor
    ·rintro(k |k |k)
     ·exact .inl k
     ·exact .inr k
     ·exact aa8 k (jP _)
    ·rintro(k |k)
     ·exact .inl k
     ·exact .inr (.inl k)
   ·intro c hc;rcases ZY.1 hc with hc |hc
    ·exact hb c hc
    ·rw[Z3]at hc;subst hc;exact Zf
 ·rename_i hl;have h0:out=[]:=List.getLast?_eq_none_iff.1 hl;subst h0;refine⟨⟨fun c hc=>?_,YE ..⟩,fun x=>?_,fun c hc=>?_⟩
  ·have : c = a := by simpa using hc
   subst this;exact ha
  ·show bC [a] x↔_;rw[ew];constructor
   ·rintro(k |k)
    ·exact .inr k
    ·exact .inl k
   ·rintro(k |k)
    ·exact .inr k
    ·exact .inl k
  ·have : c = a := by simpa using hc
   subst this;exact Zf
theorem C2:∀(l out:List Ac),fE out->(∀b∈out,∀a∈l,b.1<=a.1)->l.Pairwise (fun a b=>a.1<=b.1)->(∀a∈l,a.1<a.2) ->
  fE (l.foldl cO out)/\∀x,bC (l.foldl cO out) x↔bC out x\/bC l x
 |[],out,h,_,_,_=>⟨h,fun x=>⟨.inl,fun k=>k.resolve_right (jP _)⟩⟩
 |a::l,out,h,hb,hp,ha=>by
  have hp:=Yc.1 hp;obtain⟨k1,k2,k3⟩:=Pp h (fun b aH=>hb b aH a (aaa ..)) (ha a (aaa ..));obtain⟨j1,j2⟩:=C2 l (cO out a) k1 (fun b aH c hc=>Rat.le_trans (k3 b aH) (hp.1 c hc)) hp.2 (fun c hc=>ha c (Z8 _ hc));refine⟨j1,fun x=>?_⟩;rw[YQ,j2,k2,ew,or_assoc]
theorem DT{l:List Ac}(h:∀a∈l,a.1<a.2):fE (fM l)/\∀x,bC (fM l) x↔bC l x:=by
 obtain⟨k1,k2⟩:=C2 (ce Prod.fst l) [] ⟨fun a ha=>(by cases ha),.nil⟩ (fun b hb=>by cases hb) (CY Prod.fst l) (fun a ha=>h a ((je Prod.fst l).mem_iff.1 ha));refine⟨k1,fun x=>?_⟩;unfold fM;rw[k2,KV (je Prod.fst l)];exact⟨fun k=>k.resolve_left (jP _),.inr⟩
def cK (by' : Rat) (a : Ac) : List Ac :=
  let f:=fr (a.1+by')
  let t:=f+(a.2-a.1)
  if 0<t-1 then[(0,t-1),(f,1)]else[(f,t)]
def fo(a:Ac):Prop:=0<=a.1/\a.1<a.2/\a.2<=1
theorem MR{b:Rat}{a:Ac}(h:fo a):∀c∈cK b a,fo c:=by
 have h0:=fy (a.1+b);have h1:=ml (a.1+b);obtain⟨k0,k1,k2⟩:=h;intro c hc;unfold cK at hc;simp only at hc;split at hc
 ·simp only[aai,aap,or_false]at hc;rcases hc with rfl |rfl
  ·exact⟨by grind,by grind,by grind⟩
  ·exact⟨by grind,by grind,by grind⟩
 ·simp only[aai,aap,or_false]at hc;subst hc;exact⟨by grind,by grind,by grind⟩
theorem Oo{n:Int}(h1:(-2:Rat)<(n:Rat))(h2:(n:Rat)<2):n=-1\/n=0\/n=1:=by
 have a1:((-2:Int):Rat)<(n:Rat):=by simpa using h1
 have a2:(n:Rat)<((2:Int):Rat):=by simpa using h2
 have:=uV a1;have:=uV a2;omega
theorem Bf{b:Rat}{a:Ac}(h:fo a){x:Rat}(iZ:0<=x)(iU:x<1):bC (cK b a) x↔a.1<=fr (x-b)/\fr (x-b)<a.2:=by
 have h0:=fy (a.1+b);have h1:=ml (a.1+b);have e1:=ut (a.1+b);have y0:=fy (x-b);have y1:=ml (x-b);have e2:=ut (x-b);obtain⟨k0,k1,k2⟩:=h;generalize hF:fr (a.1+b)=F at *;generalize hY:fr (x-b)=Y at *;generalize(a.1+b).floor=n at *;generalize(x-b).floor=m at *;have e3:x-F=Y-a.1+((m+n:Int):Rat):=by rw[Zc];grind
 have hN:=Oo (n:=m+n) (by grind) (by grind);unfold cK;simp only[hF]
 have c1:∀c:Ac,bC [c] x↔c.1<=x/\x<c.2:=fun c=>by
  rw[ew];exact⟨fun k=>k.resolve_right (jP _),.inl⟩
 split
 ·rw[ew,c1];dsimp only;rcases hN with hN |hN |hN <;> rw[hN]at e3
  ·rw[show((-1:Int):Rat)=-1 from rfl]at e3;constructor
   ·rintro(k |k) <;> grind
   ·intro k;left;grind
  ·rw[show((0:Int):Rat)=0 from rfl]at e3;constructor
   ·rintro(k |k) <;> grind
   ·intro k;right;grind
  ·rw[show((1:Int):Rat)=1 from rfl]at e3;constructor
   ·rintro(k |k) <;> grind
   ·intro k;grind
 ·rw[c1];dsimp only;rcases hN with hN |hN |hN <;> rw[hN]at e3
  ·rw[show((-1:Int):Rat)=-1 from rfl]at e3;constructor <;> grind
  ·rw[show((0:Int):Rat)=0 from rfl]at e3;constructor <;> grind
  ·rw[show((1:Int):Rat)=1 from rfl]at e3;constructor <;> grind
end Go.Lw
