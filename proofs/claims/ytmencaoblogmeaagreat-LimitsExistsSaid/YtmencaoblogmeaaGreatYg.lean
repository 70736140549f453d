/- LimitsExists: for any linkage and any turn the law returns true and leaves its arguments as they were. No other condition. Part 7 of 8: what the later parts need -/
import Derived.Test.YtmencaoblogmeaaGreatYf
import Derived.Laws.Pointers
set_option linter.unusedVariables false
open List (all_cons nil_append all_append map_map)
open List renaming mem_of_getElem? → ah3, mem_cons_of_mem → ait, mem_append → aia, map_cons → ajd, mem_cons → aiq, length_cons → aij, mem_cons_self → ai2, length_nil → aiv, getD_eq_getElem?_getD → ah4, getElem?_eq_none → aig, all_eq_true → aif, length_take → air, take_length → ail, not_mem_nil → aim, length_map → ah6, mem_singleton → afr, replicate → afv, cons_append → agj
open Nat renaming eq_of_beq_eq_true → ah5, le_refl → aie, lt_or_ge → aid, le_trans → aiw, mul_le_mul_right → aik, zero_le → aii, blt_eq → ad5, blt → aek, ne_of_beq_eq_false → aes, ble_eq → ae0, zero_add → ae9, beq → afe
open Option renaming map_some → ah1
open Bool renaming and_eq_true → ah7, false_eq_true → ahi
open Array renaming toList_inj → ahl, getElem?_eq_getElem → ahm
open Int renaming toNat_natCast → ai6, natCast_nonneg → agq, ofNat_eq_natCast → agt
open Rat renaming num_divInt_den → ag2, divInt → ag4
open Go renaming Operand → ajp, Value → ajq, TypeId → ajr, Program → ajs, World → ajt
open Go.Result renaming andThen_ok → aju
open Go.Sem renaming run_bind → ajv, run_pure → ajw
open Go.Proofs.Tryz
namespace Go.Lw
open Go.Proofs
def sA(hf:Bool)(q:Rat)(p:List Rat)(n:Int):Int:=if hf=true then aR (p.getD n.toNat 0)else aR (au p q)
def sL(hf:Bool)(q:Rat):LL->List Int->List Int
  |p::P,n::N=>sA hf q p n::sL hf q P N
  |_,_=>[]
theorem zL(hf:Bool)(q:Rat):∀{P:LL}{N:List Int},N.length=P.length->(sL hf q P N).length=P.length
 |[],_,_=>rfl
 |p::P,[],h=>by cases h
 |p::P,n::N,h=>ajn Nat.succ (zL hf q (Nat.succ.inj h))
theorem EF(hf:Bool)(q:Rat):∀{P:LL}{N:List Int}{i:Nat}{p:List Rat}{n:Int},P[i]?=some p->N[i]?=some n->(sL hf q P N)[i]?=some (sA hf q p n)
 |[],_,i,_,_,h,_=>by simp at h
 |p::P,[],i,_,_,_,h=>by simp at h
 |p::P,n::N,0,_,_,h,h'=>by cases h;cases h';rfl
 |p::P,n::N,i+1,_,_,h,h'=>EF hf q (P:=P) (N:=N) (i:=i) h h'
def oR(xs:List Int):Nat->Int
  |0=>1
  |n+1=>min (oR xs n) (xs.getD n 0)
theorem MW{xs:List Int}{i:Nat}{x:Int}(h:xs[i]?=some x):oR xs (i+1)=min (oR xs i) x:=by
 show min (oR xs i) (xs.getD i 0)=_;rw[aP h]
def nI(xs:List Int):Bool:=xs.all fun s=>decide (0<=s)
theorem OE(xs:List Int):∀n,n<=xs.length->decide (0<=oR xs n)=nI (xs.take n)
 |0,_=>rfl
 |n+1,h=>by
  obtain⟨x,hx⟩:=aB (l:=xs) (i:=n) oz;rw[MW hx,g9 hx];unfold nI;rw[all_append];have ih:=OE xs n oz;unfold nI at ih;rw[<- ih];simp only[all_cons,List.all_nil,Bool.and_true];rw[<- Bool.decide_and];exact decide_eq_decide.2 oz
theorem Xe{e:Nat}{p:List Rat}(hp:Po e p)(he:e<=1000000000000)(n:Nat):FP 105 [nA p,i64 n] (i64 (aR (p.getD n 0))):=by
 refine ak func105 ?_;refine gl ?_;refine gC (fun z=>?_) (fun z=>?_)
 ·have ae:=aI z;obtain⟨x,hx⟩:=aB ae;refine gi (ay hx) ?_;refine gc (qR (hp.qs he (ah3 hx))) ?_;refine ah ?_;rw[aP hx]
 have ae:=qt z;refine ah ?_;rw[ah4,aig ae];rfl
theorem acf(xs:List Int)(hl:xs.length<=1000):FP 39 [.lst 1 (xs.map i64)] (i64 (oR xs xs.length)):=by
 refine ak func39 ?_;refine gl ?_;refine aK [6,7] [] (fun(i:Nat)=>[pP 3 (i64 (oR xs i)),pP 8 (i64 i)]) (fun _=>[]) (fun i=>i<=xs.length) (fun i=>xs.length-i) 0 (aii _) ?_;rintro i hi K1 J1;refine gC (fun z=>?_) (fun z=>?_)
 ·have ae:=aI z;obtain⟨x,hx⟩:=aB ae;have hm:=MW hx;refine gi (ay hx) ?_;refine gs (Ql (.tmp rfl) (.tmp rfl) rfl) ?_;refine ga aG ?_;exact aE J1 (i+1) ae
 have ae:=aV hi z;subst ae;refine ah ?_
 first |rfl |(simp;done)
theorem Xa{e k:Nat}{P:LL}{N:List Int}(hP:∀p∈P,Po e p)(hN:∀n∈N,(0:Int)<=n)(hl:N.length=P.length)(hP8:P.length<=1000)(hf:Bool){q:Rat}(hq:Qb k q)(he:31*(e+k+4)<=1000000000000) :
  FP 38 [.lst 1 (P.map nA),.lst 1 (N.map i64),(Tn.mk (rt q) hf).av] (.tup [.lst 1 ((sL hf q P N).map i64),.v .nilIface]):=by
 obtain⟨S,hS⟩:∃S,S=sL hf q P N:=⟨_,rfl⟩
 have x5:S.length=P.length:=by rw[hS];exact zL hf q hl
 rw[<- hS];refine ak func38 ?_;refine gl ?_;refine gW (Wk.o (sl:=[pP 1 (.lst 1 (N.map i64)),pP 5 (.ptr 5 0),pP 8 (nS),pP 13 (.lst 1 (P.map nA)),pP 14 (i64 P.length),pP 15 (i64 0)]) (hp:=[pP 5 (.box (Tn.mk (rt q) hf).av.cells)])) ?_ (99999,0);refine gW (Wk.virt 900 1 rfl) ?_;refine aK [1,5,13,14] [5] (fun(i:Nat)=>[pP 8 (.ms 900 1 0 i),pP 15 (i64 i)]) (fun i=>[pP 900 (.row 1 ((S.take i).map i64))]) (fun i=>i<=P.length) (fun i=>P.length-i) 0 (aii _) ?_ (h1:=(.cons rfl (Sub.nM _ _ _) (.k .nil)));rintro i hi K1 J1;refine gC (fun z=>?_) (fun z=>?_) (st1:=(4,0)) (st2:=(12,0))
 ·have ae:=aI z;obtain⟨p,hp⟩:=aB ae;obtain⟨n9,r7⟩:=aB (l:=N) (i:=i) oz;obtain⟨n,hn⟩:=Int.eq_ofNat_of_zero_le (hN n9 (ah3 r7));have oF:=hP p (ah3 hp);have hs:=EF hf q hp r7;rw[<- hS]at hs;subst hn;refine wb [1,5,13,14,15] [5] [pP 8 (.ms 900 1 0 (i+1))] [pP 900 (.row 1 ((S.take (i+1)).map i64))] (True) ?_ ?_ 2
  ·intro K2 J2;refine gi (ay hp) ?_;refine gC (fun z=>?_) (fun z=>?_)
   ·have hv : sA hf q p (n : Int) = aR (p.getD n 0) := by unfold sA; rw [ajg z]; rfl
    rw[hv]at hs;refine gi (ay r7) ?_;refine gc (Xe oF oz n) ?_;refine gs (dX (.tmp rfl) rfl (by rw[ah6,air];omega) (.tmp rfl) T30 rfl T3 rfl rfl (by simp only[aij,aiv];omega) rfl rfl) ?_ (77777,0);refine gW (Wk.of (sl:=[pP 1 (.lst 1 (N.map i64)),pP 5 (.ptr 5 0),pP 8 (.ms 30 1 0 (i+1)),pP 13 (.lst 1 (P.map nA)),pP 14 (i64 P.length),pP 15 (i64 i)]) (hp:=[pP 5 (.box (Tn.mk (rt q) hf).av.cells),pP 30 (.row 1 ((S.take (i+1)).map i64))]) aU (.k (.cons rfl (.of (by rw[sM _ hs])) .nil))) ?_ (77777,0);refine gW (Wk.rk (k:=30) (d:=900) rfl rfl) ?_;exact lR J2 trivial
   have hv:sA hf q p (n:Int)=aR (au p q):=by unfold sA;rw[ajf (show ¬hf=true from fun h9=>by rw[show hf=false from z]at h9;cases h9)]
   rw[hv]at hs;have kQ:Qs (au p q):=((zY oF.b hq 0 (aii _)).mono (f:=31*(e+k+4)) (by have h9:=oF.len;have h8:=aik (e+k+4) h9;rw[Nat.sub_zero];omega)).qs oz;refine gc (U7 oF hq he) ?_;refine gf ?_;refine gc (qR kQ) ?_;refine gs (dX (.tmp rfl) rfl (by rw[ah6,air];omega) (.tmp rfl) T30 rfl T3 rfl rfl (by simp only[aij,aiv];omega) rfl rfl) ?_;exact lR J2 trivial (hw:=(Wk.of (sl:=[pP 1 (.lst 1 (N.map i64)),pP 5 (.ptr 5 0),pP 8 (.ms 45 1 0 (i+1)),pP 13 (.lst 1 (P.map nA)),pP 14 (i64 P.length),pP 15 (i64 i)]) (hp:=[pP 5 (.box (Tn.mk (rt q) hf).av.cells),pP 45 (.row 1 ((S.take (i+1)).map i64))]) aU (.k (.cons rfl (.of (by rw[sM _ hs])) .nil))).trans<|(Wk.rk (k:=45) (d:=900) rfl rfl).trans<|Wk.o)
  rintro -;refine ga aG ?_;exact aE J1 (i+1) ae
 have ae:=aV hi z;subst ae;refine gW ((Wk.freeze (k:=900) rfl).trans<|Wk.of (sl:=[pP 8 (.lst 1 (S.map i64))]) (hp:=[]) (.cons rfl (.of (by rw[b8 (by rw[ah6,air];omega),<- x5,ail])) .nil) .nil) ?_;refine bq ?_
 first |rfl |(simp;done)
def pu(l:Li)(x:Tn):Bool:=if di l=0/\x.err=0 then nI (sL x.half x.t.q (d9 l) (dx l))else false
def nO(l:Li)(x:Tn):Nat:=if di l≠0 then di l else x.err
theorem Is{x:Tn}(ho:x.t.ok)(he:x.err=0):x=⟨rt x.t.q,x.half⟩:=by
 have h:=Rt.eq_rt ho (Tn.ok_valid he);cases x;dsimp only at h ⊢;rw[<- h]
theorem Tk{xs:List Int}:aa .geq (oR xs xs.length) 0=nI xs:=by
 have h:=OE xs xs.length (aie _);rw[ail]at h;exact h
theorem SH(l:Li)(hl:l.ok)(x:Tn)(hx:x.t.ok){k:Nat}(hq:Qb k x.t.q)(hk:k<=1000):FP 14 [l.av,x.av] (.tup [bl (pu l x),db (nO l x)]):=by
 obtain⟨e1,e2⟩:=Fs l;have x5:(sL x.half x.t.q (d9 l) (dx l)).length<=1000:=by rw[zL _ _ e2];omega
 refine ak func14 ?_;refine gc (CK l hl) ?_;refine gC (fun z=>?_) (fun z=>?_)
 ·have h9:=n7 z;refine bq ?_;unfold pu nO;rw[ajf (fun h=>h9 h.1),ajg h9];rfl
 have h9:=n5 z;refine gc (Zv x hx) ?_;refine gC (fun z=>?_) (fun z=>?_)
 ·have h8:=n7 z;refine bq ?_;unfold pu nO;rw[ajf (fun h=>h8 h.2),ajf (fun h=>h h9)];rfl
 have h8:=n5 z;have hc:=Is hx h8;have jq:=Xa (e:=20000000) (k:=k) (fun p hp=>NY hl hp) (fun n hn=>(Ek n hn).1) e2 oz x.half hq oz;rw[<- hc]at jq;refine gc jq ?_;refine gc (acf (sL x.half x.t.q (d9 l) (dx l)) x5) ?_;refine bq ?_;unfold pu nO;rw[Tk,ajg ⟨h9,h8⟩,ajf (fun h=>h h9),h8];rfl
theorem Za(p:List Rat)(n:Nat):FP 109 [nA p,i64 n] (qA (p.getD n 0)):=by
 refine ak func109 ?_;refine gl ?_;refine gC (fun z=>?_) (fun z=>?_)
 ·have ae:=aI z;obtain⟨x,hx⟩:=aB ae;refine gi (ay hx) ?_;refine ah ?_;rw[aP hx];rfl
 have ae:=qt z;refine gR ?_;exact lP (by rw[ah4,aig ae];exact o0)
theorem Qv{e k:Nat}{P:LL}{N:List Int}(hP:∀p∈P,Po e p)(hN:∀n∈N,(0:Int)<=n)(hl:N.length=P.length)(hP8:P.length<=1000)(hf:Bool){q:Rat}(hq:Qb k q)(he:31*(e+k+4)<=1000000000000) :
  FP 41 [.lst 1 (P.map nA),.lst 1 (N.map i64),(Tn.mk (rt q) hf).av] (bl (nI (sL hf q P N))):=by
 obtain⟨S,hS⟩:∃S,S=sL hf q P N:=⟨_,rfl⟩
 have x5:S.length=P.length:=by rw[hS];exact zL hf q hl
 rw[<- hS];refine ak func41 ?_;refine gl ?_;refine aK [1,5,10,11] [5] (fun(i:Nat)=>[pP 12 (i64 i)]) (fun _=>[]) (fun i=>i<=P.length/\nI (S.take i)=true) (fun i=>P.length-i) 0 ⟨aii _,rfl⟩ ?_;rintro i ⟨hi,P4⟩ K1 J1;refine gC (fun z=>?_) (fun z=>?_)
 ·have ae:=aI z;obtain⟨p,hp⟩:=aB ae;obtain⟨n9,r7⟩:=aB (l:=N) (i:=i) oz;obtain⟨n,hn⟩:=Int.eq_ofNat_of_zero_le (hN n9 (ah3 r7));have oF:=hP p (ah3 hp);have hs:=EF hf q hp r7;rw[<- hS]at hs;subst hn;obtain⟨v,hv⟩:∃v,v=if hf=true then p.getD n 0 else au p q:=⟨_,rfl⟩
  have GD:sA hf q p (n:Int)=aR v:=by rw[hv];unfold sA;split <;> rfl
  rw[GD]at hs;have kQ:Qs (au p q):=((zY oF.b hq 0 (aii _)).mono (f:=31*(e+k+4)) (by have h9:=oF.len;have h8:=aik (e+k+4) h9;rw[Nat.sub_zero];omega)).qs oz
  have hpg:Qs (p.getD n 0):=by
   rw[ah4];cases h9:p[n]? with
   |none=>exact Qb.zero.qs oz
   |some c=>exact oF.qs oz (ah3 h9)
  have cM:Qs v:=by rw[hv];split;exact hpg;exact kQ
  refine gi (ay hp) ?_;refine gc (W7 oF hq he) ?_;refine wb [1,5,9,10,11,12] [5] [] [pP 9 (.box (qA v).cells)] (True) ?_ ?_
  ·intro K2 J2;refine gC (fun z=>?_) (fun z=>?_)
   ·have h9:hf=true:=z;refine gi (ay r7) ?_;refine gc (Za p n) ?_;exact lR J2 trivial (hw:=Wk.of aU (.cons rfl (.of (by rw[hv,ajg h9];rfl)) (.k .nil)))
   have h9:¬hf=true:=fun h8=>by rw[show hf=false from z]at h8;cases h8
   exact lR J2 trivial (hw:=Wk.of aU (.cons rfl (.of (by rw[hv,ajf h9];rfl)) (.k .nil)))
  rintro -;refine gc (yY cM) ?_;refine gC (fun z=>?_) (fun z=>?_)
  ·have h8 : ¬ 0 <= aR v := by have h7 : aR v < 0 := aji z; omega
   refine ah ?_;rw[show nI S=false from sj hs (ajl h8)];rfl
  have h8:0<=aR v:=by have h7:¬aR v<0:=ajj z;omega
  refine ga aG ?_;exact aE J1 (i+1) ⟨ae,rx P4 hs (ajk h8)⟩
 have ae:=aV hi z;refine ah ?_;rw[show nI S=true from rv (ae.trans x5.symm) P4];rfl
theorem Yu(l:Li)(hl:l.ok)(x:Tn)(hx:x.t.ok){k:Nat}(hq:Qb k x.t.q)(hk:k<=1000):FP 15 [l.av,x.av] (.tup [bl (pu l x),i64 (nO l x)]):=by
 obtain⟨e1,e2⟩:=Fs l;refine ak func15 ?_;refine gc (Jo l hl) ?_;refine gC (fun z=>?_) (fun z=>?_)
 ·have h9:=qk z;refine bq ?_;unfold pu nO;rw[ajf (fun h=>h9 h.1),ajg h9];rfl
 have h9:=q9 z;refine gc (Vx x hx) ?_;refine gC (fun z=>?_) (fun z=>?_)
 ·have h8:=qk z;refine bq ?_;unfold pu nO;rw[ajf (fun h=>h8 h.2),ajf (fun h=>h h9)];rfl
 have h8:=q9 z;have hc:=Is hx h8;have jq:=Qv (e:=20000000) (k:=k) (fun p hp=>NY hl hp) (fun n hn=>(Ek n hn).1) e2 oz x.half hq oz;rw[<- hc]at jq;refine gc jq ?_;refine bq ?_;unfold pu nO;rw[ajg ⟨h9,h8⟩,ajf (fun h=>h h9),h8];rfl
def vg(x:Tn):Bool:=cond (aa .lss (x.t.num.length:Int) 2) (aa .lss (x.t.den.length:Int) 2) false
theorem TA{x:Tn}(h:vg x=true):x.t.num.length<=1/\x.t.den.length<=1:=by
 unfold vg at h;cases h1:aa .lss (x.t.num.length:Int) 2
 ·rw[h1]at h;cases h
 ·rw[h1]at h;have a:=aI (b:=2) h1;have b:=aI (b:=2) h;exact⟨by omega,by omega⟩
theorem Tl(x:Tn):FP 13 [x.av] (bl (vg x)):=by
 refine ak func13 ?_;refine gl ?_;refine cq ?_;refine ah ?_
 first |rfl |(simp;done)
theorem WY(P5:FP 7 [] (bl true))(l:Li)(hw:l.okw)(x:Tn)(hx:x.t.wok):FP 4 [l.av,x.av] (bl true):=by
 refine ak func4 ?_;refine gc (WX l hw) ?_;refine bP (fun _=>(Tl x)) ?_;refine bP (fun _=>P5) ?_;refine gC (fun t20=>?_) (fun t20=>?_)
 ·refine gc P5 ?_;refine ah ?_
  first |rfl |(simp;done)
 have hs:ml l=true:=by cases h9:ml l;rw[h9]at t20;cases t20;rfl
 have hh:vg x=true:=by cases h9:vg x;rw[h9,hs]at t20;cases t20;rfl
 have hl:=SY hw hs;obtain⟨a,b⟩:=TA hh;have GM:x.t.ok:=hx.ok a b oz;have hq:Qb 64 x.t.q:=(Rt.qb GM (k:=1) oz a b).mono oz;refine gc (SH l hl x GM hq oz) ?_;refine gc (Yu l hl x GM hq oz) ?_;refine gc (Xp (nO l x)) ?_;refine ah ?_;simp[aa,bl]
variable{P:ajs}{N:Nat}
def cJ(s:AS):ajp->Option AV
  | .tmp t=>match s.get t with
    |some x=>match x with
      | .opt _ _=>none
      |x=>some x
    |none=>none
  | .const c=>some (.v c)
  | .func f=>some (.v (.func (.func f) #[] #[]))
  | .global _=>none
theorem bj{s:AS}{o:ajp}{x:AV}(h:cJ s o=some x):Ev s o x:=by
 cases o with
 |tmp t =>
  simp only[cJ]at h;split at h
  ·rename_i y hy;split at h
   ·cases h
   ·cases h;exact .tmp hy
  ·cases h
 |const c=>cases h;exact .const c
 |func f=>cases h;exact .func f
 |global n=>cases h
def rJ(s:AS):List ajp->Option (List AV)
  |[]=>some []
  |o::os=>match cJ s o with
    |some x=>match rJ s os with
      |some xs=>some (x::xs)
      |none=>none
    |none=>none
theorem q7{s:AS}:∀{os:List ajp}{xs:List AV},rJ s os=some xs->EvL s os xs
 |[],xs,h=>by cases h;exact .nil
 |o::os,xs,h=>by
  unfold rJ at h;split at h
  ·rename_i x h1;split at h
   ·rename_i ys h2;cases h;exact .cons (bj h1) (q7 h2)
   ·cases h
  ·cases h
def wN{α:Type}(n:Nat)(f:Nat->α):α:=match n with
  |0=>f 0
  |m+1=>f (m+1)
theorem oY{α:Type}(n:Nat)(f:Nat->α):wN n f=f n:=by cases n <;> rfl
def wI{α:Type}(z:Int)(f:Int->α):α:=match z with
  | .ofNat n=>match n with
    |0=>f 0
    |m+1=>f (Int.ofNat (m+1))
  | .negSucc n=>f (.negSucc n)
theorem mc{α:Type}(z:Int)(f:Int->α):wI z f=f z:=by
 cases z with
 |ofNat n=>cases n <;> rfl
 |negSucc n=>rfl
structure V1 where
  x:AV
  rt:List Nat
  rd:List Nat
def JS:ajq->Bool
  | .nilIface=>true
  | .iface _ _=>true
  |_=>false
theorem Ly{v:ajq}(h:JS v=true):DE v:=by
 cases v <;> first |exact .inl rfl |exact .inr ⟨_,_,rfl⟩ |cases h
def EO:BinOp->Bool
  | .and | .or | .xor | .andNot=>true
  |_=>false
theorem X2:∀{op:BinOp},EO op=true->(match op with | .and | .or | .xor | .andNot=>true |_=>false)=true:=by intro op;cases op <;> intro h <;> first |rfl |cases h
def tq(op:BinOp)(x y:ajp)(k k':IntKind)(a b:Int):Option V1:=match op with
  | .add | .sub | .mul=>match afe (d7 k) (d7 k')with
    |true=>wI (k.wrap (fq op a b)) fun z=>some ⟨.v (.int k z),ai x++ai y,[]⟩
    |false=>none
  | .quo=>match afe (d7 k) (d7 k')with
    |true=>match b with
      | .ofNat 0=>none
      |b=>wI (k.wrap (a.tdiv b)) fun z=>some ⟨.v (.int k z),ai x++ai y,[]⟩
    |false=>none
  | .rem=>match afe (d7 k) (d7 k')with
    |true=>match b with
      | .ofNat 0=>none
      |b=>wI (a.tmod b) fun z=>some ⟨.v (.int k z),ai x++ai y,[]⟩
    |false=>none
  | .shl=>match b with
    | .ofNat n=>wI (k.wrap (a*2^(min n k.bits))) fun z=>some ⟨.v (.int k z),ai x++ai y,[]⟩
    | .negSucc _=>none
  | .shr=>match b with
    | .ofNat n=>wI (a.fdiv (2^(min n k.bits))) fun z=>some ⟨.v (.int k z),ai x++ai y,[]⟩
    | .negSucc _=>none
  | .eql | .neq | .lss | .leq | .gtr | .geq=>match afe (d7 k) (d7 k')with
    |true=>match aa op a b with
      |true=>some ⟨.v (.bool true),ai x++ai y,[]⟩
      |false=>some ⟨.v (.bool false),ai x++ai y,[]⟩
    |false=>none
  |op=>match EO op&&afe (d7 k) (d7 k')with
    |true=>wI (n8 op k a b) fun z=>some ⟨.v (.int k z),ai x++ai y,[]⟩
    |false=>none
section
variable{s:AS}{R:Array Oper}{d:Nat}{t T:ajr}{pos:String}{after:Array Edge}
theorem X9{op:BinOp}{x y:ajp}{k k':IntKind}{a b:Int}{S:ajr}{r:V1}(hx:Ev s x (.v (.int k a)))(hy:Ev s y (.v (.int k' b)))(h:tq op x y k k' a b=some r)(hN:aek d N=true) :
  Step P N R s ⟨some d,.binOp op S x y T,t,pos,after,none⟩ ⟨some r.x,[],r.rt,r.rd⟩:=by
 have hc:∀(op:BinOp),zg op=true->(match afe (d7 k) (d7 k')with
  |true=>match aa op a b with
   |true=>some (⟨.v (.bool true),ai x++ai y,[]⟩:V1)
   |false=>some ⟨.v (.bool false),ai x++ai y,[]⟩
  |false=>none)=some r->Step P N R s ⟨some d,.binOp op S x y T,t,pos,after,none⟩ ⟨some r.x,[],r.rt,r.rd⟩:=by
  intro op el h';split at h'
  ·rename_i hk;cases nE hk;have:=IM (P:=P) (R:=R) (op:=op) (S:=S) (T:=T) (t:=t) (pos:=pos) (after:=after) hx hy (by cases op <;> simp_all [zg]) hN;split at h'
   ·rename_i hb;cases h';rw[hb]at this;exact this
   ·rename_i hb;cases h';rw[hb]at this;exact this
  ·cases h'
 have ha:∀(op:BinOp),Cq op=true->(match afe (d7 k) (d7 k')with
  |true=>wI (k.wrap (fq op a b)) fun z=>some (⟨.v (.int k z),ai x++ai y,[]⟩:V1)
  |false=>none)=some r->Step P N R s ⟨some d,.binOp op S x y T,t,pos,after,none⟩ ⟨some r.x,[],r.rt,r.rd⟩:=by
  intro op el h';split at h'
  ·rename_i hk;cases nE hk;rw[mc]at h';cases h';exact IX hx hy (L4 el) hN
  ·cases h'
 have hb:∀(op:BinOp),(match EO op&&afe (d7 k) (d7 k')with
  |true=>wI (n8 op k a b) fun z=>some (⟨.v (.int k z),ai x++ai y,[]⟩:V1)
  |false=>none)=some r->Step P N R s ⟨some d,.binOp op S x y T,t,pos,after,none⟩ ⟨some r.x,[],r.rt,r.rd⟩:=by
  intro op h';split at h'
  ·rename_i hk;simp only[ah7]at hk;cases nE hk.2;rw[mc]at h';cases h';exact Of hx hy (X2 hk.1) hN
  ·cases h'
 cases op with
 |add=>exact ha _ rfl h
 |sub=>exact ha _ rfl h
 |mul=>exact ha _ rfl h
 |quo =>
  simp only[tq]at h;split at h
  ·rename_i hk;cases nE hk;split at h
   ·cases h
   ·rename_i iC;rw[mc]at h;cases h
    exact JN hx hy (fun e=>iC (by rw[e];rfl)) hN
  ·cases h
 |rem =>
  simp only[tq]at h;split at h
  ·rename_i hk;cases nE hk;split at h
   ·cases h
   ·rename_i iC;rw[mc]at h;cases h
    exact Kd hx hy (fun e=>iC (by rw[e];rfl)) hN
  ·cases h
 |shl =>
  simp only[tq]at h;split at h
  ·rename_i n;rw[mc]at h;obtain rfl:=Option.some.inj h;have:=Ow (P:=P) (R:=R) (S:=S) (T:=T) (t:=t) (pos:=pos) (after:=after) hx hy (agq n) hN;simp only[agt,ai6]at this;exact this
  ·cases h
 |shr =>
  simp only[tq]at h;split at h
  ·rename_i n;rw[mc]at h;obtain rfl:=Option.some.inj h;have:=Nc (P:=P) (R:=R) (S:=S) (T:=T) (t:=t) (pos:=pos) (after:=after) hx hy (agq n) hN;simp only[agt,ai6]at this;exact this
  ·cases h
 |eql=>exact hc _ rfl h
 |neq=>exact hc _ rfl h
 |lss=>exact hc _ rfl h
 |leq=>exact hc _ rfl h
 |gtr=>exact hc _ rfl h
 |geq=>exact hc _ rfl h
 |_=>exact hb _ h
end
def ri(op:BinOp)(b:Bool):Bool:=match op with
  | .eql=>b
  |_=>!b
def E2:AV->Option Bool
  | .v (.slice none 0 0)=>some true
  | .lst _ (_::_)=>some false
  | .ms _ _ _ (_+1)=>some false
  |_=>none
theorem Uv{S:ajr}{w:ajt}{E:ajr}(h3:(underlying S).run P w=.ok (.slice E) w){a:Option Addr}{n c:Nat} :
  (Op.equal S (.slice a n c) (.slice none 0 0)).run P w=.ok a.isNone w:=by
 show(Op.equalIn (9999+1) S _ _).run P w=_;rw[Op.equalIn];cases a <;> simp[h3]
theorem WC{s:AS}{R:Array Oper}{d:Nat}{x:ajp}{xv:AV}{b:Bool}{op:BinOp}{S T t E:ajr}{ti:TI}{pos:String}{after:Array Edge}(el:op=.eql\/op=.neq)
  (hx:Ev s x xv) (hv:E2 xv=some b) (hS:aq P S=some ti) (hk:ti.k=.slice E) (hN:aek d N=true) :
  Step P N R s ⟨some d,.binOp op S x (.const (.slice none 0 0)) T,t,pos,after,none⟩ ⟨some (.v (.bool (ri op b))),[],ai x,[]⟩ :=
 cC rfl rfl hN fun s' am C m a w hr=>⟨.bool (ri op b),by
  have h:=(hx.agree am (fun _ h=>h)).rep hr;obtain⟨d2,h3,h4,-,-⟩:=cR hS w;obtain rfl:=gz (h4.trans hk);have h2:a.eval (.const (.slice none 0 0))=.slice none 0 0:=rfl
  obtain⟨ad,n,c,he,hb⟩:∃ad n c,a.eval x=.slice ad n c/\ad.isNone=b:=by
   generalize a.eval x=u at h;unfold E2 at hv;split at hv
   ·cases hv;cases h;exact⟨_,_,_,rfl,rfl⟩
   ·cases hv;cases h with
    |lst u hb hc hl hs h1 hu hr=>exact⟨_,_,_,rfl,rfl⟩
   ·cases hv;cases h with
    |ms hm hc hS=>exact⟨_,_,_,rfl,rfl⟩
   ·cases hv
  have h5:=Uv (P:=P) (a:=ad) (n:=n) (c:=c) h3;rcases el with rfl |rfl <;> simp[execOp,he,h2,eqGuard,binOp,h5,hb,ri],.v _⟩
theorem XT{s:AS}{R:Array Oper}{d:Nat}{x:ajp}{lo hi:Option ajp}{T E t:ajr}{ti te:TI}{pos:String}{after:Array Edge}
  (hx:Ev s x (.v (.slice none 0 0))) (hl:EvI s lo 0 0) (hh:EvI s hi 0 0) (hT:aq P T=some ti) (hk:ti.k=.slice E) (hE:aq P E=some te) (hN:aek d N=true) :
  Step P N R s ⟨some d,.slice T x lo hi none,t,pos,after,none⟩ ⟨some (.v (.slice none 0 0)),[],ai x++(j4 lo++j4 hi),[]⟩ :=
 cC rfl rfl hN fun s' am C m a w hr=>by
  have dc:=nN hr (hx.agree am (fun _ h=>aia.2 (.inl h)));have hl':=hl.agree am (fun _ h=>aia.2 (.inr (aia.2 (.inl h))));have hh':=hh.agree am (fun _ h=>aia.2 (.inr (aia.2 (.inr h))));obtain⟨d2,hu,h3,-,-⟩:=cR hT w;obtain rfl:=gz (h3.trans hk);have:=vl (P:=P) hr (cap:=0) true hl' hh' (aie _) (aie _);exact⟨.slice none 0 0,by simp[execOp,dc,Instr.sliceAt,hu,Instr.slice,this,eR hE],.v _⟩
theorem acn{s:AS}{R:Array Oper}{d:Nat}{x:ajp}{k1 k2:IntKind}{sz:Nat}{es:List AV}{T E t:ajr}{ti te:TI}{pos:String}{after:Array Edge}
  (hx:Ev s x (.lst sz es)) (hT:aq P T=some ti) (hk:ti.k=.slice E) (hE:aq P E=some te) (aN:te.size=sz) (hN:aek d N=true) :
  Step P N R s ⟨some d,.slice T x none (some (.const (.int k1 0))) (some (.const (.int k2 0))),t,pos,after,none⟩ ⟨some (.ms d sz 0 0),[(d,some (.row sz []))],ai x,[]⟩:=by
 refine vS rfl ?_;intro s' am bm C m a w next hC hr hnext
 have hfr:s'.Fresh d:=by
  rcases bm d (by simp)with h |h
  ·cases h
  ·exact h
 have dk:=(hx.agree am (fun _ h=>h)).rep hr;obtain⟨d2,hu,h3,-,-⟩:=cR hT w;obtain rfl:=gz (h3.trans hk)
 obtain⟨ad,n,c,he⟩:∃ad n c,a.eval x=.slice ad n c:=by
  generalize a.eval x=u at dk;cases dk with
  |lst0 a cap=>exact⟨_,_,_,rfl⟩
  |lst u hb hc hl hs h1 hu hr=>exact⟨_,_,_,rfl⟩
 have e1:a.eval (.const (.int k1 0))=.int k1 0:=rfl;have e2:a.eval (.const (.int k2 0))=.int k2 0:=rfl
 have ko:(execOp a.eval ⟨some d,.slice T x none (some (.const (.int k1 0))) (some (.const (.int k2 0))),t,pos,after,none⟩).run P w=.ok (.value (.slice ad 0 0)) w:=by
  simp[execOp,he,e1,e2,Instr.sliceAt,hu,Instr.slice,Instr.sliceBounds,Instr.sliceBound,asIntOf,eR hE]
 rw[ko];rw[ad5]at hN;simp only[Oper.upon,Act.put];obtain⟨m2,h1⟩:∃m2,RelM C ⟨s'.sl,(d,some (.row sz []))::s'.hp⟩ m2 a w:=⟨_,hr.virt sz hfr⟩
 refine hnext m2 _ _ ?_
 have:=h1.put d (.slice ad 0 0) (some (.ms d sz 0 0)) (fun z hz=>by
  cases hz;exact⟨by have:=hr.nt;omega,.ms0 _ _ _ _⟩)
 simpa[AS.app]using this
variable[Inhabited (Tys P)]
def IK:BinOp->Bool
  | .eql | .neq=>true
  |_=>false
def yQ:List UInt8->List UInt8->Bool
  |[],y=>match y with
    |[]=>true
    |_=>false
  |x::l,y=>match y with
    |x'::l'=>match afe x.toNat x'.toNat with
      |true=>yQ l l'
      |false=>false
    |[]=>false
theorem FA:∀{a b:List UInt8},yQ a b=(a==b)
 |[],[]=>rfl
 |[],_::_=>rfl
 |_::_,[]=>rfl
 |x::l,x'::l'=>by
  show(match afe x.toNat x'.toNat with |true=>yQ l l' |false=>false)=_;cases h:afe x.toNat x'.toNat with
  |true =>
   have:x=x':=UInt8.toNat_inj.1 (ah5 h);subst this;simp only[FA (a:=l)];simp
  |false =>
   have:x≠x':=fun e=>aes h (by rw[e])
   simp[this]
def n6(a b:ByteArray):Bool:=yQ a.data.toList b.data.toList
theorem Ca(a b:ByteArray):(a.toList==b.toList)=n6 a b:=by
 unfold n6;rw[FA,ByteArray.toList_eq,ByteArray.toList_eq]
def B8(P:ajs)[Inhabited (Tys P)](op:BinOp)(S:ajr)(x y:ajp)(vx vy:ajq):Option V1:=match vx with
  | .int k a=>match vy with
    | .int k' b=>tq op x y k k' a b
    |_=>none
  |vx=>match vy with
    | .nilIface=>match y with
      | .const _=>match JS vx with
        |true=>match bS P S with
          |some ti=>match ti.k with
            | .iface _=>match op with
              | .eql=>some ⟨.v (.bool (eI vx)),ai x++[],[]⟩
              | .neq=>some ⟨.v (.bool !(eI vx)),ai x++[],[]⟩
              |_=>none
            |_=>none
          |none=>none
        |false=>none
      |_=>none
    | .string b=>match vx with
      | .string a=>match op with
        | .eql=>match n6 a b with
          |true=>some ⟨.v (.bool true),ai x++ai y,[]⟩
          |false=>some ⟨.v (.bool false),ai x++ai y,[]⟩
        | .neq=>match n6 a b with
          |true=>some ⟨.v (.bool false),ai x++ai y,[]⟩
          |false=>some ⟨.v (.bool true),ai x++ai y,[]⟩
        |_=>none
      |_=>none
    |vy=>match sW P op S x y [] vx vy with
      |some r=>match r.ob with
        |[]=>some ⟨r.x,r.rt,r.rd⟩
        |_=>none
      |none=>none
def rr(P:ajs)[Inhabited (Tys P)](T sz:Nat):Bool:=match bS P T with
  |some ti=>match ti.k with
    | .slice E=>match bS P E with
      |some te=>afe te.size sz
      |none=>false
    |_=>false
  |none=>false
theorem vq{T sz:Nat}(h:rr P T sz=true):∃ti E te,aq P T=some ti/\ti.k=.slice E/\aq P E=some te/\te.size=sz:=by
 unfold rr at h;split at h
 ·rename_i ti bR;split at h
  ·rename_i E hk;split at h
   ·rename_i te xF;exact⟨ti,E,te,bA bR,hk,bA xF,ah5 h⟩
   ·cases h
  ·cases h
 ·cases h
def oO(s:AS)(o:Option ajp)(d:Nat):Option Nat:=match o with
  |none=>some d
  |some x=>match cJ s x with
    |some (.v (.int _ (.ofNat n)))=>some n
    |_=>none
theorem um{s:AS}{o:Option ajp}{d n:Nat}(h:oO s o d=some n):EvI s o d n:=by
 cases o with
 |none=>cases h;exact .none d
 |some x =>
  simp only[oO]at h;split at h
  ·rename_i hx;cases h;exact .some (i:=Int.ofNat n) d (bj hx) (agq _)
  ·cases h
def EI(ti:TI)(l:List AV):Option AV:=match ti.ag with
  |true=>match iJ (l.take ti.size)with
    |some r=>some (.agg r)
    |none=>none
  |false=>match afe ti.size 1 with
    |true=>match l with
      |x::_=>some x
      |[]=>none
    |false=>none
theorem acx{ti:TI}{l:List AV}{x:AV}(h:EI ti l=some x):(ti.ag||afe ti.size 1)=true/\x=kc ti.ag (l.take ti.size):=by
 unfold EI at h;split at h
 ·rename_i ha;split at h
  ·rename_i r hr;cases h;rw[ha,jH hr];exact⟨rfl,rfl⟩
  ·cases h
 ·rename_i ha;split at h
  ·rename_i h1;split at h
   ·cases h;rw[ha,ah5 h1];exact⟨rfl,rfl⟩
   ·cases h
  ·cases h
def tm:List AV->List AV->Option (List ajq×List Nat)
  |[],[]=>some ([],[])
  | .v (.int .i64 a)::l,.v (.int .i64 b)::l'=>match a==b with
    |true=>match tm l l' with
      |some (vs,ks)=>some (.int .i64 a::vs,1::ks)
      |none=>none
    |false=>none
  | .v (.string a)::l,.v (.string b)::l'=>match n6 a b with
    |true=>match tm l l' with
      |some (vs,ks)=>some (.string a::vs,2::ks)
      |none=>none
    |false=>none
  |_,_=>none
theorem Wp{a b:ByteArray}(h:n6 a b=true):a=b:=by
 rw[<- Ca,beq_iff_eq,ByteArray.toList_eq,ByteArray.toList_eq]at h;cases a;cases b;congr 1
 exact Array.ext' h
theorem DA:∀{l l':List AV}{vs:List ajq}{ks:List Nat},tm l l'=some (vs,ks)->l=vs.map .v/\l'=vs.map .v/\vs.map vk=ks
 |[],[],_,_,h=>by cases h;exact⟨rfl,rfl,rfl⟩
 | .v (.int .i64 a)::l,.v (.int .i64 b)::l',_,_,h=>by
  rw[tm]at h;split at h
  ·rename_i he;split at h
   ·rename_i vs ks hs;obtain⟨h1,h2,h3⟩:=DA hs;cases h;cases eq_of_beq he;exact⟨by rw[h1];rfl,by rw[h2];rfl,by rw[<- h3];rfl⟩
   ·cases h
  ·cases h
 | .v (.string a)::l,.v (.string b)::l',_,_,h=>by
  rw[tm]at h;split at h
  ·rename_i he;split at h
   ·rename_i vs ks hs;obtain⟨h1,h2,h3⟩:=DA hs;cases h;cases Wp he;exact⟨by rw[h1];rfl,by rw[h2];rfl,by rw[<- h3];rfl⟩
   ·cases h
  ·cases h
def B0(P:ajs)(op:BinOp)(S:ajr)(x y:ajp)(cs cs':List AV):Option V1:=match op with
  | .neq=>match tm cs cs' with
    |some (_,ks)=>match yb P S ks with
      |true=>some ⟨.v (.bool false),ai x++ai y,[]⟩
      |false=>none
    |none=>none
  |_=>none
omit [Inhabited (Tys P)] in
theorem Zi{s:AS}{R:Array Oper}{d:Nat}{x y:ajp}{cs cs':List AV}{op:BinOp}{S T t:ajr}{pos:String}{after:Array Edge}{r:V1}(h:B0 P op S x y cs cs'=some r)
  (hx:Ev s x (.agg cs)) (hy:Ev s y (.agg cs')) (hN:aek d N=true):Step P N R s ⟨some d,.binOp op S x y T,t,pos,after,none⟩ ⟨some r.x,[],r.rt,r.rd⟩:=by
 unfold B0 at h;split at h
 ·split at h
  ·rename_i vs ks hs;obtain⟨h1,h2,h3⟩:=DA hs;subst h1;subst h2
   split at h
   ·rename_i hS;cases h;exact UL hx hy h3 hS hN
   ·cases h
  ·cases h
 ·cases h
def Ag(P:ajs)(t:ajr):Bool:=match P.underlying t with |some (.pointer _)=>true |_=>false
omit [Inhabited (Tys P)] in
theorem UD{t:ajr}(h:Ag P t=true):P.underlying t=some (.pointer (P.pointee t)):=by
 unfold Ag at h;split at h
 ·rename_i e he;rw[he];unfold Program.pointee;rw[he]
 ·cases h
omit [Inhabited (Tys P)] in
theorem Yk{s:AS}{R:Array Oper}{d:Nat}{x:ajp}{k off:Nat}{op:BinOp}{S T t:ajr}{pos:String}{after:Array Edge}(el:op=.eql\/op=.neq)
  (hx:Ev s x (.ptr k off)) (hS:Ag P S=true) (hN:aek d N=true) :
  Step P N R s ⟨some d,.binOp op S x (.const (.pointer none)) T,t,pos,after,none⟩ ⟨some (.v (.bool (ri op false))),[],ai x,[]⟩ :=
 cC rfl rfl hN fun s' am C m a w hr=>⟨.bool (ri op false),by
  have h:=(hx.agree am (fun _ h=>h)).rep hr;have h2:a.eval (.const (.pointer none))=.pointer none:=rfl;have hu:=UD hS;generalize ha:a.eval x=u at h;cases h;rcases el with rfl |rfl
  ·simp[execOp,ha,h2,eqGuard,run_eql_pointer_nil w S _ hu,ri]
  ·simp[execOp,ha,h2,eqGuard,run_neq_pointer_nil w S _ hu,ri],.v _⟩
def EE(P:ajs)(op:BinOp)(S:ajr)(x y:ajp):Option V1:=match y with
  | .const (.pointer none)=>match IK op with
    |true=>match Ag P S with
      |true=>match op with
        | .eql=>some ⟨.v (.bool false),ai x,[]⟩
        |_=>some ⟨.v (.bool true),ai x,[]⟩
      |false=>none
    |false=>none
  |_=>none
omit [Inhabited (Tys P)] in
theorem aap{s:AS}{R:Array Oper}{d:Nat}{x y:ajp}{k off:Nat}{op:BinOp}{S T t:ajr}{pos:String}{after:Array Edge}{r:V1}(h:EE P op S x y=some r)
  (hx:Ev s x (.ptr k off)) (hN:aek d N=true):Step P N R s ⟨some d,.binOp op S x y T,t,pos,after,none⟩ ⟨some r.x,[],r.rt,r.rd⟩:=by
 unfold EE at h;split at h
 ·split at h
  ·rename_i el;have el:op = .eql \/ op = .neq:=by cases op <;> first | exact .inl rfl | exact .inr rfl | cases el
   split at h
   ·rename_i hS;have h9:=Yk (P:=P) (R:=R) (T:=T) (t:=t) (pos:=pos) (after:=after) el hx hS hN;rcases el with rfl |rfl <;> (cases h;exact h9)
   ·cases h
  ·cases h
 ·cases h
def N5(P:ajs)(op:BinOp)(S:ajr)(x y:ajp)(a b c e:Int):Option V1:=match op with
  | .eql=>match AH P S with
    |true=>match a==c&&b==e with
      |true=>some ⟨.v (.bool true),ai x++ai y,[]⟩
      |false=>some ⟨.v (.bool false),ai x++ai y,[]⟩
    |false=>none
  |_=>none
def xc(P:ajs)[Inhabited (Tys P)](s:AS)(op:Op):Option V1:=match op with
  | .pick c x y=>match cJ s c with
    |some (.v (.bool b))=>match b with
      |true=>match cJ s x with
        |some (.v (.bool z))=>some ⟨.v (.bool z),ai c++(ai x++ai y),[]⟩
        |_=>none
      |false=>match cJ s y with
        |some (.v (.bool z))=>some ⟨.v (.bool z),ai c++(ai x++ai y),[]⟩
        |_=>none
    |_=>none
  | .binOp op S x (.const (.slice none 0 0)) _=>match IK op with
    |true=>match cJ s x with
      |some xv=>match E2 xv with
        |some b=>match bS P S with
          |some ti=>match ti.k with
            | .slice _=>match op with
              | .eql=>some ⟨.v (.bool b),ai x,[]⟩
              |_=>match b with
                |true=>some ⟨.v (.bool false),ai x,[]⟩
                |false=>some ⟨.v (.bool true),ai x,[]⟩
            |_=>none
          |none=>none
        |none=>none
      |none=>none
    |false=>none
  | .binOp op S x y _=>match cJ s x with
    |some (.v vx)=>match cJ s y with
      |some (.v vy)=>B8 P op S x y vx vy
      |_=>none
    |some (.agg [.v (.int .i64 a),.v (.int .i64 b)])=>match cJ s y with
      |some (.agg [.v (.int .i64 c),.v (.int .i64 e)])=>N5 P op S x y a b c e
      |_=>none
    |some (.ptr _ _)=>EE P op S x y
    |some (.agg cs)=>match cJ s y with
      |some (.agg cs')=>B0 P op S x y cs cs'
      |_=>none
    |_=>none
  | .unOp .neg _ x=>match cJ s x with
    |some (.v (.int k n))=>wI (k.wrap (0-n)) fun z=>some ⟨.v (.int k z),ai x,[]⟩
    |_=>none
  | .convert S T x=>match cJ s x with
    |some (.v (.int _ n))=>match bS P S with
      |some _=>match bS P T with
        |some ti=>match ti.k with
          | .int k'=>wI (k'.wrap n) fun z=>some ⟨.v (.int k' z),ai x,[]⟩
          |_=>none
        |none=>none
      |none=>none
    |_=>none
  | .indexAddr T x ix=>match cJ s ix with
    |some (.v (.int _ (.ofNat i)))=>match cJ s x with
      |some (.lst sz es)=>match rr P T sz with
        |true=>match es[i]? with
          |some e=>some ⟨.iptr e.cells,ai x++ai ix,[]⟩
          |none=>none
        |false=>none
      |some (.ms k sz off len)=>match rr P T sz&&aek i len with
        |true=>wN (off+i) fun n=>some ⟨.eptr k sz n 0,ai x++ai ix,[]⟩
        |false=>none
      |some (.ptr k off)=>match bS P T with
        |some ti=>match ti.k with
          | .array n E=>match bS P E with
            |some te=>match aek i n with
              |true=>wN (off+i*te.size) fun m=>some ⟨.ptr k m,ai x++ai ix,[]⟩
              |false=>none
            |none=>none
          |_=>none
        |none=>none
      |_=>none
    |_=>none
  | .load T x=>match cJ s x with
    |some (.eptr k sz i off)=>match s.blk k with
      |some (.row sz' es)=>match afe sz sz' with
        |true=>match es[i]? with
          |some e=>match bS P T with
            |some ti=>match Nat.ble (off+ti.size) e.cells.length with
              |true=>match EI ti (e.cells.drop off)with
                |some v=>some ⟨v,ai x,[k]⟩
                |none=>none
              |false=>none
            |none=>none
          |none=>none
        |false=>none
      |_=>none
    |some y=>match bS P T with
      |some ti=>match sH P s ti x [] y with
        |some r=>some ⟨r.x,r.rt,r.rd⟩
        |none=>none
      |none=>none
    |none=>none
  | .index T x ix=>match cJ s ix with
    |some (.v (.int _ (.ofNat i)))=>match cJ s x with
      |some (.v (.string b))=>match bS P T with
        |some ti=>match ti.k with
          | .string=>match aek i b.size with
            |true=>wN (b.data.getD i 0).toNat fun n=>some ⟨.v (.int .u8 (Int.ofNat n)),ai x++ai ix,[]⟩
            |false=>none
          |_=>none
        |none=>none
      |_=>none
    |_=>none
  | .slice T x lo hi none=>match cJ s x with
    |some (.lst sz es)=>match oO s lo 0 with
      |some l=>match oO s hi es.length with
        |some h=>match rr P T sz&&Nat.ble l h&&Nat.ble h es.length with
          |true=>match iJ ((es.drop l).take (h-l))with
            |some r=>some ⟨.lst sz r,ai x++(j4 lo++j4 hi),[]⟩
            |none=>none
          |false=>none
        |none=>none
      |none=>none
    |some (.v (.slice none 0 0))=>match oO s lo 0 with
      |some 0=>match oO s hi 0 with
        |some 0=>match bS P T with
          |some ti=>match ti.k with
            | .slice E=>match bS P E with
              |some _=>some ⟨.v (.slice none 0 0),ai x++(j4 lo++j4 hi),[]⟩
              |none=>none
            |_=>none
          |none=>none
        |_=>none
      |_=>none
    |some (.ms k sz off len)=>match oO s lo 0 with
      |some l=>match oO s hi len with
        |some h=>match rr P T sz&&Nat.ble l h&&Nat.ble h len with
          |true=>wN (off+l) fun a=>wN (h-l) fun b=>some ⟨.ms k sz a b,ai x++(j4 lo++j4 hi),[]⟩
          |false=>none
        |none=>none
      |none=>none
    |_=>none
  | .call ⟨.builtin .len,args,ts⟩=>match args.toList with
    |[x]=>match ts.toList with
      |[T]=>match cJ s x with
        |some (.lst _ es)=>match bS P T with
          |some ti=>match ti.k with
            | .slice _=>wN es.length fun n=>some ⟨.v (.int .i64 (Int.ofNat n)),ai x,[]⟩
            |_=>none
          |none=>none
        |some y=>match uz P x T [] y with
          |some r=>some ⟨r.x,r.rt,r.rd⟩
          |none=>none
        |none=>none
      |_=>none
    |_=>none
  | .call ⟨.builtin .max,args,ts⟩=>match args.toList with
    |[x,y]=>match cJ s x with
      |some (.v (.int .i64 a))=>match cJ s y with
        |some (.v (.int .i64 b))=>wI (if b>a then b else a) fun z=>some ⟨.v (.int .i64 z),ai x++ai y,[]⟩
        |_=>none
      |_=>none
    |_=>none
  | .call ⟨.builtin .min,args,ts⟩=>match args.toList with
    |[x,y]=>match cJ s x with
      |some (.v (.int .i64 a))=>match cJ s y with
        |some (.v (.int .i64 b))=>wI (if b<a then b else a) fun z=>some ⟨.v (.int .i64 z),ai x++ai y,[]⟩
        |_=>none
      |_=>none
    |_=>none
  |op=>match vQ P false True s op with
    |some r=>match r.ob with
      |[]=>some ⟨r.x,r.rt,r.rd⟩
      |_=>none
    |none=>none
omit [Inhabited (Tys P)] in
theorem TO{N d:Nat}{s:AS}{R:Array Oper}{x y:ajp}{a b:Int}{t:ajr}{ts:Array ajr}{pos:String}{after:Array Edge}(hx:Ev s x (.v (.int .i64 a)))(hy:Ev s y (.v (.int .i64 b)))(hN:aek d N=true) :
  Step P N R s ⟨some d,.call ⟨.builtin .max,#[x,y],ts⟩,t,pos,after,none⟩ ⟨some (.v (.int .i64 (if b>a then b else a))),[],ai x++ai y,[]⟩ :=
 cC rfl rfl hN fun s' am C m ac w hr=>⟨.int .i64 (if b>a then b else a),by
  have h:=(hx.agree am (fun _ h=>aia.2 (.inl h))).rep hr;have h':=(hy.agree am (fun _ h=>aia.2 (.inr h))).rep hr;generalize hu:ac.eval x=u at h;generalize hv:ac.eval y=v at h';cases h;cases h'
  simp[execOp,resolve,hu,hv,invoke,builtin,Builtin.max_,Builtin.max2],.v _⟩
omit [Inhabited (Tys P)] in
theorem RA{N d:Nat}{s:AS}{R:Array Oper}{x y:ajp}{a b:Int}{t:ajr}{ts:Array ajr}{pos:String}{after:Array Edge}(hx:Ev s x (.v (.int .i64 a)))(hy:Ev s y (.v (.int .i64 b)))(hN:aek d N=true) :
  Step P N R s ⟨some d,.call ⟨.builtin .min,#[x,y],ts⟩,t,pos,after,none⟩ ⟨some (.v (.int .i64 (if b<a then b else a))),[],ai x++ai y,[]⟩ :=
 cC rfl rfl hN fun s' am C m ac w hr=>⟨.int .i64 (if b<a then b else a),by
  have h:=(hx.agree am (fun _ h=>aia.2 (.inl h))).rep hr;have h':=(hy.agree am (fun _ h=>aia.2 (.inr h))).rep hr;generalize hu:ac.eval x=u at h;generalize hv:ac.eval y=v at h';cases h;cases h'
  simp[execOp,resolve,hu,hv,invoke,builtin,Builtin.min_,Builtin.min2],.v _⟩
section
variable{s:AS}{R:Array Oper}{d:Nat}{t T:ajr}{pos:String}{after:Array Edge}
theorem XW{op:BinOp}{x y:ajp}{vx vy:ajq}{S:ajr}{r:V1}(hx:Ev s x (.v vx))(hy:Ev s y (.v vy))(h:B8 P op S x y vx vy=some r)(hN:aek d N=true) :
  Step P N R s ⟨some d,.binOp op S x y T,t,pos,after,none⟩ ⟨some r.x,[],r.rt,r.rd⟩:=by
 unfold B8 at h;split at h
 ·split at h
  ·exact X9 hx hy h hN
  ·cases h
 ·split at h
  ·split at h
   ·rename_i c;have hc:c = .nilIface:=by cases hy; rfl
    subst hc;split at h
    ·rename_i he;split at h
     ·rename_i ti bR;split at h
      ·rename_i hk;split at h
       ·cases h;exact HG hx (Ly he) (bA bR) hk hN
       ·cases h;exact G2 hx (Ly he) (bA bR) hk hN
       ·cases h
      ·cases h
     ·cases h
    ·cases h
   ·cases h
  ·split at h
   ·split at h
    ·have h9:=Mz (P:=P) (R:=R) (S:=S) (T:=T) (t:=t) (pos:=pos) (after:=after) hx hy hN;rw[Ca]at h9;split at h
     ·rename_i hb;rw[hb]at h9;cases h;exact h9
     ·rename_i hb;rw[hb]at h9;cases h;exact h9
    ·have h9:=NN (P:=P) (R:=R) (S:=S) (T:=T) (t:=t) (pos:=pos) (after:=after) hx hy hN;rw[Ca]at h9;split at h
     ·rename_i hb;rw[hb]at h9;cases h;exact h9
     ·rename_i hb;rw[hb]at h9;cases h;exact h9
    ·cases h
   ·cases h
  ·split at h
   ·rename_i r' h1;split at h
    ·rename_i ho;cases h;exact MQ hx hy h1 (by rw[ho];exact .nil) hN
    ·cases h
   ·cases h
theorem D4{op:Op}{r:V1}(h:xc P s op=some r)(hN:aek d N=true):Step P N R s ⟨some d,op,t,pos,after,none⟩ ⟨some r.x,[],r.rt,r.rd⟩:=by
 unfold xc at h;split at h
 ·split at h
  ·rename_i hc;split at h
   ·split at h
    ·rename_i z hz;cases h
     exact B9 (bz:=z) (bj hc) (fun _=>bj hz) (fun e=>by cases e) hN
    ·cases h
   ·split at h
    ·rename_i z hz;cases h
     exact B9 (bx:=z) (bj hc) (fun e=>by cases e) (fun _=>bj hz) hN
    ·cases h
  ·cases h
 ·rename_i op S x T;split at h
  ·rename_i el;have el:op = .eql \/ op = .neq:=by cases op <;> first | exact .inl rfl | exact .inr rfl | cases el
   split at h
   ·rename_i xv hx;split at h
    ·rename_i b hv;split at h
     ·rename_i ti bR;split at h
      ·rename_i hk;have h9:=WC (P:=P) (R:=R) (T:=T) (t:=t) (pos:=pos) (after:=after) el (bj hx) hv (bA bR) hk hN;rcases el with rfl |rfl
       ·cases h;exact h9
       ·cases b <;> (cases h;exact h9)
      ·cases h
     ·cases h
    ·cases h
   ·cases h
  ·cases h
 ·rename_i T aF;split at h
  ·rename_i hx;split at h
   ·rename_i hy;exact XW (bj hx) (bj hy) h hN
   ·cases h
  ·rename_i hx;split at h
   ·rename_i hy;unfold N5 at h;split at h
    ·split at h
     ·rename_i he;have h9:=UQ (P:=P) (R:=R) (T:=T) (t:=t) (pos:=pos) (after:=after) (bj hx) (bj hy) he hN;split at h
      ·rename_i hb;rw[hb]at h9;cases h;exact h9
      ·rename_i hb;rw[hb]at h9;cases h;exact h9
     ·cases h
    ·cases h
   ·cases h
  ·rename_i hx;exact aap h (bj hx) hN
  ·rename_i hx;split at h
   ·rename_i hy;exact Zi h (bj hx) (bj hy) hN
   ·cases h
  ·cases h
 ·split at h
  ·rename_i hx;rw[mc]at h;cases h;exact zB (bj hx) hN
  ·cases h
 ·split at h
  ·rename_i hx;split at h
   ·rename_i hS;split at h
    ·rename_i hT;split at h
     ·rename_i hk;rw[mc]at h;cases h;exact Hz (bj hx) hN (bA hS) (bA hT) hk
     ·cases h
    ·cases h
   ·cases h
  ·cases h
 ·split at h
  ·rename_i i hi;split at h
   ·rename_i hx;split at h
    ·rename_i hs;obtain⟨ti,E,te,h1,h2,h3,h4⟩:=vq hs;split at h
     ·rename_i e he;cases h
      exact Ke (i:=Int.ofNat i) (bj hx) (bj hi) h1 h2 h3 h4 (agq _) he hN
     ·cases h
    ·cases h
   ·rename_i hx;split at h
    ·rename_i hs;simp only[ah7,ad5]at hs;obtain⟨ti,E,te,h1,h2,h3,h4⟩:=vq hs.1;rw[oY]at h;cases h
     exact nH (i:=Int.ofNat i) (bj hx) (bj hi) h1 h2 h3 h4 (agq _) (Int.ofNat_lt.2 hs.2) hN
    ·cases h
   ·rename_i hx;split at h
    ·rename_i hT;split at h
     ·rename_i hk;split at h
      ·rename_i hE;split at h
       ·rename_i hlt;rw[oY]at h;cases h
        exact Ut (i:=Int.ofNat i) (bj hx) (bj hi) (bA hT) hk (bA hE) rfl (agq _) (Int.ofNat_lt.2 (by rw[ad5]at hlt;exact hlt)) hN
       ·cases h
      ·cases h
     ·cases h
    ·cases h
   ·cases h
  ·cases h
 ·split at h
  ·rename_i hx;split at h
   ·rename_i hk;split at h
    ·rename_i hs;split at h
     ·rename_i e he;split at h
      ·rename_i ti hT;split at h
       ·rename_i bB;split at h
        ·rename_i v hv;cases h;cases ah5 hs;obtain⟨h1,rfl⟩:=acx hv;exact dq (bj hx) hk he (bA hT) bB h1 hN
        ·cases h
       ·cases h
      ·cases h
     ·cases h
    ·cases h
   ·cases h
  ·rename_i hx;split at h
   ·rename_i ti hT;split at h
    ·rename_i h1;cases h;exact M3 (bj hx) (bA hT) h1 hN
    ·cases h
   ·cases h
  ·cases h
 ·split at h
  ·rename_i i hi;split at h
   ·rename_i hx;split at h
    ·rename_i ti hT;split at h
     ·rename_i hk;split at h
      ·rename_i hb;rw[ad5]at hb;rw[oY]at h;cases h
       exact wP (i:=Int.ofNat i) (bj hx) (bj hi) (bA hT) hk (agq _) (Int.ofNat_lt.2 hb) hN
      ·cases h
     ·cases h
    ·cases h
   ·cases h
  ·cases h
 ·split at h
  ·rename_i hx;split at h
   ·rename_i l hl;split at h
    ·rename_i hh GN;split at h
     ·rename_i hs;simp only[ah7,ae0]at hs;obtain⟨ti,E,te,h1,h2,h3,h4⟩:=vq hs.1.1;split at h
      ·rename_i hr;cases h;cases jH hr
       exact eF (bj hx) (um hl) (um GN) h1 h2 h3 h4 hs.1.2 hs.2 hN
      ·cases h
     ·cases h
    ·cases h
   ·cases h
  ·rename_i hx;split at h
   ·rename_i hl;split at h
    ·rename_i hh;split at h
     ·rename_i ti hT;split at h
      ·rename_i E hk;split at h
       ·rename_i te hE;cases h;exact XT (bj hx) (um hl) (um hh) (bA hT) hk (bA hE) hN
       ·cases h
      ·cases h
     ·cases h
    ·cases h
   ·cases h
  ·rename_i hx;split at h
   ·rename_i l hl;split at h
    ·rename_i hh GN;split at h
     ·rename_i hs;simp only[ah7,ae0]at hs;obtain⟨ti,E,te,h1,h2,h3,h4⟩:=vq hs.1.1;rw[oY,oY]at h;cases h
      exact qJ (bj hx) (um hl) (um GN) h1 h2 h3 h4 hs.1.2 hs.2 hN
     ·cases h
    ·cases h
   ·cases h
  ·cases h
 ·rename_i args ts;split at h
  ·rename_i x hx;split at h
   ·rename_i T hT;have e1:args = #[x]:=by apply ahl.1; simpa using hx
    have e2:ts=#[T]:=by apply ahl.1;simpa using hT
    subst e1;subst e2
    split at h
    ·rename_i h1;split at h
     ·rename_i ti bR;split at h
      ·rename_i hk;rw[oY]at h;cases h;exact Lh (bj h1) (bA bR) hk hN
      ·cases h
     ·cases h
    ·rename_i h1;split at h
     ·rename_i h2;cases h;exact OK (bj h1) h2 hN
     ·cases h
    ·cases h
   ·cases h
  ·cases h
 ·rename_i args ts;split at h
  ·rename_i x y hx;split at h
   ·rename_i h1;split at h
    ·rename_i h2;have e1:args = #[x,y]:=by apply ahl.1; simpa using hx
     subst e1;rw[mc]at h;cases h;exact TO (bj h1) (bj h2) hN
    ·cases h
   ·cases h
  ·cases h
 ·rename_i args ts;split at h
  ·rename_i x y hx;split at h
   ·rename_i h1;split at h
    ·rename_i h2;have e1:args = #[x,y]:=by apply ahl.1; simpa using hx
     subst e1;rw[mc]at h;cases h;exact RA (bj h1) (bj h2) hN
    ·cases h
   ·cases h
  ·cases h
 ·split at h
  ·rename_i h1;split at h
   ·rename_i ho;cases h;exact Ay h1 (by rw[ho];exact .nil) trivial hN
   ·cases h
  ·cases h
end
end Go.Lw
namespace Go.Lw
variable{P:ajs}{N:Nat}
def tr(a b k:Nat):Nat:=match afe k a with
  |true=>b
  |false=>match afe k b with
    |true=>a
    |false=>k
theorem aci(a b k:Nat):tr a b k=if k=a then b else if k=b then a else k:=by
 unfold tr;split
 ·rename_i h;rw[ajg (ah5 h)]
 ·rename_i h;rw[ajf (aes h)]
  split
  ·rename_i h;rw[ajg (ah5 h)]
  ·rename_i h;rw[ajf (aes h)]
theorem AE(a b k:Nat):tr a b (tr a b k)=k:=by
 simp only[aci]
 by_cases h1:k=a
 ·subst h1
  by_cases h2:b=k
  ·simp[h2]
  ·simp[h2]
 ·by_cases h2:k=b
  ·subst h2;simp[h1]
  ·simp[h1,h2]
theorem HX{σ:Nat->Nat}(hσ:∀k,σ (σ k)=k):∀H:Hp,fW σ (fW σ H)=H
 |[]=>rfl
 |(k,x)::l=>by
  simp only[fW,hσ,HX hσ l];cases x with
  |none=>rfl
  |some x=>simp only[Blk.pm_pm hσ]
def tA:List (Nat×Nat)->List AV->List AV
  |[],xs=>xs
  |p::L,xs=>tA L (xs.map (AV.pm (tr p.1 p.2)))
def tH:List (Nat×Nat)->Hp->Hp
  |[],H=>H
  |p::L,H=>tH L (fW (tr p.1 p.2) H)
def rB:List (Nat×Nat)->AV->AV
  |[],r=>r
  |p::L,r=>(rB L r).pm (tr p.1 p.2)
def hB:List (Nat×Nat)->Hp->Hp
  |[],H=>H
  |p::L,H=>fW (tr p.1 p.2) (hB L H)
theorem Ip{f:FuncId}:∀{L:List (Nat×Nat)}{xs:List AV}{H H':Hp}{r:AV},Con P f (tA L xs) (tH L H) r H'->Con P f xs H (rB L r) (hB L H')
 |[],xs,H,H',r,h=>h
 |p::L,xs,H,H',r,h=>by
  have h1:=(Ip (L:=L) h).pm (AE p.1 p.2);rw[HX (AE p.1 p.2),map_map]at h1;have e:(AV.pm (tr p.1 p.2) ∘ AV.pm (tr p.1 p.2))=id:=by funext x;exact AV.pm_pm (AE p.1 p.2) x
  rw[e,List.map_id]at h1;exact h1
def IU:Nat->List Nat->List (Nat×Nat)
  |_,[]=>[]
  |b,k::ks=>(k,b)::IU (b+1) ks
def jV(k:Nat):List Nat->Bool
  |[]=>false
  |x::l=>match afe k x with
    |true=>true
    |false=>jV k l
def tl(s:AS):Nat->List Nat->List Nat->List Nat
  |0,_,acc=>acc
  |n+1,ks,acc=>match ks with
    |[]=>acc
    |k::ks=>match jV k acc with
      |true=>tl s n ks acc
      |false=>match s.blk k with
        |some z=>tl s n (z.nm++ks) (acc++[k])
        |none=>tl s n ks acc
def re(s:AS):List Nat->Hp
  |[]=>[]
  |k::ks=>match s.blk k with
    |some z=>(k,some z)::re s ks
    |none=>re s ks
theorem wD{s:AS}:∀{ks:List Nat}{k:Nat}{z:Blk},lk (re s ks) k=some z->lk s.hp k=some z
 |[],k,z,h=>by cases h
 |k'::ks,k,z,h=>by
  unfold re at h;split at h
  ·rename_i y hy;rw[aA]at h;split at h
   ·rename_i e;cases h;rw[e];exact hy
   ·exact wD h
  ·exact wD h
structure Ent(P:ajs) where
  f:FuncId
  xs:List AV
  r:AV
  H':Hp
  con:Con P f xs [] r H'
structure FE(P:ajs) where
  f:FuncId
  fn:Func
  c:Code
  rs:List ResultVar
  hf:P.funcs[f]?=some fn
  hb:fn.body=some c
  hn : (fn.name == "runtime.NumGoroutine") = false
  hrs:fn.results=rs.toArray
structure Env(P:ajs) where
  orc:FuncId->Option (List AV->Option (Ent P))
  fe:FuncId->Option (FE P)
  mt:FuncId->Bool
def eJ:ajq->ajq->Bool
  | .int k a,.int k' b=>afe (d7 k) (d7 k')&&aa .eql a b
  | .bool a,.bool b=>a==b
  | .nilIface,.nilIface=>true
  | .string a,.string b=>n6 a b
  | .slice none 0 0,.slice none 0 0=>true
  | .func (.func f) ⟨[]⟩ ⟨[]⟩,.func (.func g) ⟨[]⟩ ⟨[]⟩=>afe f g
  | .nilFunc,.nilFunc=>true
  | .pointer none,.pointer none=>true
  | .iface T v,.iface T' v'=>afe T T'&&eJ v v'
  |_,_=>false
theorem RN{a b:ByteArray}(h:n6 a b=true):a=b:=by
 unfold n6 at h;rw[FA]at h;have h:=eq_of_beq h;have e:∀c:ByteArray,c=⟨⟨c.data.toList⟩⟩:=fun c=>by cases c;rfl
 rw[e a,e b,h]
theorem zc:∀(a b:ajq),eJ a b=true->a=b
 | .iface T v,b,h=>by
  cases b with
  |iface T' v' =>
   simp only[eJ,ah7]at h;rw[ah5 h.1,zc v v' h.2]
  |_=>simp[eJ]at h
 | .int k a,b,h=>by
  cases b with
  |int k' b =>
   simp only[eJ,ah7]at h;rw[nE h.1,eq_of_beq (show(a==b)=true from h.2)]
  |_=>simp[eJ]at h
 | .bool a,b,h=>by
  cases b with
  |bool b=>simp only[eJ,beq_iff_eq]at h;rw[h]
  |_=>simp[eJ]at h
 | .string a,b,h=>by
  cases b with
  |string b=>simp only[eJ]at h;rw[RN h]
  |_=>simp[eJ]at h
 | .nilIface,b,h=>by
  cases b <;> simp[eJ]at h
  rfl
 | .slice x n c,b,h=>by
  unfold eJ at h;split at h <;> simp_all
 | .float ..,b,h=>by simp[eJ]at h
 | .complex ..,b,h=>by simp[eJ]at h
 | .pointer p,b,h=>by
  unfold eJ at h;split at h <;> simp_all
 | .map _,b,h=>by simp[eJ]at h
 | .chan _,b,h=>by simp[eJ]at h
 | .func f x y,b,h=>by
  unfold eJ at h;split at h <;> first |(simp_all;done) |(simp_all;exact ah5 h)
 | .nilFunc,b,h=>by
  unfold eJ at h;split at h <;> simp_all
 | .agg _,b,h=>by simp[eJ]at h
 | .tuple _,b,h=>by simp[eJ]at h
mutual
def et:AV->AV->Bool
  | .v a,y=>match y with
    | .v b=>eJ a b
    | .lst _ es=>match es with
      |[]=>match a with
        | .slice _ 0 _=>true
        |_=>false
      |_=>false
    |_=>false
  | .lst sz es,y=>match y with
    | .lst sz' es'=>afe sz sz'&&qX es es'
    |_=>false
  | .agg cs,y=>match y with
    | .agg cs'=>qp cs cs'
    |_=>false
  | .tup cs,y=>match y with
    | .tup cs'=>tW cs cs'
    |_=>false
  |_,_=>false
def qp:List AV->List AV->Bool
  |[],y=>match y with
    |[]=>true
    |_=>false
  |x::l,y=>match y with
    |x'::l'=>x'.one&&et x x'&&qp l l'
    |[]=>false
def tW:List AV->List AV->Bool
  |[],y=>match y with
    |[]=>true
    |_=>false
  |x::l,y=>match y with
    |x'::l'=>et x x'&&tW l l'
    |[]=>false
def qX:List AV->List AV->Bool
  |[],y=>match y with
    |[]=>true
    |_=>false
  |x::l,y=>match y with
    |x'::l'=>gg x x'&&qX l l'
    |[]=>false
def gg:AV->AV->Bool
  | .agg cs,y=>match y with
    | .agg cs'=>qp cs cs'
    |_=>false
  | .v a,y=>match y with
    | .v b=>eJ a b&&b.oneCell'
    | .lst _ es=>match es with
      |[]=>match a with
        | .slice _ 0 _=>true
        |_=>false
      |_=>false
    |_=>false
  | .lst sz es,y=>match y with
    | .lst sz' es'=>afe sz sz'&&qX es es'
    |_=>false
  |_,_=>false
end
theorem Id{a:ajq}{y:AV}(h:et (.v a) y=true):Sub (.v a) y:=by
 cases y with
 |v b=>simp only[et]at h;rw[zc _ _ h];exact .refl _
 |lst sz es =>
  cases es with
  |nil =>
   cases a with
   |slice x n c =>
    cases n with
    |zero=>exact .nil _ _ _
    |succ n=>simp[et]at h
   |_=>simp[et]at h
  |cons e es=>simp[et]at h
 |_=>simp[et]at h
mutual
theorem Fg:∀(x y:AV),et x y=true->Sub x y
 | .v a,y,h=>Id h
 | .lst sz es,y,h=>by
  cases y with
  |lst sz' es' =>
   simp only[et,ah7]at h;cases ah5 h.1;exact Sub.lst (v7 es es' h.2).1 (v7 es es' h.2).2
  |_=>simp[et]at h
 | .agg cs,y,h=>by
  cases y with
  |agg cs' =>
   simp only[et]at h;exact Sub.agg (yT cs cs' h).1 (yT cs cs' h).2
  |_=>simp[et]at h
 | .tup cs,y,h=>by
  cases y with
  |tup cs' =>
   simp only[et]at h;exact Sub.tup (H2 cs cs' h)
  |_=>simp[et]at h
 | .iptr _,y,h=>by simp[et]at h
 | .ms ..,y,h=>by simp[et]at h
 | .ptr ..,y,h=>by simp[et]at h
 | .eptr ..,y,h=>by simp[et]at h
 | .fn ..,y,h=>by simp[et]at h
 | .opt ..,y,h=>by simp[et]at h
 | .yl ..,y,h=>by simp[et]at h
 | .cl ..,y,h=>by simp[et]at h
theorem yT:∀(l l':List AV),qp l l'=true->SubL l l'/\l'.all AV.one=true
 |[],[],h=>⟨.nil,rfl⟩
 |[],_::_,h=>by simp[qp]at h
 |_::_,[],h=>by simp[qp]at h
 |x::l,x'::l',h=>by
  simp only[qp,ah7]at h;obtain⟨h1,h2⟩:=yT l l' h.2;exact⟨.cons (Fg x x' h.1.2) h1,by simp only[all_cons,h.1.1,h2,Bool.and_self]⟩
theorem H2:∀(l l':List AV),tW l l'=true->SubL l l'
 |[],[],h=>.nil
 |[],_::_,h=>by simp[tW]at h
 |_::_,[],h=>by simp[tW]at h
 |x::l,x'::l',h=>by
  simp only[tW,ah7]at h;exact .cons (Fg x x' h.1) (H2 l l' h.2)
theorem v7:∀(l l':List AV),qX l l'=true->l.length=l'.length/\∀(i:Nat)(e e':AV),l[i]?=some e->l'[i]?=some e'->iW e e'
 |[],[],h=>⟨rfl,fun i e e' h=>by simp at h⟩
 |[],_::_,h=>by simp[qX]at h
 |_::_,[],h=>by simp[qX]at h
 |x::l,x'::l',h=>by
  simp only[qX,ah7]at h;obtain⟨h1,h2⟩:=v7 l l' h.2;refine⟨by simp[h1],?_⟩;intro i e e' he he';cases i with
  |zero=>simp at he he';subst he;subst he';exact XA x x' h.1
  |succ i=>exact h2 i e e' (by simpa using he) (by simpa using he')
theorem XA:∀(x y:AV),gg x y=true->iW x y
 | .v a,y,h=>by
  have one:∀{z:AV},z.cells=[z]->z.one=true->Sub (.v a) z->iW (.v a) z:=by
   intro z h1 h2 h3;refine⟨by rw[h1];rfl,?_⟩;intro j x y hx hy;rw[h1]at hy;cases j with
   |zero=>simp[AV.cells]at hx hy;subst hx;subst hy;exact⟨h2,h3⟩
   |succ j=>simp at hy
  cases y with
  |v b =>
   simp only[gg,ah7]at h;exact one rfl h.2 (by rw[zc _ _ h.1];exact .refl _)
  |lst sz es =>
   refine one rfl rfl (Id ?_);cases es with
   |nil=>unfold gg at h;unfold et;exact h
   |cons=>simp[gg]at h
  |_=>simp[gg]at h
 | .lst sz es,y,h=>by
  cases y with
  |lst sz' es' =>
   simp only[gg,ah7]at h;cases ah5 h.1;refine⟨rfl,?_⟩;intro j x y hx hy;cases j with
   |zero =>
    simp[AV.cells]at hx hy;subst hx;subst hy
    exact⟨rfl,Sub.lst (v7 es es' h.2).1 (v7 es es' h.2).2⟩
   |succ j=>simp[AV.cells]at hy
  |_=>simp[gg]at h
 | .agg cs,y,h=>by
  cases y with
  |agg cs' =>
   simp only[gg]at h;obtain⟨h1,h2⟩:=yT cs cs' h;exact⟨h1.len,fun j x y hx hy=>⟨aif.1 h2 y (ah3 hy),h1.get j x y hx hy⟩⟩
  |_=>simp[gg]at h
 | .tup ..,y,h=>by simp[gg]at h
 | .iptr _,y,h=>by simp[gg]at h
 | .ms ..,y,h=>by simp[gg]at h
 | .ptr ..,y,h=>by simp[gg]at h
 | .eptr ..,y,h=>by simp[gg]at h
 | .fn ..,y,h=>by simp[gg]at h
 | .opt ..,y,h=>by simp[gg]at h
 | .yl ..,y,h=>by simp[gg]at h
 | .cl ..,y,h=>by simp[gg]at h
end
end Go.Lw
namespace Go.Lw
variable{P:ajs}{N:Nat}{R:Array Oper}{s:AS}{pos:String}{after:Array Edge}
theorem V0{d n:Nat}{os:List ajp}{es:List AV}{T E t:ajr}{ti te:TI}{parts:Array (Nat×ajp)}
  (hp:parts=(kP 0 os).toArray) (hx:EvL s os es) (hT:aq P T=some ti) (hk:ti.k=.slice E) (hE:aq P E=some te) (hz:te.zero.all Value.oneCell'=true)
  (aZ:afe te.zero.length te.size=true) (fg:(es.all fun e=>afe e.cells.length te.size&&e.ok)=true) (hnm:AV.nms es=[])
  (hn:n=es.length) (hb:Nat.ble (n*te.size) 16777216=true) (hb':Nat.ble n 16777216=true) (hN:aek d N=true) :
  Step P N R s ⟨some d,.buildSlice T n parts,t,pos,after,none⟩ ⟨some (.ms d te.size 0 n),[(d,some (.row te.size es))],cA os,[]⟩ :=
 sP rfl rfl hN (by simp) fun s' am hfr C m a w hr => by
  subst hp;rw[ae0]at hb hb';have hx':=hx.agree am (fun _ h=>h);obtain⟨c,h1,h2⟩:=El (w:=w) hT hk hE hz aZ (fun o x h=>h.rep hr) hx' fg hn oz;refine⟨.slice (some ⟨w.heap.size,0,none⟩) n n,c,E,w.drawn,?_,fun h=>h,?_,?_⟩
  ·have : ((kP 0 os).toArray.map fun p => (p.1, a.eval p.2)) = ((kP 0 os).map fun p => (p.1, a.eval p.2)).toArray := by simp
   simp only[execOp,ajv,this,h1,aju,ajw]
  ·intro g S m' w' hg hS hm hw;subst hn
   have FY:∀x∈fx es,x.nm=[]:=by
    have hh:=yn hnm;clear h2 h1 hx' hx fg hb hb' hnm am
    induction es with
    |nil=>intro x hx;cases hx
    |cons e es ih =>
     intro x hx;simp only[fx,aia]at hx;rcases hx with hx |hx
     ·have := hh e (by simp)
      cases e <;> simp only[AV.cells,afr]at hx <;> first
       |(subst hx;exact this)
       |(exact yn this x hx)
     ·exact ih (fun e he=>hh e (by simp[he])) x hx
   have h3:cW g S cO c.toList (fx es):=h2.mono hg hS (fun x hx k b hk _=>by have:=hk.mem;rw[FY x hx]at this;cases this);have hs:=CY fg;have ch:=zj es hs;have aN:c.size=es.length*te.size:=by have:=h3.1;simp at this;omega
   have ff:∀(i j:Nat)(e x:AV),es[i]?=some e->e.cells[j]?=some x->∃u,c[i*te.size+j]?=some u/\x.one=true/\Rep g S cO u x:=by
    intro i j e x he hx;have hf:=D5 es hs i j e x he hx
    have hlt:i*te.size+j<(fx es).length:=by
     rcases aid (i*te.size+j) (fx es).length with h |h
     ·exact h
     ·rw[aig h]at hf;cases hf
    have xr:i*te.size+j<c.size:=by omega
    refine⟨c[i*te.size+j],ahm xr,h3.2.1 _ x hf,h3.2.2 _ _ x (by simp[xr]) hf⟩
   refine .row hw oz (by unfold az;omega) (fun i e he=>hs e (ah3 he)) ?_ ?_
   ·intro i j e x he hx;obtain⟨u,_,h,_⟩:=ff i j e x he hx;exact h
   ·intro i j e u x he hx hu;obtain⟨u',h,_,h2⟩:=ff i j e x he hx;rw[hu]at h;cases h
    exact h2
  ·intro g S m' hm hS
   have:=Rep.ms (g:=g) (S:=S) (m:=m') (k:=d) (sz:=te.size) (off:=0) (len:=n) (cap:=n) hm (aie _) (by
    have hl:=zj es (CY fg);have h9:=h2.1;have e:c.size=n*te.size:=by simp at h9;rw[hn];omega
    rw[ae9,<- e];exact hS)
   simpa using this
end Go.Lw
namespace Go.Lw
variable{P:ajs}{N:Nat}
inductive OR where
  |ok (u:Out)
  |need (k:Nat)
  |no
inductive CR where
  |ok (H:Hp) (r:AV) (H':Hp)
  |need (k:Nat)
  |no
def pg:List AV->List AV->Bool
  |[],y=>match y with
    |[]=>true
    |_=>false
  |x::l,y=>match y with
    |x'::l'=>et x x'&&pg l l'
    |[]=>false
theorem M8:∀{l l':List AV},pg l l'=true->SubL l l'
 |[],[],h=>.nil
 |[],_::_,h=>by simp[pg]at h
 |_::_,[],h=>by simp[pg]at h
 |x::l,x'::l',h=>by
  simp only[pg,ah7]at h;exact .cons (Fg x x' h.1) (M8 h.2)
def mx:Nat->List Nat->Nat
  |m,[]=>m
  |m,k::l=>match aek m k&&aek k 1000 with
    |true=>mx k l
    |false=>mx m l
def C7(s:AS):Nat->Nat->Nat
  |0,k=>k
  |n+1,k=>match s.freshB k with
    |true=>k
    |false=>C7 s n (k+1)
def nxt(s:AS)(av:List Nat):Nat:=C7 s 100 (mx (mx 299 (s.hp.map (·.1))) av+1)
mutual
theorem AV.pm_id(σ:Nat->Nat):∀x:AV,x.nm=[]->x.pm σ=x
 | .ms k sz off len,h=>by simp[AV.nm]at h
 | .ptr k off,h=>by simp[AV.nm]at h
 | .eptr k sz i off,h=>by simp[AV.nm]at h
 | .yl k,h=>by simp[AV.nm]at h
 | .agg cs,h=>by simp only[AV.pm];rw[AV.pms_id σ cs (by simpa only[AV.nm]using h)]
 | .tup cs,h=>by simp only[AV.pm];rw[AV.pms_id σ cs (by simpa only[AV.nm]using h)]
 | .fn f cs,h=>by simp only[AV.pm];rw[AV.pms_id σ cs (by simpa only[AV.nm]using h)]
 | .opt b x,h=>by simp only[AV.pm];rw[AV.pm_id σ x (by simpa only[AV.nm]using h)]
 | .v x,h=>rfl
 | .lst sz l,h=>rfl
 | .iptr l,h=>rfl
 | .cl f cs ds,h=>rfl
theorem AV.pms_id(σ:Nat->Nat):∀l:List AV,AV.nms l=[]->AV.pms σ l=l
 |[],h=>rfl
 |x::l,h=>by
  simp only[AV.nms,List.append_eq_nil_iff]at h;simp only[AV.pms];rw[AV.pm_id σ x h.1,AV.pms_id σ l h.2]
end
theorem Xj{f:FuncId}{xs:List AV}{r:AV}{H':Hp}(h:Con P f xs [] r H')(hx:AV.nms xs=[])(k d:Nat):Con P f xs [] (r.pm (tr k d)) (fW (tr k d) H'):=by
 have h1:=h.pm (AE k d);rw[<- AV.pms_eq,AV.pms_id _ xs hx]at h1;exact h1
abbrev f9:=List Nat->FuncId->List AV->Hp->Option (AV×Hp)
def f9.Ok(P:ajs)(F:f9):Prop:=∀av f xs H r H',F av f xs H=some (r,H')->Con P f xs H r H'
def IL(s:AS):List Nat->Option Nat
  |[]=>none
  |k::ks=>match s.blk k with
    |some (.row _ _)=>some k
    |_=>IL s ks
def E6:bn->List Nat
  |[]=>[]
  |(_,x)::l=>match x with
    |some y=>y.nm++E6 l
    |none=>E6 l
def zG(F:f9)(s:AS)(av:List Nat)(f:FuncId)(xs:List AV):CR :=
  match re s (tl s 300 (AV.nms xs) [])with
  |H=>match F (s.hp.map (·.1)++(E6 s.sl++av)) f xs H with
    |some (r,H')=>.ok H r H'
    |none=>.no
def vj(E:Env P)(F:f9)(s:AS)(av:List Nat)(f:FuncId)(xs:List AV):CR:=match E.mt f with
  |true=>zG F s av f xs
  |false=>match IL s (AV.nms xs)with
    |some k=>.need k
    |none=>zG F s av f xs
def qL(E:Env P)(F:f9)(s:AS)(av:List Nat)(f:FuncId)(xs:List AV):CR:=match E.orc f with
  |some g=>match AV.nms xs with
    |k::_=>.need k
    |[]=>match g xs with
      |some e=>match afe e.f f&&pg xs e.xs with
        |true=>match e.H' with
          |(k,some z)::l=>.ok [] (e.r.pm (tr k (nxt s av))) (fW (tr k (nxt s av)) e.H')
          |_=>.ok [] e.r e.H'
        |false=>vj E F s av f xs
      |none=>vj E F s av f xs
  |none=>vj E F s av f xs
theorem Hn{F:f9}(hF:F.Ok P){s:AS}{av:List Nat}{f:FuncId}{xs:List AV}{H H':Hp}{r:AV}(h:zG F s av f xs=.ok H r H'):Con P f xs H r H'/\∀k z,lk H k=some z->s.blk k=some z:=by
 unfold zG at h;simp only at h;split at h
 ·rename_i h1;cases h;exact⟨hF _ _ _ _ _ _ h1,fun k z hz=>wD hz⟩
 ·cases h
theorem Fc{E:Env P}{F:f9}(hF:F.Ok P){s:AS}{av:List Nat}{f:FuncId}{xs:List AV}{H H':Hp}{r:AV}(h:vj E F s av f xs=.ok H r H'):Con P f xs H r H'/\∀k z,lk H k=some z->s.blk k=some z:=by
 unfold vj at h;split at h
 ·exact Hn hF h
 ·split at h
  ·cases h
  ·exact Hn hF h
theorem wd{E:Env P}{F:f9}(hF:F.Ok P){s:AS}{av:List Nat}{f:FuncId}{xs:List AV}{H H':Hp}{r:AV}(h:qL E F s av f xs=.ok H r H'):Con P f xs H r H'/\∀k z,lk H k=some z->s.blk k=some z:=by
 unfold qL at h;split at h
 ·split at h
  ·cases h
  ·rename_i hn;split at h
   ·rename_i e he;split at h
    ·rename_i hc;simp only[ah7]at hc;have hf:=ah5 hc.1;subst hf;have h9:=Con.subA (M8 hc.2) e.con;split at h
     ·rename_i k z l _;obtain⟨rfl,rfl,rfl⟩:=CR.ok.inj h;exact⟨Xj h9 hn _ _,fun k z hz=>by cases hz⟩
     ·obtain⟨rfl,rfl,rfl⟩:=CR.ok.inj h;exact⟨h9,fun k z hz=>by cases hz⟩
    ·exact Fc hF h
   ·exact Fc hF h
 ·exact Fc hF h
theorem XS{s:AS}{R:Array Oper}{d q sz cap0:Nat}{a0:Option Addr}{xs:List AV}{x y:ajp}{T E t:ajr}{ti te:TI}{pos:String}{after:Array Edge}
  (hx:Ev s x (.v (.slice a0 0 0))) (hy:Ev s y (.lst sz xs)) (hT:aq P T=some ti) (iy:ti.k=.slice E) (hE:aq P E=some te)
  (aN:te.size=sz) (aZ:(afe te.zero.length te.size&&aek 0 te.size&&aek 0 te.bytes)=true) (hb:(0+xs.length)*te.bytes<=140737488355328) (gQ:afe d q=false)
  (hN:aek d N=true) :
  Step P N R s ⟨some d,.call ⟨.builtin .append,#[x,y],#[T,T]⟩,t,pos,after,none⟩
   ⟨some (.ms d sz 0 (0+xs.length)),[(d,some (.row sz ([]++xs))),(q,none)],ai x++ai y,[]⟩:=by
 refine⟨fun s' am bm C m a w Q next hC hr hnext=>?_⟩
 have hq:s'.Fresh q:=by
  rcases bm q (by simp)with h |h
  ·cases h
  ·exact h
 have hd:s'.Fresh d:=by
  rcases bm d (by simp)with h |h
  ·cases h
  ·exact h
 have hdq:=aes gQ;have hx':=hx.agree am (fun _ h=>aia.2 (.inl h));have hy':=hy.agree am (fun _ h=>aia.2 (.inr h))
 let s2:AS:=⟨s'.sl,(q,some (.row sz []))::s'.hp⟩
 have evs:∀{o:ajp}{z:AV},Ev s' o z->Ev s2 o z:=fun h=>by
  cases h with
  |tmp h=>exact .tmp h
  |opt h hb=>exact .opt h hb
  |const c=>exact .const c
  |func f=>exact .func f
 have st:=J0 (P:=P) (N:=N) (R:=R) (s:=s2) (d:=d) (k:=q) (t:=t) (pos:=pos) (after:=after) (es:=[]) (evs hx') (fun g S m v h=>Sub.nM a0 q sz g S m v h) (by simp[s2,AS.blk,aA]) rfl (evs hy') hT iy hE aN aZ hb gQ hN;refine st.run s2 ⟨fun _ _=>rfl,fun _ _=>rfl⟩ ?_ C _ a w Q next hC (hr.virt sz hq) (fun m' a' w' hr'=>hnext m' a' w' ?_)
 ·intro k hk;simp only[ajd,List.map_nil,aiq,aim,or_false]at hk;rcases hk with rfl |rfl
  ·exact .inr (Fresh.row hd hdq (fun h=>h))
  ·exact .inl (by simp)
 ·refine RelM.congr ?_ ?_ hr'
  ·intro t;rfl
  ·intro k;simp only[AS.app,AS.blk,s2,agj,nil_append,aA];split
   ·rfl
   ·split <;> rfl
mutual
def jB:AV->AV->Bool
  | .v a,y=>match y with
    | .v b=>eJ a b
    |_=>false
  | .lst sz es,y=>match y with
    | .lst sz' es'=>afe sz sz'&&kJ es es'
    |_=>false
  | .agg cs,y=>match y with
    | .agg cs'=>kJ cs cs'
    |_=>false
  | .tup cs,y=>match y with
    | .tup cs'=>kJ cs cs'
    |_=>false
  | .iptr cs,y=>match y with
    | .iptr cs'=>kJ cs cs'
    |_=>false
  | .ms k sz off len,y=>match y with
    | .ms k' sz' off' len'=>afe k k'&&(afe sz sz'&&(afe off off'&&afe len len'))
    |_=>false
  | .ptr k off,y=>match y with
    | .ptr k' off'=>afe k k'&&afe off off'
    |_=>false
  | .eptr k sz i off,y=>match y with
    | .eptr k' sz' i' off'=>afe k k'&&(afe sz sz'&&(afe i i'&&afe off off'))
    |_=>false
  | .fn f cs,y=>match y with
    | .fn f' cs'=>afe f f'&&kJ cs cs'
    |_=>false
  | .opt _ _,_=>false
  | .yl _,_=>false
  | .cl _ _ _,_=>false
def kJ:List AV->List AV->Bool
  |[],y=>match y with
    |[]=>true
    |_=>false
  |x::l,y=>match y with
    |x'::l'=>jB x x'&&kJ l l'
    |[]=>false
end
mutual
theorem Ym:∀(x y:AV),jB x y=true->x=y
 | .v a,y,h=>by cases y <;> simp[jB]at h;rw[zc _ _ h]
 | .lst sz es,y,h=>by
  cases y <;> simp only[jB,ah7,ahi]at h
  rw[ah5 h.1,pI _ _ h.2]
 | .agg cs,y,h=>by cases y <;> simp only[jB,ahi]at h;rw[pI _ _ h]
 | .tup cs,y,h=>by cases y <;> simp only[jB,ahi]at h;rw[pI _ _ h]
 | .iptr cs,y,h=>by cases y <;> simp only[jB,ahi]at h;rw[pI _ _ h]
 | .ms k sz off len,y,h=>by
  cases y <;> simp only[jB,ah7,ahi]at h
  rw[ah5 h.1,ah5 h.2.1,ah5 h.2.2.1,ah5 h.2.2.2]
 | .ptr k off,y,h=>by
  cases y <;> simp only[jB,ah7,ahi]at h
  rw[ah5 h.1,ah5 h.2]
 | .eptr k sz i off,y,h=>by
  cases y <;> simp only[jB,ah7,ahi]at h
  rw[ah5 h.1,ah5 h.2.1,ah5 h.2.2.1,ah5 h.2.2.2]
 | .fn f cs,y,h=>by
  cases y <;> simp only[jB,ah7,ahi]at h
  rw[ah5 h.1,pI _ _ h.2]
 | .opt ..,y,h=>by simp[jB]at h
 | .yl ..,y,h=>by simp[jB]at h
 | .cl ..,y,h=>by simp[jB]at h
theorem pI:∀(l l':List AV),kJ l l'=true->l=l'
 |[],[],h=>rfl
 |[],_::_,h=>by simp[kJ]at h
 |_::_,[],h=>by simp[kJ]at h
 |x::l,x'::l',h=>by
  simp only[kJ,ah7]at h;rw[Ym x x' h.1,pI l l' h.2]
end
def Cu:Blk->Blk->Bool
  | .box cs,.box cs'=>kJ cs cs'
  | .row sz es,.row sz' es'=>afe sz sz'&&kJ es es'
  |_,_=>false
theorem QL{x y:Blk}(h:Cu x y=true):x=y:=by
 cases x <;> cases y <;> simp only[Cu,ahi]at h
 ·rw[pI _ _ h]
 ·simp only[ah7]at h;rw[ah5 h.1,pI _ _ h.2]
theorem m8{k:Nat}:∀{l:List Nat},jV k l=true↔k∈l
 |[]=>by simp[jV]
 |x::l=>by
  unfold jV;split
  ·rename_i h;simp[ah5 h]
  ·rename_i h;rw[m8 (l:=l)];simp[aes h]
def fR(H:Hp):List Nat->Hp->Hp
  |_,[]=>[]
  |seen,(k,x)::l=>match jV k seen with
    |true=>fR H seen l
    |false=>match x with
      |some z=>match lk H k with
        |some y=>match Cu y z with
          |true=>fR H (k::seen) l
          |false=>(k,some z)::fR H (k::seen) l
        |none=>(k,some z)::fR H (k::seen) l
      |none=>(k,none)::fR H (k::seen) l
theorem C3{H R:Hp}(hR:∀t y,lk H t=some y->lk R t=some y):∀{l:Hp}{seen:List Nat}{t:Nat},t∉seen->lk (fR H seen l++R) t=if t∈l.map (·.1)then lk l t else lk R t
 |[],seen,t,h=>by simp[fR]
 |(k,x)::l,seen,t,h=>by
  have rest:t≠k->lk (fR H (k::seen) l++R) t=if t∈((k,x)::l).map (·.1)then lk ((k,x)::l) t else lk R t:=by
   intro aF;rw[C3 hR (fun hh=>by rcases aiq.1 hh with e |e;exact aF e;exact h e)];simp only[ajd,aiq,aF,false_or];rw[aA,ajf aF]
  have head:lk ((k,x)::(fR H (k::seen) l++R)) t=if t∈((k,x)::l).map (·.1)then lk ((k,x)::l) t else lk R t:=by
   rw[aA]
   by_cases e:t=k
   ·rw[ajg e,aA,ajg e];simp[e]
   ·rw[ajf e,rest e]
  unfold fR;split
  ·rename_i hm;have aF:t ≠ k:=fun e=>h (by rw [e]; exact m8.1 hm)
   rw[C3 hR h];simp only[ajd,aiq,aF,false_or];rw[aA,ajf aF]
  ·split
   ·rename_i z;split
    ·rename_i y hy;split
     ·rename_i he
      by_cases e:t=k
      ·rw[chg_none (by rw[e];exact ai2 ..),e,hR k y hy,QL he];simp[aA]
      ·exact rest e
     ·exact head
    ·exact head
   ·exact head
where
 chg_none {H R:Hp}:∀{l:Hp}{seen:List Nat}{t:Nat},t∈seen->lk (fR H seen l++R) t=lk R t
  |[],seen,t,h=>rfl
  |(k,x)::l,seen,t,h=>by
   unfold fR;split
   ·exact chg_none h
   ·rename_i hm;have aF:t ≠ k:=fun e=>by rw [e] at h; rw [m8.2 h] at hm; cases hm
    have ih:=chg_none (H:=H) (R:=R) (l:=l) (ait k h);split
    ·split
     ·split
      ·exact ih
      ·show lk (_::(_++R)) t=_;rw[aA,ajf aF];exact ih
     ·show lk (_::(_++R)) t=_;rw[aA,ajf aF];exact ih
    ·show lk (_::(_++R)) t=_;rw[aA,ajf aF];exact ih
theorem C5{H:Hp}:∀{l:Hp}{seen:List Nat}{k:Nat},k∈l.map (·.1)->k∉seen->k∈(fR H seen l).map (·.1)\/∃y,lk H k=some y
 |[],seen,k,h,_=>by simp at h
 |(k',x)::l,seen,k,h,hs=>by
  unfold fR
  by_cases e:k=k'
  ·subst e
   have hm:jV k seen=false:=by
    cases hq:jV k seen with
    |true=>exact ajm (m8.1 hq) hs
    |false=>rfl
   simp only[hm];split
   ·split
    ·rename_i y hy;split
     ·exact .inr ⟨y,hy⟩
     ·exact .inl (by simp)
    ·exact .inl (by simp)
   ·exact .inl (by simp)
  ·have h' : k ∈ l.map (·.1) := by simpa [e] using h
   have hs':k∉k'::seen:=fun hh=>by rcases aiq.1 hh with e' |e';exact e e';exact hs e'
   have ih1:=C5 (H:=H) h' hs;have ih2:=C5 (H:=H) h' hs';split
   ·exact ih1
   ·split
    ·split
     ·split
      ·exact ih2
      ·rcases ih2 with h |h
       ·exact .inl (ait _ h)
       ·exact .inr h
     ·rcases ih2 with h |h
      ·exact .inl (ait _ h)
      ·exact .inr h
    ·rcases ih2 with h |h
     ·exact .inl (ait _ h)
     ·exact .inr h
theorem uW{R:Array Oper}{s:AS}{o:Oper}{x:Option AV}{H U:Hp}{rt:List Nat}(hH:∀k z,lk H k=some z->s.blk k=some z)(h:Step P N R s o ⟨x,U,rt,H.map (·.1)⟩) :
  Step P N R s o ⟨x,fR H [] U,rt,H.map (·.1)⟩:=by
 refine⟨fun s' am bm C m a w Q next hC hr hnext=>?_⟩;have hH':∀k z,lk H k=some z->lk s'.hp k=some z:=fun k z hz=>(am.2 k (jW hz)).trans (hH k z hz)
 refine h.run s' am (fun k hk=>?_) C m a w Q next hC hr (fun m' a' w' hr'=>hnext m' a' w' ?_)
 ·rcases C5 (H := H) hk (seen := []) (by simp) with h1 | ⟨y, hy⟩
  ·exact bm k h1
  ·exact .inl (jW hy)
 ·refine RelM.congr (s:=s'.app o.dst ⟨x,U,rt,H.map (·.1)⟩) (fun t=>rfl) (fun k=>?_) hr';simp only[AS.blk,AS.app];rw[C3 hH' (by simp),ky]
variable[Inhabited (Tys P)]
def BM(P:ajs)[Inhabited (Tys P)](s:AS)(d:Nat)(x y:ajp)(T:ajr):OR:=match cJ s y with
  |some (.lst sz xs)=>match bS P T with
    |some ti=>match ti.k with
      | .slice E=>match bS P E with
        |some te=>match afe te.size sz&&(afe te.zero.length te.size&&aek 0 te.size&&aek 0 te.bytes)with
          |true=>match cJ s x with
            |some (.ms k sz' off len)=>match s.blk k with
              |some (.row sz2 es)=>match afe sz' sz&&afe off 0&&afe sz2 sz&&afe len es.length&&Nat.ble ((len+xs.length)*te.bytes) 140737488355328 with
                |true=>match afe d k with
                  |true=>.no
                  |false=>match iJ (es++xs)with
                    |some l=>wN (len+xs.length) fun n=>.ok ⟨some (.ms d sz 0 n),[(d,some (.row sz l)),(k,none)],ai x++ai y,[k]⟩
                    |none=>.no
                |false=>.no
              |_=>.no
            |some (.v (.slice a0 0 0))=>match Nat.ble ((0+xs.length)*te.bytes) 140737488355328 with
              |true=>match afe d 299 with
                |true=>.no
                |false=>match iJ ([]++xs)with
                  |some l=>wN (0+xs.length) fun n=>.ok ⟨some (.ms d sz 0 n),[(d,some (.row sz l)),(299,none)],ai x++ai y,[]⟩
                  |none=>.no
              |false=>.no
            |_=>.no
          |false=>.no
        |none=>.no
      |_=>.no
    |none=>.no
  |some (.ms k _ _ _)=>.need k
  |_=>.no
theorem Sj{s:AS}{R:Array Oper}{d:Nat}{x y:ajp}{T t:ajr}{u:Out}{pos:String}{after:Array Edge}(h:BM P s d x y T=.ok u)(hN:aek d N=true) :
  Step P N R s ⟨some d,.call ⟨.builtin .append,#[x,y],#[T,T]⟩,t,pos,after,none⟩ u:=by
 unfold BM at h;split at h
 ·rename_i sz xs hy;split at h
  ·rename_i ti hT;split at h
   ·rename_i E hk;split at h
    ·rename_i te hE;split at h
     ·rename_i hc;simp only [ah7] at hc;have aN:=ah5 hc.1;have aZ:(afe te.zero.length te.size && aek 0 te.size && aek 0 te.bytes) = true:=by simp only [ah7]; exact hc.2
      split at h
      ·rename_i k sz' off len hx;split at h
       ·rename_i sz2 es hb;split at h
        ·rename_i hg;simp only[ah7,ae0]at hg;obtain⟨⟨⟨⟨g1,g2⟩,g3⟩,g4⟩,g5⟩:=hg;cases ah5 g1;cases ah5 g2;cases ah5 g3;split at h
         ·cases h
         ·rename_i gQ;split at h
          ·rename_i l hl;cases jH hl;rw[oY]at h;cases h
           exact dX (bj hx) hb (ah5 g4) (bj hy) (bA hT) hk (bA hE) aN aZ g5 gQ hN
          ·cases h
        ·cases h
       ·cases h
      ·rename_i a0 hx;split at h
       ·rename_i g5;rw[ae0]at g5;split at h
        ·cases h
        ·rename_i gQ;split at h
         ·rename_i l hl;cases jH hl;rw[oY]at h;cases h
          exact XS (cap0:=0) (bj hx) (bj hy) (bA hT) hk (bA hE) aN aZ g5 gQ hN
         ·cases h
       ·cases h
      ·cases h
     ·cases h
    ·cases h
   ·cases h
  ·cases h
 ·cases h
 ·cases h
def Ff(P:ajs)[Inhabited (Tys P)](s:AS)(T:ajr)(x y:ajp):OR:=match cJ s x with
  |some (.eptr k sz i off)=>match cJ s y with
    |some v=>match v.nm with
      |k'::_=>.need k'
      |[]=>match s.blk k with
        |some (.row sz' es)=>match es[i]? with
          |some e=>match bS P T with
            |some ti=>match afe sz sz'&&v.ok&&afe v.cells.length ti.size&&Nat.ble (off+ti.size) e.cells.length with
              |true=>match e with
                | .agg cs=>match iJ (over cs off v.cells)with
                  |some l=>match iJ (es.set i (.agg l))with
                    |some es'=>.ok ⟨none,[(k,some (.row sz es'))],ai x++ai y,[k]⟩
                    |none=>.no
                  |none=>.no
                |e=>match afe off 0&&afe v.cells.length 1 with
                  |true=>match iJ (es.set i v)with
                    |some es'=>.ok ⟨none,[(k,some (.row sz es'))],ai x++ai y,[k]⟩
                    |none=>.no
                  |false=>.no
              |false=>.no
            |none=>.no
          |none=>.no
        |_=>.no
    |none=>.no
  |_=>.no
theorem SJ{e:AV}(h:∀cs,e≠.agg cs):e.cells=[e]:=by
 cases e <;> first |rfl |exact ajm rfl (h _)
theorem Z3{s:AS}{R:Array Oper}{x y:ajp}{T t:ajr}{u:Out}{pos:String}{after:Array Edge}(h:Ff P s T x y=.ok u) :
  Step P N R s ⟨none,.store T x y,t,pos,after,none⟩ u:=by
 unfold Ff at h;split at h
 ·rename_i k sz i off hx;split at h
  ·rename_i v hy;split at h
   ·cases h
   ·rename_i hnm;split at h
    ·rename_i sz' es hb;split at h
     ·rename_i e he;split at h
      ·rename_i ti hT;split at h
       ·rename_i hc;simp only[ah7]at hc;obtain⟨⟨⟨c1,c2⟩,c3⟩,c4⟩:=hc;cases ah5 c1;split at h
        ·rename_i cs;split at h
         ·rename_i l hl;split at h
          ·rename_i es' fg;cases h;cases jH hl;cases jH fg;exact FL (bj hx) hb he (bj hy) c2 hnm (bA hT) c3 c4 rfl
          ·cases h
         ·cases h
        ·rename_i aF;split at h
         ·rename_i hg;simp only[ah7]at hg;split at h
          ·rename_i es' fg;cases h;cases jH fg;cases ah5 hg.1;refine FL (bj hx) hb he (bj hy) c2 hnm (bA hT) c3 c4 ?_;rw[SJ aF];have:=ah5 hg.2;simp[over,this]
          ·cases h
         ·cases h
       ·cases h
      ·cases h
     ·cases h
    ·cases h
  ·cases h
 ·cases h
def CD(P:ajs)[Inhabited (Tys P)](d:Nat)(T:ajr)(n:Int)(rt:List Nat):OR:=match bS P T with
  |some ti=>match ti.k with
    | .slice E=>match bS P E with
      |some te=>match te.zero.all Value.oneCell'&&(afe te.zero.length te.size&&aek 0 te.size&&aek 0 te.bytes&&(te.ag||afe te.size 1))with
        |true=>match n with
          | .ofNat n=>match Nat.ble (n*te.bytes) 281474976710656 with
            |true=>match iJ (afv n (kc te.ag (te.zero.map .v)))with
              |some l=>.ok ⟨some (.ms d te.size 0 n),[(d,some (.row te.size l))],rt,[]⟩
              |none=>.no
            |false=>.no
          | .negSucc _=>.no
        |false=>.no
      |none=>.no
    |_=>.no
  |none=>.no
theorem Ug{s:AS}{R:Array Oper}{d:Nat}{x:ajp}{T t:ajr}{n:Int}{u:Out}{pos:String}{after:Array Edge}(hx:Ev s x (.v (.int .i64 n)))(h:CD P d T n (ai x)=.ok u)(hN:aek d N=true) :
  Step P N R s ⟨some d,.makeSlice T x x,t,pos,after,none⟩ u:=by
 unfold CD at h;split at h
 ·rename_i ti hT;split at h
  ·rename_i E hk;split at h
   ·rename_i te hE;split at h
    ·rename_i hc;rw[ah7]at hc;split at h
     ·rename_i n;split at h
      ·rename_i hb;rw[ae0]at hb;split at h
       ·rename_i l hl;cases h;cases jH hl;exact f6 (n:=Int.ofNat n) hx (bA hT) hk (bA hE) hc.1 hc.2 (agq _) (by simp only[agt];omega) hN
       ·cases h
      ·cases h
     ·cases h
    ·cases h
   ·cases h
  ·cases h
 ·cases h
theorem XL{P:ajs}{N:Nat}{s:AS}{R:Array Oper}{d f:Nat}{g:ajp}{args:Array ajp}{ts:Array ajr}{xs:List AV}{H H':Hp}{r:AV}{t:ajr}{pos:String}{after:Array Edge}
  (hg:Ev s g (.v (.func (.func f) #[] #[]))) (cG:Con P f xs H r H') (ha:EvL s args.toList xs) (hH:∀k z,lk H k=some z->s.blk k=some z) (bc:fU s H H' r=true) (hN:aek d N=true) :
  Step P N R s ⟨some d,.call ⟨.value g,args,ts⟩,t,pos,after,none⟩ ⟨some r,H'++cz H,ai g++cA args.toList,H.map (·.1)⟩ :=
 wF rfl (fun d' h => by cases h; exact ⟨hN, rfl⟩) cG hH bc fun s' am C m a w hr => by
  have jm:gj s s' ⟨none,[],ai g++cA args.toList,[]⟩:=⟨am,fun k hk=>by cases hk⟩
  have ha':=ha.agree jm (fun _ h=>aia.2 (.inr h));have gS:=(hg.agree jm (fun _ h=>aia.2 (.inl h))).rep hr;generalize hv:a.eval g=u at gS;cases gS;refine⟨args.map a.eval,LH (caps:=#[]) rfl hv cG.ok (by simp),?_,?_⟩
  ·have:=ha'.length;simpa using this
  ·intro j v x hv hx;exact ha'.rep hr j v x (by simpa using hv) hx
def FC:ajp->ajp->Bool
  | .tmp a,.tmp b=>afe a b
  | .const (.int k a),.const (.int k' b)=>afe (d7 k) (d7 k')&&aa .eql a b
  |_,_=>false
theorem Wy{x y:ajp}(h:FC x y=true):y=x:=by
 unfold FC at h;split at h
 ·rw[ah5 h]
 ·rename_i k a k' b;simp only[ah7]at h;rw[nE h.1,eq_of_beq (show(a==b)=true from h.2)]
 ·cases h
def Dh(P:ajs)[Inhabited (Tys P)](s:AS)(d:Nat)(T n:Nat)(parts:Array (Nat×ajp)):Option Out:=match bS P T with
  |some ti=>match ti.k with
    | .slice E=>match bS P E with
      |some te=>match te.k with
        | .slice _=>match rJ s (parts.toList.map (·.2))with
          |some es=>match wS 0 parts.toList&&te.zero.all Value.oneCell'&&afe te.zero.length te.size&&(es.all fun e=>afe e.cells.length te.size&&e.ok) &&
              Ap (AV.nms es)&&afe n es.length&&Nat.ble (n*te.size) 16777216&&Nat.ble n 16777216 with
            |true=>some ⟨some (.ms d te.size 0 n),[(d,some (.row te.size es))],cA (parts.toList.map (·.2)),[]⟩
            |false=>none
          |none=>none
        |_=>none
      |none=>none
    |_=>none
  |none=>none
theorem Wi{P:ajs}[Inhabited (Tys P)]{N:Nat}{s:AS}{R:Array Oper}{d T n:Nat}{parts:Array (Nat×ajp)}{u:Out}{t:ajr}{pos:String}{after:Array Edge}(h:Dh P s d T n parts=some u)(hN:aek d N=true) :
  Step P N R s ⟨some d,.buildSlice T n parts,t,pos,after,none⟩ u:=by
 unfold Dh at h;split at h
 ·rename_i ti bR;split at h
  ·rename_i E hk;split at h
   ·rename_i te xF;split at h
    ·split at h
     ·rename_i es h1;split at h
      ·rename_i hc;cases h;simp only[ah7]at hc;obtain⟨⟨⟨⟨⟨⟨⟨c1,c2⟩,c3⟩,c4⟩,c5⟩,c6⟩,c7⟩,c8⟩:=hc;exact V0 (by rw[<- BP c1]) (q7 h1) (bA bR) hk (bA xF) c2 c3 (by simpa only[ah7]using c4) (Ig c5) (ah5 c6) c7 c8 hN
      ·cases h
     ·cases h
    ·cases h
   ·cases h
  ·cases h
 ·cases h
def yB(E:Env P)(F:f9)(av:List Nat)(s:AS)(d:Nat)(op:Op):OR:=match op with
  | .call c=>match c with
    |⟨.value g,args,ts⟩=>match rJ s args.toList with
      |some xs=>match g with
        | .func f=>match qL E F s av f xs with
          | .ok H r H'=>match fU s H H' r with
            |true=>.ok ⟨some r,fR H [] (H'++cz H),cA args.toList,H.map (·.1)⟩
            |false=>.no
          | .need k=>.need k
          | .no=>.no
        |g=>match cJ s g with
          |some (.fn f caps)=>match qL E F s av f (xs++caps)with
            | .ok H r H'=>match fU s H H' r with
              |true=>.ok ⟨some r,fR H [] (H'++cz H),ai g++cA args.toList,H.map (·.1)⟩
              |false=>.no
            | .need k=>.need k
            | .no=>.no
          |some (.v (.func (.func f) ⟨[]⟩ ⟨[]⟩))=>match qL E F s av f xs with
            | .ok H r H'=>match fU s H H' r with
              |true=>.ok ⟨some r,fR H [] (H'++cz H),ai g++cA args.toList,H.map (·.1)⟩
              |false=>.no
            | .need k=>.need k
            | .no=>.no
          |some (.cl f pre caps)=>match qL E F s av f (pre++xs++caps)with
            | .ok H r H'=>match fU s H H' r with
              |true=>.ok ⟨some r,fR H [] (H'++cz H),ai g++cA args.toList,H.map (·.1)⟩
              |false=>.no
            | .need k=>.need k
            | .no=>.no
          |_=>.no
      |none=>.no
    |⟨.builtin .append,args,ts⟩=>match args.toList with
      |[x,y]=>match ts.toList with
        |[T,T']=>match afe T T' with
          |true=>BM P s d x y T
          |false=>.no
        |_=>.no
      |_=>.no
    |c=>match xc P s (.call c)with
      |some r=>.ok ⟨some r.x,[],r.rt,r.rd⟩
      |none=>.no
  | .makeSlice T x y=>match FC x y with
    |true=>match cJ s x with
      |some (.v (.int .i64 n))=>CD P d T n (ai x)
      |_=>.no
    |false=>.no
  | .slice T x none (some (.const (.int k1 (.ofNat 0)))) (some (.const (.int k2 (.ofNat 0))))=>match cJ s x with
    |some (.lst sz es)=>match rr P T sz with
      |true=>.ok ⟨some (.ms d sz 0 0),[(d,some (.row sz []))],ai x,[]⟩
      |false=>.no
    |_=>.no
  | .buildSlice T n parts=>match n with
    |0=>match parts.toList with
      |[]=>match bS P T with
        |some ti=>match ti.k with
          | .slice E=>match bS P E with
            |some te=>match te.zero.all Value.oneCell'&&afe te.zero.length te.size with
              |true=>.ok ⟨some (.ms d te.size 0 0),[(d,some (.row te.size []))],[],[]⟩
              |false=>.no
            |none=>.no
          |_=>.no
        |none=>.no
      |_=>.no
    |n+1=>match Dh P s d T (n+1) parts with
     |some u=>.ok u
     |none=>match xc P s (.buildSlice T (n+1) parts)with
      |some r=>.ok ⟨some r.x,[],r.rt,r.rd⟩
      |none=>match rJ s (parts.toList.map (·.2))with
        |some xs=>match AV.nms xs with
          |k::_=>.need k
          |[]=>.no
        |none=>.no
  |op=>match xc P s op with
    |some r=>.ok ⟨some r.x,[],r.rt,r.rd⟩
    |none=>match z6 P s d op with
      |some r=>match r.2 with
        |[]=>.ok r.1
        |_=>.no
      |none=>.no
theorem Oy{E:Env P}{F:f9}(hF:F.Ok P){av:List Nat}{s:AS}{R:Array Oper}{d:Nat}{op:Op}{u:Out}{t:ajr}{pos:String}{after:Array Edge}(h:yB E F av s d op=.ok u)(hN:aek d N=true) :
  Step P N R s ⟨some d,op,t,pos,after,none⟩ u:=by
 unfold yB at h;split at h
 ·split at h
  ·rename_i g args ts;split at h
   ·rename_i xs jP;split at h
    ·rename_i f;split at h
     ·rename_i H r H' hc;split at h
      ·rename_i bc;cases h;obtain⟨h1,h2⟩:=wd hF hc;exact uW h2 (br h1 (q7 jP) h2 bc hN)
      ·cases h
     ·cases h
     ·cases h
    ·split at h
     ·rename_i f caps hg;split at h
      ·rename_i H r H' hc;split at h
       ·rename_i bc;cases h;obtain⟨h1,h2⟩:=wd hF hc;exact uW h2 (Uk (bj hg) h1 (q7 jP) h2 bc hN)
       ·cases h
      ·cases h
      ·cases h
     ·rename_i f hg;split at h
      ·rename_i H r H' hc;split at h
       ·rename_i bc;cases h;obtain⟨h1,h2⟩:=wd hF hc;exact uW h2 (XL (bj hg) h1 (q7 jP) h2 bc hN)
       ·cases h
      ·cases h
      ·cases h
     ·rename_i f pre caps hg;split at h
      ·rename_i H r H' hc;split at h
       ·rename_i bc;cases h;obtain⟨h1,h2⟩:=wd hF hc;exact uW h2 (NQ (bj hg) h1 (q7 jP) h2 bc hN)
       ·cases h
      ·cases h
      ·cases h
     ·cases h
   ·cases h
  ·rename_i args ts;split at h
   ·rename_i x y hx;split at h
    ·rename_i T T' hT;split at h
     ·rename_i hTT;cases ah5 hTT;have e1:args = #[x,y]:=by apply ahl.1; simpa using hx
      have e2:ts=#[T,T]:=by apply ahl.1;simpa using hT
      subst e1;subst e2
      exact Sj h hN
     ·cases h
    ·cases h
   ·cases h
  ·split at h
   ·rename_i h1;cases h;exact D4 h1 hN
   ·cases h
 ·split at h
  ·rename_i he;cases Wy he;split at h
   ·rename_i hx;exact Ug (bj hx) h hN
   ·cases h
  ·cases h
 ·split at h
  ·rename_i hx;split at h
   ·rename_i hs;obtain⟨ti,E,te,h1,h2,h3,h4⟩:=vq hs;cases h;exact acn (bj hx) h1 h2 h3 h4 hN
   ·cases h
  ·cases h
 ·rename_i T n parts;split at h
  ·split at h
   ·rename_i hp;have:parts = #[]:=by apply ahl.1; simpa using hp
    subst this;split at h
    ·rename_i ti hT;split at h
     ·rename_i E hk;split at h
      ·rename_i te hE;split at h
       ·rename_i hc;rw[ah7]at hc;cases h;exact qT (bA hT) hk (bA hE) hc.1 hc.2 hN
       ·cases h
      ·cases h
     ·cases h
    ·cases h
   ·cases h
  ·split at h
   ·rename_i h1;cases h;exact Wi h1 hN
   ·split at h
    ·rename_i h1;cases h;exact D4 h1 hN
    ·split at h
     ·split at h <;> cases h
     ·cases h
 ·split at h
  ·rename_i h1;cases h;exact D4 h1 hN
  ·split at h
   ·rename_i h1;split at h
    ·rename_i ho;cases h;exact KQ h1 (by rw[ho];exact .nil) hN
    ·cases h
   ·cases h
def CM(E:Env P)(F:f9)(av:List Nat)(s:AS)(op:Op):OR:=match op with
  | .call c=>match c with
    |⟨.value (.func f),args,ts⟩=>match rJ s args.toList with
      |some xs=>match qL E F s av f xs with
        | .ok H r H'=>match fU s H H' r with
          |true=>.ok ⟨none,fR H [] (H'++cz H),cA args.toList,H.map (·.1)⟩
          |false=>.no
        | .need k=>.need k
        | .no=>.no
      |none=>.no
    |_=>.no
  | .store T x y=>match yK P s (.store T x y)with
    |some r=>match r.2 with
      |[]=>.ok r.1
      |_=>.no
    |none=>Ff P s T x y
  |_=>.no
theorem Rs{E:Env P}{F:f9}(hF:F.Ok P){av:List Nat}{s:AS}{R:Array Oper}{op:Op}{u:Out}{t:ajr}{pos:String}{after:Array Edge}(h:CM E F av s op=.ok u) :
  Step P N R s ⟨none,op,t,pos,after,none⟩ u:=by
 unfold CM at h;split at h
 ·split at h
  ·rename_i f args ts;split at h
   ·rename_i xs jP;split at h
    ·rename_i H r H' hc;split at h
     ·rename_i bc;cases h;obtain⟨h1,h2⟩:=wd hF hc;exact uW h2 (Qx h1 (q7 jP) h2 bc)
     ·cases h
    ·cases h
    ·cases h
   ·cases h
  ·cases h
 ·split at h
  ·rename_i h1;split at h
   ·rename_i ho;cases h;exact HF h1 (by rw[ho];exact .nil)
   ·cases h
  ·exact Z3 h
 ·cases h
theorem Step.sub{P:ajs}{N:Nat}{R:Array Oper}{s:AS}{o:Oper}{x y:AV}{upd:Hp}{rt rd:List Nat}(h:Step P N R s o ⟨some x,upd,rt,rd⟩)(hs:Sub x y):Step P N R s o ⟨some y,upd,rt,rd⟩:=by
 refine⟨fun s' am bm C m a w Q next hC hr hnext=>h.run s' am bm C m a w Q next hC hr (fun m' a' w' hr'=>hnext m' a' w' ?_)⟩;refine hr'.weak (fun t z hz=>?_) (fun k z hz=>⟨z,hz,.refl _⟩);rw[gy]at hz;split at hz
 ·rename_i ht;cases hz;exact⟨x,by rw[gy,ajg ht],hs⟩
 ·rename_i ht;exact⟨z,by rw[gy,ajf ht];exact hz,.refl _⟩
theorem Sub.opt_true(x:AV):Sub (.opt true x) x:=fun g S m v h=>by cases h with |opt h _=>exact h rfl
theorem DG(f:AV->AV)(k:Nat):∀l:Hp,(fu f k l).map (·.1)=l.map (·.1)
 |[]=>rfl
 |(k',x)::l=>by simp only[fu,ajd,DG f k l]
theorem QC{P:ajs}{N:Nat}{R:Array Oper}{s:AS}{o:Oper}{d:Nat}{x:AV}{upd:Hp}{rt rd:List Nat}{k sz:Nat}{es:List AV}(hd:o.dst=some d)(hk:lk upd k=some (.row sz es))(xm:k∉rd)
  (h:Step P N R s o ⟨some x,upd,rt,rd⟩):Step P N R s o ⟨some (x.fz k sz es),fu (AV.fz k sz es) k upd,rt,rd⟩:=by
 refine⟨fun s' am bm C m a w Q next hC hr hnext=>?_⟩;have xx:jz s' ⟨some x,upd,rt,rd⟩:=fun k' hk'=>bm k' (by rw[DG];exact hk')
 have hfr:s'.Fresh k:=by
  rcases xx k (jW hk)with h |h
  ·exact ajm h xm
  ·exact h
 refine h.run s' am xx C m a w Q next hC hr (fun m' a' w' hr'=>?_);rw[hd]at hr'
 have cp:(s'.app (some d) ⟨some x,upd,rt,rd⟩).blk k=some (.row sz es):=by
  show lk (upd++s'.hp) k=_;rw[ky,ajg (jW hk),hk]
 obtain⟨m2,ek⟩:=Wk.freeze cp C m' a' w' hr';refine hnext m2 a' w' ?_;rw[hd];refine ek.congr ?_ ?_
 ·intro t;simp only[AS.get,ry,AS.app,aA];split
  ·rfl
  ·cases hx:lk s'.sl t with
   |none=>rfl
   |some y=>simp only[ah1];rw[AV.fz_id _ _ _ _ (hfr.2.2.1 t y hx)]
 ·intro k';simp only[AS.blk,AS.app];rw[mn,ky,ky,DG,mn]
  by_cases h1:k'=k
  ·subst h1;rw[ajg rfl,ajg (jW hk),ajg rfl]
  ·rw[ajf h1,ajf h1];split
   ·rfl
   ·cases hx:lk s'.hp k' with
    |none=>rfl
    |some y=>simp only[ah1];rw[KC (hfr.2.2.2 k' y hx)]
def rg:List Nat->Out->Out
  |[],u=>u
  |k::ks,u=>match u.val with
    |some x=>match lk u.upd k with
      |some (.row sz es)=>match jV k u.rd with
        |false=>rg ks ⟨some (x.fz k sz es),fu (AV.fz k sz es) k u.upd,u.rt,u.rd⟩
        |true=>rg ks u
      |_=>rg ks u
    |none=>u
theorem u7{P:ajs}{N:Nat}{R:Array Oper}{s:AS}{o:Oper}{d:Nat}(hd:o.dst=some d):∀{ks:List Nat}{u:Out},Step P N R s o u->Step P N R s o (rg ks u)
 |[],u,h=>h
 |k::ks,u,h=>by
  unfold rg;split
  ·rename_i x hx;split
   ·rename_i sz es hk;split
    ·rename_i hm;refine u7 hd ?_;obtain⟨val,upd,rt,rd⟩:=u;simp only at hx hk hm;subst hx;exact QC hd hk (fun hh=>by rw[m8.2 hh]at hm;cases hm) h
    ·exact u7 hd h
   ·exact u7 hd h
  ·exact h
def BX(E:Env P)(F:f9)(av fz:List Nat)(N:Nat)(R:List Oper)(s:AS)(o:Oper):OR:=match o.guard with
  |none=>match o.dst with
    |some d=>match aek d N with
      |true=>match yB E F av s d o.op with
        | .ok u=>.ok (rg fz u)
        |r=>r
      |false=>.no
    |none=>CM E F av s o.op
  |some (j,want)=>match R[j]? with
    |some og=>match og.dst with
      |some g=>match o.dst with
        |some d=>match aek d N with
          |true=>match s.get g with
            |some (.v (.bool b))=>match b==want with
              |true=>match yB E F av s d o.op with
                | .ok u=>match(rg fz u)with
                  |⟨some x,upd,rt,rd⟩=>.ok ⟨some x,upd,g::rt,rd⟩
                  |⟨none,_,_,_⟩=>.no
                |r=>r
              |false=>.ok ⟨some (.opt false (.v (.bool false))),[],[g],[]⟩
            |some (.opt false (.v (.bool b)))=>.ok ⟨some (.opt false (.v (.bool false))),[],[g],[]⟩
            |_=>.no
          |false=>.no
        |none=>.no
      |none=>.no
    |none=>.no
theorem Us{E:Env P}{F:f9}(hF:F.Ok P){av fz:List Nat}{R:List Oper}{s:AS}{o:Oper}{u:Out}(h:BX E F av fz N R s o=.ok u):Step P N R.toArray s o u:=by
 obtain⟨dst,op,ty,pos,after,guard⟩:=o;unfold BX at h;simp only at h;split at h
 ·split at h
  ·split at h
   ·rename_i hN;split at h
    ·rename_i u' h1;cases h;exact u7 rfl (Oy hF h1 hN)
    ·rename_i iw;exact ajm h (iw u)
   ·cases h
  ·exact Rs hF h
 ·rename_i j want;split at h
  ·rename_i og p7;split at h
   ·rename_i g hg;split at h
    ·rename_i d;split at h
     ·rename_i hN;have hj:(R.toArray[j]?).bind (·.dst) = some g:=by simp [p7,hg]
      split at h
      ·rename_i b hb;split at h
       ·rename_i hw;split at h
        ·rename_i u' h1;have hs:=u7 (ks:=fz) rfl (Oy (R:=R.toArray) (t:=ty) (pos:=pos) (after:=after) hF h1 hN);split at h
         ·rename_i x upd rt rd hx;cases h;rw[hx]at hs;have h2:=LP (want:=want) hj hb hN (fun aF=>ajm (eq_of_beq hw) aF) (fun _=>hs);rw[hw]at h2;exact h2.sub (.opt_true x)
         ·cases h
        ·rename_i iw;exact ajm h (iw u)
       ·rename_i hw;cases h;have h2:=fX (P:=P) (op:=op) (t:=ty) (pos:=pos) (after:=after) (want:=want) (x:=.v (.bool false)) (rt:=[]) (rd:=[]) hj hb hN (fun e=>by rw[e]at hw;simp at hw);rw[hw]at h2;exact h2
      ·rename_i b hb;cases h;exact rq (P:=P) (op:=op) (t:=ty) (pos:=pos) (after:=after) (want:=want) (x:=.v (.bool false)) (rt:=[]) (rd:=[]) hj hb hN (fun e=>by cases e)
      ·cases h
     ·cases h
    ·cases h
   ·cases h
  ·cases h
end Go.Lw
namespace Go.Lw
variable{P:ajs}{N:Nat}[Inhabited (Tys P)]
theorem SE{P:ajs}{N:Nat}{c:Code}{Q Q':Exit->AS->Prop}{s:AS}(h:bb P N c Q s)(hq:∀e s,Q e s->∃s',Wk s s'/\Q' e s'):bb P N c Q' s :=
 fun C m a w n hN hr=>wpIn_mono (h C m a w n hN hr) fun e _ _ ⟨s',m',hQ,hr'⟩=>by
  obtain⟨s2,hw,hQ'⟩:=hq e s' hQ;obtain⟨m2,ek⟩:=hw C m' _ _ hr';exact⟨s2,m2,hQ',ek⟩
def dd{α:Type}:List Nat->List (Nat×Option α)->List (Nat×Option α)
  |_,[]=>[]
  |seen,(t,x)::l=>match jV t seen with
    |true=>dd seen l
    |false=>match x with
      |some v=>(t,some v)::dd (t::seen) l
      |none=>dd (t::seen) l
theorem w7{α:Type}:∀{l:List (Nat×Option α)}{seen:List Nat}{t:Nat}{x:α},lk (dd seen l) t=some x->t∉seen/\lk l t=some x
 |[],seen,t,x,h=>by cases h
 |(t',y)::l,seen,t,x,h=>by
  unfold dd at h;rw[aA];split at h
  ·rename_i hm;obtain⟨h1,h2⟩:=w7 h;refine⟨h1,?_⟩;rw[ajf (fun(e:t=t')=>h1 (by rw[e];exact m8.1 hm))];exact h2
  ·rename_i hm;have hm':t' ∉ seen:=fun hh=>by rw [m8.2 hh] at hm; cases hm
   split at h
   ·rw[aA]at h;split at h
    ·rename_i e;cases h;subst e;exact⟨hm',by rw[ajg rfl]⟩
    ·rename_i e;obtain⟨h1,h2⟩:=w7 h;rw[ajf e];exact⟨fun hh=>h1 (ait _ hh),h2⟩
   ·obtain ⟨h1, h2⟩:=w7 h;have aF:t ≠ t':=fun e=>h1 (by rw [e]; exact ai2 ..)
    rw[ajf aF];exact⟨fun hh=>h1 (ait _ hh),h2⟩
theorem Cv{s:AS}{sl:bn}{hp:Hp}(h1:∀t x,lk sl t=some x->lk s.sl t=some x)(h2:∀k x,lk hp k=some x->lk s.hp k=some x):Wk s ⟨sl,hp⟩ :=
 fun C m a w hr=>⟨m,hr.weak (fun t x hx=>⟨x,h1 t x hx,.refl _⟩) (fun k x hx=>⟨x,h2 k x hx,.refl _⟩)⟩
def NI(s:AS):AS:=⟨dd [] s.sl,dd [] s.hp⟩
theorem VA(s:AS):Wk s (NI s):=Cv (fun t x h=>(w7 h).2) (fun t x h=>(w7 h).2)
def o9(k:Nat):List Nat->bn->bn
  |_,[]=>[]
  |seen,(t,x)::l=>match jV t seen with
    |true=>o9 k seen l
    |false=>match x with
      |some v=>match jV k v.nm with
        |true=>o9 k (t::seen) l
        |false=>(t,some v)::o9 k (t::seen) l
      |none=>o9 k (t::seen) l
theorem Ah{k:Nat}:∀{l:bn}{seen:List Nat}{t:Nat}{x:AV},lk (o9 k seen l) t=some x->t∉seen/\lk l t=some x
 |[],seen,t,x,h=>by cases h
 |(t',y)::l,seen,t,x,h=>by
  unfold o9 at h;rw[aA]
  have rest:∀{l':bn},lk (o9 k (t'::seen) l) t=some x->t∉seen/\(if t=t' then y else lk l t)=some x:=by
   intro _ h;obtain⟨h1,h2⟩:=Ah h;rw[ajf (fun(e:t=t')=>h1 (by rw[e];exact ai2 ..))];exact⟨fun hh=>h1 (ait _ hh),h2⟩
  split at h
  ·rename_i hm;obtain⟨h1,h2⟩:=Ah h;refine⟨h1,?_⟩;rw[ajf (fun(e:t=t')=>h1 (by rw[e];exact m8.1 hm))];exact h2
  ·rename_i hm;have hm':t' ∉ seen:=fun hh=>by rw [m8.2 hh] at hm; cases hm
   split at h
   ·split at h
    ·exact rest (l':=l) h
    ·rw[aA]at h;split at h
     ·rename_i e;cases h;subst e;exact⟨hm',by rw[ajg rfl]⟩
     ·rename_i e;obtain⟨h1,h2⟩:=Ah h;rw[ajf e];exact⟨fun hh=>h1 (ait _ hh),h2⟩
   ·exact rest (l':=l) h
def Mv(s:AS)(k d:Nat)(y:Blk):AS:=⟨je (AV.rn k d) s.sl,nZ k d y s.hp⟩
def BW(s:AS)(av:List Nat)(d:Nat):Option AS:=match s.freshB d with
  |true=>some s
  |false=>match s.blk d with
    |some y=>match s.freshB (nxt s av)with
      |true=>some (Mv s d (nxt s av) y)
      |false=>none
    |none=>some ⟨o9 d [] s.sl,s.hp⟩
theorem Ya{s s':AS}{av:List Nat}{d:Nat}(h:BW s av d=some s'):Wk s s':=by
 unfold BW at h;split at h
 ·cases h;exact .refl _
 ·split at h
  ·rename_i y hy;split at h
   ·rename_i hf;cases h;exact Wk.rk hy hf
   ·cases h
  ·cases h;exact Cv (fun t x h=>(Ah h).2) (fun _ _ h=>h)
def Zw(o:Oper):Option Nat:=match o.dst with
  |some d=>match o.op with
    | .alloc _=>some d
    | .box _ _=>some d
    | .makeSlice _ _ _=>some d
    | .buildSlice _ 0 _=>some d
    | .slice _ _ _ _ (some _)=>some d
    | .call ⟨.builtin .append,_,_⟩=>some d
    |_=>none
  |none=>none
def v5(av:List Nat):List Oper->AS->Option AS
  |[],s=>some s
  |o::os,s=>match Zw o with
    |some d=>match BW s av d with
      |some s'=>v5 av os s'
      |none=>none
    |none=>v5 av os s
theorem Df{av:List Nat}:∀{os:List Oper}{s s':AS},v5 av os s=some s'->Wk s s'
 |[],s,s',h=>by cases h;exact .refl _
 |o::os,s,s',h=>by
  unfold v5 at h;split at h
  ·split at h
   ·rename_i h1;exact(Ya h1).trans (Df h)
   ·cases h
  ·exact Df h
inductive RR where
  |ok (s:AS) (us:List Out)
  |need (k:Nat)
  |no
def nB{α:Type}:List α->Bool
  |[]=>true
  |_=>false
def AM(E:Env P)(F:f9)(av fz:List Nat)(N:Nat)(R:List Oper):List Oper->AS->List Out->RR
  |[],s,us=>.ok s us
  |o::os,s,us=>match BX E F av fz N R s o with
    | .ok u=>match nB u.upd||EU s u with
      |true=>match s.app o.dst u with
        |⟨sl,hp⟩=>AM E F av fz N R os ⟨sl,hp⟩ (us++[u])
      |false=>.no
    | .need k=>.need k
    | .no=>.no
theorem KB{E:Env P}{F:f9}(hF:F.Ok P){av fz:List Nat}{R:List Oper}:∀{os:List Oper}{s:AS}{us:List Out}{s':AS}{us':List Out},AM E F av fz N R os s us=.ok s' us' ->
  gw P N R.toArray os s us (fun s2 us2=>s2=s'/\us2=us')
 |[],s,us,s',us',h=>by cases h;exact⟨rfl,rfl⟩
 |o::os,s,us,s',us',h=>by
  unfold AM at h;split at h
  ·rename_i u hu;split at h
   ·rename_i hn;refine⟨u,Us hF hu,?_,KB hF h⟩;cases hu':nB u.upd with
    |true =>
     intro k hk;have:u.upd=[]:=by cases hq:u.upd with |nil=>rfl |cons a b=>rw[hq]at hu';cases hu'
     rw[this]at hk;cases hk
    |false=>rw[hu']at hn;exact vW hn
   ·cases h
  ·cases h
  ·cases h
structure Sys where
  code:Nat->Nat->List Nat->Code->AS->Option (Exit×AS)
  fn:Nat->List Nat->FuncId->List AV->Hp->Option (AV×Hp)
def DV(S:Sys)(base:Nat):f9:=fun av f xs H=>match IU base (H.map (·.1))with
  |L=>match S.fn (base+100) av f (tA L xs) (tH L H)with
    |some (r,H')=>some (rB L r,hB L H')
    |none=>none
def N9(e:Exit):Bool:=match e with
  | .normal=>true
  |_=>false
def DD(s:AS)(k:Nat):Option AS:=match s.blk k with
  |some (.row sz es)=>some ⟨je (AV.fz k sz es) s.sl,fu (AV.fz k sz es) k s.hp⟩
  |_=>none
theorem WK{s s':AS}{k:Nat}(h:DD s k=some s'):Wk s s':=by
 unfold DD at h;split at h
 ·rename_i hk;cases h;exact Wk.freeze hk
 ·cases h
def wT(E:Env P)(F:f9)(av:List Nat)(N:Nat)(A:List Oper)(d:Bool):Nat->List Nat->AS->Option AS
  |0,_,_=>none
  |n+1,fz,s0=>match AM E F av fz N A A s0 []with
    | .ok s' us=>match d with
      |false=>some s'
      |true=>match chk A us s0 with
        |true=>some s'
        |false=>none
    | .need k=>match DD s0 k with
      |some ⟨sl,hp⟩=>wT E F av N A d n fz ⟨sl,hp⟩
      |none=>match jV k fz with
        |true=>none
        |false=>wT E F av N A d n (k::fz) s0
    | .no=>none
theorem EH{E:Env P}{F:f9}(hF:F.Ok P){av:List Nat}{id:Nat}{A:Array Oper}{d:Bool}(b7:A.toList.all nd=true):∀{n:Nat}{fz:List Nat}{s s1:AS},wT E F av N A.toList d n fz s=some s1 ->
  bb P N (.region id A d) (fun e' s'=>e'=.normal/\s'=s1) s
 |0,fz,s,s1,h=>by cases h
 |n+1,fz,s,s1,h=>by
  unfold wT at h;split at h
  ·rename_i s' us h1;refine JV (Q:=fun e' s'=>e'=.normal/\s'=s1) (k:=[]) b7 (fun _=>(default:Tys P).mix) (Ar ?_ (KB hF h1));rintro s2 us2 ⟨hs,hu⟩;rw[hs,hu];split at h
   ·obtain rfl:=Option.some.inj h;exact⟨(fun e=>by cases e),rfl,rfl⟩
   ·split at h
    ·rename_i hc;obtain rfl:=Option.some.inj h;exact⟨fun _=>hc,rfl,rfl⟩
    ·cases h
  ·split at h
   ·rename_i sl hp hf;exact rj (WK hf) (EH hF b7 h)
   ·split at h
    ·cases h
    ·exact EH hF b7 h
  ·cases h
def pb(E:Env P)(S:Sys)(N base:Nat)(av:List Nat)(c:Code)(s:AS):Option (Exit×AS):=match c with
  | .skip=>some (.normal,s)
  | .ret=>some (.ret,s)
  | .exit id=>some (.exit id,s)
  | .seq x y=>match S.code N base av x s with
    |some (e,s1)=>match N9 e with
      |true=>S.code N base av y s1
      |false=>some (e,s1)
    |none=>none
  | .block id c=>match S.code N base av c s with
    |some (e,s1)=>match e with
      | .exit id'=>match afe id' id with
        |true=>some (.normal,s1)
        |false=>some (.exit id',s1)
      |e=>some (e,s1)
    |none=>none
  | .cond c x y=>match cJ s c with
    |some (.v (.bool b))=>match b with
      |true=>S.code N base av x s
      |false=>S.code N base av y s
    |_=>none
  | .loop c=>match S.code N base av c s with
    |some (e,s1)=>match N9 e with
      |true=>match NI s1 with
        |⟨sl,hp⟩=>S.code N base av (.loop c) ⟨sl,hp⟩
      |false=>some (e,s1)
    |none=>none
  | .region id A d=>match w6 A.toList with
    |true=>match v5 av A.toList s with
      |some s0=>match wT E (DV S base) av N A.toList d 20 [] s0 with
        |some s'=>some (.normal,s')
        |none=>none
      |none=>none
    |false=>none
  |_=>none
def vp(st:Nat):List Nat->AS->Option AS
  |[],s=>some s
  |k::ks,s=>match s.blk k with
    |some y=>match C7 s 100 st with
      |d=>match s.freshB d with
        |true=>vp st ks (Mv s k d y)
        |false=>none
    |none=>none
theorem B7{st:Nat}:∀{ks:List Nat}{s s':AS},vp st ks s=some s'->Wk s s'
 |[],s,s',h=>by cases h;exact .refl _
 |k::ks,s,s',h=>by
  unfold vp at h;split at h
  ·rename_i y hy;simp only at h;split at h
   ·rename_i hf;exact(Wk.rk (s:=s) hy hf).trans (B7 h)
   ·cases h
  ·cases h
def Ld:Nat->List Nat->List Nat
  |_,[]=>[]
  |n,_::l=>n::Ld (n+1) l
def DR:List Nat->List Nat
  |[]=>[]
  |k::ks=>match aek k 1000 with
    |true=>k::DR ks
    |false=>DR ks
def sF(sl:bn):List Nat->bn
  |[]=>[]
  |t::ts=>match lk sl t with
    |some x=>(t,some x)::sF sl ts
    |none=>sF sl ts
theorem CB{sl:bn}:∀{ts:List Nat}{t:Nat}{x:AV},lk (sF sl ts) t=some x->lk sl t=some x
 |[],t,x,h=>by cases h
 |t'::ts,t,x,h=>by
  unfold sF at h;split at h
  ·rename_i y hy;rw[aA]at h;split at h
   ·rename_i e;cases h;rw[e];exact hy
   ·exact CB h
  ·exact CB h
def Eo:List ResultVar->List Nat
  |[]=>[]
  |r::rs=>(match r with
    | .tmp t=>t
    | .cell t _=>t)::Eo rs
def AQ(P:ajs)[Inhabited (Tys P)](rs:List ResultVar)(Hk:List Nat)(s:AS):Option (AV×Hp):=match pO P s rs with
  |some ys=>some (dD ys,re s (tl s 300 (AV.nms ys++Hk) []))
  |none=>none
theorem Md{rs:List ResultVar}{Hk:List Nat}{s:AS}{r:AV}{H':Hp}(h:AQ P rs Hk s=some (r,H')):∃xs,ResL P s rs xs/\aJ s (dD xs) r H':=by
 unfold AQ at h;split at h
 ·rename_i ys hy;cases h;exact⟨ys,Es hy,.keep (fun k z hz=>wD hz)⟩
 ·cases h
def BK(P:ajs)[Inhabited (Tys P)](av:List Nat)(rs:List ResultVar)(Hk:List Nat)(s:AS):Option (AV×Hp):=match tl s 300 (AV.nms ((sF s.sl (Eo rs)).filterMap (·.2))++Hk) []with
  |K=>match DR K with
    |[]=>AQ P rs Hk s
    |k::ks=>match vp 700 (k::ks) ⟨sF s.sl (Eo rs),re s K⟩with
      |some s2=>match vp (mx 299 av+1) (Ld 700 (k::ks)) s2 with
        |some s3=>AQ P rs Hk s3
        |none=>none
      |none=>none
theorem VY{av:List Nat}{rs:List ResultVar}{Hk:List Nat}{s:AS}{r:AV}{H':Hp}(h:BK P av rs Hk s=some (r,H')):∃s2,Wk s s2/\∃xs,ResL P s2 rs xs/\aJ s2 (dD xs) r H':=by
 unfold BK at h;simp only at h;split at h
 ·exact⟨s,.refl _,Md h⟩
 ·split at h
  ·rename_i s2 h2;split at h
   ·rename_i s3 h3;exact⟨s3,((Cv (fun t x=>CB) (fun k x=>wD)).trans (B7 h2)).trans (B7 h3),Md h⟩
   ·cases h
  ·cases h
def Am:Hp->Bool
  |[]=>true
  |(k,_)::l=>Nat.ble 1000 k&&Am l
theorem K0:∀{H:Hp}{k:Nat}{z:Blk},Am H=true->lk H k=some z->1000<=k
 |[],k,z,_,h=>by cases h
 |(k',x)::l,k,z,h0,h=>by
  simp only[Am,ah7,ae0]at h0;rw[aA]at h;split at h
  ·rename_i e;rw[e];exact h0.1
  ·exact K0 h0.2 h
def Dk(E:Env P)(S:Sys)(base:Nat)(av:List Nat)(f:FuncId)(xs:List AV)(H:Hp):Option (AV×Hp):=match E.fe f with
  |some fe=>match afe fe.f f&&Am H with
    |true=>match tt 0 xs with
      |some sl=>match S.code fe.fn.ntmps base av fe.c ⟨sl,H⟩with
        |some (e,s1)=>match wH e with
          |true=>BK P av fe.rs (H.map (·.1)) s1
          |false=>none
        |none=>none
      |none=>none
    |false=>none
  |none=>none
def ev(E:Env P)(n:Nat):Sys:=Nat.rec ⟨fun _ _ _ _ _=>none,fun _ _ _ _ _=>none⟩ (fun _ S=>⟨pb E S,Dk E S⟩) n
structure SysOk(P:ajs)(S:Sys):Prop where
  code:∀N base av c s e s1,S.code N base av c s=some (e,s1)->bb P N c (fun e' s'=>e'=e/\s'=s1) s
  fn:∀base av f xs H r H',S.fn base av f xs H=some (r,H')->Con P f xs H r H'
theorem SF{P:ajs}{S:Sys}(h:SysOk P S)(base:Nat):(DV S base).Ok P:=by
 intro av f xs H r H' h1;unfold DV at h1;simp only at h1;split at h1
 ·rename_i h2;cases h1;exact Ip (h.fn _ _ _ _ _ _ _ h2)
 ·cases h1
theorem acg{E:Env P}{S:Sys}(h:SysOk P S){base:Nat}{av:List Nat}{f:FuncId}{xs:List AV}{H H':Hp}{r:AV}(h1:Dk E S base av f xs H=some (r,H')):Con P f xs H r H':=by
 unfold Dk at h1;split at h1
 ·rename_i fe hfe;split at h1
  ·rename_i hc;simp only[ah7]at hc;have hf:=ah5 hc.1;subst hf;split at h1
   ·rename_i sl eC;cases An eC;split at h1
    ·rename_i e s1 h2;split at h1
     ·rename_i he;refine CS fe.hf fe.hb fe.hn fe.hrs rfl (fun k z hz=>K0 hc.2 hz) ?_;refine SE (h.code _ _ _ _ _ _ _ h2) ?_;rintro e' s' ⟨he',hs'⟩;rw[he',hs'];obtain⟨s2,hw,hx⟩:=VY h1;refine⟨s2,hw,?_⟩;cases e <;> first |exact hx |exact(nomatch he)
     ·cases h1
    ·cases h1
   ·cases h1
  ·cases h1
 ·cases h1
theorem zF(E:Env P):∀n m,m<=n->SysOk P (ev E m)
 |0,m,hm=>by
  have:m=0:=by omega
  subst this;exact { code:=(fun _ _ _ _ _ _ _ h=>by cases h),fn:=(fun _ _ _ _ _ _ _ h=>by cases h) }
 |n+1,m,hm=>by
  by_cases hmn:m<=n
  ·exact zF E n m hmn
  ·have : m = n + 1 := by omega
   subst this;have ih:=zF E n n (aie _);refine⟨?_,fun base av f xs H r H' h=>acg ih h⟩;intro N base av c s e s1 h
   change pb E (ev E n) N base av c s=some (e,s1)at h
   cases c with
   |skip=>cases h;exact Hq ⟨rfl,rfl⟩
   |ret=>cases h;exact J9 ⟨rfl,rfl⟩
   |exit id=>cases h;exact IA ⟨rfl,rfl⟩
   |seq x y =>
    simp only[pb]at h;split at h
    ·rename_i e1 s2 h1;refine KZ fun K hK=>jg (ih.code _ _ _ _ _ _ _ h1) ?_
     rintro e' s' ⟨he,hs⟩;rw[he,hs];split at h
     ·rename_i hr;cases e1 <;> first |exact hK _ (ih.code _ _ _ _ _ _ _ h) |exact(nomatch hr)
     ·rename_i hr;obtain⟨rfl,rfl⟩:=Prod.mk.inj (Option.some.inj h);cases e1 <;> first |exact⟨rfl,rfl⟩ |exact(nomatch hr)
    ·cases h
   |block id c =>
    simp only[pb]at h;split at h
    ·rename_i e1 s2 h1;refine Hi (jg (ih.code _ _ _ _ _ _ _ h1) ?_);rintro e' s' ⟨he,hs⟩;rw[he,hs];split at h
     ·rename_i id';show match afe id' id with |true=>_ |false=>_
      split at h
      ·rename_i hb;obtain⟨rfl,rfl⟩:=Prod.mk.inj (Option.some.inj h);simp only[];exact⟨trivial,trivial⟩
      ·rename_i hb;obtain⟨rfl,rfl⟩:=Prod.mk.inj (Option.some.inj h);simp only[];exact⟨trivial,trivial⟩
     ·rename_i aF;obtain⟨rfl,rfl⟩:=Prod.mk.inj (Option.some.inj h);cases e1 <;> first |exact⟨rfl,rfl⟩ |exact ajm rfl (aF _)
    ·cases h
   |cond c x y =>
    simp only[pb]at h;split at h
    ·rename_i b hb;split at h
     ·exact yw (bj hb) (fun _=>ih.code _ _ _ _ _ _ _ h) (fun e=>by cases e)
     ·exact yw (bj hb) (fun e=>by cases e) (fun _=>ih.code _ _ _ _ _ _ _ h)
    ·cases h
   |loop c =>
    refine ud (fun m s=>m<=n+1/\(ev E m).code N base av (.loop c) s=some (e,s1)) (n:=n+1) (.refl _) ⟨aie _,h⟩ ?_;rintro m s ⟨hm,hI⟩ K hK;cases m with
    |zero=>cases hI
    |succ m =>
     change pb E (ev E m) N base av (.loop c) s=some (e,s1)at hI
     have ihm:=zF E n m oz;simp only[pb]at hI;split at hI
     ·rename_i e1 s2 h1;refine jg (ihm.code _ _ _ _ _ _ _ h1) ?_;rintro e' s' ⟨he,hs⟩;rw[he,hs];split at hI
      ·rename_i hr;cases e1 <;> first |exact hK _ _ m (VA s2) ⟨by omega,hI⟩ oz |exact(nomatch hr)
      ·rename_i hr;obtain⟨rfl,rfl⟩:=Prod.mk.inj (Option.some.inj hI);cases e1 <;> first |exact⟨rfl,rfl⟩ |exact(nomatch hr)
     ·cases hI
   |region id A d =>
    simp only[pb]at h;split at h
    ·rename_i b7;split at h
     ·rename_i s0 h0;refine rj (Df h0) ?_;split at h
      ·rename_i s' h1;obtain⟨rfl,rfl⟩:=Prod.mk.inj (Option.some.inj h);exact EH (SF ih base) (CX b7) h1
      ·cases h
     ·cases h
    ·cases h
   |_=>cases h
theorem bQ(E:Env P)(n:Nat){base:Nat}{av:List Nat}{f:FuncId}{xs:List AV}{H H':Hp}{r:AV}(h:(ev E n).fn base av f xs H=some (r,H')):Con P f xs H r H' :=
 (zF E n n (aie _)).fn _ _ _ _ _ _ _ h
end Go.Lw
namespace Go.Lw
def yk(s:ByteArray)(n:Int):Bd:=⟨s,[⟨⟨#[97]⟩,rt ((0:Int):Rat),rt ((0:Int):Rat)⟩,⟨⟨#[98]⟩,rt (n:Rat),rt ((0:Int):Rat)⟩]⟩
def fb:Li:=⟨⟨#[102,111,117,114,98,97,114]⟩,[yk ⟨#[102,114,97,109,101]⟩ 4,yk ⟨#[99,114,97,110,107]⟩ 3,yk ⟨#[99,111,117,112,108,101,114]⟩ 5,yk ⟨#[114,111,99,107,101,114]⟩ 6],
  [⟨⟨#[111]⟩,0,1,0,0,0,0⟩,⟨⟨#[112]⟩,0,2,0,1,1,0⟩,⟨⟨#[113]⟩,0,3,0,0,1,0⟩,⟨⟨#[114]⟩,0,2,1,3,1,0⟩],[⟨⟨#[100]⟩,1⟩]⟩
def t0:Tn:=⟨⟨false,[],[]⟩,false⟩
theorem tF(a b:ByteArray):dB a b=(a.data.toList==b.data.toList):=by
 unfold dB;rw[Go.ByteArray.toList_eq,Go.ByteArray.toList_eq]
open Go.Proofs
def bM(P:ajs)(n:Nat):Option (FE P):=match h:P.funcs[n]? with
  |none=>none
  |some fn=>match hb:fn.body with
    |none=>none
    | some c => match hn : (fn.name == "runtime.NumGoroutine") with
      |true=>none
      |false=>some ⟨n,fn,c,fn.results.toList,h,hb,hn,by simp⟩
def kH(q:Rat):Bool:=aek q.num.natAbs 18446744073709551616&&aek q.den 18446744073709551616
def n0(q:Rat):AV:=nA (sh 0 (q:Rat))
def z0:AV:=jS []
def dW:List AV->Nat
  |[]=>0
  |x::l=>match x with
    | .v (.int _ (.ofNat n))=>n+4294967296*dW l
    |_=>0
def A0:AV->Nat
  | .lst _ l=>dW l
  |_=>0
def dQ(x:AV):Rat:=match x with
  | .agg (.v (.bool s)::n::d::_)=>match s with
    |true=>mkRat (-(A0 n:Int)) (A0 d)
    |false=>mkRat (A0 n:Int) (A0 d)
  |_=>0
abbrev En:=Option (Ent prog)
def w2(f:FuncId)(g:Rat->Rat->AV)(h:∀p q,kH p=true->kH q=true->FP f [qA p,qA q] (g p q))(p q:Rat):En:=match hh:kH p&&kH q with
  |true=>some ⟨f,[qA p,qA q],g p q,[],h p q (by rw[ah7]at hh;exact hh.1) (by rw[ah7]at hh;exact hh.2)⟩
  |false=>none
def w1(f:FuncId)(a:Rat->AV)(g:Rat->AV)(h:∀p,kH p=true->FP f [a p] (g p))(p:Rat):En:=match hh:kH p with
  |true=>some ⟨f,[a p],g p,[],h p hh⟩
  |false=>none
def w3(f:FuncId)(g:Rat->Rat->AV)(h:∀p q,kH p=true->kH q=true->FP f [z0,n0 p,n0 q] (g p q))(p q:Rat):En:=match hh:kH p&&kH q with
  |true=>some ⟨f,[z0,n0 p,n0 q],g p q,[],h p q (by rw[ah7]at hh;exact hh.1) (by rw[ah7]at hh;exact hh.2)⟩
  |false=>none
def w4(f:FuncId)(g:Rat->AV)(h:∀p,kH p=true->FP f [z0,n0 p] (g p))(p:Rat):En:=match hh:kH p with
  |true=>some ⟨f,[z0,n0 p],g p,[],h p hh⟩
  |false=>none
def oC(f:FuncId)(ys:List AV)(r:AV)(h:FP f ys r)(xs:List AV):En:=some ⟨f,ys,r,[],h⟩
def dI(x:AV):Int:=match x with
  | .v (.int _ z)=>z
  |_=>0
def oI(f:FuncId)(g:Int->AV)(h:∀z,(-9223372036854775808<=z/\z<=9223372036854775807)->FP f [i64 z] (g z))(xs:List AV):En:=match xs with
  |[a]=>match(ajo:Decidable (-9223372036854775808<=dI a/\dI a<=9223372036854775807))with
    | .isTrue hh=>some ⟨f,[i64 (dI a)],g (dI a),[],h (dI a) hh⟩
    | .isFalse _=>none
  |_=>none
def Hy:List (Ent prog)->FuncId->Bool
  |[],_=>false
  |e::l,f=>match afe e.f f with
    |true=>true
    |false=>Hy l f
def OH(xs:List AV)(f:FuncId):List (Ent prog)->En
  |[]=>none
  |e::l=>match afe e.f f&&pg xs e.xs with
    |true=>some e
    |false=>OH xs f l
def bK(L:List (Ent prog))(o:FuncId->Option (List AV->En))(f:FuncId):Option (List AV->En):=match Hy L f with
  |true=>some fun xs=>match OH xs f L with
    |some e=>some e
    |none=>match o f with
      |some g=>g xs
      |none=>none
  |false=>o f
def bJ(n:FuncId):Bool:=afe n 124||(afe n 224||afe n 322)
def AF(p:Rat):Rat:=if p<0 then -p else p
theorem Nt{p:Rat}:aa .lss (aR p) 0=decide (p<0):=by
 have h:aa .lss (aR p) 0=decide (aR p<0):=rfl;rw[h];apply decide_eq_decide.2;unfold aR;split
 ·rename_i h1;exact⟨fun _=>h1,fun _=>by omega⟩
 ·rename_i h1;split
  ·exact⟨fun h9=>ajm h9 oz,fun h9=>ajm h9 h1⟩
  ·exact⟨fun h9=>ajm h9 oz,fun h9=>ajm h9 h1⟩
theorem YD{p:Rat}(hp:Qs p):FP 390 [qA p] (qA (AF p)):=by
 have hP:=lK (rt p) hp.ok;rw[bH]at hP;refine ak func390 ?_;refine gc (qR hp) ?_;refine gC (fun z=>?_) (fun z=>?_)
 ·have h1 : p < 0 := by rw [Nt] at z; exact aji z
  refine gc (vY hp) ?_;refine ah ?_;unfold AF;rw[ajg h1];rfl
 have h1:¬p<0:=by rw[Nt]at z;exact ajj z
 refine gc hP ?_;refine gc (tj hp.num hp.den (by have:=p.den_nz;omega)) ?_;refine ah ?_;unfold AF;rw[ajf h1,ag2];rfl
theorem YY{a b:Int}(ha:-9223372036854775808<=a/\a<=9223372036854775807)(hb:-9223372036854775808<=b/\b<=9223372036854775807):FP 407 [i64 a,i64 b] (.tup [qA (ag4 a b),db (if b=0 then 8 else 0)]):=by
 have za:Zs a:=⟨2,by omega,by unfold Lz;simp only[Nat.reducePow];omega⟩
 have zb:Zs b:=⟨2,by omega,by unfold Lz;simp only[Nat.reducePow];omega⟩
 refine ak func407 ?_;refine gc (zz a ha) ?_;refine gc (zz b hb) ?_;refine gc (Ov za zb) ?_;refine bq ?_
 first |rfl |(simp;done)
theorem R9:FP 396 [] (qA (ag4 1 2)):=by
 refine ak func396 ?_;refine gc (YY (a:=1) (b:=2) oz oz) ?_;refine ah ?_
 first |rfl |(simp;done)
def lH(q:Rat):Bool:=aek q.num.natAbs (2^4000)&&aek q.den (2^4000)
theorem jG{q:Rat}(h:lH q=true):Qs q:=by
 obtain⟨k,hk⟩:∃k,k=4000:=⟨_,rfl⟩
 unfold lH at h;rw[<- hk]at h;simp only[ah7,ad5]at h;exact Qb.qs (e:=k) h oz
def w2b(f:FuncId)(g:Rat->Rat->AV)(h:∀p q,lH p=true->lH q=true->FP f [qA p,qA q] (g p q))(p q:Rat):En:=match hh:lH p&&lH q with
  |true=>some ⟨f,[qA p,qA q],g p q,[],h p q (by rw[ah7]at hh;exact hh.1) (by rw[ah7]at hh;exact hh.2)⟩
  |false=>none
def uU(f:FuncId)(g:Rat->Rat->AV)(h:∀p q,lH p=true->lH q=true->FP f [qA p,qA q] (g p q))(xs:List AV):En:=match xs with
  |[a,b]=>w2b f g h (dQ a) (dQ b)
  |_=>none
def Zd(f:FuncId)(a:Rat->AV)(g:Rat->AV)(h:∀p,lH p=true->FP f [a p] (g p))(p:Rat):En:=match hh:lH p with
  |true=>some ⟨f,[a p],g p,[],h p hh⟩
  |false=>none
def yC(f:FuncId)(g:Rat->AV)(h:∀p,lH p=true->FP f [qA p] (g p))(xs:List AV):En:=match xs with
  |[a]=>Zd f qA g h (dQ a)
  |_=>none
def Ng:FuncId->Option (List AV->En)
  |45=>some (uU 45 (fun p q=>qA (p+q)) fun _ _ h h'=>wX (jG h) (jG h'))
  |172=>some (uU 172 (fun p q=>qA (p-q)) fun _ _ h h'=>tp (jG h) (jG h'))
  |71=>some (uU 71 (fun p q=>qA (p*q)) fun _ _ h h'=>jA (jG h) (jG h'))
  |389=>some (uU 389 (fun p q=>.tup [qA (p/q),db (if q=0 then 8 else 0)]) fun _ _ h h'=>KH (jG h) (jG h'))
  |279=>some (yC 279 (fun p=>qA (-p)) fun _ h=>vY (jG h))
  |24=>some (yC 24 (fun p=>i64 (aR p)) fun _ h=>qR (jG h))
  |104=>some (yC 104 (fun p=>bl (rt p).valid) fun _ h=>uo _ (jG h).ok)
  |352=>some (uU 352 (fun p q=>i64 (aR (p-q))) fun _ _ h h'=>SZ (jG h) (jG h'))
  |390=>some (yC 390 (fun p=>qA (AF p)) fun _ h=>YD (jG h))
  |396=>some (oC 396 [] _ R9)
  |19=>some (oI 19 (fun z=>qA z) pM)
  |82=>some (oI 82 (fun z=>qA z) r9)
  |_=>none
def oT(s p q:ByteArray)(n:Int):Bd:=⟨s,[⟨p,rt ((0:Int):Rat),rt ((0:Int):Rat)⟩,⟨q,rt (n:Rat),rt ((0:Int):Rat)⟩]⟩
def f3(n:Int):Li:=⟨⟨#[102,111,117,114,98,97,114]⟩,[oT ⟨#[102,114,97,109,101]⟩ ⟨#[97]⟩ ⟨#[100]⟩ 4,oT ⟨#[99,114,97,110,107]⟩ ⟨#[97]⟩ ⟨#[98]⟩ 1,oT ⟨#[99,111,117,112,108,101,114]⟩ ⟨#[98]⟩ ⟨#[99]⟩ 4,oT ⟨#[114,111,99,107,101,114]⟩ ⟨#[100]⟩ ⟨#[99]⟩ n],
  [⟨⟨#[106,49]⟩,0,0,0,1,0,0⟩,⟨⟨#[106,50]⟩,0,1,1,2,0,0⟩,⟨⟨#[106,51]⟩,0,0,1,3,0,0⟩,⟨⟨#[106,52]⟩,0,2,1,3,1,0⟩],[⟨⟨#[109]⟩,1⟩]⟩
theorem Zz:ax (f3 1)=0:=by
 have h1:il (f3 1)=0:=by
  unfold il er eh fP dP;simp only[tF];decide +kernel
 have h2:ez (f3 1)=0:=by
  unfold ez er gh fP;simp only[tF];decide +kernel
 have h3:gK (f3 1)=0:=by
  unfold gK er dH fP;simp only[tF];decide +kernel
 unfold ax;rw[h1,h2,h3];decide +kernel
theorem Z5:ax (f3 2)=0:=by
 have h1:il (f3 2)=0:=by
  unfold il er eh fP dP;simp only[tF];decide +kernel
 have h2:ez (f3 2)=0:=by
  unfold ez er gh fP;simp only[tF];decide +kernel
 have h3:gK (f3 2)=0:=by
  unfold gK er dH fP;simp only[tF];decide +kernel
 unfold ax;rw[h1,h2,h3];decide +kernel
theorem yZ{s p q:ByteArray}(hs:s.size<=1000)(hp:p.size<=1000)(hq:q.size<=1000){n:Int}(hn:-9223372036854775808<=n/\n<=9223372036854775807) :
  (oT s p q n).name.size<=281474976710656/\(oT s p q n).pts.length<=281474976710656/\∀m∈(oT s p q n).pts,m.name.size<=281474976710656/\m.x.wok/\m.y.wok:=by
 have h0:(rt ((0:Int):Rat)).ok:=(BE oz).ok;have h1:(rt (n:Rat)).ok:=(BE hn).ok;refine⟨aiw hs oz,by show 2<=_;omega,fun m hm=>?_⟩;simp only[oT,aiq,aim,or_false]at hm;rcases hm with rfl |rfl
 ·exact⟨aiw hp oz,h0.wok,h0.wok⟩
 ·exact⟨aiw hq oz,h1.wok,h0.wok⟩
theorem H5{n:Int}(hn:-9223372036854775808<=n/\n<=9223372036854775807):(f3 n).okw:=by
 refine⟨by show 7<=_;omega,fun b hb=>?_,fun j hj=>?_,fun d hd=>?_,by show 4<=_;omega,by show 4<=_;omega,by show 1<=_;omega⟩
 ·simp only[f3,aiq,aim,or_false]at hb;rcases hb with rfl |rfl |rfl |rfl
  ·exact yZ (by decide) (by decide) (by decide) oz
  ·exact yZ (by decide) (by decide) (by decide) oz
  ·exact yZ (by decide) (by decide) (by decide) oz
  ·exact yZ (by decide) (by decide) (by decide) hn
 ·simp only[f3,aiq,aim,or_false]at hj;rcases hj with rfl |rfl |rfl |rfl <;> decide
 ·simp only[f3,aiq,aim,or_false]at hd;rcases hd with rfl;decide
theorem ZH:(f3 1).ok:=DF (by decide +kernel) (H5 oz)
theorem Uo:(f3 2).ok:=DF (by decide +kernel) (H5 oz)
def Ve(o1 o2:FuncId->Option (List AV->En))(f:FuncId):Option (List AV->En):=match o1 f with
  |some g1=>match o2 f with
    |some g2=>some fun xs=>match g1 xs with
      |some e=>match pg xs e.xs with
        |true=>some e
        |false=>g2 xs
      |none=>g2 xs
    |none=>some g1
  |none=>o2 f
theorem FD:di (f3 1)=0:=by
 unfold di;rw[Zz];decide +kernel
theorem Dt:di (f3 2)=0:=by
 unfold di;rw[Z5];decide +kernel
theorem YI:d9 (f3 1)=[[0,0,256]]:=by
 unfold d9;rw[ajg FD];decide +kernel
theorem abt:d9 (f3 2)=[[135,0,622,0,231]]:=by
 unfold d9;rw[ajg Dt];decide +kernel
theorem Wj:dx (f3 1)=[4]:=by
 unfold dx;rw[ajg FD];decide +kernel
theorem aat:dx (f3 2)=[4]:=by
 unfold dx;rw[ajg Dt];decide +kernel
theorem Sr:FP 33 [(f3 1).av] (.tup [.lst 1 [nA [0,0,256]],.lst 1 [i64 4],.v .nilIface]):=by
 have h:=CK (f3 1) ZH;rw[YI,Wj,FD]at h;exact h
theorem abd:FP 33 [(f3 2).av] (.tup [.lst 1 [nA [135,0,622,0,231]],.lst 1 [i64 4],.v .nilIface]):=by
 have h:=CK (f3 2) Uo;rw[abt,aat,Dt]at h;exact h
def ZQ(o:FuncId->Option (List AV->En)):FuncId->Option (List AV->En)
  |33=>some (oC 33 [(f3 1).av] _ Sr)
  |f=>o f
def VK(o:FuncId->Option (List AV->En)):FuncId->Option (List AV->En)
  |33=>some (oC 33 [(f3 2).av] _ abd)
  |f=>o f
def bO:FuncId->Option (List AV->En):=Ve (ZQ Ng) (VK Ng)
end Go.Lw
