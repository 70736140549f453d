/- WholeCam: for any cam, shift and position whose reading holds at most 1048576 values the law returns true and leaves its arguments as they were. No other condition. Part 4 of 7: what the later parts need -/
import Derived.Test.YtikogaemdeibaaaGreatXc
import Derived.Laws.Cover3
import Derived.Laws.Pointers
set_option linter.unusedVariables false
open List (all_cons map_take map_map map_id)
open List renaming mem_of_getElem? → ZR, mem_cons_of_mem → Z8, mem_append → ZY, map_cons → aaz, mem_cons → aai, length_cons → Z7, mem_cons_self → aaa, length_append → aah, length_nil → aan, getD_eq_getElem?_getD → ZS, getElem?_append_left → aae, getElem?_eq_none → Z5, all_eq_true → Z6, getElem?_take → aak, getElem?_drop → aar, getElem?_map → ZZ, append_assoc → aay, getElem?_append_right → aac, mem_singleton → Z3, getElem?_eq_getElem → ZV, drop_eq_nil_of_le → aal, map_append → aas, take_of_length_le → aag, length_map → ZU, drop_zero → aax, take_length → aab, map_replicate → aau, map_set → aaw, not_mem_nil → aap, drop_eq_getElem_cons → Yd, take_succ_eq_append_getElem → Ye, mem_of_mem_take → Yk, take_take → Yn, length_eq_zero_iff → Yo, all_append → Yp, length_replicate → Yq, mem_map → Yr, getElem_mem → Yy, getElem?_eq_some_iff → YA, mem_iff_getElem → YB, mem_replicate → YC, map_congr_left → YD, eq_nil_of_length_eq_zero → YG, mem_of_mem_drop → YI, length_eq_one_iff → YJ, nil_append → YK, length_pos_iff → YL, take_append_of_le_length → YM, take_append_drop → YN, replicate → YO, getElem?_replicate → YS
open Nat renaming eq_of_beq_eq_true → ZT, le_refl → Z0, lt_or_ge → Z2, le_trans → aaj, mul_le_mul_right → aad, mul_le_mul_left → Z4, zero_le → aaf, pow_add → aat, le_add_right → Xs, pow_le_pow_right → Xt, max_eq_left → Xw, mul_add → Xy, two_pow_pos → XA, mul_pos → XB, zero_add → XF, mul_assoc → XJ, beq → XK, ble_eq → XS, blt → XU, mul_le_mul → XZ, pow_succ → X0, pow_lt_pow_right → X2, max_eq_right → X4, mul_comm → X6, min_eq_left → X7, ne_of_beq_eq_false → Ya, blt_eq → Yb
open Option renaming map_eq_some_iff → ZX, getD_some → ZO, map_some → ZP
open Bool renaming and_eq_true → ZW, or_eq_true → aav, false_eq_true → Zm, eq_false_iff → Zn, eq_iff_iff → Zq, not_eq_true → Zr, not_true → Zv
open Array renaming getElem?_eq_getElem → ZC, toList_inj → ZL
open Int renaming natAbs_natCast → aaq, natAbs_mul → Y2, natCast_nonneg → Y3, ofNat_eq_natCast → Y9
open Rat renaming intCast_add → Zc, divInt → Zd, intCast_mul → Zi
open Decidable renaming not_not → ZQ
open Go renaming Operand → abb, Value → abc, TypeId → abd, Program → abe, World → abf
open Go.Result renaming andThen_ok → abg
open Go.Sem renaming run_bind → abh, run_pure → abi
open Go.Proofs.Tryz
namespace Go.Lw
@[reducible] def T:Nat->Type
  |0=>Rat
  |k+1=>T k×T k
namespace T
def zero:(k:Nat)->T k
  |0=>(0:Rat)
  |k+1=>(zero k,zero k)
def ofQ:(k:Nat)->Rat->T k
  |0,q=>q
  |k+1,q=>(ofQ k q,zero k)
def add:(k:Nat)->T k->T k->T k
  |0,x,y=>Rat.add x y
  |k+1,x,y=>(add k x.1 y.1,add k x.2 y.2)
def neg:(k:Nat)->T k->T k
  |0,x=>Rat.neg x
  |k+1,x=>(neg k x.1,neg k x.2)
def mul(r:(k:Nat)->T k):(k:Nat)->T k->T k->T k
  |0,x,y=>Rat.mul x y
  |k+1,x,y=>(add k (mul r k x.1 y.1) (mul r k (mul r k x.2 y.2) (r k)),add k (mul r k x.1 y.2) (mul r k x.2 y.1))
def norm(r:(k:Nat)->T k)(k:Nat)(x:T (k+1)):T k:=add k (mul r k x.1 x.1) (neg k (mul r k (mul r k x.2 x.2) (r k)))
def sgn3(sx sy sd sn:Int):Int:=if sd=0 then sx else if sx=sy\/sy=0 then sx else if sx=0 then sy else sx*sn
def sgn(r:(k:Nat)->T k):(k:Nat)->T k->Int
  |0,x=>asQ x
  |k+1,x=>sgn3 (sgn r k x.1) (sgn r k x.2) (sgn r k (r k)) (sgn r k (norm r k x))
theorem add_zero:∀(k:Nat)(x:T k),add k x (zero k)=x
 |0,x=>Rat.add_zero x
 |k+1,x=>by simp only[add,zero,add_zero k]
theorem zero_add:∀(k:Nat)(x:T k),add k (zero k) x=x
 |0,x=>Rat.zero_add x
 |k+1,x=>by simp only[add,zero,zero_add k]
theorem add_comm:∀(k:Nat)(x y:T k),add k x y=add k y x
 |0,x,y=>Rat.add_comm x y
 |k+1,x,y=>by simp only[add,add_comm k x.1,add_comm k x.2]
theorem add_assoc:∀(k:Nat)(x y z:T k),add k (add k x y) z=add k x (add k y z)
 |0,x,y,z=>Rat.add_assoc x y z
 |k+1,x,y,z=>by simp only[add,add_assoc k]
theorem Bg:∀(k:Nat),neg k (zero k)=zero k
 |0=>by show -(0:Rat)=0;grind
 |k+1=>by simp only[neg,zero,Bg k]
theorem add_neg:∀(k:Nat)(x:T k),add k x (neg k x)=zero k
 |0,x=>by show(x:Rat)+-x=0;grind
 |k+1,x=>by simp only[add,neg,zero,add_neg k]
theorem zero_mul(r:(k:Nat)->T k):∀(k:Nat)(x:T k),mul r k (zero k) x=zero k
 |0,x=>Rat.zero_mul x
 |k+1,x=>by simp only[mul,zero,zero_mul r k,add_zero]
theorem mul_zero(r:(k:Nat)->T k):∀(k:Nat)(x:T k),mul r k x (zero k)=zero k
 |0,x=>Rat.mul_zero x
 |k+1,x=>by
  simp only[mul,zero,mul_zero r k,add_zero]
  have h:mul r k (zero k) (r k)=zero k:=by
   have:=zero_mul r k (r k);exact this
  rw[h];simp only[add_zero]
theorem mul_comm(r:(k:Nat)->T k):∀(k:Nat)(x y:T k),mul r k x y=mul r k y x
 |0,x,y=>Rat.mul_comm x y
 |k+1,x,y=>by
  simp only[mul];rw[mul_comm r k x.1 y.1,mul_comm r k x.2 y.2,mul_comm r k x.1 y.2,mul_comm r k x.2 y.1,add_comm k (mul r k y.2 x.1)]
theorem sgn_zero(r:(k:Nat)->T k):∀k,sgn r k (zero k)=0
 |0=>rfl
 |k+1=>by
  simp only[sgn,zero,sgn_zero r k,sgn3];split
  ·rfl
  ·simp
theorem sgn_low(r:(k:Nat)->T k)(k:Nat)(x:T k):sgn r (k+1) (x,zero k)=sgn r k x:=by
 simp only[sgn,sgn_zero,sgn3];split
 ·rfl
 ·simp
theorem NB(q:Rat):asQ q=-1\/asQ q=0\/asQ q=1:=by
 unfold asQ;split
 ·exact .inl rfl
 ·split
  ·exact .inr (.inr rfl)
  ·exact .inr (.inl rfl)
theorem sgn_cases(r:(k:Nat)->T k):∀(k:Nat)(x:T k),sgn r k x=-1\/sgn r k x=0\/sgn r k x=1
 |0,x=>NB x
 |k+1,x=>by
  simp only[sgn,sgn3];have h1:=sgn_cases r k x.1;have h2:=sgn_cases r k x.2;have h4:=sgn_cases r k (norm r k x);split
  ·exact h1
  ·split
   ·exact h1
   ·split
    ·exact h2
    ·rcases h1 with h |h |h <;> rcases h4 with h' |h' |h' <;> rw[h,h'] <;> simp
end T
def am:(k:Nat)->List Rat->T k
  |0,l=>l.getD 0 0
  |k+1,l=>(am k (l.take (2^k)),am k (l.drop (2^k)))
theorem kr{l:List Rat}{n i:Nat}:(l.take n).getD i 0=if i<n then l.getD i 0 else 0:=by
 simp only[ZS,aak];split <;> simp
theorem kL{l:List Rat}{n i:Nat}:(l.drop n).getD i 0=l.getD (n+i) 0:=by
 simp only[ZS,aar]
theorem qe:∀(k:Nat){a b:List Rat},(∀i,i<2^k->a.getD i 0=b.getD i 0)->am k a=am k b
 |0,a,b,h=>h 0 (by decide)
 |k+1,a,b,h=>by
  have h1:=qe k (a:=a.take (2^k)) (b:=b.take (2^k)) (fun i hi=>by rw[kr,kr,aa2 hi,aa2 hi];exact h i (by rw[X0];omega));have h2:=qe k (a:=a.drop (2^k)) (b:=b.drop (2^k)) (fun i hi=>by rw[kL,kL];exact h _ (by rw[X0];omega));simp only[am,h1,h2]
theorem wT:∀(k:Nat){a b c:List Rat},(∀i,i<2^k->c.getD i 0=a.getD i 0+b.getD i 0)->am k c=T.add k (am k a) (am k b)
 |0,a,b,c,h=>h 0 (by decide)
 |k+1,a,b,c,h=>by
  have h1:=wT k (a:=a.take (2^k)) (b:=b.take (2^k)) (c:=c.take (2^k)) (fun i hi=>by rw[kr,kr,kr,aa2 hi,aa2 hi,aa2 hi];exact h i (by rw[X0];omega));have h2:=wT k (a:=a.drop (2^k)) (b:=b.drop (2^k)) (c:=c.drop (2^k)) (fun i hi=>by rw[kL,kL,kL];exact h _ (by rw[X0];omega));simp only[am,T.add,h1,h2]
theorem yd:∀(k:Nat){a c:List Rat},(∀i,i<2^k->c.getD i 0=-a.getD i 0)->am k c=T.neg k (am k a)
 |0,a,c,h=>h 0 (by decide)
 |k+1,a,c,h=>by
  have h1:=yd k (a:=a.take (2^k)) (c:=c.take (2^k)) (fun i hi=>by rw[kr,kr,aa2 hi,aa2 hi];exact h i (by rw[X0];omega));have h2:=yd k (a:=a.drop (2^k)) (c:=c.drop (2^k)) (fun i hi=>by rw[kL,kL];exact h _ (by rw[X0];omega));simp only[am,T.neg,h1,h2]
theorem uJ:∀(k:Nat){a:List Rat},(∀i,i<2^k->a.getD i 0=0)->am k a=T.zero k
 |0,a,h=>h 0 (by decide)
 |k+1,a,h=>by
  have h1:=uJ k (a:=a.take (2^k)) (fun i hi=>by rw[kr,aa2 hi];exact h i (by rw[X0];omega));have h2:=uJ k (a:=a.drop (2^k)) (fun i hi=>by rw[kL];exact h _ (by rw[X0];omega));simp only[am,T.zero,h1,h2]
theorem yN{l:List Rat}{i:Nat}(h:l.length<=i):l.getD i 0=0:=by
 simp[ZS,Z5 h]
theorem nv(k:Nat):am k []=T.zero k:=uJ k (fun i _=>by simp)
theorem mI{k:Nat}{a:List Rat}(h:a.length<=2^k):am (k+1) a=(am k a,T.zero k):=by
 have h1:a.take (2^k)=a:=aag h;have h2:a.drop (2^k)=[]:=aal h;simp only[am,h1,h2,nv]
theorem qL(k:Nat)(q:Rat):am k [q]=T.ofQ k q:=by
 induction k with
 |zero=>rfl
 |succ k ih=>rw[mI (by simp;exact Nat.one_le_two_pow),ih];rfl
def a9(a:List Rat)(n:Nat):List Rat:=a++YO (n-a.length) 0
def cJ(a b:List Rat):List Rat:=List.zipWith (·+·) (a9 a (max a.length b.length)) (a9 b (max a.length b.length))
def dU(a:List Rat):List Rat:=a.map (- ·)
def fu(a b:List Rat)(n:Nat):List Rat:=a9 a n++a9 b n
def aV(a:List Rat):Bool:=a.all (fun q=>decide (q=0))
theorem fA{a:List Rat}{n:Nat}(h:a.length<=n):(a9 a n).length=n:=by simp[a9];omega
theorem eW{a b:List Rat}:(cJ a b).length=max a.length b.length:=by
 simp only[cJ,List.length_zipWith];rw[fA oz,fA oz];omega
theorem jT{a:List Rat}:(dU a).length=a.length:=by simp[dU]
theorem tx{a b:List Rat}{n:Nat}(h:a.length<=n)(h':b.length<=n):(fu a b n).length=n+n:=by simp[fu,fA h,fA h']
theorem mU{a:List Rat}{n i:Nat}:(a9 a n).getD i 0=a.getD i 0:=by
 simp only[a9,ZS]
 by_cases h:i<a.length
 ·rw[aae h]
 ·rw[aac oz,Z5 (l:=a) oz,YS];split <;> rfl
theorem H1{a b:List Rat}{i:Nat}:(cJ a b).getD i 0=a.getD i 0+b.getD i 0:=by
 by_cases h:i<max a.length b.length
 ·have e:(cJ a b).getD i 0=(a9 a (max a.length b.length)).getD i 0+(a9 b (max a.length b.length)).getD i 0:=by
   have ha:i<(a9 a (max a.length b.length)).length:=by rw[fA oz];exact h
   have hb:i<(a9 b (max a.length b.length)).length:=by rw[fA oz];exact h
   simp only[cJ,ZS,List.getElem?_zipWith,ZV ha,ZV hb,ZO]
  rw[e,mU,mU]
 ·rw[yN (by rw[eW];omega),yN oz,yN oz,Rat.add_zero]
theorem Gt{a:List Rat}{i:Nat}:(dU a).getD i 0=-a.getD i 0:=by
 simp only[dU,ZS,ZZ];cases a[i]? with
 |none=>show(0:Rat)=-0;grind
 |some x=>rfl
theorem CI{a b:List Rat}{n i:Nat}(h:a.length<=n):(fu a b n).getD i 0=if i<n then a.getD i 0 else b.getD (i-n) 0:=by
 have hl:=fA h;simp only[fu];split
 ·rw[<- mU (a:=a) (n:=n),ZS,ZS,aae oz]
 ·rw[<- mU (a:=b) (n:=n),ZS,ZS,aac oz,hl]
theorem P7(k:Nat){a:List Rat}{n:Nat}:am k (a9 a n)=am k a:=qe k (fun i _=>mU)
theorem lV(k:Nat){a b:List Rat}:am k (cJ a b)=T.add k (am k a) (am k b):=wT k (fun i _=>H1)
theorem pq(k:Nat){a:List Rat}:am k (dU a)=T.neg k (am k a):=yd k (fun i _=>Gt)
theorem CO{k:Nat}{a b:List Rat}(h:a.length<=2^k):am (k+1) (fu a b (2^k))=(am k a,am k b):=by
 have h1:am k ((fu a b (2^k)).take (2^k))=am k a:=qe k (fun i hi=>by rw[kr,aa2 hi,CI h,aa2 hi]);have h2:am k ((fu a b (2^k)).drop (2^k))=am k b:=qe k (fun i hi=>by rw[kL,CI h,aa1 oz];congr 1;omega);simp only[am,h1,h2]
theorem yv{k:Nat}{a:List Rat}(h:aV a=true):am k a=T.zero k:=by
 refine uJ k (fun i _=>?_);rw[ZS];cases hx:a[i]? with
 |none=>rfl
 |some x =>
  have:=Z6.1 h x (ZR hx);simpa using this
def Nl(k:Nat)(a:List Rat):Prop:=a=[]\/∃j,j<=k/\a.length=2^j
theorem Nl.le{k:Nat}{a:List Rat}(h:Nl k a):a.length<=2^k:=by
 rcases h with rfl |⟨j,hj,h⟩
 ·simp
 ·rw[h];exact Xt oz hj
theorem Nl.mono{k l:Nat}{a:List Rat}(h:Nl k a)(hl:k<=l):Nl l a:=by
 rcases h with h |⟨j,hj,h⟩
 ·exact .inl h
 ·exact .inr ⟨j,by omega,h⟩
def aQ(ts:LL)(k:Nat):T k:=am k (ts.getD k [])
def pT(ts:LL):Nat->List Rat->List Rat->List Rat
  |k,a,b =>
    let x:=if a.length<b.length then b else a
    let y:=if a.length<b.length then a else b
    if aV x||aV y then[]else if x.length=1 then[x.getD 0 0*y.getD 0 0]
    else match k with
      |0=>[]
      |k+1 =>
        if y.length<=x.length/2 then fu (pT ts k (x.take (x.length/2)) y) (pT ts k (x.drop (x.length/2)) y) (x.length/2)
        else fu (cJ (pT ts k (x.take (x.length/2)) (y.take (x.length/2))) (pT ts k (pT ts k (x.drop (x.length/2)) (y.drop (x.length/2))) (ts.getD (x.length.log2-1) [])))
          (cJ (pT ts k (x.take (x.length/2)) (y.drop (x.length/2))) (pT ts k (x.drop (x.length/2)) (y.take (x.length/2)))) (x.length/2)
theorem T.mul_low(r:(k:Nat)->T k)(k:Nat)(x u:T k):T.mul r (k+1) (x,T.zero k) (u,T.zero k)=(T.mul r k x u,T.zero k):=by
 simp only[T.mul,T.mul_zero,T.zero_mul,T.add_zero]
theorem T.mul_half(r:(k:Nat)->T k)(k:Nat)(x y u:T k):T.mul r (k+1) (x,y) (u,T.zero k)=(T.mul r k x u,T.mul r k y u):=by
 simp only[T.mul,T.mul_zero,T.zero_mul,T.add_zero,T.zero_add]
theorem T.mul_ofQ(r:(k:Nat)->T k):∀(k:Nat)(p q:Rat),T.mul r k (T.ofQ k p) (T.ofQ k q)=T.ofQ k (p*q)
 |0,p,q=>rfl
 |k+1,p,q=>by simp only[T.ofQ];rw[T.mul_low,T.mul_ofQ r k]
theorem PL:aV []=true:=rfl
theorem BV(j:Nat):(2^(j+1)).log2-1=j:=by rw[Nat.log2_two_pow];omega
theorem jM{j:Nat}{a:List Rat}(h:a.length=2^(j+1)):(a.take (2^j)).length=2^j:=by
 simp[h,X0];omega
theorem kH{j:Nat}{a:List Rat}(h:a.length=2^(j+1)):(a.drop (2^j)).length=2^j:=by
 simp[h,X0];omega
theorem ma(j:Nat):2^(j+1)/2=2^j:=by rw[X0];omega
theorem zH(ts:LL)(k:Nat)(a b:List Rat)(h:a.length<b.length):pT ts k a b=pT ts k b a:=by
 unfold pT;simp only[aa2 h,aa1 (show ¬b.length<a.length by omega)]
theorem FK(ts:LL)(Q:Nat->List Rat->List Rat->List Rat->Prop)
  (IM:∀j a b c,Q j a b c->Q j b a c)
  (dO:∀j a b,Nl j a->Nl j b->(aV a=true\/aV b=true)->Q j a b [])
  (sF:∀j p q,Q j [p] [q] [p*q])
  (V5:∀j a b c,Nl j a->Nl j b->Q j a b c->Q (j+1) a b c)
  (V6:∀j a b c d,a.length=2^(j+1)->Nl j b->Q j (a.take (2^j)) b c->Q j (a.drop (2^j)) b d->Q (j+1) a b (fu c d (2^j)))
  (V7:∀j a b c1 c2 c3 c4 c5,a.length=2^(j+1)->b.length=2^(j+1)->Q j (a.take (2^j)) (b.take (2^j)) c1->Q j (a.drop (2^j)) (b.drop (2^j)) c2 ->
   Q j c2 (ts.getD j []) c3->Q j (a.take (2^j)) (b.drop (2^j)) c4->Q j (a.drop (2^j)) (b.take (2^j)) c5->Q (j+1) a b (fu (cJ c1 c3) (cJ c4 c5) (2^j)))
  (dc:∀j a b c,Q j a b c->Nl j c) (m:Nat) (hr:∀j,j<m->Nl j (ts.getD j [])) :
  ∀(j k:Nat)(a b:List Rat),j<=m->j<=k->Nl j a->Nl j b->Q j a b (pT ts k a b):=by
 intro j
 induction j with
 |zero =>
  intro k a b _ _ ha hb;have gK:=ha.le;have fj:=hb.le
  have key:∀a b:List Rat,Nl 0 a->Nl 0 b->¬a.length<b.length->Q 0 a b (pT ts k a b):=by
   intro a b ha hb hlt;have gK:=ha.le;have fj:=hb.le;unfold pT;simp only[aa1 hlt];split
   ·rename_i h;rw[aav]at h;exact dO 0 a b ha hb h
   ·rename_i h;simp only [aav,not_or,Zr] at h;have h1:a ≠ []:=fun h'=>by rw [h'] at h; cases h.1
    have h2:b≠[]:=fun h'=>by rw[h']at h;cases h.2
    obtain⟨p,rfl⟩:∃p,a=[p]:=YJ.1 (by have:=YL.2 h1;omega);obtain⟨q,rfl⟩:∃q,b=[q]:=YJ.1 (by have:=YL.2 h2;omega);simp only[Z7,aan,if_true];exact sF 0 p q
  by_cases hlt:a.length<b.length
  ·rw[zH ts k a b hlt];exact IM _ _ _ _ (key b a hb ha oz)
  ·exact key a b ha hb hlt
 |succ j ih =>
  intro k a b IN jw ha hb
  have key:∀a b:List Rat,Nl (j+1) a->Nl (j+1) b->¬a.length<b.length->Q (j+1) a b (pT ts k a b):=by
   intro a b ha hb hlt
   by_cases hs:Nl j a
   ·have i5:Nl j b:=by
     rcases hb with rfl |⟨i,hi,h⟩
     ·exact .inl rfl
     ·by_cases fk:i<=j
      ·exact .inr ⟨i,fk,h⟩
      ·have h1:=hs.le;have h2:2^(j+1)<=2^i:=Xt oz oz;rw[X0]at h2;have:=XA j;omega
    exact V5 j a b _ hs i5 (ih k a b oz oz hs i5)
   ·have aT:a.length=2^(j+1):=by
     rcases ha with rfl |⟨i,hi,h⟩
     ·exact aa8 (.inl rfl) hs
     ·by_cases fk:i<=j
      ·exact aa8 (.inr ⟨i,fk,h⟩) hs
      ·rw[h,show i=j+1 by omega]
    obtain⟨k,rfl⟩:∃k',k=k'+1:=⟨k-1,by omega⟩
    have W9:=XA j;have hx:Nl j (a.take (2^j)):=.inr ⟨j,Z0 _,jM aT⟩;have hy:Nl j (a.drop (2^j)):=.inr ⟨j,Z0 _,kH aT⟩;unfold pT;simp only[aa1 hlt];split
    ·rename_i h;rw[aav]at h;exact dO _ a b ha hb h
    ·rename_i h;simp only [aav,not_or,Zr] at h;rw [aa1 (by rw [aT,X0]; omega)];simp only [aT,ma,BV];split
     ·rename_i i4
      have i5:Nl j b:=by
       rcases hb with rfl |⟨i,hi,h'⟩
       ·exact .inl rfl
       ·by_cases fk:i<=j
        ·exact .inr ⟨i,fk,h'⟩
        ·have h2:2^(j+1)<=2^i:=Xt oz oz;rw[X0]at h2;omega
      exact V6 j a b _ _ aT i5 (ih k _ _ oz oz hx i5) (ih k _ _ oz oz hy i5)
     ·rename_i i4
      have AK:b.length=2^(j+1):=by
       rcases hb with rfl |⟨i,hi,h'⟩
       ·simp at i4
       ·by_cases fk:i<=j
        ·have:2^i<=2^j:=Xt oz fk;omega
        ·rw[h',show i=j+1 by omega]
      have hu:Nl j (b.take (2^j)):=.inr ⟨j,Z0 _,jM AK⟩;have hv:Nl j (b.drop (2^j)):=.inr ⟨j,Z0 _,kH AK⟩;have h2:=ih k _ _ oz oz hy hv;exact V7 j a b _ _ _ _ _ aT AK (ih k _ _ oz oz hx hu) h2 (ih k _ _ oz oz (dc _ _ _ _ h2) (hr j oz)) (ih k _ _ oz oz hx hv) (ih k _ _ oz oz hy hu)
  by_cases hlt:a.length<b.length
  ·rw[zH ts k a b hlt];exact IM _ _ _ _ (key b a hb ha oz)
  ·exact key a b ha hb hlt
theorem fN(ts:LL)(m:Nat)(hr:∀j,j<m->Nl j (ts.getD j []))(j k:Nat)(a b:List Rat)(hj:j<=m)(hk:j<=k)(ha:Nl j a)(hb:Nl j b) :
  Nl j (pT ts k a b)/\am j (pT ts k a b)=T.mul (aQ ts) j (am j a) (am j b):=by
 refine FK ts (fun j a b c=>Nl j c/\am j c=T.mul (aQ ts) j (am j a) (am j b)) ?_ ?_ ?_ ?_ ?_ ?_ (fun _ _ _ _ h=>h.1) m hr j k a b hj hk ha hb
 ·intro j a b c h;exact⟨h.1,by rw[h.2,T.mul_comm]⟩
 ·intro j a b ha hb h;refine⟨.inl rfl,?_⟩;rw[nv];rcases h with h |h
  ·rw[yv h,T.zero_mul]
  ·rw[yv h,T.mul_zero]
 ·intro j p q;exact⟨.inr ⟨0,aaf _,rfl⟩,by rw[qL,qL,qL,T.mul_ofQ]⟩
 ·intro j a b c ha hb h;refine⟨h.1.mono oz,?_⟩;rw[mI ha.le,mI hb.le,mI h.1.le,T.mul_low,h.2]
 ·intro j a b c d ha hb hc hd;refine⟨.inr ⟨j+1,Z0 _,?_⟩,?_⟩
  ·rw[tx hc.1.le hd.1.le,X0];omega
  ·rw[CO hc.1.le,mI hb.le,hc.2,hd.2];simp only[am];rw[T.mul_half]
 ·intro j a b c1 c2 c3 c4 c5 ha hb h1 h2 h3 h4 h5;refine⟨.inr ⟨j+1,Z0 _,?_⟩,?_⟩
  ·have l1:=h1.1.le;have l3:=h3.1.le;have l4:=h4.1.le;have l5:=h5.1.le;rw[tx (by rw[eW];omega) (by rw[eW];omega),X0];omega
  ·have l1:=h1.1.le;have l3:=h3.1.le;rw[CO (by rw[eW];omega),lV,lV,h1.2,h3.2,h4.2,h5.2,h2.2];rfl
def dq:Nat->List Rat->List Rat
  |0,a=>if aV a then[]else a
  |j+1,a=>if aV (a.drop (2^j))then dq j (a.take (2^j))else a
def T.isZ:(k:Nat)->T k->Bool
  |0,q=>decide ((q:Rat)=0)
  |k+1,x=>isZ k x.1&&isZ k x.2
theorem T.isZ_iff:∀(k:Nat)(x:T k),T.isZ k x=true↔x=T.zero k
 |0,x=>by simp only[T.isZ,aa3];rfl
 |k+1,x=>by
  simp only[T.isZ,ZW,T.isZ_iff k,T.zero];constructor
  ·intro h;exact Prod.ext h.1 h.2
  ·intro h;rw[h];exact⟨rfl,rfl⟩
def enc:(k:Nat)->T k->List Rat
  |0,q=>[q]
  |k+1,x=>enc k x.1++enc k x.2
def sh:(k:Nat)->T k->List Rat
  |0,q=>if(q:Rat)=0 then[]else[q]
  |k+1,x=>if T.isZ k x.2 then sh k x.1 else enc k x.1++enc k x.2
theorem m9:∀(k:Nat)(x:T k),(enc k x).length=2^k
 |0,x=>rfl
 |k+1,x=>by simp only[enc,aah,m9 k];rw[X0];omega
theorem tM:∀(k:Nat)(x:T k),am k (enc k x)=x
 |0,x=>rfl
 |k+1,x=>by
  simp only[enc,am]
  rw [YM (by rw [m9]; exact Z0 _), aag (by rw [m9]; exact Z0 _), List.drop_append_of_le_length (by rw [m9]; exact Z0 _),
   aal (by rw[m9];exact Z0 _),YK,tM k,tM k]
theorem oM:∀(k:Nat)(a:List Rat),a.length=2^k->enc k (am k a)=a
 |0,a,h=>by
  obtain⟨p,rfl⟩:=YJ.1 h;rfl
 |k+1,a,h=>by
  simp only[enc,am];rw[oM k _ (jM h),oM k _ (kH h),YN]
theorem NO{k:Nat}{a:List Rat}(h:a.length<=2^k):aV a=T.isZ k (am k a):=by
 rw[Zq,T.isZ_iff];constructor
 ·exact yv
 ·intro h0;have h1:enc k (am k (a9 a (2^k)))=a9 a (2^k):=oM k _ (fA h);rw[P7,h0]at h1
  have h2:∀k,aV (enc k (T.zero k))=true:=by
   intro k
   induction k with
   |zero=>rfl
   |succ k ih=>simp only[enc,T.zero,aV,Yp,ZW]at ih ⊢;exact⟨ih,ih⟩
  have h3:=h2 k;rw[h1]at h3;simp only[aV,a9,Yp,ZW]at h3;exact h3.1
theorem xn:∀(k:Nat){a:List Rat},Nl k a->dq k a=sh k (am k a)
 |0,a,h=>by
  have hl:=h.le;simp only[dq,sh]
  match a,hl with
  |[],_=>rfl
  |[p],_=>simp[aV,am]
 |k+1,a,h=>by
  have hl:=h.le;have h1:(a.drop (2^k)).length<=2^k:=by simp;rw[X0]at hl;omega
  have e1:dq (k+1) a=if aV (a.drop (2^k))=true then dq k (a.take (2^k))else a:=rfl;have e2:∀x y:T k,sh (k+1) (x,y)=if T.isZ k y=true then sh k x else enc k x++enc k y:=fun _ _=>rfl
  rw[e1,show am (k+1) a=(am k (a.take (2^k)),am k (a.drop (2^k)))from rfl,e2,NO h1]
  by_cases hz:T.isZ k (am k (a.drop (2^k)))=true
  ·rw[aa2 hz,aa2 hz];refine xn k ?_;rcases h with rfl |⟨j,hj,h⟩
   ·exact .inl (by simp)
   ·by_cases jw:j<=k
    ·rw[aag (by rw[h];exact Xt oz jw)];exact .inr ⟨j,jw,h⟩
    ·exact .inr ⟨k,Z0 _,jM (by rw[h,show j=k+1 by omega])⟩
  ·rw[aa1 hz,aa1 hz]
   have a6:a.length=2^(k+1):=by
    rcases h with rfl |⟨j,hj,h⟩
    ·exfalso;apply hz
     rw[List.drop_nil,T.isZ_iff,nv]
    ·by_cases jw:j<=k
     ·exfalso;apply hz
      rw[aal (by rw[h];exact Xt oz jw),T.isZ_iff,nv]
     ·rw[h,show j=k+1 by omega]
   rw[oM k _ (jM a6),oM k _ (kH a6),YN]
theorem lX:∀(k:Nat)(x:T k),Nl k (sh k x)
 |0,q=>by
  simp only[sh];split
  ·exact .inl rfl
  ·exact .inr ⟨0,Z0 _,rfl⟩
 |k+1,x=>by
  simp only[sh];split
  ·exact(lX k x.1).mono oz
  ·exact .inr ⟨k+1,Z0 _,by rw[aah,m9,m9,X0];omega⟩
theorem jz:∀(k:Nat)(x:T k),am k (sh k x)=x
 |0,q=>by
  simp only[sh];split
  ·rename_i h;exact h.symm
  ·rfl
 |k+1,x=>by
  simp only[sh];split
  ·rename_i h;rw[T.isZ_iff]at h;rw[mI (lX k x.1).le,jz k,<- h]
  ·exact tM (k+1) x
def Cd(D N:Nat)(l:List Rat):Prop:=0<D/\∀q∈l,∃n:Int,q*((D:Int):Rat)=(n:Rat)/\n.natAbs<=N
theorem Cd.mono{D N N':Nat}{l:List Rat}(h:Cd D N l)(hn:N<=N'):Cd D N' l :=
 ⟨h.1,fun q hq=>by obtain⟨n,h1,h2⟩:=h.2 q hq;exact⟨n,h1,by omega⟩⟩
theorem Cd.sub{D N:Nat}{l l':List Rat}(h:Cd D N l)(hs:∀q∈l',q∈l):Cd D N l':=⟨h.1,fun q hq=>h.2 q (hs q hq)⟩
theorem Cd.scale{D N c:Nat}{l:List Rat}(h:Cd D N l)(hc:0<c):Cd (D*c) (N*c) l:=by
 refine⟨XB h.1 hc,fun q hq=>?_⟩;obtain⟨n,h1,h2⟩:=h.2 q hq;refine⟨n*c,?_,?_⟩
 ·rw[Int.natCast_mul,Zi,<- Rat.mul_assoc,h1,Zi]
 ·rw[Y2,aaq];exact aad _ h2
theorem Cd.nil{D N:Nat}(h:0<D):Cd D N []:=⟨h,fun q hq=>by cases hq⟩
theorem Cd.app{D N:Nat}{a b:List Rat}(h:Cd D N a)(h':Cd D N b):Cd D N (a++b) :=
 ⟨h.1,fun q hq=>by rcases ZY.1 hq with hq |hq;exact h.2 q hq;exact h'.2 q hq⟩
theorem Cd.zeros{D N n:Nat}(h:0<D):Cd D N (YO n 0) :=
 ⟨h,fun q hq=>⟨0,by rw[(YC.1 hq).2,Rat.zero_mul];rfl,by simp⟩⟩
theorem Cd.wide{D N n:Nat}{a:List Rat}(h:Cd D N a):Cd D N (a9 a n):=h.app (Cd.zeros h.1)
theorem Cd.join{D N n:Nat}{a b:List Rat}(h:Cd D N a)(h':Cd D N b):Cd D N (fu a b n):=h.wide.app h'.wide
theorem Cd.minus{D N:Nat}{a:List Rat}(h:Cd D N a):Cd D N (dU a):=by
 refine⟨h.1,fun q hq=>?_⟩;obtain⟨p,hp,rfl⟩:=Yr.1 hq;obtain⟨n,h1,h2⟩:=h.2 p hp;refine⟨-n,?_,by omega⟩;rw[Rat.intCast_neg,<- h1,Rat.neg_mul]
theorem Cd.plus{D N N':Nat}{a b:List Rat}(h:Cd D N a)(h':Cd D N' b):Cd D (N+N') (cJ a b):=by
 refine⟨h.1,fun q hq=>?_⟩;have h1:Cd D N (a9 a (max a.length b.length)):=h.wide;have h2:Cd D N' (a9 b (max a.length b.length)):=h'.wide;unfold cJ at hq;obtain⟨i,hi,rfl⟩:=YB.1 hq;rw[List.getElem_zipWith];obtain⟨n,e1,e2⟩:=h1.2 _ (Yy (by simp at hi;omega:i<(a9 a (max a.length b.length)).length));obtain⟨m,e3,e4⟩:=h2.2 _ (Yy (by simp at hi;omega:i<(a9 b (max a.length b.length)).length));refine⟨n+m,?_,by have:=Int.natAbs_add_le n m;omega⟩;rw[Rat.add_mul,e1,e3,Zc]
theorem Cd.mul1{D N D' N':Nat}{p q:Rat}(h:Cd D N [p])(h':Cd D' N' [q]):Cd (D*D') (N*N') [p*q]:=by
 refine⟨XB h.1 h'.1,fun x hx=>?_⟩;rw[Z3.1 hx];obtain⟨n,e1,e2⟩:=h.2 p (by simp);obtain⟨m,e3,e4⟩:=h'.2 q (by simp);refine⟨n*m,?_,by rw[Y2];exact XZ e2 e4⟩;rw[Zi,<- e1,<- e3,Int.natCast_mul,Zi];grind
theorem Cd.qb{D N e:Nat}{l:List Rat}(h:Cd D N l)(hD:D<2^e)(hN:N<2^e){q:Rat}(hq:q∈l):Qb e q:=by
 obtain⟨n,h1,h2⟩:=h.2 q hq
 have V8:((D:Int):Rat)≠0:=by
  intro h0;have:(D:Int)=0:=Rat.intCast_eq_zero_iff.1 h0;have:=h.1;omega
 have i3:q=Zd n D:=by
  rw[Rat.divInt_eq_div,<- h1,Rat.mul_div_cancel V8]
 have h0:=h.1;obtain⟨e1,e2⟩:=ym (n:=n) (d:=(D:Int)) oz;rw[i3];refine⟨by omega,by rw[aaq]at e2;omega⟩
def rR(D:Nat):Nat->Nat
  |0=>1
  |j+1=>rR D j*rR D j*D
def rM(D N:Nat):Nat->Nat
  |0=>1
  |j+1=>2*(rM D N j*rM D N j*(D+N))
theorem kW{D:Nat}(h:0<D):∀j,0<rR D j
 |0=>by simp[rR]
 |j+1=>XB (XB (kW h j) (kW h j)) h
theorem nH(D N:Nat):∀j,rR D j<=rM D N j
 |0=>Z0 _
 |j+1=>by
  have h1:=XZ (XZ (nH D N j) (nH D N j)) (Xs D N);simp only[rR,rM];omega
theorem LH(ts:LL)(m D N:Nat)(vS:∀j,j<m->Nl j (ts.getD j [])/\Cd D N (ts.getD j []))(hD:0<D)(j k:Nat)(a b:List Rat)(hj:j<=m)(hk:j<=k)(ha:Nl j a)(hb:Nl j b)
  {Da Na Db Nb:Nat} (ca:Cd Da Na a) (cb:Cd Db Nb b):Cd (Da*Db*rR D j) (Na*Nb*rM D N j) (pT ts k a b):=by
 have key:=FK ts (fun j a b c=>Nl j c/\(j<=m->∀Da Na Db Nb:Nat,Cd Da Na a->Cd Db Nb b->Cd (Da*Db*rR D j) (Na*Nb*rM D N j) c)) ?_ ?_ ?_ ?_ ?_ ?_ (fun _ _ _ _ h=>h.1) m (fun j hj=>(vS j hj).1) j k a b hj hk ha hb
 ·exact key.2 hj _ _ _ _ ca cb
 ·intro j a b c h;refine⟨h.1,fun hj Da Na Db Nb ca cb=>?_⟩;rw[X6 Da,X6 Na];exact h.2 hj _ _ _ _ cb ca
 ·intro j a b ha hb h;exact⟨.inl rfl,fun hj Da Na Db Nb ca cb=>Cd.nil (XB (XB ca.1 cb.1) (kW hD j))⟩
 ·intro j p q;refine⟨.inr ⟨0,aaf _,rfl⟩,fun hj Da Na Db Nb ca cb=>?_⟩;have h1:=(ca.mul1 cb).scale (kW hD j);exact h1.mono (Z4 _ (nH D N j))
 ·intro j a b c ha hb h;refine ⟨h.1.mono oz,fun hj Da Na Db Nb ca cb=>?_⟩;have h1:=(h.2 oz _ _ _ _ ca cb).scale (XB (kW hD j) hD);have e1:Da * Db * rR D j * (rR D j * D) = Da * Db * rR D (j + 1):=by simp only [rR]; grind
  rw[e1]at h1;refine h1.mono ?_;have h2:=Z4 (rM D N j) (XZ (nH D N j) (Xs D N));have h3:rM D N j*(rR D j*D)<=rM D N (j+1):=by simp only[rM,XJ]at *;omega
  rw[XJ (Na*Nb)];exact Z4 _ h3
 ·intro j a b c d ha hb hc hd;refine ⟨.inr ⟨j + 1,Z0 _,by rw [tx hc.1.le hd.1.le,X0]; omega⟩,fun hj Da Na Db Nb ca cb=>?_⟩;have ca1:Cd Da Na (a.take (2 ^ j)):=ca.sub (fun q hq=>Yk hq);have ca2:Cd Da Na (a.drop (2 ^ j)):=ca.sub (fun q hq=>YI hq);have h1:=((hc.2 oz _ _ _ _ ca1 cb).join (hd.2 oz _ _ _ _ ca2 cb) (n:=2 ^ j)).scale (XB (kW hD j) hD);have e1:Da * Db * rR D j * (rR D j * D) = Da * Db * rR D (j + 1):=by simp only [rR]; grind
  rw[e1]at h1;refine h1.mono ?_;have h2:=Z4 (rM D N j) (XZ (nH D N j) (Xs D N));have h3:rM D N j*(rR D j*D)<=rM D N (j+1):=by simp only[rM,XJ]at *;omega
  rw[XJ (Na*Nb)];exact Z4 _ h3
 ·intro j a b c1 c2 c3 c4 c5 ha hb h1 h2 h3 h4 h5;refine⟨.inr ⟨j+1,Z0 _,?_⟩,fun hj Da Na Db Nb ca cb=>?_⟩
  ·have l1:=h1.1.le;have l3:=h3.1.le;have l4:=h4.1.le;have l5:=h5.1.le;rw[tx (by rw[eW];omega) (by rw[eW];omega),X0];omega
  have ca1:Cd Da Na (a.take (2^j)):=ca.sub (fun q hq=>Yk hq);have ca2:Cd Da Na (a.drop (2^j)):=ca.sub (fun q hq=>YI hq);have cb1:Cd Db Nb (b.take (2^j)):=cb.sub (fun q hq=>Yk hq);have cb2:Cd Db Nb (b.drop (2^j)):=cb.sub (fun q hq=>YI hq);have k2:=h2.2 oz _ _ _ _ ca2 cb2;have k3:=h3.2 oz _ _ _ _ k2 (vS j oz).2;have k1:=(h1.2 oz _ _ _ _ ca1 cb1).scale (XB (kW hD j) hD);have k4:=(h4.2 oz _ _ _ _ ca1 cb2).scale (XB (kW hD j) hD);have k5:=(h5.2 oz _ _ _ _ ca2 cb1).scale (XB (kW hD j) hD);have e1:Da*Db*rR D j*(rR D j*D)=Da*Db*rR D (j+1):=by simp only[rR];grind
  have e3:Da*Db*rR D j*D*rR D j=Da*Db*rR D (j+1):=by simp only[rR];grind
  rw[e1]at k1 k4 k5;rw[e3]at k3;have b1:rM D N j*(rR D j*D)<=rM D N j*rM D N j*D:=by rw[XJ];exact Z4 _ (aad _ (nH D N j))
  have b2:∀x,Na*Nb*rM D N j*(rR D j*D)+Na*Nb*x<=Na*Nb*(rM D N j*rM D N j*D+x):=by
   intro x;rw[Xy,XJ (Na*Nb)];exact Nat.add_le_add_right (Z4 _ b1) _
  refine Cd.join (Cd.mono (k1.plus k3) ?_) (Cd.mono (k4.plus k5) ?_)
  ·have e4 : Na * Nb * rM D N j * N * rM D N j = Na * Nb * (rM D N j * rM D N j * N) := by grind
   rw[e4];refine aaj (b2 _) (Z4 _ ?_);simp only[rM];rw[<- Xy];omega
  ·have e4 : Na * Nb * rM D N j * (rR D j * D) <= Na * Nb * (rM D N j * rM D N j * D) := by rw [XJ (Na * Nb)]; exact Z4 _ b1
   refine aaj (Nat.add_le_add e4 e4) ?_;rw[<- Xy];refine Z4 _ ?_;simp only[rM];have:=Z4 (rM D N j*rM D N j) (Xs D N);omega
def eB(r:Nat):Nat->Nat
  |0=>0
  |j+1=>2*eB r j+r+2
theorem yX{D N r:Nat}(hD:D<=2^r)(hN:N<=2^r):∀j,rM D N j<=2^eB r j
 |0=>Z0 _
 |j+1=>by
  have h1:=yX hD hN j;have h2:=XZ (XZ h1 h1) (Nat.add_le_add hD hN);simp only[rM,eB]
  have e:2^(2*eB r j+r+2)=2*(2^eB r j*2^eB r j*(2^r+2^r)):=by
   rw[aat,aat,Nat.two_mul,aat];grind
  rw[e];exact Z4 _ h2
def Cb(e:Nat)(l:List Rat):Prop:=∃D N,Cd D N l/\D<=2^e/\N<=2^e
def RB(r:Nat)(ts:LL):Prop:=∃D N,0<D/\(∀d∈ts,Cd D N d)/\D<=2^r/\N<=2^r
theorem cV{a b:Nat}(h:a<=b):2^a<=2^b:=Xt oz h
theorem Cb.mono{e f:Nat}{l:List Rat}(h:Cb e l)(hf:e<=f):Cb f l:=by
 obtain⟨D,N,h1,h2,h3⟩:=h;exact⟨D,N,h1,aaj h2 (cV hf),aaj h3 (cV hf)⟩
theorem Cb.sub{e:Nat}{l l':List Rat}(h:Cb e l)(hs:∀q∈l',q∈l):Cb e l':=by
 obtain⟨D,N,h1,h2,h3⟩:=h;exact⟨D,N,h1.sub hs,h2,h3⟩
theorem Cb.take{e n:Nat}{l:List Rat}(h:Cb e l):Cb e (l.take n):=h.sub (fun q hq=>Yk hq)
theorem Cb.drop{e n:Nat}{l:List Rat}(h:Cb e l):Cb e (l.drop n):=h.sub (fun q hq=>YI hq)
theorem Cb.nil:Cb 0 []:=⟨1,1,Cd.nil oz,by simp,by simp⟩
theorem Cb.wide{e n:Nat}{a:List Rat}(h:Cb e a):Cb e (a9 a n):=by
 obtain⟨D,N,h1,h2,h3⟩:=h;exact⟨D,N,h1.wide,h2,h3⟩
theorem Cb.minus{e:Nat}{a:List Rat}(h:Cb e a):Cb e (dU a):=by
 obtain⟨D,N,h1,h2,h3⟩:=h;exact⟨D,N,h1.minus,h2,h3⟩
theorem Cb.plus{e f:Nat}{a b:List Rat}(h:Cb e a)(h':Cb f b):Cb (e+f+1) (cJ a b):=by
 obtain⟨D,N,h1,h2,h3⟩:=h;obtain⟨D',N',h4,h5,h6⟩:=h';have k1:=h1.scale h4.1;have k2:=h4.scale h1.1;rw[X6 D']at k2;refine⟨_,_,k1.plus k2,?_,?_⟩
 ·rw[X0,aat];have:=XZ h2 h5;omega
 ·rw[X0,aat];have e1:=XZ h3 h5;have e2:=XZ h6 h2;rw[X6 (2^f)]at e2;omega
theorem Cb.qb{e:Nat}{l:List Rat}(h:Cb e l){q:Rat}(hq:q∈l):Qb (e+1) q:=by
 obtain⟨D,N,h1,h2,h3⟩:=h;have:=XA e;exact h1.qb (by rw[X0];omega) (by rw[X0];omega) hq
theorem Cb.qs{e:Nat}{l:List Rat}(h:Cb e l)(he:e<4398046511104){q:Rat}(hq:q∈l):Qs q:=(h.qb hq).qs he
def mJ(ts:LL)(m r:Nat):Prop:=(∀j,j<m->Nl j (ts.getD j []))/\RB r ts
theorem RB.get{r:Nat}{ts:LL}(h:RB r ts):∃D N,0<D/\(∀j,Cd D N (ts.getD j []))/\D<=2^r/\N<=2^r:=by
 obtain⟨D,N,h0,h1,h2,h3⟩:=h;refine⟨D,N,h0,fun j=>?_,h2,h3⟩;rw[ZS];cases hx:ts[j]? with
 |none=>exact Cd.nil h0
 |some d=>exact h1 d (ZR hx)
theorem RB.cb{r:Nat}{ts:LL}(h:RB r ts)(j:Nat):Cb r (ts.getD j []):=by
 obtain⟨D,N,h0,h1,h2,h3⟩:=h.get;exact⟨D,N,h1 j,h2,h3⟩
theorem Cb.mul{ts:LL}{m r:Nat}(ht:mJ ts m r){j k e f:Nat}{a b:List Rat}(hj:j<=m)(hk:j<=k)(ha:Nl j a)(hb:Nl j b)(ca:Cb e a)(cb:Cb f b) :
  Cb (e+f+eB r j) (pT ts k a b):=by
 obtain⟨D,N,h0,h1,h2,h3⟩:=ht.2.get;obtain⟨Da,Na,a1,a2,a3⟩:=ca;obtain⟨Db,Nb,b1,b2,b3⟩:=cb;refine⟨_,_,LH ts m D N (fun j hj=>⟨ht.1 j hj,h1 j⟩) h0 j k a b hj hk ha hb a1 b1,?_,?_⟩
 ·rw[aat,aat];exact XZ (XZ a2 b2) (aaj (nH D N j) (yX h2 h3 j))
 ·rw[aat,aat];exact XZ (XZ a3 b3) (yX h2 h3 j)
theorem A6(r:Nat):∀j,eB r j<=eB r (j+1):=fun j=>by simp only[eB];omega
def sB(r:Nat):Nat->Nat->Nat
  |0,e=>e
  |j+1,e=>sB r j (4*e+3*eB r j+r+1)
theorem zU(r:Nat):∀j e,e<=sB r j e
 |0,e=>Z0 _
 |j+1,e=>by have:=zU r j (4*e+3*eB r j+r+1);simp only[sB];omega
theorem tF(r:Nat):∀j {e f:Nat},e<=f->sB r j e<=sB r j f
 |0,e,f,h=>h
 |j+1,e,f,h=>by simp only[sB];exact tF r j oz
theorem Nc(r j e:Nat):sB r j e<=sB r (j+1) e:=by simp only[sB];exact tF r j oz
theorem wc(r e:Nat){i j:Nat}(h:i<=j):sB r i e<=sB r j e:=by
  induction j with
  | zero => have : i = 0 := by omega
            subst this;exact Z0 _
  |succ j ih =>
    by_cases fk:i=j+1
    · rw[fk];exact Z0 _
    · exact aaj (ih oz) (Nc r j e)
theorem MB(r e:Nat){j:Nat}(h:j<=2):sB r j e<=16*e+17*r+29:=by
 refine aaj (wc r e h) ?_;simp only[sB,eB];omega
theorem Kb(r e:Nat){j:Nat}(h:j<=3):sB r j e<=64*e+177*r+333:=by
 refine aaj (wc r e h) ?_;simp only[sB,eB];omega
def lm(n:Nat):Nat:=if n<=2 then 200000000000 else 50000000000
theorem mR(n:Nat):lm n<=200000000000:=by unfold lm;split <;> omega
theorem ui(n:Nat):50000000000<=lm n:=by unfold lm;split <;> omega
theorem O8(r:Nat){j:Nat}(h:j<=5):eB r j<=31*(r+2):=by
 have:∀i,eB r i<=eB r (i+1):=A6 r
 have h5:eB r j<=eB r 5:=by
  match j,h with
  |0,_=>simp only[eB];omega
  |1,_=>simp only[eB];omega
  |2,_=>simp only[eB];omega
  |3,_=>simp only[eB];omega
  |4,_=>simp only[eB];omega
  |5,_=>exact Z0 _
 refine aaj h5 ?_;simp only[eB];omega
def nA(l:List Rat):AV:=.lst 3 (l.map qA)
def nR(l:List Rt):AV:=.lst 3 (l.map Rt.av)
def cX(ts:LL):AV:=.agg [.lst 1 (ts.map nA)]
def eI(ts:List (List Rt)):AV:=.agg [.lst 1 (ts.map nR)]
def oK(n:Nat):Nat:=if n<=1 then 0 else(n-1).log2+1
theorem GC{n k:Nat}(h1:∀j,j<k->2^j<n)(h2:n<=2^k):oK n=k:=by
 unfold oK;split
 ·rename_i h;cases k with
  |zero=>rfl
  |succ k=>have:=h1 0 oz;omega
 ·rename_i h;cases k with
  |zero=>simp at h2;omega
  |succ k =>
   have h3:=h1 k oz;congr 1;rw[Nat.log2_eq_iff oz];omega
def eg(n:Nat):Int:=if 2^oK n=n then(oK n:Int)else -1
theorem MN(j:Nat):oK (2^j)=j:=GC (fun i hi=>X2 oz hi) (Z0 _)
theorem qI(j:Nat):eg (2^j)=j:=by unfold eg;rw[MN,aa2 rfl]
theorem Sw{n:Nat}(h:0<=eg n):∃j:Nat,n=2^j/\eg n=(j:Int):=by
 unfold eg at h ⊢;split at h
 ·rename_i h1;exact⟨oK n,h1.symm,by rw[aa2 h1]⟩
 ·omega
theorem yt{k:Nat}(hk:k<=62):IntKind.i64.wrap ((1:Int)*2^(min (k:Int).toNat IntKind.i64.bits))=((2^k:Nat):Int):=by
 have h1:min (k:Int).toNat IntKind.i64.bits=k:=by simp[IntKind.bits];omega
 have h2:2^k<=2^62:=cV hk;have h3:(2:Nat)^62=4611686018427387904:=by decide
 have h4:((2:Int)^k)=((2^k:Nat):Int):=by simp
 rw[h1,Int.one_mul,h4];generalize 2^k=x at *;exact i64_in oz
def cG(m:Nat)(a:List Rt):Nat:=if a≠[]/\(eg a.length<0\/(m:Int)<eg a.length)then 10 else if a.all Rt.valid then 0 else 2
theorem wR{m:Nat}{a:List Rt}(h:cG m a=0)(bc:∀r∈a,r.ok):a=(a.map Rt.q).map rt/\Nl m (a.map Rt.q):=by
 unfold cG at h;split at h
 ·cases h
 ·rename_i h1;split at h
  ·rename_i h2;rw[Z6]at h2;refine⟨?_,?_⟩
   ·rw[map_map];refine(map_id _).symm.trans ?_;exact YD (fun r hr=>Rt.eq_rt (bc r hr) (h2 r hr))
   ·by_cases h0:a=[]
    ·subst h0;exact .inl rfl
    ·have h3:0<=eg a.length/\eg a.length<=m:=by
      constructor
      ·exact Int.not_lt.1 (fun h=>h1 ⟨h0,.inl h⟩)
      ·exact Int.not_lt.1 (fun h=>h1 ⟨h0,.inr h⟩)
     obtain⟨j,e1,e2⟩:=Sw h3.1;exact .inr ⟨j,by omega,by rw[ZU,e1]⟩
  ·cases h
theorem fS(l:List Rat):nR (l.map rt)=nA l:=by
 unfold nR nA;rw[map_map];rfl
theorem Nl.len5{k:Nat}{a:List Rat}(h:Nl k a)(hk:k<=5):a.length<=32:=aaj h.le (cV (b:=5) hk)
theorem qZ:jF (.agg [.v (.bool false),.v (.slice none 0 0),.v (.slice none 0 0)]) (qA 0):=by
 refine⟨rfl,?_⟩;intro j x y hx hy
 match j,hx,hy with
 |0,hx,hy=>cases hx;cases hy;exact⟨rfl,.refl _⟩
 |1,hx,hy=>cases hx;cases hy;exact⟨rfl,.nil _ _ _⟩
 |2,hx,hy=>cases hx;cases hy;exact⟨rfl,.nil _ _ _⟩
theorem jF.refl{e:AV}(h:∀c∈e.cells,c.one=true):jF e e :=
 ⟨rfl,fun j x y hx hy=>by rw[hx]at hy;cases hy;exact⟨h x (ZR hx),.refl _⟩⟩
theorem N1(q:Rat):∀c∈(qA q).cells,c.one=true:=by
 intro c hc;have:c=bl (rt q).neg\/c=ws (rt q).num\/c=ws (rt q).den:=by simpa[qA,Rt.av,AV.cells]using hc
 rcases this with rfl |rfl |rfl <;> rfl
theorem BC(a:List Rat)(n:Nat)(h:a.length<=n) :
  BlkSub (.row 3 (a.map qA++(YO n (.agg [.v (.bool false),.v (.slice none 0 0),.v (.slice none 0 0)])).drop (a.map qA).length)) (.row 3 ((a9 a n).map qA)):=by
 refine .row ?_ ?_
 ·simp only[a9,aah,ZU,List.length_drop,Yq]
 ·intro i e e' he he'
  by_cases hi:i<a.length
  ·rw[aae (by simpa using hi)]at he;simp only[a9,aas]at he';rw[aae (by simpa using hi),he]at he';cases he';simp only[ZZ,ZX]at he;obtain⟨q,_,rfl⟩:=he;exact jF.refl (N1 q)
  ·rw [aac (by simpa using hi), List.drop_replicate, YS] at he;simp only [a9,aas] at he';rw [aac (by simpa using hi),aau,YS] at he';split at he
   ·cases he;split at he'
    ·cases he';exact qZ
    ·cases he'
   ·cases he
theorem DA{p w:List Rat}{i:Nat}{s:Rat}(hl:p.length=w.length)(hi:i<p.length)(hs:p[i]=s) :
  ((p.take i++w.drop i).map qA).set i (qA s)=(p.take (i+1)++w.drop (i+1)).map qA:=by
 rw[<- aaw];congr 1;subst hs;rw[List.set_append_right i _ (by simp;omega)];have h1:i-(p.take i).length=0:=by simp;omega
 rw[h1,Yd oz,List.set_cons_zero,Ye hi,aay];rfl
theorem S2{a b:List Rat}{i:Nat}(hi:i<(cJ a b).length) :
  (cJ a b)[i]=(a9 a (max a.length b.length)).getD i 0+(a9 b (max a.length b.length)).getD i 0:=by
 have h:=H1 (a:=a) (b:=b) (i:=i);rw[ZS,ZV hi,ZO]at h;rw[h,mU,mU]
theorem getD_some{l:List Rat}{i:Nat}(h:i<l.length):l[i]?=some (l.getD i 0):=by
 rw[ZS,ZV h];rfl
theorem wm{l:List Rat}{i:Nat}(h:i<l.length):l.getD i 0∈l:=by
 rw[ZS,ZV h];exact Yy h
theorem HC{p w:List Rat}{i:Nat}(hl:p.length=w.length)(hi:i<p.length):(p.take i++w.drop i)[i]?=some (w.getD i 0):=by
 rw[aac (by simp;omega),aar];have:i+(i-(p.take i).length)=i:=by simp;omega
 rw[this];exact getD_some oz
theorem d7{α:Type}{l:List α}{i:Nat}{x:α}(h:l[i]?=some x):l.take (i+1)=l.take i++[x]:=by
 obtain⟨hi,rfl⟩:=YA.1 h;exact Ye hi
theorem w9{q:Rat}(h:asQ q=0):q=0:=by
 unfold asQ at h;split at h
 ·cases h
 ·split at h
  ·cases h
  ·grind
theorem Qc:rt 0=⟨false,[],[]⟩:=rfl
theorem Nn{q:Rat}(h:cond (cond (rt q).neg true (aa .gtr ((rt q).num.length:Int) 0)) true (aa .gtr ((rt q).den.length:Int) 0)=true):q≠0:=by
 intro h0;rw[h0,Qc]at h;cases h
theorem Q4{q:Rat}(h:cond (cond (rt q).neg true (aa .gtr ((rt q).num.length:Int) 0)) true (aa .gtr ((rt q).den.length:Int) 0)=false):q=0:=by
 cases hn:(rt q).neg
 ·rw[hn]at h;cases hm:aa .gtr ((rt q).num.length:Int) 0
  ·have h1:(rt q).num=[]:=by
    cases hl:(rt q).num with
    |nil=>rfl
    |cons x l=>rw[hl]at hm;simp[aa]at hm
   rw[<- bQ q];exact Rt.zero (fun h=>h.2 h1)
  ·rw[hm]at h;cases h
 ·rw[hn]at h;cases h
theorem q4{n:Nat}(h:n<=281474976710656):IntKind.i64.wrap ((n:Int).tdiv 2)=((n/2:Nat):Int):=by
 rw[show((n:Int).tdiv 2)=((n/2:Nat):Int)from(Int.ofNat_tdiv n 2).symm];exact i64_in oz
theorem EV{m j:Nat}{a:List Rat}(h:a.length<=2^j)(hj:j<=m):dq m a=dq j a:=by
  induction m with
  | zero => have : j = 0 := by omega
            subst this;rfl
  |succ m ih =>
    by_cases IN:j=m+1
    · rw[IN]
    · have h1:a.length<=2^m:=aaj h (cV oz)
      have h2:dq (m+1) a=if aV (a.drop (2^m))=true then dq m (a.take (2^m))else a:=rfl;rw[h2,aal h1,aa2 PL,aag h1];exact ih oz
def mh(a:List Rat)(n:Nat):Prop:=(n=0/\a=[])\/∃i,n=2^i/\i<=5/\n<=a.length/\dq 5 a=dq i (a.take n)
theorem Mb{a:List Rat}(h:Nl 5 a):mh a a.length:=by
 rcases h with rfl |⟨j,hj,h⟩
 ·exact .inl ⟨rfl,rfl⟩
 ·exact .inr ⟨j,h,hj,Z0 _,by rw[aab];exact EV oz hj⟩
theorem Bh{a:List Rat}{i:Nat}:(a.drop (2^i)).take (2^(i+1)-2^i)=(a.take (2^(i+1))).drop (2^i):=by
 rw[List.drop_take]
theorem M5{a:List Rat}{n:Nat}(h:mh a n)(h1:1<n)(hz:aV ((a.drop (n/2)).take (n-n/2))=true):mh a (n/2):=by
 rcases h with⟨h,_⟩ |⟨i,rfl,hi,hl,hs⟩
 ·omega
 ·cases i with
  |zero=>simp at h1
  |succ i =>
   rw[ma]at hz ⊢;rw[Bh]at hz;have h2:dq (i+1) (a.take (2^(i+1)))=if aV ((a.take (2^(i+1))).drop (2^i))=true then dq i ((a.take (2^(i+1))).take (2^i))else a.take (2^(i+1)):=rfl;rw[h2,aa2 hz,Yn,X7 (cV oz)]at hs;exact .inr ⟨i,rfl,by omega,aaj (cV oz) hl,hs⟩
theorem Uv{a:List Rat}(h:mh a 1)(hz:aV (a.take 1)=true):dq 5 a=[]:=by
 rcases h with⟨h,_⟩ |⟨i,h0,hi,hl,hs⟩
 ·omega
 ·have:i=0:=by
   cases i with
   |zero=>rfl
   |succ i=>rw[X0]at h0;omega
  subst this;rw[hs];show(if aV (a.take 1)=true then[]else _)=_;rw[aa2 hz]
theorem O2{a:List Rat}{n:Nat}(h:mh a n)(h1:1<n->aV ((a.drop (n/2)).take (n-n/2))=false)(h2:n=1->aV (a.take 1)=false):dq 5 a=a.take n:=by
 rcases h with⟨rfl,rfl⟩ |⟨i,rfl,hi,hl,hs⟩
 ·rfl
 ·cases i with
  |zero =>
   rw[hs];show(if aV (a.take 1)=true then[]else _)=_;rw[h2 rfl];rfl
  |succ i =>
   have h3:=h1 (by have:=XA i;rw[X0];omega);rw[ma,Bh]at h3;rw[hs];have h4:dq (i+1) (a.take (2^(i+1)))=if aV ((a.take (2^(i+1))).drop (2^i))=true then dq i ((a.take (2^(i+1))).take (2^i))else a.take (2^(i+1)):=rfl;rw[h4,h3];rfl
theorem mh.le{a:List Rat}{n:Nat}(h:mh a n):n<=a.length:=by
 rcases h with⟨rfl,rfl⟩ |⟨i,rfl,hi,hl,hs⟩
 ·exact Z0 _
 ·exact hl
theorem wd(a:List Rat)(l m:Nat):AV.lst 3 (((a.map qA).drop l).take m)=nA ((a.drop l).take m):=by
 unfold nA;rw[map_take,List.map_drop]
theorem TQ{n:Nat}{a:List Rat}(h:Nl n a)(hn:n<=5):dq 5 a=sh n (am n a):=by
 rw[EV h.le hn,xn n h]
theorem BlkSub.of_{x y z:Blk}(h:BlkSub x y)(e:z=x):BlkSub z y:=e▸h
theorem QL{a:List Rat}{i:Nat}(hi:i<(dU a).length):(dU a)[i]=-(a.getD i 0):=by
 have h:=Gt (a:=a) (i:=i);rw[ZS,ZV hi,ZO]at h;exact h
open Go.Proofs
theorem q6{α:Type}(f:α->AV)(l:List α)(hl:l.length<=281474976710656):FP 244 [.lst 3 (l.map f)] (i64 (eg l.length)):=by
 refine ai func244 ?_;refine aK [0] [] (fun(k:Nat)=>[pP 3 (i64 k)]) (fun _=>[]) (fun k=>k<=48/\∀j,j<k->2^j<l.length) (fun k=>48-k) 0 ⟨by omega,fun j h=>by omega⟩ ?_;rintro k ⟨hk,hj⟩ K1 J1;refine gs (jk (.const _) (.tmp rfl) oz (yt oz) rfl) ?_;refine gl ?_;refine gC (fun z=>?_) (fun z=>?_)
 ·have h1 : 2 ^ k < l.length := by have := z; simp only [aa, aa3] at this; omega
  have h2:k<48:=by
   rcases Z2 k 48 with h |h
   ·exact h
   ·have:2 ^ 48 <= 2 ^ k:=cV h;have:(2:Nat) ^ 48 = 281474976710656:=by decide
    omega
  refine ga (cf oz) ?_;exact aG J1 (k+1) ⟨by omega,fun j h=>by rcases Z2 j k with h3 |h3;exact hj j h3;(have:j=k:=by omega);subst this;exact h1⟩
 have h1:l.length<=2^k:=by have:=z;simp only[aa,decide_eq_false_iff_not]at this;omega
 have h2:=GC hj h1;refine gs (jk (.const _) (.tmp rfl) oz (yt oz) rfl) ?_;refine gl ?_;refine gC (fun z=>?_) (fun z=>?_)
 ·have h3 : 2 ^ k ≠ l.length := by have := z; simp only [aa, bne_iff_ne, ne_eq] at this; omega
  refine af ?_;unfold eg;rw[h2,aa1 h3];rfl
 have h3:2^k=l.length:=by have:=z;simp only[aa,bne_eq_false_iff_eq]at this;omega
 refine af ?_;unfold eg;rw[h2,aa2 h3]
theorem CF(ts:List (List Rt))(a:List Rt)(ha:∀r∈a,r.ok)(hl:a.length<=281474976710656)(ht:ts.length<=281474976710656):FP 186 [eI ts,nR a] (be (cG ts.length a)):=by
 refine ai func186 ?_;refine gl ?_;refine PK [1,4] [] [] [] (¬(a≠[]/\(eg a.length<0\/(ts.length:Int)<eg a.length))) ?_ ?_
 ·intro K1 J1;refine gC (fun t10=>?_) (fun t10=>?_)
  ·have h0 : a ≠ [] := fun h => by rw [h] at t10; simp [aa] at t10
   refine gc (q6 Rt.av a hl) ?_;refine cu ?_;refine gC (fun t21=>?_) (fun t21=>?_)
   ·have h1:eg a.length<0\/(ts.length:Int)<eg a.length:=by
     have h9:=t21
     by_cases h:eg a.length<0
     ·exact .inl h
     ·simp only[aa,aa7 h,cond_false,aa3]at h9;exact .inr h9
    refine af ?_;unfold cG;rw[aa2 ⟨h0,h1⟩];rfl
   have h1:¬(eg a.length<0\/(ts.length:Int)<eg a.length):=by
    have h9:=t21
    by_cases h:eg a.length<0
    ·simp only[aa,aa6 h,cond_true]at h9;cases h9
    ·simp only[aa,aa7 h,cond_false,decide_eq_false_iff_not]at h9;exact fun h'=>h'.elim h h9
   exact Ho J1 (fun h=>h1 h.2)
  have h0:a=[]:=by
   cases a with
   |nil=>rfl
   |cons c l=>simp[aa]at t10
  exact Ho J1 (fun h=>h.1 h0)
 rintro hn;refine gl ?_;refine aK [23,24] [] (fun(i:Nat)=>[pP 25 (i64 i)]) (fun _=>[]) (fun i=>i<=a.length/\(a.take i).all Rt.valid=true) (fun i=>a.length-i) 0 ⟨aaf _,by simp⟩ ?_;rintro i ⟨hi,hv⟩ K2 J2;refine gC (fun z=>?_) (fun z=>?_)
 ·have ab : i < a.length := by simpa [aa] using z
  obtain⟨r,hr⟩:=aJ ab;have V9:=ha r (ZR hr);refine gi (ao hr) ?_;refine gc (kD r V9) ?_;refine gC (fun z=>?_) (fun z=>?_)
  ·have vT : r.valid = false := by simpa using z
   refine af ?_;unfold cG;rw[aa1 hn,aa1]
   ·rfl
   ·rw[Z6];intro h;rw[h r (ZR hr)]at vT;cases vT
  have vT:r.valid=true:=by simpa using z
  refine ga aF ?_;exact aG J2 (i+1) ⟨by omega,by rw[d7 hr,Yp,hv];simp[vT]⟩
 have ab:i=a.length:=by have:a.length<=i:=(by simpa[aa]using z);omega
 subst ab;rw[aab]at hv;refine af ?_;unfold cG;rw[aa1 hn,aa2 hv];rfl
theorem Es(a:List Rat)(ha:∀q∈a,Qs q)(hl:a.length<=281474976710656):FP 340 [nA a] (bl (aV a)):=by
 refine ai func340 ?_;refine gl ?_;refine aK [5,6] [] (fun(i:Nat)=>[pP 7 (i64 i)]) (fun _=>[]) (fun i=>i<=a.length/\aV (a.take i)=true) (fun i=>a.length-i) 0 ⟨aaf _,by simp[aV]⟩ ?_;rintro i ⟨hi,hv⟩ K1 J1;refine gC (fun z=>?_) (fun z=>?_)
 ·have ab : i < a.length := by simpa [aa] using z
  obtain⟨q,hq⟩:=aJ ab;have pX:=ha q (ZR hq);refine gi (ao hq) ?_;refine gc (yh (rt q) pX.ok) ?_;refine gC (fun t13=>?_) (fun t13=>?_)
  ·have h0:q≠0:=by
    intro h;have h9:=t13;rw[bQ,h]at h9;cases h9
   refine af ?_
   have:aV a=false:=by
    rw[Zn];intro h;exact h0 (by simpa using Z6.1 h q (ZR hq))
   rw[this];rfl
  have h0:q=0:=by
   have h9:asQ q=0:=by have:=t13;rw[bQ]at this;simpa[aa]using this
   exact w9 h9
  refine ga aF ?_;exact aG J1 (i+1) ⟨by omega,by rw[d7 hq];simp only[aV,Yp,ZW];exact⟨hv,by simp[h0]⟩⟩
 have ab:i=a.length:=by have:a.length<=i:=(by simpa[aa]using z);omega
 subst ab;rw[aab]at hv;refine af ?_;rw[hv];rfl
theorem El(a:List Rat)(hl:a.length<=281474976710656):FP 246 [nA a] (bl (aV a)):=by
 refine ai func246 ?_;refine gl ?_;refine aK [5,6] [] (fun(i:Nat)=>[pP 7 (i64 i)]) (fun _=>[]) (fun i=>i<=a.length/\aV (a.take i)=true) (fun i=>a.length-i) 0 ⟨aaf _,by simp[aV]⟩ ?_;rintro i ⟨hi,hv⟩ K1 J1;refine gC (fun z=>?_) (fun z=>?_)
 ·have ab : i < a.length := by simpa [aa] using z
  obtain⟨q,hq⟩:=aJ ab;refine gi (ao hq) ?_;refine cu ?_;refine cu ?_;refine gC (fun z=>?_) (fun z=>?_)
  ·have h0:q≠0:=Nn z;refine af ?_
   have:aV a=false:=by
    rw[Zn];intro h;exact h0 (by simpa using Z6.1 h q (ZR hq))
   rw[this];rfl
  have h0:q=0:=Q4 z;refine ga aF ?_;exact aG J1 (i+1) ⟨by omega,by rw[d7 hq];simp only[aV,Yp,ZW];exact⟨hv,by simp[h0]⟩⟩
 have ab:i=a.length:=by have:a.length<=i:=(by simpa[aa]using z);omega
 subst ab;rw[aab]at hv;refine af ?_;rw[hv];rfl
theorem Rx(a:List Rat)(ha:∀q∈a,Qs q)(hl:a.length<=1099511627776):FP 245 [nA a] (nA a):=by
 refine ai func245 ?_;refine gl ?_;refine gW (Wk.virt 900 3 rfl) ?_;refine aK [6,7] [] (fun(i:Nat)=>[pP 3 (.ms 900 3 0 i),pP 8 (i64 i)]) (fun i=>[pP 900 (.row 3 ((a.take i).map qA))]) (fun i=>i<=a.length) (fun i=>a.length-i) 0 (aaf _) ?_;rintro i hi K1 J1;refine gC (fun z=>?_) (fun z=>?_) (st2:=(7,0))
 ·have ab : i < a.length := by simpa [aa] using z
  obtain⟨q,hq⟩:=aJ ab;have pX:=(ha q (ZR hq)).ok;have lA:(rt q).num.length<=137438953472:=pX.2.2.1;have lG:(rt q).den.length<=137438953472:=pX.2.2.2;refine gi (ao hq) ?_;refine gs (kP T22 rfl T142 rfl rfl rfl) ?_;refine gs (wJ (.tmp rfl) rfl rfl (.tmp rfl) T22 rfl T142 rfl rfl (by simp only[ZU];omega) rfl rfl) ?_;refine gs (kP T22 rfl T142 rfl rfl rfl) ?_;refine gs (wJ (.tmp rfl) rfl rfl (.tmp rfl) T22 rfl T142 rfl rfl (by simp only[ZU];omega) rfl rfl) ?_;refine gs (cU (.tmp rfl) rfl (by simp;omega) (.tmp rfl) T188 rfl T24 rfl rfl (by simp;omega) rfl rfl) ?_;refine gD ?_ (6,0);refine gW (Wk.of (sl:=[pP 3 (.ms 25 3 0 (i+1)),pP 6 (nA a),pP 7 (i64 a.length),pP 8 (i64 i)]) (hp:=[pP 25 (.row 3 ((a.take (i+1)).map qA))]) aI (.cons rfl (.of (by rw[d7 hq,aas];rfl)) .nil)) ?_ (6,0);refine gW (Wk.rk (k:=25) (d:=900) rfl rfl) ?_;refine ga aF ?_;exact aG J1 (i+1) ab
 have ab:i=a.length:=by have:a.length<=i:=(by simpa[aa]using z);omega
 subst ab;refine gW ((Wk.freeze (k:=900) rfl).trans<|Wk.of (sl:=[pP 3 (nA a)]) (hp:=[]) (.cons rfl (.of (by rw[bH (by simp),aab];rfl)) .nil) .nil) ?_;refine af ?_;rfl
theorem oA{n:Nat}(a:List Rat)(hn:n<=5)(ha:Nl n a)(hs:∀q∈a,Qs q):FP 182 [nA a] (nA (sh n (am n a))):=by
 have hl:=ha.len5 hn;rw[<- TQ ha hn];refine ai func182 ?_;refine gc (q6 qA a oz) ?_;refine gl ?_;refine gC (fun z=>?_) (fun z=>?_) (st1:=(3,0));exact aa8 z (by rcases ha with rfl |⟨j,hj,h⟩;(simp[aa]);(rw[h,qI];simp[aa];omega));refine gl ?_;refine aK [0] [] (fun(m:Nat)=>[pP 4 (i64 m)]) (fun _=>[]) (fun m=>mh a m) (fun m=>m) a.length (Mb (ha.mono hn)) ?_;rintro m hm K1 J1;refine gs (bB rfl rfl rfl (fun h=>kt (.opt rfl (o1 h)) (.const _) oz (q4 (by have:=hm.le;omega)) rfl)) ?_;refine gs (bB rfl rfl rfl (fun h=>d6 (.opt rfl (o1 h)) (.some _ (.opt rfl (o1 h)) oz) (.some _ (.opt rfl (o1 h)) oz) T188 rfl T24 rfl oz (by have:=hm.le;simp;omega) rfl)) ?_;refine aO (fun _=>(by have h9:=El ((a.drop (m/2)).take (m-m/2)) (by simp;omega);rw[<- wd]at h9;exact h9)) ?_;refine gC (fun t31=>?_) (fun t31=>?_)
 ·have h1:1<m/\aV ((a.drop (m/2)).take (m-m/2))=true:=by
   have h9:=t31
   by_cases h:(m:Int)>1
   ·simp only[aa,aa6 h,cond_true]at h9;exact⟨by omega,h9⟩
   ·simp only[aa,aa7 h,cond_false]at h9;cases h9
  refine gs (kt (.tmp rfl) (.const _) oz (q4 (by have:=hm.le;omega)) rfl) ?_;exact aG J1 (m/2) (M5 hm h1.1 h1.2)
 have h1:1<m->aV ((a.drop (m/2)).take (m-m/2))=false:=by
  intro h;have h9:=t31;simp only[aa,aa6 (show(m:Int)>1 by omega),cond_true]at h9;exact h9
 refine gs (bB rfl rfl rfl (fun h=>d6 (.opt rfl (o1 h)) (.none _) (.some _ (.const _) oz) T188 rfl T24 rfl oz (by have h8:(m:Int)=1:=(by simpa[aa]using h);have:=hm.le;simp only[ZU];omega) rfl)) ?_;refine aO (fun _=>(by have h9:=El ((a.drop 0).take 1) (by simp;omega);rw[<- wd]at h9;exact h9)) ?_;refine gC (fun t40=>?_) (fun t40=>?_)
 ·have h2:m=1/\aV (a.take 1)=true:=by
   have h9:=t40
   by_cases h:m=1
   ·rw[h]at h9;exact⟨h,h9⟩
   ·rw[show aa .eql (m:Int) 1=false by simp[aa];omega]at h9;cases h9
  obtain⟨rfl,h3⟩:=h2;refine gR ?_;exact jD (by rw[Uv hm h3];exact Sub.nil _ _ _)
 have h2:m=1->aV (a.take 1)=false:=by
  intro h;have h9:=t40;rw[h]at h9;exact h9
 have h3:=O2 hm h1 h2;refine gs (d6 (.tmp rfl) (.none _) (.some _ (.tmp rfl) oz) T188 rfl T24 rfl oz (by have:=hm.le;simp;omega) rfl) ?_;refine gc (by have h9:=Rx ((a.drop 0).take m) (fun q hq=>hs q (YI (Yk hq))) (by simp;omega);have h8:=h9;rw[<- wd]at h9;exact h9) ?_;refine af ?_;rw[h3];simp[nA,map_take]
theorem xU(d:Nat)(hd:XU d 1000=true)(a:List Rat)(n:Nat)(hl:a.length<=n)(hn:n<=1099511627776) :
  Con prog 337 [nA a,i64 n] [] (.ms d 3 0 n) [(d,some (.row 3 ((a9 a n).map qA)))]:=by
 refine gF func337 (fun k z h=>by cases h) ?_;refine gs (fW (.tmp rfl) T188 rfl T24 rfl rfl oz (by dsimp only;omega) rfl) ?_;refine gs (JE (.tmp rfl) rfl (by simp) (.tmp rfl) T188 rfl T24 rfl rfl (by simp;omega) rfl) ?_ (3,0);refine gW (Wk.of (sl:=[pP 5 (.ms 7 3 0 n)]) (hp:=[pP 7 (.row 3 ((a9 a n).map qA))]) (.cons rfl (.of (by simp)) .nil) (.cons rfl (BC a n hl) .nil)) ?_;refine gR ?_;exact aM.own1 rfl hd rfl
theorem wW(a:List Rat)(n:Nat)(hl:a.length<=n)(hn:n<=1099511627776):FP 337 [nA a,i64 n] (nA (a9 a n)):=by
 have h:=Con.freeze (by rw[ZU,fA hl];omega) (xU 0 rfl a n hl hn);rw[aax,aag (by rw[ZU,fA hl];exact Z0 _)]at h;exact h
theorem nj(a b:List Rat)(ha:∀q∈a,Qs q)(hb:∀q∈b,Qs q)(la:a.length<=1099511627776)(lb:b.length<=1099511627776):FP 308 [nA a,nA b] (nA (cJ a b)):=by
 obtain⟨n,hn⟩:∃n,n=max a.length b.length:=⟨_,rfl⟩
 have Xa:=fA (show a.length<=n by omega);have Xb:=fA (show b.length<=n by omega);have hp:=eW (a:=a) (b:=b);rw[<- hn]at hp;have qa:∀q∈a9 a n,Qs q:=fun q hq=>by rcases ZY.1 hq with h |h;exact ha q h;(rw[(YC.1 h).2];exact Qs.zero)
 have qb:∀q∈a9 b n,Qs q:=fun q hq=>by rcases ZY.1 hq with h |h;exact hb q h;(rw[(YC.1 h).2];exact Qs.zero)
 refine ai func308 ?_;refine gl ?_;refine gl ?_;refine gs (qo (.tmp rfl) (.tmp rfl) rfl) ?_ (2,0);refine gW (Wk.of (sl:=[pP 0 (nA a),pP 1 (nA b),pP 5 (i64 n)]) (hp:=[]) (.k (.k (.cons rfl (Sub.int oz) .nil))) .nil) ?_;refine go ?_;refine gt (bF (xU 900 rfl a n oz oz) (fJ rfl rfl) bW rfl rfl) ?_;refine gc (wW b n oz oz) ?_;refine aK [1,19] [] (fun(i:Nat)=>[pP 0 (.ms 900 3 0 n),pP 20 (i64 i)]) (fun i=>[pP 900 (.row 3 (((cJ a b).take i++(a9 a n).drop i).map qA))]) (fun i=>i<=n) (fun i=>n-i) 0 (aaf _) ?_;rintro i hi K1 J1;refine gC (fun z=>?_) (fun z=>?_) (st2:=(8,0))
 ·have ab : i < n := by simpa [aa] using z
  have vU:=HC (p:=cJ a b) (w:=a9 a n) (i:=i) oz oz;have AL:=(qa _ (wm (i:=i) oz)).ok;have Wa:=(qb _ (wm (i:=i) oz)).ok;refine gs (aP (n:=i) (.tmp rfl) (.tmp rfl) T188 rfl T24 rfl oz oz rfl) ?_;refine gs (ay (.tmp rfl) rfl (ao vU) T24 rfl rfl rfl) ?_;refine gi (ao (getD_some (i:=i) (l:=a9 b n) oz)) ?_;refine gc (ru (rt ((a9 a n).getD i 0)) (rt ((a9 b n).getD i 0)) AL Wa) ?_;refine gs (aP (n:=i) (.tmp rfl) (.tmp rfl) T188 rfl T24 rfl oz oz rfl) ?_;refine gs (bJ (.tmp rfl) rfl (ao vU) rfl (.tmp rfl) rfl rfl T24 rfl rfl) ?_;refine gD ?_ (7,0);refine gW (Wk.of (sl:=[pP 0 (.ms 900 3 0 n),pP 1 (nA (a9 b n)),pP 19 (i64 n),pP 20 (i64 i)]) (hp:=[pP 900 (.row 3 (((cJ a b).take (i+1)++(a9 a n).drop (i+1)).map qA))]) aI (.cons rfl (.of (by rw[DA oz oz (by rw[S2,<- hn,bQ,bQ])])) .nil)) ?_;refine ga aF ?_;exact aG J1 (i+1) ab
 have ab:i=n:=by have:n<=i:=(by simpa[aa]using z);omega
 refine gW ((Wk.freeze (k:=900) rfl).trans<|Wk.of (sl:=[pP 0 (nA (cJ a b))]) (hp:=[]) (.cons rfl (.of (by rw[bH (by simp;omega),ab,List.drop_of_length_le oz,aag oz,List.append_nil];rfl)) .nil) .nil) ?_;refine af ?_;rfl
theorem rq(a:List Rat)(ha:∀q∈a,Qs q)(la:a.length<=1099511627776):FP 270 [nA a] (nA (dU a)):=by
 obtain⟨n,hn⟩:∃n,n=a.length:=⟨_,rfl⟩
 refine ai func270 ?_;refine gl ?_;refine gs (fW (.tmp rfl) T188 rfl T24 rfl rfl oz (by dsimp only;omega) rfl) ?_ (2,0);refine gW (Wk.of (sl:=[pP 0 (nA a),pP 3 (.ms 7 3 0 n)]) (hp:=[pP 7 (.row 3 ((a9 [] n).map qA))]) (.k (.cons rfl (.of (by simp[hn])) .nil)) (.cons rfl (BlkSub.of_ (BC [] n (by simp)) (by rw[hn];rfl)) .nil)) ?_;refine gl ?_;refine aK [0] [] (fun(i:Nat)=>[pP 3 (.ms 7 3 0 n),pP 9 (i64 n),pP 10 (i64 i)]) (fun i=>[pP 7 (.row 3 (((dU a).take i++(a9 [] n).drop i).map qA))]) (fun i=>i<=n) (fun i=>n-i) 0 (aaf _) ?_ (h1:=(.k (.cons rfl (Sub.int oz) (.k .nil))));rintro i hi K1 J1;refine gC (fun z=>?_) (fun z=>?_) (st2:=(7,0))
 ·have ab : i < n := by simpa [aa] using z
  have en:=jT (a:=a);have gG:=fA (a:=[]) (n:=n) (by simp);have vU:=HC (p:=dU a) (w:=a9 [] n) (i:=i) oz oz;have AL:=(ha _ (wm (i:=i) oz)).ok;refine gi (ao (getD_some (i:=i) oz)) ?_;refine gc (yq (rt (a.getD i 0)) AL) ?_;refine gs (aP (n:=i) (.tmp rfl) (.tmp rfl) T188 rfl T24 rfl oz oz rfl) ?_;refine gs (bJ (.tmp rfl) rfl (ao vU) rfl (.tmp rfl) rfl rfl T24 rfl rfl) ?_ (6,0);refine gW (Wk.of (sl:=[pP 0 (nA a),pP 3 (.ms 7 3 0 n),pP 9 (i64 n),pP 10 (i64 i)]) (hp:=[pP 7 (.row 3 (((dU a).take (i+1)++(a9 [] n).drop (i+1)).map qA))]) aI (.cons rfl (.of (by rw[DA oz oz (by rw[QL,bQ])])) .nil)) ?_;refine ga aF ?_;exact aG J1 (i+1) ab
 have ab:i=n:=by have:n<=i:=(by simpa[aa]using z);omega
 have en:=jT (a:=a);have gG:=fA (a:=[]) (n:=n) (by simp);refine gW ((Wk.freeze (k:=7) rfl).trans<|Wk.of (sl:=[pP 3 (nA (dU a))]) (hp:=[]) (.cons rfl (.of (by rw[bH (by simp;omega),ab,List.drop_of_length_le oz,aag oz,List.append_nil];rfl)) .nil) .nil) ?_;refine af ?_;rfl
theorem z5(a b:List Rat)(n:Nat)(la:a.length<=n)(lb:b.length<=n)(hn:n<=274877906944):FP 341 [nA a,nA b,i64 n] (nA (fu a b n)):=by
 refine ai func341 ?_;refine gt (bF (xU 900 rfl a n la oz) (fJ rfl rfl) bW rfl rfl) ?_;refine gc (wW b n lb oz) ?_;refine gs (wJ (.tmp rfl) rfl (by simp[fA la]) (.tmp rfl) T188 rfl T24 rfl rfl (by simp[fA lb];omega) rfl rfl) ?_;refine af ?_;rw[<- aas];rfl
theorem TC{ts:LL}{k:Nat}{x y:List Rat}(hl:y.length<=x.length)(h:aV x=true\/aV y=true):pT ts k x y=[]:=by
 unfold pT;simp only[aa1 (show ¬x.length<y.length by omega)];rw[aa2 (by rw[aav];exact h)]
theorem Lb{ts:LL}{k:Nat}{p q:Rat}(h:¬(aV [p]=true\/aV [q]=true)):pT ts k [p] [q]=[p*q]:=by
 unfold pT;simp only[Z7,aan,Nat.lt_irrefl,if_false];rw[aa1 (by rw[aav];exact h)];simp
theorem Kg{ts:LL}{k i:Nat}{x y:List Rat}(hx:x.length=2^(i+1))(hl:y.length<=2^i)(h:¬(aV x=true\/aV y=true)) :
  pT ts (k+1) x y=fu (pT ts k (x.take (2^i)) y) (pT ts k (x.drop (2^i)) y) (2^i):=by
 have h2:=XA i;have hlt:¬x.length<y.length:=by rw[hx,X0];omega
 conv=>lhs;unfold pT
 simp only[aa1 hlt];rw[aa1 (by rw[aav];exact h),aa1 (by rw[hx,X0];omega)];simp only[hx,ma];rw[aa2 hl]
theorem PU{ts:LL}{k i:Nat}{x y:List Rat}(hx:x.length=2^(i+1))(hl:¬y.length<=2^i)(vV:y.length<=x.length)(h:¬(aV x=true\/aV y=true)) :
  pT ts (k+1) x y=fu (cJ (pT ts k (x.take (2^i)) (y.take (2^i))) (pT ts k (pT ts k (x.drop (2^i)) (y.drop (2^i))) (ts.getD i [])))
   (cJ (pT ts k (x.take (2^i)) (y.drop (2^i))) (pT ts k (x.drop (2^i)) (y.take (2^i)))) (2^i):=by
 conv=>lhs;unfold pT
 simp only[aa1 (show ¬x.length<y.length by omega)];have h2:=XA i;rw[aa1 (by rw[aav];exact h),aa1 (by rw[hx,X0];omega)];simp only[hx,ma,BV];rw[aa1 hl]
theorem UD(r:Nat){i j:Nat}(h:i<=j):eB r i<=eB r j:=by
  induction j with
  | zero => have : i = 0 := by omega
            subst this;exact Z0 _
  |succ j ih =>
    by_cases fk:i=j+1
    · rw[fk];exact Z0 _
    · exact aaj (ih oz) (A6 r j)
theorem GT{j:Nat}{x:List Rat}(h:Nl j x):x.length=0\/x.length=1\/∃i,i+1<=j/\x.length=2^(i+1):=by
 rcases h with rfl |⟨i,hi,h⟩
 ·exact .inl rfl
 ·cases i with
  |zero=>exact .inr (.inl h)
  |succ i=>exact .inr (.inr ⟨i,hi,h⟩)
theorem JR{j i:Nat}{x:List Rat}(h:Nl j x)(hl:x.length<=2^i):Nl i x:=by
 rcases h with rfl |⟨l,hl',h⟩
 ·exact .inl rfl
 ·refine .inr ⟨l,?_,h⟩;rcases Z2 i l with h1 |h1
  ·have:=X2 (a:=2) oz h1;omega
  ·exact h1
theorem Rg{j i:Nat}{x:List Rat}(h:Nl j x)(hl:¬x.length<=2^i)(hu:x.length<=2^(i+1)):x.length=2^(i+1):=by
 rcases h with rfl |⟨l,hl',h⟩
 ·simp at hl
 ·rcases Z2 i l with h1 |h1
  ·rcases Z2 (i+1) l with h2 |h2
   ·have:=X2 (a:=2) oz h2;omega
   ·rw[h,show l=i+1 by omega]
  ·have:=cV h1;omega
theorem wB{ts:LL}{j:Nat}(h:j<ts.length):(ts.map nA)[j]?=some (nA (ts.getD j [])):=by
 rw[ZZ,ZS,ZV h];rfl
theorem uU(x:List Rat)(n:Nat):AV.lst 3 (((x.map qA).drop 0).take (n-0))=nA (x.take n):=by
 rw[Nat.sub_zero,aax,<- map_take];rfl
theorem s7(x:List Rat)(n:Nat):AV.lst 3 (((x.map qA).drop n).take ((x.map qA).length-n))=nA (x.drop n):=by
 rw[<- List.map_drop,aag (by simp)];rfl
def jp(ts:LL)(i:Nat)(a:List Rat):List Rat :=
  cJ (pT ts i (a.take (2^i)) (a.take (2^i))) (dU (pT ts i (pT ts i (a.drop (2^i)) (a.drop (2^i))) (ts.getD i [])))
theorem Sc{ts:LL}{m r:Nat}(ht:mJ ts m r){i e:Nat}{a:List Rat}(hi:i+1<=m)(ha:a.length=2^(i+1))(ca:Cb e a) :
  Nl i (jp ts i a)/\am i (jp ts i a)=T.norm (aQ ts) i (am (i+1) a)/\Cb (4*e+3*eB r i+r+1) (jp ts i a):=by
 have n1:Nl i (a.take (2^i)):=.inr ⟨i,Z0 _,jM ha⟩;have n2:Nl i (a.drop (2^i)):=.inr ⟨i,Z0 _,kH ha⟩;have s1:=fN ts m ht.1 i i _ _ oz oz n1 n1;have s2:=fN ts m ht.1 i i _ _ oz oz n2 n2;have s3:=fN ts m ht.1 i i _ _ oz oz s2.1 (ht.1 i oz);have c1:=Cb.mul ht (k:=i) (show i<=m by omega) oz n1 n1 ca.take ca.take;have c2:=Cb.mul ht (k:=i) (show i<=m by omega) oz n2 n2 ca.drop ca.drop;have c3:=Cb.mul ht (k:=i) (show i<=m by omega) oz s2.1 (ht.1 i oz) c2 (ht.2.cb i);refine⟨?_,?_,?_⟩
 ·have l1:=s1.1.le;have l3:=s3.1.le;rcases s1.1 with h1 |⟨j1,Wb,h1⟩ <;> rcases s3.1 with h3 |⟨j3,Wc,h3⟩
  ·refine .inl ?_;apply YG;unfold jp;rw[eW,jT,h1,h3];rfl
  ·refine .inr ⟨j3,Wc,?_⟩;unfold jp;rw[eW,jT,h1,h3];simp
  ·refine .inr ⟨j1,Wb,?_⟩;unfold jp;rw[eW,jT,h1,h3];simp
  ·refine .inr ⟨max j1 j3, by omega, ?_⟩;unfold jp;rw [eW,jT,h1,h3];rcases Nat.le_total j1 j3 with h | h
   ·rw[X4 h,X4 (cV h)]
   ·rw[Xw h,Xw (cV h)]
 ·unfold jp T.norm;rw[lV,pq,s1.2,s3.2,s2.2];rfl
 ·exact(c1.plus c3.minus).mono oz
theorem T.sgn_ofQ(r:(k:Nat)->T k):∀(k:Nat)(q:Rat),T.sgn r k (T.ofQ k q)=asQ q
 |0,q=>rfl
 |k+1,q=>by simp only[T.ofQ];rw[T.sgn_low,T.sgn_ofQ r k]
theorem Ng(r:(k:Nat)->T k){i j:Nat}{a:List Rat}(h:a.length<=2^i)(fk:i<=j):T.sgn r j (am j a)=T.sgn r i (am i a):=by
  induction j with
  | zero => have : i = 0 := by omega
            subst this;rfl
  |succ j ih =>
    by_cases h':i=j+1
    · rw[h']
    · rw[mI (aaj h (cV oz)),T.sgn_low]
      exact ih oz
theorem Do:∀(k:Nat){a:List Rat}{q:Rat},q∈dq k a->q∈a
 |0,a,q,h=>by
  have e:dq 0 a=if aV a=true then[]else a:=rfl;rw[e]at h;split at h
  ·cases h
  ·exact h
 |k+1,a,q,h=>by
  have e:dq (k+1) a=if aV (a.drop (2^k))=true then dq k (a.take (2^k))else a:=rfl;rw[e]at h;split at h
  ·exact Yk (Do k h)
  ·exact h
theorem Cb.sh{e k:Nat}{a:List Rat}(h:Cb e a)(hn:Nl k a):Cb e (sh k (am k a)):=by
 rw[<- xn k hn];exact Cb.sub h (fun q hq=>Do k hq)
theorem Tz{x y:Int}(hx:x=-1\/x=0\/x=1)(hy:y=-1\/y=0\/y=1):IntKind.i64.wrap (dV .mul x y)=x*y:=by
 apply Bn;rcases hx with rfl |rfl |rfl <;> rcases hy with rfl |rfl |rfl <;> simp
theorem Ml{x y z w:Int}(h:cond (aa .eql x y) true (aa .eql z w)=true):x=y\/z=w:=by
 cases hx:aa .eql x y
 ·rw[hx]at h;exact .inr (by simpa[aa]using h)
 ·exact .inl (by simpa[aa]using hx)
theorem TT{x y z w:Int}(h:cond (aa .eql x y) true (aa .eql z w)=false):¬(x=y\/z=w):=by
 cases hx:aa .eql x y
 ·rw [hx] at h;have h1:x ≠ y:=by simpa [aa] using hx
  have h2:z≠w:=by simpa[aa]using h
  exact fun h=>h.elim h1 h2
 ·rw[hx]at h;cases h
theorem tW(ts:LL)(m r:Nat)(ht:mJ ts m r)(hm:m<=5)(lr:m<=ts.length)(k:Nat):∀(j:Nat)(a b:List Rat)(e f:Nat),j<=m->j<=k->Nl j a->Nl j b->Cb e a->Cb f b->e+f+eB r j<4398046511104 ->
  FP 309 [cX ts,nA a,nA b] (nA (pT ts k a b)):=by
 induction k using Nat.strongRecOn
 rename_i k ih;intro j a b e f hj jw ha hb ca cb hs;have gK:=ha.len5 oz;have fj:=hb.len5 oz;refine ai func309 ?_;refine gl ?_;refine gl ?_;refine Oq [3] [3] (fun(x y:List Rat)(e1 f1:Nat)=>[pP 1 (nA x),pP 2 (nA y)]) (fun _ _ _ _=>[]) (fun x y e1 f1=>y.length<=x.length/\Nl j x/\Nl j y/\Cb e1 x/\Cb f1 y/\e1+f1=e+f/\pT ts k a b=pT ts k x y) ?_ ?_
 ·intro K1 J1;refine gC (fun z=>?_) (fun z=>?_)
  ·have h1 : a.length < b.length := by have := z; simp only [aa, aa3] at this; omega
   exact EM J1 b a f e ⟨by omega,hb,ha,cb,ca,by omega,zH ts k a b h1⟩
  have h1:b.length<=a.length:=by have:=z;simp only[aa,decide_eq_false_iff_not]at this;omega
  exact EM J1 a b e f ⟨h1,ha,hb,ca,cb,rfl,rfl⟩
 rintro x y e1 f1 ⟨vV,hx,hy,cx,cy,Xc,hp⟩;have Xd:=hx.len5 oz;have Xe:=hy.len5 oz;have qx:∀q∈x,Qs q:=fun q hq=>cx.qs oz hq
 have qy:∀q∈y,Qs q:=fun q hq=>cy.qs oz hq
 rw[hp];refine gc (Es x qx oz) ?_;refine aO (fun _=>(Es y qy oz)) ?_;refine gC (fun t21=>?_) (fun t21=>?_)
 ·have h1:aV x=true\/aV y=true:=by
   have:=t21;cases hz:aV x
   ·rw[hz]at this;exact .inr this
   ·exact .inl rfl
  refine gR ?_;exact jD (by rw[TC vV h1];exact Sub.nil _ _ _)
 have h1:¬(aV x=true\/aV y=true):=by
  have:=t21;cases hz:aV x
  ·rw[hz]at this;intro h;rcases h with h |h;cases h;(rw[show aV y=false from this]at h;cases h)
  ·rw[hz]at this;cases this
 refine gl ?_;refine gC (fun z=>?_) (fun z=>?_)
 ·have h2 : x.length = 1 := by have := z; simp only [aa, beq_iff_eq] at this; omega
  obtain⟨p,rfl⟩:=YJ.1 h2;have h3:y≠[]:=fun h=>h1 (.inr (by rw[h];rfl))
  obtain⟨q,rfl⟩:∃q,y=[q]:=YJ.1 (by have:=YL.2 h3;simp at vV;omega);refine gi rfl ?_;refine gi rfl ?_;refine gc (C7 (rt p) (rt q) (qx p (by simp)).ok (qy q (by simp)).ok) ?_;refine gD ?_;refine af ?_;rw[Lb h1,bQ,bQ];rfl
 have h2:x.length≠1:=by have:=z;simp only[aa,beq_eq_false_iff_ne,ne_eq]at this;omega
 have h3:x≠[]:=fun h=>h1 (.inl (by rw[h];rfl))
 obtain⟨i,fk,iY⟩:∃i,i+1<=j/\x.length=2^(i+1):=by
  rcases GT hx with h |h |h
  ·exact aa8 (Yo.1 h) h3
  ·exact aa8 h h2
  ·exact h
 obtain⟨k',rfl⟩:∃k',k=k'+1:=⟨k-1,by omega⟩
 have nX:=XA i;have fm:2^i<=32:=cV (b:=5) oz;have nI:2^(i+1)=2*2^i:=by rw[X0];omega
 have ci:eB r (i+1)<=eB r j:=UD r fk;have Xf:eB r (i+1)=2*eB r i+r+2:=rfl;have n1:Nl i (x.take (2^i)):=.inr ⟨i,Z0 _,jM iY⟩;have n2:Nl i (x.drop (2^i)):=.inr ⟨i,Z0 _,kH iY⟩;refine gl ?_;refine gs (kt (.tmp rfl) (.const _) oz (show _=((2^i:Nat):Int) by rw[q4 oz,iY,ma]) rfl) ?_;refine gs (d6 (.tmp rfl) (.none _) (.some _ (.tmp rfl) oz) T188 rfl T24 rfl oz (by simp only[ZU];omega) rfl) ?_;refine gs (d6 (.tmp rfl) (.some _ (.tmp rfl) oz) (.none _) T188 rfl T24 rfl (by simp only[ZU];omega) oz rfl) ?_;refine gD ?_ (9,0);refine gW (Wk.of (sl:=[pP 1 (nA x),pP 2 (nA y),pP 3 (.ptr 3 0),pP 7 (i64 ((2^i:Nat):Int)),pP 8 (nA (x.take (2^i))),pP 9 (nA (x.drop (2^i)))]) (hp:=[pP 3 (.box [.lst 1 (ts.map nA)])]) (.k (.k (.k (.k (.cons rfl (.of (uU x (2^i))) (.cons rfl (.of (s7 x (2^i))) .nil)))))) (.k .nil)) ?_;refine gl ?_;refine gC (fun z=>?_) (fun z=>?_)
 ·have h4 : y.length <= 2 ^ i := by have := z; simp only [aa, aa3] at this; omega
  have n3:Nl i y:=JR hy h4;have s1:=fN ts m ht.1 i k' _ _ oz oz n1 n3;have s2:=fN ts m ht.1 i k' _ _ oz oz n2 n3;refine gc (ih k' oz i _ _ e1 f1 oz oz n1 n3 cx.take cy oz) ?_;refine gc (ih k' oz i _ _ e1 f1 oz oz n2 n3 cx.drop cy oz) ?_;refine gc (z5 _ _ (2^i) s1.1.le s2.1.le oz) ?_;refine gD ?_;refine af ?_;rw[Kg iY h4 h1]
 have h4:¬y.length<=2^i:=by have:=z;simp only[aa,decide_eq_false_iff_not]at this;omega
 have pY:=Rg hy h4 oz;have n3:Nl i (y.take (2^i)):=.inr ⟨i,Z0 _,jM pY⟩;have n4:Nl i (y.drop (2^i)):=.inr ⟨i,Z0 _,kH pY⟩;have nd:=ht.1 i oz;have cd:=ht.2.cb i;have s1:=fN ts m ht.1 i k' _ _ oz oz n1 n3;have s2:=fN ts m ht.1 i k' _ _ oz oz n2 n4;have s3:=fN ts m ht.1 i k' _ _ oz oz s2.1 nd;have s4:=fN ts m ht.1 i k' _ _ oz oz n1 n4;have s5:=fN ts m ht.1 i k' _ _ oz oz n2 n3;have c1:=Cb.mul ht (k:=k') (show i<=m by omega) oz n1 n3 cx.take cy.take;have c2:=Cb.mul ht (k:=k') (show i<=m by omega) oz n2 n4 cx.drop cy.drop;have c3:=Cb.mul ht (k:=k') (show i<=m by omega) oz s2.1 nd c2 cd;have c4:=Cb.mul ht (k:=k') (show i<=m by omega) oz n1 n4 cx.take cy.drop;have c5:=Cb.mul ht (k:=k') (show i<=m by omega) oz n2 n3 cx.drop cy.take;have Wd:=PU (ts:=ts) (k:=k') iY h4 vV h1;refine gs (d6 (.tmp rfl) (.none _) (.some _ (.tmp rfl) oz) T188 rfl T24 rfl oz (by simp only[ZU];omega) rfl) ?_;refine gs (d6 (.tmp rfl) (.some _ (.tmp rfl) oz) (.none _) T188 rfl T24 rfl (by simp only[ZU];omega) oz rfl) ?_;refine gD ?_ (12,0);refine gW (Wk.of (sl:=[pP 1 (nA x),pP 3 (.ptr 3 0),pP 7 (i64 ((2^i:Nat):Int)),pP 8 (nA (x.take (2^i))),pP 9 (nA (x.drop (2^i))),pP 10 (nA (y.take (2^i))),pP 11 (nA (y.drop (2^i)))]) (hp:=[pP 3 (.box [.lst 1 (ts.map nA)])]) (.k (.k (.k (.k (.k (.cons rfl (.of (uU y (2^i))) (.cons rfl (.of (s7 y (2^i))) .nil))))))) (.k .nil)) ?_;refine gc (q6 qA x oz) ?_;refine ga (show _=(i:Int) by rw[iY,qI,co oz];omega) ?_;refine gi (wB (j:=i) oz) ?_;refine gD ?_;refine gc (ih k' oz i _ _ e1 f1 oz oz n1 n3 cx.take cy.take oz) ?_;refine gc (ih k' oz i _ _ e1 f1 oz oz n2 n4 cx.drop cy.drop oz) ?_;refine gc (ih k' oz i _ _ _ _ oz oz s2.1 nd c2 cd oz) ?_;refine gc (nj _ _ (fun q hq=>c1.qs oz hq) (fun q hq=>c3.qs oz hq) (by have:=s1.1.le;omega) (by have:=s3.1.le;omega)) ?_;refine gD ?_;refine gc (ih k' oz i _ _ e1 f1 oz oz n1 n4 cx.take cy.drop oz) ?_;refine gc (ih k' oz i _ _ e1 f1 oz oz n2 n3 cx.drop cy.take oz) ?_;refine gc (nj _ _ (fun q hq=>c4.qs oz hq) (fun q hq=>c5.qs oz hq) (by have:=s4.1.le;omega) (by have:=s5.1.le;omega)) ?_;refine gc (z5 _ _ (2^i) (by have:=s1.1.le;have:=s3.1.le;rw[eW];omega) (by have:=s4.1.le;have:=s5.1.le;rw[eW];omega) oz) ?_;refine gD ?_;refine af ?_;rw[Wd]
theorem UZ(ts:LL)(m r:Nat)(ht:mJ ts m r)(hm:m<=5)(lr:m<=ts.length)(i:Nat)(a:List Rat)(e:Nat)(hi:i+1<=m)(aT:a.length=2^(i+1))(ca:Cb e a)(hs:4*e+3*eB r i+r+1<4398046511104) :
  FP 249 [cX ts,nA a] (nA (jp ts i a)):=by
 have nX:=XA i;have fm:2^i<=32:=cV (b:=5) oz;have nI:2^(i+1)=2*2^i:=by rw[X0];omega
 have n1:Nl i (a.take (2^i)):=.inr ⟨i,Z0 _,jM aT⟩;have n2:Nl i (a.drop (2^i)):=.inr ⟨i,Z0 _,kH aT⟩;have nd:=ht.1 i oz;have cd:=ht.2.cb i;have s1:=fN ts m ht.1 i i _ _ oz oz n1 n1;have s2:=fN ts m ht.1 i i _ _ oz oz n2 n2;have s3:=fN ts m ht.1 i i _ _ oz oz s2.1 nd;have c1:=Cb.mul ht (k:=i) (show i<=m by omega) oz n1 n1 ca.take ca.take;have c2:=Cb.mul ht (k:=i) (show i<=m by omega) oz n2 n2 ca.drop ca.drop;have c3:=Cb.mul ht (k:=i) (show i<=m by omega) oz s2.1 nd c2 cd;refine ai func249 ?_;refine gl ?_;refine gs (kt (.tmp rfl) (.const _) oz (show _=((2^i:Nat):Int) by rw[q4 oz,aT,ma]) rfl) ?_;refine gs (d6 (.tmp rfl) (.none _) (.some _ (.tmp rfl) oz) T188 rfl T24 rfl oz (by simp only[ZU];omega) rfl) ?_;refine gs (d6 (.tmp rfl) (.some _ (.tmp rfl) oz) (.none _) T188 rfl T24 rfl (by simp only[ZU];omega) oz rfl) ?_;refine gD ?_ (3,0);refine gW (Wk.of (sl:=[pP 1 (nA a),pP 2 (.ptr 2 0),pP 6 (nA (a.take (2^i))),pP 7 (nA (a.drop (2^i)))]) (hp:=[pP 2 (.box [.lst 1 (ts.map nA)])]) (.k (.k (.cons rfl (.of (uU a (2^i))) (.cons rfl (.of (s7 a (2^i))) .nil)))) (.k .nil)) ?_;refine gc (tW ts m r ht hm lr i i _ _ e e oz oz n1 n1 ca.take ca.take oz) ?_;refine gc (tW ts m r ht hm lr i i _ _ e e oz oz n2 n2 ca.drop ca.drop oz) ?_;refine gc (q6 qA a oz) ?_;refine ga (show _=(i:Int) by rw[aT,qI,co oz];omega) ?_;refine gi (wB (j:=i) oz) ?_;refine gc (tW ts m r ht hm lr i i _ _ _ _ oz oz s2.1 nd c2 cd oz) ?_;refine gc (rq _ (fun q hq=>c3.qs oz hq) (by have:=s3.1.le;omega)) ?_;refine gc (nj _ _ (fun q hq=>c1.qs oz hq) (fun q hq=>c3.minus.qs oz hq) (by have:=s1.1.le;omega) (by have:=s3.1.le;rw[jT];omega)) ?_;refine gD ?_;refine af ?_;rfl
theorem zj(ts:LL)(m r:Nat)(ht:mJ ts m r)(hm:m<=5)(lr:m<=ts.length)(j:Nat):∀(a:List Rat)(e:Nat),j<=m->Nl j a->Cb e a->sB r j e<4398046511104 ->
  FP 187 [cX ts,nA a] (i64 (T.sgn (aQ ts) j (am j a))):=by
 induction j using Nat.strongRecOn
 rename_i j ih;intro a e hj ha ca hs;have Xg:=zU r j e;have qa:∀q∈a,Qs q:=fun q hq=>ca.qs oz hq
 obtain⟨s,vW⟩:∃s,s=sh j (am j a):=⟨_,rfl⟩
 have We:am j s=am j a:=by rw[vW,jz]
 have IP:Nl j s:=by rw[vW];exact lX j _
 have cs:Cb e s:=by rw[vW];exact ca.sh ha
 have Xh:=IP.len5 oz;rw[<- We];refine ai func187 ?_;refine gc (vW▸oA a oz ha qa) ?_;refine gl ?_;refine gC (fun z=>?_) (fun z=>?_)
 ·have h1 : s=[] := Yo.1 (by have := z;simp only[aa,beq_iff_eq]at this;omega);refine af ?_;rw[h1,nv,T.sgn_zero];rfl
 have h1:s.length≠0:=by have:=z;simp only[aa,beq_eq_false_iff_ne,ne_eq]at this;omega
 refine gl ?_;refine gC (fun z=>?_) (fun z=>?_)
 ·have h2 : s.length = 1 := by have := z; simp only [aa, beq_iff_eq] at this; omega
  obtain⟨q,rfl⟩:=YJ.1 h2;refine gi rfl ?_;refine gc (yh (rt q) (cs.qs oz (by simp:q∈[q])).ok) ?_;refine af ?_;rw[qL,T.sgn_ofQ,bQ]
 have h2:s.length≠1:=by have:=z;simp only[aa,beq_eq_false_iff_ne,ne_eq]at this;omega
 obtain⟨i,fk,iu⟩:∃i,i+1<=j/\s.length=2^(i+1):=by
  rcases GT IP with h |h |h
  ·exact aa8 h h1
  ·exact aa8 h h2
  ·exact h
 have nX:=XA i;have fm:2^i<=32:=cV (b:=5) oz;have nI:2^(i+1)=2*2^i:=by rw[X0];omega
 have n1:Nl i (s.take (2^i)):=.inr ⟨i,Z0 _,jM iu⟩;have n2:Nl i (s.drop (2^i)):=.inr ⟨i,Z0 _,kH iu⟩;have nd:=ht.1 i oz;have cd:=ht.2.cb i;obtain⟨nn,dn,cn⟩:=Sc ht oz iu cs;have b1:sB r i (4*e+3*eB r i+r+1)<=sB r j e:=wc r e fk;have b2:sB r i e<=sB r i (4*e+3*eB r i+r+1):=tF r i oz;have b3:sB r i r<=sB r i (4*e+3*eB r i+r+1):=tF r i oz;have b4:=zU r i (4*e+3*eB r i+r+1);have k1:=ih i oz (s.take (2^i)) e oz n1 cs.take oz;have k2:=ih i oz (s.drop (2^i)) e oz n2 cs.drop oz;have k3:=ih i oz _ r oz nd cd oz;have k4:=ih i oz _ _ oz nn cn oz
 have lD:T.sgn (aQ ts) j (am j s)=T.sgn3 (T.sgn (aQ ts) i (am i (s.take (2^i)))) (T.sgn (aQ ts) i (am i (s.drop (2^i)))) (T.sgn (aQ ts) i (am i (ts.getD i []))) (T.sgn (aQ ts) i (am i (jp ts i s))):=by
  rw[Ng _ oz fk,dn];rfl
 have v1:=T.sgn_cases (aQ ts) i (am i (s.take (2^i)));have v4:=T.sgn_cases (aQ ts) i (am i (jp ts i s));refine gl ?_;refine gs (kt (.tmp rfl) (.const _) oz (show _=((2^i:Nat):Int) by rw[q4 oz,iu,ma]) rfl) ?_;refine gs (d6 (.tmp rfl) (.none _) (.some _ (.tmp rfl) oz) T188 rfl T24 rfl oz (by simp only[ZU];omega) rfl) ?_;refine gc (by have h9:=k1;rw[<- uU]at h9;exact h9) ?_;refine gs (d6 (.tmp rfl) (.some _ (.tmp rfl) oz) (.none _) T188 rfl T24 rfl (by simp only[ZU];omega) oz rfl) ?_;refine gc (by have h9:=k2;rw[<- s7]at h9;exact h9) ?_;refine gD ?_;refine gc (q6 qA s oz) ?_;refine ga (show _=(i:Int) by rw[iu,qI,co oz];omega) ?_;refine gi (wB (j:=i) oz) ?_;refine gc k3 ?_;refine gD ?_;refine gC (fun z=>?_) (fun z=>?_)
 ·have e1 : T.sgn (aQ ts) i (am i (ts.getD i [])) = 0 := by simpa [aa] using z
  refine af ?_;rw[lD];unfold T.sgn3;rw[aa2 e1]
 have e1:¬T.sgn (aQ ts) i (am i (ts.getD i []))=0:=by simpa[aa]using z
 refine gC (fun z=>?_) (fun z=>?_)
 ·have e2:T.sgn (aQ ts) i (am i (s.take (2^i)))=T.sgn (aQ ts) i (am i (s.drop (2^i)))\/T.sgn (aQ ts) i (am i (s.drop (2^i)))=0:=Ml z;refine af ?_;rw[lD];unfold T.sgn3;rw[aa1 e1,aa2 e2]
 have e2:¬(T.sgn (aQ ts) i (am i (s.take (2^i)))=T.sgn (aQ ts) i (am i (s.drop (2^i)))\/T.sgn (aQ ts) i (am i (s.drop (2^i)))=0):=TT z;refine gC (fun z=>?_) (fun z=>?_)
 ·have e3 : T.sgn (aQ ts) i (am i (s.take (2 ^ i))) = 0 := by simpa [aa] using z
  refine af ?_;rw[lD];unfold T.sgn3;rw[aa1 e1,aa1 e2,aa2 e3]
 have e3:¬T.sgn (aQ ts) i (am i (s.take (2^i)))=0:=by simpa[aa]using z
 refine gc (UZ ts m r ht hm lr i s e oz iu cs oz) ?_;refine gc k4 ?_;refine ga (Tz v1 v4) ?_;refine gD ?_;refine af ?_;rw[lD];unfold T.sgn3;rw[aa1 e1,aa1 e2,aa1 e3];rfl
abbrev lq(a:List Rt):List Rat:=a.map Rt.q
abbrev bp(rs:List (List Rt)):LL:=rs.map lq
def mp(rs:List (List Rt)):Nat->Nat->Nat
  |0,_=>0
  |f+1,k=>if(rs.getD k []).length≠2^k then 10 else if cG k (rs.getD k [])≠0 then cG k (rs.getD k [])
    else if T.sgn (aQ (bp rs)) k (aQ (bp rs) k)<0 then 3 else mp rs f (k+1)
def dK(rs:List (List Rt)):Nat:=if 5<rs.length then 4 else mp rs rs.length 0
def iG:List Nat->Nat
  |[]=>0
  |e::l=>if e≠0 then e else iG l
def bD(rs:List (List Rt))(xs:List (List Rt)):Nat:=if dK rs≠0 then dK rs else iG (xs.map (cG rs.length))
theorem T.mul_congr{r r':(k:Nat)->T k}:∀(k:Nat),(∀j,j<k->r j=r' j)->∀x y,T.mul r k x y=T.mul r' k x y
 |0,_,x,y=>rfl
 |k+1,h,x,y=>by
  have ih:=T.mul_congr k (fun j hj=>h j oz);simp only[T.mul,ih,h k oz]
theorem T.sgn_congr{r r':(k:Nat)->T k}:∀(k:Nat),(∀j,j<k->r j=r' j)->∀x,T.sgn r k x=T.sgn r' k x
 |0,_,x=>rfl
 |k+1,h,x=>by
  have ih:=T.sgn_congr k (fun j hj=>h j oz);have im:=T.mul_congr k (fun j hj=>h j oz);simp only[T.sgn,T.norm,ih,im,h k oz]
theorem Qp{ts:LL}{k j:Nat}(h:j<k):aQ (ts.take k) j=aQ ts j:=by
 unfold aQ;simp only[ZS,aak,aa2 h]
theorem ur(rs:List (List Rt))(k:Nat):(bp rs).getD k []=lq (rs.getD k []):=by
 simp only[ZS,ZZ];cases rs[k]? <;> rfl
def gT(rs:List (List Rt))(k:Nat):Prop:=(rs.getD k []).length=2^k/\cG k (rs.getD k [])=0/\0<=T.sgn (aQ (bp rs)) k (aQ (bp rs) k)
theorem Hu{rs:List (List Rt)}{f k:Nat}(h:gT rs k):mp rs (f+1) k=mp rs f (k+1):=by
 obtain⟨h1,h2,h3⟩:=h;show(if _ then _ else _)=_;rw[aa1 (by rw[h1];simp),aa1 (by rw[h2];simp),aa1 oz]
theorem Eg:∀{f k:Nat}{rs:List (List Rt)},mp rs f k=0->∀j,k<=j->j<k+f->gT rs j
 |0,k,rs,_,j,h1,h2=>by omega
 |f+1,k,rs,h,j,h1,h2=>by
  have h':(if(rs.getD k []).length≠2^k then 10 else if cG k (rs.getD k [])≠0 then cG k (rs.getD k [])
   else if T.sgn (aQ (bp rs)) k (aQ (bp rs) k)<0 then 3 else mp rs f (k+1))=0:=h
  split at h'
  ·cases h'
  ·rename_i e1;split at h'
   ·rename_i e2;exact aa8 h' e2
   ·rename_i e2;split at h'
    ·cases h'
    ·rename_i e3
     by_cases hj:j=k
     ·subst hj;exact⟨ZQ.1 e1,ZQ.1 e2,by omega⟩
     ·exact Eg h' j oz oz
theorem C5:∀{f k:Nat}{rs:List (List Rt)},(∀j,k<=j->j<k+f->gT rs j)->mp rs f k=0
 |0,k,rs,_=>rfl
 |f+1,k,rs,h=>by
  rw[Hu (h k oz oz)];exact C5 (fun j h1 h2=>h j oz oz)
theorem Ft{rs:List (List Rt)}(bc:∀d∈rs,∀x∈d,x.ok){k:Nat}(hk:k<=rs.length)(h:∀j,j<k->cG j (rs.getD j [])=0):(rs.take k).map nR=((bp rs).take k).map nA:=by
 apply List.ext_getElem?;intro j;simp only[ZZ,aak]
 by_cases hj:j<k
 ·rw [aa2 hj, aa2 hj];have AM:j < rs.length:=by omega
  have h1:=h j hj;rw[ZS,ZV AM,ZO]at h1;rw[ZV AM];simp only[ZP];congr 1;have:=(wR h1 (fun x hx=>bc _ (Yy AM) x hx)).1;rw[<- fS,<- this]
 ·rw[aa1 hj,aa1 hj];rfl
theorem gT.nl{rs:List (List Rt)}{k:Nat}(h:gT rs k):Nl k ((bp rs).getD k []):=by
 rw[ur];exact .inr ⟨k,Z0 _,by rw[ZU,h.1]⟩
theorem M7{ts:LL}{k r:Nat}(h:∀j,j<k->Nl j (ts.getD j []))(hr:RB r ts):mJ (ts.take k) k r:=by
 refine⟨fun j hj=>?_,?_⟩
 ·have:=h j hj;simp only[ZS,aak,aa2 hj]at this ⊢;exact this
 ·obtain⟨D,N,h0,h1,h2,h3⟩:=hr;exact⟨D,N,h0,fun d hd=>h1 d (Yk hd),h2,h3⟩
structure Tw(ts:LL)(r:Nat):Prop where
  three:ts.length<=3
  len:∀j,j<ts.length->(ts.getD j []).length=2^j
  pos:∀j,j<ts.length->0<=T.sgn (aQ ts) j (aQ ts j)
  rb:RB r ts
  le:r<=5000000000
theorem Tw.five{ts:LL}{r:Nat}(h:Tw ts r):ts.length<=5:=aaj h.three oz
theorem Tw.ok{ts:LL}{r:Nat}(h:Tw ts r):mJ ts ts.length r :=
 ⟨fun j hj=>.inr ⟨j,Z0 _,h.len j hj⟩,h.rb⟩
structure TR(rs:List (List Rt))(r:Nat):Prop where
  ok:∀d∈rs,∀x∈d,x.ok
  len:∀d∈rs,d.length<=281474976710656
  ll:rs.length<=281474976710656
  rb:RB r (bp rs)
  le:r<=5000000000
  three:rs.length<=3\/5<rs.length
theorem pF{rs:List (List Rt)}{r:Nat}(h:TR rs r)(hc:dK rs=0):Tw (bp rs) r/\eI rs=cX (bp rs):=by
 unfold dK at hc;split at hc
 ·cases hc
 ·rename_i h5;have hk:=Eg hc;have hl:(bp rs).length = rs.length:=ZU _;refine ⟨⟨by have:=h.three; rw [hl]; omega,fun j hj=>?_,fun j hj=>?_,h.rb,h.le⟩,?_⟩
  ·rw[ur,ZU];exact(hk j oz oz).1
  ·exact(hk j oz oz).2.2
  ·unfold eI cX;have:=Ft h.ok (Z0 rs.length) (fun j hj=>(hk j oz oz).2.1);rw[aab,aag oz]at this;rw[this]
theorem Fe{m:Nat}{a:List Rat}(h:Nl m a):cG m (a.map rt)=0:=by
 unfold cG;rw[aa1,aa2]
 ·rw[Z6];intro x hx;obtain⟨q,_,rfl⟩:=Yr.1 hx;exact tv q
 ·rintro⟨h0,h1⟩;rw[ZU]at h1;rcases h with rfl |⟨j,hj,h⟩
  ·exact h0 rfl
  ·rw[h,qI]at h1;omega
theorem iA(a:List Rat):lq (a.map rt)=a:=by
 unfold lq;rw[map_map];refine(YD (fun q _=>bQ q)).trans (map_id _)
theorem qJ(ts:LL):bp (ts.map (List.map rt))=ts:=by
 unfold bp;rw[map_map];refine(YD (fun a _=>iA a)).trans (map_id _)
theorem nC(ts:LL):eI (ts.map (List.map rt))=cX ts:=by
 unfold eI cX;rw[map_map];congr 3;exact YD (fun a _=>fS a)
theorem Tw.chk{ts:LL}{r:Nat}(h:Tw ts r):dK (ts.map (List.map rt))=0:=by
 unfold dK;rw[ZU,aa1 (by have:=h.five;omega)];refine C5 (fun j _ hj=>?_)
 have e1:(ts.map (List.map rt)).getD j []=(ts.getD j []).map rt:=by
  simp only[ZS,ZZ];cases ts[j]? <;> rfl
 refine⟨?_,?_,?_⟩
 ·rw[e1,ZU];exact h.len j oz
 ·rw[e1];exact Fe (.inr ⟨j,Z0 _,h.len j oz⟩)
 ·rw[qJ];exact h.pos j oz
theorem RB.qs{r:Nat}{ts:LL}(h:RB r ts)(hr:r<=5000000000):∀d∈ts,∀q∈d,Qs q:=by
 obtain⟨D,N,h0,h1,h2,h3⟩:=h;intro d hd q hq;exact Cb.qs ⟨D,N,h1 d hd,h2,h3⟩ oz hq
theorem Tw.tr{ts:LL}{r:Nat}(h:Tw ts r):TR (ts.map (List.map rt)) r:=by
 refine⟨?_,?_,by rw[ZU];have:=h.five;omega,by rw[qJ];exact h.rb,h.le,by rw[ZU];exact .inl h.three⟩
 ·intro d hd x hx;obtain⟨a,ha,rfl⟩:=Yr.1 hd;obtain⟨q,hq,rfl⟩:=Yr.1 hx;exact(h.rb.qs h.le a ha q hq).ok
 ·intro d hd;obtain⟨a,ha,rfl⟩:=Yr.1 hd;obtain⟨j,hj,rfl⟩:=YB.1 ha;have:=h.len j hj;rw[ZS,ZV hj,ZO]at this;rw[ZU,this];have:=h.five;have:2^j<=2^5:=cV oz;omega
theorem rY:∀{l:List Nat},iG l=0->∀e∈l,e=0
 |[],_,e,he=>by cases he
 |x::l,h,e,he=>by
  have h':(if x≠0 then x else iG l)=0:=h;split at h'
  ·rename_i hx;exact aa8 h' hx
  ·rename_i hx;rcases aai.1 he with rfl |he
   ·exact ZQ.1 hx
   ·exact rY h' e he
theorem o8:∀{l:List Nat},(∀e∈l,e=0)->iG l=0
 |[],_=>rfl
 |x::l,h=>by
  show(if x≠0 then x else iG l)=0;rw[aa1 (by rw[h x (by simp)];simp)];exact o8 (fun e he=>h e (by simp[he]))
theorem Ad:∀(l l':List Nat),iG l=0->iG (l++l')=iG l'
 |[],l',_=>rfl
 |x::l,l',h=>by
  have h0:=rY h x (by simp);show(if x≠0 then x else iG (l++l'))=_;rw[aa1 (by rw[h0];simp)];exact Ad l l' (o8 (fun e he=>rY h e (by simp[he])))
theorem oP{rs xs:List (List Rt)}(h:bD rs xs=0):dK rs=0/\∀a∈xs,cG rs.length a=0:=by
 unfold bD at h;split at h
 ·rename_i h1;exact aa8 h h1
 ·rename_i h1;exact⟨ZQ.1 h1,fun a ha=>rY h _ (Yr.2 ⟨a,ha,rfl⟩)⟩
theorem yI{rs xs:List (List Rt)}(h1:dK rs=0)(h2:∀a∈xs,cG rs.length a=0):bD rs xs=0:=by
 unfold bD;rw[aa1 (by rw[h1];simp)];refine o8 (fun e he=>?_);obtain⟨a,ha,rfl⟩:=Yr.1 he;exact h2 a ha
structure NR(a:List Rt)(e:Nat):Prop where
  ok:∀x∈a,x.ok
  len:a.length<=281474976710656
  cb:Cb e (lq a)
theorem NR.num{a:List Rt}{e m:Nat}(h:NR a e)(hn:cG m a=0):nR a=nA (lq a)/\Nl m (lq a):=by
 obtain⟨h1,h2⟩:=wR hn h.ok;refine⟨?_,h2⟩;rw[<- fS,<- h1]
theorem wn{r j n e:Nat}(hj:j<=n)(h3:n<=3)(hr:r<=5000000000)(he:e<=lm n):sB r j e<4398046511104:=by
 unfold lm at he;split at he
 ·have:=MB r e (j:=j) oz;omega
 ·have:=Kb r e (j:=j) oz;omega
theorem rV{rs:List (List Rt)}(h5:rs.length<=5):∀{k:Nat},k<=rs.length->(∀j,j<k->gT rs j)->dK rs=mp rs (rs.length-k) k
 |0,_,_=>by unfold dK;rw[aa1 oz];rfl
 |k+1,hk,h=>by
  rw[rV h5 (k:=k) oz (fun j hj=>h j oz),show rs.length-k=(rs.length-(k+1))+1 by omega,Hu (h k oz)]
theorem QE{rs:List (List Rt)}(h5:rs.length<=5)(h:∀j,j<rs.length->gT rs j):dK rs=0:=by
 rw[rV h5 (Z0 _) h,Nat.sub_self];rfl
theorem OU{rs:List (List Rt)}(h5:rs.length<=5){k:Nat}{d:List Rt}(hd:rs[k]?=some d)(h:∀j,j<k->gT rs j)(hl:d.length≠2^k):dK rs=10:=by
 have hk:=(YA.1 hd).1;have e:rs.getD k []=d:=by rw[ZS,hd];rfl
 rw[rV h5 (k:=k) oz h,show rs.length-k=(rs.length-(k+1))+1 by omega];show(if _ then _ else _)=_;rw[e,aa2 hl]
theorem ND{rs:List (List Rt)}(h5:rs.length<=5){k:Nat}{d:List Rt}(hd:rs[k]?=some d)(h:∀j,j<k->gT rs j)(hl:d.length=2^k)(hn:cG k d≠0):dK rs=cG k d:=by
 have hk:=(YA.1 hd).1;have e:rs.getD k []=d:=by rw[ZS,hd];rfl
 rw[rV h5 (k:=k) oz h,show rs.length-k=(rs.length-(k+1))+1 by omega];show(if _ then _ else _)=_;rw[e,aa1 (by rw[hl];simp),aa2 hn]
theorem H2{rs:List (List Rt)}{k:Nat}{d:List Rt}(hd:rs[k]?=some d):aQ (bp rs) k=am k (lq d):=by
 unfold aQ;rw[ur,ZS,hd];rfl
theorem JG{rs:List (List Rt)}(h5:rs.length<=5){k:Nat}{d:List Rt}(hd:rs[k]?=some d)(h:∀j,j<k->gT rs j)(hl:d.length=2^k)(hn:cG k d=0)
  (hs:T.sgn (aQ (bp rs)) k (am k (lq d))<0):dK rs=3:=by
 have hk:=(YA.1 hd).1;have e:rs.getD k []=d:=by rw[ZS,hd];rfl
 rw[rV h5 (k:=k) oz h,show rs.length-k=(rs.length-(k+1))+1 by omega];show(if _ then _ else _)=_;rw[e,aa1 (by rw[hl];simp),aa1 (by rw[hn];simp),H2 hd,aa2 hs]
theorem TP{rs:List (List Rt)}{k:Nat}{d:List Rt}(hd:rs[k]?=some d)(hl:d.length=2^k)(hn:cG k d=0)
  (hs:¬T.sgn (aQ (bp rs)) k (am k (lq d))<0):gT rs k:=by
 have e:rs.getD k []=d:=by rw[ZS,hd];rfl
 exact⟨by rw[e];exact hl,by rw[e];exact hn,by rw[H2 hd];omega⟩
theorem Kj{rs:List (List Rt)}(bc:∀d∈rs,∀x∈d,x.ok){k:Nat}(hk:k<=rs.length)(h:∀j,j<k->gT rs j):eI (rs.take k)=cX ((bp rs).take k):=by
 unfold eI cX;rw[Ft bc hk (fun j hj=>(h j hj).2.1)]
theorem Ot{α:Type}(f:α->AV)(l:List α)(n:Nat):AV.lst 1 (((l.map f).drop 0).take (n-0))=.lst 1 ((l.take n).map f):=by
 rw[Nat.sub_zero,aax,map_take]
theorem O6{rs:List (List Rt)}(h:5<rs.length):dK rs=4:=by unfold dK;rw[aa2 h]
theorem Ox{rs xs:List (List Rt)}(h:dK rs≠0):bD rs xs=dK rs:=by unfold bD;rw[aa2 h]
theorem LE{rs xs:List (List Rt)}{i:Nat}{a:List Rt}(h:dK rs=0)(ha:xs[i]?=some a)(hb:∀x∈xs.take i,cG rs.length x=0)(hn:cG rs.length a≠0):bD rs xs=cG rs.length a:=by
 unfold bD;rw[aa1 (by rw[h];simp)];have e:xs=xs.take i++xs.drop i:=(YN i xs).symm;have hi:=(YA.1 ha).1;rw[e,aas,Ad _ _ (o8 (fun e he=>by obtain⟨x,hx,rfl⟩:=Yr.1 he;exact hb x hx)),Yd hi];have ha':xs[i]=a:=by rw[ZV hi]at ha;exact Option.some.inj ha
 rw[ha'];show(if _ then _ else _)=_;rw[aa2 hn]
theorem re{n:Nat}{a:List Rat}(h:Nl n a):Nl n (dU a):=by
 rcases h with rfl |⟨j,hj,h⟩
 ·exact .inl rfl
 ·exact .inr ⟨j,hj,by rw[jT,h]⟩
theorem rJ{n:Nat}{a b:List Rat}(h:Nl n a)(h':Nl n b):Nl n (cJ a b):=by
 rcases h with rfl |⟨j,hj,h⟩ <;> rcases h' with rfl |⟨i,hi,h'⟩
 ·exact .inl (YG (by rw[eW];rfl))
 ·exact .inr ⟨i,hi,by rw[eW,h'];simp⟩
 ·exact .inr ⟨j,hj,by rw[eW,h];simp⟩
 ·refine .inr ⟨max j i, by omega, ?_⟩;rw [eW,h,h'];rcases Nat.le_total j i with g | g
  ·rw[X4 g,X4 (cV g)]
  ·rw[Xw g,Xw (cV g)]
theorem vF{a b:List Rt}{e f:Nat}(ha:NR a e)(hb:NR b f):∀x∈[a,b],(∀y∈x,y.ok)/\x.length<=281474976710656:=by
 intro x hx;simp only[aai,aap,or_false]at hx;rcases hx with rfl |rfl
 ·exact⟨ha.ok,ha.len⟩
 ·exact⟨hb.ok,hb.len⟩
theorem ww{rs:List (List Rt)}(h:eI rs=cX (bp rs)):AV.lst 1 (rs.map nR)=.lst 1 ((bp rs).map nA):=by
 unfold eI cX at h
 injection h with h
 injection h
theorem Df{x:Rt}:x.q+(rt 0).q=x.q:=by rw[bQ,Rat.add_zero]
theorem GM(rs:List (List Rt))(r:Nat)(h:TR rs r):FP 125 [eI rs] (be (dK rs)):=by
 have ke:=h.ll;have hr:=h.le;refine ai func125 ?_;refine gl ?_;refine gC (fun z=>?_) (fun z=>?_)
 ·have h5 : 5 < rs.length := by have := z; simp only [aa, aa3] at this; omega
  refine af ?_;rw[O6 h5];rfl
 have h5:rs.length<=5:=by have:=z;simp only[aa,decide_eq_false_iff_not]at this;omega
 refine gl ?_;refine aK [1,13,14] [1] (fun(k:Nat)=>[pP 15 (i64 k)]) (fun _=>[]) (fun k=>k<=rs.length/\∀j,j<k->gT rs j) (fun k=>rs.length-k) 0 ⟨aaf _,fun j hj=>by omega⟩ ?_;rintro k ⟨hk,hj⟩ K1 J1;refine gC (fun z=>?_) (fun z=>?_)
 ·have ab : k < rs.length := by simpa [aa] using z
  obtain⟨d,hd⟩:=aJ ab;have AN:=ZR hd;have Wf:=h.len d AN;refine gi (ao hd) ?_;refine gl ?_;refine gs (jk (.const _) (.tmp rfl) oz (yt oz) rfl) ?_;refine gC (fun z=>?_) (fun z=>?_)
  ·have h1 : d.length ≠ 2 ^ k := by have := z; simp only [aa, bne_iff_ne, ne_eq] at this; omega
   refine af ?_;rw[OU h5 hd hj h1];rfl
  have h1:d.length=2^k:=by have:=z;simp only[aa,bne_eq_false_iff_eq]at this;omega
  have Wg:(rs.take k).length=k:=by simp;omega
  have IQ:=CF (rs.take k) d (h.ok d AN) Wf oz;rw[Wg]at IQ;refine gs (d6 (.tmp rfl) (.none _) (.some _ (.tmp rfl) oz) T77 rfl T188 rfl oz (by simp only[ZU];omega) rfl) ?_ (9,0);refine gW (Wk.of (sl:=[pP 1 (.ptr 1 0),pP 3 (i64 k),pP 4 (nR d),pP 5 (.ptr 5 0),pP 13 (.lst 1 (rs.map nR)),pP 14 (i64 rs.length),pP 15 (i64 k)]) (hp:=[pP 1 (.box [.lst 1 (rs.map nR)]),pP 5 (.box [.lst 1 ((rs.take k).map nR)])]) aI (.k (.cons rfl (BlkSub.bL (.cons (.of (Ot nR rs k)) .nil) rfl) .nil))) ?_;refine gc IQ ?_;refine gC (fun z=>?_) (fun z=>?_)
  ·have h2:=fX z;refine af ?_;rw[ND h5 hd hj h1 h2]
  have h2:=f7 z;have vS:=M7 (ts:=bp rs) (fun j jw=>(hj j jw).nl) h.rb;have hq:=wR h2 (h.ok d AN);have mD:Cb r (lq d):=by have:=h.rb.cb k;rw[ur,ZS,hd]at this;exact this
  have sG:FP 187 [eI (rs.take k),nR d] (i64 (T.sgn (aQ (bp rs)) k (am k (lq d)))):=by
   have h9:=zj ((bp rs).take k) k r vS oz (by simp;omega) k (lq d) r (Z0 _) hq.2 mD (wn (Z0 k) (by have:=h.three;omega) hr (by have:=ui k;omega));rw[T.sgn_congr k (fun j jw=>Qp jw)]at h9;rw[Kj h.ok oz hj,hq.1,fS];rw[<- hq.1];exact h9
  refine gc sG ?_;refine gC (fun z=>?_) (fun z=>?_)
  ·have h3 : T.sgn (aQ (bp rs)) k (am k (lq d)) < 0 := by simpa [aa] using z
   refine af ?_;rw[JG h5 hd hj h1 h2 h3];rfl
  have h3:¬T.sgn (aQ (bp rs)) k (am k (lq d))<0:=by simpa[aa]using z
  refine ga aF ?_;exact aG J1 (k+1) ⟨ab,fun j jw=>by rcases Z2 j k with h9 |h9;exact hj j h9;(have:j=k:=by omega);subst this;exact TP hd h1 h2 h3⟩
 have ab:k=rs.length:=by have:rs.length<=k:=(by simpa[aa]using z);omega
 subst ab;refine af ?_;rw[QE h5 hj];rfl
theorem pz(rs:List (List Rt))(r:Nat)(h:TR rs r)(xs:List (List Rt))(hx:∀a∈xs,(∀x∈a,x.ok)/\a.length<=281474976710656)(hl:xs.length<=281474976710656):FP 250 [eI rs,.lst 1 (xs.map nR)] (be (bD rs xs)):=by
 refine ai func250 ?_;refine gc (GM rs r h) ?_;refine gC (fun z=>?_) (fun z=>?_)
 ·have h1:=fX z;refine af ?_;rw[Ox h1]
 have h1:=f7 z;refine gl ?_;refine aK [2,14,15] [2] (fun(i:Nat)=>[pP 16 (i64 i)]) (fun _=>[]) (fun i=>i<=xs.length/\∀x∈xs.take i,cG rs.length x=0) (fun i=>xs.length-i) 0 ⟨aaf _,fun x hx=>by simp at hx⟩ ?_;rintro i ⟨hi,hj⟩ K1 J1;refine gC (fun z=>?_) (fun z=>?_)
 ·have ab : i < xs.length := by simpa [aa] using z
  obtain⟨a,ha⟩:=aJ ab;have bc:=hx a (ZR ha);refine gi (ao ha) ?_;refine gc (CF rs a bc.1 bc.2 h.ll) ?_;refine gC (fun z=>?_) (fun z=>?_)
  ·have h2:=fX z;refine af ?_;rw[LE h1 ha hj h2]
  have h2:=f7 z;refine ga aF ?_;exact aG J1 (i+1) ⟨ab,fun x hx=>by rw[d7 ha]at hx;rcases ZY.1 hx with h9 |h9;exact hj x h9;(rw[Z3.1 h9];exact h2)⟩
 have ab:i=xs.length:=by have:xs.length<=i:=(by simpa[aa]using z);omega
 subst ab;rw[aab]at hj;refine af ?_;rw[yI h1 hj];rfl
theorem TF(rs:List (List Rt))(r:Nat)(h:TR rs r)(a:List Rt)(e:Nat)(ha:NR a e)(he:e<=lm rs.length) :
  FP 221 [eI rs,nR a] (.tup [nA (if bD rs [a]=0 then sh rs.length (T.neg rs.length (am rs.length (lq a)))else[]),be (bD rs [a])]):=by
 have pZ:=mR rs.length;refine ai func221 ?_;refine gc (pz rs r h [a] (fun x hx=>by rw[Z3.1 hx];exact⟨ha.ok,ha.len⟩) (by simp)) ?_;refine gC (fun z=>?_) (fun z=>?_) (st2:=(77777,0))
 ·have h1:=fX z;refine gR ?_;exact kK (by rw[aa1 h1];exact Sub.tup (.cons (.nil _ _ _) (.cons (.refl _) .nil)))
 have h1:=f7 z;obtain⟨h2,h3⟩:=oP h1;obtain⟨tw,_⟩:=pF h h2;obtain⟨e1,na⟩:=ha.num (h3 a (by simp));have h5:rs.length<=5:=by have:=tw.five;rwa [ZU]at this
 have hl:=na.len5 h5;have qa:∀q∈lq a,Qs q:=fun q hq=>ha.cb.qs oz hq
 have qm:∀q∈dU (lq a),Qs q:=fun q hq=>ha.cb.minus.qs oz hq
 have nm:=re na;refine gW (Wk.of (sl:=[pP 1 (nA (lq a)),pP 2 (.ptr 2 0),pP 6 (be (bD rs [a]))]) (hp:=[pP 2 (.box [.lst 1 (rs.map nR)])]) (.cons rfl (.of e1) (.k (.k .nil))) (.k .nil)) ?_;refine gc (rq _ qa oz) ?_;refine gc (oA _ h5 nm qm) ?_;refine bh ?_;rw[aa2 h1,h1,pq];rfl
theorem PE(rs:List (List Rt))(r:Nat)(h:TR rs r)(a b:List Rt)(e f:Nat)(ha:NR a e)(hb:NR b f)(he:e+f<=lm rs.length) :
  FP 335 [eI rs,nR a,nR b] (.tup [nA (if bD rs [a,b]=0 then sh rs.length (T.add rs.length (am rs.length (lq a)) (am rs.length (lq b)))else[]),be (bD rs [a,b])]):=by
 have pZ:=mR rs.length;refine ai func335 ?_;refine gc (pz rs r h [a,b] (vF ha hb) (by simp)) ?_;refine gC (fun z=>?_) (fun z=>?_) (st2:=(77777,0))
 ·have h1:=fX z;refine gR ?_;exact kK (by rw[aa1 h1];exact Sub.tup (.cons (.nil _ _ _) (.cons (.refl _) .nil)))
 have h1:=f7 z;obtain⟨h2,h3⟩:=oP h1;obtain⟨tw,e0⟩:=pF h h2;obtain⟨e1,na⟩:=ha.num (h3 a (by simp));obtain⟨e2,nb⟩:=hb.num (h3 b (by simp));have h5:rs.length<=5:=by have:=tw.five;rwa [ZU]at this
 have gK:=na.len5 h5;have fj:=nb.len5 h5;have qa:∀q∈lq a,Qs q:=fun q hq=>ha.cb.qs oz hq
 have qb:∀q∈lq b,Qs q:=fun q hq=>hb.cb.qs oz hq
 have qp:∀q∈cJ (lq a) (lq b),Qs q:=fun q hq=>(ha.cb.plus hb.cb).qs oz hq
 have np:=rJ na nb;refine gW (Wk.of (sl:=[pP 1 (nA (lq a)),pP 2 (nA (lq b)),pP 3 (.ptr 3 0),pP 8 (be (bD rs [a,b]))]) (hp:=[pP 3 (.box [.lst 1 (rs.map nR)])]) (.cons rfl (.of e1) (.cons rfl (.of e2) (.k (.k .nil)))) (.k .nil)) ?_;refine gc (nj _ _ qa qb oz oz) ?_;refine gc (oA _ h5 np qp) ?_;refine bh ?_;rw[aa2 h1,h1,lV];rfl
theorem QY(rs:List (List Rt))(r:Nat)(h:TR rs r)(a b:List Rt)(e f:Nat)(ha:NR a e)(hb:NR b f)(he:e+f<=lm rs.length) :
  FP 331 [eI rs,nR a,nR b] (.tup [nA (if bD rs [a,b]=0 then sh rs.length (T.add rs.length (am rs.length (lq a)) (T.neg rs.length (am rs.length (lq b))))else[]),be (bD rs [a,b])]):=by
 have pZ:=mR rs.length;refine ai func331 ?_;refine gc (pz rs r h [a,b] (vF ha hb) (by simp)) ?_;refine gC (fun z=>?_) (fun z=>?_) (st2:=(77777,0))
 ·have h1:=fX z;refine gR ?_;exact kK (by rw[aa1 h1];exact Sub.tup (.cons (.nil _ _ _) (.cons (.refl _) .nil)))
 have h1:=f7 z;obtain⟨h2,h3⟩:=oP h1;obtain⟨tw,e0⟩:=pF h h2;obtain⟨e1,na⟩:=ha.num (h3 a (by simp));obtain⟨e2,nb⟩:=hb.num (h3 b (by simp));have h5:rs.length<=5:=by have:=tw.five;rwa [ZU]at this
 have gK:=na.len5 h5;have fj:=nb.len5 h5;have qa:∀q∈lq a,Qs q:=fun q hq=>ha.cb.qs oz hq
 have qb:∀q∈lq b,Qs q:=fun q hq=>hb.cb.qs oz hq
 have qm:∀q∈dU (lq b),Qs q:=fun q hq=>hb.cb.minus.qs oz hq
 have qp:∀q∈cJ (lq a) (dU (lq b)),Qs q:=fun q hq=>(ha.cb.plus hb.cb.minus).qs oz hq
 have np:=rJ na (re nb);refine gW (Wk.of (sl:=[pP 1 (nA (lq a)),pP 2 (nA (lq b)),pP 3 (.ptr 3 0),pP 8 (be (bD rs [a,b]))]) (hp:=[pP 3 (.box [.lst 1 (rs.map nR)])]) (.cons rfl (.of e1) (.cons rfl (.of e2) (.k (.k .nil)))) (.k .nil)) ?_;refine gc (rq _ qb oz) ?_;refine gc (nj _ _ qa qm oz (by rw[jT];omega)) ?_;refine gc (oA _ h5 np qp) ?_;refine bh ?_;rw[aa2 h1,h1,lV,pq];rfl
theorem J6(rs:List (List Rt))(r:Nat)(h:TR rs r)(a b:List Rt)(e f:Nat)(ha:NR a e)(hb:NR b f)(he:e+f<=lm rs.length) :
  FP 336 [eI rs,nR a,nR b] (.tup [nA (if bD rs [a,b]=0 then sh rs.length (T.mul (aQ (bp rs)) rs.length (am rs.length (lq a)) (am rs.length (lq b)))else[]),be (bD rs [a,b])]):=by
 have hr:=h.le;have pZ:=mR rs.length;refine ai func336 ?_;refine gc (pz rs r h [a,b] (vF ha hb) (by simp)) ?_;refine gC (fun z=>?_) (fun z=>?_) (st2:=(77777,0))
 ·have h1:=fX z;refine gR ?_;exact kK (by rw[aa1 h1];exact Sub.tup (.cons (.nil _ _ _) (.cons (.refl _) .nil)))
 have h1:=f7 z;obtain⟨h2,h3⟩:=oP h1;obtain⟨tw,e0⟩:=pF h h2;obtain⟨e1,na⟩:=ha.num (h3 a (by simp));obtain⟨e2,nb⟩:=hb.num (h3 b (by simp));have a6:(bp rs).length=rs.length:=ZU _;have h5:rs.length<=5:=by have:=tw.five;omega
 have gK:=na.len5 h5;have fj:=nb.len5 h5;have km:=tw.ok;rw[a6]at km;have hE:=O8 r h5;have np:=fN (bp rs) rs.length km.1 rs.length rs.length _ _ (Z0 _) (Z0 _) na nb;have cp:=Cb.mul km (k:=rs.length) (Z0 rs.length) (Z0 _) na nb ha.cb hb.cb;have bj:=tW (bp rs) rs.length r km h5 oz rs.length rs.length _ _ e f (Z0 _) (Z0 _) na nb ha.cb hb.cb oz;refine gW (Wk.of (sl:=[pP 1 (nA (lq a)),pP 2 (nA (lq b)),pP 3 (.ptr 3 0),pP 8 (be (bD rs [a,b]))]) (hp:=[pP 3 (.box [.lst 1 ((bp rs).map nA)])]) (.cons rfl (.of e1) (.cons rfl (.of e2) (.k (.k .nil)))) (.cons rfl (BlkSub.bL (.cons (.of (ww e0)) .nil) rfl) .nil)) ?_;refine gc bj ?_;refine gc (oA _ h5 np.1 (fun q hq=>cp.qs oz hq)) ?_;refine bh ?_;rw[aa2 h1,h1,np.2];rfl
theorem Jv(rs:List (List Rt))(r:Nat)(h:TR rs r)(a b:List Rt)(e f:Nat)(ha:NR a e)(hb:NR b f)(he:e+f+1<=lm rs.length) :
  FP 253 [eI rs,nR a,nR b] (.tup [i64 (if bD rs [a,b]=0 then T.sgn (aQ (bp rs)) rs.length (T.add rs.length (am rs.length (lq a)) (T.neg rs.length (am rs.length (lq b))))else 0),be (bD rs [a,b])]):=by
 have hr:=h.le;have pZ:=mR rs.length;refine ai func253 ?_;refine gc (pz rs r h [a,b] (vF ha hb) (by simp)) ?_;refine gC (fun z=>?_) (fun z=>?_) (st2:=(77777,0))
 ·have h1:=fX z;refine bh ?_;rw[aa1 h1];rfl
 have h1:=f7 z;obtain⟨h2,h3⟩:=oP h1;obtain⟨tw,e0⟩:=pF h h2;obtain⟨e1,na⟩:=ha.num (h3 a (by simp));obtain⟨e2,nb⟩:=hb.num (h3 b (by simp));have a6:(bp rs).length=rs.length:=ZU _;have h5:rs.length<=5:=by have:=tw.five;omega
 have gK:=na.len5 h5;have fj:=nb.len5 h5;have km:=tw.ok;rw[a6]at km;have qa:∀q∈lq a,Qs q:=fun q hq=>ha.cb.qs oz hq
 have qb:∀q∈lq b,Qs q:=fun q hq=>hb.cb.qs oz hq
 have qm:∀q∈dU (lq b),Qs q:=fun q hq=>hb.cb.minus.qs oz hq
 have np:=rJ na (re nb);have sG:=zj (bp rs) rs.length r km h5 oz rs.length _ _ (Z0 _) np (ha.cb.plus hb.cb.minus) (wn (Z0 rs.length) (by have:=tw.three;omega) hr oz);refine gW (Wk.of (sl:=[pP 1 (nA (lq a)),pP 2 (nA (lq b)),pP 3 (.ptr 3 0),pP 8 (be (bD rs [a,b]))]) (hp:=[pP 3 (.box [.lst 1 ((bp rs).map nA)])]) (.cons rfl (.of e1) (.cons rfl (.of e2) (.k (.k .nil)))) (.cons rfl (BlkSub.bL (.cons (.of (ww e0)) .nil) rfl) .nil)) ?_;refine gc (rq _ qb oz) ?_;refine gc (nj _ _ qa qm oz (by rw[jT];omega)) ?_;refine gc sG ?_;refine gD ?_;refine bh ?_;rw[aa2 h1,h1,lV,pq];rfl
theorem Pi(rs:List (List Rt))(r:Nat)(h:TR rs r)(a:List Rt)(e:Nat)(ha:NR a e)(he:e<=lm rs.length) :
  FP 258 [eI rs,nR a] (.tup [i64 (if bD rs [a]=0 then T.sgn (aQ (bp rs)) rs.length (am rs.length (lq a))else 0),be (bD rs [a])]):=by
 have hr:=h.le;have pZ:=mR rs.length;refine ai func258 ?_;refine gc (pz rs r h [a] (fun x hx=>by rw[Z3.1 hx];exact⟨ha.ok,ha.len⟩) (by simp)) ?_;refine gC (fun z=>?_) (fun z=>?_) (st2:=(77777,0))
 ·have h1:=fX z;refine bh ?_;rw[aa1 h1];rfl
 have h1:=f7 z;obtain⟨h2,h3⟩:=oP h1;obtain⟨tw,e0⟩:=pF h h2;obtain⟨e1,na⟩:=ha.num (h3 a (by simp));have a6:(bp rs).length=rs.length:=ZU _;have h5:rs.length<=5:=by have:=tw.five;omega
 have km:=tw.ok;rw[a6]at km;have sG:=zj (bp rs) rs.length r km h5 oz rs.length _ _ (Z0 _) na ha.cb (wn (Z0 rs.length) (by have:=tw.three;omega) hr oz);refine gW (Wk.of (sl:=[pP 1 (nA (lq a)),pP 2 (.ptr 2 0),pP 6 (be (bD rs [a]))]) (hp:=[pP 2 (.box [.lst 1 ((bp rs).map nA)])]) (.cons rfl (.of e1) (.k (.k .nil))) (.cons rfl (BlkSub.bL (.cons (.of (ww e0)) .nil) rfl) .nil)) ?_;refine gc sG ?_;refine bh ?_;rw[aa2 h1,h1];rfl
theorem Ni(x:Rt)(hx:x.ok)(hs:Qs x.q):FP 120 [x.av] (nA (sh 0 (x.q:Rat))):=by
 have sH:=ru x (rt 0) hx Qs.zero.ok;rw[Df]at sH;refine ai func120 ?_;refine gc (Con.sA (.cons (.refl _) (.cons mH .nil)) sH) ?_;refine gc (oA (n:=0) [x.q] oz (.inr ⟨0,Z0 _,rfl⟩) (fun q hq=>by rw[Z3.1 hq];exact hs)) ?_;refine af ?_;rfl
theorem Kq{e:Nat}(h:aa .neq (e:Int) 0=true):e≠0:=by
 have:(e:Int)≠0:=by simpa[aa]using h
 omega
theorem Dt{e:Nat}(h:aa .neq (e:Int) 0=false):e=0:=by
 have:(e:Int)=0:=by simpa[aa]using h
 omega
structure Tn where
  t:Rt
  half:Bool
namespace Tn
def av(x:Tn):AV:=.agg [bl x.t.neg,ws x.t.num,ws x.t.den,bl x.half]
def err(x:Tn):Nat:=if x.t.valid=true/\(x.half=true->x.t.q=0)then 0 else 2
end Tn
def To(half:Bool)(t:Rat):Rat:=if half then -1 else(1-t*t)/(1+t*t)
def R3(half:Bool)(t:Rat):Rat:=if half then 0 else(t+t)/(1+t*t)
structure Plc where
  x:Rt
  y:Rt
def Plc.av(p:Plc):AV:=.agg [bl p.x.neg,ws p.x.num,ws p.x.den,bl p.y.neg,ws p.y.num,ws p.y.den]
structure Pse where
  turn:Tn
  at_:Plc
def Pse.av(p:Pse):AV:=.agg [bl p.turn.t.neg,ws p.turn.t.num,ws p.turn.t.den,bl p.turn.half,bl p.at_.x.neg,ws p.at_.x.num,ws p.at_.x.den,bl p.at_.y.neg,ws p.at_.y.num,ws p.at_.y.den]
def Pse.ok(p:Pse):Bool:=decide (p.turn.err=0)&&p.at_.x.valid&&p.at_.y.valid
theorem pc(a b:Bool):cond a b false=(a&&b):=by cases a <;> rfl
theorem kF{p q:Rat}(hp:Qs p)(hq:Qs q):FP 33 [qA p,qA q] (qA (p+q)):=by
 have h:=ru (rt p) (rt q) hp.ok hq.ok;rw[bQ,bQ]at h;exact h
theorem lW{p q:Rat}(hp:Qs p)(hq:Qs q):FP 39 [qA p,qA q] (qA (p-q)):=by
 have h:=Nh (rt p) (rt q) hp.ok hq.ok;rw[bQ,bQ]at h;exact h
theorem lU{p q:Rat}(hp:Qs p)(hq:Qs q):FP 55 [qA p,qA q] (qA (p*q)):=by
 have h:=C7 (rt p) (rt q) hp.ok hq.ok;rw[bQ,bQ]at h;exact h
theorem zu{p q:Rat}(hp:Qs p)(hq:Qs q):FP 56 [qA p,qA q] (.tup [qA (p/q),be (if q=0 then 8 else 0)]):=by
 have h:=O4 (rt p) (rt q) hp.ok hq.ok;rw[bQ,bQ]at h;exact h
theorem SX{p:Rat}(hp:Qs p):FP 94 [qA p] (qA (-p)):=by
 have h:=yq (rt p) hp.ok;rw[bQ]at h;exact h
theorem jd{p:Rat}(hp:Qs p):FP 17 [qA p] (i64 (asQ p)):=by
 have h:=yh (rt p) hp.ok;rw[bQ]at h;exact h
theorem eF{p q:Rat}(hp:Qs p)(hq:Qs q):FP 13 [qA p,qA q] (i64 (asQ (p-q))):=by
 have h:=yg (rt p) (rt q) hp.ok hq.ok;rw[bQ,bQ]at h;exact h
variable{P:abe}
mutual
def AV.pm(σ:Nat->Nat):AV->AV
  | .ms k sz off len=>.ms (σ k) sz off len
  | .ptr k off=>.ptr (σ k) off
  | .eptr k sz i off=>.eptr (σ k) sz i off
  | .yl k=>.yl (σ k)
  | .agg cs=>.agg (AV.pms σ cs)
  | .tup cs=>.tup (AV.pms σ cs)
  | .fn f cs=>.fn f (AV.pms σ cs)
  | .opt b x=>.opt b (AV.pm σ x)
  | .v x=>.v x
  | .lst sz l=>.lst sz l
  | .iptr l=>.iptr l
  | .cl f cs ds=>.cl f cs ds
def AV.pms(σ:Nat->Nat):List AV->List AV
  |[]=>[]
  |x::l=>AV.pm σ x::AV.pms σ l
end
theorem AV.pms_eq(σ:Nat->Nat):∀l,AV.pms σ l=l.map (AV.pm σ)
 |[]=>rfl
 |x::l=>by simp only[AV.pms,aaz,AV.pms_eq σ l]
theorem AV.pm_one(σ:Nat->Nat)(x:AV)(h:x.one=true):(x.pm σ).one=true:=by
 cases x <;> simp only[AV.pm] <;> exact h
mutual
theorem AV.pm_pm{σ:Nat->Nat}(hσ:∀k,σ (σ k)=k):∀x:AV,(x.pm σ).pm σ=x
 | .ms k sz off len=>by simp only[AV.pm,hσ]
 | .ptr k off=>by simp only[AV.pm,hσ]
 | .eptr k sz i off=>by simp only[AV.pm,hσ]
 | .yl k=>by simp only[AV.pm,hσ]
 | .agg cs=>by simp only[AV.pm];rw[AV.pms_pms hσ cs]
 | .tup cs=>by simp only[AV.pm];rw[AV.pms_pms hσ cs]
 | .fn f cs=>by simp only[AV.pm];rw[AV.pms_pms hσ cs]
 | .opt b x=>by simp only[AV.pm];rw[AV.pm_pm hσ x]
 | .v x=>by simp only[AV.pm]
 | .lst sz l=>by simp only[AV.pm]
 | .iptr l=>by simp only[AV.pm]
 | .cl f cs ds=>by simp only[AV.pm]
theorem AV.pms_pms{σ:Nat->Nat}(hσ:∀k,σ (σ k)=k):∀l:List AV,AV.pms σ (AV.pms σ l)=l
 |[]=>by simp only[AV.pms]
 |x::l=>by simp only[AV.pms];rw[AV.pm_pm hσ x,AV.pms_pms hσ l]
end
theorem uu{g:Nat->Array abc->Prop}{S:Nat->Nat->Prop}{σ:Nat->Nat}(hσ:∀k,σ (σ k)=k){m:Nat->Option Nat}{v:abc}{x:AV}(h:Rep g S m v x):Rep g S (fun k=>m (σ k)) v (x.pm σ):=by
 induction h with
 |v x=>exact .v x
 |lst0 a cap sz'=>exact .lst0 a cap sz'
 |lst u hb hc hl hs ho hu hr _=>exact .lst u hb hc hl hs ho hu hr
 |iptr u hb ho hu hr _=>exact .iptr u hb ho hu hr
 |cl a b c d _ _=>exact .cl a b c d
 |ptr hm=>exact .ptr (by simp only[hσ];exact hm)
 |eptr hm=>exact .eptr (by simp only[hσ];exact hm)
 |yl hm=>exact .yl (by simp only[hσ];exact hm)
 |ms0 a k sz off=>exact .ms0 _ _ _ _
 |ms hm hc hS=>exact .ms (by simp only[hσ];exact hm) hc hS
 |opt h h' ih=>exact .opt ih h'
 |agg hn h1 hr ih =>
  simp only[AV.pm,AV.pms_eq];refine .agg (by simpa using hn) ?_ ?_
  ·intro j c hc;simp only[ZZ,ZX]at hc;obtain⟨y,hy,rfl⟩:=hc;exact AV.pm_one _ _ (h1 j y hy)
  ·intro j u c hu hc;simp only[ZZ,ZX]at hc;obtain⟨y,hy,rfl⟩:=hc;exact ih j u y hu hy
 |tup hn hr ih =>
  simp only[AV.pm,AV.pms_eq];refine .tup (by simpa using hn) ?_;intro j u c hu hc;simp only[ZZ,ZX]at hc;obtain⟨y,hy,rfl⟩:=hc;exact ih j u y hu hy
 |fn hn hr ih =>
  simp only[AV.pm,AV.pms_eq];refine .fn (by simpa using hn) ?_;intro j u c hu hc;simp only[ZZ,ZX]at hc;obtain⟨y,hy,rfl⟩:=hc;exact ih j u y hu hy
theorem Rb{g:Nat->Array abc->Prop}{S:Nat->Nat->Prop}{σ:Nat->Nat}(hσ:∀k,σ (σ k)=k){m:Nat->Option Nat}{w:abf}{o:Option Nat}{x:Blk}(h:BlkRep g S m w o x) :
  BlkRep g S (fun k=>m (σ k)) w o (x.map (AV.pm σ)):=by
 cases x with
 |row sz es=>exact h.mono (fun _ _ h=>h) (fun _ _ h=>h) (fun _ _ hk=>hk.elim) rfl (fun _ _=>rfl)
 |vec vs=>exact h.mono (fun _ _ h=>h) (fun _ _ h=>h) (fun _ _ hk=>hk.elim) rfl (fun _ _=>rfl)
 |loop=>exact h.mapLoop _ (fun _ _ _ _ h=>uu hσ h)
 |box cs =>
  cases h with
  |box hw hn h1 aE =>
   refine .box hw (by simpa using hn) ?_ ?_
   ·intro j x hx;simp only[ZZ,ZX]at hx;obtain⟨y,hy,rfl⟩:=hx;exact AV.pm_one _ _ (h1 j y hy)
   ·intro j u x hu hx;simp only[ZZ,ZX]at hx;obtain⟨y,hy,rfl⟩:=hx;exact uu hσ (aE j u y hu hy)
theorem zk{σ:Nat->Nat}(hσ:∀k,σ (σ k)=k):∀sl:aX,fU (AV.pm σ) (fU (AV.pm σ) sl)=sl
 |[]=>rfl
 |(t,none)::l=>by simp only[fU,zk hσ l]
 |(t,some x)::l=>by simp only[fU,zk hσ l,AV.pm_pm hσ x]
theorem Blk.pm_pm{σ:Nat->Nat}(hσ:∀k,σ (σ k)=k)(x:Blk):(x.map (AV.pm σ)).map (AV.pm σ)=x:=by
 cases x with
 |row sz es=>rfl
 |vec vs=>rfl
 |loop d st pe sl=>simp only[Blk.map,zk hσ]
 |box cs =>
  simp only[Blk.map];rw[<- AV.pms_eq,<- AV.pms_eq,AV.pms_pms hσ]
def ed(σ:Nat->Nat):Hp->Hp
  |[]=>[]
  |(k,x)::l=>(σ k,match x with |some b=>some (b.map (AV.pm σ)) |none=>none)::ed σ l
theorem j5{σ:Nat->Nat}(hσ:∀k,σ (σ k)=k):∀(H:Hp)(k:Nat),lk (ed σ H) k=(lk H (σ k)).map (Blk.map (AV.pm σ))
 |[],k=>rfl
 |(k',x)::l,k=>by
  simp only[ed,aq,j5 hσ l k]
  by_cases h:k=σ k'
  ·rw[aa2 h,aa2 (by rw[h,hσ])];cases x <;> rfl
  ·rw[aa1 h,aa1 (fun e=>h (by rw[<- e,hσ]))]
theorem xq{σ:Nat->Nat}(hσ:∀k,σ (σ k)=k)(H:Hp)(m:Nat->Option Nat):aB (ed σ H) (fun k=>m (σ k))=aB H m:=by
 funext b;apply propext;constructor
 ·rintro⟨k,z,hz,hb⟩;rw[j5 hσ,ZX]at hz;obtain⟨y,hy,rfl⟩:=hz;exact⟨σ k,y,hy,hb⟩
 ·rintro⟨k,y,hy,hb⟩;exact⟨σ k,y.map (AV.pm σ),by rw[j5 hσ,hσ,hy];rfl,by simp only[hσ];exact hb⟩
theorem F7{σ:Nat->Nat}(hσ:∀k,σ (σ k)=k){ext:Nat->Prop}{H:Hp}{m:Nat->Option Nat}{w:abf}(h:HeapRel ext H m w):HeapRel ext (ed σ H) (fun k=>m (σ k)) w:=by
 have e:Im ext (ed σ H) (fun k=>m (σ k)) w=Im ext H m w:=by funext b cs;simp only[Im,xq hσ]
 refine⟨?_,?_,?_⟩
 ·intro k z hz;rw[j5 hσ,ZX]at hz;obtain⟨y,hy,rfl⟩:=hz;rw[e];exact Rb hσ (h.blk _ y hy)
 ·intro k k' z z' b hz hz' hb hb';rw[j5 hσ,ZX]at hz hz';obtain⟨y,hy,_⟩:=hz;obtain⟨y',hy',_⟩:=hz';have:=h.inj _ _ y y' b hy hy' hb hb';rw[<- hσ k,this,hσ]
 ·intro k z b hz hb;rw[j5 hσ,ZX]at hz;obtain⟨y,hy,_⟩:=hz;exact h.sep _ y b hy hb
theorem Con.pm{σ:Nat->Nat}(hσ:∀k,σ (σ k)=k){f:FuncId}{args:List AV}{H H':Hp}{r:AV}(h:Con P f args H r H'):Con P f (args.map (AV.pm σ)) (ed σ H) (r.pm σ) (ed σ H'):=by
 refine⟨h.ok,?_⟩;intro ext m w vs hext bw cM dP
 have bf:∀k,lk (ed σ (ed σ H)) k=lk H k:=by
  intro k;rw[j5 hσ,j5 hσ,hσ];cases lk H k with
  |none=>rfl
  |some y=>simp only[ZP,Blk.pm_pm hσ]
 have hh:=HeapRel.congr bf (F7 hσ bw);have em:(fun k=>(fun k=>m (σ k)) (σ k))=m:=by funext k;simp only[hσ]
 have eo:aB (ed σ H) m=aB H (fun k=>m (σ k)):=by
  have:=xq hσ H (fun k=>m (σ k));rw[em]at this;exact this
 have ei:Im ext (ed σ H) m w=Im ext H (fun k=>m (σ k)) w:=by funext b cs;simp only[Im,eo]
 refine Calls.mono (h.ret ext (fun k=>m (σ k)) w vs hext hh (by simpa using cM) (fun j v x hv hx=>?_)) ?_
 ·have h1 := dP j v (x.pm σ) hv (by simp[hx]);have h2:=uu hσ h1;rw[AV.pm_pm hσ,ei]at h2;exact h2
 ·rintro e w' ⟨v,m',rfl,hf,hh',hn,hk,aE⟩;refine⟨v,fun k=>m' (σ k),rfl,eo▸hf,F7 hσ hh',?_,?_,?_⟩
  ·intro k x b hx hb;rw[j5 hσ,ZX]at hx;obtain⟨y,hy,_⟩:=hx;rw[eo];exact hn _ y b hy hb
  ·intro k x y hx hy;rw[j5 hσ,ZX]at hx hy;obtain⟨x',hx',_⟩:=hx;obtain⟨y',hy',_⟩:=hy;have:=hk _ x' y' hx' hy';simpa only[hσ]using this
  ·have e2 : Im ext (ed σ H') (fun k => m' (σ k)) w' = Im ext H' m' w' := by funext b cs; simp only [Im, xq hσ]
   rw[e2];exact uu hσ aE
end Go.Lw
namespace Go.Lw
variable{P:abe}{N:Nat}{R:Array Oper}{s:AS}{pos:String}{after:Array Edge}
def vk:abc->Nat
  | .int .i64 _=>1
  | .string _=>2
  |_=>0
def zc(P:abe)(t:abd):Bool:=match P.underlying t with |some .string=>true |_=>false
theorem P0{t:abd}(h:zc P t=true):P.underlying t=some .string:=by
 unfold zc at h;split at h
 ·assumption
 ·cases h
def zz (P : abe) (ks : List Nat) (f : Field) : Bool := f.name != "_" && (match ks[f.offset]? with | some 1 => qF P f.type | some 2 => zc P f.type | _ => false)
def uM(P:abe)(T:abd)(ks:List Nat):Bool:=match P.underlying T with
  |some (.struct fs)=>fs.toList.all (zz P ks)&&!P.stoodInHeld T&&!P.eqGuardType P.depth T
  |_=>false
theorem DB{cs:List abc}{ks:List Nat}(hk:cs.map vk=ks)(w:abf):∀{fs:List Field},fs.all (zz P ks)=true->(Op.eqFields 9999 cs.toArray cs.toArray fs).run P w=.ok true w
 |[],_=>rfl
 |f::fs,h=>by
  rw [all_cons,ZW] at h;obtain ⟨h1,h2⟩:=h;have ih:=DB hk w h2;unfold zz at h1;rw [ZW] at h1;obtain ⟨hn,h1⟩:=h1;have n1 : f.name ≠ "_" := by simpa using hn
  have hc:∀k,ks[f.offset]?=some k->∃v,cs[f.offset]?=some v/\vk v=k:=by
   intro k ez;rw[<- hk,ZZ,ZX]at ez;exact ez
  split at h1
  ·rename_i e;obtain ⟨v,hv,lI⟩:=hc 1 e;have hu:=zO h1;have e0:cs.toArray[f.offset]? = some v:=by simpa using hv
   have e1:(part f.type cs.toArray f.offset).run P w=.ok v w:=by simp[part,isAgg,run_underlying hu,e0]
   have:∃n,v=.int .i64 n:=by unfold vk at lI;split at lI;exact⟨_,rfl⟩;cases lI;cases lI
   obtain⟨n,rfl⟩:=this;have e3:(Op.equalIn 9999 f.type (.int .i64 n) (.int .i64 n)).run P w=.ok (n==n) w:=run_equalIn_int w 9998 f.type .i64 .i64 n n hu;simp only[Op.eqFields,n1,ne_eq,not_false_eq_true,if_true,abh,e1,e3,abg,Sem.run_ite,beq_self_eq_true,Zv,Zm,if_false,ih]
  ·rename_i e;obtain ⟨v,hv,lI⟩:=hc 2 e;have hu:=P0 h1;have e0:cs.toArray[f.offset]? = some v:=by simpa using hv
   have e1:(part f.type cs.toArray f.offset).run P w=.ok v w:=by simp[part,isAgg,run_underlying hu,e0]
   have:∃n,v=.string n:=by unfold vk at lI;split at lI;cases lI;exact⟨_,rfl⟩;cases lI
   obtain⟨n,rfl⟩:=this;have e3:(Op.equalIn 9999 f.type (.string n) (.string n)).run P w=.ok (n.toList==n.toList) w:=run_equalIn_string w 9998 f.type n n hu;simp only[Op.eqFields,n1,ne_eq,not_false_eq_true,if_true,abh,e1,e3,abg,Sem.run_ite,beq_self_eq_true,Zv,Zm,if_false,ih]
  ·cases h1
theorem UL{T:abd}{cs:List abc}{ks:List Nat}(hk:cs.map vk=ks)(h:uM P T ks=true)(w:abf) :
  (Op.equalIn 10000 T (.agg cs.toArray) (.agg cs.toArray)).run P w=.ok true w/\P.eqGuardType P.depth T=false:=by
 unfold uM at h;split at h
 ·rename_i fs hu;rw [ZW,ZW] at h;obtain ⟨⟨h,h1⟩,h2⟩:=h;have hF:P.fieldsOf T = fs:=by unfold Program.fieldsOf; rw [hu]
  have hs:P.stoodInHeld T=false:=by simpa using h1
  refine⟨?_,by simpa using h2⟩;rw[run_equalIn_struct w 9999 T _ _ (by rw[hF];exact hu) hs,hF];exact DB hk w h
 ·cases h
theorem Dm{g:Nat->Array abc->Prop}{S:Nat->Nat->Prop}{m:Nat->Option Nat}{u:abc}{cs:List abc}(h:Rep g S m u (.agg (cs.map .v))):u=.agg cs.toArray:=by
 cases h with
 | @agg _ vs _ hn h1 aE =>
  rw[ZU]at hn;congr 1;refine Array.ext (by simpa using hn) (fun i hi sI=>?_);have Wi:i<cs.length:=by simpa using sI
  have r:=aE i vs[i] (.v cs[i]) (by simp[hi]) (by simp[Wi]);have r2:∀{y z:abc},Rep g S m y (.v z)->y=z:=fun h=>by cases h;rfl
  rw[r2 r];simp
theorem UO{d:Nat}{x y:abb}{cs:List abc}{ks:List Nat}{S T t:abd}(hx:Ev s x (.agg (cs.map .v)))(hy:Ev s y (.agg (cs.map .v)))
  (hk:cs.map vk=ks) (hS:uM P S ks=true) (hN:XU d N=true) :
  Step P N R s ⟨some d,.binOp .neq S x y T,t,pos,after,none⟩ ⟨some (.v (.bool false)),[],ae x++ae y,[]⟩ :=
 bA rfl rfl hN fun s' aj C m ac w hr=>⟨.bool false,by
  have h:=Dm ((hx.agree aj (fun _ h=>ZY.2 (.inl h))).rep hr);have h':=Dm ((hy.agree aj (fun _ h=>ZY.2 (.inr h))).rep hr);obtain⟨r1,r2⟩:=UL (T:=S) hk hS w;simp only[execOp,h,h',abh,run_eqGuard_agg w .neq S x y _ _ r2,abg,run_neq_struct,r1,abi,Zv],.v _⟩
def vi(P:abe)(t:abd):Bool:=match P.underlying t with |some (.slice _)=>true |_=>false
theorem HF{t:abd}(h:vi P t=true):∃e,P.underlying t=some (.slice e):=by
 unfold vi at h;split at h
 ·exact⟨_,by assumption⟩
 ·cases h
theorem FS(w:abf)(t e:abd)(a:Option Addr)(l c:Nat)(h:P.underlying t=some (.slice e)):(binOp .eql t (.slice a l c) (.slice none 0 0)).run P w=.ok (.bool a.isNone) w:=by
 simp only[binOp];simp[run_equal_slice_nil w t e a l c h]
theorem Tm{d:Nat}{x:abb}{sz:Nat}{e:AV}{es:List AV}{S T t:abd}(hx:Ev s x (.lst sz (e::es)))(hS:vi P S=true)(hN:XU d N=true) :
  Step P N R s ⟨some d,.binOp .eql S x (.const (.slice none 0 0)) T,t,pos,after,none⟩ ⟨some (.v (.bool false)),[],ae x,[]⟩ :=
 bA rfl rfl hN fun s' aj C m ac w hr=>⟨.bool false,by
  have h:=(hx.agree aj (fun _ h=>h)).rep hr;obtain⟨el,gz⟩:=HF hS;generalize hu:ac.eval x=y at h
  have hy:∃b l cap,y=.slice (some b) l cap:=by
   cases h with
   |lst u hb hc hl hs h1 hu aE=>exact⟨_,_,_,rfl⟩
  obtain⟨b,l,cap,rfl⟩:=hy;have e1:ac.eval (.const (.slice none 0 0))=.slice none 0 0:=rfl;simp[execOp,hu,e1,eqGuard,FS w S el (some b) l cap gz],.v _⟩
theorem Q2{d:Nat}{x:abb}{a:Option Addr}{l cap:Nat}{S T t:abd}(hx:Ev s x (.v (.slice a l cap)))(hS:vi P S=true)(hN:XU d N=true) :
  Step P N R s ⟨some d,.binOp .eql S x (.const (.slice none 0 0)) T,t,pos,after,none⟩ ⟨some (.v (.bool a.isNone)),[],ae x,[]⟩ :=
 bA rfl rfl hN fun s' aj C m ac w hr=>⟨.bool a.isNone,by
  have h:=(hx.agree aj (fun _ h=>h)).rep hr;obtain⟨el,gz⟩:=HF hS;generalize hu:ac.eval x=y at h;cases h;have e1:ac.eval (.const (.slice none 0 0))=.slice none 0 0:=rfl;simp[execOp,hu,e1,eqGuard,FS w S el a l cap gz],.v _⟩
end Go.Lw
namespace Go.Lw
variable{P:abe}{N:Nat}
def bM(s:AS):abb->Option AV
  | .tmp t=>match s.get t with
    |some x=>match x with
      | .opt _ _=>none
      |x=>some x
    |none=>none
  | .const c=>some (.v c)
  | .func f=>some (.v (.func (.func f) #[] #[]))
  | .global _=>none
theorem aY{s:AS}{o:abb}{x:AV}(h:bM s o=some x):Ev s o x:=by
 cases o with
 |tmp t =>
  simp only[bM]at h;split at h
  ·rename_i y hy;split at h
   ·cases h
   ·cases h;exact .tmp hy
  ·cases h
 |const c=>cases h;exact .const c
 |func f=>cases h;exact .func f
 |global n=>cases h
def nD(s:AS):List abb->Option (List AV)
  |[]=>some []
  |o::os=>match bM s o with
    |some x=>match nD s os with
      |some xs=>some (x::xs)
      |none=>none
    |none=>none
theorem ni{s:AS}:∀{os:List abb}{xs:List AV},nD s os=some xs->EvL s os xs
 |[],xs,h=>by cases h;exact .nil
 |o::os,xs,h=>by
  unfold nD at h;split at h
  ·rename_i x h1;split at h
   ·rename_i ys h2;cases h;exact .cons (aY h1) (ni h2)
   ·cases h
  ·cases h
def wN{α:Type}(n:Nat)(f:Nat->α):α:=match n with
  |0=>f 0
  |m+1=>f (m+1)
theorem mq{α:Type}(n:Nat)(f:Nat->α):wN n f=f n:=by cases n <;> rfl
def wI{α:Type}(z:Int)(f:Int->α):α:=match z with
  | .ofNat n=>match n with
    |0=>f 0
    |m+1=>f (Int.ofNat (m+1))
  | .negSucc n=>f (.negSucc n)
theorem jy{α:Type}(z:Int)(f:Int->α):wI z f=f z:=by
 cases z with
 |ofNat n=>cases n <;> rfl
 |negSucc n=>rfl
structure V1 where
  x:AV
  rt:List Nat
  rd:List Nat
def H6:abc->Bool
  | .nilIface=>true
  | .iface _ _=>true
  |_=>false
theorem Bx{v:abc}(h:H6 v=true):zX v:=by
 cases v <;> first |exact .inl rfl |exact .inr ⟨_,_,rfl⟩ |cases h
def yS:BinOp->Bool
  | .and | .or | .xor | .andNot=>true
  |_=>false
theorem LB:∀{op:BinOp},yS op=true->(match op with | .and | .or | .xor | .andNot=>true |_=>false)=true:=by intro op;cases op <;> intro h <;> first |rfl |cases h
def o0(op:BinOp)(x y:abb)(k k':IntKind)(a b:Int):Option V1:=match op with
  | .add | .sub | .mul=>match XK (cN k) (cN k')with
    |true=>wI (k.wrap (dV op a b)) fun z=>some ⟨.v (.int k z),ae x++ae y,[]⟩
    |false=>none
  | .quo=>match XK (cN k) (cN k')with
    |true=>match b with
      | .ofNat 0=>none
      |b=>wI (k.wrap (a.tdiv b)) fun z=>some ⟨.v (.int k z),ae x++ae y,[]⟩
    |false=>none
  | .rem=>match XK (cN k) (cN k')with
    |true=>match b with
      | .ofNat 0=>none
      |b=>wI (a.tmod b) fun z=>some ⟨.v (.int k z),ae x++ae y,[]⟩
    |false=>none
  | .shl=>match b with
    | .ofNat n=>wI (k.wrap (a*2^(min n k.bits))) fun z=>some ⟨.v (.int k z),ae x++ae y,[]⟩
    | .negSucc _=>none
  | .shr=>match b with
    | .ofNat n=>wI (a.fdiv (2^(min n k.bits))) fun z=>some ⟨.v (.int k z),ae x++ae y,[]⟩
    | .negSucc _=>none
  | .eql | .neq | .lss | .leq | .gtr | .geq=>match XK (cN k) (cN k')with
    |true=>match aa op a b with
      |true=>some ⟨.v (.bool true),ae x++ae y,[]⟩
      |false=>some ⟨.v (.bool false),ae x++ae y,[]⟩
    |false=>none
  |op=>match yS op&&XK (cN k) (cN k')with
    |true=>wI (kS op k a b) fun z=>some ⟨.v (.int k z),ae x++ae y,[]⟩
    |false=>none
section
variable{s:AS}{R:Array Oper}{d:Nat}{t T:abd}{pos:String}{after:Array Edge}
theorem Tg{op:BinOp}{x y:abb}{k k':IntKind}{a b:Int}{S:abd}{r:V1}(hx:Ev s x (.v (.int k a)))(hy:Ev s y (.v (.int k' b)))(h:o0 op x y k k' a b=some r)(hN:XU d N=true) :
  Step P N R s ⟨some d,.binOp op S x y T,t,pos,after,none⟩ ⟨some r.x,[],r.rt,r.rd⟩:=by
 have hc:∀(op:BinOp),tI op=true->(match XK (cN k) (cN k')with
  |true=>match aa op a b with
   |true=>some (⟨.v (.bool true),ae x++ae y,[]⟩:V1)
   |false=>some ⟨.v (.bool false),ae x++ae y,[]⟩
  |false=>none)=some r->Step P N R s ⟨some d,.binOp op S x y T,t,pos,after,none⟩ ⟨some r.x,[],r.rt,r.rd⟩:=by
  intro op cQ h';split at h'
  ·rename_i hk;cases ky hk;have:=Be (P:=P) (R:=R) (op:=op) (S:=S) (T:=T) (t:=t) (pos:=pos) (after:=after) hx hy (by cases op <;> simp_all [tI]) hN;split at h'
   ·rename_i hb;cases h';rw[hb]at this;exact this
   ·rename_i hb;cases h';rw[hb]at this;exact this
  ·cases h'
 have ha:∀(op:BinOp),zS op=true->(match XK (cN k) (cN k')with
  |true=>wI (k.wrap (dV op a b)) fun z=>some (⟨.v (.int k z),ae x++ae y,[]⟩:V1)
  |false=>none)=some r->Step P N R s ⟨some d,.binOp op S x y T,t,pos,after,none⟩ ⟨some r.x,[],r.rt,r.rd⟩:=by
  intro op cQ h';split at h'
  ·rename_i hk;cases ky hk;rw[jy]at h';cases h';exact Gc hx hy (DL cQ) hN
  ·cases h'
 have hb:∀(op:BinOp),(match yS op&&XK (cN k) (cN k')with
  |true=>wI (kS op k a b) fun z=>some (⟨.v (.int k z),ae x++ae y,[]⟩:V1)
  |false=>none)=some r->Step P N R s ⟨some d,.binOp op S x y T,t,pos,after,none⟩ ⟨some r.x,[],r.rt,r.rd⟩:=by
  intro op h';split at h'
  ·rename_i hk;simp only[ZW]at hk;cases ky hk.2;rw[jy]at h';cases h';exact Fc hx hy (LB hk.1) hN
  ·cases h'
 cases op with
 |add=>exact ha _ rfl h
 |sub=>exact ha _ rfl h
 |mul=>exact ha _ rfl h
 |quo =>
  simp only[o0]at h;split at h
  ·rename_i hk;cases ky hk;split at h
   ·cases h
   ·rename_i eQ;rw[jy]at h;cases h
    exact Fs hx hy (fun e=>eQ (by rw[e];rfl)) hN
  ·cases h
 |rem =>
  simp only[o0]at h;split at h
  ·rename_i hk;cases ky hk;split at h
   ·cases h
   ·rename_i eQ;rw[jy]at h;cases h
    exact G9 hx hy (fun e=>eQ (by rw[e];rfl)) hN
  ·cases h
 |shl =>
  simp only[o0]at h;split at h
  ·rename_i n;rw[jy]at h;obtain rfl:=Option.some.inj h;have:=Fj (P:=P) (R:=R) (S:=S) (T:=T) (t:=t) (pos:=pos) (after:=after) hx hy (Y3 n) hN;simp only[Y9,Int.toNat_natCast]at this;exact this
  ·cases h
 |shr =>
  simp only[o0]at h;split at h
  ·rename_i n;rw[jy]at h;obtain rfl:=Option.some.inj h;have:=B4 (P:=P) (R:=R) (S:=S) (T:=T) (t:=t) (pos:=pos) (after:=after) hx hy (Y3 n) hN;simp only[Y9,Int.toNat_natCast]at this;exact this
  ·cases h
 |eql=>exact hc _ rfl h
 |neq=>exact hc _ rfl h
 |lss=>exact hc _ rfl h
 |leq=>exact hc _ rfl h
 |gtr=>exact hc _ rfl h
 |geq=>exact hc _ rfl h
 |_=>exact hb _ h
end
def mP(op:BinOp)(b:Bool):Bool:=match op with
  | .eql=>b
  |_=>!b
def xS:AV->Option Bool
  | .v (.slice none 0 0)=>some true
  | .lst _ (_::_)=>some false
  | .ms _ _ _ (_+1)=>some false
  |_=>none
theorem RU{S:abd}{w:abf}{E:abd}(h3:(underlying S).run P w=.ok (.slice E) w){a:Option Addr}{n c:Nat} :
  (Op.equal S (.slice a n c) (.slice none 0 0)).run P w=.ok a.isNone w:=by
 show(Op.equalIn (9999+1) S _ _).run P w=_;rw[Op.equalIn];cases a <;> simp[h3]
theorem LJ{s:AS}{R:Array Oper}{d:Nat}{x:abb}{xv:AV}{b:Bool}{op:BinOp}{S T t E:abd}{ti:TI}{pos:String}{after:Array Edge}(cQ:op=.eql\/op=.neq)
  (hx:Ev s x xv) (hv:xS xv=some b) (hS:ak P S=some ti) (hk:ti.k=.slice E) (hN:XU d N=true) :
  Step P N R s ⟨some d,.binOp op S x (.const (.slice none 0 0)) T,t,pos,after,none⟩ ⟨some (.v (.bool (mP op b))),[],ae x,[]⟩ :=
 bA rfl rfl hN fun s' aj C m a w hr=>⟨.bool (mP op b),by
  have h:=(hx.agree aj (fun _ h=>h)).rep hr;obtain⟨d2,h3,h4,-,-⟩:=bX hS w;obtain rfl:=eZ (h4.trans hk);have h2:a.eval (.const (.slice none 0 0))=.slice none 0 0:=rfl
  obtain⟨ad,n,c,he,hb⟩:∃ad n c,a.eval x=.slice ad n c/\ad.isNone=b:=by
   generalize a.eval x=u at h;unfold xS at hv;split at hv
   ·cases hv;cases h;exact⟨_,_,_,rfl,rfl⟩
   ·cases hv;cases h with
    |lst u hb hc hl hs h1 hu hr=>exact⟨_,_,_,rfl,rfl⟩
   ·cases hv;cases h with
    |ms hm hc hS=>exact⟨_,_,_,rfl,rfl⟩
   ·cases hv
  have h5:=RU (P:=P) (a:=ad) (n:=n) (c:=c) h3;rcases cQ with rfl |rfl <;> simp[execOp,he,h2,eqGuard,binOp,h5,hb,mP],.v _⟩
theorem Nt{s:AS}{R:Array Oper}{d:Nat}{x:abb}{lo hi:Option abb}{T E t:abd}{ti te:TI}{pos:String}{after:Array Edge}
  (hx:Ev s x (.v (.slice none 0 0))) (hl:EvI s lo 0 0) (hh:EvI s hi 0 0) (hT:ak P T=some ti) (hk:ti.k=.slice E) (hE:ak P E=some te) (hN:XU d N=true) :
  Step P N R s ⟨some d,.slice T x lo hi none,t,pos,after,none⟩ ⟨some (.v (.slice none 0 0)),[],ae x++(ic lo++ic hi),[]⟩ :=
 bA rfl rfl hN fun s' aj C m a w hr=>by
  have cZ:=kR hr (hx.agree aj (fun _ h=>ZY.2 (.inl h)));have hl':=hl.agree aj (fun _ h=>ZY.2 (.inr (ZY.2 (.inl h))));have hh':=hh.agree aj (fun _ h=>ZY.2 (.inr (ZY.2 (.inr h))));obtain⟨d2,hu,h3,-,-⟩:=bX hT w;obtain rfl:=eZ (h3.trans hk);have:=p9 (P:=P) hr (cap:=0) true hl' hh' (Z0 _) (Z0 _);exact⟨.slice none 0 0,by simp[execOp,cZ,Instr.sliceAt,hu,Instr.slice,this,ef hE],.v _⟩
theorem N8{s:AS}{R:Array Oper}{d:Nat}{x:abb}{k1 k2:IntKind}{sz:Nat}{es:List AV}{T E t:abd}{ti te:TI}{pos:String}{after:Array Edge}
  (hx:Ev s x (.lst sz es)) (hT:ak P T=some ti) (hk:ti.k=.slice E) (hE:ak P E=some te) (aA:te.size=sz) (hN:XU d N=true) :
  Step P N R s ⟨some d,.slice T x none (some (.const (.int k1 0))) (some (.const (.int k2 0))),t,pos,after,none⟩ ⟨some (.ms d sz 0 0),[(d,some (.row sz []))],ae x,[]⟩:=by
 refine vl rfl ?_;intro s' aj ba C m a w next hC hr hnext
 have hfr:s'.Fresh d:=by
  rcases ba d (by simp)with h |h
  ·cases h
  ·exact h
 have dl:=(hx.agree aj (fun _ h=>h)).rep hr;obtain⟨d2,hu,h3,-,-⟩:=bX hT w;obtain rfl:=eZ (h3.trans hk)
 obtain⟨ad,n,c,he⟩:∃ad n c,a.eval x=.slice ad n c:=by
  generalize a.eval x=u at dl;cases dl with
  |lst0 a cap=>exact⟨_,_,_,rfl⟩
  |lst u hb hc hl hs h1 hu hr=>exact⟨_,_,_,rfl⟩
 have e1:a.eval (.const (.int k1 0))=.int k1 0:=rfl;have e2:a.eval (.const (.int k2 0))=.int k2 0:=rfl
 have iq:(execOp a.eval ⟨some d,.slice T x none (some (.const (.int k1 0))) (some (.const (.int k2 0))),t,pos,after,none⟩).run P w=.ok (.value (.slice ad 0 0)) w:=by
  simp[execOp,he,e1,e2,Instr.sliceAt,hu,Instr.slice,Instr.sliceBounds,Instr.sliceBound,asIntOf,ef hE]
 rw[iq];rw[Yb]at hN;simp only[Oper.upon,Act.put];obtain⟨m2,h1⟩:∃m2,RelM C ⟨s'.sl,(d,some (.row sz []))::s'.hp⟩ m2 a w:=⟨_,hr.virt sz hfr⟩
 refine hnext m2 _ _ ?_
 have:=h1.put d (.slice ad 0 0) (some (.ms d sz 0 0)) (fun z hz=>by
  cases hz;exact⟨by have:=hr.nt;omega,.ms0 _ _ _ _⟩)
 simpa[AS.app]using this
variable[Inhabited (Tys P)]
def Bi:BinOp->Bool
  | .eql | .neq=>true
  |_=>false
def tg:List UInt8->List UInt8->Bool
  |[],y=>match y with
    |[]=>true
    |_=>false
  |x::l,y=>match y with
    |x'::l'=>match XK x.toNat x'.toNat with
      |true=>tg l l'
      |false=>false
    |[]=>false
theorem yL:∀{a b:List UInt8},tg a b=(a==b)
 |[],[]=>rfl
 |[],_::_=>rfl
 |_::_,[]=>rfl
 |x::l,x'::l'=>by
  show(match XK x.toNat x'.toNat with |true=>tg l l' |false=>false)=_;cases h:XK x.toNat x'.toNat with
  |true =>
   have:x=x':=UInt8.toNat_inj.1 (ZT h);subst this;simp only[yL (a:=l)];simp
  |false =>
   have:x≠x':=fun e=>Ya h (by rw[e])
   simp[this]
def kx(a b:ByteArray):Bool:=tg a.data.toList b.data.toList
theorem xk(a b:ByteArray):(a.toList==b.toList)=kx a b:=by
 unfold kx;rw[yL,ByteArray.toList_eq,ByteArray.toList_eq]
def Ab(P:abe)[Inhabited (Tys P)](op:BinOp)(S:abd)(x y:abb)(vx vy:abc):Option V1:=match vx with
  | .int k a=>match vy with
    | .int k' b=>o0 op x y k k' a b
    |_=>none
  |vx=>match vy with
    | .nilIface=>match y with
      | .const _=>match H6 vx with
        |true=>match bm P S with
          |some ti=>match ti.k with
            | .iface _=>match op with
              | .eql=>some ⟨.v (.bool (eH vx)),ae x++[],[]⟩
              | .neq=>some ⟨.v (.bool !(eH vx)),ae x++[],[]⟩
              |_=>none
            |_=>none
          |none=>none
        |false=>none
      |_=>none
    | .string b=>match vx with
      | .string a=>match op with
        | .eql=>match kx a b with
          |true=>some ⟨.v (.bool true),ae x++ae y,[]⟩
          |false=>some ⟨.v (.bool false),ae x++ae y,[]⟩
        | .neq=>match kx a b with
          |true=>some ⟨.v (.bool false),ae x++ae y,[]⟩
          |false=>some ⟨.v (.bool true),ae x++ae y,[]⟩
        |_=>none
      |_=>none
    |vy=>match oX P op S x y [] vx vy with
      |some r=>match r.ob with
        |[]=>some ⟨r.x,r.rt,r.rd⟩
        |_=>none
      |none=>none
def mT(P:abe)[Inhabited (Tys P)](T sz:Nat):Bool:=match bm P T with
  |some ti=>match ti.k with
    | .slice E=>match bm P E with
      |some te=>XK te.size sz
      |none=>false
    |_=>false
  |none=>false
theorem qD{T sz:Nat}(h:mT P T sz=true):∃ti E te,ak P T=some ti/\ti.k=.slice E/\ak P E=some te/\te.size=sz:=by
 unfold mT at h;split at h
 ·rename_i ti bj;split at h
  ·rename_i E hk;split at h
   ·rename_i te su;exact⟨ti,E,te,a8 bj,hk,a8 su,ZT h⟩
   ·cases h
  ·cases h
 ·cases h
def md(s:AS)(o:Option abb)(d:Nat):Option Nat:=match o with
  |none=>some d
  |some x=>match bM s x with
    |some (.v (.int _ (.ofNat n)))=>some n
    |_=>none
theorem pg{s:AS}{o:Option abb}{d n:Nat}(h:md s o d=some n):EvI s o d n:=by
 cases o with
 |none=>cases h;exact .none d
 |some x =>
  simp only[md]at h;split at h
  ·rename_i hx;cases h;exact .some (i:=Int.ofNat n) d (aY hx) (Y3 _)
  ·cases h
def yH(ti:TI)(l:List AV):Option AV:=match ti.ag with
  |true=>match fp (l.take ti.size)with
    |some r=>some (.agg r)
    |none=>none
  |false=>match XK ti.size 1 with
    |true=>match l with
      |x::_=>some x
      |[]=>none
    |false=>none
theorem Uk{ti:TI}{l:List AV}{x:AV}(h:yH ti l=some x):(ti.ag||XK ti.size 1)=true/\x=ik ti.ag (l.take ti.size):=by
 unfold yH at h;split at h
 ·rename_i ha;split at h
  ·rename_i r hr;cases h;rw[ha,gm hr];exact⟨rfl,rfl⟩
  ·cases h
 ·rename_i ha;split at h
  ·rename_i h1;split at h
   ·cases h;rw[ha,ZT h1];exact⟨rfl,rfl⟩
   ·cases h
  ·cases h
def pp:List AV->List AV->Option (List abc×List Nat)
  |[],[]=>some ([],[])
  | .v (.int .i64 a)::l,.v (.int .i64 b)::l'=>match a==b with
    |true=>match pp l l' with
      |some (vs,ks)=>some (.int .i64 a::vs,1::ks)
      |none=>none
    |false=>none
  | .v (.string a)::l,.v (.string b)::l'=>match kx a b with
    |true=>match pp l l' with
      |some (vs,ks)=>some (.string a::vs,2::ks)
      |none=>none
    |false=>none
  |_,_=>none
theorem Pd{a b:ByteArray}(h:kx a b=true):a=b:=by
 rw[<- xk,beq_iff_eq,ByteArray.toList_eq,ByteArray.toList_eq]at h;cases a;cases b;congr 1
 exact Array.ext' h
theorem yr:∀{l l':List AV}{vs:List abc}{ks:List Nat},pp l l'=some (vs,ks)->l=vs.map .v/\l'=vs.map .v/\vs.map vk=ks
 |[],[],_,_,h=>by cases h;exact⟨rfl,rfl,rfl⟩
 | .v (.int .i64 a)::l,.v (.int .i64 b)::l',_,_,h=>by
  rw[pp]at h;split at h
  ·rename_i he;split at h
   ·rename_i vs ks hs;obtain⟨h1,h2,h3⟩:=yr hs;cases h;cases eq_of_beq he;exact⟨by rw[h1];rfl,by rw[h2];rfl,by rw[<- h3];rfl⟩
   ·cases h
  ·cases h
 | .v (.string a)::l,.v (.string b)::l',_,_,h=>by
  rw[pp]at h;split at h
  ·rename_i he;split at h
   ·rename_i vs ks hs;obtain⟨h1,h2,h3⟩:=yr hs;cases h;cases Pd he;exact⟨by rw[h1];rfl,by rw[h2];rfl,by rw[<- h3];rfl⟩
   ·cases h
  ·cases h
def xN(P:abe)(op:BinOp)(S:abd)(x y:abb)(cs cs':List AV):Option V1:=match op with
  | .neq=>match pp cs cs' with
    |some (_,ks)=>match uM P S ks with
      |true=>some ⟨.v (.bool false),ae x++ae y,[]⟩
      |false=>none
    |none=>none
  |_=>none
omit [Inhabited (Tys P)] in
theorem L9{s:AS}{R:Array Oper}{d:Nat}{x y:abb}{cs cs':List AV}{op:BinOp}{S T t:abd}{pos:String}{after:Array Edge}{r:V1}(h:xN P op S x y cs cs'=some r)
  (hx:Ev s x (.agg cs)) (hy:Ev s y (.agg cs')) (hN:XU d N=true):Step P N R s ⟨some d,.binOp op S x y T,t,pos,after,none⟩ ⟨some r.x,[],r.rt,r.rd⟩:=by
 unfold xN at h;split at h
 ·split at h
  ·rename_i vs ks hs;obtain⟨h1,h2,h3⟩:=yr hs;subst h1;subst h2
   split at h
   ·rename_i hS;cases h;exact UO hx hy h3 hS hN
   ·cases h
  ·cases h
 ·cases h
def uf(P:abe)(t:abd):Bool:=match P.underlying t with |some (.pointer _)=>true |_=>false
omit [Inhabited (Tys P)] in
theorem Tv{t:abd}(h:uf P t=true):P.underlying t=some (.pointer (P.pointee t)):=by
 unfold uf at h;split at h
 ·rename_i e he;rw[he];unfold Program.pointee;rw[he]
 ·cases h
omit [Inhabited (Tys P)] in
theorem Px{s:AS}{R:Array Oper}{d:Nat}{x:abb}{k off:Nat}{op:BinOp}{S T t:abd}{pos:String}{after:Array Edge}(cQ:op=.eql\/op=.neq)
  (hx:Ev s x (.ptr k off)) (hS:uf P S=true) (hN:XU d N=true) :
  Step P N R s ⟨some d,.binOp op S x (.const (.pointer none)) T,t,pos,after,none⟩ ⟨some (.v (.bool (mP op false))),[],ae x,[]⟩ :=
 bA rfl rfl hN fun s' aj C m a w hr=>⟨.bool (mP op false),by
  have h:=(hx.agree aj (fun _ h=>h)).rep hr;have h2:a.eval (.const (.pointer none))=.pointer none:=rfl;have hu:=Tv hS;generalize ha:a.eval x=u at h;cases h;rcases cQ with rfl |rfl
  ·simp[execOp,ha,h2,eqGuard,run_eql_pointer_nil w S _ hu,mP]
  ·simp[execOp,ha,h2,eqGuard,run_neq_pointer_nil w S _ hu,mP],.v _⟩
def xt(P:abe)(op:BinOp)(S:abd)(x y:abb):Option V1:=match y with
  | .const (.pointer none)=>match Bi op with
    |true=>match uf P S with
      |true=>match op with
        | .eql=>some ⟨.v (.bool false),ae x,[]⟩
        |_=>some ⟨.v (.bool true),ae x,[]⟩
      |false=>none
    |false=>none
  |_=>none
omit [Inhabited (Tys P)] in
theorem Mm{s:AS}{R:Array Oper}{d:Nat}{x y:abb}{k off:Nat}{op:BinOp}{S T t:abd}{pos:String}{after:Array Edge}{r:V1}(h:xt P op S x y=some r)
  (hx:Ev s x (.ptr k off)) (hN:XU d N=true):Step P N R s ⟨some d,.binOp op S x y T,t,pos,after,none⟩ ⟨some r.x,[],r.rt,r.rd⟩:=by
 unfold xt at h;split at h
 ·split at h
  ·rename_i cQ;have cQ:op = .eql \/ op = .neq:=by cases op <;> first | exact .inl rfl | exact .inr rfl | cases cQ
   split at h
   ·rename_i hS;have h9:=Px (P:=P) (R:=R) (T:=T) (t:=t) (pos:=pos) (after:=after) cQ hx hS hN;rcases cQ with rfl |rfl <;> (cases h;exact h9)
   ·cases h
  ·cases h
 ·cases h
def E6(P:abe)(op:BinOp)(S:abd)(x y:abb)(a b c e:Int):Option V1:=match op with
  | .eql=>match vn P S with
    |true=>match a==c&&b==e with
      |true=>some ⟨.v (.bool true),ae x++ae y,[]⟩
      |false=>some ⟨.v (.bool false),ae x++ae y,[]⟩
    |false=>none
  |_=>none
def rC(P:abe)[Inhabited (Tys P)](s:AS)(op:Op):Option V1:=match op with
  | .pick c x y=>match bM s c with
    |some (.v (.bool b))=>match b with
      |true=>match bM s x with
        |some (.v (.bool z))=>some ⟨.v (.bool z),ae c++(ae x++ae y),[]⟩
        |_=>none
      |false=>match bM s y with
        |some (.v (.bool z))=>some ⟨.v (.bool z),ae c++(ae x++ae y),[]⟩
        |_=>none
    |_=>none
  | .binOp op S x (.const (.slice none 0 0)) _=>match Bi op with
    |true=>match bM s x with
      |some xv=>match xS xv with
        |some b=>match bm P S with
          |some ti=>match ti.k with
            | .slice _=>match op with
              | .eql=>some ⟨.v (.bool b),ae x,[]⟩
              |_=>match b with
                |true=>some ⟨.v (.bool false),ae x,[]⟩
                |false=>some ⟨.v (.bool true),ae x,[]⟩
            |_=>none
          |none=>none
        |none=>none
      |none=>none
    |false=>none
  | .binOp op S x y _=>match bM s x with
    |some (.v vx)=>match bM s y with
      |some (.v vy)=>Ab P op S x y vx vy
      |_=>none
    |some (.agg [.v (.int .i64 a),.v (.int .i64 b)])=>match bM s y with
      |some (.agg [.v (.int .i64 c),.v (.int .i64 e)])=>E6 P op S x y a b c e
      |_=>none
    |some (.ptr _ _)=>xt P op S x y
    |some (.agg cs)=>match bM s y with
      |some (.agg cs')=>xN P op S x y cs cs'
      |_=>none
    |_=>none
  | .unOp .neg _ x=>match bM s x with
    |some (.v (.int k n))=>wI (k.wrap (0-n)) fun z=>some ⟨.v (.int k z),ae x,[]⟩
    |_=>none
  | .convert S T x=>match bM s x with
    |some (.v (.int _ n))=>match bm P S with
      |some _=>match bm P T with
        |some ti=>match ti.k with
          | .int k'=>wI (k'.wrap n) fun z=>some ⟨.v (.int k' z),ae x,[]⟩
          |_=>none
        |none=>none
      |none=>none
    |_=>none
  | .indexAddr T x ix=>match bM s ix with
    |some (.v (.int _ (.ofNat i)))=>match bM s x with
      |some (.lst sz es)=>match mT P T sz with
        |true=>match es[i]? with
          |some e=>some ⟨.iptr e.cells,ae x++ae ix,[]⟩
          |none=>none
        |false=>none
      |some (.ms k sz off len)=>match mT P T sz&&XU i len with
        |true=>wN (off+i) fun n=>some ⟨.eptr k sz n 0,ae x++ae ix,[]⟩
        |false=>none
      |some (.ptr k off)=>match bm P T with
        |some ti=>match ti.k with
          | .array n E=>match bm P E with
            |some te=>match XU i n with
              |true=>wN (off+i*te.size) fun m=>some ⟨.ptr k m,ae x++ae ix,[]⟩
              |false=>none
            |none=>none
          |_=>none
        |none=>none
      |_=>none
    |_=>none
  | .load T x=>match bM s x with
    |some (.eptr k sz i off)=>match s.blk k with
      |some (.row sz' es)=>match XK sz sz' with
        |true=>match es[i]? with
          |some e=>match bm P T with
            |some ti=>match Nat.ble (off+ti.size) e.cells.length with
              |true=>match yH ti (e.cells.drop off)with
                |some v=>some ⟨v,ae x,[k]⟩
                |none=>none
              |false=>none
            |none=>none
          |none=>none
        |false=>none
      |_=>none
    |some y=>match bm P T with
      |some ti=>match oH P s ti x [] y with
        |some r=>some ⟨r.x,r.rt,r.rd⟩
        |none=>none
      |none=>none
    |none=>none
  | .index T x ix=>match bM s ix with
    |some (.v (.int _ (.ofNat i)))=>match bM s x with
      |some (.v (.string b))=>match bm P T with
        |some ti=>match ti.k with
          | .string=>match XU i b.size with
            |true=>wN (b.data.getD i 0).toNat fun n=>some ⟨.v (.int .u8 (Int.ofNat n)),ae x++ae ix,[]⟩
            |false=>none
          |_=>none
        |none=>none
      |_=>none
    |_=>none
  | .slice T x lo hi none=>match bM s x with
    |some (.lst sz es)=>match md s lo 0 with
      |some l=>match md s hi es.length with
        |some h=>match mT P T sz&&Nat.ble l h&&Nat.ble h es.length with
          |true=>match fp ((es.drop l).take (h-l))with
            |some r=>some ⟨.lst sz r,ae x++(ic lo++ic hi),[]⟩
            |none=>none
          |false=>none
        |none=>none
      |none=>none
    |some (.v (.slice none 0 0))=>match md s lo 0 with
      |some 0=>match md s hi 0 with
        |some 0=>match bm P T with
          |some ti=>match ti.k with
            | .slice E=>match bm P E with
              |some _=>some ⟨.v (.slice none 0 0),ae x++(ic lo++ic hi),[]⟩
              |none=>none
            |_=>none
          |none=>none
        |_=>none
      |_=>none
    |some (.ms k sz off len)=>match md s lo 0 with
      |some l=>match md s hi len with
        |some h=>match mT P T sz&&Nat.ble l h&&Nat.ble h len with
          |true=>wN (off+l) fun a=>wN (h-l) fun b=>some ⟨.ms k sz a b,ae x++(ic lo++ic hi),[]⟩
          |false=>none
        |none=>none
      |none=>none
    |_=>none
  | .call ⟨.builtin .len,args,ts⟩=>match args.toList with
    |[x]=>match ts.toList with
      |[T]=>match bM s x with
        |some (.lst _ es)=>match bm P T with
          |some ti=>match ti.k with
            | .slice _=>wN es.length fun n=>some ⟨.v (.int .i64 (Int.ofNat n)),ae x,[]⟩
            |_=>none
          |none=>none
        |some y=>match pv P x T [] y with
          |some r=>some ⟨r.x,r.rt,r.rd⟩
          |none=>none
        |none=>none
      |_=>none
    |_=>none
  | .call ⟨.builtin .max,args,ts⟩=>match args.toList with
    |[x,y]=>match bM s x with
      |some (.v (.int .i64 a))=>match bM s y with
        |some (.v (.int .i64 b))=>wI (if b>a then b else a) fun z=>some ⟨.v (.int .i64 z),ae x++ae y,[]⟩
        |_=>none
      |_=>none
    |_=>none
  | .call ⟨.builtin .min,args,ts⟩=>match args.toList with
    |[x,y]=>match bM s x with
      |some (.v (.int .i64 a))=>match bM s y with
        |some (.v (.int .i64 b))=>wI (if b<a then b else a) fun z=>some ⟨.v (.int .i64 z),ae x++ae y,[]⟩
        |_=>none
      |_=>none
    |_=>none
  |op=>match qB P false True s op with
    |some r=>match r.ob with
      |[]=>some ⟨r.x,r.rt,r.rd⟩
      |_=>none
    |none=>none
omit [Inhabited (Tys P)] in
theorem Mf{N d:Nat}{s:AS}{R:Array Oper}{x y:abb}{a b:Int}{t:abd}{ts:Array abd}{pos:String}{after:Array Edge}(hx:Ev s x (.v (.int .i64 a)))(hy:Ev s y (.v (.int .i64 b)))(hN:XU d N=true) :
  Step P N R s ⟨some d,.call ⟨.builtin .max,#[x,y],ts⟩,t,pos,after,none⟩ ⟨some (.v (.int .i64 (if b>a then b else a))),[],ae x++ae y,[]⟩ :=
 bA rfl rfl hN fun s' aj C m ac w hr=>⟨.int .i64 (if b>a then b else a),by
  have h:=(hx.agree aj (fun _ h=>ZY.2 (.inl h))).rep hr;have h':=(hy.agree aj (fun _ h=>ZY.2 (.inr h))).rep hr;generalize hu:ac.eval x=u at h;generalize hv:ac.eval y=v at h';cases h;cases h'
  simp[execOp,resolve,hu,hv,invoke,builtin,Builtin.max_,Builtin.max2],.v _⟩
omit [Inhabited (Tys P)] in
theorem QS{N d:Nat}{s:AS}{R:Array Oper}{x y:abb}{a b:Int}{t:abd}{ts:Array abd}{pos:String}{after:Array Edge}(hx:Ev s x (.v (.int .i64 a)))(hy:Ev s y (.v (.int .i64 b)))(hN:XU d N=true) :
  Step P N R s ⟨some d,.call ⟨.builtin .min,#[x,y],ts⟩,t,pos,after,none⟩ ⟨some (.v (.int .i64 (if b<a then b else a))),[],ae x++ae y,[]⟩ :=
 bA rfl rfl hN fun s' aj C m ac w hr=>⟨.int .i64 (if b<a then b else a),by
  have h:=(hx.agree aj (fun _ h=>ZY.2 (.inl h))).rep hr;have h':=(hy.agree aj (fun _ h=>ZY.2 (.inr h))).rep hr;generalize hu:ac.eval x=u at h;generalize hv:ac.eval y=v at h';cases h;cases h'
  simp[execOp,resolve,hu,hv,invoke,builtin,Builtin.min_,Builtin.min2],.v _⟩
section
variable{s:AS}{R:Array Oper}{d:Nat}{t T:abd}{pos:String}{after:Array Edge}
theorem Mr{op:BinOp}{x y:abb}{vx vy:abc}{S:abd}{r:V1}(hx:Ev s x (.v vx))(hy:Ev s y (.v vy))(h:Ab P op S x y vx vy=some r)(hN:XU d N=true) :
  Step P N R s ⟨some d,.binOp op S x y T,t,pos,after,none⟩ ⟨some r.x,[],r.rt,r.rd⟩:=by
 unfold Ab at h;split at h
 ·split at h
  ·exact Tg hx hy h hN
  ·cases h
 ·split at h
  ·split at h
   ·rename_i c;have hc:c = .nilIface:=by cases hy; rfl
    subst hc;split at h
    ·rename_i he;split at h
     ·rename_i ti bj;split at h
      ·rename_i hk;split at h
       ·cases h;exact B5 hx (Bx he) (a8 bj) hk hN
       ·cases h;exact CV hx (Bx he) (a8 bj) hk hN
       ·cases h
      ·cases h
     ·cases h
    ·cases h
   ·cases h
  ·split at h
   ·split at h
    ·have h9:=CZ (P:=P) (R:=R) (S:=S) (T:=T) (t:=t) (pos:=pos) (after:=after) hx hy hN;rw[xk]at h9;split at h
     ·rename_i hb;rw[hb]at h9;cases h;exact h9
     ·rename_i hb;rw[hb]at h9;cases h;exact h9
    ·have h9:=E2 (P:=P) (R:=R) (S:=S) (T:=T) (t:=t) (pos:=pos) (after:=after) hx hy hN;rw[xk]at h9;split at h
     ·rename_i hb;rw[hb]at h9;cases h;exact h9
     ·rename_i hb;rw[hb]at h9;cases h;exact h9
    ·cases h
   ·cases h
  ·split at h
   ·rename_i r' h1;split at h
    ·rename_i ho;cases h;exact Cl hx hy h1 (by rw[ho];exact .nil) hN
    ·cases h
   ·cases h
theorem yY{op:Op}{r:V1}(h:rC P s op=some r)(hN:XU d N=true):Step P N R s ⟨some d,op,t,pos,after,none⟩ ⟨some r.x,[],r.rt,r.rd⟩:=by
 unfold rC at h;split at h
 ·split at h
  ·rename_i hc;split at h
   ·split at h
    ·rename_i z hz;cases h
     exact xb (bz:=z) (aY hc) (fun _=>aY hz) (fun e=>by cases e) hN
    ·cases h
   ·split at h
    ·rename_i z hz;cases h
     exact xb (bx:=z) (aY hc) (fun e=>by cases e) (fun _=>aY hz) hN
    ·cases h
  ·cases h
 ·rename_i op S x T;split at h
  ·rename_i cQ;have cQ:op = .eql \/ op = .neq:=by cases op <;> first | exact .inl rfl | exact .inr rfl | cases cQ
   split at h
   ·rename_i xv hx;split at h
    ·rename_i b hv;split at h
     ·rename_i ti bj;split at h
      ·rename_i hk;have h9:=LJ (P:=P) (R:=R) (T:=T) (t:=t) (pos:=pos) (after:=after) cQ (aY hx) hv (a8 bj) hk hN;rcases cQ with rfl |rfl
       ·cases h;exact h9
       ·cases b <;> (cases h;exact h9)
      ·cases h
     ·cases h
    ·cases h
   ·cases h
  ·cases h
 ·rename_i T az;split at h
  ·rename_i hx;split at h
   ·rename_i hy;exact Mr (aY hx) (aY hy) h hN
   ·cases h
  ·rename_i hx;split at h
   ·rename_i hy;unfold E6 at h;split at h
    ·split at h
     ·rename_i he;have h9:=LR (P:=P) (R:=R) (T:=T) (t:=t) (pos:=pos) (after:=after) (aY hx) (aY hy) he hN;split at h
      ·rename_i hb;rw[hb]at h9;cases h;exact h9
      ·rename_i hb;rw[hb]at h9;cases h;exact h9
     ·cases h
    ·cases h
   ·cases h
  ·rename_i hx;exact Mm h (aY hx) hN
  ·rename_i hx;split at h
   ·rename_i hy;exact L9 h (aY hx) (aY hy) hN
   ·cases h
  ·cases h
 ·split at h
  ·rename_i hx;rw[jy]at h;cases h;exact un (aY hx) hN
  ·cases h
 ·split at h
  ·rename_i hx;split at h
   ·rename_i hS;split at h
    ·rename_i hT;split at h
     ·rename_i hk;rw[jy]at h;cases h;exact C1 (aY hx) hN (a8 hS) (a8 hT) hk
     ·cases h
    ·cases h
   ·cases h
  ·cases h
 ·split at h
  ·rename_i i hi;split at h
   ·rename_i hx;split at h
    ·rename_i hs;obtain⟨ti,E,te,h1,h2,h3,h4⟩:=qD hs;split at h
     ·rename_i e he;cases h
      exact rA (i:=Int.ofNat i) (aY hx) (aY hi) h1 h2 h3 h4 (Y3 _) he hN
     ·cases h
    ·cases h
   ·rename_i hx;split at h
    ·rename_i hs;simp only[ZW,Yb]at hs;obtain⟨ti,E,te,h1,h2,h3,h4⟩:=qD hs.1;rw[mq]at h;cases h
     exact G6 (i:=Int.ofNat i) (aY hx) (aY hi) h1 h2 h3 h4 (Y3 _) (Int.ofNat_lt.2 hs.2) hN
    ·cases h
   ·rename_i hx;split at h
    ·rename_i hT;split at h
     ·rename_i hk;split at h
      ·rename_i hE;split at h
       ·rename_i hlt;rw[mq]at h;cases h
        exact Qr (i:=Int.ofNat i) (aY hx) (aY hi) (a8 hT) hk (a8 hE) rfl (Y3 _) (Int.ofNat_lt.2 (by rw[Yb]at hlt;exact hlt)) hN
       ·cases h
      ·cases h
     ·cases h
    ·cases h
   ·cases h
  ·cases h
 ·split at h
  ·rename_i hx;split at h
   ·rename_i hk;split at h
    ·rename_i hs;split at h
     ·rename_i e he;split at h
      ·rename_i ti hT;split at h
       ·rename_i aU;split at h
        ·rename_i v hv;cases h;cases ZT hs;obtain⟨h1,rfl⟩:=Uk hv;exact ay (aY hx) hk he (a8 hT) aU h1 hN
        ·cases h
       ·cases h
      ·cases h
     ·cases h
    ·cases h
   ·cases h
  ·rename_i hx;split at h
   ·rename_i ti hT;split at h
    ·rename_i h1;cases h;exact Bc (aY hx) (a8 hT) h1 hN
    ·cases h
   ·cases h
  ·cases h
 ·split at h
  ·rename_i i hi;split at h
   ·rename_i hx;split at h
    ·rename_i ti hT;split at h
     ·rename_i hk;split at h
      ·rename_i hb;rw[Yb]at hb;rw[mq]at h;cases h
       exact tR (i:=Int.ofNat i) (aY hx) (aY hi) (a8 hT) hk (Y3 _) (Int.ofNat_lt.2 hb) hN
      ·cases h
     ·cases h
    ·cases h
   ·cases h
  ·cases h
 ·split at h
  ·rename_i hx;split at h
   ·rename_i l hl;split at h
    ·rename_i hh AO;split at h
     ·rename_i hs;simp only[ZW,XS]at hs;obtain⟨ti,E,te,h1,h2,h3,h4⟩:=qD hs.1.1;split at h
      ·rename_i hr;cases h;cases gm hr
       exact d6 (aY hx) (pg hl) (pg AO) h1 h2 h3 h4 hs.1.2 hs.2 hN
      ·cases h
     ·cases h
    ·cases h
   ·cases h
  ·rename_i hx;split at h
   ·rename_i hl;split at h
    ·rename_i hh;split at h
     ·rename_i ti hT;split at h
      ·rename_i E hk;split at h
       ·rename_i te hE;cases h;exact Nt (aY hx) (pg hl) (pg hh) (a8 hT) hk (a8 hE) hN
       ·cases h
      ·cases h
     ·cases h
    ·cases h
   ·cases h
  ·rename_i hx;split at h
   ·rename_i l hl;split at h
    ·rename_i hh AO;split at h
     ·rename_i hs;simp only[ZW,XS]at hs;obtain⟨ti,E,te,h1,h2,h3,h4⟩:=qD hs.1.1;rw[mq,mq]at h;cases h
      exact od (aY hx) (pg hl) (pg AO) h1 h2 h3 h4 hs.1.2 hs.2 hN
     ·cases h
    ·cases h
   ·cases h
  ·cases h
 ·rename_i args ts;split at h
  ·rename_i x hx;split at h
   ·rename_i T hT;have e1:args = #[x]:=by apply ZL.1; simpa using hx
    have e2:ts=#[T]:=by apply ZL.1;simpa using hT
    subst e1;subst e2
    split at h
    ·rename_i h1;split at h
     ·rename_i ti bj;split at h
      ·rename_i hk;rw[mq]at h;cases h;exact k6 (aY h1) (a8 bj) hk hN
      ·cases h
     ·cases h
    ·rename_i h1;split at h
     ·rename_i h2;cases h;exact Hs (aY h1) h2 hN
     ·cases h
    ·cases h
   ·cases h
  ·cases h
 ·rename_i args ts;split at h
  ·rename_i x y hx;split at h
   ·rename_i h1;split at h
    ·rename_i h2;have e1:args = #[x,y]:=by apply ZL.1; simpa using hx
     subst e1;rw[jy]at h;cases h;exact Mf (aY h1) (aY h2) hN
    ·cases h
   ·cases h
  ·cases h
 ·rename_i args ts;split at h
  ·rename_i x y hx;split at h
   ·rename_i h1;split at h
    ·rename_i h2;have e1:args = #[x,y]:=by apply ZL.1; simpa using hx
     subst e1;rw[jy]at h;cases h;exact QS (aY h1) (aY h2) hN
    ·cases h
   ·cases h
  ·cases h
 ·split at h
  ·rename_i h1;split at h
   ·rename_i ho;cases h;exact tk h1 (by rw[ho];exact .nil) trivial hN
   ·cases h
  ·cases h
end
end Go.Lw
namespace Go.Lw
variable{P:abe}{N:Nat}
def tr(a b k:Nat):Nat:=match XK k a with
  |true=>b
  |false=>match XK k b with
    |true=>a
    |false=>k
theorem PC(a b k:Nat):tr a b k=if k=a then b else if k=b then a else k:=by
 unfold tr;split
 ·rename_i h;rw[aa2 (ZT h)]
 ·rename_i h;rw[aa1 (Ya h)]
  split
  ·rename_i h;rw[aa2 (ZT h)]
  ·rename_i h;rw[aa1 (Ya h)]
theorem vg(a b k:Nat):tr a b (tr a b k)=k:=by
 simp only[PC]
 by_cases h1:k=a
 ·subst h1
  by_cases h2:b=k
  ·simp[h2]
  ·simp[h2]
 ·by_cases h2:k=b
  ·subst h2;simp[h1]
  ·simp[h1,h2]
theorem Ep{σ:Nat->Nat}(hσ:∀k,σ (σ k)=k):∀H:Hp,ed σ (ed σ H)=H
 |[]=>rfl
 |(k,x)::l=>by
  simp only[ed,hσ,Ep hσ l];cases x with
  |none=>rfl
  |some x=>simp only[Blk.pm_pm hσ]
def tA:List (Nat×Nat)->List AV->List AV
  |[],xs=>xs
  |p::L,xs=>tA L (xs.map (AV.pm (tr p.1 p.2)))
def tH:List (Nat×Nat)->Hp->Hp
  |[],H=>H
  |p::L,H=>tH L (ed (tr p.1 p.2) H)
def rB:List (Nat×Nat)->AV->AV
  |[],r=>r
  |p::L,r=>(rB L r).pm (tr p.1 p.2)
def hB:List (Nat×Nat)->Hp->Hp
  |[],H=>H
  |p::L,H=>ed (tr p.1 p.2) (hB L H)
theorem BF{f:FuncId}:∀{L:List (Nat×Nat)}{xs:List AV}{H H':Hp}{r:AV},Con P f (tA L xs) (tH L H) r H'->Con P f xs H (rB L r) (hB L H')
 |[],xs,H,H',r,h=>h
 |p::L,xs,H,H',r,h=>by
  have h1:=(BF (L:=L) h).pm (vg p.1 p.2);rw[Ep (vg p.1 p.2),map_map]at h1;have e:(AV.pm (tr p.1 p.2) ∘ AV.pm (tr p.1 p.2))=id:=by funext x;exact AV.pm_pm (vg p.1 p.2) x
  rw[e,map_id]at h1;exact h1
def FQ:Nat->List Nat->List (Nat×Nat)
  |_,[]=>[]
  |b,k::ks=>(k,b)::FQ (b+1) ks
def gS(k:Nat):List Nat->Bool
  |[]=>false
  |x::l=>match XK k x with
    |true=>true
    |false=>gS k l
def oN(s:AS):Nat->List Nat->List Nat->List Nat
  |0,_,acc=>acc
  |n+1,ks,acc=>match ks with
    |[]=>acc
    |k::ks=>match gS k acc with
      |true=>oN s n ks acc
      |false=>match s.blk k with
        |some z=>oN s n (z.nm++ks) (acc++[k])
        |none=>oN s n ks acc
def nh(s:AS):List Nat->Hp
  |[]=>[]
  |k::ks=>match s.blk k with
    |some z=>(k,some z)::nh s ks
    |none=>nh s ks
theorem qY{s:AS}:∀{ks:List Nat}{k:Nat}{z:Blk},lk (nh s ks) k=some z->lk s.hp k=some z
 |[],k,z,h=>by cases h
 |k'::ks,k,z,h=>by
  unfold nh at h;split at h
  ·rename_i y hy;rw[aq]at h;split at h
   ·rename_i e;cases h;rw[e];exact hy
   ·exact qY h
  ·exact qY h
structure Ent(P:abe) where
  f:FuncId
  xs:List AV
  r:AV
  H':Hp
  con:Con P f xs [] r H'
structure FE(P:abe) where
  f:FuncId
  fn:Func
  c:Code
  rs:List ResultVar
  hf:P.funcs[f]?=some fn
  hb:fn.body=some c
  hn : (fn.name == "runtime.NumGoroutine") = false
  hrs:fn.results=rs.toArray
structure Env(P:abe) where
  orc:FuncId->Option (List AV->Option (Ent P))
  fe:FuncId->Option (FE P)
  mt:FuncId->Bool
def c9:abc->abc->Bool
  | .int k a,.int k' b=>XK (cN k) (cN k')&&aa .eql a b
  | .bool a,.bool b=>a==b
  | .nilIface,.nilIface=>true
  | .string a,.string b=>kx a b
  | .slice none 0 0,.slice none 0 0=>true
  | .func (.func f) ⟨[]⟩ ⟨[]⟩,.func (.func g) ⟨[]⟩ ⟨[]⟩=>XK f g
  | .nilFunc,.nilFunc=>true
  | .pointer none,.pointer none=>true
  | .iface T v,.iface T' v'=>XK T T'&&c9 v v'
  |_,_=>false
theorem LZ{a b:ByteArray}(h:kx a b=true):a=b:=by
 unfold kx at h;rw[yL]at h;have h:=eq_of_beq h;have e:∀c:ByteArray,c=⟨⟨c.data.toList⟩⟩:=fun c=>by cases c;rfl
 rw[e a,e b,h]
theorem uT:∀(a b:abc),c9 a b=true->a=b
 | .iface T v,b,h=>by
  cases b with
  |iface T' v' =>
   simp only[c9,ZW]at h;rw[ZT h.1,uT v v' h.2]
  |_=>simp[c9]at h
 | .int k a,b,h=>by
  cases b with
  |int k' b =>
   simp only[c9,ZW]at h;rw[ky h.1,eq_of_beq (show(a==b)=true from h.2)]
  |_=>simp[c9]at h
 | .bool a,b,h=>by
  cases b with
  |bool b=>simp only[c9,beq_iff_eq]at h;rw[h]
  |_=>simp[c9]at h
 | .string a,b,h=>by
  cases b with
  |string b=>simp only[c9]at h;rw[LZ h]
  |_=>simp[c9]at h
 | .nilIface,b,h=>by
  cases b <;> simp[c9]at h
  rfl
 | .slice x n c,b,h=>by
  unfold c9 at h;split at h <;> simp_all
 | .float ..,b,h=>by simp[c9]at h
 | .complex ..,b,h=>by simp[c9]at h
 | .pointer p,b,h=>by
  unfold c9 at h;split at h <;> simp_all
 | .map _,b,h=>by simp[c9]at h
 | .chan _,b,h=>by simp[c9]at h
 | .func f x y,b,h=>by
  unfold c9 at h;split at h <;> first |(simp_all;done) |(simp_all;exact ZT h)
 | .nilFunc,b,h=>by
  unfold c9 at h;split at h <;> simp_all
 | .agg _,b,h=>by simp[c9]at h
 | .tuple _,b,h=>by simp[c9]at h
mutual
def cT:AV->AV->Bool
  | .v a,y=>match y with
    | .v b=>c9 a b
    | .lst _ es=>match es with
      |[]=>match a with
        | .slice _ 0 _=>true
        |_=>false
      |_=>false
    |_=>false
  | .lst sz es,y=>match y with
    | .lst sz' es'=>XK sz sz'&&nf es es'
    |_=>false
  | .agg cs,y=>match y with
    | .agg cs'=>mK cs cs'
    |_=>false
  | .tup cs,y=>match y with
    | .tup cs'=>oD cs cs'
    |_=>false
  |_,_=>false
def mK:List AV->List AV->Bool
  |[],y=>match y with
    |[]=>true
    |_=>false
  |x::l,y=>match y with
    |x'::l'=>x'.one&&cT x x'&&mK l l'
    |[]=>false
def oD:List AV->List AV->Bool
  |[],y=>match y with
    |[]=>true
    |_=>false
  |x::l,y=>match y with
    |x'::l'=>cT x x'&&oD l l'
    |[]=>false
def nf:List AV->List AV->Bool
  |[],y=>match y with
    |[]=>true
    |_=>false
  |x::l,y=>match y with
    |x'::l'=>et x x'&&nf l l'
    |[]=>false
def et:AV->AV->Bool
  | .agg cs,y=>match y with
    | .agg cs'=>mK cs cs'
    |_=>false
  | .v a,y=>match y with
    | .v b=>c9 a b&&b.oneCell'
    | .lst _ es=>match es with
      |[]=>match a with
        | .slice _ 0 _=>true
        |_=>false
      |_=>false
    |_=>false
  | .lst sz es,y=>match y with
    | .lst sz' es'=>XK sz sz'&&nf es es'
    |_=>false
  |_,_=>false
end
theorem Hl{a:abc}{y:AV}(h:cT (.v a) y=true):Sub (.v a) y:=by
 cases y with
 |v b=>simp only[cT]at h;rw[uT _ _ h];exact .refl _
 |lst sz es =>
  cases es with
  |nil =>
   cases a with
   |slice x n c =>
    cases n with
    |zero=>exact .nil _ _ _
    |succ n=>simp[cT]at h
   |_=>simp[cT]at h
  |cons e es=>simp[cT]at h
 |_=>simp[cT]at h
mutual
theorem wz:∀(x y:AV),cT x y=true->Sub x y
 | .v a,y,h=>Hl h
 | .lst sz es,y,h=>by
  cases y with
  |lst sz' es' =>
   simp only[cT,ZW]at h;cases ZT h.1;exact Sub.lst (qk es es' h.2).1 (qk es es' h.2).2
  |_=>simp[cT]at h
 | .agg cs,y,h=>by
  cases y with
  |agg cs' =>
   simp only[cT]at h;exact Sub.agg (tb cs cs' h).1 (tb cs cs' h).2
  |_=>simp[cT]at h
 | .tup cs,y,h=>by
  cases y with
  |tup cs' =>
   simp only[cT]at h;exact Sub.tup (Fz cs cs' h)
  |_=>simp[cT]at h
 | .iptr _,y,h=>by simp[cT]at h
 | .ms ..,y,h=>by simp[cT]at h
 | .ptr ..,y,h=>by simp[cT]at h
 | .eptr ..,y,h=>by simp[cT]at h
 | .fn ..,y,h=>by simp[cT]at h
 | .opt ..,y,h=>by simp[cT]at h
 | .yl ..,y,h=>by simp[cT]at h
 | .cl ..,y,h=>by simp[cT]at h
theorem tb:∀(l l':List AV),mK l l'=true->SubL l l'/\l'.all AV.one=true
 |[],[],h=>⟨.nil,rfl⟩
 |[],_::_,h=>by simp[mK]at h
 |_::_,[],h=>by simp[mK]at h
 |x::l,x'::l',h=>by
  simp only[mK,ZW]at h;obtain⟨h1,h2⟩:=tb l l' h.2;exact⟨.cons (wz x x' h.1.2) h1,by simp only[all_cons,h.1.1,h2,Bool.and_self]⟩
theorem Fz:∀(l l':List AV),oD l l'=true->SubL l l'
 |[],[],h=>.nil
 |[],_::_,h=>by simp[oD]at h
 |_::_,[],h=>by simp[oD]at h
 |x::l,x'::l',h=>by
  simp only[oD,ZW]at h;exact .cons (wz x x' h.1) (Fz l l' h.2)
theorem qk:∀(l l':List AV),nf l l'=true->l.length=l'.length/\∀(i:Nat)(e e':AV),l[i]?=some e->l'[i]?=some e'->jF e e'
 |[],[],h=>⟨rfl,fun i e e' h=>by simp at h⟩
 |[],_::_,h=>by simp[nf]at h
 |_::_,[],h=>by simp[nf]at h
 |x::l,x'::l',h=>by
  simp only[nf,ZW]at h;obtain⟨h1,h2⟩:=qk l l' h.2;refine⟨by simp[h1],?_⟩;intro i e e' he he';cases i with
  |zero=>simp at he he';subst he;subst he';exact JB x x' h.1
  |succ i=>exact h2 i e e' (by simpa using he) (by simpa using he')
theorem JB:∀(x y:AV),et x y=true->jF x y
 | .v a,y,h=>by
  have one:∀{z:AV},z.cells=[z]->z.one=true->Sub (.v a) z->jF (.v a) z:=by
   intro z h1 h2 h3;refine⟨by rw[h1];rfl,?_⟩;intro j x y hx hy;rw[h1]at hy;cases j with
   |zero=>simp[AV.cells]at hx hy;subst hx;subst hy;exact⟨h2,h3⟩
   |succ j=>simp at hy
  cases y with
  |v b =>
   simp only[et,ZW]at h;exact one rfl h.2 (by rw[uT _ _ h.1];exact .refl _)
  |lst sz es =>
   refine one rfl rfl (Hl ?_);cases es with
   |nil=>unfold et at h;unfold cT;exact h
   |cons=>simp[et]at h
  |_=>simp[et]at h
 | .lst sz es,y,h=>by
  cases y with
  |lst sz' es' =>
   simp only[et,ZW]at h;cases ZT h.1;refine⟨rfl,?_⟩;intro j x y hx hy;cases j with
   |zero =>
    simp[AV.cells]at hx hy;subst hx;subst hy
    exact⟨rfl,Sub.lst (qk es es' h.2).1 (qk es es' h.2).2⟩
   |succ j=>simp[AV.cells]at hy
  |_=>simp[et]at h
 | .agg cs,y,h=>by
  cases y with
  |agg cs' =>
   simp only[et]at h;obtain⟨h1,h2⟩:=tb cs cs' h;exact⟨h1.len,fun j x y hx hy=>⟨Z6.1 h2 y (ZR hy),h1.get j x y hx hy⟩⟩
  |_=>simp[et]at h
 | .tup ..,y,h=>by simp[et]at h
 | .iptr _,y,h=>by simp[et]at h
 | .ms ..,y,h=>by simp[et]at h
 | .ptr ..,y,h=>by simp[et]at h
 | .eptr ..,y,h=>by simp[et]at h
 | .fn ..,y,h=>by simp[et]at h
 | .opt ..,y,h=>by simp[et]at h
 | .yl ..,y,h=>by simp[et]at h
 | .cl ..,y,h=>by simp[et]at h
end
end Go.Lw
namespace Go.Lw
variable{P:abe}{N:Nat}{R:Array Oper}{s:AS}{pos:String}{after:Array Edge}
theorem L7{d n:Nat}{os:List abb}{es:List AV}{T E t:abd}{ti te:TI}{parts:Array (Nat×abb)}
  (hp:parts=(fR 0 os).toArray) (hx:EvL s os es) (hT:ak P T=some ti) (hk:ti.k=.slice E) (hE:ak P E=some te) (hz:te.zero.all Value.oneCell'=true)
  (bb:XK te.zero.length te.size=true) (ci:(es.all fun e=>XK e.cells.length te.size&&e.ok)=true) (hnm:AV.nms es=[])
  (hn:n=es.length) (hb:Nat.ble (n*te.size) 16777216=true) (hb':Nat.ble n 16777216=true) (hN:XU d N=true) :
  Step P N R s ⟨some d,.buildSlice T n parts,t,pos,after,none⟩ ⟨some (.ms d te.size 0 n),[(d,some (.row te.size es))],bO os,[]⟩ :=
 mY rfl rfl hN (by simp) fun s' aj hfr C m a w hr => by
  subst hp;rw[XS]at hb hb';have hx':=hx.agree aj (fun _ h=>h);obtain⟨c,h1,h2⟩:=sY (w:=w) hT hk hE hz bb (fun o x h=>h.rep hr) hx' ci hn oz;refine⟨.slice (some ⟨w.heap.size,0,none⟩) n n,c,E,w.drawn,?_,fun h=>h,?_,?_⟩
  ·have : ((fR 0 os).toArray.map fun p => (p.1, a.eval p.2)) = ((fR 0 os).map fun p => (p.1, a.eval p.2)).toArray := by simp
   simp only[execOp,abh,this,h1,abg,abi]
  ·intro g S m' w' hg hS hm hw;subst hn
   have se:∀x∈cR es,x.nm=[]:=by
    have hh:=pt hnm;clear h2 h1 hx' hx ci hb hb' hnm aj
    induction es with
    |nil=>intro x hx;cases hx
    |cons e es ih =>
     intro x hx;simp only[cR,ZY]at hx;rcases hx with hx |hx
     ·have := hh e (by simp)
      cases e <;> simp only[AV.cells,Z3]at hx <;> first
       |(subst hx;exact this)
       |(exact pt this x hx)
     ·exact ih (fun e he=>hh e (by simp[he])) x hx
   have h3:bR g S bK c.toList (cR es):=h2.mono hg hS (fun x hx k b hk _=>by have:=hk.mem;rw[se x hx]at this;cases this);have hs:=nr ci;have a6:=qO es hs;have aA:c.size=es.length*te.size:=by have:=h3.1;simp at this;omega
   have dm:∀(i j:Nat)(e x:AV),es[i]?=some e->e.cells[j]?=some x->∃u,c[i*te.size+j]?=some u/\x.one=true/\Rep g S bK u x:=by
    intro i j e x he hx;have hf:=rc es hs i j e x he hx
    have hlt:i*te.size+j<(cR es).length:=by
     rcases Z2 (i*te.size+j) (cR es).length with h |h
     ·exact h
     ·rw[Z5 h]at hf;cases hf
    have sb:i*te.size+j<c.size:=by omega
    refine⟨c[i*te.size+j],ZC sb,h3.2.1 _ x hf,h3.2.2 _ _ x (by simp[sb]) hf⟩
   refine .row hw oz (by unfold an;omega) (fun i e he=>hs e (ZR he)) ?_ ?_
   ·intro i j e x he hx;obtain⟨u,_,h,_⟩:=dm i j e x he hx;exact h
   ·intro i j e u x he hx hu;obtain⟨u',h,_,h2⟩:=dm i j e x he hx;rw[hu]at h;cases h
    exact h2
  ·intro g S m' hm hS
   have:=Rep.ms (g:=g) (S:=S) (m:=m') (k:=d) (sz:=te.size) (off:=0) (len:=n) (cap:=n) hm (Z0 _) (by
    have hl:=qO es (nr ci);have h9:=h2.1;have e:c.size=n*te.size:=by simp at h9;rw[hn];omega
    rw[XF,<- e];exact hS)
   simpa using this
end Go.Lw
namespace Go.Lw
variable{P:abe}{N:Nat}
inductive OR where
  |ok (u:Out)
  |need (k:Nat)
  |no
inductive CR where
  |ok (H:Hp) (r:AV) (H':Hp)
  |need (k:Nat)
  |no
def mS:List AV->List AV->Bool
  |[],y=>match y with
    |[]=>true
    |_=>false
  |x::l,y=>match y with
    |x'::l'=>cT x x'&&mS l l'
    |[]=>false
theorem BR:∀{l l':List AV},mS l l'=true->SubL l l'
 |[],[],h=>.nil
 |[],_::_,h=>by simp[mS]at h
 |_::_,[],h=>by simp[mS]at h
 |x::l,x'::l',h=>by
  simp only[mS,ZW]at h;exact .cons (wz x x' h.1) (BR h.2)
def mx:Nat->List Nat->Nat
  |m,[]=>m
  |m,k::l=>match XU m k&&XU k 1000 with
    |true=>mx k l
    |false=>mx m l
def wY(s:AS):Nat->Nat->Nat
  |0,k=>k
  |n+1,k=>match s.freshB k with
    |true=>k
    |false=>wY s n (k+1)
def sW(s:AS)(av:List Nat):Nat:=wY s 100 (mx (mx 299 (s.hp.map (·.1))) av+1)
mutual
theorem AV.pm_id(σ:Nat->Nat):∀x:AV,x.nm=[]->x.pm σ=x
 | .ms k sz off len,h=>by simp[AV.nm]at h
 | .ptr k off,h=>by simp[AV.nm]at h
 | .eptr k sz i off,h=>by simp[AV.nm]at h
 | .yl k,h=>by simp[AV.nm]at h
 | .agg cs,h=>by simp only[AV.pm];rw[AV.pms_id σ cs (by simpa only[AV.nm]using h)]
 | .tup cs,h=>by simp only[AV.pm];rw[AV.pms_id σ cs (by simpa only[AV.nm]using h)]
 | .fn f cs,h=>by simp only[AV.pm];rw[AV.pms_id σ cs (by simpa only[AV.nm]using h)]
 | .opt b x,h=>by simp only[AV.pm];rw[AV.pm_id σ x (by simpa only[AV.nm]using h)]
 | .v x,h=>rfl
 | .lst sz l,h=>rfl
 | .iptr l,h=>rfl
 | .cl f cs ds,h=>rfl
theorem AV.pms_id(σ:Nat->Nat):∀l:List AV,AV.nms l=[]->AV.pms σ l=l
 |[],h=>rfl
 |x::l,h=>by
  simp only[AV.nms,List.append_eq_nil_iff]at h;simp only[AV.pms];rw[AV.pm_id σ x h.1,AV.pms_id σ l h.2]
end
theorem TB{f:FuncId}{xs:List AV}{r:AV}{H':Hp}(h:Con P f xs [] r H')(hx:AV.nms xs=[])(k d:Nat):Con P f xs [] (r.pm (tr k d)) (ed (tr k d) H'):=by
 have h1:=h.pm (vg k d);rw[<- AV.pms_eq,AV.pms_id _ xs hx]at h1;exact h1
abbrev ey:=List Nat->FuncId->List AV->Hp->Option (AV×Hp)
def ey.Ok(P:abe)(F:ey):Prop:=∀av f xs H r H',F av f xs H=some (r,H')->Con P f xs H r H'
def Cg(s:AS):List Nat->Option Nat
  |[]=>none
  |k::ks=>match s.blk k with
    |some (.row _ _)=>some k
    |_=>Cg s ks
def xI:aX->List Nat
  |[]=>[]
  |(_,x)::l=>match x with
    |some y=>y.nm++xI l
    |none=>xI l
def tz(F:ey)(s:AS)(av:List Nat)(f:FuncId)(xs:List AV):CR :=
  match nh s (oN s 300 (AV.nms xs) [])with
  |H=>match F (s.hp.map (·.1)++(xI s.sl++av)) f xs H with
    |some (r,H')=>.ok H r H'
    |none=>.no
def qh(E:Env P)(F:ey)(s:AS)(av:List Nat)(f:FuncId)(xs:List AV):CR:=match E.mt f with
  |true=>tz F s av f xs
  |false=>match Cg s (AV.nms xs)with
    |some k=>.need k
    |none=>tz F s av f xs
def mQ(E:Env P)(F:ey)(s:AS)(av:List Nat)(f:FuncId)(xs:List AV):CR:=match E.orc f with
  |some g=>match AV.nms xs with
    |k::_=>.need k
    |[]=>match g xs with
      |some e=>match XK e.f f&&mS xs e.xs with
        |true=>match e.H' with
          |(k,some z)::l=>.ok [] (e.r.pm (tr k (sW s av))) (ed (tr k (sW s av)) e.H')
          |_=>.ok [] e.r e.H'
        |false=>qh E F s av f xs
      |none=>qh E F s av f xs
  |none=>qh E F s av f xs
theorem E5{F:ey}(hF:F.Ok P){s:AS}{av:List Nat}{f:FuncId}{xs:List AV}{H H':Hp}{r:AV}(h:tz F s av f xs=.ok H r H'):Con P f xs H r H'/\∀k z,lk H k=some z->s.blk k=some z:=by
 unfold tz at h;simp only at h;split at h
 ·rename_i h1;cases h;exact⟨hF _ _ _ _ _ _ h1,fun k z hz=>qY hz⟩
 ·cases h
theorem ze{E:Env P}{F:ey}(hF:F.Ok P){s:AS}{av:List Nat}{f:FuncId}{xs:List AV}{H H':Hp}{r:AV}(h:qh E F s av f xs=.ok H r H'):Con P f xs H r H'/\∀k z,lk H k=some z->s.blk k=some z:=by
 unfold qh at h;split at h
 ·exact E5 hF h
 ·split at h
  ·cases h
  ·exact E5 hF h
theorem rE{E:Env P}{F:ey}(hF:F.Ok P){s:AS}{av:List Nat}{f:FuncId}{xs:List AV}{H H':Hp}{r:AV}(h:mQ E F s av f xs=.ok H r H'):Con P f xs H r H'/\∀k z,lk H k=some z->s.blk k=some z:=by
 unfold mQ at h;split at h
 ·split at h
  ·cases h
  ·rename_i hn;split at h
   ·rename_i e he;split at h
    ·rename_i hc;simp only[ZW]at hc;have hf:=ZT hc.1;subst hf;have h9:=Con.sA (BR hc.2) e.con;split at h
     ·rename_i k z l _;obtain⟨rfl,rfl,rfl⟩:=CR.ok.inj h;exact⟨TB h9 hn _ _,fun k z hz=>by cases hz⟩
     ·obtain⟨rfl,rfl,rfl⟩:=CR.ok.inj h;exact⟨h9,fun k z hz=>by cases hz⟩
    ·exact ze hF h
   ·exact ze hF h
 ·exact ze hF h
theorem MP{s:AS}{R:Array Oper}{d q sz cap0:Nat}{a0:Option Addr}{xs:List AV}{x y:abb}{T E t:abd}{ti te:TI}{pos:String}{after:Array Edge}
  (hx:Ev s x (.v (.slice a0 0 0))) (hy:Ev s y (.lst sz xs)) (hT:ak P T=some ti) (iX:ti.k=.slice E) (hE:ak P E=some te)
  (aA:te.size=sz) (bb:(XK te.zero.length te.size&&XU 0 te.size&&XU 0 te.bytes)=true) (hb:(0+xs.length)*te.bytes<=140737488355328) (eO:XK d q=false)
  (hN:XU d N=true) :
  Step P N R s ⟨some d,.call ⟨.builtin .append,#[x,y],#[T,T]⟩,t,pos,after,none⟩
   ⟨some (.ms d sz 0 (0+xs.length)),[(d,some (.row sz ([]++xs))),(q,none)],ae x++ae y,[]⟩:=by
 refine⟨fun s' aj ba C m a w Q next hC hr hnext=>?_⟩
 have hq:s'.Fresh q:=by
  rcases ba q (by simp)with h |h
  ·cases h
  ·exact h
 have hd:s'.Fresh d:=by
  rcases ba d (by simp)with h |h
  ·cases h
  ·exact h
 have Wj:=Ya eO;have hx':=hx.agree aj (fun _ h=>ZY.2 (.inl h));have hy':=hy.agree aj (fun _ h=>ZY.2 (.inr h))
 let s2:AS:=⟨s'.sl,(q,some (.row sz []))::s'.hp⟩
 have evs:∀{o:abb}{z:AV},Ev s' o z->Ev s2 o z:=fun h=>by
  cases h with
  |tmp h=>exact .tmp h
  |opt h hb=>exact .opt h hb
  |const c=>exact .const c
  |func f=>exact .func f
 have st:=BK (P:=P) (N:=N) (R:=R) (s:=s2) (d:=d) (k:=q) (t:=t) (pos:=pos) (after:=after) (es:=[]) (evs hx') (fun g S m v h=>Sub.nM a0 q sz g S m v h) (by simp[s2,AS.blk,aq]) rfl (evs hy') hT iX hE aA bb hb eO hN;refine st.run s2 ⟨fun _ _=>rfl,fun _ _=>rfl⟩ ?_ C _ a w Q next hC (hr.virt sz hq) (fun m' a' w' hr'=>hnext m' a' w' ?_)
 ·intro k hk;simp only[aaz,List.map_nil,aai,aap,or_false]at hk;rcases hk with rfl |rfl
  ·exact .inr (Fresh.row hd Wj (fun h=>h))
  ·exact .inl (by simp)
 ·refine RelM.congr ?_ ?_ hr'
  ·intro t;rfl
  ·intro k;simp only[AS.app,AS.blk,s2,List.cons_append,YK,aq];split
   ·rfl
   ·split <;> rfl
mutual
def gq:AV->AV->Bool
  | .v a,y=>match y with
    | .v b=>c9 a b
    |_=>false
  | .lst sz es,y=>match y with
    | .lst sz' es'=>XK sz sz'&&iH es es'
    |_=>false
  | .agg cs,y=>match y with
    | .agg cs'=>iH cs cs'
    |_=>false
  | .tup cs,y=>match y with
    | .tup cs'=>iH cs cs'
    |_=>false
  | .iptr cs,y=>match y with
    | .iptr cs'=>iH cs cs'
    |_=>false
  | .ms k sz off len,y=>match y with
    | .ms k' sz' off' len'=>XK k k'&&(XK sz sz'&&(XK off off'&&XK len len'))
    |_=>false
  | .ptr k off,y=>match y with
    | .ptr k' off'=>XK k k'&&XK off off'
    |_=>false
  | .eptr k sz i off,y=>match y with
    | .eptr k' sz' i' off'=>XK k k'&&(XK sz sz'&&(XK i i'&&XK off off'))
    |_=>false
  | .fn f cs,y=>match y with
    | .fn f' cs'=>XK f f'&&iH cs cs'
    |_=>false
  | .opt _ _,_=>false
  | .yl _,_=>false
  | .cl _ _ _,_=>false
def iH:List AV->List AV->Bool
  |[],y=>match y with
    |[]=>true
    |_=>false
  |x::l,y=>match y with
    |x'::l'=>gq x x'&&iH l l'
    |[]=>false
end
mutual
theorem Qk:∀(x y:AV),gq x y=true->x=y
 | .v a,y,h=>by cases y <;> simp[gq]at h;rw[uT _ _ h]
 | .lst sz es,y,h=>by
  cases y <;> simp only[gq,ZW,Zm]at h
  rw[ZT h.1,mf _ _ h.2]
 | .agg cs,y,h=>by cases y <;> simp only[gq,Zm]at h;rw[mf _ _ h]
 | .tup cs,y,h=>by cases y <;> simp only[gq,Zm]at h;rw[mf _ _ h]
 | .iptr cs,y,h=>by cases y <;> simp only[gq,Zm]at h;rw[mf _ _ h]
 | .ms k sz off len,y,h=>by
  cases y <;> simp only[gq,ZW,Zm]at h
  rw[ZT h.1,ZT h.2.1,ZT h.2.2.1,ZT h.2.2.2]
 | .ptr k off,y,h=>by
  cases y <;> simp only[gq,ZW,Zm]at h
  rw[ZT h.1,ZT h.2]
 | .eptr k sz i off,y,h=>by
  cases y <;> simp only[gq,ZW,Zm]at h
  rw[ZT h.1,ZT h.2.1,ZT h.2.2.1,ZT h.2.2.2]
 | .fn f cs,y,h=>by
  cases y <;> simp only[gq,ZW,Zm]at h
  rw[ZT h.1,mf _ _ h.2]
 | .opt ..,y,h=>by simp[gq]at h
 | .yl ..,y,h=>by simp[gq]at h
 | .cl ..,y,h=>by simp[gq]at h
theorem mf:∀(l l':List AV),iH l l'=true->l=l'
 |[],[],h=>rfl
 |[],_::_,h=>by simp[iH]at h
 |_::_,[],h=>by simp[iH]at h
 |x::l,x'::l',h=>by
  simp only[iH,ZW]at h;rw[Qk x x' h.1,mf l l' h.2]
end
def zJ:Blk->Blk->Bool
  | .box cs,.box cs'=>iH cs cs'
  | .row sz es,.row sz' es'=>XK sz sz'&&iH es es'
  |_,_=>false
theorem Qy{x y:Blk}(h:zJ x y=true):x=y:=by
 cases x <;> cases y <;> simp only[zJ,Zm]at h
 ·rw[mf _ _ h]
 ·simp only[ZW]at h;rw[ZT h.1,mf _ _ h.2]
theorem kY{k:Nat}:∀{l:List Nat},gS k l=true↔k∈l
 |[]=>by simp[gS]
 |x::l=>by
  unfold gS;split
  ·rename_i h;simp[ZT h]
  ·rename_i h;rw[kY (l:=l)];simp[Ya h]
def d8(H:Hp):List Nat->Hp->Hp
  |_,[]=>[]
  |seen,(k,x)::l=>match gS k seen with
    |true=>d8 H seen l
    |false=>match x with
      |some z=>match lk H k with
        |some y=>match zJ y z with
          |true=>d8 H (k::seen) l
          |false=>(k,some z)::d8 H (k::seen) l
        |none=>(k,some z)::d8 H (k::seen) l
      |none=>(k,none)::d8 H (k::seen) l
theorem zg{H R:Hp}(hR:∀t y,lk H t=some y->lk R t=some y):∀{l:Hp}{seen:List Nat}{t:Nat},t∉seen->lk (d8 H seen l++R) t=if t∈l.map (·.1)then lk l t else lk R t
 |[],seen,t,h=>by simp[d8]
 |(k,x)::l,seen,t,h=>by
  have rest:t≠k->lk (d8 H (k::seen) l++R) t=if t∈((k,x)::l).map (·.1)then lk ((k,x)::l) t else lk R t:=by
   intro az;rw[zg hR (fun hh=>by rcases aai.1 hh with e |e;exact az e;exact h e)];simp only[aaz,aai,az,false_or];rw[aq,aa1 az]
  have head:lk ((k,x)::(d8 H (k::seen) l++R)) t=if t∈((k,x)::l).map (·.1)then lk ((k,x)::l) t else lk R t:=by
   rw[aq]
   by_cases e:t=k
   ·rw[aa2 e,aq,aa2 e];simp[e]
   ·rw[aa1 e,rest e]
  unfold d8;split
  ·rename_i hm;have az:t ≠ k:=fun e=>h (by rw [e]; exact kY.1 hm)
   rw[zg hR h];simp only[aaz,aai,az,false_or];rw[aq,aa1 az]
  ·split
   ·rename_i z;split
    ·rename_i y hy;split
     ·rename_i he
      by_cases e:t=k
      ·rw[chg_none (by rw[e];exact aaa ..),e,hR k y hy,Qy he];simp[aq]
      ·exact rest e
     ·exact head
    ·exact head
   ·exact head
where
 chg_none {H R:Hp}:∀{l:Hp}{seen:List Nat}{t:Nat},t∈seen->lk (d8 H seen l++R) t=lk R t
  |[],seen,t,h=>rfl
  |(k,x)::l,seen,t,h=>by
   unfold d8;split
   ·exact chg_none h
   ·rename_i hm;have az:t ≠ k:=fun e=>by rw [e] at h; rw [kY.2 h] at hm; cases hm
    have ih:=chg_none (H:=H) (R:=R) (l:=l) (Z8 k h);split
    ·split
     ·split
      ·exact ih
      ·show lk (_::(_++R)) t=_;rw[aq,aa1 az];exact ih
     ·show lk (_::(_++R)) t=_;rw[aq,aa1 az];exact ih
    ·show lk (_::(_++R)) t=_;rw[aq,aa1 az];exact ih
theorem yQ{H:Hp}:∀{l:Hp}{seen:List Nat}{k:Nat},k∈l.map (·.1)->k∉seen->k∈(d8 H seen l).map (·.1)\/∃y,lk H k=some y
 |[],seen,k,h,_=>by simp at h
 |(k',x)::l,seen,k,h,hs=>by
  unfold d8
  by_cases e:k=k'
  ·subst e
   have hm:gS k seen=false:=by
    cases hq:gS k seen with
    |true=>exact aa8 (kY.1 hq) hs
    |false=>rfl
   simp only[hm];split
   ·split
    ·rename_i y hy;split
     ·exact .inr ⟨y,hy⟩
     ·exact .inl (by simp)
    ·exact .inl (by simp)
   ·exact .inl (by simp)
  ·have h' : k ∈ l.map (·.1) := by simpa [e] using h
   have hs':k∉k'::seen:=fun hh=>by rcases aai.1 hh with e' |e';exact e e';exact hs e'
   have ih1:=yQ (H:=H) h' hs;have ih2:=yQ (H:=H) h' hs';split
   ·exact ih1
   ·split
    ·split
     ·split
      ·exact ih2
      ·rcases ih2 with h |h
       ·exact .inl (Z8 _ h)
       ·exact .inr h
     ·rcases ih2 with h |h
      ·exact .inl (Z8 _ h)
      ·exact .inr h
    ·rcases ih2 with h |h
     ·exact .inl (Z8 _ h)
     ·exact .inr h
theorem rh{R:Array Oper}{s:AS}{o:Oper}{x:Option AV}{H U:Hp}{rt:List Nat}(hH:∀k z,lk H k=some z->s.blk k=some z)(h:Step P N R s o ⟨x,U,rt,H.map (·.1)⟩) :
  Step P N R s o ⟨x,d8 H [] U,rt,H.map (·.1)⟩:=by
 refine⟨fun s' aj ba C m a w Q next hC hr hnext=>?_⟩;have hH':∀k z,lk H k=some z->lk s'.hp k=some z:=fun k z hz=>(aj.2 k (g7 hz)).trans (hH k z hz)
 refine h.run s' aj (fun k hk=>?_) C m a w Q next hC hr (fun m' a' w' hr'=>hnext m' a' w' ?_)
 ·rcases yQ (H := H) hk (seen := []) (by simp) with h1 | ⟨y, hy⟩
  ·exact ba k h1
  ·exact .inl (g7 hy)
 ·refine RelM.congr (s:=s'.app o.dst ⟨x,U,rt,H.map (·.1)⟩) (fun t=>rfl) (fun k=>?_) hr';simp only[AS.blk,AS.app];rw[zg hH' (by simp),iD]
variable[Inhabited (Tys P)]
def wH(P:abe)[Inhabited (Tys P)](s:AS)(d:Nat)(x y:abb)(T:abd):OR:=match bM s y with
  |some (.lst sz xs)=>match bm P T with
    |some ti=>match ti.k with
      | .slice E=>match bm P E with
        |some te=>match XK te.size sz&&(XK te.zero.length te.size&&XU 0 te.size&&XU 0 te.bytes)with
          |true=>match bM s x with
            |some (.ms k sz' off len)=>match s.blk k with
              |some (.row sz2 es)=>match XK sz' sz&&XK off 0&&XK sz2 sz&&XK len es.length&&Nat.ble ((len+xs.length)*te.bytes) 140737488355328 with
                |true=>match XK d k with
                  |true=>.no
                  |false=>match fp (es++xs)with
                    |some l=>wN (len+xs.length) fun n=>.ok ⟨some (.ms d sz 0 n),[(d,some (.row sz l)),(k,none)],ae x++ae y,[k]⟩
                    |none=>.no
                |false=>.no
              |_=>.no
            |some (.v (.slice a0 0 0))=>match Nat.ble ((0+xs.length)*te.bytes) 140737488355328 with
              |true=>match XK d 299 with
                |true=>.no
                |false=>match fp ([]++xs)with
                  |some l=>wN (0+xs.length) fun n=>.ok ⟨some (.ms d sz 0 n),[(d,some (.row sz l)),(299,none)],ae x++ae y,[]⟩
                  |none=>.no
              |false=>.no
            |_=>.no
          |false=>.no
        |none=>.no
      |_=>.no
    |none=>.no
  |some (.ms k _ _ _)=>.need k
  |_=>.no
theorem P9{s:AS}{R:Array Oper}{d:Nat}{x y:abb}{T t:abd}{u:Out}{pos:String}{after:Array Edge}(h:wH P s d x y T=.ok u)(hN:XU d N=true) :
  Step P N R s ⟨some d,.call ⟨.builtin .append,#[x,y],#[T,T]⟩,t,pos,after,none⟩ u:=by
 unfold wH at h;split at h
 ·rename_i sz xs hy;split at h
  ·rename_i ti hT;split at h
   ·rename_i E hk;split at h
    ·rename_i te hE;split at h
     ·rename_i hc;simp only [ZW] at hc;have aA:=ZT hc.1;have bb:(XK te.zero.length te.size && XU 0 te.size && XU 0 te.bytes) = true:=by simp only [ZW]; exact hc.2
      split at h
      ·rename_i k sz' off len hx;split at h
       ·rename_i sz2 es hb;split at h
        ·rename_i hg;simp only[ZW,XS]at hg;obtain⟨⟨⟨⟨g1,g2⟩,g3⟩,g4⟩,g5⟩:=hg;cases ZT g1;cases ZT g2;cases ZT g3;split at h
         ·cases h
         ·rename_i eO;split at h
          ·rename_i l hl;cases gm hl;rw[mq]at h;cases h
           exact cU (aY hx) hb (ZT g4) (aY hy) (a8 hT) hk (a8 hE) aA bb g5 eO hN
          ·cases h
        ·cases h
       ·cases h
      ·rename_i a0 hx;split at h
       ·rename_i g5;rw[XS]at g5;split at h
        ·cases h
        ·rename_i eO;split at h
         ·rename_i l hl;cases gm hl;rw[mq]at h;cases h
          exact MP (cap0:=0) (aY hx) (aY hy) (a8 hT) hk (a8 hE) aA bb g5 eO hN
         ·cases h
       ·cases h
      ·cases h
     ·cases h
    ·cases h
   ·cases h
  ·cases h
 ·cases h
 ·cases h
def x9(P:abe)[Inhabited (Tys P)](s:AS)(T:abd)(x y:abb):OR:=match bM s x with
  |some (.eptr k sz i off)=>match bM s y with
    |some v=>match v.nm with
      |k'::_=>.need k'
      |[]=>match s.blk k with
        |some (.row sz' es)=>match es[i]? with
          |some e=>match bm P T with
            |some ti=>match XK sz sz'&&v.ok&&XK v.cells.length ti.size&&Nat.ble (off+ti.size) e.cells.length with
              |true=>match e with
                | .agg cs=>match fp (over cs off v.cells)with
                  |some l=>match fp (es.set i (.agg l))with
                    |some es'=>.ok ⟨none,[(k,some (.row sz es'))],ae x++ae y,[k]⟩
                    |none=>.no
                  |none=>.no
                |e=>match XK off 0&&XK v.cells.length 1 with
                  |true=>match fp (es.set i v)with
                    |some es'=>.ok ⟨none,[(k,some (.row sz es'))],ae x++ae y,[k]⟩
                    |none=>.no
                  |false=>.no
              |false=>.no
            |none=>.no
          |none=>.no
        |_=>.no
    |none=>.no
  |_=>.no
theorem Sr{e:AV}(h:∀cs,e≠.agg cs):e.cells=[e]:=by
 cases e <;> first |rfl |exact aa8 rfl (h _)
theorem LD{s:AS}{R:Array Oper}{x y:abb}{T t:abd}{u:Out}{pos:String}{after:Array Edge}(h:x9 P s T x y=.ok u) :
  Step P N R s ⟨none,.store T x y,t,pos,after,none⟩ u:=by
 unfold x9 at h;split at h
 ·rename_i k sz i off hx;split at h
  ·rename_i v hy;split at h
   ·cases h
   ·rename_i hnm;split at h
    ·rename_i sz' es hb;split at h
     ·rename_i e he;split at h
      ·rename_i ti hT;split at h
       ·rename_i hc;simp only[ZW]at hc;obtain⟨⟨⟨c1,c2⟩,c3⟩,c4⟩:=hc;cases ZT c1;split at h
        ·rename_i cs;split at h
         ·rename_i l hl;split at h
          ·rename_i es' ci;cases h;cases gm hl;cases gm ci;exact gN (aY hx) hb he (aY hy) c2 hnm (a8 hT) c3 c4 rfl
          ·cases h
         ·cases h
        ·rename_i az;split at h
         ·rename_i hg;simp only[ZW]at hg;split at h
          ·rename_i es' ci;cases h;cases gm ci;cases ZT hg.1;refine gN (aY hx) hb he (aY hy) c2 hnm (a8 hT) c3 c4 ?_;rw[Sr az];have:=ZT hg.2;simp[over,this]
          ·cases h
         ·cases h
       ·cases h
      ·cases h
     ·cases h
    ·cases h
  ·cases h
 ·cases h
def wQ(P:abe)[Inhabited (Tys P)](d:Nat)(T:abd)(n:Int)(rt:List Nat):OR:=match bm P T with
  |some ti=>match ti.k with
    | .slice E=>match bm P E with
      |some te=>match te.zero.all Value.oneCell'&&(XK te.zero.length te.size&&XU 0 te.size&&XU 0 te.bytes&&(te.ag||XK te.size 1))with
        |true=>match n with
          | .ofNat n=>match Nat.ble (n*te.bytes) 281474976710656 with
            |true=>match fp (YO n (ik te.ag (te.zero.map .v)))with
              |some l=>.ok ⟨some (.ms d te.size 0 n),[(d,some (.row te.size l))],rt,[]⟩
              |none=>.no
            |false=>.no
          | .negSucc _=>.no
        |false=>.no
      |none=>.no
    |_=>.no
  |none=>.no
theorem Uw{s:AS}{R:Array Oper}{d:Nat}{x:abb}{T t:abd}{n:Int}{u:Out}{pos:String}{after:Array Edge}(hx:Ev s x (.v (.int .i64 n)))(h:wQ P d T n (ae x)=.ok u)(hN:XU d N=true) :
  Step P N R s ⟨some d,.makeSlice T x x,t,pos,after,none⟩ u:=by
 unfold wQ at h;split at h
 ·rename_i ti hT;split at h
  ·rename_i E hk;split at h
   ·rename_i te hE;split at h
    ·rename_i hc;rw[ZW]at hc;split at h
     ·rename_i n;split at h
      ·rename_i hb;rw[XS]at hb;split at h
       ·rename_i l hl;cases h;cases gm hl;exact fW (n:=Int.ofNat n) hx (a8 hT) hk (a8 hE) hc.1 hc.2 (Y3 _) (by simp only[Y9];omega) hN
       ·cases h
      ·cases h
     ·cases h
    ·cases h
   ·cases h
  ·cases h
 ·cases h
theorem Pa{P:abe}{N:Nat}{s:AS}{R:Array Oper}{d f:Nat}{g:abb}{args:Array abb}{ts:Array abd}{xs:List AV}{H H':Hp}{r:AV}{t:abd}{pos:String}{after:Array Edge}
  (hg:Ev s g (.v (.func (.func f) #[] #[]))) (cj:Con P f xs H r H') (ha:EvL s args.toList xs) (hH:∀k z,lk H k=some z->s.blk k=some z) (bc:eL s H H' r=true) (hN:XU d N=true) :
  Step P N R s ⟨some d,.call ⟨.value g,args,ts⟩,t,pos,after,none⟩ ⟨some r,H'++cr H,ae g++bO args.toList,H.map (·.1)⟩ :=
 qi rfl (fun d' h => by cases h; exact ⟨hN, rfl⟩) cj hH bc fun s' aj C m a w hr => by
  have js:fQ s s' ⟨none,[],ae g++bO args.toList,[]⟩:=⟨aj,fun k hk=>by cases hk⟩
  have ha':=ha.agree js (fun _ h=>ZY.2 (.inr h));have eP:=(hg.agree js (fun _ h=>ZY.2 (.inl h))).rep hr;generalize hv:a.eval g=u at eP;cases eP;refine⟨args.map a.eval,HG (caps:=#[]) rfl hv cj.ok (by simp),?_,?_⟩
  ·have:=ha'.length;simpa using this
  ·intro j v x hv hx;exact ha'.rep hr j v x (by simpa using hv) hx
def y5:abb->abb->Bool
  | .tmp a,.tmp b=>XK a b
  | .const (.int k a),.const (.int k' b)=>XK (cN k) (cN k')&&aa .eql a b
  |_,_=>false
theorem ON{x y:abb}(h:y5 x y=true):y=x:=by
 unfold y5 at h;split at h
 ·rw[ZT h]
 ·rename_i k a k' b;simp only[ZW]at h;rw[ky h.1,eq_of_beq (show(a==b)=true from h.2)]
 ·cases h
def x6(P:abe)[Inhabited (Tys P)](s:AS)(d:Nat)(T n:Nat)(parts:Array (Nat×abb)):Option Out:=match bm P T with
  |some ti=>match ti.k with
    | .slice E=>match bm P E with
      |some te=>match te.k with
        | .slice _=>match nD s (parts.toList.map (·.2))with
          |some es=>match qq 0 parts.toList&&te.zero.all Value.oneCell'&&XK te.zero.length te.size&&(es.all fun e=>XK e.cells.length te.size&&e.ok) &&
              sZ (AV.nms es)&&XK n es.length&&Nat.ble (n*te.size) 16777216&&Nat.ble n 16777216 with
            |true=>some ⟨some (.ms d te.size 0 n),[(d,some (.row te.size es))],bO (parts.toList.map (·.2)),[]⟩
            |false=>none
          |none=>none
        |_=>none
      |none=>none
    |_=>none
  |none=>none
theorem JU{P:abe}[Inhabited (Tys P)]{N:Nat}{s:AS}{R:Array Oper}{d T n:Nat}{parts:Array (Nat×abb)}{u:Out}{t:abd}{pos:String}{after:Array Edge}(h:x6 P s d T n parts=some u)(hN:XU d N=true) :
  Step P N R s ⟨some d,.buildSlice T n parts,t,pos,after,none⟩ u:=by
 unfold x6 at h;split at h
 ·rename_i ti bj;split at h
  ·rename_i E hk;split at h
   ·rename_i te su;split at h
    ·split at h
     ·rename_i es h1;split at h
      ·rename_i hc;cases h;simp only[ZW]at hc;obtain⟨⟨⟨⟨⟨⟨⟨c1,c2⟩,c3⟩,c4⟩,c5⟩,c6⟩,c7⟩,c8⟩:=hc;exact L7 (by rw[<- yW c1]) (ni h1) (a8 bj) hk (a8 su) c2 c3 (by simpa only[ZW]using c4) (EQ c5) (ZT c6) c7 c8 hN
      ·cases h
     ·cases h
    ·cases h
   ·cases h
  ·cases h
 ·cases h
def sV(E:Env P)(F:ey)(av:List Nat)(s:AS)(d:Nat)(op:Op):OR:=match op with
  | .call c=>match c with
    |⟨.value g,args,ts⟩=>match nD s args.toList with
      |some xs=>match g with
        | .func f=>match mQ E F s av f xs with
          | .ok H r H'=>match eL s H H' r with
            |true=>.ok ⟨some r,d8 H [] (H'++cr H),bO args.toList,H.map (·.1)⟩
            |false=>.no
          | .need k=>.need k
          | .no=>.no
        |g=>match bM s g with
          |some (.fn f caps)=>match mQ E F s av f (xs++caps)with
            | .ok H r H'=>match eL s H H' r with
              |true=>.ok ⟨some r,d8 H [] (H'++cr H),ae g++bO args.toList,H.map (·.1)⟩
              |false=>.no
            | .need k=>.need k
            | .no=>.no
          |some (.v (.func (.func f) ⟨[]⟩ ⟨[]⟩))=>match mQ E F s av f xs with
            | .ok H r H'=>match eL s H H' r with
              |true=>.ok ⟨some r,d8 H [] (H'++cr H),ae g++bO args.toList,H.map (·.1)⟩
              |false=>.no
            | .need k=>.need k
            | .no=>.no
          |some (.cl f pre caps)=>match mQ E F s av f (pre++xs++caps)with
            | .ok H r H'=>match eL s H H' r with
              |true=>.ok ⟨some r,d8 H [] (H'++cr H),ae g++bO args.toList,H.map (·.1)⟩
              |false=>.no
            | .need k=>.need k
            | .no=>.no
          |_=>.no
      |none=>.no
    |⟨.builtin .append,args,ts⟩=>match args.toList with
      |[x,y]=>match ts.toList with
        |[T,T']=>match XK T T' with
          |true=>wH P s d x y T
          |false=>.no
        |_=>.no
      |_=>.no
    |c=>match rC P s (.call c)with
      |some r=>.ok ⟨some r.x,[],r.rt,r.rd⟩
      |none=>.no
  | .makeSlice T x y=>match y5 x y with
    |true=>match bM s x with
      |some (.v (.int .i64 n))=>wQ P d T n (ae x)
      |_=>.no
    |false=>.no
  | .slice T x none (some (.const (.int k1 (.ofNat 0)))) (some (.const (.int k2 (.ofNat 0))))=>match bM s x with
    |some (.lst sz es)=>match mT P T sz with
      |true=>.ok ⟨some (.ms d sz 0 0),[(d,some (.row sz []))],ae x,[]⟩
      |false=>.no
    |_=>.no
  | .buildSlice T n parts=>match n with
    |0=>match parts.toList with
      |[]=>match bm P T with
        |some ti=>match ti.k with
          | .slice E=>match bm P E with
            |some te=>match te.zero.all Value.oneCell'&&XK te.zero.length te.size with
              |true=>.ok ⟨some (.ms d te.size 0 0),[(d,some (.row te.size []))],[],[]⟩
              |false=>.no
            |none=>.no
          |_=>.no
        |none=>.no
      |_=>.no
    |n+1=>match rC P s (.buildSlice T (n+1) parts)with
      |some r=>.ok ⟨some r.x,[],r.rt,r.rd⟩
      |none=>match x6 P s d T (n+1) parts with
       |some u=>.ok u
       |none=>match nD s (parts.toList.map (·.2))with
        |some xs=>match AV.nms xs with
          |k::_=>.need k
          |[]=>.no
        |none=>.no
  |op=>match rC P s op with
    |some r=>.ok ⟨some r.x,[],r.rt,r.rd⟩
    |none=>match ta P s d op with
      |some r=>match r.2 with
        |[]=>.ok r.1
        |_=>.no
      |none=>.no
theorem GV{E:Env P}{F:ey}(hF:F.Ok P){av:List Nat}{s:AS}{R:Array Oper}{d:Nat}{op:Op}{u:Out}{t:abd}{pos:String}{after:Array Edge}(h:sV E F av s d op=.ok u)(hN:XU d N=true) :
  Step P N R s ⟨some d,op,t,pos,after,none⟩ u:=by
 unfold sV at h;split at h
 ·split at h
  ·rename_i g args ts;split at h
   ·rename_i xs kj;split at h
    ·rename_i f;split at h
     ·rename_i H r H' hc;split at h
      ·rename_i bc;cases h;obtain⟨h1,h2⟩:=rE hF hc;exact rh h2 (bF h1 (ni kj) h2 bc hN)
      ·cases h
     ·cases h
     ·cases h
    ·split at h
     ·rename_i f caps hg;split at h
      ·rename_i H r H' hc;split at h
       ·rename_i bc;cases h;obtain⟨h1,h2⟩:=rE hF hc;exact rh h2 (MG (aY hg) h1 (ni kj) h2 bc hN)
       ·cases h
      ·cases h
      ·cases h
     ·rename_i f hg;split at h
      ·rename_i H r H' hc;split at h
       ·rename_i bc;cases h;obtain⟨h1,h2⟩:=rE hF hc;exact rh h2 (Pa (aY hg) h1 (ni kj) h2 bc hN)
       ·cases h
      ·cases h
      ·cases h
     ·rename_i f pre caps hg;split at h
      ·rename_i H r H' hc;split at h
       ·rename_i bc;cases h;obtain⟨h1,h2⟩:=rE hF hc;exact rh h2 (Fq (aY hg) h1 (ni kj) h2 bc hN)
       ·cases h
      ·cases h
      ·cases h
     ·cases h
   ·cases h
  ·rename_i args ts;split at h
   ·rename_i x y hx;split at h
    ·rename_i T T' hT;split at h
     ·rename_i Wl;cases ZT Wl;have e1:args = #[x,y]:=by apply ZL.1; simpa using hx
      have e2:ts=#[T,T]:=by apply ZL.1;simpa using hT
      subst e1;subst e2
      exact P9 h hN
     ·cases h
    ·cases h
   ·cases h
  ·split at h
   ·rename_i h1;cases h;exact yY h1 hN
   ·cases h
 ·split at h
  ·rename_i he;cases ON he;split at h
   ·rename_i hx;exact Uw (aY hx) h hN
   ·cases h
  ·cases h
 ·split at h
  ·rename_i hx;split at h
   ·rename_i hs;obtain⟨ti,E,te,h1,h2,h3,h4⟩:=qD hs;cases h;exact N8 (aY hx) h1 h2 h3 h4 hN
   ·cases h
  ·cases h
 ·rename_i T n parts;split at h
  ·split at h
   ·rename_i hp;have:parts = #[]:=by apply ZL.1; simpa using hp
    subst this;split at h
    ·rename_i ti hT;split at h
     ·rename_i E hk;split at h
      ·rename_i te hE;split at h
       ·rename_i hc;rw[ZW]at hc;cases h;exact kP (a8 hT) hk (a8 hE) hc.1 hc.2 hN
       ·cases h
      ·cases h
     ·cases h
    ·cases h
   ·cases h
  ·split at h
   ·rename_i h1;cases h;exact yY h1 hN
   ·split at h
    ·rename_i h1;cases h;exact JU h1 hN
    ·split at h
     ·split at h <;> cases h
     ·cases h
 ·split at h
  ·rename_i h1;cases h;exact yY h1 hN
  ·split at h
   ·rename_i h1;split at h
    ·rename_i ho;cases h;exact HV h1 (by rw[ho];exact .nil) hN
    ·cases h
   ·cases h
def xK(E:Env P)(F:ey)(av:List Nat)(s:AS)(op:Op):OR:=match op with
  | .call c=>match c with
    |⟨.value (.func f),args,ts⟩=>match nD s args.toList with
      |some xs=>match mQ E F s av f xs with
        | .ok H r H'=>match eL s H H' r with
          |true=>.ok ⟨none,d8 H [] (H'++cr H),bO args.toList,H.map (·.1)⟩
          |false=>.no
        | .need k=>.need k
        | .no=>.no
      |none=>.no
    |_=>.no
  | .store T x y=>match tK P s (.store T x y)with
    |some r=>match r.2 with
      |[]=>.ok r.1
      |_=>.no
    |none=>x9 P s T x y
  |_=>.no
theorem PV{E:Env P}{F:ey}(hF:F.Ok P){av:List Nat}{s:AS}{R:Array Oper}{op:Op}{u:Out}{t:abd}{pos:String}{after:Array Edge}(h:xK E F av s op=.ok u) :
  Step P N R s ⟨none,op,t,pos,after,none⟩ u:=by
 unfold xK at h;split at h
 ·split at h
  ·rename_i f args ts;split at h
   ·rename_i xs kj;split at h
    ·rename_i H r H' hc;split at h
     ·rename_i bc;cases h;obtain⟨h1,h2⟩:=rE hF hc;exact rh h2 (OY h1 (ni kj) h2 bc)
     ·cases h
    ·cases h
    ·cases h
   ·cases h
  ·cases h
 ·split at h
  ·rename_i h1;split at h
   ·rename_i ho;cases h;exact B9 h1 (by rw[ho];exact .nil)
   ·cases h
  ·exact LD h
 ·cases h
theorem Step.sub{P:abe}{N:Nat}{R:Array Oper}{s:AS}{o:Oper}{x y:AV}{upd:Hp}{rt rd:List Nat}(h:Step P N R s o ⟨some x,upd,rt,rd⟩)(hs:Sub x y):Step P N R s o ⟨some y,upd,rt,rd⟩:=by
 refine⟨fun s' aj ba C m a w Q next hC hr hnext=>h.run s' aj ba C m a w Q next hC hr (fun m' a' w' hr'=>hnext m' a' w' ?_)⟩;refine hr'.weak (fun t z hz=>?_) (fun k z hz=>⟨z,hz,.refl _⟩);rw[eK]at hz;split at hz
 ·rename_i ht;cases hz;exact⟨x,by rw[eK,aa2 ht],hs⟩
 ·rename_i ht;exact⟨z,by rw[eK,aa1 ht];exact hz,.refl _⟩
theorem Sub.opt_true(x:AV):Sub (.opt true x) x:=fun g S m v h=>by cases h with |opt h _=>exact h rfl
theorem zI(f:AV->AV)(k:Nat):∀l:Hp,(dp f k l).map (·.1)=l.map (·.1)
 |[]=>rfl
 |(k',x)::l=>by simp only[dp,aaz,zI f k l]
theorem Kd{P:abe}{N:Nat}{R:Array Oper}{s:AS}{o:Oper}{d:Nat}{x:AV}{upd:Hp}{rt rd:List Nat}{k sz:Nat}{es:List AV}(hd:o.dst=some d)(hk:lk upd k=some (.row sz es))(r6:k∉rd)
  (h:Step P N R s o ⟨some x,upd,rt,rd⟩):Step P N R s o ⟨some (x.fz k sz es),dp (AV.fz k sz es) k upd,rt,rd⟩:=by
 refine⟨fun s' aj ba C m a w Q next hC hr hnext=>?_⟩;have sm:iI s' ⟨some x,upd,rt,rd⟩:=fun k' hk'=>ba k' (by rw[zI];exact hk')
 have hfr:s'.Fresh k:=by
  rcases sm k (g7 hk)with h |h
  ·exact aa8 h r6
  ·exact h
 refine h.run s' aj sm C m a w Q next hC hr (fun m' a' w' hr'=>?_);rw[hd]at hr'
 have de:(s'.app (some d) ⟨some x,upd,rt,rd⟩).blk k=some (.row sz es):=by
  show lk (upd++s'.hp) k=_;rw[iD,aa2 (g7 hk),hk]
 obtain⟨m2,cP⟩:=Wk.freeze de C m' a' w' hr';refine hnext m2 a' w' ?_;rw[hd];refine cP.congr ?_ ?_
 ·intro t;simp only[AS.get,mN,AS.app,aq];split
  ·rfl
  ·cases hx:lk s'.sl t with
   |none=>rfl
   |some y=>simp only[ZP];rw[AV.fz_id _ _ _ _ (hfr.2.2.1 t y hx)]
 ·intro k';simp only[AS.blk,AS.app];rw[jQ,iD,iD,zI,jQ]
  by_cases h1:k'=k
  ·subst h1;rw[aa2 rfl,aa2 (g7 hk),aa2 rfl]
  ·rw[aa1 h1,aa1 h1];split
   ·rfl
   ·cases hx:lk s'.hp k' with
    |none=>rfl
    |some y=>simp only[ZP];rw[Ce (hfr.2.2.2 k' y hx)]
def mO:List Nat->Out->Out
  |[],u=>u
  |k::ks,u=>match u.val with
    |some x=>match lk u.upd k with
      |some (.row sz es)=>match gS k u.rd with
        |false=>mO ks ⟨some (x.fz k sz es),dp (AV.fz k sz es) k u.upd,u.rt,u.rd⟩
        |true=>mO ks u
      |_=>mO ks u
    |none=>u
theorem qX{P:abe}{N:Nat}{R:Array Oper}{s:AS}{o:Oper}{d:Nat}(hd:o.dst=some d):∀{ks:List Nat}{u:Out},Step P N R s o u->Step P N R s o (mO ks u)
 |[],u,h=>h
 |k::ks,u,h=>by
  unfold mO;split
  ·rename_i x hx;split
   ·rename_i sz es hk;split
    ·rename_i hm;refine qX hd ?_;obtain⟨val,upd,rt,rd⟩:=u;simp only at hx hk hm;subst hx;exact Kd hd hk (fun hh=>by rw[kY.2 hh]at hm;cases hm) h
    ·exact qX hd h
   ·exact qX hd h
  ·exact h
def yu(E:Env P)(F:ey)(av fz:List Nat)(N:Nat)(R:List Oper)(s:AS)(o:Oper):OR:=match o.guard with
  |none=>match o.dst with
    |some d=>match XU d N with
      |true=>match sV E F av s d o.op with
        | .ok u=>.ok (mO fz u)
        |r=>r
      |false=>.no
    |none=>xK E F av s o.op
  |some (j,want)=>match R[j]? with
    |some og=>match og.dst with
      |some g=>match o.dst with
        |some d=>match XU d N with
          |true=>match s.get g with
            |some (.v (.bool b))=>match b==want with
              |true=>match sV E F av s d o.op with
                | .ok u=>match(mO fz u)with
                  |⟨some x,upd,rt,rd⟩=>.ok ⟨some x,upd,g::rt,rd⟩
                  |⟨none,_,_,_⟩=>.no
                |r=>r
              |false=>.ok ⟨some (.opt false (.v (.bool false))),[],[g],[]⟩
            |some (.opt false (.v (.bool b)))=>.ok ⟨some (.opt false (.v (.bool false))),[],[g],[]⟩
            |_=>.no
          |false=>.no
        |none=>.no
      |none=>.no
    |none=>.no
theorem MQ{E:Env P}{F:ey}(hF:F.Ok P){av fz:List Nat}{R:List Oper}{s:AS}{o:Oper}{u:Out}(h:yu E F av fz N R s o=.ok u):Step P N R.toArray s o u:=by
 obtain⟨dst,op,ty,pos,after,guard⟩:=o;unfold yu at h;simp only at h;split at h
 ·split at h
  ·split at h
   ·rename_i hN;split at h
    ·rename_i u' h1;cases h;exact qX rfl (GV hF h1 hN)
    ·rename_i fY;exact aa8 h (fY u)
   ·cases h
  ·exact PV hF h
 ·rename_i j want;split at h
  ·rename_i og sw;split at h
   ·rename_i g hg;split at h
    ·rename_i d;split at h
     ·rename_i hN;have hj:(R.toArray[j]?).bind (·.dst) = some g:=by simp [sw,hg]
      split at h
      ·rename_i b hb;split at h
       ·rename_i hw;split at h
        ·rename_i u' h1;have hs:=qX (ks:=fz) rfl (GV (R:=R.toArray) (t:=ty) (pos:=pos) (after:=after) hF h1 hN);split at h
         ·rename_i x upd rt rd hx;cases h;rw[hx]at hs;have h2:=Dx (want:=want) hj hb hN (fun az=>aa8 (eq_of_beq hw) az) (fun _=>hs);rw[hw]at h2;exact h2.sub (.opt_true x)
         ·cases h
        ·rename_i fY;exact aa8 h (fY u)
       ·rename_i hw;cases h;have h2:=bB (P:=P) (op:=op) (t:=ty) (pos:=pos) (after:=after) (want:=want) (x:=.v (.bool false)) (rt:=[]) (rd:=[]) hj hb hN (fun e=>by rw[e]at hw;simp at hw);rw[hw]at h2;exact h2
      ·rename_i b hb;cases h;exact nF (P:=P) (op:=op) (t:=ty) (pos:=pos) (after:=after) (want:=want) (x:=.v (.bool false)) (rt:=[]) (rd:=[]) hj hb hN (fun e=>by cases e)
      ·cases h
     ·cases h
    ·cases h
   ·cases h
  ·cases h
end Go.Lw
