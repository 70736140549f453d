/- LimitsExists: for any linkage and any turn the law returns true and leaves its arguments as they were. No other condition. Part 5 of 8: what the later parts need -/
import Derived.Test.YtmencaoblogmeaaGreatYd
import Derived.Laws.Cover3
set_option linter.unusedVariables false
open List (all_cons nil_append map_map drop_length)
open List renaming mem_of_getElem? → ah3, mem_cons_of_mem → ait, mem_append → aia, map_cons → ajd, mem_cons → aiq, length_cons → aij, mem_cons_self → ai2, length_append → ai0, length_nil → aiv, getD_eq_getElem?_getD → ah4, getElem?_append_left → ais, all_eq_true → aif, getElem?_take → ai1, getElem?_drop → ai5, getElem?_map → aib, getElem?_append_right → ain, getElem?_eq_getElem → ah9, getElem?_replicate → aix, map_append → ai4, length_take → air, take_of_length_le → aio, drop_zero → ai9, take_length → ail, not_mem_nil → aim, length_map → ah6, length_replicate → aiu, map_replicate → ai7, map_set → aja, length_set → aje, drop_eq_getElem_cons → afk, getElem?_eq_some_iff → afl, mem_singleton → afr, range_succ → aft, mem_of_mem_drop → afu, replicate → afv, mem_range → afy, eq_of_mem_replicate → afz, mem_map → af0, foldl_cons → af1, mem_or_eq_of_mem_set → af6, length_eq_zero_iff → af7, length_eq_one_iff → af8, length_drop → agd, contains_iff_mem → age, mem_of_mem_take → agi, cons_append → agj
open Nat renaming eq_of_beq_eq_true → ah5, le_refl → aie, lt_of_lt_of_le → aip, lt_or_ge → aid, le_trans → aiw, zero_le → aii, pow_add → ai8, blt_eq → ad5, two_pow_pos → aed, add_sub_cancel → aef, blt → aek, mul_pos → aem, mul_le_mul → aeu, mul_comm → aey, add_zero → ae4, pow_succ → ae5, pow_le_pow_right → ae6, zero_add → ae9, beq → afe, pow_lt_pow_right → aff
open Option renaming map_eq_some_iff → ah8, getD_some → ah0, map_some → ah1
open Bool renaming and_eq_true → ah7, or_eq_true → ajb, not_true → aha, eq_false_iff → ahb, not_eq_false' → ahc, and_false → ahd, eq_iff_iff → ahf, not_eq_true' → ahh, false_eq_true → ahi
open Array renaming getD_eq_getD_getElem? → aic, getElem?_eq_getElem → ahm, getElem?_eq_none → ahp, getElem?_toList → ahz
open Int renaming toNat_natCast → ai6, natAbs_mul → agr
open Rat renaming mul_eq_zero → ag3, intCast_eq_zero_iff → ag6, intCast_mul → ag8
open Decidable renaming not_not → ah2
open Go renaming Operand → ajp, Value → ajq, TypeId → ajr, Program → ajs, World → ajt
open Go.Result renaming andThen_ok → aju
open Go.Sem renaming run_bind → ajv, run_pure → ajw
open Go.Proofs.Tryz
namespace Go.Lw
def T.inv(r:(k:Nat)->T k):(k:Nat)->T k->T k
  |0,q=>(1:Rat)/q
  |k+1,x =>
    if T.isZ k x.2=true then(T.inv r k x.1,T.zero k)
    else if T.sgn r k (T.norm r k x)=0 then(T.inv r k (T.add k x.1 x.1),T.zero k)
    else(T.mul r k x.1 (T.inv r k (T.norm r k x)),T.mul r k (T.neg k x.2) (T.inv r k (T.norm r k x)))
theorem T.inv_low(r:(k:Nat)->T k)(k:Nat)(x:T k):T.inv r (k+1) (x,T.zero k)=(T.inv r k x,T.zero k):=by
 have h:=(T.isZ_iff k (T.zero k)).2 rfl
 conv=>lhs;unfold T.inv
 simp only[ajg h]
theorem AI(r:(k:Nat)->T k){i j:Nat}{s L:List Rat}(hs:s.length<=2^i)(hL:L.length<=2^i)(h:ao i L=T.inv r i (ao i s))(dL:i<=j):ao j L=T.inv r j (ao j s):=by
  induction j with
  | zero => have : i = 0 := by omega
            subst this;exact h
  |succ j ih =>
    by_cases h':i=j+1
    · rw[<- h'];exact h
    · rw[kO (aiw hs (ef oz)),kO (aiw hL (ef oz)),T.inv_low,ih oz]
def iB(r:Nat):Nat->Nat->Nat
  |0,e=>e
  |j+1,e=>e+iB r j (4*e+3*eB r j+r+1)+eB r (j+1)
theorem KE(r:Nat):∀j e,e<=iB r j e
 |0,e=>aie _
 |j+1,e=>by simp only[iB];omega
theorem Af(r:Nat):∀j {e f:Nat},e<=f->iB r j e<=iB r j f
 |0,e,f,h=>h
 |j+1,e,f,h=>by
  have:=Af r j (e:=4*e+3*eB r j+r+1) (f:=4*f+3*eB r j+r+1) oz;simp only[iB];omega
theorem X3(r j e:Nat):iB r j e<=iB r (j+1) e:=by
 have:=Af r j (e:=e) (f:=4*e+3*eB r j+r+1) oz;simp only[iB];omega
theorem BZ(r e:Nat){i j:Nat}(h:i<=j):iB r i e<=iB r j e:=by
  induction j with
  | zero => have : i = 0 := by omega
            subst this;exact aie _
  |succ j ih =>
    by_cases dL:i=j+1
    · rw[dL];exact aie _
    · exact aiw (ih oz) (X3 r j e)
theorem WM{r:(k:Nat)->T k}{n:Nat}(h:Sg (E r n) (sg r n))(hd:0<=sg r n (a9 r n)){x y:E r n}(hz:sg r (n+1) (dF x y)≠0)(hN:sg r n (aH x y)=0):sg r n (x+x)≠0:=by
 have hx:sg r n x≠0:=by
  intro hx;rw[mj,hN,hx]at hz;have h1:sg r n (x*x)=0:=by rw[h.mul,hx];simp
  have h2:=h.zadd (y:=-(y*y*a9 r n)) h1;unfold aH at hN;rw[h2,h.neg,h.mul,h.mul]at hN;unfold T.sgn3 at hz;have c1:=h.cs y;have c2:=h.cs (a9 r n);rcases c1 with e |e |e <;> rcases c2 with e' |e' |e' <;> rw[e,e']at hN <;> rw[e,e']at hz <;> first |omega |(simp at hz) |(simp at hN)
 rcases h.cs x with e |e |e
 ·have := h.padd (x := -x) (y := -x) (by rw[h.neg,e];rfl) (by rw[h.neg,e];decide);rw[show -x+-x=-(x+x) by grind,h.neg]at this;omega
 ·exact ajm e hx
 ·have:=h.padd (x:=x) (y:=x) e oz;omega
theorem Cb.inv1{e:Nat}{q:Rat}(h:Cb e [q])(hq:q≠0):Cb e [(1:Rat)/q]:=by
 obtain⟨D,N,⟨h0,h1⟩,h2,h3⟩:=h;obtain⟨n,hn,hl⟩:=h1 q (by simp)
 have hD:((D:Int):Rat)≠0:=by
  intro h9;have:(D:Int)=0:=ag6.1 h9;omega
 have gT:n≠0:=by
  rintro rfl;rw[show((0:Int):Rat)=0 from rfl]at hn;rcases ag3.1 hn with h9 |h9
  ·exact hq h9
  ·exact hD h9
 have hnq:((n:Int):Rat)≠0:=fun h9=>gT (ag6.1 h9)
 refine⟨n.natAbs,D,⟨by omega,?_⟩,aiw hl h3,h2⟩;intro x hx;rw[afr.1 hx];have key:(1:Rat)/q*(n:Rat)=((D:Int):Rat):=by rw[<- hn];grind
 rcases Int.natAbs_eq n with e9 |e9
 ·refine⟨D,?_,by simp⟩;rw[<- e9];exact key
 ·refine ⟨-(D : Int), ?_, by simp⟩;rw [Rat.intCast_neg,<- key]
  conv=>rhs;rw[e9]
  rw[Rat.intCast_neg];grind
theorem Mh{e n:Nat}{s:List Rat}(h:Cb e s):Cb e (fS (s.take n) (fw (s.drop n)) n):=by
 obtain⟨D,N,h1,h2,h3⟩:=h;exact⟨D,N,(h1.sub (fun q hq=>agi hq)).join (h1.sub (fun q hq=>afu hq)).minus,h2,h3⟩
theorem LU:∀{j i:Nat}{x:T j},(sh j x).length=2^(i+1)->i+1<=j->T.isZ i (ao i ((sh j x).drop (2^i)))=false
 |0,i,x,_,h=>by omega
 |j+1,i,x,hl,h=>by
  cases hz:T.isZ j x.2
  ·have h1:=X7 hz;rw[h1]at hl
   have e:i=j:=by
    rcases Nat.lt_trichotomy i j with h9 |h9 |h9
    ·have := aff (a := 2) oz (show i+1<j+1 by omega);omega
    ·exact h9
    ·omega
   subst e;have h2:ao (i+1) (sh (i+1) x)=x:=dY (i+1) x;have h3:ao i ((sh (i+1) x).drop (2^i))=x.2:=ajn Prod.snd h2;rw[h3];exact hz
  ·have h1:sh (j+1) x=sh j x.1:=by
    conv=>lhs;unfold sh
    rw[ajg hz]
   rw[h1]at hl ⊢;have h2:=(iI j x.1).le
   have h3:i+1<=j:=by
    rcases aid j (i+1)with h9 |h9
    ·have:=aff (a:=2) oz h9;omega
    ·exact h9
   exact LU hl h3
theorem Vp(r:(k:Nat)->T k){i:Nat}{x:T (i+1)}(hz:T.isZ i x.2=false)(h0:T.sgn r i (T.norm r i x)=0):T.inv r (i+1) x=(T.inv r i (T.add i x.1 x.1),T.zero i):=by
 conv=>lhs;unfold T.inv
 rw[ajf (by rw[hz];decide),ajg h0]
theorem UN(r:(k:Nat)->T k){i:Nat}{x:T (i+1)}(hz:T.isZ i x.2=false)(h0:T.sgn r i (T.norm r i x)≠0) :
  T.inv r (i+1) x=(T.mul r i x.1 (T.inv r i (T.norm r i x)),T.mul r i (T.neg i x.2) (T.inv r i (T.norm r i x))):=by
 conv=>lhs;unfold T.inv
 rw[ajf (by rw[hz];decide),ajf h0]
theorem mul_low(r:(k:Nat)->T k)(i:Nat)(x y w:T i):T.mul r (i+1) (x,y) (w,T.zero i)=(T.mul r i x w,T.mul r i y w):=by
 show(T.add i (T.mul r i x w) (T.mul r i (T.mul r i y (T.zero i)) (r i)),T.add i (T.mul r i x (T.zero i)) (T.mul r i y w))=_;rw[T.mul_zero,T.zero_mul,T.mul_zero,T.add_zero,T.zero_add]
open Go.Proofs
theorem ST{ts:LL}{j e:Nat}{a:List Rat}{q:Rat}(h5:j<=5)(ha:Nl j a)(ca:Cb e a)(he:e<4398046511104)(hs:sh j (ao j a)=[q])(hq:q≠0) :
  FP 339 [jS ts,nA a] (nA [1/q]):=by
 have qa:∀q∈a,Qs q:=fun q hq=>ca.qs he hq
 have cs:=ca.sh ha;rw[hs]at cs;have qq:Qs q:=cs.qs he (by simp);have lc:=AP a h5 ha qa;rw[hs]at lc;have m6:=GZ (rt 1) (rt q) (Qb.one.qs oz).ok qq.ok;rw[bH,bH,ajf hq]at m6;refine ak func339 ?_;refine gc lc ?_;refine gl ?_;refine gC (fun z=>?_) (fun z=>?_) (st2:=(77777,0))
 ·refine gc (pM 1 oz) ?_;refine gi rfl ?_;refine gc m6 ?_;refine gD ?_;refine ah ?_;rfl
 cases z
theorem Qy{ts:LL}{m r:Nat}(ht:nC ts m r)(hm:m<=5)(gP:m<=ts.length){j e i:Nat}{a s L:List Rat}(h5:j<=5)(ha:Nl j a)(ca:Cb e a)(he:4*e+3*eB r i+r+1<4398046511104)(hs:sh j (ao j a)=s)(hi:i+1<=m)
  (eC:s.length=2^(i+1)) (hb:sB r i (4*e+3*eB r i+r+1)<4398046511104) (h0:T.sgn (aD ts) i (ao i (i9 ts i s))=0)
  (hL:FP 339 [jS ts,nA (dS (s.take (2^i)) (s.take (2^i)))] (nA L)):FP 339 [jS ts,nA a] (nA L):=by
 have qa:∀q∈a,Qs q:=fun q hq=>ca.qs oz hq
 have cs:=ca.sh ha;have lc:=AP a h5 ha qa;rw[hs]at cs lc;have rY:=aed i;have uK:2^i<=32:=ef (b:=5) oz;have oa:2^(i+1)=2*2^i:=by rw[ae5];omega
 obtain⟨nn,dn,cn⟩:=zD ht oz eC cs;have k4:=LO ts m r ht hm gP i _ _ oz nn cn hb;have qs:∀q∈s.take (2^i),Qs q:=fun q hq=>cs.take.qs oz hq
 refine ak func339 ?_;refine gc lc ?_;refine gl ?_;refine gC (fun z=>?_) (fun z=>?_) (st1:=(3,0));exact ajm z (by simp only[aa,beq_iff_eq];omega);refine gl ?_;refine gs (lG (.tmp rfl) (.const _) oz (show _=((2^i:Nat):Int) by rw[qP oz,eC,mL]) rfl) ?_;refine gc (Dl ts m r ht hm gP i s e oz eC cs oz) ?_;refine gc k4 ?_;refine gC (fun z=>?_) (fun z=>?_) (st2:=(77777,0))
 ·refine gs (eF (.tmp rfl) (.none _) (.some _ (.tmp rfl) oz) T62 rfl T44 rfl oz (by simp only[ah6];omega) rfl) ?_;refine gs (eF (.tmp rfl) (.none _) (.some _ (.tmp rfl) oz) T62 rfl T44 rfl oz (by simp only[ah6];omega) rfl) ?_;refine gc (by have h9:=z8 _ _ qs qs (by simp;omega) (by simp;omega);rw[<- uw]at h9;exact h9) ?_;refine gc hL ?_;refine gD ?_;refine ah ?_;rfl
 exact ajm z (by rw[h0];decide)
theorem aa1{ts:LL}{m r:Nat}(ht:nC ts m r)(hm:m<=5)(gP:m<=ts.length){j e f i:Nat}{a s L:List Rat}(h5:j<=5)(ha:Nl j a)(ca:Cb e a)(he:4*e+3*eB r i+r+1<4398046511104)(hs:sh j (ao j a)=s)(hi:i+1<=m)
  (eC:s.length=2^(i+1)) (hb:sB r i (4*e+3*eB r i+r+1)<4398046511104) (h0:T.sgn (aD ts) i (ao i (i9 ts i s))≠0)
  (hL:FP 339 [jS ts,nA (i9 ts i s)] (nA L)) (nL:Nl i L) (cL:Cb f L) (hf:e+f+eB r (i+1)<4398046511104) :
  FP 339 [jS ts,nA a] (nA (pT ts (i+1) (fS (s.take (2^i)) (fw (s.drop (2^i))) (2^i)) L)):=by
 have qa:∀q∈a,Qs q:=fun q hq=>ca.qs oz hq
 have cs:=ca.sh ha;have lc:=AP a h5 ha qa;rw[hs]at cs lc;have rY:=aed i;have uK:2^i<=32:=ef (b:=5) oz;have oa:2^(i+1)=2*2^i:=by rw[ae5];omega
 obtain⟨nn,dn,cn⟩:=zD ht oz eC cs;have k4:=LO ts m r ht hm gP i _ _ oz nn cn hb;have qy:∀q∈s.drop (2^i),Qs q:=fun q hq=>cs.drop.qs oz hq
 have lx:(s.take (2^i)).length=2^i:=kN eC;have ly:(s.drop (2^i)).length=2^i:=lC eC;have nj:Nl (i+1) (fS (s.take (2^i)) (fw (s.drop (2^i))) (2^i)):=.inr ⟨i+1,aie _,by rw[tZ oz (by rw[lE];omega)];omega⟩;have cj:Cb e (fS (s.take (2^i)) (fw (s.drop (2^i))) (2^i)):=Mh cs;have bR:=zq ts m r ht hm gP (i+1) (i+1) _ _ e f hi (aie _) nj (nL.mono oz) cj cL hf;refine ak func339 ?_;refine gc lc ?_;refine gl ?_;refine gC (fun z=>?_) (fun z=>?_) (st1:=(3,0));exact ajm z (by simp only[aa,beq_iff_eq];omega);refine gl ?_;refine gs (lG (.tmp rfl) (.const _) oz (show _=((2^i:Nat):Int) by rw[qP oz,eC,mL]) rfl) ?_;refine gc (Dl ts m r ht hm gP i s e oz eC cs oz) ?_;refine gc k4 ?_;refine gC (fun z=>?_) (fun z=>?_) (st1:=(8,0));exact ajm z (by simp only[aa,beq_iff_eq];omega);refine gs (eF (.tmp rfl) (.none _) (.some _ (.tmp rfl) oz) T62 rfl T44 rfl oz (by simp only[ah6];omega) rfl) ?_;refine gs (eF (.tmp rfl) (.some _ (.tmp rfl) oz) (.none _) T62 rfl T44 rfl (by simp only[ah6];omega) oz rfl) ?_;refine gc (by have h9:=HV _ qy oz;rw[<- uQ]at h9;exact h9) ?_;refine gc (by have h9:=DK (s.take (2^i)) (fw (s.drop (2^i))) (2^i) oz (by rw[lE];omega) oz;rw[<- uw]at h9;exact h9) ?_;refine gc hL ?_;refine gc bR ?_;refine gD ?_;refine ah ?_;rfl
theorem Uq{ts:LL}{m r:Nat}(ht:nC ts m r)(hp:fT (aD ts) m)(hm:m<=5)(gP:m<=ts.length)(j:Nat):∀(a:List Rat)(e:Nat),j<=m->Nl j a->Cb e a->T.sgn (aD ts) j (ao j a)≠0 ->
  sB r j e<4398046511104->iB r j e<4398046511104->∃L,FP 339 [jS ts,nA a] (nA L)/\Nl j L/\Cb (iB r j e) L/\ao j L=T.inv (aD ts) j (ao j a):=by
 induction j using Nat.strongRecOn
 rename_i j ih;intro a e hj ha ca h0 hs hi;have hse:=vL r j e;have cs:=ca.sh ha;have xN:=iI j (ao j a);have ow:=dY j (ao j a);have bB:=KE r j e;obtain⟨s,qe⟩:∃s,sh j (ao j a)=s:=⟨_,rfl⟩
 rcases DQ xN with h |h |⟨i,dL,h⟩
 ·exfalso;have h1:=af7.1 h;rw[h1,oK]at ow;rw[<- ow,T.sgn_zero]at h0;exact h0 rfl
 ·obtain ⟨q, hq⟩:=af8.1 h;rw [hq,qw] at ow;rw [<- ow,T.sgn_ofQ] at h0;have q0:q ≠ 0:=by rintro rfl; exact h0 rfl
  refine⟨[1/q],ST oz ha ca oz hq q0,.inr ⟨0,by omega,rfl⟩,(Cb.inv1 (hq▸cs) q0).mono bB,?_⟩;rw[<- ow,<- qw j q];exact AI (aD ts) (i:=0) (s:=[q]) (L:=[1/q]) (by simp) (by simp) rfl oz
 ·have hz:=LU h dL;rw [qe] at h cs ow xN hz;obtain ⟨nn,dn,cn⟩:=zD ht oz h cs;have eC:s.length <= 2 ^ (i + 1):=by omega
  have b1:sB r i (4*e+3*eB r i+r+1)<=sB r j e:=zk r e dL;have b2:=vL r i (4*e+3*eB r i+r+1);have b3:iB r (i+1) e<=iB r j e:=BZ r e dL;have b4:iB r (i+1) e=e+iB r i (4*e+3*eB r i+r+1)+eB r (i+1):=rfl;have lx:(s.take (2^i)).length=2^i:=kN h;have ly:(s.drop (2^i)).length=2^i:=lC h;have uK:2^i<=2^(i+1):=ae6 oz oz;rw[<- ow]at h0 ⊢
  by_cases hN:T.sgn (aD ts) i (ao i (i9 ts i s))=0
  ·have hS:=pa (aD ts) i (fun k hk=>hp k oz)
   have hx:T.sgn (aD ts) i (ao i (dS (s.take (2^i)) (s.take (2^i))))≠0:=by
    rw[q8];rw[Aw (aD ts) eC dL]at h0;rw[dn]at hN;exact WM hS (hp i oz) (x:=ao i (s.take (2^i))) (y:=ao i (s.drop (2^i))) h0 hN
   have np:Nl i (dS (s.take (2^i)) (s.take (2^i))):=.inr ⟨i,aie _,by rw[gB];omega⟩;have b5:=v6 r i (e:=e+e+1) (f:=4*e+3*eB r i+r+1) oz;have b6:=Af r i (e:=e+e+1) (f:=4*e+3*eB r i+r+1) oz;obtain⟨L,k1,k2,k3,k4⟩:=ih i oz _ _ oz np (cs.take.plus cs.take) hx oz oz;refine⟨L,Qy ht hm gP oz ha ca oz qe oz h oz hN k1,k2.mono oz,k3.mono oz,?_⟩;refine AI (aD ts) (i:=i+1) eC (aiw k2.le uK) ?_ dL;rw[Vp (aD ts) hz (by rw[<- dn];exact hN),kO k2.le,k4,q8];rfl
  ·obtain⟨L,k1,k2,k3,k4⟩:=ih i oz _ _ oz nn cn hN oz oz;have nj:Nl (i+1) (fS (s.take (2^i)) (fw (s.drop (2^i))) (2^i)):=.inr ⟨i+1,aie _,by rw[tZ oz (by rw[lE];omega),ae5];omega⟩;have s1:=iY ts m ht.1 (i+1) (i+1) _ _ oz (aie _) nj (k2.mono oz);have c1:=Cb.mul ht (k:=i+1) (show i+1<=m by omega) (aie _) nj (k2.mono oz) (Mh cs) k3;refine⟨_,aa1 ht hm gP oz ha ca oz qe oz h oz hN k1 k2 k3 oz,s1.1.mono dL,c1.mono oz,?_⟩;refine AI (aD ts) (i:=i+1) eC s1.1.le ?_ dL;rw[UN (aD ts) hz (by rw[<- dn];exact hN),s1.2,Cl oz,kO k2.le,mul_low,y7,k4,dn];rfl
theorem Vh{ts:LL}{r f j:Nat}(tw:Tw ts r){b:List Rat}(hb:Nm ts.length f b)(hj:j<=ts.length)(nb:Nl j b)(h0:T.sgn (aD ts) ts.length (ao ts.length b)≠0)(hf:f<=lm ts.length)(hi:iB r j f<4398046511104) :
  ∃L,FP 339 [jS ts,nA b] (nA L)/\Nl ts.length L/\Cb (iB r j f) L/\ao ts.length L=T.inv (aD ts) ts.length (ao ts.length b):=by
 rw[Aw (aD ts) nb.le hj]at h0;obtain⟨L,k1,k2,k3,k4⟩:=Uq tw.ok tw.pos tw.five (aie _) j b f hj nb hb.cb h0 (XK hj tw.three tw.le hf) hi;exact⟨L,k1,k2.mono hj,k3,AI (aD ts) nb.le k2.le k4 hj⟩
def pJ(k:Nat):List Rat:=(afv (2^(k+1)) 0).set (2^k) 1
def bZ(ts:LL)(a:List Rat):LL:=ts++[bw a (2^ts.length)]
theorem RM(k:Nat):(pJ k).length=2^(k+1):=by simp[pJ]
abbrev dm(l:Li)(kw driven:List Bool)(r:List AV):List AV:=l.av.cells++(.lst 1 (kw.map bl) :: .lst 1 (driven.map bl)::r)
theorem V9(j:Jt)(b:Int):FP 382 [j.av,i64 b] (i64 (kD j b)):=by
 refine ak func382 ?_;refine gC (fun z=>?_) (fun z=>?_)
 ·have h1:b=j.a:=dZ z;refine ah ?_;unfold kD;rw[ajg h1]
 have h1:b≠j.a:=dw z;refine gC (fun z=>?_) (fun z=>?_)
 ·have h2:b=j.b:=dZ z;refine ah ?_;unfold kD;rw[ajf h1,ajg h2]
 have h2:b≠j.b:=dw z;refine ah ?_;unfold kD;rw[ajf h1,ajf h2];rfl
theorem Vz(j:Jt)(kind body:Int)(f:FuncId)(pre caps:List AV)(p:Int->Bool)(hp:0<=kD j body->FP f (pre++[i64 (kD j body)]++caps) (bl (p (kD j body)))) :
  FP 381 [j.av,.iptr [i64 body],.iptr [i64 kind],.iptr [.cl f pre caps]] (bl (Ak kind body p j)):=by
 refine ak func381 ?_;refine gc (V9 j body) ?_;refine bP (fun h=>(hp (abi h))) ?_;refine ah ?_;exact ajn bl XI
theorem RX(bs:List Jt)(hl:bs.length<=281474976710656)(f:FuncId)(pre caps:List AV)(ok:Nat->Bool)
  (hf:∀(i:Nat)(b:Jt),bs[i]?=some b->(∀j,j<i->ok j=true)->FP f (pre++[b.av]++caps) (bl (!ok i))) :
  FP 380 [.lst 7 (bs.map Jt.av),.cl f pre caps] (i64 (uv (dO bs.length ok))):=by
 refine ak func380 ?_;refine gl ?_;refine aK [0,1,7] [] (fun(i:Nat)=>[pP 8 (i64 i)]) (fun _=>[]) (fun i=>i<=bs.length/\∀j,j<i->ok j=true) (fun i=>bs.length-i) 0 ⟨aii _,fun j h=>by omega⟩ ?_;rintro i ⟨hi,hj⟩ K1 J1;refine gC (fun z=>?_) (fun z=>?_)
 ·have ae:=aI z;obtain⟨b,hb⟩:=aB ae;refine gi (ay hb) ?_;refine gc (hf i b hb hj) ?_;refine gC (fun z=>?_) (fun z=>?_)
  ·have h2:=dR z;refine ah ?_;rw[j5 ae hj h2];rfl
  have h2:=eK z;refine ga aG ?_;exact aE J1 (i+1) ⟨ae,fun j h9=>by rcases aid j i with g |g;exact hj j g;(have:j=i:=by omega);subst this;exact h2⟩
 have ae:=aV hi z;subst ae;refine ah ?_;rw[kt hj];rfl
theorem LI(l:Li)(hl:l.ok)(af:ax l=0)(Fd:List AV)(kind body:Int)(f:FuncId)(pre caps:List AV)(p:Int->Bool)
  (hp:∀o:Int,0<=o->o<l.bo.length->FP f (pre++[i64 o]++caps) (bl (p o))) :
  FP 311 [.iptr (l.av.cells++Fd),i64 kind,i64 body,.cl f pre caps] (i64 (gJ l kind body p)):=by
 refine ak func311 ?_ (1,0);refine gW ((Wk.freezeB (k:=7) rfl rfl).trans<|(Wk.freezeB (k:=5) rfl rfl).trans<|(Wk.freezeB (k:=6) rfl rfl).trans<|Wk.o (sl:=[pP 0 (.iptr (l.av.cells++Fd)),pP 5 (.iptr [i64 kind]),pP 6 (.iptr [i64 body]),pP 7 (.iptr [.cl f pre caps])]) (hp:=[])) ?_;refine gc (Con.subA (.cons (.refl _) (.cons (Hr rfl) .nil)) (RX l.jo hl.lj 381 [] [.iptr [i64 body],.iptr [i64 kind],.iptr [.cl f pre caps]] (fun i=>!Ak kind body p (l.jo.getD i default)) (fun i b hb hj=>by rw[Bool.not_not,aP hb];exact Vz b kind body f pre caps p (fun h=>hp _ h (UK af hb body))))) ?_;refine ah ?_;rfl
theorem S5(l:Li)(kw driven:List Bool)(r:List AV)(b:Int)(h0:0<=b)(h1:b<kw.length):FP 378 [.iptr (dm l kw driven r),i64 b] (bl (kn kw b)):=by
 obtain⟨v,hv⟩:∃v,kw[b.toNat]?=some v:=aB oz;have ev:kn kw b=v:=aP hv;refine ak func378 ?_;refine gi (eT (n:=b.toNat) oz hv) ?_;refine ah ?_;rw[ev]
theorem Kb(l:Li)(hl:l.ok)(af:ax l=0)(kw driven:List Bool)(hk:kw.length=l.bo.length)(r:List AV)(kind body:Int) :
  FP 309 [.iptr (dm l kw driven r),i64 kind,i64 body] (i64 (gJ l kind body (kn kw))):=by
 refine ak func309 ?_;refine gc (LI l hl af _ kind body 378 [.iptr (dm l kw driven r)] [] (kn kw) (fun o h0 h1=>S5 l kw driven r o h0 oz)) ?_;refine ah ?_;rfl
theorem abq(o j:Int):FP 312 [i64 o,.iptr [i64 j]] (bl (decide (o=j))):=by
 refine ak func312 ?_;refine ah ?_;exact ajn bl sf
theorem R6(l:Li)(kw driven:List Bool)(hd:driven.length=kw.length)(r:List AV)(b:Int)(h0:0<=b)(h1:b<kw.length) :
  FP 313 [.iptr (dm l kw driven r),i64 b] (bl (!kn kw b&&!kn driven b)):=by
 obtain⟨v,hv⟩:∃v,kw[b.toNat]?=some v:=aB oz;have ev:kn kw b=v:=aP hv;obtain⟨u,hu⟩:∃u,driven[b.toNat]?=some u:=aB oz;have eu:kn driven b=u:=aP hu;refine ak func313 ?_;refine gi (eT (n:=b.toNat) oz hv) ?_;refine mS (fun _=>(eT (n:=b.toNat) oz hu)) ?_;refine ah ?_;rw[ev,eu];exact ajn bl (mG _ _)
theorem VT(l:Li)(hl:l.ok)(af:ax l=0)(kw driven:List Bool)(hk:kw.length=l.bo.length)(r:List AV) :
  FP 213 [.iptr (dm l kw driven r)] (.tup [((du l kw).getD default).av,bl (du l kw).isSome]):=by
 have uL:=hl.ld;refine ak func213 ?_;refine gl ?_;refine aK [0,2,11,12] [2] (fun(i:Nat)=>[pP 13 (i64 i)]) (fun _=>[]) (fun i=>i<=l.drivers.length/\∀j,j<i->(!gd l kw j)=true) (fun i=>l.drivers.length-i) 0 ⟨aii _,fun j h=>by omega⟩ ?_;rintro i ⟨hi,hj⟩ K1 J1;refine gC (fun z=>?_) (fun z=>?_)
 ·have ae:=aI z;obtain⟨d,hd⟩:=aB ae;have fL:l.drivers.getD i default=d:=aP hd;have hb:=dM (qj af hd);obtain⟨v,hv⟩:∃v,kw[d.body.toNat]?=some v:=aB oz;have ev:kn kw d.body=v:=aP hv;have ej:gJ l 0 d.body (kn kw)=bC l 0 d.body kw:=Ey af (fun o _ _=>rfl);refine gi (ay hd) ?_;refine gi (eT (n:=d.body.toNat) oz hv) ?_;refine gD ?_;refine gC (fun z=>?_) (fun z=>?_)
  ·have h2 : gd l kw i = false := by unfold gd; rw [fL, ev, z]; rfl
   refine ga aG ?_;exact aE J1 (i+1) ⟨ae,fun k h9=>by rcases aid k i with g |g;exact hj k g;(have:k=i:=by omega);subst this;rw[h2];rfl⟩
  have lY:v=false:=z;refine gc (show jF _ _ _ (i64 (bC l 0 d.body kw)) by rw[<- ej];exact Kb l hl af kw driven hk r 0 d.body) ?_;refine gC (fun z=>?_) (fun z=>?_)
  ·have h2 : gd l kw i = true := by unfold gd; rw [fL, ev, lY, ajk (NC z)]; rfl
   have hg:du l kw=some ⟨0,[d.body],[bC l 0 d.body kw],i⟩:=by unfold du;rw[j5 ae hj (by rw[h2];rfl),<- fL];rfl
   refine bq ?_;rw[hg];rfl
  have h2:gd l kw i=false:=by unfold gd;rw[fL,ajl (Mp z),ahd]
  refine ga aG ?_;exact aE J1 (i+1) ⟨ae,fun k h9=>by rcases aid k i with g |g;exact hj k g;(have:k=i:=by omega);subst this;rw[h2];rfl⟩
 have ae:=aV hi z;subst ae;have hg:du l kw=none:=by unfold du;rw[kt hj];rfl
 refine gR ?_;exact aJ.sub aJ.pure (by rw[hg];exact Sub.tup (.cons tb (.cons (.refl _) .nil)))
theorem Fp(l:Li)(af:ax l=0)(kw:List Bool)(hk:kw.length=l.bo.length)(r:List AV)(b:Nat)(h1:b<l.bo.length) :
  FP 313 [.iptr (dm l kw (bE l) r),i64 b] (bl (eV l kw b)):=by
 have h:=R6 l kw (bE l) (by rw[wJ,hk]) r b oz oz;rw[RZ af oz]at h;exact h
theorem yg(l:Li)(hl:l.ok)(af:ax l=0)(kw:List Bool)(hk:kw.length=l.bo.length)(r:List AV)(kind body:Int) :
  FP 309 [.iptr (dm l kw (bE l) r),i64 kind,i64 body] (i64 (bC l kind body kw)):=by
 have h:=Kb l hl af kw (bE l) hk r kind body;rw[Ey af (fun o _ _=>rfl)]at h;exact h
theorem TL(l:Li)(hl:l.ok)(af:ax l=0)(kw:List Bool)(hk:kw.length=l.bo.length)(r:List AV) :
  FP 215 [.iptr (dm l kw (bE l) r)] (.tup [((d5 l kw).getD default).av,bl (d5 l kw).isSome]):=by
 have h8:=(ft af).2.2.2.1;refine ak func215 ?_;refine gl ?_;refine aK [0,2,12,13] [2] (fun(i:Nat)=>[pP 14 (i64 i)]) (fun _=>[]) (fun i=>i<=l.bo.length/\∀j,j<i->(!fV l kw j)=true) (fun i=>l.bo.length-i) 0 ⟨aii _,fun j h=>by omega⟩ ?_;rintro i ⟨hi,hj⟩ K1 J1;refine gC (fun z=>?_) (fun z=>?_)
 ·have ae:=aI z;refine gc (Fp l af kw hk r i ae) ?_;refine gC (fun z=>?_) (fun z=>?_)
  ·have h2 : fV l kw i = false := by unfold fV; rw [dR z]; rfl
   refine ga aG ?_;exact aE J1 (i+1) ⟨ae,fun k h9=>by rcases aid k i with g |g;exact hj k g;(have:k=i:=by omega);subst this;rw[h2];rfl⟩
  have hf:=eK z;refine gc (yg l hl af kw hk r 0 i) ?_;refine gc (yg l hl af kw hk r 1 i) ?_;refine gC (fun z=>?_) (fun z=>?_)
  ·have h2 : fV l kw i = false := by unfold fV; rw [HN z, ahd]
   refine ga aG ?_;exact aE J1 (i+1) ⟨ae,fun k h9=>by rcases aid k i with g |g;exact hj k g;(have:k=i:=by omega);subst this;rw[h2];rfl⟩
  obtain⟨p0,s0⟩:=JA z;have s1:=(oM (l:=l) (kind:=1) (body:=i) (oth:=kw)).2;have h2:fV l kw i=true:=by unfold fV;rw[hf,ajk p0,ajk s0];rfl
  obtain⟨j,ox⟩:∃j,l.jo[(bC l 1 i kw).toNat]?=some j:=aB oz;have qf:l.jo.getD (bC l 1 i kw).toNat default=j:=aP ox;have hg:d5 l kw=some (iP l kw i):=by unfold d5;rw[j5 ae hj (by rw[h2];rfl),ah1]
  refine gi (eT (n:=(bC l 1 i kw).toNat) oz ox) ?_;refine gC (fun z=>?_) (fun z=>?_)
  ·have r4:j.a=i:=dZ z;refine bq ?_;rw[hg];unfold iP;rw[qf];simp only[ah0,ajg r4];rfl
  have r4:j.a≠i:=dw z;refine bq ?_;rw[hg];unfold iP;rw[qf];simp only[ah0,ajf r4];rfl
 have ae:=aV hi z;subst ae;have hg:d5 l kw=none:=by unfold d5;rw[kt hj];rfl
 refine gR ?_;exact aJ.sub aJ.pure (by rw[hg];exact Sub.tup (.cons tb (.cons (.refl _) .nil)))
theorem YB(Fd:List AV):FP 310 [.iptr Fd] (.fn 379 [.iptr [.iptr Fd]]):=by
 refine ak func310 ?_ (1,0);refine gW ((Wk.freezeB (k:=1) rfl rfl).trans<|Wk.o (sl:=[pP 1 (.iptr [.iptr Fd])]) (hp:=[])) ?_;refine ah ?_;rfl
def z9:Code->Option (Array Tmp×Code×Code)
  | .rangeFunc _ ps x y=>some (ps,x,y)
  | .seq a b=>match z9 a with
    |some r=>some r
    |none=>z9 b
  | .block _ c=>z9 c
  |_=>none
def II(n:Nat)(o:Option Code):LpD:=match o with
  |some c=>match z9 c with
    |some (ps,x,y)=>⟨ps,x,y,n⟩
    |none=>⟨#[],.skip,.skip,0⟩
  |none=>⟨#[],.skip,.skip,0⟩
def IG(D:LpD)(Fd:List AV)(h:Bool):Blk:=.loop D (match h with |true=>.done |false=>.ready) (match h with |true=>some .ret |false=>none) [pP 1 (.iptr [.iptr Fd]),pP 2 (.ptr 1001 0),pP 3 (.ptr 1002 0)]
def CI(g:Gr):Blk:=.box [i64 g.kind,.lst 1 (g.bo.map i64),.lst 1 (g.jo.map i64),i64 g.driver]
def EB(h:Bool):Blk:=.box [bl h]
def fN(D:LpD)(Fd:List AV)(h:Bool)(g:Gr):Hp:=[pP 1000 (IG D Fd h),pP 1001 (CI g),pP 1002 (EB h)]
theorem Jz{D:LpD}{Fd:List AV}{h:Bool}{g:Gr}{k:Nat}{z:Blk}(hz:lk (fN D Fd h g) k=some z):1000<=k:=by
 unfold fN at hz;simp only[aA]at hz;split at hz
 ·omega
 ·split at hz
  ·omega
  ·split at hz
   ·omega
   ·cases hz
theorem Yz{D:LpD}{Fd:List AV}{s:AS}(hs:∀k z,lk (fN D Fd false default) k=some z->s.blk k=some z) :
  ∀k∈(fN D Fd false default++cz (fN D Fd false default)).map (·.1),k∈(fN D Fd false default).map (·.1)/\lk (fN D Fd false default++cz (fN D Fd false default)) k=s.blk k:=by
 intro k hk
 have hk':k=1000\/k=1001\/k=1002:=by
  simp[fN,cz]at hk;omega
 rcases hk' with rfl |rfl |rfl
 ·exact⟨by simp[fN],(hs _ _ rfl).symm⟩
 ·exact⟨by simp[fN],(hs _ _ rfl).symm⟩
 ·exact⟨by simp[fN],(hs _ _ rfl).symm⟩
theorem IR{l:Li}{kw:List Bool}{i k:Nat}(h:cond (eV l kw i) (eV l kw k) false=false):df l kw i k=false:=by
 rw[mG]at h;unfold df;rw[h];rfl
theorem So{H R:Hp}{k:Nat}{z:Blk}(h:lk H k=some z):lk (H++R) k=some z:=by rw[ky,ajg (jW h)];exact h
theorem Y3{a b:Bool}(h:cond a b false=true):a=true:=by cases a <;> simp_all
theorem Cj{a b:Bool}(h:cond a b false=true):b=true:=by cases a <;> simp_all
theorem Q3(D:LpD)(l:Li)(hl:l.ok)(af:ax l=0)(kw:List Bool)(hk:kw.length=l.bo.length)(r:List AV)
  (hy:∀i k:Nat,i<k->k<l.bo.length->eV l kw i=true->eV l kw k=true ->
   yG prog 1000 [i64 i,i64 k] (fN D (dm l kw (bE l) r) false default) (bl (!df l kw i k)) (fN D (dm l kw (bE l) r) (df l kw i k) (cond (df l kw i k) (ia l kw i k) default))) :
  Con prog 379 [.yl 1000,.iptr [.iptr (dm l kw (bE l) r)]] (fN D (dm l kw (bE l) r) false default) (.tup []) (fN D (dm l kw (bE l) r) (cH l kw).isSome ((cH l kw).getD default)):=by
 have h8:=(ft af).2.2.2.1;refine gF func379 (fun k z h=>Jz h) ?_;refine gl ?_;refine aK [0,1,10] [1000,1001,1002] (fun(i:Nat)=>[pP 11 (i64 i)]) (fun _=>[]) (fun i=>i<=l.bo.length/\∀j,j<i->(ik l kw j).isNone=true) (fun i=>l.bo.length-i) 0 ⟨aii _,fun j h=>by omega⟩ ?_;rintro i ⟨hi,hj⟩ K1 J1;refine gC (fun y=>?_) (fun y=>?_)
 ·have ae:=aI y;refine ga aG ?_;refine aK [0,1,3,10,11] [] (fun (k:Nat)=>[pP 4 (i64 (i + 1 + k:Nat))]) (fun _=>[pP 1000 (IG D (dm l kw (bE l) r) false),pP 1001 (CI default),pP 1002 (EB false)]) (fun k=>i + 1 + k <= l.bo.length /\ ∀ j,j < k -> (!df l kw i (i + 1 + j)) = true) (fun k=>l.bo.length - k) 0 ⟨by omega,fun j h=>by omega⟩ ?_;rintro k ⟨hkl,gU⟩ K2 J2;refine gl ?_;refine gC (fun y=>?_) (fun y=>?_)
  ·have aW:i + 1 + k < l.bo.length:=aI y;refine gc (Fp l af kw hk r i ae) ?_;refine bP (fun _=>(Fp l af kw hk r (i + 1 + k) aW)) ?_;refine gs (LP rfl rfl rfl (by intro hb; have h0:df l kw i (i + 1 + k) = false:=IR (by simpa using hb); simp only [h0,cond_false]; exact Yz (by intro k z h; exact h)) (fun hb=>XY (k:=1000) (.opt rfl (by rw [hb]; rfl)) (hy i (i + 1 + k) oz aW (Y3 hb) (Cj hb)) (.cons (.opt rfl (by rw [hb]; rfl)) (.cons (.opt rfl (by rw [hb]; rfl)) .nil)) (by intro k z h; exact h) rfl rfl)) ?_;refine gC (fun y=>?_) (fun y=>?_)
   ·have h2 : df l kw i (i + 1 + k) = true := by have h9 := Cj y; rw [Bool.not_not] at h9; exact h9
    have jq:ik l kw i=some (i+1+k):=by unfold ik;rw[j5 oz gU (by rw[h2];rfl),ah1];congr 1;omega
    have hg:cH l kw=some (ia l kw i (i+1+k)):=by unfold cH;rw[j5 ae hj (by rw[jq];rfl),ah1,jq]
    refine gR ?_;simp only[hg,h2,Option.isSome_some,ah0,cond_true];exact aJ.keep (fun k z h=>So h)
   have h2:df l kw i (i+1+k)=false:=by cases hc:cond (eV l kw i) (eV l kw ((i+1+k:Nat):Int)) false with |false=>exact IR hc |true=>rw[hc,Bool.not_not]at y;exact y
   refine ga aG ?_;exact aE J2 (k+1) ⟨by omega,fun j h9=>by rcases aid j k with g |g;exact gU j g;(have:j=k:=by omega);subst this;rw[h2];rfl⟩ (hw:=Wk.of aU (.cons rfl (.of (by rw[h2])) (.cons rfl (.of (by rw[h2];rfl)) (.cons rfl (.of (by rw[h2])) .nil))))
  have aW:¬i+1+k<l.bo.length:=fun h=>by have h1:=qt y;omega
  have jq:ik l kw i=none:=by unfold ik;rw[show l.bo.length-(i+1)=k by omega,kt gU];rfl
  refine ga aG ?_;exact aE J1 (i+1) ⟨ae,fun j h9=>by rcases aid j i with g |g;exact hj j g;(have:j=i:=by omega);subst this;rw[jq];rfl⟩
 have ae:=aV hi y;have hg:cH l kw=none:=by unfold cH;rw[<- ae,kt hj];rfl
 refine gR ?_;simp only[hg,Option.isSome_none,Option.getD_none];exact aJ.keep (fun k z h=>h)
variable{P:ajs}
mutual
def AV.pm(σ:Nat->Nat):AV->AV
  | .ms k sz off len=>.ms (σ k) sz off len
  | .ptr k off=>.ptr (σ k) off
  | .eptr k sz i off=>.eptr (σ k) sz i off
  | .yl k=>.yl (σ k)
  | .agg cs=>.agg (AV.pms σ cs)
  | .tup cs=>.tup (AV.pms σ cs)
  | .fn f cs=>.fn f (AV.pms σ cs)
  | .opt b x=>.opt b (AV.pm σ x)
  | .v x=>.v x
  | .lst sz l=>.lst sz l
  | .iptr l=>.iptr l
  | .cl f cs ds=>.cl f cs ds
def AV.pms(σ:Nat->Nat):List AV->List AV
  |[]=>[]
  |x::l=>AV.pm σ x::AV.pms σ l
end
theorem AV.pms_eq(σ:Nat->Nat):∀l,AV.pms σ l=l.map (AV.pm σ)
 |[]=>rfl
 |x::l=>by simp only[AV.pms,ajd,AV.pms_eq σ l]
theorem AV.pm_one(σ:Nat->Nat)(x:AV)(h:x.one=true):(x.pm σ).one=true:=by
 cases x <;> simp only[AV.pm] <;> exact h
mutual
theorem AV.pm_pm{σ:Nat->Nat}(hσ:∀k,σ (σ k)=k):∀x:AV,(x.pm σ).pm σ=x
 | .ms k sz off len=>by simp only[AV.pm,hσ]
 | .ptr k off=>by simp only[AV.pm,hσ]
 | .eptr k sz i off=>by simp only[AV.pm,hσ]
 | .yl k=>by simp only[AV.pm,hσ]
 | .agg cs=>by simp only[AV.pm];rw[AV.pms_pms hσ cs]
 | .tup cs=>by simp only[AV.pm];rw[AV.pms_pms hσ cs]
 | .fn f cs=>by simp only[AV.pm];rw[AV.pms_pms hσ cs]
 | .opt b x=>by simp only[AV.pm];rw[AV.pm_pm hσ x]
 | .v x=>by simp only[AV.pm]
 | .lst sz l=>by simp only[AV.pm]
 | .iptr l=>by simp only[AV.pm]
 | .cl f cs ds=>by simp only[AV.pm]
theorem AV.pms_pms{σ:Nat->Nat}(hσ:∀k,σ (σ k)=k):∀l:List AV,AV.pms σ (AV.pms σ l)=l
 |[]=>by simp only[AV.pms]
 |x::l=>by simp only[AV.pms];rw[AV.pm_pm hσ x,AV.pms_pms hσ l]
end
theorem y8{g:Nat->Array ajq->Prop}{S:Nat->Nat->Prop}{σ:Nat->Nat}(hσ:∀k,σ (σ k)=k){m:Nat->Option Nat}{v:ajq}{x:AV}(h:Rep g S m v x):Rep g S (fun k=>m (σ k)) v (x.pm σ):=by
 induction h with
 |v x=>exact .v x
 |lst0 a cap sz'=>exact .lst0 a cap sz'
 |lst u hb hc hl hs ho hu hr _=>exact .lst u hb hc hl hs ho hu hr
 |iptr u hb ho hu hr _=>exact .iptr u hb ho hu hr
 |cl a b c d _ _=>exact .cl a b c d
 |ptr hm=>exact .ptr (by simp only[hσ];exact hm)
 |eptr hm=>exact .eptr (by simp only[hσ];exact hm)
 |yl hm=>exact .yl (by simp only[hσ];exact hm)
 |ms0 a k sz off=>exact .ms0 _ _ _ _
 |ms hm hc hS=>exact .ms (by simp only[hσ];exact hm) hc hS
 |opt h h' ih=>exact .opt ih h'
 |agg hn h1 hr ih =>
  simp only[AV.pm,AV.pms_eq];refine .agg (by simpa using hn) ?_ ?_
  ·intro j c hc;simp only[aib,ah8]at hc;obtain⟨y,hy,rfl⟩:=hc;exact AV.pm_one _ _ (h1 j y hy)
  ·intro j u c hu hc;simp only[aib,ah8]at hc;obtain⟨y,hy,rfl⟩:=hc;exact ih j u y hu hy
 |tup hn hr ih =>
  simp only[AV.pm,AV.pms_eq];refine .tup (by simpa using hn) ?_;intro j u c hu hc;simp only[aib,ah8]at hc;obtain⟨y,hy,rfl⟩:=hc;exact ih j u y hu hy
 |fn hn hr ih =>
  simp only[AV.pm,AV.pms_eq];refine .fn (by simpa using hn) ?_;intro j u c hu hc;simp only[aib,ah8]at hc;obtain⟨y,hy,rfl⟩:=hc;exact ih j u y hu hy
theorem Qp{g:Nat->Array ajq->Prop}{S:Nat->Nat->Prop}{σ:Nat->Nat}(hσ:∀k,σ (σ k)=k){m:Nat->Option Nat}{w:ajt}{o:Option Nat}{x:Blk}(h:BlkRep g S m w o x) :
  BlkRep g S (fun k=>m (σ k)) w o (x.map (AV.pm σ)):=by
 cases x with
 |row sz es=>exact h.mono (fun _ _ h=>h) (fun _ _ h=>h) (fun _ _ hk=>hk.elim) rfl (fun _ _=>rfl)
 |vec vs=>exact h.mono (fun _ _ h=>h) (fun _ _ h=>h) (fun _ _ hk=>hk.elim) rfl (fun _ _=>rfl)
 |loop=>exact h.mapLoop _ (fun _ _ _ _ h=>y8 hσ h)
 |box cs =>
  cases h with
  |box hw hn h1 aS =>
   refine .box hw (by simpa using hn) ?_ ?_
   ·intro j x hx;simp only[aib,ah8]at hx;obtain⟨y,hy,rfl⟩:=hx;exact AV.pm_one _ _ (h1 j y hy)
   ·intro j u x hu hx;simp only[aib,ah8]at hx;obtain⟨y,hy,rfl⟩:=hx;exact y8 hσ (aS j u y hu hy)
theorem DZ{σ:Nat->Nat}(hσ:∀k,σ (σ k)=k):∀sl:bn,je (AV.pm σ) (je (AV.pm σ) sl)=sl
 |[]=>rfl
 |(t,none)::l=>by simp only[je,DZ hσ l]
 |(t,some x)::l=>by simp only[je,DZ hσ l,AV.pm_pm hσ x]
theorem Blk.pm_pm{σ:Nat->Nat}(hσ:∀k,σ (σ k)=k)(x:Blk):(x.map (AV.pm σ)).map (AV.pm σ)=x:=by
 cases x with
 |row sz es=>rfl
 |vec vs=>rfl
 |loop d st pe sl=>simp only[Blk.map,DZ hσ]
 |box cs =>
  simp only[Blk.map];rw[<- AV.pms_eq,<- AV.pms_eq,AV.pms_pms hσ]
def fW(σ:Nat->Nat):Hp->Hp
  |[]=>[]
  |(k,x)::l=>(σ k,match x with |some b=>some (b.map (AV.pm σ)) |none=>none)::fW σ l
theorem mP{σ:Nat->Nat}(hσ:∀k,σ (σ k)=k):∀(H:Hp)(k:Nat),lk (fW σ H) k=(lk H (σ k)).map (Blk.map (AV.pm σ))
 |[],k=>rfl
 |(k',x)::l,k=>by
  simp only[fW,aA,mP hσ l k]
  by_cases h:k=σ k'
  ·rw[ajg h,ajg (by rw[h,hσ])];cases x <;> rfl
  ·rw[ajf h,ajf (fun e=>h (by rw[<- e,hσ]))]
theorem D9{σ:Nat->Nat}(hσ:∀k,σ (σ k)=k)(H:Hp)(m:Nat->Option Nat):aO (fW σ H) (fun k=>m (σ k))=aO H m:=by
 funext b;apply propext;constructor
 ·rintro⟨k,z,hz,hb⟩;rw[mP hσ,ah8]at hz;obtain⟨y,hy,rfl⟩:=hz;exact⟨σ k,y,hy,hb⟩
 ·rintro⟨k,y,hy,hb⟩;exact⟨σ k,y.map (AV.pm σ),by rw[mP hσ,hσ,hy];rfl,by simp only[hσ];exact hb⟩
theorem N8{σ:Nat->Nat}(hσ:∀k,σ (σ k)=k){ext:Nat->Prop}{H:Hp}{m:Nat->Option Nat}{w:ajt}(h:HeapRel ext H m w):HeapRel ext (fW σ H) (fun k=>m (σ k)) w:=by
 have e:Im ext (fW σ H) (fun k=>m (σ k)) w=Im ext H m w:=by funext b cs;simp only[Im,D9 hσ]
 refine⟨?_,?_,?_⟩
 ·intro k z hz;rw[mP hσ,ah8]at hz;obtain⟨y,hy,rfl⟩:=hz;rw[e];exact Qp hσ (h.blk _ y hy)
 ·intro k k' z z' b hz hz' hb hb';rw[mP hσ,ah8]at hz hz';obtain⟨y,hy,_⟩:=hz;obtain⟨y',hy',_⟩:=hz';have:=h.inj _ _ y y' b hy hy' hb hb';rw[<- hσ k,this,hσ]
 ·intro k z b hz hb;rw[mP hσ,ah8]at hz;obtain⟨y,hy,_⟩:=hz;exact h.sep _ y b hy hb
theorem Con.pm{σ:Nat->Nat}(hσ:∀k,σ (σ k)=k){f:FuncId}{args:List AV}{H H':Hp}{r:AV}(h:Con P f args H r H'):Con P f (args.map (AV.pm σ)) (fW σ H) (r.pm σ) (fW σ H'):=by
 refine⟨h.ok,?_⟩;intro ext m w vs hext bX cM dl
 have bF:∀k,lk (fW σ (fW σ H)) k=lk H k:=by
  intro k;rw[mP hσ,mP hσ,hσ];cases lk H k with
  |none=>rfl
  |some y=>simp only[ah1,Blk.pm_pm hσ]
 have hh:=HeapRel.congr bF (N8 hσ bX);have em:(fun k=>(fun k=>m (σ k)) (σ k))=m:=by funext k;simp only[hσ]
 have eo:aO (fW σ H) m=aO H (fun k=>m (σ k)):=by
  have:=D9 hσ H (fun k=>m (σ k));rw[em]at this;exact this
 have ei:Im ext (fW σ H) m w=Im ext H (fun k=>m (σ k)) w:=by funext b cs;simp only[Im,eo]
 refine Calls.mono (h.ret ext (fun k=>m (σ k)) w vs hext hh (by simpa using cM) (fun j v x hv hx=>?_)) ?_
 ·have h1 := dl j v (x.pm σ) hv (by simp[hx]);have h2:=y8 hσ h1;rw[AV.pm_pm hσ,ei]at h2;exact h2
 ·rintro e w' ⟨v,m',rfl,hf,hh',hn,hk,aS⟩;refine⟨v,fun k=>m' (σ k),rfl,eo▸hf,N8 hσ hh',?_,?_,?_⟩
  ·intro k x b hx hb;rw[mP hσ,ah8]at hx;obtain⟨y,hy,_⟩:=hx;rw[eo];exact hn _ y b hy hb
  ·intro k x y hx hy;rw[mP hσ,ah8]at hx hy;obtain⟨x',hx',_⟩:=hx;obtain⟨y',hy',_⟩:=hy;have:=hk _ x' y' hx' hy';simpa only[hσ]using this
  ·have e2 : Im ext (fW σ H') (fun k => m' (σ k)) w' = Im ext H' m' w' := by funext b cs; simp only [Im, D9 hσ]
   rw[e2];exact y8 hσ aS
end Go.Lw
namespace Go.Lw
open Go.Proofs
theorem gZ{P:ajs}{N:Nat}{Q:Exit->AS->Prop}{c:Code}{s:AS}(h:Gd P N Q (.code c [] s)):bb P N c Q s:=h
theorem Yv{P:ajs}{N:Nat}{Q:Exit->AS->Prop}{c:Code}{s s':AS}(hw:Wk s s')(h:kF P N c Q s'):kF P N c Q s:=by
 intro C m a w n kR hN hr;obtain⟨m',hr'⟩:=hw C m a w hr;exact h C m' a w n kR hN hr'
def yf(k:Nat):Nat:=bif afe k 1000 then 900 else bif afe k 900 then 1000 else bif afe k 1001 then 2 else bif afe k 2 then 1001 else bif afe k 1002 then 3 else bif afe k 3 then 1002 else k
theorem nb{a b:Nat}(h:¬a=b):afe a b=false:=by
 cases h1:afe a b
 ·rfl
 ·exact ajm (ah5 h1) h
theorem aa4(k:Nat):yf (yf k)=k:=by
 by_cases h1:k=1000
 ·subst h1;rfl
 by_cases h2:k=900
 ·subst h2;rfl
 by_cases h3:k=1001
 ·subst h3;rfl
 by_cases h4:k=2
 ·subst h4;rfl
 by_cases h5:k=1002
 ·subst h5;rfl
 by_cases h6:k=3
 ·subst h6;rfl
 have e:yf k=k:=by simp only[yf,nb h1,nb h2,nb h3,nb h4,nb h5,nb h6,cond_false]
 rw[e,e]
theorem abf(l:Li)(hl:l.ok)(af:ax l=0)(kw:List Bool)(hk:kw.length=l.bo.length)(r:List AV) :
  FP 214 [.iptr (dm l kw (bE l) r)] (.tup [((cH l kw).getD default).av,bl (cH l kw).isSome]):=by
 refine Iw (rs:=Tryz.f214.results.toList) func214 rfl rfl (by simp) rfl (fun k z h=>by cases h) ?_;refine EG (gZ (go ?_));refine Yv (s':=⟨[pP 1 (.iptr [.iptr (dm l kw (bE l) r)]),pP 2 (.ptr 2 0),pP 3 (.ptr 3 0)],[pP 2 (CI default),pP 3 (EB false)]⟩) ((Wk.freezeB (k:=1) rfl rfl).trans (Wk.of (.k (.k (.k .nil))) (.cons rfl (BlkSub.bL (.cons (.refl _) (.cons (.nil _ _ _) (.cons (.nil _ _ _) (.cons (.refl _) .nil)))) rfl) (.k .nil)))) ?_;refine Z4 ?_;refine EG (gZ (go ?_));refine gc (YB (dm l kw (bE l) r)) ?_;refine act ?_
 have hy:∀i k:Nat,i<k->k<l.bo.length->eV l kw i=true->eV l kw k=true ->
   yG prog 1000 [i64 i,i64 k] (fN (II Tryz.f214.ntmps Tryz.f214.body) (dm l kw (bE l) r) false default) (bl (!df l kw i k)) (fN (II Tryz.f214.ntmps Tryz.f214.body) (dm l kw (bE l) r) (df l kw i k) (cond (df l kw i k) (ia l kw i k) default)):=by
  intro i k hik aW PH PI;refine Wb (k:=1000) (fun k z h=>Jz h) rfl rfl (by intro p hp;have h9:p∈[11,12]:=hp;have h8:p=11\/p=12:=(by simpa using h9);show p<42;rcases h8 with h7 |h7 <;> (rw[h7];decide)) ?_;refine gZ (go ?_);refine⟨rfl,_,_,rfl,?_⟩;have hJ:gJ l 0 i (fun o=>decide (o=(k:Int)))=bC l 0 i (cB l.bo.length k):=Ey af (fun o h0 h1=>(uy h0 oz oz).symm);refine gZ (go ?_);refine gc (yg l hl af kw hk r 0 i) ?_;refine gc (yg l hl af kw hk r 0 k) ?_;refine gD ?_ (5,0);refine gW (Wk.freezeB (k:=5) rfl rfl) ?_;refine gc (r:=i64 (bC l 0 i (cB l.bo.length k))) (by rw[<- hJ];exact Con.subA (.cons (.refl _) (.cons (.refl _) (.cons (.refl _) (.cons (Hr rfl) .nil)))) (LI l hl af _ 0 i 312 [] [.iptr [i64 k]] (fun o=>decide (o=(k:Int))) (fun o h0 h1=>abq o k))) ?_;refine gC (fun ht=>?_) (fun ht=>?_)
  ·have h2 : df l kw i k = true := by unfold df; rw [PH, PI]; exact (zE.symm.trans ht)
   rw[h2];exact⟨_,_,rfl,aJ.keep (by intro q z h;simp only[fN,aA]at h;split at h;(subst_vars;exact h);split at h;(subst_vars;exact h);split at h;(subst_vars;exact h);cases h)⟩
  ·have h2 : df l kw i k = false := by unfold df; rw [PH, PI]; exact (zE.symm.trans ht)
   rw[h2];exact⟨_,_,rfl,aJ.keep (by intro q z h;simp only[fN,aA]at h;split at h;(subst_vars;exact h);split at h;(subst_vars;exact h);split at h;(subst_vars;exact h);cases h)⟩
 have cG:=Con.pm aa4 (Q3 _ l hl af kw hk r hy);cases hg:cH l kw with
 |none =>
  rw[hg]at cG;refine Km (k:=900) (sl0:=[pP 1 (.iptr [.iptr (dm l kw (bE l) r)]),pP 2 (.ptr 2 0),pP 3 (.ptr 3 0)]) (.tmp rfl) (by intro t x h;simp only[aA]at h;split at h;(subst_vars;exact h);split at h;(subst_vars;exact h);split at h;(subst_vars;exact h);cases h) rfl rfl cG (fun k' z h=>h) rfl rfl rfl rfl (by intro h;cases h) (.inl ⟨rfl,?_⟩);refine EG (gZ (go ?_));refine bb.out (gZ (go ?_));refine gR ?_;exact aJ.sub aJ.pure (Sub.tup (.cons tb (.cons (.refl _) .nil)))
 |some g =>
  rw[hg]at cG;refine Km (k:=900) (sl0:=[pP 1 (.iptr [.iptr (dm l kw (bE l) r)]),pP 2 (.ptr 2 0),pP 3 (.ptr 3 0)]) (.tmp rfl) (by intro t x h;simp only[aA]at h;split at h;(subst_vars;exact h);split at h;(subst_vars;exact h);split at h;(subst_vars;exact h);cases h) rfl rfl cG (fun k' z h=>h) rfl rfl rfl rfl (by intro h;cases h) (.inr ⟨rfl,?_⟩);exact(bq (P:=prog) (N:=Tryz.f214.ntmps) (e:=.ret) rfl)
theorem Ej{α:Type}{o:Option α}(h:o.isSome=true):∃x,o=some x:=by cases o <;> simp_all
theorem CQ{α:Type}{o:Option α}(h:o.isSome=false):o=none:=by cases o <;> simp_all
theorem XU(l:Li)(hl:l.ok)(af:ax l=0)(kw:List Bool)(hk:kw.length=l.bo.length)(r:List AV) :
  FP 111 [.iptr (dm l kw (bE l) r)] (.tup [((bY l kw).getD default).av,bl (bY l kw).isSome]):=by
 refine ak func111 ?_;refine gc (VT l hl af kw (bE l) hk r) ?_;refine gC (fun z=>?_) (fun z=>?_)
 ·obtain⟨g,hg⟩:=Ej z;refine bq ?_;unfold bY;rw[hg];rfl
 have hg:=CQ z;refine gc (abf l hl af kw hk r) ?_;refine gC (fun z=>?_) (fun z=>?_)
 ·obtain⟨g,rX⟩:=Ej z;refine bq ?_;unfold bY;rw[hg,rX];rfl
 have rX:=CQ z;refine gc (TL l hl af kw hk r) ?_;refine bq ?_;unfold bY;rw[hg,rX];rfl
def u8(n:Nat):AV:=.v (.int .u8 n)
theorem wB{p q:Bool}{a b:Nat}{c:Nat}(hp:p=decide (a<=c))(hq:q=decide (c<=b)):cond p q false=decide (a<=c/\c<=b):=by
 subst hp;subst hq
 by_cases h:a<=c
 ·simp[h]
 ·simp[h]
theorem xj(c k:Nat):aa .geq (c:Int) (k:Int)=decide (k<=c):=by simp only[aa,decide_eq_decide];omega
theorem uV(c k:Nat):aa .leq (c:Int) (k:Int)=decide (c<=k):=by simp only[aa,decide_eq_decide];omega
theorem Y4(c:Nat):cond (cond (aa .geq (c:Int) 97) (aa .leq (c:Int) 122) false) true (cond (aa .geq (c:Int) 65) (aa .leq (c:Int) 90) false)=e8 c:=by
 have e1:cond (aa .geq (c:Int) 97) (aa .leq (c:Int) 122) false=decide (97<=c/\c<=122):=wB (xj c 97) (uV c 122);have e2:cond (aa .geq (c:Int) 65) (aa .leq (c:Int) 90) false=decide (65<=c/\c<=90):=wB (xj c 65) (uV c 90);rw[e1,e2];unfold e8;cases decide (97<=c/\c<=122) <;> rfl
theorem WG(c:Nat):cond (cond (aa .geq (c:Int) 65) (aa .leq (c:Int) 90) false) true (cond (aa .geq (c:Int) 97) (aa .leq (c:Int) 122) false)=e8 c:=by
 have e1:cond (aa .geq (c:Int) 97) (aa .leq (c:Int) 122) false=decide (97<=c/\c<=122):=wB (xj c 97) (uV c 122);have e2:cond (aa .geq (c:Int) 65) (aa .leq (c:Int) 90) false=decide (65<=c/\c<=90):=wB (xj c 65) (uV c 90);rw[e1,e2];unfold e8;cases decide (97<=c/\c<=122) <;> cases decide (65<=c/\c<=90) <;> rfl
theorem LW(c:Nat):cond (aa .geq (c:Int) 48) (aa .leq (c:Int) 57) false=tR c:=wB (xj c 48) (uV c 57)
theorem E7(c:Nat):cond (cond (e8 c) true (tR c)) true (aa .eql (c:Int) 95)=lQ c:=by
 unfold lQ
 have:aa .eql (c:Int) 95=decide (c=95):=by
  rw[ahf];simp only[aa,beq_iff_eq,ajh];omega
 rw[this];cases e8 c <;> cases tR c <;> rfl
theorem Kt(c:Nat):FP 376 [u8 c] (bl (e8 c)):=by
 refine ak func376 ?_;refine ah ?_;exact ajn bl (Y4 c)
theorem U6(c:Nat):FP 405 [u8 c] (bl (tR c)):=by
 refine ak func405 ?_;refine ah ?_;exact ajn bl (LW c)
theorem XR(c:Nat):FP 377 [u8 c] (bl (lQ c)):=by
 refine ak func377 ?_;refine gc (Kt c) ?_;refine bP (fun _=>(U6 c)) ?_;refine ah ?_;exact ajn bl (E7 c)
theorem JK(c:Nat):FP 258 [u8 c] (bl (e8 c)):=by
 refine ak func258 ?_;refine ah ?_;exact ajn bl (WG c)
theorem QX(c:Nat):FP 260 [u8 c] (bl (tR c)):=by
 refine ak func260 ?_;refine ah ?_;exact ajn bl (LW c)
theorem Rd(s:ByteArray)(hs:s.size<=281474976710656):FP 306 [.v (.string s)] (i64 (fv s)):=by
 refine ak func306 ?_;refine gs (fX rfl rfl rfl (fun h=>wP (.opt rfl (o1 h)) (.const _) T9 rfl oz (by have:=Iu h;omega) rfl)) ?_;refine bP (fun _=>(Kt (dN s 0))) ?_;refine gC (fun z=>?_) (fun z=>?_)
 ·have h0:fv s=0:=Uy z;refine ah ?_;rw[h0];rfl
 obtain⟨h0,h1⟩:=YU z;refine aK [0] [] (fun(n:Nat)=>[pP 3 (i64 n)]) (fun _=>[]) (fun n=>1<=n/\n<=s.size/\fD s 1 (s.size-1)=fD s n (s.size-n)) (fun n=>s.size-n) 1 ⟨aie _,h0,rfl⟩ ?_;rintro n ⟨iS,hn,hw⟩ K1 J1;refine gs (fX rfl rfl rfl (fun h=>wP (.opt rfl (o1 h)) (.opt rfl (o1 h)) T9 rfl oz (by have:=aI h;omega) rfl)) ?_;refine bP (fun _=>(XR (dN s n))) ?_;refine gC (fun z=>?_) (fun z=>?_)
 ·have h2:n<s.size/\lQ (dN s n)=true:=Vt z;refine ga aG ?_;exact aE J1 (n+1) ⟨by omega,by omega,by rw[hw,show s.size-n=(s.size-(n+1))+1 by omega];simp only[fD,h2.2,if_true]⟩
 have h2:n<s.size->lQ (dN s n)=false:=VP z
 have h3:fv s=n:=by
  unfold fv;rw[ajg ⟨h0,h1⟩,hw];rcases aid n s.size with h |h
  ·rw[show s.size-n=(s.size-(n+1))+1 by omega];simp only[fD,h2 h,ahi,if_false]
  ·rw[show s.size-n=0 by omega];rfl
 refine ah ?_;rw[h3]
theorem uY(s:ByteArray)(hs:s.size<=281474976710656):FP 209 [.v (.string s)] (bl (iZ s)):=by
 refine ak func209 ?_;refine gc (Rd s hs) ?_;refine ah ?_;exact ajn bl (VO s)
theorem yu(s:ByteArray)(i:Nat):FP 259 [.v (.string s),i64 i] (u8 (dN s i)):=by
 refine ak func259 ?_;refine gC (fun z=>?_) (fun z=>?_)
 ·have h0:=aI z;refine gs (wP (.tmp rfl) (.tmp rfl) T9 rfl oz oz rfl) ?_;refine ah ?_;rfl
 have h0:=qt z;refine ah ?_;rw[Ou oz];rfl
theorem QE(s:ByteArray)(hs:s.size<=281474976710656):FP 161 [.v (.string s),i64 0] (i64 ((if e8 (dN s 0)then fD s 0 s.size else 0:Nat))):=by
 refine ak func161 ?_;refine gc (yu s 0) ?_;refine gc (JK (dN s 0)) ?_;refine gC (fun z=>?_) (fun z=>?_)
 ·have h0 : e8 (dN s 0) = false := by simpa using z
  refine ah ?_;rw[h0];rfl
 have h0:e8 (dN s 0)=true:=by simpa using z
 refine aK [0] [] (fun(n:Nat)=>[pP 1 (i64 n)]) (fun _=>[]) (fun n=>n<=s.size/\fD s 0 s.size=fD s n (s.size-n)) (fun n=>s.size-n) 0 ⟨aii _,rfl⟩ ?_;rintro n ⟨hn,hw⟩ K1 J1;refine gc (yu s n) ?_;refine gc (JK (dN s n)) ?_;refine bP (fun _=>(yu s n)) ?_;refine bP (fun _=>(QX (dN s n))) ?_;refine bP (fun _=>(yu s n)) ?_;refine gC (fun z=>?_) (fun z=>?_)
 ·have h1:lQ (dN s n)=true:=(E7 _).symm.trans z
  have h2:n<s.size:=by
   rcases aid n s.size with h |h
   ·exact h
   ·rw[Ou h]at h1;cases h1
  refine ga aG ?_;exact aE J1 (n+1) ⟨by omega,by rw[hw,show s.size-n=(s.size-(n+1))+1 by omega];simp only[fD,h1,if_true]⟩
 have h1:lQ (dN s n)=false:=(E7 _).symm.trans z
 have h2:fD s 0 s.size=n:=by
  rw[hw];rcases aid n s.size with h |h
  ·rw[show s.size-n=(s.size-(n+1))+1 by omega];simp only[fD,h1,ahi,if_false]
  ·rw[show s.size-n=0 by omega];rfl
 refine ah ?_;rw[h0,h2];rfl
theorem wK(s:ByteArray)(hs:s.size<=281474976710656):FP 74 [.v (.string s)] (bl (iZ s)):=by
 refine ak func74 ?_;refine bP (fun _=>(QE s hs)) ?_;refine ah ?_;exact ajn bl (aan s)
theorem tT(i:Int)(n:Nat):FP 308 [i64 i,i64 n] (bl (aX i n)):=by
 refine ak func308 ?_;refine ah ?_;exact ajn bl (JP i n)
theorem aah(bs:List Bd)(lh:∀b∈bs,b.ok)(hl:bs.length<=281474976710656):FP 210 [.lst 2 (bs.map Bd.av)] (db (er bs.length (eh bs))):=by
 refine ak func210 ?_;refine gl ?_;refine aK [0,11,12] [] (fun(i:Nat)=>[pP 13 (i64 i)]) (fun _=>[]) (fun i=>i<=bs.length/\∀j,j<i->eh bs j=0) (fun i=>bs.length-i) 0 ⟨aii _,fun j h=>by omega⟩ ?_;rintro i ⟨hi,hj⟩ K1 J1;refine gC (fun z=>?_) (fun z=>?_)
 ·have ae:=aI z;obtain⟨b,hb⟩:=aB ae;have ci:bs.getD i default=b:=aP hb;have lU:=lh b (ah3 hb);have iD:=ph Bd.name hb;refine gi (ay hb) ?_;refine gc (uY b.name lU.name) ?_;refine gC (fun z=>?_) (fun z=>?_)
  ·have h1:=dR z;have e1:eh bs i = 5:=by unfold eh; rw [ci,ajg h1]
   refine ah ?_;rw[d6 ae hj (by rw[e1];decide),e1];rfl
  have h1:=eK z;refine gs (eF (.tmp rfl) (.none _) (.some _ (.tmp rfl) oz) T22 rfl T83 rfl oz (by simp only[ah6];omega) rfl) ?_;refine ge rfl ?_;refine aK [0,3,4,11,12,13] [4] (fun(k:Nat)=>[pP 25 (.lst 2 ((bs.take i).map Bd.av)),pP 26 (i64 i),pP 27 (i64 k)]) (fun _=>[]) (fun k=>k<=i/\(bs.take k).any (fun y=>dB y.name b.name)=false) (fun k=>i-k) 0 ⟨aii _,rfl⟩ ?_ (h1:=(.cons rfl (.of (xk 2 Bd.av bs i)) (.cons rfl (Sub.int (by simp;omega)) (.k .nil))));rintro k ⟨hk,hd⟩ K2 J2;refine gC (fun z=>?_) (fun z=>?_)
  ·have aW:=aI z;obtain ⟨y,hy'⟩:∃ y,(bs.take i)[k]? = some y:=aB (by simp; omega);have hy:=(xd hy').1;refine gi (ay hy') ?_;refine gC (fun z=>?_) (fun z=>?_)
   ·have h2:dB y.name b.name = true:=z;have e1:eh bs i = 6:=by unfold eh; rw [ci,ajf (by rw [h1]; decide),ajg (by rw [iD]; exact mo hy aW h2)]
    refine ah ?_;rw[d6 ae hj (by rw[e1];decide),e1];rfl
   have h2:dB y.name b.name=false:=z;refine ga aG ?_;exact aE J2 (k+1) ⟨aW,lJ hy hd h2⟩
  have aW:=aV hk z;subst aW;have b7:¬fP (bs.map Bd.name) k=true:=by rw[iD,hd];decide
  refine gl ?_;refine gC (fun z=>?_) (fun z=>?_)
  ·have h3:8 < b.pts.length:=dU z;have e1:eh bs k = 4:=by unfold eh; rw [ci,ajf (by rw [h1]; decide),ajf b7,ajg h3]
   refine ah ?_;rw[d6 ae hj (by rw[e1];decide),e1];rfl
  have h3:b.pts.length<=8:=jT z;have e1:eh bs k=er b.pts.length (dP b.pts):=by unfold eh;rw[ci,ajf (by rw[h1];decide),ajf b7,ajf oz]
  refine gl ?_;refine aK [0,4,11,12,13,44,45] [4] (fun(p:Nat)=>[pP 46 (i64 p)]) (fun _=>[]) (fun p=>p<=b.pts.length/\∀j,j<p->dP b.pts j=0) (fun p=>b.pts.length-p) 0 ⟨aii _,fun j h=>by omega⟩ ?_;rintro p ⟨hp,iV⟩ K3 J3;refine gC (fun z=>?_) (fun z=>?_)
  ·have eD:=aI z;obtain⟨m,hm⟩:=aB eD;have oy:b.pts.getD p default=m:=aP hm;have pY:=ah3 hm;have xO:=ph Mk.name hm;have xP:=lU.pts m pY;refine gi (ay hm) ?_;refine gc (uY m.name (lU.names m pY)) ?_;refine gC (fun z=>?_) (fun z=>?_)
   ·have h4:=dR z;have e2:dP b.pts p = 5:=by unfold dP; rw [oy,ajg h4]
    have e3:eh bs k=5:=by rw[e1,d6 eD iV (by rw[e2];decide),e2]
    refine ah ?_;rw[d6 ae hj (by rw[e3];decide),e3];rfl
   have h4:=eK z;refine gs (eF (.tmp rfl) (.none _) (.some _ (.tmp rfl) oz) T81 rfl T85 rfl oz (by simp only[ah6];omega) rfl) ?_;refine ge rfl ?_;refine aK [0,4,8,11,12,13,44,45,46] [4,8] (fun(q:Nat)=>[pP 59 (.lst 7 ((b.pts.take p).map Mk.av)),pP 60 (i64 p),pP 61 (i64 q)]) (fun _=>[]) (fun q=>q<=p/\(b.pts.take q).any (fun y=>dB y.name m.name)=false) (fun q=>p-q) 0 ⟨aii _,rfl⟩ ?_ (h1:=(.cons rfl (.of (xk 7 Mk.av b.pts p)) (.cons rfl (Sub.int (by simp;omega)) (.k .nil))));rintro q ⟨hq,l8⟩ K4 J4;refine gC (fun z=>?_) (fun z=>?_)
   ·have bD:=aI z;obtain ⟨y,hy'⟩:∃ y,(b.pts.take p)[q]? = some y:=aB (by simp; omega);have hy:=(xd hy').1;refine gi (ay hy') ?_;refine gC (fun z=>?_) (fun z=>?_)
    ·have h5:dB y.name m.name = true:=z;have e2:dP b.pts p = 6:=by unfold dP; rw [oy,ajf (by rw [h4]; decide),ajg (by rw [xO]; exact mo hy bD h5)]
     have e3:eh bs k=6:=by rw[e1,d6 eD iV (by rw[e2];decide),e2]
     refine ah ?_;rw[d6 ae hj (by rw[e3];decide),e3];rfl
    have h5:dB y.name m.name=false:=z;refine ga aG ?_;exact aE J4 (q+1) ⟨bD,lJ hy l8 h5⟩
   have bD:=aV hq z;subst bD;have xQ:¬fP (b.pts.map Mk.name) q=true:=by rw[xO,l8];decide
   refine gc (uo m.x xP.x) ?_;refine bP (fun _=>(uo m.y xP.y)) ?_;refine gC (fun z=>?_) (fun z=>?_)
   ·have h6:=rh z;have e2:dP b.pts q = 3:=by unfold dP; rw [oy,ajf (by rw [h4]; decide),ajf xQ,ajf (by rintro ⟨g1,g2⟩; rcases h6 with g | g; (rw [g1] at g; cases g); (rw [g2] at g; cases g))]
    have e3:eh bs k=3:=by rw[e1,d6 eD iV (by rw[e2];decide),e2]
    refine ah ?_;rw[d6 ae hj (by rw[e3];decide),e3];rfl
   have h6:=rz z;have e2:dP b.pts q=0:=by unfold dP;rw[oy,ajf (by rw[h4];decide),ajf xQ,ajg h6]
   refine ga aG ?_;exact aE J3 (q+1) ⟨eD,fun j h9=>by rcases aid j q with g |g;exact iV j g;(have:j=q:=by omega);subst this;exact e2⟩
  have eD:=aV hp z;subst eD;have e2:eh bs k=0:=e1.trans (pE iV);refine ga aG ?_;exact aE J1 (k+1) ⟨ae,fun j h9=>by rcases aid j k with g |g;exact hj j g;(have:j=k:=by omega);subst this;exact e2⟩
 have ae:=aV hi z;subst ae;refine ah ?_;rw[pE hj];rfl
theorem Yr(l:Li)(hl:l.ok)(j:Jt):FP 307 [l.av,j.av] (db (ew l j)):=by
 refine ak func307 ?_;refine gC (fun z=>?_) (fun z=>?_)
 ·have h1:=Ki z;refine ah ?_;unfold ew;rw[ajg h1];rfl
 have h1:=HC z;refine gl ?_;refine gc (tT j.a l.bo.length) ?_;refine cq ?_;refine bP (fun _=>(tT j.b l.bo.length)) ?_;refine gC (fun z=>?_) (fun z=>?_)
 ·have h2:=rh z;refine ah ?_;unfold ew;rw[ajf h1,ajg h2];rfl
 have h2:=rz z;have jr:¬(aX j.a l.bo.length=false\/aX j.b l.bo.length=false):=by rw[h2.1,h2.2];simp
 obtain⟨A,hA,pA,mA,zA0⟩:=sS h2.1;obtain⟨B,hB,pB,mB,zB0⟩:=sS h2.2;refine gC (fun z=>?_) (fun z=>?_)
 ·have h3:=dZ z;refine ah ?_;unfold ew;rw[ajf h1,ajf jr,ajg h3];rfl
 have h3:=dw z;refine gi (ay hB) ?_;refine gi (ay hA) ?_;refine gl ?_;refine gc (tT j.point A.pts.length) ?_;refine cq ?_;refine bP (fun _=>(tT j.on B.pts.length)) ?_;refine gD ?_;refine gC (fun z=>?_) (fun z=>?_)
 ·have h4:=rh z;refine ah ?_;unfold ew;rw[ajf h1,ajf jr,ajf h3,pA,pB,ajg h4];rfl
 have h4:=rz z;have l9:¬(aX j.point A.pts.length=false\/aX j.on B.pts.length=false):=by rw[h4.1,h4.2];simp
 refine gC (fun z=>?_) (fun z=>?_)
 ·have h5:=dZ z;refine gC (fun z=>?_) (fun z=>?_)
  ·have h6:=Ad z;refine ah ?_;unfold ew;rw[ajf h1,ajf jr,ajf h3,pA,pB,ajf l9,ajg h5,ajg h6];rfl
  have h6:=JL z;refine ah ?_;unfold ew;rw[ajf h1,ajf jr,ajf h3,pA,pB,ajf l9,ajg h5,ajf (by rw[h6];simp)];rfl
 have h5:=dw z;refine gl ?_;refine gc (tT j.to B.pts.length) ?_;refine gC (fun z=>?_) (fun z=>?_)
 ·have h6:=dR z;refine ah ?_;unfold ew;rw[ajf h1,ajf jr,ajf h3,pA,pB,ajf l9,ajf h5,ajg h6];rfl
 have h6:=eK z;obtain⟨m1,g1,d1,mm1,z1⟩:=vh h4.2;obtain⟨m2,g2,d2,mm2,z2⟩:=vh h6;have mo1:=(hl.bo B mB).pts m1 mm1;have mo2:=(hl.bo B mB).pts m2 mm2;refine gi (ay g1) ?_;refine gi (ay g2) ?_;refine gD ?_;refine gc (DO m1.x m2.x mo1.x mo2.x) ?_;refine bP (fun _=>(DO m1.y m2.y mo1.y mo2.y)) ?_;refine gC (fun z=>?_) (fun z=>?_)
 ·have h7:=H8 z;refine ah ?_;unfold ew;rw[ajf h1,ajf jr,ajf h3,pA,pB,ajf l9,ajf h5,ajf (by rw[h6];decide),d1,d2,ajg h7];rfl
 have h7:=Kw z;refine ah ?_;unfold ew;rw[ajf h1,ajf jr,ajf h3,pA,pB,ajf l9,ajf h5,ajf (by rw[h6];decide),d1,d2,ajf h7];rfl
theorem W0(l:Li)(hl:l.ok):FP 211 [l.av] (db (ez l)):=by
 have oA:=hl.lj;refine ak func211 ?_;refine gl ?_;refine gC (fun z=>?_) (fun z=>?_)
 ·have h0:16<l.jo.length:=dU z;refine ah ?_;unfold ez;rw[ajg h0];rfl
 have h0:l.jo.length<=16:=jT z;have e0:ez l=er l.jo.length (gh l):=by unfold ez;rw[ajf oz]
 refine gl ?_;refine aK [1,14,15] [1] (fun(i:Nat)=>[pP 16 (i64 i)]) (fun _=>[]) (fun i=>i<=l.jo.length/\∀j,j<i->gh l j=0) (fun i=>l.jo.length-i) 0 ⟨aii _,fun j h=>by omega⟩ ?_;rintro i ⟨hi,hj⟩ K1 J1;refine gC (fun z=>?_) (fun z=>?_)
 ·have ae:=aI z;obtain⟨b,hb⟩:=aB ae;have ci:l.jo.getD i default=b:=aP hb;have iD:=ph Jt.name hb;refine gi (ay hb) ?_;refine gc (uY b.name (hl.jnames b (ah3 hb))) ?_;refine gC (fun z=>?_) (fun z=>?_)
  ·have h1:=dR z;have e1:gh l i = 5:=by unfold gh; rw [ci,ajg h1]
   refine ah ?_;rw[e0,d6 ae hj (by rw[e1];decide),e1];rfl
  have h1:=eK z;refine gs (eF (.tmp rfl) (.none _) (.some _ (.tmp rfl) oz) T23 rfl T102 rfl oz (by simp only[ah6];omega) rfl) ?_;refine ge rfl ?_;refine aK [1,3,4,14,15,16] [1,4] (fun(k:Nat)=>[pP 29 (.lst 7 ((l.jo.take i).map Jt.av)),pP 30 (i64 i),pP 31 (i64 k)]) (fun _=>[]) (fun k=>k<=i/\(l.jo.take k).any (fun y=>dB y.name b.name)=false) (fun k=>i-k) 0 ⟨aii _,rfl⟩ ?_ (h1:=(.cons rfl (.of (xk 7 Jt.av l.jo i)) (.cons rfl (Sub.int (by simp;omega)) (.k .nil))));rintro k ⟨hk,hd⟩ K2 J2;refine gC (fun z=>?_) (fun z=>?_)
  ·have aW:=aI z;obtain ⟨y,hy'⟩:∃ y,(l.jo.take i)[k]? = some y:=aB (by simp; omega);have hy:=(xd hy').1;refine gi (ay hy') ?_;refine gC (fun z=>?_) (fun z=>?_)
   ·have h2:dB y.name b.name = true:=z;have e1:gh l i = 6:=by unfold gh; rw [ci,ajf (by rw [h1]; decide),ajg (by rw [iD]; exact mo hy aW h2)]
    refine ah ?_;rw[e0,d6 ae hj (by rw[e1];decide),e1];rfl
   have h2:dB y.name b.name=false:=z;refine ga aG ?_;exact aE J2 (k+1) ⟨aW,lJ hy hd h2⟩
  have aW:=aV hk z;subst aW;have b7:¬fP (l.jo.map Jt.name) k=true:=by rw[iD,hd];decide
  have e1:gh l k=ew l b:=by unfold gh;rw[ci,ajf (by rw[h1];decide),ajf b7]
  refine gc (Yr l hl b) ?_;refine gC (fun z=>?_) (fun z=>?_)
  ·have h3:=n7 z;refine ah ?_;rw[e0,d6 ae hj (by rw[e1];exact h3),e1]
  have h3:=n5 z;refine ga aG ?_;exact aE J1 (k+1) ⟨ae,fun j h9=>by rcases aid j k with g |g;exact hj j g;(have:j=k:=by omega);subst this;exact e1.trans h3⟩
 have ae:=aV hi z;subst ae;refine ah ?_;rw[e0,pE hj];rfl
theorem TX(l:Li)(hl:l.ok):FP 212 [l.av] (db (gK l)):=by
 have uL:=hl.ld;refine ak func212 ?_;refine gl ?_;refine gC (fun z=>?_) (fun z=>?_)
 ·have h0:2<l.drivers.length:=dU z;refine ah ?_;unfold gK;rw[ajg h0];rfl
 have h0:l.drivers.length<=2:=jT z;have e0:gK l=er l.drivers.length (dH l):=by unfold gK;rw[ajf oz]
 refine gl ?_;refine aK [1,15,16] [1] (fun(i:Nat)=>[pP 17 (i64 i)]) (fun _=>[]) (fun i=>i<=l.drivers.length/\∀j,j<i->dH l j=0) (fun i=>l.drivers.length-i) 0 ⟨aii _,fun j h=>by omega⟩ ?_;rintro i ⟨hi,hj⟩ K1 J1;refine gC (fun z=>?_) (fun z=>?_)
 ·have ae:=aI z;obtain⟨b,hb⟩:=aB ae;have ci:l.drivers.getD i default=b:=aP hb;have iD:=ph Dr.name hb;refine gi (ay hb) ?_;refine gc (uY b.name (hl.dnames b (ah3 hb))) ?_;refine gC (fun z=>?_) (fun z=>?_)
  ·have h1:=dR z;have e1:dH l i = 5:=by unfold dH; rw [ci,ajg h1]
   refine ah ?_;rw[e0,d6 ae hj (by rw[e1];decide),e1];rfl
  have h1:=eK z;refine gs (eF (.tmp rfl) (.none _) (.some _ (.tmp rfl) oz) T24 rfl T73 rfl oz (by simp only[ah6];omega) rfl) ?_;refine ge rfl ?_;refine aK [1,3,4,15,16,17] [1,4] (fun(k:Nat)=>[pP 30 (.lst 2 ((l.drivers.take i).map Dr.av)),pP 31 (i64 i),pP 32 (i64 k)]) (fun _=>[]) (fun k=>k<=i/\(l.drivers.take k).any (fun y=>dB y.name b.name)=false) (fun k=>i-k) 0 ⟨aii _,rfl⟩ ?_ (h1:=(.cons rfl (.of (xk 2 Dr.av l.drivers i)) (.cons rfl (Sub.int (by simp;omega)) (.k .nil))));rintro k ⟨hk,hd⟩ K2 J2;refine gC (fun z=>?_) (fun z=>?_)
  ·have aW:=aI z;obtain ⟨y,hy'⟩:∃ y,(l.drivers.take i)[k]? = some y:=aB (by simp; omega);have hy:=(xd hy').1;refine gi (ay hy') ?_;refine gC (fun z=>?_) (fun z=>?_)
   ·have h2:dB y.name b.name = true:=z;have e1:dH l i = 6:=by unfold dH; rw [ci,ajf (by rw [h1]; decide),ajg (by rw [iD]; exact mo hy aW h2)]
    refine ah ?_;rw[e0,d6 ae hj (by rw[e1];decide),e1];rfl
   have h2:dB y.name b.name=false:=z;refine ga aG ?_;exact aE J2 (k+1) ⟨aW,lJ hy hd h2⟩
  have aW:=aV hk z;subst aW;have b7:¬fP (l.drivers.map Dr.name) k=true:=by rw[iD,hd];decide
  refine gl ?_;refine gc (tT b.body l.bo.length) ?_;refine gC (fun z=>?_) (fun z=>?_)
  ·have h3:=dR z;have e1:dH l k = 9:=by unfold dH; rw [ci,ajf (by rw [h1]; decide),ajf b7,ajg h3]
   refine ah ?_;rw[e0,d6 ae hj (by rw[e1];decide),e1];rfl
  have h3:=eK z;refine gC (fun z=>?_) (fun z=>?_)
  ·have h4:=dZ z;have e1:dH l k = 7:=by unfold dH; rw [ci,ajf (by rw [h1]; decide),ajf b7,ajf (by rw [h3]; decide),ajg h4]
   refine ah ?_;rw[e0,d6 ae hj (by rw[e1];decide),e1];rfl
  have h4:=dw z;have e1:dH l k=if(l.drivers.take k).any (fun d=>decide (d.body=b.body))=true then 6 else 0:=by unfold dH;rw[ci,ajf (by rw[h1];decide),ajf b7,ajf (by rw[h3];decide),ajf h4]
  refine gs (eF (.tmp rfl) (.none _) (.some _ (.tmp rfl) oz) T24 rfl T73 rfl oz (by simp only[ah6];omega) rfl) ?_;refine ge rfl ?_;refine aK [1,4,15,16,17] [1,4] (fun(q:Nat)=>[pP 58 (.lst 2 ((l.drivers.take k).map Dr.av)),pP 59 (i64 k),pP 60 (i64 q)]) (fun _=>[]) (fun q=>q<=k/\(l.drivers.take q).any (fun d=>decide (d.body=b.body))=false) (fun q=>k-q) 0 ⟨aii _,rfl⟩ ?_ (h1:=(.cons rfl (.of (xk 2 Dr.av l.drivers k)) (.cons rfl (Sub.int (by simp;omega)) (.k .nil))));rintro q ⟨hq,l8⟩ K3 J3;refine gC (fun z=>?_) (fun z=>?_)
  ·have bD:=aI z;obtain ⟨y,hy'⟩:∃ y,(l.drivers.take k)[q]? = some y:=aB (by simp; omega);have hy:=(xd hy').1;refine gi (ay hy') ?_;refine gC (fun z=>?_) (fun z=>?_)
   ·have h5:decide (y.body = b.body) = true:=ajk (dZ z);have e2:dH l k = 6:=by rw [e1,ajg (mo hy bD h5)]
    refine ah ?_;rw[e0,d6 ae hj (by rw[e2];decide),e2];rfl
   have h5:decide (y.body=b.body)=false:=ajl (dw z);refine ga aG ?_;exact aE J3 (q+1) ⟨bD,lJ hy l8 h5⟩
  have bD:=aV hq z;subst bD;have e2:dH l q=0:=by rw[e1,l8];rfl
  refine ga aG ?_;exact aE J1 (q+1) ⟨ae,fun j h9=>by rcases aid j q with g |g;exact hj j g;(have:j=q:=by omega);subst this;exact e2⟩
 have ae:=aV hi z;subst ae;refine ah ?_;rw[e0,pE hj];rfl
theorem JR(l:Li)(hl:l.ok):FP 110 [l.av] (db (ax l)):=by
 have fJ:=hl.lb;refine ak func110 ?_;refine gc (uY l.name hl.name) ?_;refine gC (fun z=>?_) (fun z=>?_)
 ·have h1:=dR z;refine ah ?_;unfold ax;rw[ajg h1];rfl
 have h1:=eK z;refine gl ?_;refine gC (fun z=>?_) (fun z=>?_)
 ·have h2:=GU z;refine ah ?_;unfold ax;rw[ajf (by rw[h1];decide),ajg h2];rfl
 have h2:=JB z;refine gl ?_;refine gC (fun z=>?_) (fun z=>?_)
 ·have h3:8<l.bo.length:=dU z;refine ah ?_;unfold ax;rw[ajf (by rw[h1];decide),ajf h2,ajg h3];rfl
 have h3:l.bo.length<=8:=jT z;have e0:ax l=if il l≠0 then il l else if ez l≠0 then ez l else gK l:=by unfold ax;rw[ajf (by rw[h1];decide),ajf h2,ajf oz]
 refine gc (aah l.bo hl.bo fJ) ?_;refine gC (fun z=>?_) (fun z=>?_)
 ·have h4:il l≠0:=n7 z;refine ah ?_;rw[e0,ajg h4];rfl
 have h4:il l=0:=n5 z;refine gc (W0 l hl) ?_;refine gC (fun z=>?_) (fun z=>?_)
 ·have h5:=n7 z;refine ah ?_;rw[e0,ajf (by rw[h4];simp),ajg h5]
 have h5:=n5 z;refine gc (TX l hl) ?_;refine ah ?_;rw[e0,ajf (by rw[h4];simp),ajf (by rw[h5];simp)]
theorem Cz(d:Nat)(hd:aek d 1000=true)(l:Li)(hl:l.bo.length<=1000)(b:Nat)(hb:b<l.bo.length) :
  Con prog 289 [l.av,i64 b] [] (.ms d 1 0 l.bo.length) [(d,some (.row 1 ((cB l.bo.length b).map bl)))]:=by
 refine gF func289 (fun k z h=>by cases h) ?_;refine gl ?_;refine gs (f6 (.tmp rfl) T92 rfl T4 rfl rfl oz (by dsimp only;omega) rfl) ?_;refine gs (nH (.tmp rfl) (.tmp rfl) T92 rfl T4 rfl oz oz rfl) ?_;refine gs (de (.tmp rfl) rfl (by rw[aix,ajg (by simp;omega)]) rfl (.const _) rfl rfl T4 rfl rfl) ?_ (3,0);refine gW (Wk.of (sl:=[pP 5 (.ms 9 1 0 l.bo.length)]) (hp:=[pP 9 (.row 1 ((cB l.bo.length b).map bl))]) (.cons rfl (.of (by rw[ai6])) .nil) (.cons rfl (.of (by unfold cB;simp only[aja,ai7,ae9,ai6];rfl)) .nil)) ?_ (3,0);refine gW (Wk.rk (k:=9) (d:=900) rfl rfl) ?_;refine gR ?_;exact aJ.own1 rfl hd rfl
theorem Zn(l:Li)(hl:l.bo.length<=1000)(b:Nat)(hb:b<l.bo.length):FP 289 [l.av,i64 b] (.lst 1 ((cB l.bo.length b).map bl)):=by
 have h:=Con.freeze (by rw[ah6,jh];omega) (Cz 0 rfl l hl b hb);rw[ai9,aio (by rw[ah6,jh];exact aie _)]at h;exact h
theorem Wv(l:Li)(hl:l.ok)(b:Int):FP 403 [l.av,i64 b] (bl (sV l b)):=by
 have uL:=hl.ld;refine ak func403 ?_;refine gl ?_;refine aK [1,8,9] [] (fun(i:Nat)=>[pP 10 (i64 i)]) (fun _=>[]) (fun i=>i<=l.drivers.length/\(l.drivers.take i).any (fun d=>decide (d.body=b))=false) (fun i=>l.drivers.length-i) 0 ⟨aii _,rfl⟩ ?_;rintro i ⟨hi,hj⟩ K1 J1;refine gC (fun z=>?_) (fun z=>?_)
 ·have ae:=aI z;obtain⟨d,hd⟩:=aB ae;refine gi (ay hd) ?_;refine gC (fun z=>?_) (fun z=>?_)
  ·have h1:d.body=b:=dZ z;refine ah ?_;unfold sV;rw[List.any_eq_true.2 ⟨d,ah3 hd,ajk h1⟩];rfl
  have h1:d.body≠b:=dw z;refine ga aG ?_;exact aE J1 (i+1) ⟨ae,lJ hd hj (ajl h1)⟩
 have ae:=aV hi z;subst ae;rw[ail]at hj;refine ah ?_;unfold sV;rw[hj];rfl
theorem M2(l:Li)(hl:l.ok)(af:ax l=0)(kind body:Int)(oth:List Bool)(ho:oth.length=l.bo.length):FP 368 [l.av,i64 kind,i64 body,.lst 1 (oth.map bl)] (i64 (bC l kind body oth)):=by
 have oA:=hl.lj;refine ak func368 ?_;refine gl ?_;refine aK [1,2,3,12,13] [] (fun(i:Nat)=>[pP 14 (i64 i)]) (fun _=>[]) (fun i=>i<=l.jo.length/\∀j,j<i->(!mf kind body oth (l.jo.getD j default))=true) (fun i=>l.jo.length-i) 0 ⟨aii _,fun j h=>by omega⟩ ?_;rintro i ⟨hi,hj⟩ K1 J1;refine gC (fun z=>?_) (fun z=>?_)
 ·have ae:=aI z;obtain⟨j,ox⟩:=aB ae;have qf:l.jo.getD i default=j:=aP ox;obtain⟨i1,i2,_⟩:=ee af ox;have b1:=dM i1;have b2:=dM i2;obtain⟨va,PJ⟩:∃v,oth[j.a.toNat]?=some v:=aB oz;obtain⟨vb,PK⟩:∃v,oth[j.b.toNat]?=some v:=aB oz;have ea:kn oth j.a=va:=aP PJ;have eb:kn oth j.b=vb:=aP PK;refine gi (ay ox) ?_;refine mS (fun _=>(eT (n:=j.b.toNat) oz PK)) ?_;refine mS (fun _=>(eT (n:=j.a.toNat) oz PJ)) ?_;refine gC (fun z=>?_) (fun z=>?_)
  ·have h2 : mf kind body oth j = true := by rw [<- ML (va := va) (vb := vb) ea eb]; exact z
   refine ah ?_;unfold bC;rw[j5 ae hj (by rw[qf,h2];rfl)];rfl
  have h2:mf kind body oth j=false:=by rw[<- ML (va:=va) (vb:=vb) ea eb];exact z
  refine ga aG ?_;exact aE J1 (i+1) ⟨ae,fun k h9=>by rcases aid k i with g |g;exact hj k g;(have:k=i:=by omega);subst this;rw[qf,h2];rfl⟩
 have ae:=aV hi z;subst ae;refine ah ?_;unfold bC;rw[kt hj];rfl
theorem aay(l:Li)(hl:l.ok)(kw:List Bool)(b:Nat)(hb:b<kw.length):FP 369 [l.av,.lst 1 (kw.map bl),i64 b] (bl (eV l kw b)):=by
 obtain⟨v,hv⟩:=aB hb;have ev:kn kw (b:Int)=v:=aP (by rw[ai6];exact hv);refine ak func369 ?_;refine gi (ay hv) ?_;refine bP (fun _=>(Wv l hl b)) ?_;refine ah ?_;unfold eV;rw[ev];exact ajn bl (mG _ _)
theorem uX{l:Li}{kw:List Bool}(hl:l.ok)(af:ax l=0)(kind body:Int)(hk:kw.length=l.bo.length) :
  Con prog 368 [l.av,i64 kind,i64 body,.ms 1000 1 0 kw.length] [pP 1000 (.row 1 (kw.map bl))] (i64 (bC l kind body kw)) [pP 1000 (.row 1 (kw.map bl))]:=by
 refine Con.borrow (args:=[l.av,i64 kind,i64 body,.lst 1 (kw.map bl)]) 1000 1 (kw.map bl) rfl rfl rfl ?_ rfl (fun k' x h=>by cases h) (M2 l hl af kind body kw hk);intro j x' hj
 match j,hj with
 |0,hj=>cases hj;exact .inl rfl
 |1,hj=>cases hj;exact .inl rfl
 |2,hj=>cases hj;exact .inl rfl
 |3,hj=>cases hj;exact .inr ⟨0,kw.length,rfl,by simp,by rw[ai9,aio (by simp)];rfl⟩
theorem BL{l:Li}{kw:List Bool}(hl:l.ok)(b:Nat)(hb:b<kw.length) :
  Con prog 369 [l.av,.ms 1000 1 0 kw.length,i64 b] [pP 1000 (.row 1 (kw.map bl))] (bl (eV l kw b)) [pP 1000 (.row 1 (kw.map bl))]:=by
 refine Con.borrow (args:=[l.av,.lst 1 (kw.map bl),i64 b]) 1000 1 (kw.map bl) rfl rfl rfl ?_ rfl (fun k' x h=>by cases h) (aay l hl kw b hb);intro j x' hj
 match j,hj with
 |0,hj=>cases hj;exact .inl rfl
 |1,hj=>cases hj;exact .inr ⟨0,kw.length,rfl,by simp,by rw[ai9,aio (by simp)];rfl⟩
 |2,hj=>cases hj;exact .inl rfl
theorem VF(l:Li)(hl:l.ok)(af:ax l=0)(kw:List Bool)(hk:kw.length=l.bo.length):Con prog 290 [l.av,.ms 1000 1 0 kw.length] [pP 1000 (.row 1 (kw.map bl))] (.tup [((du l kw).getD default).av,bl (du l kw).isSome]) [pP 1000 (.row 1 (kw.map bl))]:=by
 have uL:=hl.ld;refine gF func290 (fun k z h=>eU h) ?_;refine gl ?_;refine aK [2,4,10,11] [2,4,1000] (fun(i:Nat)=>[pP 1 (.ms 1000 1 0 kw.length),pP 12 (i64 i)]) (fun _=>[]) (fun i=>i<=l.drivers.length/\∀j,j<i->(!gd l kw j)=true) (fun i=>l.drivers.length-i) 0 ⟨aii _,fun j h=>by omega⟩ ?_;rintro i ⟨hi,hj⟩ K1 J1;refine gC (fun y=>?_) (fun y=>?_)
 ·have ae:=aI y;obtain ⟨d,hd⟩:=aB ae;have fL:l.drivers.getD i default = d:=aP hd;have hb:=dM (qj af hd);obtain ⟨v,hv⟩:∃ v,kw[d.body.toNat]? = some v:=aB oz;have ev:kn kw d.body = v:=aP hv;refine gi (ay hd) ?_;refine gs (nH (.tmp rfl) (.tmp rfl) T92 rfl T4 rfl oz oz rfl) ?_;refine gs (dq (.tmp rfl) rfl (by rw [ae9,aib,hv]; rfl) T4 rfl rfl rfl) ?_;refine gC (fun y=>?_) (fun y=>?_)
  ·have h2 : gd l kw i = false := by unfold gd; rw [fL, ev, y]; rfl
   refine ga aG ?_;exact aE J1 (i+1) ⟨ae,fun k h9=>by rcases aid k i with g |g;exact hj k g;(have:k=i:=by omega);subst this;rw[h2];rfl⟩
  have lY:v=false:=y;refine gt (pz (uX hl af 0 d.body hk) (.cons (.tmp rfl) (.cons (.const _) (cS rfl rfl))) rfl rfl rfl) ?_;refine gC (fun y=>?_) (fun y=>?_)
  ·have h2 : gd l kw i = true := by unfold gd; rw [fL, ev, lY, ajk (NC y)]; rfl
   have hg:du l kw=some ⟨0,[d.body],[bC l 0 d.body kw],i⟩:=by unfold du;rw[j5 ae hj (by rw[h2];rfl),<- fL];rfl
   refine gR ?_;rw[hg];exact aJ.keep (d8 rfl)
  have h2:gd l kw i=false:=by unfold gd;rw[fL,ajl (Mp y),ahd]
  refine ga aG ?_;exact aE J1 (i+1) ⟨ae,fun k h9=>by rcases aid k i with g |g;exact hj k g;(have:k=i:=by omega);subst this;rw[h2];rfl⟩
 have ae:=aV hi y;subst ae;have hg:du l kw=none:=by unfold du;rw[kt hj];rfl
 refine gR ?_;exact aJ.sub (aJ.keep (d8 rfl)) (by rw[hg];exact Sub.tup (.cons tb (.cons (.refl _) .nil)))
theorem Xu(l:Li)(hl:l.ok)(af:ax l=0)(kw:List Bool)(hk:kw.length=l.bo.length):Con prog 291 [l.av,.ms 1000 1 0 kw.length] [pP 1000 (.row 1 (kw.map bl))] (.tup [((cH l kw).getD default).av,bl (cH l kw).isSome]) [pP 1000 (.row 1 (kw.map bl))]:=by
 have h8:=(ft af).2.2.2.1;refine gF func291 (fun k z h=>eU h) ?_;refine gl ?_;refine aK [2,4,12,13] [2,4,1000] (fun(i:Nat)=>[pP 1 (.ms 1000 1 0 kw.length),pP 14 (i64 i)]) (fun _=>[]) (fun i=>i<=l.bo.length/\∀j,j<i->(ik l kw j).isNone=true) (fun i=>l.bo.length-i) 0 ⟨aii _,fun j h=>by omega⟩ ?_;rintro i ⟨hi,hj⟩ K1 J1;refine gC (fun y=>?_) (fun y=>?_)
 ·have ae:=aI y;refine ga aG ?_;refine aK [2,4,6,12,13,14] [2,4,1000] (fun (k:Nat)=>[pP 1 (.ms 1000 1 0 kw.length),pP 7 (i64 (i + 1 + k:Nat))]) (fun _=>[]) (fun k=>i + 1 + k <= l.bo.length /\ ∀ j,j < k -> (!df l kw i (i + 1 + j)) = true) (fun k=>l.bo.length - k) 0 ⟨by omega,fun j h=>by omega⟩ ?_;rintro k ⟨hkl,gU⟩ K2 J2;refine gl ?_;refine gC (fun y=>?_) (fun y=>?_)
  ·have aW:i+1+k<l.bo.length:=aI y;refine gt (pz (BL hl i oz) (a7 rfl rfl rfl) rfl rfl rfl) ?_;refine gu (fX rfl rfl rfl (fun h=>pz (BL hl (i+1+k) oz) (.cons (.opt rfl (o1 h)) (.cons (.opt rfl (o1 h)) (.cons (.opt rfl (o1 h)) .nil))) rfl rfl rfl)) ?_;refine gC (fun y=>?_) (fun y=>?_)
   ·have h2 : df l kw i (i + 1 + k) = false := by unfold df; rw [show (eV l kw i && eV l kw ((i + 1 + k : Nat) : Int)) = false from by rcases rh y with g | g; (rw [g]; rfl); (rw [g, ahd])]; rfl
    refine ga aG ?_;exact aE J2 (k+1) ⟨by omega,fun j h9=>by rcases aid j k with g |g;exact gU j g;(have:j=k:=by omega);subst this;rw[h2];rfl⟩
   have uM:=rz y;refine gt (pz (uX hl af 0 i hk) (.cons (.tmp rfl) (.cons (.const _) (cS rfl rfl))) rfl rfl rfl) ?_;refine gt (pz (uX hl af 0 (i+1+k:Nat) hk) (.cons (.tmp rfl) (.cons (.const _) (cS rfl rfl))) rfl rfl rfl) ?_;refine gc (Zn l oz (i+1+k) aW) ?_;refine gc (M2 l hl af 0 i (cB l.bo.length ((i+1+k:Nat):Int)) (jh _ _)) ?_;refine gD ?_;refine gC (fun y=>?_) (fun y=>?_)
   ·have h2 : df l kw i (i + 1 + k) = true := by unfold df; rw [uM.1, uM.2]; exact (zE.symm.trans y)
    have jq:ik l kw i=some (i+1+k):=by unfold ik;rw[j5 oz gU (by rw[h2];rfl),ah1];congr 1;omega
    have hg:cH l kw=some (ia l kw i (i+1+k)):=by unfold cH;rw[j5 ae hj (by rw[jq];rfl),ah1,jq]
    refine gR ?_;rw[hg];exact aJ.keep (d8 rfl)
   have h2:df l kw i (i+1+k)=false:=by unfold df;rw[show(decide (0<=bC l 0 i kw)&&decide (0<=bC l 0 ((i+1+k:Nat):Int) kw)&&decide (0<=bC l 0 i (cB l.bo.length ((i+1+k:Nat):Int))))=false from zE.symm.trans y,ahd]
   refine ga aG ?_;exact aE J2 (k+1) ⟨by omega,fun j h9=>by rcases aid j k with g |g;exact gU j g;(have:j=k:=by omega);subst this;rw[h2];rfl⟩
  have aW:¬i+1+k<l.bo.length:=fun h=>by have h1:=qt y;omega
  have jq:ik l kw i=none:=by unfold ik;rw[show l.bo.length-(i+1)=k by omega,kt gU];rfl
  refine ga aG ?_;exact aE J1 (i+1) ⟨ae,fun j h9=>by rcases aid j i with g |g;exact hj j g;(have:j=i:=by omega);subst this;rw[jq];rfl⟩
 have ae:=aV hi y;have hg:cH l kw=none:=by unfold cH;rw[<- ae,kt hj];rfl
 refine gR ?_;exact aJ.sub (aJ.keep (d8 rfl)) (by rw[hg];exact Sub.tup (.cons tb (.cons (.refl _) .nil)))
theorem SR(l:Li)(hl:l.ok)(af:ax l=0)(kw:List Bool)(hk:kw.length=l.bo.length):Con prog 292 [l.av,.ms 1000 1 0 kw.length] [pP 1000 (.row 1 (kw.map bl))] (.tup [((d5 l kw).getD default).av,bl (d5 l kw).isSome]) [pP 1000 (.row 1 (kw.map bl))]:=by
 have h8:=(ft af).2.2.2.1;refine gF func292 (fun k z h=>eU h) ?_;refine gl ?_;refine aK [2,4,11,12] [2,4,1000] (fun(i:Nat)=>[pP 1 (.ms 1000 1 0 kw.length),pP 13 (i64 i)]) (fun _=>[]) (fun i=>i<=l.bo.length/\∀j,j<i->(!fV l kw j)=true) (fun i=>l.bo.length-i) 0 ⟨aii _,fun j h=>by omega⟩ ?_;rintro i ⟨hi,hj⟩ K1 J1;refine gC (fun y=>?_) (fun y=>?_)
 ·have ae:=aI y;refine gt (pz (BL hl i oz) (a7 rfl rfl rfl) rfl rfl rfl) ?_;refine gC (fun y=>?_) (fun y=>?_)
  ·have h2 : fV l kw i = false := by unfold fV; rw [dR y]; rfl
   refine ga aG ?_;exact aE J1 (i+1) ⟨ae,fun k h9=>by rcases aid k i with g |g;exact hj k g;(have:k=i:=by omega);subst this;rw[h2];rfl⟩
  have hf:=eK y;refine gt (pz (uX hl af 0 i hk) (.cons (.tmp rfl) (.cons (.const _) (cS rfl rfl))) rfl rfl rfl) ?_;refine gt (pz (uX hl af 1 i hk) (.cons (.tmp rfl) (.cons (.const _) (cS rfl rfl))) rfl rfl rfl) ?_;refine gD ?_;refine gC (fun y=>?_) (fun y=>?_)
  ·have h2 : fV l kw i = false := by unfold fV; rw [HN y, ahd]
   refine ga aG ?_;exact aE J1 (i+1) ⟨ae,fun k h9=>by rcases aid k i with g |g;exact hj k g;(have:k=i:=by omega);subst this;rw[h2];rfl⟩
  obtain⟨p0,s0⟩:=JA y;have s1:=(oM (l:=l) (kind:=1) (body:=i) (oth:=kw)).2;have h2:fV l kw i=true:=by unfold fV;rw[hf,ajk p0,ajk s0];rfl
  obtain⟨j,ox⟩:∃j,l.jo[(bC l 1 i kw).toNat]?=some j:=aB oz;have qf:l.jo.getD (bC l 1 i kw).toNat default=j:=aP ox;have hg:d5 l kw=some (iP l kw i):=by unfold d5;rw[j5 ae hj (by rw[h2];rfl),ah1]
  refine gi (eT (n:=(bC l 1 i kw).toNat) oz ox) ?_;refine gC (fun y=>?_) (fun y=>?_)
  ·have r4:j.a=i:=dZ y;refine gR ?_;rw[hg];unfold iP;rw[qf];simp only[ah0,ajg r4]
   exact aJ.keep (d8 rfl)
  have r4:j.a≠i:=dw y;refine gR ?_;rw[hg];unfold iP;rw[qf];simp only[ah0,ajf r4]
  exact aJ.keep (d8 rfl)
 have ae:=aV hi y;have hg:d5 l kw=none:=by unfold d5;rw[<- ae,kt hj];rfl
 refine gR ?_;exact aJ.sub (aJ.keep (d8 rfl)) (by rw[hg];exact Sub.tup (.cons tb (.cons (.refl _) .nil)))
theorem Dm{k:List Bool}{bs:List Int}{q:Nat}{x:Int}(h:bs[q]?=some x):ba k (bs.drop q)=ba (k.set x.toNat true) (bs.drop (q+1)):=by
 have hi:=(afl.1 h).1;rw[afk hi,(afl.1 h).2];rfl
theorem RY{l:Li}{n:Nat}{kw:List Bool}{out:List Gr}{g:Gr}(h:bY l kw=some g):cw l (n+1) kw out=cw l n (ba kw g.bo) (out++[g]):=by
 show(match bY l kw with |none=>_ |some g=>_)=_;rw[h]
theorem YJ{l:Li}{n:Nat}{kw:List Bool}{out:List Gr}(h:bY l kw=none):cw l n kw out=(kw,out):=by
 cases n with
 |zero=>rfl
 |succ n=>show(match bY l kw with |none=>_ |some g=>_)=_;rw[h]
theorem BN{α:Type}{o:Option α}(h:o.isSome=false):o=none:=by cases o <;> simp_all
theorem H3{α:Type}{a b:Option α}(h:a.isSome=true):a=a.or b:=by cases a <;> simp_all
theorem RU{l:Li}{kw:List Bool}(h:(du l kw).or (cH l kw)=none):bY l kw=d5 l kw:=by
 unfold bY;rw[<- Option.or_assoc,h];rfl
theorem ace{l:Li}{kw:List Bool}(h:((du l kw).or (cH l kw)).isSome=true):bY l kw=(du l kw).or (cH l kw):=by
 unfold bY;rw[<- Option.or_assoc];exact(H3 h).symm
theorem NP(l:Li)(hl:l.ok)(af:ax l=0):FP 191 [l.av] (.lst 4 ((ce l).map Gr.av)):=by
 have h8:=(ft af).2.2.2.1;have h0:=(ft af).2.2.2.2;refine ak func191 ?_;refine gt (br (Cz 900 rfl l oz 0 oz) (.cons (.tmp rfl) (.cons (.const _) .nil)) bT rfl rfl) ?_;refine gl ?_;refine gW (Wk.virt 901 4 rfl) ?_;refine jf [1,13] [1] (fun(i:Nat)(kw:List Bool)(out:List Gr)=>[pP 3 (.ms 900 1 0 kw.length),pP 4 (.ms 901 4 0 out.length),pP 14 (i64 i)]) (fun _ kw out=>[pP 900 (.row 1 (kw.map bl)),pP 901 (.row 4 (out.map Gr.av))]) (fun i kw out=>i<=l.bo.length/\kw.length=l.bo.length/\out.length<=i/\cw l (l.bo.length-i) kw out=cw l l.bo.length (cB l.bo.length 0) []) (fun i _ _=>l.bo.length-i) 0 (cB l.bo.length 0) ([]) ⟨aii _,jh _ _,aie _,rfl⟩ ?_ (h1:=(.cons rfl (.of (by rw[jh])) (.k (.k .nil))))
 rintro i kw out ⟨hi,hk,kZ,uM⟩ K1 J1;refine gC (fun z=>?_) (fun z=>?_) (st2:=(18,0))
 ·have ae:=aI z;have fK:=Con.rekey1 900 rfl rfl rfl (VF l hl af kw hk);have Bt:=Con.rekey1 900 rfl rfl rfl (Xu l hl af kw hk);have iT:=Con.rekey1 900 rfl rfl rfl (SR l hl af kw hk);refine gt (br fK (cS rfl rfl) bT rfl rfl) ?_;refine Fu [1,5,13,14] [1,900,901] (fun(o:Option Gr)=>[pP 3 (.ms 900 1 0 kw.length),pP 4 (.ms 901 4 0 out.length),pP 6 (bl o.isSome)]) (fun o=>[pP 5 (.box (o.getD default).av.cells)]) (fun o=>o=(du l kw).or (cH l kw)) ?_ ?_
  ·intro K2 J2;refine gC (fun z=>?_) (fun z=>?_)
   ·refine gt (br Bt (cS rfl rfl) bT rfl rfl) ?_;exact ta J2 (cH l kw) (by rw[BN (dR z)];rfl)
   exact ta J2 (du l kw) (H3 (eK z))
  rintro o ho;refine Fu [1,5,13,14] [1,900,901] (fun(og:Option Gr)=>[pP 3 (.ms 900 1 0 kw.length),pP 4 (.ms 901 4 0 out.length),pP 6 (bl og.isSome)]) (fun og=>[pP 5 (.box (og.getD default).av.cells)]) (fun og=>og=bY l kw) ?_ ?_
  ·intro K3 J3;refine gC (fun z=>?_) (fun z=>?_)
   ·refine gt (br iT (cS rfl rfl) bT rfl rfl) ?_;exact ta J3 (d5 l kw) (by have:=BN (dR z);rw[ho]at this;exact(RU this).symm)
   exact ta J3 o (by rw[ho];exact(ace (by rw[<- ho];exact eK z)).symm)
  rintro og p7;refine gC (fun z=>?_) (fun z=>?_) (st1:=(18,0))
  ·have hn : bY l kw = none := by rw [<- p7]; exact BN (dR z)
   have jK:ce l=out:=by unfold ce;rw[<- uM,YJ hn]
   refine gW ((Wk.freeze (k:=901) rfl).trans<|Wk.of (sl:=[pP 4 (.lst 4 ((ce l).map Gr.av))]) (hp:=[]) (.cons rfl (.of (by rw[jK,b8 (by rw[ah6])])) .nil) .nil) ?_;refine ah ?_;rfl
  obtain⟨g,hg⟩:∃g,og=some g:=Option.isSome_iff_exists.1 (eK z);have PL:bY l kw=some g:=by rw[<- p7,hg]
  have js:=Cr af PL;subst hg;refine gs (dX (.tmp rfl) rfl (by rw[ah6]) (.tmp rfl) T53 rfl T104 rfl rfl (by dsimp only;simp only[aij,aiv];omega) rfl rfl) ?_ (12,0);refine gW (Wk.of (sl:=[pP 1 (.ptr 1 0),pP 3 (.ms 900 1 0 kw.length),pP 4 (.ms 43 4 0 (out++[g]).length),pP 5 (.ptr 5 0),pP 13 (i64 l.bo.length),pP 14 (i64 i)]) (hp:=[pP 1 (.box l.av.cells),pP 5 (.box g.av.cells),pP 900 (.row 1 (kw.map bl)),pP 43 (.row 4 ((out++[g]).map Gr.av))]) (.k (.k (.cons rfl (.of (by rw[ai0];rfl)) (.k (.k (.k .nil)))))) (.k (.k (.k (.cons rfl (.of (by rw[ai4];rfl)) .nil))))) ?_ (12,0)
  refine gW (Wk.rk (k:=43) (d:=901) rfl rfl) ?_;refine gl ?_;refine fF [1,13,14,45,46] [1,901] (fun(q:Nat)(kk:List Bool)=>[pP 3 (.ms 900 1 0 kk.length),pP 4 (.ms 901 4 0 (out++[g]).length),pP 47 (i64 q)]) (fun _ kk=>[pP 900 (.row 1 (kk.map bl))]) (fun q kk=>q<=g.bo.length/\kk.length=l.bo.length/\ba kk (g.bo.drop q)=ba kw g.bo) (fun q _=>g.bo.length-q) 0 kw ⟨aii _,hk,rfl⟩ ?_;rintro q kk ⟨hq,cp,fZ⟩ K4 J4;refine gC (fun z=>?_) (fun z=>?_)
  ·have bD:=aI z;obtain⟨x,hx⟩:=aB bD;have ma:=js.b x (ah3 hx);obtain⟨v,hv⟩:∃v,kk[x.toNat]?=some v:=aB oz;refine gi (ay hx) ?_;refine gs (nH (.tmp rfl) (.tmp rfl) T92 rfl T4 rfl oz oz rfl) ?_;refine gs (de (.tmp rfl) rfl (by rw[ae9,aib,hv];rfl) rfl (.const _) rfl rfl T4 rfl rfl) ?_;refine ga (ya (by have:=js.lb;unfold az;omega)) ?_;exact fC J4 (q+1) (kk.set x.toNat true) ⟨bD,by rw[aje];exact cp,by rw[<- Dm hx];exact fZ⟩ (hw:=Wk.of (.cons rfl (.of (by rw[aje])) (.k (.k (.k (.k (.k (.k (.k .nil)))))))) (.cons rfl (.of (by rw[aja,ae9];rfl)) (.k (.k .nil))))
  have bD:=aV hq z;have Gt:kk=ba kw g.bo:=by rw[bD,drop_length]at fZ;exact fZ
  refine ga aG ?_;exact ip J1 (i+1) kk (out++[g]) ⟨ae,cp,by rw[ai0];simp only[aij,aiv];omega,by rw[Gt,<- RY PL,<- uM];congr 1;omega⟩
 have ae:=aV hi z;have jK:ce l=out:=by unfold ce;rw[<- uM,show l.bo.length-i=0 by omega];rfl
 refine gW ((Wk.freeze (k:=901) rfl).trans<|Wk.of (sl:=[pP 4 (.lst 4 ((ce l).map Gr.av))]) (hp:=[]) (.cons rfl (.of (by rw[jK,b8 (by rw[ah6])])) .nil) .nil) ?_;refine ah ?_;rfl
theorem Mx{α:Type}{f:List Bool->α->List Bool}{k:List Bool}{l:List α}{i:Nat}{x:α}(h:l[i]?=some x):(l.drop i).foldl f k=(l.drop (i+1)).foldl f (f k x):=by
 have hi:=(afl.1 h).1;rw[afk hi,(afl.1 h).2];rfl
def iO(k:List Bool)(i:Nat):List Int:=((List.range i).filter (fun j=>!k.getD j false)).map (fun j:Nat=>((j:Nat):Int))
theorem MN{k:List Bool}{i:Nat}(h:k.getD i false=false):iO k (i+1)=iO k i++[(i:Int)]:=by
 unfold iO;rw[aft,List.filter_append,ai4,List.filter_cons,h];rfl
theorem ON{k:List Bool}{i:Nat}(h:k.getD i false=true):iO k (i+1)=iO k i:=by
 unfold iO;rw[aft,List.filter_append,ai4,List.filter_cons,h];simp
theorem yt(k:List Bool)(i:Nat):(iO k i).length<=i:=by
 unfold iO;rw[ah6];exact aiw (List.length_filter_le _ _) (by simp)
theorem tG{α:Type}{f:α->List Int}:∀(gs:List α)(k:List Bool),(gs.foldl (fun k g=>ba k (f g)) k).length=k.length
 |[],k=>rfl
 |g::gs,k=>by rw[af1,tG gs,lF]
theorem YA(l:Li):(eY (bW l)).length<=l.bo.length:=by
 have h:=yt (bW l) (bW l).length;have e:(bW l).length=l.bo.length:=by unfold bW;rw[tG,jh]
 rw[e]at h;unfold eY;rw[e];exact h
theorem RQ(l:Li):(eY (fo l)).length<=l.jo.length:=by
 have h:=yt (fo l) (fo l).length;have e:(fo l).length=l.jo.length:=by unfold fo;rw[tG,aiu]
 rw[e]at h;unfold eY;rw[e];exact h
theorem YO(l:Li)(hl:l.ok)(af:ax l=0):FP 190 [l.av] (.tup [.lst 1 ((eY (bW l)).map i64),.lst 1 ((eY (fo l)).map i64)]):=by
 have h8:=(ft af).2.2.2.1;have h0:=(ft af).2.2.2.2;have Gu:l.jo.length<=16:=by have:=(ft af).2.1;unfold ez at this;split at this;cases this;omega
 obtain⟨js,PM⟩:=yX af;refine ak func190 ?_;refine gt (br (Cz 900 rfl l oz 0 oz) (.cons (.tmp rfl) (.cons (.const _) .nil)) bT rfl rfl) ?_;refine gl ?_;refine gs (f6 (.tmp rfl) T92 rfl T4 rfl rfl oz (by dsimp only;omega) rfl) ?_;refine gD ?_ (2,0);refine gW (Wk.of (sl:=[pP 1 (.ptr 1 0),pP 2 (nS),pP 3 (nS),pP 4 (.ms 900 1 0 (cB l.bo.length 0).length),pP 5 (.ms 21 1 0 (afv l.jo.length false).length)]) (hp:=[pP 1 (.box l.av.cells),pP 900 (.row 1 ((cB l.bo.length 0).map bl)),pP 21 (.row 1 ((afv l.jo.length false).map bl))]) (.k (.k (.k (.cons rfl (.of (by rw[jh])) (.cons rfl (.of (by rw[aiu,ai6])) .nil))))) (.k (.k (.cons rfl (.of (by rw[ai7,ai6];rfl)) .nil)))) ?_ (2,0)
 refine gW (Wk.rk (k:=21) (d:=901) rfl rfl) ?_;refine gc (NP l hl af) ?_;refine gl ?_;refine jf [1,2,3,23,24] [1] (fun(i:Nat)(k1 k2:List Bool)=>[pP 4 (.ms 900 1 0 k1.length),pP 5 (.ms 901 1 0 k2.length),pP 25 (i64 i)]) (fun _ k1 k2=>[pP 900 (.row 1 (k1.map bl)),pP 901 (.row 1 (k2.map bl))]) (fun i k1 k2=>i<=(ce l).length/\k1.length=l.bo.length/\k2.length=l.jo.length/\((ce l).drop i).foldl (fun k g=>ba k g.bo) k1=bW l/\((ce l).drop i).foldl (fun k g=>ba k g.jo) k2=fo l) (fun i _ _=>(ce l).length-i) 0 (cB l.bo.length 0) (afv l.jo.length false) ⟨aii _,jh _ _,aiu,rfl,rfl⟩ ?_
 rintro i k1 k2 ⟨hi,iz,cD,Gv,Gx⟩ K1 J1;refine gC (fun z=>?_) (fun z=>?_)
 ·have ae:=aI z;obtain⟨g,hg⟩:=aB ae;have Bu:=js g (ah3 hg);have fJ:=Bu.lb;have oA:=Bu.lj;refine gi (ay hg) ?_;refine gl ?_;refine fF [1,2,3,7,23,24,25,30,31] [1,7,901] (fun(q:Nat)(kk:List Bool)=>[pP 4 (.ms 900 1 0 kk.length),pP 5 (.ms 901 1 0 k2.length),pP 32 (i64 q)]) (fun _ kk=>[pP 900 (.row 1 (kk.map bl))]) (fun q kk=>q<=g.bo.length/\kk.length=l.bo.length/\ba kk (g.bo.drop q)=ba k1 g.bo) (fun q _=>g.bo.length-q) 0 k1 ⟨aii _,iz,rfl⟩ ?_;rintro q kk ⟨hq,cp,fZ⟩ K2 J2;refine gC (fun z=>?_) (fun z=>?_)
  ·have bD:=aI z;obtain⟨x,hx⟩:=aB bD;have ma:=Bu.b x (ah3 hx);obtain⟨v,hv⟩:∃v,kk[x.toNat]?=some v:=aB oz;refine gi (ay hx) ?_;refine gs (nH (.tmp rfl) (.tmp rfl) T92 rfl T4 rfl oz oz rfl) ?_;refine gs (de (.tmp rfl) rfl (by rw[ae9,aib,hv];rfl) rfl (.const _) rfl rfl T4 rfl rfl) ?_;refine ga aG ?_;exact fC J2 (q+1) (kk.set x.toNat true) ⟨bD,by rw[aje];exact cp,by rw[<- Dm hx];exact fZ⟩ (hw:=Wk.of (.cons rfl (.of (by rw[aje])) (.k (.k (.k (.k (.k (.k (.k (.k (.k (.k (.k .nil)))))))))))) (.cons rfl (.of (by rw[aja,ae9];rfl)) (.k (.k (.k .nil)))))
  have bD:=aV hq z;have Gt:kk=ba k1 g.bo:=by rw[bD,drop_length]at fZ;exact fZ
  refine gl ?_;refine fF [1,2,3,23,24,25,41,42] [1,900] (fun(p:Nat)(jj:List Bool)=>[pP 4 (.ms 900 1 0 kk.length),pP 5 (.ms 901 1 0 jj.length),pP 43 (i64 p)]) (fun _ jj=>[pP 901 (.row 1 (jj.map bl))]) (fun p jj=>p<=g.jo.length/\jj.length=l.jo.length/\ba jj (g.jo.drop p)=ba k2 g.jo) (fun p _=>g.jo.length-p) 0 k2 ⟨aii _,cD,rfl⟩ ?_;rintro p jj ⟨hp,oB,Gy⟩ K3 J3;refine gC (fun z=>?_) (fun z=>?_)
  ·have eD:=aI z;obtain⟨x,hx⟩:=aB eD;have ma:=Bu.j x (ah3 hx);obtain⟨v,hv⟩:∃v,jj[x.toNat]?=some v:=aB oz;refine gi (ay hx) ?_;refine gs (nH (.tmp rfl) (.tmp rfl) T92 rfl T4 rfl oz oz rfl) ?_;refine gs (de (.tmp rfl) rfl (by rw[ae9,aib,hv];rfl) rfl (.const _) rfl rfl T4 rfl rfl) ?_;refine ga aG ?_;exact fC J3 (p+1) (jj.set x.toNat true) ⟨eD,by rw[aje];exact oB,by rw[<- Dm hx];exact Gy⟩ (hw:=Wk.of (.k (.cons rfl (.of (by rw[aje])) (.k (.k (.k (.k (.k (.k (.k (.k (.k .nil))))))))))) (.cons rfl (.of (by rw[aja,ae9];rfl)) (.k (.k .nil))))
  have eD:=aV hp z;have adn:jj=ba k2 g.jo:=by rw[eD,drop_length]at Gy;exact Gy
  refine ga aG ?_;exact ip J1 (i+1) kk jj ⟨ae,cp,oB,by rw[Gt,<- Gv,Mx hg],by rw[adn,<- Gx,Mx hg]⟩
 have ae:=aV hi z;have e1:k1=bW l:=by rw[ae,drop_length]at Gv;exact Gv
 have e2:k2=fo l:=by rw[ae,drop_length]at Gx;exact Gx
 refine gW (Wk.virt 902 1 rfl) ?_;refine aK [3,53] [900,901] (fun(i:Nat)=>[pP 2 (.ms 902 1 0 (iO k1 i).length),pP 5 (.ms 901 1 0 k2.length),pP 52 (.ms 900 1 0 k1.length),pP 54 (i64 i)]) (fun i=>[pP 902 (.row 1 ((iO k1 i).map i64))]) (fun i=>i<=k1.length) (fun i=>k1.length-i) 0 (aii _) ?_;rintro i ha K4 J4;refine gC (fun z=>?_) (fun z=>?_) (st2:=(22,0))
 ·have xR:=aI z;obtain ⟨v,hv⟩:=aB xR;have xS:k1.getD i false = v:=aP hv;have uI:=yt k1 i;refine gs (nH (.tmp rfl) (.tmp rfl) T92 rfl T4 rfl oz oz rfl) ?_;refine gs (dq (.tmp rfl) rfl (by rw [ae9,ai6,aib,hv]; rfl) T4 rfl rfl rfl) ?_;refine gC (fun z=>?_) (fun z=>?_)
  ·have hu := MN (k := k1) (i := i) (by rw [xS]; exact dR z);refine gs (dX (.tmp rfl) rfl (by rw [ah6]) (.tmp rfl) T30 rfl T3 rfl rfl (by dsimp only; simp only [aij,aiv]; omega) rfl rfl) ?_ (21,0);refine gW (Wk.of (sl:=[pP 2 (.ms 64 1 0 (iO k1 (i + 1)).length),pP 3 (nS),pP 5 (.ms 901 1 0 k2.length),pP 52 (.ms 900 1 0 k1.length),pP 53 (i64 k1.length),pP 54 (i64 i)]) (hp:=[pP 900 (.row 1 (k1.map bl)),pP 901 (.row 1 (k2.map bl)),pP 64 (.row 1 ((iO k1 (i + 1)).map i64))]) (.cons rfl (.of (by rw [hu,ai0]; rfl)) (.k (.k (.k (.k (.k .nil)))))) (.k (.k (.cons rfl (.of (by rw [hu,ai4]; rfl)) .nil)))) ?_ (21,0)
   refine gW (Wk.rk (k:=64) (d:=902) rfl rfl) ?_;refine ga aG ?_;exact aE J4 (i+1) xR (hw:=Wk.of (.cons rfl (.of (by first |rw[hu];done |rfl)) (.k (.k (.k (.k (.k .nil)))))) (.cons rfl (.of (by first |rw[hu];done |rfl)) (.k (.k .nil))))
  have hu:=ON (k:=k1) (i:=i) (by rw[xS];exact eK z);refine ga aG ?_;exact aE J4 (i+1) xR (hw:=Wk.of (.cons rfl (.of (by first |rw[hu];done |rfl)) (.k (.k (.k (.k (.k .nil)))))) (.cons rfl (.of (by first |rw[hu];done |rfl)) (.k (.k .nil))))
 have xR:=aV ha z;refine gW ((Wk.freeze (k:=902) rfl).trans<|Wk.of (sl:=[pP 2 (.lst 1 ((eY (bW l)).map i64)),pP 3 (nS),pP 5 (.ms 901 1 0 k2.length)]) (hp:=[pP 901 (.row 1 (k2.map bl))]) (.cons rfl (.of (by rw[b8 (by rw[ah6]),xR,e1];rfl)) (.k (.k .nil))) (.k .nil)) ?_;refine gW (Wk.virt 902 1 rfl) ?_;refine aK [2,67] [901] (fun(i:Nat)=>[pP 3 (.ms 902 1 0 (iO k2 i).length),pP 66 (.ms 901 1 0 k2.length),pP 68 (i64 i)]) (fun i=>[pP 902 (.row 1 ((iO k2 i).map i64))]) (fun i=>i<=k2.length) (fun i=>k2.length-i) 0 (aii _) ?_;rintro i hb K5 J5;refine gC (fun z=>?_) (fun z=>?_) (st2:=(28,0))
 ·have xT:=aI z;obtain ⟨v,hv⟩:=aB xT;have xS:k2.getD i false = v:=aP hv;have uI:=yt k2 i;refine gs (nH (.tmp rfl) (.tmp rfl) T92 rfl T4 rfl oz oz rfl) ?_;refine gs (dq (.tmp rfl) rfl (by rw [ae9,ai6,aib,hv]; rfl) T4 rfl rfl rfl) ?_;refine gC (fun z=>?_) (fun z=>?_)
  ·have hu := MN (k := k2) (i := i) (by rw [xS]; exact dR z);refine gs (dX (.tmp rfl) rfl (by rw [ah6]) (.tmp rfl) T30 rfl T3 rfl rfl (by dsimp only; simp only [aij,aiv]; omega) rfl rfl) ?_ (27,0);refine gW (Wk.of (sl:=[pP 2 (.lst 1 ((eY (bW l)).map i64)),pP 3 (.ms 78 1 0 (iO k2 (i + 1)).length),pP 66 (.ms 901 1 0 k2.length),pP 67 (i64 k2.length),pP 68 (i64 i)]) (hp:=[pP 901 (.row 1 (k2.map bl)),pP 78 (.row 1 ((iO k2 (i + 1)).map i64))]) (.k (.cons rfl (.of (by rw [hu,ai0]; rfl)) (.k (.k (.k .nil))))) (.k (.cons rfl (.of (by rw [hu,ai4]; rfl)) .nil))) ?_ (27,0)
   refine gW (Wk.rk (k:=78) (d:=902) rfl rfl) ?_;refine ga aG ?_;exact aE J5 (i+1) xT (hw:=Wk.of (.cons rfl (.of (by first |rw[hu];done |rfl)) (.k (.k (.k (.k .nil))))) (.cons rfl (.of (by first |rw[hu];done |rfl)) (.k .nil)))
  have hu:=ON (k:=k2) (i:=i) (by rw[xS];exact eK z);refine ga aG ?_;exact aE J5 (i+1) xT (hw:=Wk.of (.cons rfl (.of (by first |rw[hu];done |rfl)) (.k (.k (.k (.k .nil))))) (.cons rfl (.of (by first |rw[hu];done |rfl)) (.k .nil)))
 have xT:=aV hb z;refine gW ((Wk.freeze (k:=902) rfl).trans<|Wk.of (sl:=[pP 2 (.lst 1 ((eY (bW l)).map i64)),pP 3 (.lst 1 ((eY (fo l)).map i64))]) (hp:=[]) (.k (.cons rfl (.of (by rw[b8 (by rw[ah6]),xT,e2];rfl)) .nil)) .nil) ?_;refine bq ?_;rfl
theorem Yo(l:Li)(hl:l.ok)(af:ax l=0):FP 85 [l.av] (.tup [.lst 4 ((aC l).map Gr.av),i64 (bU l)]):=by
 have h8:=(ft af).2.2.2.1;have Gu:l.jo.length<=16:=by have:=(ft af).2.1;unfold ez at this;split at this;cases this;omega
 have u1:=YA l;have u2:=RQ l;refine ak func85 ?_;refine gc (YO l hl af) ?_;refine gl ?_;refine gl ?_;refine ga (cP oz) ?_;refine gC (fun z=>?_) (fun z=>?_)
 ·have h1:0 < (eY (bW l)).length + (eY (fo l)).length:=dU z;have hE:bU l = 7:=by unfold bU; rw [ajf oz]
  refine gR ?_;exact gE (by unfold aC;rw[ajf (by rw[hE];decide),hE];exact Sub.tup (.cons (.nil _ _ _) (.cons (.refl _) .nil)))
 have h1:(eY (bW l)).length+(eY (fo l)).length<=0:=jT z;have hE:bU l=0:=by unfold bU;rw[ajg oz]
 refine gc (NP l hl af) ?_;refine bq ?_;unfold aC;rw[ajg hE,hE];rfl
variable{P:ajs}{N:Nat}{R:Array Oper}{s:AS}{pos:String}{after:Array Edge}
theorem BQ{d:Nat}{x:ajp}{n:Nat}{z:ajq}{T E t:ajr}{ti te:TI}(hx:Ev s x (.v (.int .i64 n)))
    (hT:aq P T=some ti) (hk:ti.k=.slice E) (hE:aq P E=some te) (hz:te.zero=[z]) (co:z.oneCell'=true) (hs:afe te.size 1=true) (mY:aek 0 te.bytes=true)
    (hb:(n:Int)*te.bytes<=281474976710656) (hN:aek d N=true) :
    Step P N R s ⟨some d,.makeSlice T x x,t,pos,after,none⟩
      ⟨some (.ms d 1 0 n),[(d,some (.vec (afv n z)))],ai x,[]⟩ :=
  sP rfl rfl hN (by simp) fun s' am hfr C m a w hr => by
    have dc:=nN hr (hx.agree am (fun _ h=>h));have hs:=ah5 hs;rw[ad5]at mY;obtain⟨d2,h3,h4,-,-⟩:=cR hT w;obtain rfl:=gz (h4.trans hk);obtain⟨zv,h5,h6⟩:=vK hE w;obtain⟨ie,h7,h8,-⟩:=Iv hE w;have h6':zv.cells.toList=[z]:=h6.trans hz;have F4:zv.cells=#[z]:=by rw[<- Array.toArray_toList (xs:=zv.cells),h6']
    have rO:(n:Int)<=281474976710656:=by
      have:(n:Int)*1<=n*te.bytes:=Int.mul_le_mul_of_nonneg_left oz oz;omega
    have jN:IntKind.i64.wrap (n:Int)=n:=IntWalk.i64_in n oz;obtain⟨zero,fB⟩:∃zero:Array ajq,zero=(if n*te.size=0 then #[]else zv.cells):=⟨_,rfl⟩
    refine⟨.slice (some ⟨w.heap.size,0,none⟩) n n,(Array.range (n*te.size)).map (zero[· % zero.size]!),E,w.drawn,?_,?_,?_,?_⟩
    · have fZ:(Instr.makeSlice T (.int .i64 n) (.int .i64 n)).run P w =
          .ok (.slice (some ⟨w.heap.size,0,none⟩) n n) { w with heap:=w.heap.push (.cells ((Array.range (n*te.size)).map (zero[· % zero.size]!)) E) }:=by
        have hc:¬(((n:Int)<0\/281474976710656<(ie.bytes:Int)*n)\/(n:Int)<0):=by
          rw[h8,Int.mul_comm];omega
        simp only[Instr.makeSlice,ajv,h3,aju,asInt,asIntOf,ajw,h7,jN];rw[ajf (by simpa using hc)];simp only[ajv,run_askRoom,aju,eR hE,ai6]
        by_cases h0:n*te.size=0
        · rw[ajg h0]at fB ⊢
          subst fB;simp only[ajv,ajw,aju,newRow,run_newObj]
        · rw[ajf h0]at fB ⊢
          subst fB;simp only[ajv,ajw,aju,h5,newRow,run_newObj]
      simp only[execOp,dc,ajv,fZ,aju,ajw]
    · exact fun h=>h
    · intro g S m' w' hg hS hm hw
      refine .vec hw ?_ (fun v hv=>by rw[afz hv];exact co);apply List.ext_getElem?;intro j;rw[ahz,aix]
      by_cases hj:j<n
      · have fY : ¬ n * te.size = 0 := by rw [hs]; omega
        rw[ajf fY,F4]at fB;subst fB;rw[ajg hj];simp only[Array.getElem?_map,Array.getElem?_range,show j<n*te.size by rw[hs];omega,if_true,ah1,Option.some.injEq];simp[Nat.mod_one]
      · rw[ajf hj,ahp (by simp[hs];omega)]
    · intro g S m' hm hS
      have:=Rep.ms (g:=g) (S:=S) (m:=m') (k:=d) (sz:=1) (off:=0) (len:=n) (cap:=n) hm (aie _) (by simpa[hs]using hS);simpa using this
theorem AK{x y:ajp}{k i:Nat}{vs:List ajq}{v:ajq}{T t:ajr}{ti:TI}
  (hx:Ev s x (.eptr k 1 i 0)) (hk:s.blk k=some (.vec vs)) (hi:i<vs.length) (hy:Ev s y (.v v)) (hv:v.oneCell'=true) (hT:aq P T=some ti) (aN:afe ti.size 1=true) :
  Step P N R s ⟨none,.store T x y,t,pos,after,none⟩ ⟨none,[(k,some (.vec (vs.set i v)))],ai x++ai y,[k]⟩ :=
 Ep rfl rfl (by simp) hk fun s' am C m a w hr => by
  have aN:=ah5 aN;obtain⟨b,hm,dc⟩:=zi hr (hx.agree am (fun _ h=>aia.2 (.inl h)));have gk:=nN hr (hy.agree am (fun _ h=>aia.2 (.inr h)));have hb:=hr.heap.blk k _ ((am.2 k (by simp)).trans hk);rw[hm]at hb;cases hb with
  | @vec _ _ c t2 hw hc h1 =>
   have bp:c.size=vs.length:=by rw[<- hc];simp
   have Bw:v.cells=#[v]:=by cases v <;> simp_all [Value.cells,Value.oneCell']
   refine⟨b,c,(over c.toList i v.cells.toList).toArray,t2,hm,hw,?_,?_,?_⟩
   ·simp[over,Bw];omega
   ·have dK := Ex (P := P) (off := i) (v := v) hT hw (by rw[Bw,aN];rfl) oz (by rw[Bw];simpa using hv);simp[execOp,Instr.storeAt,dc,Instr.sureAddr,gk,dK]
   ·intro g S w' hg hS hw';refine .vec hw' ?_ (fun u hu=>?_)
    ·rw[hc,Bw];unfold over;rw[List.set_eq_take_append_cons_drop,ajg hi];simp
    ·rcases af6 hu with h9 |h9
     ·exact h1 u h9
     ·rw[h9];exact hv
inductive Lent(H:Hp)(hid:List Nat):AV->AV->Prop
  |same {x:AV} (h:x.nm=[]):Lent H hid x x
  |ms {k off len:Nat} {vs:List ajq} (hk:lk H k=some (.vec vs)) (hh:k∉hid) (hl:off+len<=vs.length) (hm:vs.length<=az):Lent H hid (.ms k 1 off len) (.lst 1 (((vs.drop off).take len).map .v))
theorem Lr{g:Nat->Array ajq->Prop}{S:Nat->Nat->Prop}{m:Nat->Option Nat}{u y:ajq}(h:Rep g S m u (.v y)):u=y:=by cases h;rfl
theorem zm{m:Nat->Option Nat}{b:Nat}:¬aO [] m b:=by rintro⟨k,x,h,_⟩;cases h
def tE(ext:Nat->Prop)(H:Hp)(hid:List Nat)(m:Nat->Option Nat)(b:Nat):Prop:=ext b\/∃k z,k∈hid/\lk H k=some z/\m k=some b
theorem Sp{ext:Nat->Prop}{H:Hp}{hid:List Nat}{m m2:Nat->Option Nat}{w:ajt}{b:Nat}{cs:Array ajq}(h:Im ext H m w b cs):Im (tE ext H hid m) [] m2 w b cs :=
 ⟨fun h'=>h'.elim h.1 (fun⟨k,z,_,hz,hb⟩=>h.2.1 ⟨k,z,hz,hb⟩),zm,h.2.2⟩
theorem Io{ext:Nat->Prop}{H:Hp}{hid:List Nat}{m:Nat->Option Nat}{w:ajt}(hh:HeapRel ext H m w){k b:Nat}{z:Blk}(hk:lk H k=some z)(hb:m k=some b)(hn:k∉hid):¬tE ext H hid m b:=by
 rintro(h |⟨k',z',h1,h2,h3⟩)
 ·exact(hh.sep k z b hk hb).1 h
 ·have:=hh.inj k k' z z' b hk h2 hb h3;subst this;exact hn h1
theorem Lent.rep{ext:Nat->Prop}{H:Hp}{hid:List Nat}{m:Nat->Option Nat}{w:ajt}(hh:HeapRel ext H m w){x x':AV}(h:Lent H hid x x') :
  ∀{v:ajq},Rep (Im ext H m w) (Sz w) m v x->∀m2:Nat->Option Nat,Rep (Im (tE ext H hid m) [] m w) (Sz w) m2 v x':=by
 cases h with
 |same hn=>intro v hv m2;exact(nU hn hv).mono (fun _ _ h=>Sp h) (fun _ _ h=>h) (fun _ _ _ h=>h)
 | @ms k off len vs hk hnh hl hm =>
  intro v hr m2;have hb:=hh.blk k _ hk;cases hr with
  |ms0 a=>simp only[List.take_zero];exact .lst0 _ _ _
  | @ms _ _ _ _ _ cap b fZ hc hS =>
   rw[fZ]at hb;cases hb with
   | @vec _ _ c t hw kX h1 =>
    have bp:c.size=vs.length:=by rw[<- kX];simp
    have ch:(((vs.drop off).take len).map AV.v).length=len:=by rw[ah6,air,agd];omega
    have he':∀(i:Nat)(e:AV),(((vs.drop off).take len).map AV.v)[i]?=some e->∃u,e=.v u/\c[off+i]?=some u/\u∈vs:=by
     intro i e he;rw[aib,ah8]at he;obtain⟨u,he,rfl⟩:=he;rw[ai1]at he;split at he
     ·rw[ai5]at he;exact⟨u,rfl,by rw[<- ahz,kX];exact he,ah3 he⟩
     ·cases he
    have:=Rep.lst (g:=Im (tE ext H hid m) [] m w) (S:=Sz w) (m:=m2) (b:=b) (off:=off) (cap:=cap) (sz:=1) (es:=((vs.drop off).take len).map AV.v) (cs:=c) (fun i j=>c.getD (off+i) undef)
     ⟨Io hh hk fZ hnh,zm,t,(0,0),hw⟩ oz oz ?_ ?_ ?_ ?_
    ·rw[ch]at this;simpa using this
    ·intro i e he;obtain⟨u,rfl,_⟩:=he' i e he;rfl
    ·intro i j e x he hx;obtain⟨u,rfl,_,hm⟩:=he' i e he;cases j with
     |zero=>cases hx;exact h1 u hm
     |succ j=>cases hx
    ·intro i j e x he hx;obtain⟨u,rfl,hu,_⟩:=he' i e he;cases j with
     |zero=>rw[Nat.mul_one,ae4,aic,hu];rfl
     |succ j=>cases hx
    ·intro i j e x he hx;obtain⟨u,rfl,hu,_⟩:=he' i e he;cases j with
     |zero=>cases hx;rw[aic,hu];exact .v _
     |succ j=>cases hx
def LC:AV->Bool
  | .v (.int _ _)=>true
  |_=>false
def Jp:AV->Bool
  | .v (.int _ _)=>false
  | .v _=>true
  | .lst _ _=>true
  | .ms _ _ _ _=>true
  |_=>false
mutual
def AV.li:AV->Bool
  | .v _=>true
  | .agg cs=>AV.lis cs
  | .tup cs=>AV.lis cs
  | .lst sz es=>afe sz 1&&es.all LC
  |_=>false
def AV.lis:List AV->Bool
  |[]=>true
  |x::l=>x.li&&AV.lis l
end
theorem AV.lis_mem:∀{l:List AV}{c:AV},AV.lis l=true->c∈l->c.li=true
 |x::l,c,h,hc=>by
  simp only[AV.lis,ah7]at h;rcases aiq.1 hc with rfl |hc
  ·exact h.1
  ·exact AV.lis_mem h.2 hc
theorem aaf{g:Nat->Array ajq->Prop}{S:Nat->Nat->Prop}{m:Nat->Option Nat}{u:ajq}{x:AV}(hx:Jp x=true)(h:Rep g S m u x)(kk:IntKind)(z:Int):u≠.int kk z:=by
 rintro rfl;cases h <;> cases hx
theorem Rv{g g':Nat->Array ajq->Prop}{S S':Nat->Nat->Prop}{m m':Nat->Option Nat}{v:ajq}{x:AV}(hx:x.li=true)
  (hg:∀b cs (o:Nat)(kk:IntKind)(z:Int),cs[o]?=some (.int kk z)->g b cs->g' b cs) (h:Rep g S m v x):Rep g' S' m' v x:=by
 induction h with
 |v=>exact .v _
 |agg hn h1 hr ih=>exact .agg hn h1 (fun j u c hu hc=>ih j u c hu hc (AV.lis_mem hx (ah3 hc)))
 |tup hn hr ih=>exact .tup hn (fun j u c hu hc=>ih j u c hu hc (AV.lis_mem hx (ah3 hc)))
 |lst0 a cap sz=>exact .lst0 _ _ _
 | @lst _ b off cap sz es cs u hb hc hl hs h1 hu hr _ =>
  simp only[AV.li,ah7]at hx;have aN:=ah5 hx.1;subst aN
  match es,hx,hc,hl,hs,h1,hu,hr with
  |[],_,_,_,_,_,_,_=>exact .lst0 _ _ _
  |e::es,hx,hc,hl,hs,h1,hu,hr =>
   have ff:∀(i j:Nat)(e' c:AV),(e::es)[i]?=some e'->e'.cells[j]?=some c->∃kk z,c=.v (.int kk z):=by
    intro i j e' c he hc';have h9:=aif.1 hx.2 e' (ah3 he);cases e' with
    |v y=>cases y with
     |int kk z =>
      cases j with
      |zero=>cases hc';exact⟨_,_,rfl⟩
      |succ j=>cases hc'
     |_=>cases h9
    |_=>cases h9
   have he0:∃kk z,e=.v (.int kk z):=by
    have h9:=aif.1 hx.2 e (by simp);cases e with
    |v y=>cases y with
     |int kk z=>exact⟨_,_,rfl⟩
     |_=>cases h9
    |_=>cases h9
   obtain⟨kk,z,rfl⟩:=he0;have h8:=hu 0 0 _ _ rfl rfl;have h7:=hr 0 0 _ _ rfl rfl;have h6:u 0 0=.int kk z:=Lr h7;rw[h6]at h8;refine .lst u (hg b cs _ kk z h8 hb) hc hl hs h1 hu (fun i j e' c he hc'=>?_);obtain⟨k2,z2,rfl⟩:=ff i j e' c he hc';rw[Lr (hr i j _ _ he hc')];exact .v _
 |_=>cases hx
theorem Con.lend{f:FuncId}{k:Nat}{cs:List AV}{cs':ajq->List AV}{H:Hp}{r:AV}(hid:List Nat)(j0:Nat)(hk:lk H k=some (.box cs))(hkh:k∉hid)
  (hc:∀v:ajq,v.oneCell'=true->(cs' v).length=cs.length/\(∀(j:Nat)(x:AV),(cs' v)[j]?=some x->x.one=true) /\
   ∀(j:Nat)(x x':AV),cs[j]?=some x->(cs' v)[j]?=some x'->(j=j0/\x'=.v v)\/Lent H hid x x')
  (hj:j0<cs.length)
  (hH:∀k z,lk H k=some z->k∈hid\/(∃cs,z=.box cs/\cs.all Jp=true)\/∃vs,z=.vec vs/\∀v∈vs,∀kk z,v≠.int kk z) (hr:r.li=true) (h:∀v:ajq,jF P f [.iptr (cs' v)] r):Con P f [.ptr k 0] H r H:=by
 refine⟨(h undef).ok,?_⟩;intro ext m w vs hext bX cM dl;have aN:0<vs.size:=by rw[cM];exact Nat.one_pos
 have jl:=dl 0 vs[0] _ (ahm aN) rfl;have hb:=bX.blk k _ hk;generalize lY:vs[0]=v0 at jl;cases jl with
 | @ptr _ _ _ b fZ =>
  rw[fZ]at hb;cases hb with
  | @box _ _ c t hw hn h1 aS =>
   have p9:j0<c.size:=by omega
   have lg:=ah9 (l:=cs) (i:=j0) oz;have uE:(c[j0]).oneCell'=true:=(aS j0 _ _ (ahm p9) lg).one (h1 j0 _ lg);obtain⟨g1,g2,g3⟩:=hc c[j0] uE
   have F5:∀b,tE ext H hid m b->b<w.heap.size:=by
    rintro b (h9 |⟨k',z',_,h2,h3⟩)
    ·exact hext b h9
    ·exact(bX.sep k' z' b h2 h3).2
   have ado := (h c[j0]).ret (tE ext H hid m) m w vs F5 ⟨fun k z hz => by (cases hz), fun k k' x x' b hx => by (cases hx), fun k x b hx => by (cases hx)⟩ (by rw [cM]; rfl) (by
    intro j v x hv hx
    match j,hx with
    |0,hx =>
     cases hx;rw[ahm aN,lY]at hv;cases hv;refine .iptr (cs:=c) (fun j=>c.getD j undef) ⟨Io bX hk fZ hkh,zm,t,(0,0),hw⟩ g2 ?_ ?_
     ·intro j x hx;have hlt:j < c.size:=by rw [hn,<- g1]; exact (afl.1 hx).1
      rw[ae9,aic,ahm hlt];rfl
     ·intro j x hx;have hlt:j < c.size:=by rw [hn,<- g1]; exact (afl.1 hx).1
      obtain⟨y,hy⟩:=jJ g1 hx;have kX:c[j]?=some (c.getD j undef):=by rw[aic,ahm hlt];rfl
      rcases g3 j y x hy hx with⟨rfl,rfl⟩ |hl
      ·have : c.getD j undef = c[j] := by rw [ahm hlt] at kX; exact (Option.some.inj kX).symm
       rw[this];exact .v _
      ·exact hl.rep bX (aS j _ y kX hy) cO)
   refine Calls.mono ado ?_;rintro e w' ⟨v,m',rfl,hf,hh,bm,rQ,om⟩;have Bx:∀b,b<w.heap.size->w'.heap[b]?=w.heap[b]? := fun b hb=>hf.keep b hb zm
   have xE:Frame (aO H m) w w':=⟨hf.os,hf.tape,hf.output,hf.size,hf.sz,fun b hb _=>Bx b hb⟩
   have cF:=eO (ext:=ext) xE (hp':=H) (m':=m) (fun k x b hk hb=>.inl ⟨k,x,hk,hb⟩);refine⟨v,m,rfl,xE,⟨?_,bX.inj,?_⟩,fun k x b hk hb=>.inl ⟨k,x,hk,hb⟩,fun _ _ _ _ _=>rfl,?_⟩
   ·intro k z hz;exact BlkRep.mono (w:=w) cF hf.sz (fun _ _ _ h=>h) rfl (fun b hb=>Bx b (bX.sep k z b hz hb).2) (bX.blk k z hz)
   ·intro k z b hz hb;have:=bX.sep k z b hz hb;exact⟨this.1,aip this.2 hf.size⟩
   ·refine Rv hr ?_ om;rintro b2 cs2 o kk z ho ⟨g1,g2,t2,fl,g3⟩;refine⟨fun h9=>g1 (.inl h9),?_,t2,fl,g3⟩;rintro⟨k2,y,cD,a8⟩;have hlt:=fun b hb=>(bX.sep k2 _ b cD hb).2
    have h3:=bX.blk k2 _ cD;rw[a8]at h3;rcases hH k2 y cD with h9 |⟨cl,rfl,fI⟩ |⟨vs2,rfl,lZ⟩
    ·exact g1 (.inr ⟨k2,y,h9,cD,a8⟩)
    ·cases h3 with
     | @box _ _ c2 t' l6 k9 h12 Gg =>
      have Gz:c2=cs2:=by
       rw[Bx b2 (hlt b2 a8),l6]at g3
       injection g3 with g3
       injection g3
      subst Gz;have ho':o<c2.size:=(Array.getElem?_eq_some_iff.1 ho).1;have hx:=ah9 (l:=cl) (i:=o) oz;exact aaf (aif.1 fI _ (ah3 hx)) (Gg o _ _ ho hx) kk z rfl
    ·cases h3 with
     | @vec _ _ c2 t' l6 pX h12 =>
      have Gz:c2=cs2:=by
       rw[Bx b2 (hlt b2 a8),l6]at g3
       injection g3 with g3
       injection g3
      subst Gz;have:Value.int kk z∈vs2:=by rw[<- pX];exact Array.mem_toList_iff.2 (Array.mem_of_getElem? ho)
      exact lZ _ this kk z rfl
end Go.Lw
namespace Go.Lw
open Go.Proofs
def bv(xs:List Bool):List ajq:=xs.map .bool
theorem iu(xs:List Bool):(bv xs).length=xs.length:=ah6 _
theorem Av(xs:List Bool)(n:Nat):(bv xs).set n (.bool true)=bv (xs.set n true):=by unfold bv;rw[aja]
theorem CL(xs:List Bool):∀v∈bv xs,∀kk z,v≠.int kk z:=by
 intro v hv kk z;obtain⟨b,_,rfl⟩:=af0.1 hv;exact fun h=>by cases h
theorem AL(xs:List Bool):(bv xs).map AV.v=xs.map bl:=by unfold bv;rw[map_map];rfl
theorem DL(n:Nat):afv n (Value.bool false)=bv (afv n false):=by unfold bv;rw[ai7]
theorem S2(xs:List Int):(xs.map i64).all LC=true:=by
 rw[aif];intro x hx;obtain⟨b,_,rfl⟩:=af0.1 hx;rfl
theorem QY(g:Gr)(b:Bool):(AV.tup [g.av,bl b]).li=true:=by
 simp only[AV.li,AV.lis,Gr.av,S2];rfl
def qD(l:Li)(n:Nat):Blk:=.box (l.av.cells++[.ms 23 1 0 l.bo.length,.ms 27 1 0 l.bo.length,.ms 31 1 0 l.jo.length,.ms 900 4 0 n])
def oJ(l:Li)(kw used:List Bool)(out:List Gr):Hp :=
  [pP 33 (qD l out.length),pP 23 (.vec (bv kw)),pP 27 (.vec (bv (bE l))),pP 31 (.vec (bv used)),pP 900 (.row 4 (out.map Gr.av))]
theorem C2{xs:List Bool}{n:Nat}(h:xs.length=n):AV.lst 1 ((((bv xs).drop 0).take n).map .v)=.lst 1 (xs.map bl):=by
 rw[ai9,aio (by rw[iu];omega),AL]
theorem He(l:Li)(hl:l.ok)(af:ax l=0)(kw used:List Bool)(hk:kw.length=l.bo.length)(hu:used.length=l.jo.length)(hm:l.bo.length<=az/\l.jo.length<=az)(out:List Gr) :
  Con prog 111 [.ptr 33 0] (oJ l kw used out) (.tup [((bY l kw).getD default).av,bl (bY l kw).isSome]) (oJ l kw used out):=by
 refine Con.lend (cs:=l.av.cells++[.ms 23 1 0 l.bo.length,.ms 27 1 0 l.bo.length,.ms 31 1 0 l.jo.length,.ms 900 4 0 out.length])
  (cs':=fun v=>dm l kw (bE l) [.lst 1 (used.map bl),.v v]) [900] 7 rfl (by decide) ?_ (by simp[Li.av,AV.cells]) ?_ (QY _ _) (fun v=>XU l hl af kw hk _)
 ·intro v hv;refine⟨rfl,?_,?_⟩
  ·intro j x hx
   match j,hx with
   |0,hx=>cases hx;rfl
   |1,hx=>cases hx;rfl
   |2,hx=>cases hx;rfl
   |3,hx=>cases hx;rfl
   |4,hx=>cases hx;rfl
   |5,hx=>cases hx;rfl
   |6,hx=>cases hx;rfl
   |7,hx=>cases hx;exact hv
   |j+8,hx=>cases hx
  ·intro j x x' hx hx'
   match j,hx,hx' with
   |0,hx,hx'=>cases hx;cases hx';exact .inr (.same rfl)
   |1,hx,hx'=>cases hx;cases hx';exact .inr (.same rfl)
   |2,hx,hx'=>cases hx;cases hx';exact .inr (.same rfl)
   |3,hx,hx'=>cases hx;cases hx';exact .inr (.same rfl)
   |4,hx,hx' =>
    cases hx;cases hx'
    have h:=Lent.ms (H:=oJ l kw used out) (hid:=[900]) (k:=23) (off:=0) (len:=l.bo.length) (vs:=bv kw) rfl (by decide) (by rw[iu];omega) (by rw[iu];omega);rw[C2 hk]at h;exact .inr h
   |5,hx,hx' =>
    cases hx;cases hx'
    have h:=Lent.ms (H:=oJ l kw used out) (hid:=[900]) (k:=27) (off:=0) (len:=l.bo.length) (vs:=bv (bE l)) rfl (by decide) (by rw[iu,wJ];omega) (by rw[iu,wJ];omega);rw[C2 (wJ l)]at h;exact .inr h
   |6,hx,hx' =>
    cases hx;cases hx'
    have h:=Lent.ms (H:=oJ l kw used out) (hid:=[900]) (k:=31) (off:=0) (len:=l.jo.length) (vs:=bv used) rfl (by decide) (by rw[iu];omega) (by rw[iu];omega);rw[C2 hu]at h;exact .inr h
   |7,hx,hx'=>cases hx;cases hx';exact .inl ⟨rfl,rfl⟩
   |j+8,hx,hx'=>cases hx
 ·intro k z hz;simp only[oJ,aA]at hz;split at hz
  ·cases hz;exact .inr (.inl ⟨_,rfl,rfl⟩)
  split at hz
  ·cases hz;exact .inr (.inr ⟨_,rfl,CL _⟩)
  split at hz
  ·cases hz;exact .inr (.inr ⟨_,rfl,CL _⟩)
  split at hz
  ·cases hz;exact .inr (.inr ⟨_,rfl,CL _⟩)
  split at hz
  ·subst_vars;exact .inl (by decide)
  ·cases hz
def tu(l:Li):AV:=if ax l=0 then .iptr (dm l (bW l) (bE l) [.lst 1 ((fo l).map bl),.lst 4 ((ce l).map Gr.av)])else .v (.pointer none)
def kl(l:Li)(out:List Gr):List Bool:=out.foldl (fun k g=>ba k g.jo) (afv l.jo.length false)
theorem EZ(l:Li)(out:List Gr):(kl l out).length=l.jo.length:=by unfold kl;rw[tG,aiu]
theorem YE(l:Li)(out:List Gr)(g:Gr):kl l (out++[g])=ba (kl l out) g.jo:=by unfold kl;rw[List.foldl_append];rfl
theorem Du{k:List Bool}{bs:List Int}{i:Nat}{b:Int}(h:bs[i]?=some b):ba k (bs.take (i+1))=(ba k (bs.take i)).set b.toNat true:=by
 unfold ba;rw[g9 h,List.foldl_append];rfl
theorem aag{l:Li}(af:ax l=0){kw:List Bool}{out:List Gr}{g:Gr}(hk:kw.length=l.bo.length)(h:cw l (dA kw) kw out=(bW l,ce l))(hg:bY l kw=some g) :
  cw l (dA (ba kw g.bo)) (ba kw g.bo) (out++[g])=(bW l,ce l):=by
 have hlt:=we af hk hg;obtain⟨n,hn⟩:∃n,dA kw=n+1:=⟨dA kw-1,by omega⟩
 rw[hn]at h;unfold cw at h;rw[hg]at h;rw[<- h];exact E9 af _ _ _ _ (by rw[lF];exact hk) (aie _) oz
theorem SG{l:Li}{kw:List Bool}{out:List Gr}(h:cw l (dA kw) kw out=(bW l,ce l))(hg:bY l kw=none):kw=bW l/\out=ce l:=by
 cases hn:dA kw with
 |zero=>rw[hn]at h;exact⟨(Prod.mk.inj h).1,(Prod.mk.inj h).2⟩
 |succ n=>rw[hn]at h;unfold cw at h;rw[hg]at h;exact⟨(Prod.mk.inj h).1,(Prod.mk.inj h).2⟩
theorem acm{n:Nat}:dA (cB n 0)<=n:=by
 unfold dA;exact aiw List.countP_le_length (Nat.le_of_eq (jh _ _))
theorem Xc{l:Li}(af:ax l=0):cw l (dA (cB l.bo.length 0)) (cB l.bo.length 0) []=(bW l,ce l):=by
 rw[<- VH];exact E9 af _ _ _ _ (jh _ _) (aie _) acm
theorem Rk{l:Li}(af:ax l=0){kw:List Bool}{out:List Gr}(hk:kw.length=l.bo.length)(h:cw l (dA kw) kw out=(bW l,ce l)):out.length<=8:=by
 obtain⟨gs,e⟩:=EK (l:=l) (dA kw) kw out;rw[e]at h;have h1:=(yX af).2;have h2:out++gs=ce l:=(Prod.mk.inj h).2;rw[<- h2,ai0]at h1;omega
theorem Ue(l:Li)(kw used:List Bool)(out:List Gr)(hk:kw.length=l.bo.length)(hu:used.length=l.jo.length)(hm:l.bo.length<=az/\l.jo.length<=az) :
  Wk ⟨[pP 5 (.ptr 33 0)],oJ l kw used out⟩ ⟨[pP 5 (.iptr (dm l kw (bE l) [.lst 1 (used.map bl),.lst 4 (out.map Gr.av)]))],[]⟩:=by
 have hd:=wJ l;have q1:.ms 23 1 0 l.bo.length=AV.ms 23 1 0 ((bv kw).map AV.v).length:=by rw[ah6,iu,hk]
 refine(Wk.of (sl:=[pP 5 (.ptr 33 0)]) (hp:=[pP 33 (qD l out.length),pP 23 (.row 1 ((bv kw).map .v)),pP 27 (.row 1 ((bv (bE l)).map .v)),pP 31 (.row 1 ((bv used).map .v)),pP 900 (.row 4 (out.map Gr.av))])
  (.k .nil) (.k (.cons rfl (.vecRow (by rw[iu];omega)) (.cons rfl (.vecRow (by rw[iu];omega)) (.cons rfl (.vecRow (by rw[iu];omega)) (.k .nil)))))).trans ?_
 refine(Wk.freeze (k:=23) rfl).trans ?_
 refine(Wk.of (sl:=[pP 5 (.ptr 33 0)]) (hp:=[pP 33 (.box (l.av.cells++[.lst 1 (kw.map bl),.ms 27 1 0 l.bo.length,.ms 31 1 0 l.jo.length,.ms 900 4 0 out.length])),pP 27 (.row 1 ((bv (bE l)).map .v)),pP 31 (.row 1 ((bv used).map .v)),pP 900 (.row 4 (out.map Gr.av))])
  (.k .nil) (.cons rfl (BlkSub.bL (.cons (.refl _) (.cons (.refl _) (.cons (.refl _) (.cons (.refl _) (.cons (.of ((b8 (by rw[ah6,iu,hk])).trans (by rw[AL]))) (.cons (.refl _) (.cons (.refl _) (.cons (.refl _) .nil)))))))) rfl) (.k (.k (.k .nil))))).trans ?_
 refine(Wk.freeze (k:=27) rfl).trans ?_
 refine(Wk.of (sl:=[pP 5 (.ptr 33 0)]) (hp:=[pP 33 (.box (l.av.cells++[.lst 1 (kw.map bl),.lst 1 ((bE l).map bl),.ms 31 1 0 l.jo.length,.ms 900 4 0 out.length])),pP 31 (.row 1 ((bv used).map .v)),pP 900 (.row 4 (out.map Gr.av))])
  (.k .nil) (.cons rfl (BlkSub.bL (.cons (.refl _) (.cons (.refl _) (.cons (.refl _) (.cons (.refl _) (.cons (.refl _) (.cons (.of ((b8 (by rw[ah6,iu,hd])).trans (by rw[AL]))) (.cons (.refl _) (.cons (.refl _) .nil)))))))) rfl) (.k (.k .nil)))).trans ?_
 refine(Wk.freeze (k:=31) rfl).trans ?_
 refine(Wk.of (sl:=[pP 5 (.ptr 33 0)]) (hp:=[pP 33 (.box (l.av.cells++[.lst 1 (kw.map bl),.lst 1 ((bE l).map bl),.lst 1 (used.map bl),.ms 900 4 0 out.length])),pP 900 (.row 4 (out.map Gr.av))])
  (.k .nil) (.cons rfl (BlkSub.bL (.cons (.refl _) (.cons (.refl _) (.cons (.refl _) (.cons (.refl _) (.cons (.refl _) (.cons (.refl _) (.cons (.of ((b8 (by rw[ah6,iu,hu])).trans (by rw[AL]))) (.cons (.refl _) .nil)))))))) rfl) (.k .nil))).trans ?_
 refine(Wk.freeze (k:=900) rfl).trans ?_
 refine(Wk.of (sl:=[pP 5 (.ptr 33 0)]) (hp:=[pP 33 (.box (dm l kw (bE l) [.lst 1 (used.map bl),.lst 4 (out.map Gr.av)]))])
  (.k .nil) (.cons rfl (BlkSub.bL (.cons (.refl _) (.cons (.refl _) (.cons (.refl _) (.cons (.refl _) (.cons (.refl _) (.cons (.refl _) (.cons (.refl _) (.cons (.of (b8 (by rw[ah6]))) .nil)))))))) rfl) .nil)).trans ?_
 refine(Wk.freezeB (k:=33) rfl rfl).trans ?_;exact Wk.of (.k .nil) .nil
theorem SA(l:Li)(hl:l.ok):FP 42 [l.av] (.tup [tu l,db (ax l)]):=by
 refine ak func42 ?_;refine gc (JR l hl) ?_;refine gC (fun y=>?_) (fun y=>?_)
 ·have h1:=n7 y;refine bq ?_;unfold tu;rw[ajf h1]
 have af:=n5 y;have h8:=(ft af).2.2.2.1;have h0:=(ft af).2.2.2.2;have Gu:l.jo.length<=16:=by have:=(ft af).2.1;unfold ez at this;split at this;cases this;omega
 have uL:=hl.ld;have hm:l.bo.length<=az/\l.jo.length<=az:=by unfold az;omega
 refine gl ?_;refine gs (BQ (.tmp rfl) T92 rfl T4 rfl rfl rfl rfl (by dsimp only;omega) rfl) ?_;refine gl ?_;refine gs (BQ (.tmp rfl) T92 rfl T4 rfl rfl rfl rfl (by dsimp only;omega) rfl) ?_;refine gl ?_;refine gs (BQ (.tmp rfl) T92 rfl T4 rfl rfl rfl rfl (by dsimp only;omega) rfl) ?_;refine gD ?_;refine gs (bt (n:=0) (.tmp rfl) (.const _) T92 rfl T4 rfl rfl oz rfl) ?_;refine gs (AK (.tmp rfl) rfl (by rw[aiu];omega) (.const _) rfl T4 rfl) ?_ (6,0);refine gW (Wk.of (sl:=[pP 1 (.ptr 1 0),pP 5 (.ptr 33 0)]) (hp:=[pP 1 (.box l.av.cells),pP 33 (.box (l.av.cells++[.ms 23 1 0 l.bo.length,.ms 27 1 0 l.bo.length,.ms 31 1 0 l.jo.length,nS])),pP 23 (.vec (bv (cB l.bo.length 0))),pP 27 (.vec (bv (afv l.bo.length false))),pP 31 (.vec (bv (afv l.jo.length false)))]) aU (.k (.k (.cons rfl (.of (by rw[DL,Av];rfl)) (.cons rfl (.of (by rw[DL])) (.cons rfl (.of (by rw[DL])) .nil)))))) ?_
 refine gl ?_;refine aK [1,5,40,41] [1,23,31] (fun(i:Nat)=>[pP 42 (i64 i)]) (fun i=>[pP 33 (.box (l.av.cells++[.ms 23 1 0 l.bo.length,.ms 27 1 0 l.bo.length,.ms 31 1 0 l.jo.length,nS])),pP 27 (.vec (bv (ba (afv l.bo.length false) ((l.drivers.map Dr.body).take i))))]) (fun i=>i<=l.drivers.length) (fun i=>l.drivers.length-i) 0 (aii _) ?_;rintro i hi K1 J1;refine gC (fun y=>?_) (fun y=>?_) (st2:=(11,0))
 ·have ae:=aI y;obtain⟨d,hd⟩:=aB ae;have hb:=dM (qj af hd);have hmt:=Du (k:=afv l.bo.length false) (bs:=l.drivers.map Dr.body) (i:=i) (b:=d.body) (by rw[aib,hd];rfl);refine gi (ay hd) ?_;refine gs (bt (n:=d.body.toNat) (.tmp rfl) (.tmp rfl) T92 rfl T4 rfl oz oz rfl) ?_;refine gs (AK (.tmp rfl) rfl (by rw[iu,lF,aiu];omega) (.const _) rfl T4 rfl) ?_;refine gD ?_;refine ga aG ?_;exact aE J1 (i+1) ae (hw:=Wk.of aU (.k (.cons rfl (.of (by rw[Av,hmt])) (.k (.k (.k .nil))))))
 have ae:=aV hi y;have By:ba (afv l.bo.length false) ((l.drivers.map Dr.body).take i)=bE l:=by rw[ae];unfold bE;rw[aio (by rw[ah6];omega)]
 refine gW ((Wk.virt 900 4 rfl).trans<|Wk.of (sl:=[pP 1 (.ptr 1 0),pP 5 (.ptr 33 0)]) (hp:=[pP 33 (qD l 0),pP 23 (.vec (bv (cB l.bo.length 0))),pP 27 (.vec (bv (bE l))),pP 31 (.vec (bv (afv l.jo.length false))),pP 900 (.row 4 [])]) aU (.cons rfl (BlkSub.bL (.cons (.refl _) (.cons (.refl _) (.cons (.refl _) (.cons (.refl _) (.cons (.refl _) (.cons (.refl _) (.cons (.refl _) (.cons (Sub.nM _ _ _) .nil)))))))) rfl) (.k (.cons rfl (.of (by rw[By])) (.k (.k .nil)))))) ?_
 refine gt (br (He l hl af (cB l.bo.length 0) (afv l.jo.length false) (jh _ _) aiu hm []) (iL rfl) (fun k z h=>h) rfl rfl) ?_;refine fF [5,8] [] (fun(kw:List Bool)(out:List Gr)=>[pP 9 (bl (bY l kw).isSome)]) (fun kw out=>[pP 8 (.box ((bY l kw).getD default).av.cells),pP 33 (qD l out.length),pP 23 (.vec (bv kw)),pP 27 (.vec (bv (bE l))),pP 31 (.vec (bv (kl l out))),pP 900 (.row 4 (out.map Gr.av))]) (fun kw out=>kw.length=l.bo.length/\cw l (dA kw) kw out=(bW l,ce l)) (fun kw _=>dA kw) (cB l.bo.length 0) ([]) ⟨jh _ _,Xc af⟩ ?_
 rintro kw out ⟨hk,hf⟩ K2 J2;refine gC (fun y=>?_) (fun y=>?_) (st1:=(77777,0)) (st2:=(27,0))
 ·obtain ⟨g, hg⟩:=Ej y;have js:=Cr af hg;have ad0:=Rk af hk hf;refine gW (Wk.of (sl:=[pP 5 (.ptr 33 0),pP 8 (.ptr 8 0)]) (hp:=[pP 8 (.box g.av.cells),pP 33 (qD l out.length),pP 23 (.vec (bv kw)),pP 27 (.vec (bv (bE l))),pP 31 (.vec (bv (kl l out))),pP 900 (.row 4 (out.map Gr.av))]) aU (.cons rfl (.of (by rw [hg]; rfl)) (.k (.k (.k (.k (.k .nil))))))) ?_;refine gl ?_;refine aK [5,8,66,67] [8,33,27,31,900] (fun (j:Nat)=>[pP 68 (i64 j)]) (fun j=>[pP 23 (.vec (bv (ba kw (g.bo.take j))))]) (fun j=>j <= g.bo.length) (fun j=>g.bo.length - j) 0 (aii _) ?_;rintro j hj K3 J3;refine gC (fun y=>?_) (fun y=>?_)
  ·have ae:=aI y;obtain⟨b,hb⟩:=aB ae;have mY:=js.b b (ah3 hb);have fJ:=js.lb;refine gi (ay hb) ?_;refine gs (bt (n:=b.toNat) (.tmp rfl) (.tmp rfl) T92 rfl T4 rfl oz oz rfl) ?_;refine gs (AK (.tmp rfl) rfl (by rw[iu,lF];omega) (.const _) rfl T4 rfl) ?_;refine ga aG ?_;exact aE J3 (j+1) ae (hw:=Wk.of aU (.cons rfl (.of (by rw[Av,Du hb])) (.k (.k (.k (.k (.k .nil)))))))
  have ae:=aV hj y;subst ae;refine gl ?_;refine aK [5,8,80,81] [8,33,27,900] (fun(q:Nat)=>[pP 82 (i64 q)]) (fun q=>[pP 23 (.vec (bv (ba kw g.bo))),pP 31 (.vec (bv (ba (kl l out) (g.jo.take q))))]) (fun q=>q<=g.jo.length) (fun q=>g.jo.length-q) 0 (aii _) ?_ (h2:=(.cons rfl (.of (by rw[ail])) (.k .nil)));rintro q hq K4 J4;refine gC (fun y=>?_) (fun y=>?_)
  ·have ae:=aI y;obtain⟨b,hb⟩:=aB ae;have mY:=js.j b (ah3 hb);have oA:=js.lj;refine gi (ay hb) ?_;refine gs (bt (n:=b.toNat) (.tmp rfl) (.tmp rfl) T92 rfl T4 rfl oz oz rfl) ?_;refine gs (AK (.tmp rfl) rfl (by rw[iu,lF,EZ];omega) (.const _) rfl T4 rfl) ?_;refine ga aG ?_;exact aE J4 (q+1) ae (hw:=Wk.of aU (.k (.cons rfl (.of (by rw[Av,Du hb])) (.k (.k (.k (.k .nil)))))))
  have ae:=aV hq y;subst ae;refine gs (dX (.tmp rfl) rfl (by rw[ah6]) (.tmp rfl) T53 rfl T104 rfl rfl (by simp only[aij,aiv];omega) rfl rfl) ?_;refine gD ?_ (25,0);refine gW (Wk.of (sl:=[pP 5 (.ptr 33 0),pP 8 (.ptr 8 0)]) (hp:=[pP 8 (.box g.av.cells),pP 33 (.box (l.av.cells++[.ms 23 1 0 l.bo.length,.ms 27 1 0 l.bo.length,.ms 31 1 0 l.jo.length,.ms 100 4 0 (out++[g]).length])),pP 100 (.row 4 ((out++[g]).map Gr.av)),pP 23 (.vec (bv (ba kw g.bo))),pP 27 (.vec (bv (bE l))),pP 31 (.vec (bv (kl l (out++[g]))))]) aU (.k (.cons rfl (.of (by rw[ai0];rfl)) (.cons rfl (.of (by rw[ai4];rfl)) (.k (.k (.cons rfl (.of (by rw[YE,ail])) .nil))))))) ?_ (25,0)
  refine gW (Wk.rk (k:=100) (d:=900) rfl rfl) ?_ (26,0);refine gW (Wk.o (sl:=[pP 5 (.ptr 33 0),pP 103 (g.av)]) (hp:=[pP 33 (qD l (out++[g]).length),pP 23 (.vec (bv (ba kw g.bo))),pP 27 (.vec (bv (bE l))),pP 31 (.vec (bv (kl l (out++[g])))),pP 900 (.row 4 ((out++[g]).map Gr.av))])) ?_;refine gt (br (He l hl af (ba kw g.bo) (kl l (out++[g])) (by rw[lF];exact hk) (EZ _ _) hm (out++[g])) (iL rfl) (by intro k z h;simp only[oJ,aA]at h;split at h;(subst_vars;exact h);split at h;(subst_vars;exact h);split at h;(subst_vars;exact h);split at h;(subst_vars;exact h);split at h;(subst_vars;exact h);cases h) rfl rfl) ?_;exact fC J2 (ba kw g.bo) (out++[g]) ⟨by rw[lF];exact hk,aag af hk hf hg⟩ (we af hk hg)
 have hg:=CQ y;obtain⟨e1,e2⟩:=SG hf hg;subst e1 e2;refine gW (Wk.o (sl:=[pP 5 (.ptr 33 0)]) (hp:=[pP 33 (qD l (ce l).length),pP 23 (.vec (bv (bW l))),pP 27 (.vec (bv (bE l))),pP 31 (.vec (bv (kl l (ce l)))),pP 900 (.row 4 ((ce l).map Gr.av))])) ?_ (27,0);refine gW (Ue l (bW l) (kl l (ce l)) (ce l) hk (EZ _ _) hm) ?_;refine bq ?_;unfold tu;rw[ajg af,af];rfl
theorem G0{α:Type}[BEq α][LawfulBEq α]{xs:List α}{b:α}{ok:Nat->Bool}(h:∀i x,xs[i]?=some x->ok i=!(b==x)):decide (0<=uv (dO xs.length ok))=xs.contains b:=by
 cases hf:dO xs.length ok with
 |some i =>
  obtain⟨h1,h2⟩:=fj hf;obtain⟨x,hx⟩:=aB h1;rw[h i x hx]at h2;have:b=x:=by simpa using h2
  subst this;rw[age.2 (ah3 hx)];exact ajk (by show(0:Int)<=(i:Int);omega)
 |none =>
  rw[ajl (by show ¬(0:Int) <= -1;decide)]
  symm
  rw[<- Bool.not_eq_true,age];intro hm;obtain⟨i,hi⟩:=List.mem_iff_getElem?.1 hm;have hlt:=(afl.1 hi).1;unfold dO at hf;rw[List.find?_eq_none]at hf;have:=hf i (afy.2 hlt);rw[h i b hi]at this;simp at this
theorem Z8(xs:List Bool)(b:Bool)(hl:xs.length<=281474976710656):FP 112 [.lst 1 (xs.map bl),bl b] (i64 (uv (dO xs.length (fun i=>!(b==xs.getD i false))))):=by
 refine ak func112 ?_;refine gl ?_;refine aK [0,1,7] [] (fun(i:Nat)=>[pP 8 (i64 i)]) (fun _=>[]) (fun i=>i<=xs.length/\∀j,j<i->(!(b==xs.getD j false))=true) (fun i=>xs.length-i) 0 ⟨aii _,fun j h=>by omega⟩ ?_;rintro i ⟨hi,hj⟩ K1 J1;refine gC (fun z=>?_) (fun z=>?_)
 ·have ae:=aI z;obtain⟨x,hx⟩:=aB ae;have hg:xs.getD i false=x:=aP hx;refine gi (ay hx) ?_;refine gC (fun z=>?_) (fun z=>?_)
  ·have h2:(b==x)=true:=z;refine ah ?_;rw[j5 ae hj (by rw[hg,h2];rfl)];rfl
  have h2:(b==x)=false:=z;refine ga aG ?_;exact aE J1 (i+1) ⟨ae,fun j h9=>by rcases aid j i with g |g;exact hj j g;(have:j=i:=by omega);subst this;rw[hg,h2];rfl⟩
 have ae:=aV hi z;subst ae;refine ah ?_;rw[kt hj];rfl
theorem Ir(xs:List Bool)(b:Bool)(hl:xs.length<=281474976710656):FP 43 [.lst 1 (xs.map bl),bl b] (bl (xs.contains b)):=by
 refine ak func43 ?_;refine gc (Z8 xs b hl) ?_;refine ah ?_;rw[<- G0 (xs:=xs) (b:=b) (ok:=fun i=>!(b==xs.getD i false)) (fun i x hx=>by rw[aP hx])];rfl
theorem SL(xs:List Int)(b:Int)(hl:xs.length<=281474976710656):FP 321 [.lst 1 (xs.map i64),i64 b] (i64 (uv (dO xs.length (fun i=>!(b==xs.getD i 0))))):=by
 refine ak func321 ?_;refine gl ?_;refine aK [0,1,7] [] (fun(i:Nat)=>[pP 8 (i64 i)]) (fun _=>[]) (fun i=>i<=xs.length/\∀j,j<i->(!(b==xs.getD j 0))=true) (fun i=>xs.length-i) 0 ⟨aii _,fun j h=>by omega⟩ ?_;rintro i ⟨hi,hj⟩ K1 J1;refine gC (fun z=>?_) (fun z=>?_)
 ·have ae:=aI z;obtain⟨x,hx⟩:=aB ae;have hg:xs.getD i 0=x:=aP hx;refine gi (ay hx) ?_;refine gC (fun z=>?_) (fun z=>?_)
  ·have h2:(b==x)=true:=z;refine ah ?_;rw[j5 ae hj (by rw[hg,h2];rfl)];rfl
  have h2:(b==x)=false:=z;refine ga aG ?_;exact aE J1 (i+1) ⟨ae,fun j h9=>by rcases aid j i with g |g;exact hj j g;(have:j=i:=by omega);subst this;rw[hg,h2];rfl⟩
 have ae:=aV hi z;subst ae;refine ah ?_;rw[kt hj];rfl
theorem LQ(xs:List Int)(b:Int)(hl:xs.length<=281474976710656):FP 223 [.lst 1 (xs.map i64),i64 b] (bl (xs.contains b)):=by
 refine ak func223 ?_;refine gc (SL xs b hl) ?_;refine ah ?_;rw[<- G0 (xs:=xs) (b:=b) (ok:=fun i=>!(b==xs.getD i 0)) (fun i x hx=>by rw[aP hx])];rfl
theorem Wt(l:Li)(hl:l.ok):FP 17 [l.av] (.tup [.lst 4 (((if ax l=0 then aC l else[])).map Gr.av),db (if ax l=0 then bU l else ax l)]):=by
 refine ak func17 ?_;refine gc (SA l hl) (hnm:=(by unfold tu;split <;> rfl)) ?_;refine gC (fun z=>?_) (fun z=>?_) (st2:=(77777,0))
 ·have h1:=n7 z;refine gR ?_;exact gE (by rw[ajf h1,ajf h1];exact Sub.tup (.cons (.nil _ _ _) (.cons (.refl _) .nil)))
 have af:=n5 z;have h8:=(ft af).2.2.2.1;have Gu:l.jo.length<=16:=by have:=(ft af).2.1;unfold ez at this;split at this;cases this;omega
 have lk1:(bW l).length=l.bo.length:=by unfold bW;rw[tG,jh]
 have lk2:(fo l).length=l.jo.length:=by unfold fo;rw[tG,aiu]
 have e1:tu l=.iptr (dm l (bW l) (bE l) [.lst 1 ((fo l).map bl),.lst 4 ((ce l).map Gr.av)]):=by unfold tu;rw[ajg af]
 have c1:=Oc (k:=bW l);have c2:=Oc (k:=fo l);refine gW (Wk.of (sl:=[pP 4 (.iptr (dm l (bW l) (bE l) [.lst 1 ((fo l).map bl),.lst 4 ((ce l).map Gr.av)])),pP 5 (db (ax l))]) (hp:=[]) (.cons rfl (.of e1) (.k .nil)) .nil) ?_;refine gc (Ir (bW l) false oz) ?_;refine bP (fun _=>(Ir (fo l) false oz)) ?_;refine gC (fun t25=>?_) (fun t25=>?_)
 ·have h2:bU l=7:=by
   unfold bU;rw[ajf];intro h;have h3:(bW l).contains false=false:=c1.1 oz;have h4:(fo l).contains false=false:=c2.1 oz;rw[h3,h4]at t25;cases t25
  refine gR ?_;exact gE (by rw[ajg af,ajg af];unfold aC;rw[ajf (by rw[h2];simp),h2];exact Sub.tup (.cons (.nil _ _ _) (.cons (.refl _) .nil)))
 have h2:bU l=0:=by
  unfold bU;rw[ajg];cases h3:(bW l).contains false <;> cases h4:(fo l).contains false <;> rw[h3,h4]at t25 <;> first |(cases t25;done) |(have g1:=c1.2 h3;have g2:=c2.2 h4;omega)
 refine bq ?_;rw[ajg af,ajg af,h2];unfold aC;rw[ajg h2];rfl
theorem ab6{l:Li}{g:Gr}{i:Nat}{z:Int}{j:Jt}(hz:g.jo[i]?=some z)(hj:l.jo[z.toNat]?=some j):(ck l g)[i]?=some (eH g j):=by
 unfold ck;rw[aib,hz,ah1,aP hj]
theorem Al{l:Li}{g:Gr}{i:Nat}{z:Int}{j:Jt}{a:Int}(hz:g.jo[i]?=some z)(hj:l.jo[z.toNat]?=some j)(ha:eH g j=a):((ck l g).take i).map i64++[i64 a]=((ck l g).take (i+1)).map i64:=by
 rw[g9 (ab6 hz hj),ha,ai4];rfl
theorem Kc{z:Int}{n:Nat}(h0:0<=z)(h1:z<n):cond (aa .lss z 0) true (aa .geq z (n:Int))=false:=by
 rw[show aa .lss z 0=false from ajl oz];exact ajl oz
theorem V5(l:Li)(hl:l.ok)(af:ax l=0)(g:Gr)(hg:GrOk l g):Con prog 123 [l.av,g.av] [] (.tup [.ms 900 1 0 g.jo.length,.v .nilIface]) [pP 900 (.row 1 ((ck l g).map i64))]:=by
 have fJ:=hg.lb;have oA:=hg.lj;refine gF func123 (fun k z h=>by cases h) ?_;refine gc (JR l hl) ?_;refine gC (fun t=>?_) (fun t=>?_) (st1:=(3,0))
 ·(rw[af]at t;cases t)
 refine gl ?_;refine gW ((Wk.virt 900 1 rfl).trans<|Wk.of (sl:=[pP 2 (.ptr 2 0),pP 3 (.ptr 3 0),pP 7 (.ms 900 1 0 0),pP 19 (.lst 1 (g.jo.map i64)),pP 20 (i64 g.jo.length),pP 21 (i64 0)]) (hp:=[pP 2 (.box l.av.cells),pP 3 (.box g.av.cells),pP 900 (.row 1 [])]) (.k (.k (.cons rfl (Sub.nM _ _ _) (.k (.k (.k .nil)))))) (.k (.k (.k .nil)))) ?_;refine aK [2,3,19,20] [2,3] (fun(i:Nat)=>[pP 7 (.ms 900 1 0 i),pP 21 (i64 i)]) (fun i=>[pP 900 (.row 1 (((ck l g).take i).map i64))]) (fun i=>i<=g.jo.length) (fun i=>g.jo.length-i) 0 (aii _) ?_;rintro i hi K1 J1;refine gC (fun t=>?_) (fun t=>?_) (st2:=(18,0))
 ·have ae:=aI t;obtain ⟨z,hz⟩:=aB ae;obtain ⟨z0,z1⟩:=hg.j z (ah3 hz);obtain ⟨j,hj⟩:∃ j,l.jo[z.toNat]? = some j:=aB oz;have hlt:(((ck l g).take i).map i64).length = i:=by rw [ah6,air,pS]; omega
  refine gi (ay hz) ?_;refine cq ?_;refine gC (fun t=>?_) (fun t=>?_) (st1:=(9,0))
  ·(rw[Kc z0 z1]at t;cases t)
  refine gi (eT (n:=z.toNat) oz hj) ?_;refine gc (LQ g.bo j.a oz) ?_;refine gc (LQ g.bo j.b oz) ?_;refine gD ?_;refine gC (fun t55=>?_) (fun t55=>?_)
  ·have ha : eH g j = -1 := by unfold eH; cases h1 : g.bo.contains j.a <;> cases h2 : g.bo.contains j.b <;> rw [h1, h2] at t55 <;> first | (cases t55; done) | rfl
   refine gs (dX (.tmp rfl) rfl hlt.symm (.tmp rfl) T30 rfl T3 rfl rfl (by simp only[aij,aiv];omega) rfl rfl) ?_ (17,0);refine gW (Wk.of (sl:=[pP 2 (.ptr 2 0),pP 3 (.ptr 3 0),pP 7 (.ms 62 1 0 (i+1)),pP 19 (.lst 1 (g.jo.map i64)),pP 20 (i64 g.jo.length),pP 21 (i64 i)]) (hp:=[pP 2 (.box l.av.cells),pP 3 (.box g.av.cells),pP 62 (.row 1 (((ck l g).take (i+1)).map i64))]) aU (.k (.k (.cons rfl (.of (ajn (Blk.row 1) (Al hz hj ha))) .nil)))) ?_ (17,0);refine gW (Wk.rk (k:=62) (d:=900) rfl rfl) ?_;refine ga aG ?_;exact aE J1 (i+1) ae
  refine gC (fun t=>?_) (fun t=>?_)
  ·have ha : eH g j = j.b := by unfold eH; cases h1 : g.bo.contains j.a <;> cases h2 : g.bo.contains j.b <;> rw [h1] at t <;> rw [h1, h2] at t55 <;> first | (cases t55; done) | (cases t; done) | rfl
   refine gs (dX (.tmp rfl) rfl hlt.symm (.tmp rfl) T30 rfl T3 rfl rfl (by simp only[aij,aiv];omega) rfl rfl) ?_ (17,0);refine gW (Wk.of (sl:=[pP 2 (.ptr 2 0),pP 3 (.ptr 3 0),pP 7 (.ms 69 1 0 (i+1)),pP 19 (.lst 1 (g.jo.map i64)),pP 20 (i64 g.jo.length),pP 21 (i64 i)]) (hp:=[pP 2 (.box l.av.cells),pP 3 (.box g.av.cells),pP 69 (.row 1 (((ck l g).take (i+1)).map i64))]) aU (.k (.k (.cons rfl (.of (ajn (Blk.row 1) (Al hz hj ha))) .nil)))) ?_ (17,0);refine gW (Wk.rk (k:=69) (d:=900) rfl rfl) ?_;refine ga aG ?_;exact aE J1 (i+1) ae
  have ha:eH g j=j.a:=by unfold eH;rw[ajf (by rw[show g.bo.contains j.a=false from t];simp)]
  refine gs (dX (.tmp rfl) rfl hlt.symm (.tmp rfl) T30 rfl T3 rfl rfl (by simp only[aij,aiv];omega) rfl rfl) ?_ (17,0);refine gW (Wk.of (sl:=[pP 2 (.ptr 2 0),pP 3 (.ptr 3 0),pP 7 (.ms 54 1 0 (i+1)),pP 19 (.lst 1 (g.jo.map i64)),pP 20 (i64 g.jo.length),pP 21 (i64 i)]) (hp:=[pP 2 (.box l.av.cells),pP 3 (.box g.av.cells),pP 54 (.row 1 (((ck l g).take (i+1)).map i64))]) aU (.k (.k (.cons rfl (.of (ajn (Blk.row 1) (Al hz hj ha))) .nil)))) ?_ (17,0);refine gW (Wk.rk (k:=54) (d:=900) rfl rfl) ?_;refine ga aG ?_;exact aE J1 (i+1) ae
 have ae:=aV hi t;subst ae;refine gW (Wk.of (sl:=[pP 7 (.ms 900 1 0 g.jo.length)]) (hp:=[pP 900 (.row 1 ((ck l g).map i64))]) aU (.cons rfl (.of (by rw[aio (by rw[pS];exact aie _)])) .nil)) ?_;refine gR ?_;exact aJ.keep (d8 rfl)
section
variable{ts:LL}{u k:Nat}{a b a2 b2:List Rat}{x y x2 y2:Et ts}{w v w' v' w2 v2 w3 v3:Nat}
def atXE(c s X:Et ts)(p q:Rat):Et ts:=(c*qE p-s*qE q)+X
def atYE(c s Y:Et ts)(p q:Rat):Et ts:=(s*qE p+c*qE q)+Y
instance Zu.atXE[c:Ct ts u k]{x y z:Et ts}{p q:Rat}{w1 v1 w2 v2 w3 v3 w4 w5:Nat}[Zu u k x w1 v1][Zu u k y w2 v2][Zu u k z w3 v3][Qz u p w4][Qz u q w5]:Zu u k (atXE x y z p q) (w1+w4+(w2+w5)+w3) (v1+0+1+(v2+0+1)+1+v3+1) :=
  (ajo:Zu u k ((x*Lw.qE p-y*Lw.qE q)+z) _ _)
instance Zu.atYE[c:Ct ts u k]{x y z:Et ts}{p q:Rat}{w1 v1 w2 v2 w3 v3 w4 w5:Nat}[Zu u k x w1 v1][Zu u k y w2 v2][Zu u k z w3 v3][Qz u p w4][Qz u q w5]:Zu u k (atYE x y z p q) (w2+w4+(w1+w5)+w3) (v2+0+1+(v1+0+1)+1+v3+1) :=
  (ajo:Zu u k ((y*Lw.qE p+x*Lw.qE q)+z) _ _)
end
section
variable{ts:LL}{u k:Nat}{a b a2 b2:List Rat}{x y x2 y2:Et ts}{w v w' v' w2 v2 w3 v3:Nat}
end
variable{P:ajs}{N:Nat}{R:Array Oper}{s:AS}{pos:String}{after:Array Edge}
theorem be{d f k:Nat}{bx:Blk}{args:Array ajp}{ts:Array ajr}{xs:List AV}{r:AV}{t:ajr}
  (cG:Con P f xs [(k,some bx)] r [(k,some bx)]) (ha:EvL s args.toList xs) (hk:s.blk k=some bx) (bc:fU s [(k,some bx)] [(k,some bx)] r=true) (hN:aek d N=true) :
  Step P N R s ⟨some d,.call ⟨.value (.func f),args,ts⟩,t,pos,after,none⟩ ⟨some r,[],cA args.toList,[k]⟩:=by
 refine Step.weaken (br (d:=d) cG ha (fun k' z h=>by
  obtain⟨rfl,h9⟩:=ic h;cases h9;exact hk) bc hN) (fun s' h=>h) (fun s' h k' hk'=>?_) (fun s' h=>?_)
 ·left;simp only[ai4,cz,ajd,List.map_nil,aia,aiq,aim,or_false]at hk' ⊢;rcases hk' with h9 |h9 <;> exact h9
 ·intro C m a w hr;refine⟨m,hr.weak (fun t x hx=>⟨x,hx,.refl _⟩) (fun k' x hx=>⟨x,?_,.refl _⟩)⟩;have hb:lk s'.hp k=some bx:=(h.2 k (afr.2 rfl)).trans hk;show lk ([(k,some bx)]++cz [(k,some bx)]++s'.hp) k'=some x;have hx':lk s'.hp k'=some x:=hx;simp only[cz,ajd,List.map_nil,agj,nil_append,aA]
  by_cases e:k'=k
  ·rw[ajg e];rw[e,hb]at hx';exact hx'
  ·rw[ajf e,ajf e];exact hx'
end Go.Lw
namespace Go.Lw
open Go.Proofs
structure Vr where
  w:List Rt
  x:List Rt
  y:List Rt
instance:Inhabited Vr:=⟨⟨[],[],[]⟩⟩
def Vr.av(v:Vr):AV:=.agg [nR v.w,nR v.x,nR v.y]
def Vr.l(v:Vr):List (List Rt):=[v.w,v.x,v.y]
section
variable{rs:List (List Rt)}{r u k:Nat}{a b c:List Rat}{x y:Et (llq rs)}{w v w' v':Nat}
end
structure DyW(l:Li)(a:As):Prop where
  hl:l.ok
  li:ax l=0
  al:AB a
  hc:fp a.rs=0
structure DyR(l:Li)(a:As):Prop extends DyW l a where
  s:DyS a
theorem DyR.two{l:Li}{a:As}(D:DyR l a):(llq a.rs).length<=2:=D.s.two D.hc
section
variable{rs:List (List Rt)}{r:Nat}{a b c a2 b2 c2:List Rat}
end
section
variable{rs:List (List Rt)}{r u k:Nat}{a b:List Rat}{x y:Et (llq rs)}{w v w' v':Nat}
end
section
variable{rs:List (List Rt)}{r:Nat}{a b c a2 b2 c2:List Rat}{x y z x2 y2 z2:Et (llq rs)}
end
class Cy(ts:LL)(u k:outParam Nat):Prop where
  ex:∃R,Tw ts R/\eB R ts.length<=k
  k1:1<=k
  u3:3<=u
  two:ts.length<=2
instance Cy.cx{ts:LL}{u k:Nat}[c:Cy ts u k]:Cx (aD ts) ts.length u k:=by
  obtain⟨R,tw,h⟩:=c.ex;exact⟨⟨R,Hs tw▸tw,h⟩,c.k1,c.u3⟩
theorem Cy.lm{ts:LL}{u k:Nat}(c:Cy ts u k):lm ts.length=200000000000:=by unfold Go.Lw.lm;rw[ajg c.two]
def iE{ts:LL}(y:Et ts):Et ts:=T.inv (aD ts) ts.length y
section
variable{ts:LL}{u k:Nat}{a b:List Rat}{x y:Et ts}{w v w' v':Nat}
abbrev aaj(ts:LL)(ps:List AV):AV:=.agg [.lst 1 (ts.map nA),.lst 2 ps]
end
theorem nW(ts:LL)(a:List Rat):(bZ ts a).length=ts.length+1:=by simp[bZ]
theorem H9{ts:LL}{a:List Rat}{j:Nat}(h:j<ts.length):(bZ ts a).getD j []=ts.getD j []:=by
 unfold bZ;rw[ah4,ah4,ais h]
theorem Ox(ts:LL)(a:List Rat):(bZ ts a).getD ts.length []=bw a (2^ts.length):=by
 unfold bZ;rw[ah4,ain (aie _),Nat.sub_self];rfl
theorem Ln{ts:LL}{a:List Rat}{j:Nat}(h:j<ts.length):aD (bZ ts a) j=aD ts j:=by
 unfold aD;rw[H9 h]
theorem OI{ts:LL}{a:List Rat}{j:Nat}(h:j<=ts.length)(x:T j):T.sgn (aD (bZ ts a)) j x=T.sgn (aD ts) j x :=
 T.sgn_congr j (fun i hi=>Ln oz) x
theorem RB.ext{r e:Nat}{ts:LL}{a:List Rat}(h:RB r ts)(ha:Cb e a):RB (r+e) (bZ ts a):=by
 obtain⟨D,N,h0,h1,h2,h3⟩:=h;obtain⟨D',N',k1,k2,k3⟩:=ha.wide (n:=2^ts.length);have hN:N<=2^r:=h3;refine⟨D*D',max (N*D') (N'*D),aem h0 k1.1,?_,?_,?_⟩
 ·intro d hd;rcases aia.1 hd with h9 |h9
  ·exact((h1 d h9).scale k1.1).mono (Nat.le_max_left _ _)
  ·rw[afr.1 h9,aey D];exact(k1.scale h0).mono (Nat.le_max_right _ _)
 ·rw[ai8];exact aeu h2 k2
 ·rw[ai8];refine Nat.max_le.2 ⟨aeu h3 k2,?_⟩;rw[aey (2^r)];exact aeu k3 h2
theorem YW{r e:Nat}{ts:LL}{a:List Rat}(tw:Tw ts r)(h2:ts.length<=2)(ha:Nm ts.length e a)(he:r+e<=5000000000)(hs:0<=T.sgn (aD ts) ts.length (ao ts.length a)):Tw (bZ ts a) (r+e):=by
 refine⟨by rw[nW];omega,?_,?_,tw.rb.ext ha.cb,he⟩
 ·intro j hj;rw[nW]at hj;rcases aid j ts.length with h |h
  ·rw[H9 h];exact tw.len j h
  ·have : j = ts.length := by omega
   subst this;rw[Ox];exact ig ha.nl.le
 ·intro j hj;rw[nW]at hj;rw[OI oz];rcases aid j ts.length with h |h
  ·rw[Ln h];exact tw.pos j h
  ·have : j = ts.length := by omega
   subst this
   have e1:aD (bZ ts a) ts.length=ao ts.length a:=by
    show ao ts.length ((bZ ts a).getD ts.length [])=_;rw[Ox,Mr]
   rw[e1];exact hs
theorem KW{ts:LL}{a l:List Rat}{e:Nat}(h:Nm ts.length e l)(h4:ts.length<=4):Nm (bZ ts a).length e l:=by
 rw[nW];exact⟨by omega,h.nl.mono oz,h.cb⟩
theorem Ry{ts:LL}{a l:List Rat}(h:Nl ts.length l):a5 (dE (bZ ts a) l)=a5 (dE ts l):=by
 unfold a5 dE;rw[nW];show T.sgn (aD (bZ ts a)) (ts.length+1) (ao (ts.length+1) l)=_;rw[Aw (aD (bZ ts a)) h.le (Nat.le_succ _),OI (aie _)]
theorem V8{ts:LL}{a:List Rat}(h4:ts.length<=4):Nm (bZ ts a).length 1 (pJ ts.length):=by
 rw[nW];refine⟨by omega,.inr ⟨_,aie _,RM _⟩,1,1,⟨by omega,?_⟩,by omega,by omega⟩;intro q hq;unfold pJ at hq;rcases af6 hq with h |h
 ·rw[(List.mem_replicate.1 h).2];exact⟨0,by rw[Rat.zero_mul];rfl,by simp⟩
 ·rw[h];exact⟨1,by rw[Rat.one_mul];rfl,by simp⟩
structure Mt where
  ts:LL
  ps:List (List Rat×List Rat)
abbrev lpA(p:List Rat×List Rat):AV:=Oz p.1 p.2
abbrev Mt.av(m:Mt):AV:=aaj m.ts (m.ps.map lpA)
abbrev P2(ts:LL):Type:=Et ts×Et ts
abbrev P2.l{ts:LL}(p:P2 ts):List Rat×List Rat:=(sX p.1,sX p.2)
abbrev iN{ts:LL}(X:Et ts)(x:Et ts):Et (bZ ts (sX X)):=dE (bZ ts (sX X)) (sX x)
section
variable{ts:LL}
def ve(d:Et ts):Et ts:=qE ((2:Int):Rat)*d
def DI(p q:P2 ts):P2 ts:=(q.1-p.1,q.2-p.2)
def xa(p:P2 ts)(k:Et ts)(v:P2 ts):P2 ts:=(p.1+k*v.1,p.2+k*v.2)
def vi(p q:P2 ts)(z z2:Et ts):P2 ts:=xa p ((z+ki p q-z2)*iE (ve (ki p q))) (DI p q)
def IY(X d:Et ts):Et (bZ ts (sX X)):=dE _ (pJ ts.length)*iE (iN X (ve d))
def GW(X:Et ts)(f v:P2 ts)(c:Et (bZ ts (sX X))):P2 (bZ ts (sX X)):=xa (iN X f.1,iN X f.2) c (qE ((-1:Int):Rat)*iN X v.2,iN X v.1)
def LJ(p:P2 ts)(z z2:Et ts):Mt:=if a5 (z-z2)≠0 then⟨ts,[]⟩else if 0<a5 z then⟨[],[]⟩else⟨ts,[(xa p 0 p).l]⟩
def sZ(p q:P2 ts)(z z2:Et ts):Mt :=
  if a5 (ki p q)=0 then LJ p z z2
  else if a5 (iG p z q z2)<0 then⟨ts,[]⟩
  else if a5 (iG p z q z2)=0 then⟨ts,[(vi p q z z2).l]⟩
  else⟨bZ ts (sX (iG p z q z2)),[(GW (iG p z q z2) (vi p q z z2) (DI p q) (IY (iG p z q z2) (ki p q))).l,
    (GW (iG p z q z2) (vi p q z z2) (DI p q) (qE ((-1:Int):Rat)*IY (iG p z q z2) (ki p q))).l]⟩
def La(z z2:Et ts):Nat:=if a5 (z-z2)=0/\0<a5 z then 15 else 0
def yV(p q:P2 ts)(z z2:Et ts):Nat:=if a5 (ki p q)=0 then La z z2 else 0
end
section
variable{ts:LL}{a b c a2 b2 c2:List Rat}{x y z x2 y2 z2:Et ts}
end
section
variable{rs:List (List Rt)}{r:Nat}{a b c a2 b2 c2:List Rat}{x y z x2 y2 z2:Et (llq rs)}
theorem VM{ts:LL}{X x:Et ts}:a5 (iN X x)=a5 x:=by
 show a5 (dE (bZ ts (sX X)) (sX x))=_;rw[Ry (l:=sX x) (iI _ _)];show a5 (dE ts (sX x))=_;rw[show dE ts (sX x)=x from dY _ _]
theorem To{ts:LL}{r:Nat}(tw:Tw ts r)(d:Et ts):a5 (ve d)=a5 d:=by
 have h:=pa (aD ts) ts.length tw.pos
 have h2:sg (aD ts) ts.length (qE ((2:Int):Rat):Et ts)=1:=by
  show T.sgn (aD ts) ts.length (T.ofQ ts.length ((2:Int):Rat))=1;rw[T.sgn_ofQ];rfl
 have h3:=h.mul (qE ((2:Int):Rat)) d;rw[h2,Int.one_mul]at h3;exact h3
end
section
variable{ts:LL}
abbrev rE(p q:P2 ts):Et ts:=vU (iH q p) (iH q p)
abbrev zT(p q c:P2 ts):Et ts:=vU (iH q p) (iH c p)
abbrev Dz(p q c:P2 ts):Et ts:=K9 (iH q p) (iH c p)
abbrev en(p q c:P2 ts)(z:Et ts):Et ts:=rE p q*z-Dz p q c*Dz p q c
def Kv(X:Et ts)(S:Et ts)(k:Et (bZ ts (sX X))):Et (bZ ts (sX X)):=k*iE (iN X S)
def L8(X:Et ts)(p v:P2 ts)(k:Et (bZ ts (sX X))):P2 (bZ ts (sX X)):=xa (iN X p.1,iN X p.2) k (iN X v.1,iN X v.2)
abbrev sQ(X:Et ts):Et (bZ ts (sX X)):=dE _ (pJ ts.length)
def uu(p q c:P2 ts)(z:Et ts):Mt :=
  if a5 (rE p q)=0 then⟨[],[]⟩else if a5 (en p q c z)=-1 then⟨ts,[]⟩else if a5 (en p q c z)=0 then⟨ts,[(xa p (zT p q c*iE (rE p q)) (iH q p)).l]⟩
  else⟨bZ ts (sX (en p q c z)),[(L8 (en p q c z) p (iH q p) (Kv (en p q c z) (rE p q) (iN (en p q c z) (zT p q c)+sQ (en p q c z)))).l,
    (L8 (en p q c z) p (iH q p) (Kv (en p q c z) (rE p q) (iN (en p q c z) (zT p q c)-sQ (en p q c z)))).l]⟩
def yj(p q:P2 ts):Nat:=if a5 (rE p q)=0 then 8 else 0
end
section
variable{rs:List (List Rt)}{c:List Rat}{o p q:P2 (llq rs)}{z:Et (llq rs)}
end
def oL(vs:List (Rat×Rat)):Bool:=(dO vs.length fun i=>!decide (gG (vs.getD i (0,0)) (vs.getD i (0,0))=0)).isSome
theorem Rm{v:Rat×Rat}(h:oL [v]=false):gG v v≠0:=by
 intro h0;have h1:dO 1 (fun i=>!decide (gG ([v].getD i (0,0)) ([v].getD i (0,0))=0))=some 0:=j5 oz (fun j hj=>by omega) (by show(!decide (gG v v=0))=false;rw[h0];rfl);unfold oL at h;rw[show[v].length=1 from rfl,h1]at h;cases h
theorem aal{v w:Rat×Rat}(h:oL [v,w]=false):gG v v≠0/\gG w w≠0:=by
 unfold oL at h;rw[Option.isSome_eq_false_iff,Option.isNone_iff_eq_none]at h;have h2:=Xr h;have h3:=h2 0 (by show 0<2;omega);have h4:=h2 1 (by show 1<2;omega);have h5:(!decide (gG v v=0))=true:=h3;have h6:(!decide (gG w w=0))=true:=h4;simp only[ahh,decide_eq_false_iff_not]at h5 h6;exact⟨h5,h6⟩
section
variable{ts:LL}
abbrev CV(u:Rat×Rat):Et ts:=qE (gG u u)
def sw(u:Rat×Rat)(w:P2 ts):Et ts:=(qE u.1*w.1+qE u.2*w.2)*iE (CV u)
def sI(u:Rat×Rat)(w:P2 ts):Et ts:=(qE u.1*w.2-qE u.2*w.1)*iE (CV u)
def ER(u:Rat×Rat)(w:P2 ts)(p:Rat×Rat)(o:P2 ts):Et ts:=o.1-(sw u w*qE p.1-sI u w*qE p.2)
def BY(u:Rat×Rat)(w:P2 ts)(p:Rat×Rat)(o:P2 ts):Et ts:=o.2-(sI u w*qE p.1+sw u w*qE p.2)
def vM(u:Rat×Rat)(w:P2 ts)(p:Rat×Rat)(o:P2 ts):Pq:=⟨sX (sw u w),sX (sI u w),sX (ER u w p o),sX (BY u w p o)⟩
end
structure Sv where
  ts:LL
  ps:List Pq
  mode:Int
abbrev Sv.av(s:Sv):AV:=.agg [.lst 1 (s.ts.map nA),.lst 4 (s.ps.map Pq.av),i64 s.mode]
structure Hd where
  p:Rat×Rat
  a:List Rat×List Rat
  c:Rat×Rat
abbrev Hd.av(h:Hd):AV:=.agg [bl (rt h.p.1).neg,ws (rt h.p.1).num,ws (rt h.p.1).den,bl (rt h.p.2).neg,ws (rt h.p.2).num,ws (rt h.p.2).den,nA h.a.1,nA h.a.2,bl (rt h.c.1).neg,ws (rt h.c.1).num,ws (rt h.c.1).den,bl (rt h.c.2).neg,ws (rt h.c.2).num,ws (rt h.c.2).den]
def Ab(ts:LL)(h:Hd)(x:List Rat×List Rat):P2 ts:=(dE ts x.1-dE ts h.a.1,dE ts x.2-dE ts h.a.2)
def AZ(ts:LL)(h:Hd):P2 ts:=(dE ts h.a.1,dE ts h.a.2)
def VJ(ts:LL)(x:List Rat×List Rat)(h:Hd):Pq:=vM (cc h.c h.p) (Ab ts h x) h.p (AZ ts h)
def Jd(m:Mt)(hs:List Hd)(i:Nat):Sv:=⟨m.ts,hs.map (VJ m.ts (m.ps.getD i ([],[]))),if m.ps.length=1 then 0 else 1-2*(i:Int)⟩
variable{P:ajs}{N:Nat}{R:Array Oper}{s:AS}{pos:String}{after:Array Edge}
def vk:ajq->Nat
  | .int .i64 _=>1
  | .string _=>2
  |_=>0
def Ez(P:ajs)(t:ajr):Bool:=match P.underlying t with |some .string=>true |_=>false
theorem Tc{t:ajr}(h:Ez P t=true):P.underlying t=some .string:=by
 unfold Ez at h;split at h
 ·assumption
 ·cases h
def CU (P : ajs) (ks : List Nat) (f : Field) : Bool := f.name != "_" && (match ks[f.offset]? with | some 1 => wQ P f.type | some 2 => Ez P f.type | _ => false)
def yb(P:ajs)(T:ajr)(ks:List Nat):Bool:=match P.underlying T with
  |some (.struct fs)=>fs.toList.all (CU P ks)&&!P.stoodInHeld T&&!P.eqGuardType P.depth T
  |_=>false
theorem Iy{cs:List ajq}{ks:List Nat}(hk:cs.map vk=ks)(w:ajt):∀{fs:List Field},fs.all (CU P ks)=true->(Op.eqFields 9999 cs.toArray cs.toArray fs).run P w=.ok true w
 |[],_=>rfl
 |f::fs,h=>by
  rw [all_cons,ah7] at h;obtain ⟨h1,h2⟩:=h;have ih:=Iy hk w h2;unfold CU at h1;rw [ah7] at h1;obtain ⟨hn,h1⟩:=h1;have n1 : f.name ≠ "_" := by simpa using hn
  have hc:∀k,ks[f.offset]?=some k->∃v,cs[f.offset]?=some v/\vk v=k:=by
   intro k cD;rw[<- hk,aib,ah8]at cD;exact cD
  split at h1
  ·rename_i e;obtain ⟨v,hv,oD⟩:=hc 1 e;have hu:=Ec h1;have e0:cs.toArray[f.offset]? = some v:=by simpa using hv
   have e1:(part f.type cs.toArray f.offset).run P w=.ok v w:=by simp[part,isAgg,run_underlying hu,e0]
   have:∃n,v=.int .i64 n:=by unfold vk at oD;split at oD;exact⟨_,rfl⟩;cases oD;cases oD
   obtain⟨n,rfl⟩:=this;have e3:(Op.equalIn 9999 f.type (.int .i64 n) (.int .i64 n)).run P w=.ok (n==n) w:=run_equalIn_int w 9998 f.type .i64 .i64 n n hu;simp only[Op.eqFields,n1,ne_eq,not_false_eq_true,if_true,ajv,e1,e3,aju,Sem.run_ite,beq_self_eq_true,aha,ahi,if_false,ih]
  ·rename_i e;obtain ⟨v,hv,oD⟩:=hc 2 e;have hu:=Tc h1;have e0:cs.toArray[f.offset]? = some v:=by simpa using hv
   have e1:(part f.type cs.toArray f.offset).run P w=.ok v w:=by simp[part,isAgg,run_underlying hu,e0]
   have:∃n,v=.string n:=by unfold vk at oD;split at oD;cases oD;exact⟨_,rfl⟩;cases oD
   obtain⟨n,rfl⟩:=this;have e3:(Op.equalIn 9999 f.type (.string n) (.string n)).run P w=.ok (n.toList==n.toList) w:=run_equalIn_string w 9998 f.type n n hu;simp only[Op.eqFields,n1,ne_eq,not_false_eq_true,if_true,ajv,e1,e3,aju,Sem.run_ite,beq_self_eq_true,aha,ahi,if_false,ih]
  ·cases h1
theorem Qu{T:ajr}{cs:List ajq}{ks:List Nat}(hk:cs.map vk=ks)(h:yb P T ks=true)(w:ajt) :
  (Op.equalIn 10000 T (.agg cs.toArray) (.agg cs.toArray)).run P w=.ok true w/\P.eqGuardType P.depth T=false:=by
 unfold yb at h;split at h
 ·rename_i fs hu;rw [ah7,ah7] at h;obtain ⟨⟨h,h1⟩,h2⟩:=h;have hF:P.fieldsOf T = fs:=by unfold Program.fieldsOf; rw [hu]
  have hs:P.stoodInHeld T=false:=by simpa using h1
  refine⟨?_,by simpa using h2⟩;rw[run_equalIn_struct w 9999 T _ _ (by rw[hF];exact hu) hs,hF];exact Iy hk w h
 ·cases h
theorem Me{g:Nat->Array ajq->Prop}{S:Nat->Nat->Prop}{m:Nat->Option Nat}{u:ajq}{cs:List ajq}(h:Rep g S m u (.agg (cs.map .v))):u=.agg cs.toArray:=by
 cases h with
 | @agg _ vs _ hn h1 aS =>
  rw[ah6]at hn;congr 1;refine Array.ext (by simpa using hn) (fun i hi xU=>?_);have GA:i<cs.length:=by simpa using xU
  have r:=aS i vs[i] (.v cs[i]) (by simp[hi]) (by simp[GA]);have r2:∀{y z:ajq},Rep g S m y (.v z)->y=z:=fun h=>by cases h;rfl
  rw[r2 r];simp
theorem UL{d:Nat}{x y:ajp}{cs:List ajq}{ks:List Nat}{S T t:ajr}(hx:Ev s x (.agg (cs.map .v)))(hy:Ev s y (.agg (cs.map .v)))
  (hk:cs.map vk=ks) (hS:yb P S ks=true) (hN:aek d N=true) :
  Step P N R s ⟨some d,.binOp .neq S x y T,t,pos,after,none⟩ ⟨some (.v (.bool false)),[],ai x++ai y,[]⟩ :=
 cC rfl rfl hN fun s' am C m ac w hr=>⟨.bool false,by
  have h:=Me ((hx.agree am (fun _ h=>aia.2 (.inl h))).rep hr);have h':=Me ((hy.agree am (fun _ h=>aia.2 (.inr h))).rep hr);obtain⟨r1,r2⟩:=Qu (T:=S) hk hS w;simp only[execOp,h,h',ajv,run_eqGuard_agg w .neq S x y _ _ r2,aju,run_neq_struct,r1,ajw,aha],.v _⟩
end Go.Lw
namespace Go.Lw
open Go.Proofs
theorem QA{ts:LL}{X:Et ts}(hn:ts.length<=1)(e:Nat)(y:Et ts)(h:Nm ts.length e (sX y)):Nm (bZ ts (sX X)).length e (sX y)/\sX (dE (bZ ts (sX X)) (sX y))=sX y:=by
 refine⟨KW h oz,?_⟩;show sh (bZ ts (sX X)).length (ao (bZ ts (sX X)).length (sX y))=sX y;rw[nW,kO h.nl.le];show(if T.isZ ts.length (T.zero ts.length)=true then sh ts.length (ao ts.length (sX y))else _)=_;rw[ajg ((T.isZ_iff _ _).2 rfl)];exact ajn (sh ts.length) (dY _ _)
theorem Do{α:Type}{P:α->Prop}{x y:α}(hx:P x)(hy:P y):∀z∈[x,y],P z:=by
 intro z hz;rcases aiq.1 hz with rfl |hz
 ·exact hx
 ·rw[afr.1 hz];exact hy
theorem vB{α:Type}{P:α->Prop}{x:α}(hx:P x):∀z∈[x],P z:=by
 intro z hz;rw[afr.1 hz];exact hx
section
variable{ts:LL}
def R3(q w1 w2 h:Et ts):Et ts:=q*w1-h*-w2
def rqY(q w1 w2 h:Et ts):Et ts:=q*w2-h*w1
def In(ts:LL)(q h d:List Rat)(w:List Rat×List Rat):P2 ts:=(R3 (dE ts q) (dE ts w.1) (dE ts w.2) (dE ts h)*iE (dE ts d),rqY (dE ts q) (dE ts w.1) (dE ts w.2) (dE ts h)*iE (dE ts d))
structure Rp where
  v:Rat×Rat
  p:Rat×Rat
  a:List Rat×List Rat
  h:List Rat
  d:List Rat
  w:List Rat×List Rat
def CW(ts:LL)(R:Rp)(q:List Rat):Pq:=vM R.v (In ts q R.h R.d R.w) R.p (dE ts R.a.1,dE ts R.a.2)
end
def E3(ts:LL)(R:Rp)(qs:LL)(i:Nat):Sv:=⟨ts,[CW ts R (qs.getD i [])],if qs.length=1 then 0 else 1-2*(i:Int)⟩
def yH(l:Li)(a:As)(i:Int)(j0 j:Jt):Rp:=⟨q5 l i j,bi l j0 i,P2.l (fm l a j0 i),sh 0 (ns l i j0 j:Rat),sX (mO l a i j0 j),P2.l (vI l a i j0 j)⟩
def kg(l:Li)(a:As)(i:Int)(j0 j:Jt):Et (llq a.rs):=qE (Nh l i j)*mO l a i j0 j-qE (ns l i j0 j)*qE (ns l i j0 j)
theorem abn{ts:LL}{r:Nat}(tw:Tw ts r){n d h:Et ts}(hs:¬a5 (n*d-h*h)<0)(h1:¬(a5 d=0/\a5 h=0)):a5 d≠0:=by
 intro h0;have S:=pa (aD ts) ts.length tw.pos
 have e1:sg (aD ts) ts.length (n*d)=0:=by
  rw[S.mul];have:sg (aD ts) ts.length d=0:=h0;rw[this];exact Int.mul_zero _
 have e2:=S.zadd (y:=-(h*h)) e1;rw[show n*d+-(h*h)=n*d-h*h by grind,S.neg,S.mul]at e2;have e3:a5 (n*d-h*h)=sg (aD ts) ts.length (n*d-h*h):=rfl;have e4:a5 h=sg (aD ts) ts.length h:=rfl;have h2:sg (aD ts) ts.length h≠0:=fun h9=>h1 ⟨h0,by rw[e4];exact h9⟩
 rw[e3,e2]at hs;rcases S.cs h with g |g |g
 ·rw[g]at hs;exact hs (by decide)
 ·exact h2 g
 ·rw[g]at hs;exact hs (by decide)
theorem XE{p q:Rat}(h:p*p+q*q=0):p=0/\q=0:=by
 have h1:=K7 p;have h2:=K7 q;have h3:p*p=0:=by grind
 have h4:q*q=0:=by grind
 exact⟨by rcases ag3.1 h3 with g |g <;> exact g,by rcases ag3.1 h4 with g |g <;> exact g⟩
theorem Ra{l:Li}(af:ax l=0){n:Nat}{j:Jt}(hj:l.jo[n]?=some j)(hk:j.kind≠0){i:Int}(hi:j.b=i):gG (q5 l i j) (q5 l i j)≠0:=by
 intro h0;obtain⟨h1,h2⟩:=XE h0;have h3:=Hw af hj;subst hi;have e1:(aL l j.b j.to).1-(aL l j.b j.on).1=0:=h1;have e2:(aL l j.b j.to).2-(aL l j.b j.on).2=0:=h2;have e3:((bV l j.b).getD j.on.toNat default).x.q=((bV l j.b).getD j.to.toNat default).x.q:=by unfold aL at e1;dsimp only at e1;grind
 have e4:((bV l j.b).getD j.on.toNat default).y.q=((bV l j.b).getD j.to.toNat default).y.q:=by unfold aL at e2;dsimp only at e2;grind
 unfold ew at h3;split at h3
 ·cases h3
 ·split at h3
  ·cases h3
  ·split at h3
   ·cases h3
   ·split at h3
    ·cases h3
    ·split at h3
     ·cases h3
     ·first |(rw[ajg ⟨e3,e4⟩]at h3;cases h3) |(split at h3 <;> first |(cases h3;done) |(rename_i g;exact ajm ⟨e3,e4⟩ g))
theorem X6{ts:LL}(q:Rat):sX (qE q:Et ts)=sh 0 (q:Rat):=Fv _ _
def IV(l:Li)(a:As)(i:Int)(j0:Jt)(x:Tn):Pq:=vM (((1:Int):Rat),0) ((qE (CC x.half x.t.q),qE (CH x.half x.t.q)):P2 (llq a.rs)) (bi l j0 i) (fm l a j0 i)
theorem Yq{E:Nat}{l:Li}{k:Int}{a:As}{own:Bool}{n:Nat}{g:Gr}(h:DyOk E l k a own n g)(hk:g.kind=0):∃i z0 d j0,g=⟨0,[i],[z0],d⟩/\l.jo[z0.toNat]?=some j0/\PinP E l a j0 i:=by
 have hd:=h.dy;cases hd with
 |rrr _ _ _ _ _ _ _=>exact ajm hk (by simp)
 |pr _ _ _=>exact ajm hk (by simp)
 |rp _ _ _=>exact ajm hk (by simp)
 | @drv b z d j x t d0 hd hb=>exact⟨b,z,d,j,rfl,t.hj,h.pin rfl t (by simp) (by simp)⟩
def zp(m:Mt)(hs:List Hd):List Sv:=(List.range m.ps.length).map (Jd m hs)
def C0(l:Li)(a:As)(i k:Int)(j0 j1 j2:Jt):List Sv :=
  if oL [cc (bi l j2 i) (bi l j0 i),cc (bi l j2 k) (bi l j1 k)]=true then[]
  else if yV (fm l a j0 i) (fm l a j1 k) (qE (lA (bi l j2 i) (bi l j0 i))) (qE (lA (bi l j2 k) (bi l j1 k)))≠0 then[]
  else zp (sZ (fm l a j0 i) (fm l a j1 k) (qE (lA (bi l j2 i) (bi l j0 i))) (qE (lA (bi l j2 k) (bi l j1 k)))) [⟨bi l j0 i,P2.l (fm l a j0 i),bi l j2 i⟩,⟨bi l j1 k,P2.l (fm l a j1 k),bi l j2 k⟩]
def BO(l:Li)(a:As)(i:Int)(j0 j:Jt):List Sv :=
  if oL [cc (aL l i j.point) (bi l j0 i)]=true then[]
  else if yj (jy l a j.b j.on) (jy l a j.b j.to)≠0 then[]
  else zp (uu (jy l a j.b j.on) (jy l a j.b j.to) (fm l a j0 i) (qE (lA (aL l i j.point) (bi l j0 i)))) [⟨bi l j0 i,P2.l (fm l a j0 i),aL l i j.point⟩]
def AN(ts:LL)(R:Rp)(qs:LL):List Sv:=(List.range qs.length).map (E3 ts R qs)
def DC(l:Li)(a:As)(i:Int)(j0 j:Jt):List Sv :=
  if a5 (mO l a i j0 j)=0/\a5 (qE (ns l i j0 j):Et (llq a.rs))=0 then[]
  else if a5 (kg l a i j0 j)<0 then[]
  else if 0<a5 (kg l a i j0 j)then AN (bZ (llq a.rs) (sX (kg l a i j0 j))) (yH l a i j0 j) [pJ (llq a.rs).length,sX (-sQ (kg l a i j0 j))]
  else AN (llq a.rs) (yH l a i j0 j) [[]]
def E5(l:Li)(a:As)(i:Int)(j0:Jt)(x:Tn):List Sv:=if x.err≠0 then[]else[⟨llq a.rs,[IV l a i j0 x],1⟩]
def vn(l:Li)(a:As)(g:Gr)(x:Tn):List Sv :=
  if g.kind=0 then E5 l a (oS g 0) (jZ l g 0) x
  else if g.kind=1 then C0 l a (oS g 0) (oS g 1) (jZ l g 0) (jZ l g 1) (jZ l g 2)
  else if g.kind=2 then BO l a (oS g 0) (jZ l g 0) (jZ l g 1)
  else DC l a (oS g 0) (jZ l g 0) (jZ l g 1)
section
variable{n N:Nat}{r r':(k:Nat)->T k}
end
section
variable{ts:LL}(X:Et ts)
end
theorem UA{ts:LL}:(qE ((1:Int):Rat):Et ts)=1:=rfl
section
variable{ts:LL}
theorem DJ(r:(k:Nat)->T k):∀(n:Nat)(q:Rat),T.inv r n (T.ofQ n q)=T.ofQ n (1/q)
 |0,q=>rfl
 |n+1,q=>by
  show T.inv r (n+1) (T.ofQ n q,T.zero n)=(T.ofQ n (1/q),T.zero n);rw[T.inv_low,DJ r n q]
theorem abu:(iE (qE 1):Et ts)=1:=by
 show T.inv (aD ts) ts.length (T.ofQ ts.length 1)=_;rw[DJ,show(1:Rat)/1=((1:Nat):Rat) by decide +kernel];rfl
end
theorem EY(r:(k:Nat)->T k)(q:Rat):∀(k:Nat){a c:List Rat},(∀i,i<2^k->c.getD i 0=q*a.getD i 0)->ao k c=T.mul r k (T.ofQ k q) (ao k a)
 |0,a,c,h=>h 0 (by decide)
 |k+1,a,c,h=>by
  have h1:=EY r q k (a:=a.take (2^k)) (c:=c.take (2^k)) (fun i hi=>by rw[kI,kI,ajg hi,ajg hi];exact h i (by rw[ae5];omega));have h2:=EY r q k (a:=a.drop (2^k)) (c:=c.drop (2^k)) (fun i hi=>by rw[lS,lS];exact h _ (by rw[ae5];omega));show(ao k (c.take (2^k)),ao k (c.drop (2^k)))=T.mul r (k+1) (T.ofQ k q,T.zero k) (ao k (a.take (2^k)),ao k (a.drop (2^k)));rw[T.mul_comm,T.mul_half,h1,h2,T.mul_comm r k (ao k (a.take _)),T.mul_comm r k (ao k (a.drop _))]
section
variable{ts:LL}
def Bz(e:Nat)(x:Et ts):Prop:=Nm ts.length e (sX x)
theorem Bz.mono{e f:Nat}{x:Et ts}(h:Bz e x)(hf:e<=f):Bz f x:=Nm.mono h hf
theorem Bz.add{e f:Nat}{x y:Et ts}(hx:Bz e x)(hy:Bz f y):Bz (e+f+1) (x+y):=Nm.addT hx hy
theorem Bz.sub{e f:Nat}{x y:Et ts}(hx:Bz e x)(hy:Bz f y):Bz (e+f+1) (x-y):=Nm.subT hx hy
theorem Bz.neg{e:Nat}{x:Et ts}(hx:Bz e x):Bz e (-x):=Nm.negT hx
theorem Bz.mul{r K e f:Nat}(tw:Tw ts r)(hK:eB r ts.length<=K){x y:Et ts}(hx:Bz e x)(hy:Bz f y):Bz (e+f+K) (x*y):=by
 have h:=Nm.mul tw rfl hx hy;have e1:∀z:Et ts,ao ts.length (sX z)=z:=fun z=>dY _ _
 rw[e1,e1]at h;exact Nm.mono h (Nat.add_le_add_left hK _)
theorem Bz.q{e:Nat}{q:Rat}(h5:ts.length<=5)(hq:Cb e [q]):Bz e (qE q:Et ts):=by
 unfold Bz;rw[X6];exact Nm.ofQ h5 hq
theorem Bz.qm{e f:Nat}{q:Rat}{x:Et ts}(hq:Cb e [q])(hx:Bz f x):Bz (e+f) (qE q*x):=by
 obtain⟨D,N,h1,h2,h3⟩:=hq;obtain⟨D',N',k1,k2,k3⟩:=hx.cb;obtain⟨n,hn,hN⟩:=h1.2 q (afr.2 rfl);have jM:ao ts.length (sX x)=x:=dY _ _
 have hd:ao ts.length ((sX x).map (q*·))=T.mul (aD ts) ts.length (T.ofQ ts.length q) (ao ts.length (sX x)):=EY _ q _ (fun i _=>by
  rw[ah4,aib,ah4];cases(sX x)[i]? with
  |none=>exact(Rat.mul_zero q).symm
  |some v=>rfl)
 rw[jM]at hd
 have hc:Cb (e+f) ((sX x).map (q*·)):=by
  refine⟨D*D',N*N',⟨aem h1.1 k1.1,?_⟩,?_,?_⟩
  ·intro z hz;obtain⟨y,hy,rfl⟩:=af0.1 hz;obtain⟨m,hm,hM⟩:=k1.2 y hy;refine⟨n*m,?_,?_⟩
   ·rw[Int.natCast_mul,ag8,ag8,<- hn,<- hm];grind
   ·rw[agr];exact aeu hN hM
  ·rw[ai8];exact aeu h2 k2
  ·rw[ai8];exact aeu h3 k3
 have cK:Nl ts.length ((sX x).map (q*·)):=by
  rcases hx.nl with h |⟨j,hj,h⟩
  ·exact .inl (by rw[h];rfl)
  ·exact .inr ⟨j,hj,by rw[ah6];exact h⟩
 refine⟨hx.five,iI _ _,?_⟩;have:=hc.sh cK;rw[hd]at this;exact this
theorem Bz.mq{e f:Nat}{q:Rat}{x:Et ts}(hx:Bz f x)(hq:Cb e [q]):Bz (e+f) (x*qE q):=by
 rw[show x*qE q=qE q*x by grind];exact hx.qm hq
theorem Bz.iq{e f:Nat}{q:Rat}{x:Et ts}(hx:Bz f x)(hq:Cb e [q])(h0:q≠0):Bz (e+f) (x*iE (qE q)):=by
 have h:(iE (qE q):Et ts)=qE (1/q):=DJ _ _ q;rw[h];exact hx.mq (hq.inv1 h0)
theorem Bz.iv{r f j I:Nat}{y:Et ts}(tw:Tw ts r)(hy:Bz f y)(nb:Nl j (sX y))(hj:j<=ts.length)(h0:a5 y≠0)(hI:iB r j f<=I)(hs:I<=50000000000):Bz I (iE y):=by
 have hf:=KE r j f;have hl:=G1 ts.length;have e1:ao ts.length (sX y)=y:=dY _ _;obtain⟨L,_,k2,k3,k4⟩:=Vh (b:=sX y) tw hy hj nb (by rw[e1];exact h0) oz oz;rw[e1]at k4;have:=k3.sh k2;rw[k4]at this;exact⟨tw.five,iI _ _,this.mono hI⟩
structure Pz(n ec ex:Nat)(p:Pq):Prop where
  c:Nm n ec p.c
  s:Nm n ec p.s
  x:Nm n ex p.x
  y:Nm n ex p.y
theorem Pz.mono{n n' a b a' b':Nat}{p:Pq}(h:Pz n a b p)(hn:n<=n')(h5:n'<=5)(ha:a<=a')(hb:b<=b'):Pz n' a' b' p :=
 ⟨⟨h5,h.c.nl.mono hn,h.c.cb.mono ha⟩,⟨h5,h.s.nl.mono hn,h.s.cb.mono ha⟩,⟨h5,h.x.nl.mono hn,h.x.cb.mono hb⟩,⟨h5,h.y.nl.mono hn,h.y.cb.mono hb⟩⟩
theorem MF{s t e f:Nat}{u p:Rat×Rat}{w o:P2 ts}(hu:Sm t u)(hp:Sm s p)(h0:gG u u≠0)(w1:Bz e w.1)(w2:Bz e w.2)(o1:Bz f o.1)(o2:Bz f o.2) :
  Pz ts.length (2*e+6*t+2) (f+4*e+12*t+2*s+6) (vM u w p o):=by
 have u1:=Cb.one hu.x;have u2:=Cb.one hu.y;have p1:=Cb.one hp.x;have p2:=Cb.one hp.y;have n:=Cb.one (hu.dot hu);have c:=(((w1.qm u1).add (w2.qm u2)).iq n h0).mono (f:=2*e+6*t+2) oz;have d:=(((w2.qm u1).sub (w1.qm u2)).iq n h0).mono (f:=2*e+6*t+2) oz;exact⟨c,d,(o1.sub ((c.mq p1).sub (d.mq p2))).mono oz,(o2.sub ((d.mq p1).add (c.mq p2))).mono oz⟩
theorem tU{a:List Rat}{e:Nat}(h:Nm ts.length e a):Bz e (dE ts a):=by
 have:=h.cb.sh h.nl;exact⟨h.five,iI _ _,this⟩
theorem Vw{s f:Nat}{p:Rat×Rat}{c d:Rat}{o:P2 ts}{g:Nat}(hc:Cb g [c])(hd:Cb g [d])(hp:Sm s p)(h5:ts.length<=5)(o1:Bz f o.1)(o2:Bz f o.2) :
  Pz ts.length (g+1) (f+2*g+2*s+4) (vM (((1:Int):Rat),0) ((qE c,qE d):P2 ts) p o):=by
 have e0:∀x:Et ts,(qE ((1:Int):Rat):Et ts)*x=x:=fun x=>by
  have:(qE ((1:Int):Rat):Et ts)=1:=rfl;rw[this];grind
 have e1:∀x:Et ts,(qE (0:Rat):Et ts)*x=0:=fun x=>by
  have:(qE (0:Rat):Et ts)=0:=rfl;rw[this];grind
 have e2:(iE (CV (((1:Int):Rat),0)):Et ts)=1:=by
  show iE (qE (gG (((1:Int):Rat),0) (((1:Int):Rat),0)))=_;rw[show gG (((1:Int):Rat),(0:Rat)) (((1:Int):Rat),(0:Rat))=1 by decide +kernel];exact abu
 have ec:sw (((1:Int):Rat),0) ((qE c,qE d):P2 ts)=qE c:=by
  unfold sw;rw[e0,e1,e2];grind
 have ed:sI (((1:Int):Rat),0) ((qE c,qE d):P2 ts)=qE d:=by
  unfold sI;rw[e0,e1,e2];grind
 have p1:=Cb.one hp.x;have p2:=Cb.one hp.y;have c1:Bz g (qE c:Et ts):=Bz.q h5 hc;have d1:Bz g (qE d:Et ts):=Bz.q h5 hd;refine⟨?_,?_,?_,?_⟩
 ·show Bz _ (sw _ _);rw[ec];exact c1.mono oz
 ·show Bz _ (sI _ _);rw[ed];exact d1.mono oz
 ·show Bz _ (ER _ _ p o);unfold ER;rw[ec,ed];exact(o1.sub ((c1.mq p1).sub (d1.mq p2))).mono oz
 ·show Bz _ (BY _ _ p o);unfold BY;rw[ec,ed];exact(o2.sub ((d1.mq p1).add (c1.mq p2))).mono oz
structure Xz(ts:LL)(r X:Nat)(us:LL):Prop where
  tw:Tw us (r+X)
  up:ts.length<=us.length
  ln:us.length<=ts.length+1
theorem EJ{r X:Nat}(tw:Tw ts r)(hx:r+X<=5000000000):Xz ts r X ts:=⟨⟨tw.three,tw.len,tw.pos,tw.rb.mono oz,hx⟩,aie _,by omega⟩
theorem Aa{r X:Nat}(tw:Tw ts r)(hn:ts.length<=1)(hx:r+X<=5000000000){x:Et ts}(h:Bz X x)(hs:0<=a5 x):Xz ts r X (bZ ts (sX x)) :=
 ⟨YW tw oz h hx (by rw[show ao ts.length (sX x)=x from dY _ _];exact hs),by rw[nW];omega,by rw[nW];omega⟩
theorem Bz.up{e:Nat}{X x:Et ts}(h:Bz e x)(hn:ts.length<=1):Bz e (iN X x):=by
 have h1:Nm (bZ ts (sX X)).length e (sX x):=KW h oz;exact tU h1
structure Szs(n r a b X K K' I J:Nat):Prop where
  n1:n<=1
  hK:eB r n<=K
  hX:24*a+8*K+5*b+23<=X
  hL:r+X<=5000000000
  hK':eB (r+X) (n+1)<=K'
  hI:iB r n (8*a+2*K+8)<=I
  hJ:iB (r+X) n (8*a+2*K+8)<=J
  hJ':J<=50000000000
  kk:K<=K'
  ij:I<=J
theorem Szs.kx{n r a b X K K' I J:Nat}(h:Szs n r a b X K K' I J){us:LL}(hu:us.length<=n+1):eB (r+X) us.length<=K':=aiw (qB _ hu) h.hK'
section
variable{r a b X K K' I J:Nat}(Z:Szs ts.length r a b X K K' I J)(tw:Tw ts r)
include Z tw
theorem FF{p q:P2 ts}(p1:Bz a p.1)(p2:Bz a p.2)(q1:Bz a q.1)(q2:Bz a q.2):Bz (8*a+2*K+5) (vU (iH q p) (iH q p)):=by
 have v1:=q1.sub p1;have v2:=q2.sub p2;exact((v1.mul tw Z.hK v1).add (v2.mul tw Z.hK v2)).mono oz
theorem Eg{y:Et ts}(hy:Bz (8*a+2*K+8) y)(h0:a5 y≠0):Bz I (iE y) :=
 hy.iv tw (iI _ _) (aie _) h0 Z.hI (by have:=Z.ij;have:=Z.hJ';omega)
theorem FQ{x y:Et ts}(hx:Bz X x)(hs:0<=a5 x)(hy:Bz (8*a+2*K+8) y)(h0:a5 y≠0):Bz J (iE (iN x y)):=by
 have E:=Aa tw Z.n1 Z.hL hx hs
 have e1:sX (iN x y)=sX y:=by
  have:=(QA (X:=x) Z.n1 _ y hy).2;exact this
 refine(hy.up Z.n1).iv E.tw (j:=ts.length) (by rw[e1];exact iI _ _) E.up (by rw[VM];exact h0) Z.hJ Z.hJ'
theorem EM{x:Et ts}:Bz 1 (dE (bZ ts (sX x)) (pJ ts.length)):=by have _:=tw;exact tU (V8 (by have:=Z.n1;omega))
theorem YZ{p q:P2 ts}{z z2:Et ts}(p1:Bz a p.1)(p2:Bz a p.2)(q1:Bz a q.1)(q2:Bz a q.2)(hz:Bz b z)(km:Bz b z2)(h0:yV p q z z2=0) :
  Xz ts r X (sZ p q z z2).ts/\∀m∈(sZ p q z z2).ps,Nm (sZ p q z z2).ts.length (13*a+2*b+5*K+2*K'+I+J+20) m.1/\Nm (sZ p q z z2).ts.length (13*a+2*b+5*K+2*K'+I+J+20) m.2:=by
 have hn:=Z.n1;have cp:=Z.kk;have hd:Bz (8*a+2*K+5) (ki p q):=FF Z tw (p:=q) (q:=p) q1 q2 p1 p2;have hm:=(hz.add hd).sub km;have q4:Cb 3 [((4:Int):Rat)]:=Cb.int (z:=4) (by decide);have q2':Cb 2 [((2:Int):Rat)]:=Cb.int (z:=2) (by decide);have qm1:Cb 1 [((-1:Int):Rat)]:=Cb.int (z:=-1) (by decide)
 have hX:Bz X (iG p z q z2):=by
  have h:=((hz.mul tw Z.hK hd).qm q4).sub (hm.mul tw Z.hK hm);have h2:=h.mono (f:=X) (by have:=Z.hX;omega);exact h2
 have same:=EJ (X:=X) tw Z.hL;have v1:=q1.sub p1;have v2:=q2.sub p2;unfold yV La at h0;unfold sZ LJ
 by_cases hs:a5 (ki p q)=0
 ·rw[ajg hs]at h0 ⊢
  by_cases aZ:a5 (z-z2)≠0
  ·rw[ajg aZ];exact⟨same,fun m hm=>by cases hm⟩
  ·rw[ajf aZ]
   by_cases hp:0<a5 z
   ·rw[ajg ⟨ah2.1 aZ,hp⟩]at h0;cases h0
   ·rw[ajf hp]
    have n0:Bz 0 (0:Et ts):=by
     have:=Bz.q (ts:=ts) (e:=0) (q:=0) oz (Cb.int (z:=0) (by decide));exact this
    refine⟨same,vB ⟨?_,?_⟩⟩
    ·exact(p1.add (n0.mul tw Z.hK p1)).mono (f:=13*a+2*b+5*K+2*K'+I+J+20) oz
    ·exact(p2.add (n0.mul tw Z.hK p2)).mono (f:=13*a+2*b+5*K+2*K'+I+J+20) oz
 ·rw [ajf hs];have xM:a5 (ve (ki p q)) ≠ 0:=by rw [To tw]; exact hs
  have ht:Bz (8*a+2*K+8) (ve (ki p q)):=Bz.mono (e:=2+(8*a+2*K+5)) (hd.qm q2') oz
  by_cases lg:a5 (iG p z q z2)<0
  ·rw[ajg lg];exact⟨same,fun m hm=>by cases hm⟩
  ·rw[ajf lg];have hk:=hm.mul tw Z.hK (Eg Z tw ht xM);have f1:Bz (11*a+2*b+4*K+I+10) (vi p q z z2).1:=(p1.add (hk.mul tw Z.hK v1)).mono oz;have f2:Bz (11*a+2*b+4*K+I+10) (vi p q z z2).2:=(p2.add (hk.mul tw Z.hK v2)).mono oz
   by_cases rN:a5 (iG p z q z2)=0
   ·rw[ajg rN];exact⟨same,vB ⟨f1.mono oz,f2.mono oz⟩⟩
   ·rw [ajf rN];have fY:0 <= a5 (iG p z q z2):=by omega
    have E:=Aa tw hn Z.hL hX fY;have gp:=Z.kx E.ln;have s1:=(EM Z tw (x:=iG p z q z2)).mul E.tw gp (FQ Z tw hX fY ht xM);have s2:=s1.qm qm1;have w1:=(v2.up (X:=iG p z q z2) hn).qm qm1;have w2:=v1.up (X:=iG p z q z2) hn;have g1:=f1.up (X:=iG p z q z2) hn;have g2:=f2.up (X:=iG p z q z2) hn;exact⟨E,Do ⟨(g1.add (s1.mul E.tw gp w1)).mono oz,(g2.add (s1.mul E.tw gp w2)).mono oz⟩ ⟨(g1.add (s2.mul E.tw gp w1)).mono oz,(g2.add (s2.mul E.tw gp w2)).mono oz⟩⟩
theorem Qw{p q o:P2 ts}{z:Et ts}(p1:Bz a p.1)(p2:Bz a p.2)(q1:Bz a q.1)(q2:Bz a q.2)(o1:Bz a o.1)(o2:Bz a o.2)(hz:Bz b z)(h0:yj p q=0) :
  Xz ts r X (uu p q o z).ts/\∀m∈(uu p q o z).ps,Nm (uu p q o z).ts.length (13*a+2*b+5*K+2*K'+I+J+20) m.1/\Nm (uu p q o z).ts.length (13*a+2*b+5*K+2*K'+I+J+20) m.2:=by
 have hn:=Z.n1;have cp:=Z.kk;have hS:=(FF Z tw p1 p2 q1 q2)
 have v1:=q1.sub p1;have v2:=q2.sub p2;have w1:=o1.sub p1;have w2:=o2.sub p2;have hE:Bz (8*a+2*K+5) (zT p q o):=((v1.mul tw Z.hK w1).add (v2.mul tw Z.hK w2)).mono oz;have hC:Bz (8*a+2*K+5) (Dz p q o):=((v1.mul tw Z.hK w2).sub (v2.mul tw Z.hK w1)).mono oz;have hX:Bz X (en p q o z):=((hS.mul tw Z.hK hz).sub (hC.mul tw Z.hK hC)).mono (by have:=Z.hX;omega);have same:=EJ (X:=X) tw Z.hL;unfold yj at h0;unfold uu
 by_cases hs:a5 (rE p q)=0
 ·rw[ajg hs]at h0;cases h0
 ·rw[ajf hs]
  by_cases h1:a5 (en p q o z)=-1
  ·rw[ajg h1];exact⟨same,fun m hm=>by cases hm⟩
  ·rw[ajf h1]
   by_cases h2:a5 (en p q o z)=0
   ·rw[ajg h2];have hk:=hE.mul tw Z.hK (Eg Z tw (hS.mono oz) hs);exact⟨same,vB ⟨(p1.add (hk.mul tw Z.hK v1)).mono (f:=13*a+2*b+5*K+2*K'+I+J+20) oz,(p2.add (hk.mul tw Z.hK v2)).mono (f:=13*a+2*b+5*K+2*K'+I+J+20) oz⟩⟩
   ·rw[ajf h2]
    have fY:0<=a5 (en p q o z):=by
     have:=T.sgn_cases (aD ts) ts.length (en p q o z);have e:a5 (en p q o z)=T.sgn (aD ts) ts.length (en p q o z):=rfl;omega
    have E:=Aa tw hn Z.hL hX fY;have gp:=Z.kx E.ln;have hi:=FQ Z tw hX fY (hS.mono oz) hs;have rt:=EM Z tw (x:=en p q o z);have k1:=((hE.up (X:=en p q o z) hn).add rt).mul E.tw gp hi;have k2:=((hE.up (X:=en p q o z) hn).sub rt).mul E.tw gp hi;have g1:=p1.up (X:=en p q o z) hn;have g2:=p2.up (X:=en p q o z) hn;have u1:=v1.up (X:=en p q o z) hn;have u2:=v2.up (X:=en p q o z) hn;exact⟨E,Do ⟨(g1.add (k1.mul E.tw gp u1)).mono oz,(g2.add (k1.mul E.tw gp u2)).mono oz⟩ ⟨(g1.add (k2.mul E.tw gp u1)).mono oz,(g2.add (k2.mul E.tw gp u2)).mono oz⟩⟩
end
end
def Cs(s:Nat)(l:Li):Prop:=∀b∈l.bo,∀m∈b.pts,Qb s m.x.q/\Qb s m.y.q
section
variable{s:Nat}{l:Li}(hl:l.ok)(af:ax l=0)(bp:Cs s l)
include hl af bp
theorem wL{body pt:Int}(h1:aX body l.bo.length=true)(h2:aX pt (bV l body).length=true):Sm s (aL l body pt):=by
 obtain⟨n,k,bd,m,h⟩:=xi hl af h1 h2;obtain⟨c1,c2⟩:=bp bd (ah3 h.gbd) m (ah3 h.gm);rw[h.ex,bH]at c1;rw[h.ey,bH]at c2;exact⟨c1,c2⟩
theorem rI{i:Nat}{j:Jt}(hj:l.jo[i]?=some j){b:Int}(h:j.a=b\/j.b=b):Sm s (bi l j b):=by
 obtain⟨i1,i2,i3,i4,_⟩:=ee af hj;unfold bi
 by_cases e:j.a=b
 ·rw[ajg e];subst e;exact wL hl af bp i1 i3
 ·rw[ajf e];rcases h with h |h
  ·exact ajm h e
  ·subst h;exact wL hl af bp i2 i4
theorem vC{E r K:Nat}{a:As}(al:AB a)(hc:fp a.rs=0)(tw:Tw (llq a.rs) r)(hK:eB r (llq a.rs).length<=K){body pt:Int}(h1:aX body l.bo.length=true)(h2:aX pt (bV l body).length=true)(hb:Pd E a body) :
  Bz (3*E+2*s+2*K+10) (jy l a body pt).1/\Bz (3*E+2*s+2*K+10) (jy l a body pt).2:=by
 obtain⟨n,k,bd,m,b,hp⟩:=Rw hl af al hc h1 h2 hb;obtain⟨c1,c2⟩:=bp bd (ah3 hp.mp.gbd) m (ah3 hp.mp.gm);have h:=ZI tw hp.ok c1 c2;have hk:kB r (llq a.rs).length<=K:=hK;unfold jy Bz;rw[hp.eq];exact⟨h.1.mono oz,h.2.mono oz⟩
theorem vz{E r K:Nat}{a:As}(al:AB a)(hc:fp a.rs=0)(tw:Tw (llq a.rs) r)(hK:eB r (llq a.rs).length<=K){i:Nat}{j:Jt}(hj:l.jo[i]?=some j){b:Int}(h:PinP E l a j b) :
  Bz (3*E+2*s+2*K+10) (fm l a j b).1/\Bz (3*E+2*s+2*K+10) (fm l a j b).2:=by
 obtain⟨i1,i2,i3,i4,_⟩:=ee af hj;unfold fm;rcases h.tie with⟨e,hb⟩ |⟨e,e2,hb⟩
 ·rw[ajg e];exact vC hl af bp al hc tw hK i2 i4 hb
 ·rw[ajf e];exact vC hl af bp al hc tw hK i1 i3 hb
end
theorem Bz.upX{ts us:LL}{e:Nat}{x:Et ts}(h:Bz e x)(h1:ts.length<=us.length)(h5:us.length<=5):Bz e (dE us (sX x)):=tU ⟨h5,Nl.mono h.nl h1,h.cb⟩
theorem De{s:Nat}{p q:Rat×Rat}(hp:Sm s p)(hq:Sm s q):Cb (8*s+5) [lA p q]:=by
 have h:=(hp.sub hq).dot (hp.sub hq);exact Cb.one (h.mono oz)
abbrev wZ(a b K K' I J:Nat):Nat:=14*a+3*b+5*K+3*K'+I+J+25
abbrev oZ(s a b K K' I J:Nat):Nat:=a+4*wZ a b K K' I J+26*s+18
theorem Eb{n a b ec ex e:Nat}{p:Pq}(h:Pz n ec ex p)(h1:ec<=e)(h2:ex<=e):Pq.ok n e p:=⟨h.c.mono h1,h.s.mono h1,h.x.mono h2,h.y.mono h2⟩
section
variable{ts:LL}{r a b X K K' I J:Nat}(Z:Szs ts.length r a b X K K' I J)(tw:Tw ts r)
include Z tw
theorem Mn{s:Nat}{m:Mt}(hx:Xz ts r X m.ts)(hm:∀x∈m.ps,Nm m.ts.length (13*a+2*b+5*K+2*K'+I+J+20) x.1/\Nm m.ts.length (13*a+2*b+5*K+2*K'+I+J+20) x.2){hs:List Hd}
  (hh:∀h∈hs,Sm s h.p/\Sm s h.c/\gG (cc h.c h.p) (cc h.c h.p)≠0/\∃o:P2 ts,h.a=P2.l o/\Bz a o.1/\Bz a o.2) :
  ∀sv∈zp m hs,Xz ts r X sv.ts/\∀p∈sv.ps,Pq.ok sv.ts.length (oZ s a b K K' I J) p:=by
 have _:=Z;have _:=tw;intro sv h1;unfold zp at h1;obtain⟨i,hi,rfl⟩:=af0.1 h1;obtain⟨x,PN⟩:=aB (afy.1 hi);obtain⟨n1,n2⟩:=hm x (ah3 PN);refine⟨hx,fun p hp=>?_⟩;unfold Jd at hp;rw[aP PN]at hp;obtain⟨h,h2,rfl⟩:=af0.1 hp;obtain⟨Bt,eL,h0,o,ea,o1,o2⟩:=hh h h2;have h5:=hx.tw.five;have u1:=o1.upX hx.up h5;have u2:=o2.upX hx.up h5;have w1:=tU n1;have w2:=tU n2;have e1:h.a.1=sX o.1:=by rw[ea]
 have e2:h.a.2=sX o.2:=by rw[ea]
 have z:=MF (ts:=m.ts) (u:=cc h.c h.p) (p:=h.p) (w:=Ab m.ts h x) (o:=AZ m.ts h) (e:=13*a+2*b+5*K+2*K'+I+J+20+a+1) (f:=a) (eL.sub Bt) Bt h0
  (by unfold Ab;rw[e1];exact w1.sub u1) (by unfold Ab;rw[e2];exact w2.sub u2) (by unfold AZ;rw[e1];exact u1) (by unfold AZ;rw[e2];exact u2)
 exact Eb (a:=a) (b:=b) z (by show _<=a+4*(14*a+3*b+5*K+3*K'+I+J+25)+26*s+18;omega) (by show _<=a+4*(14*a+3*b+5*K+3*K'+I+J+25)+26*s+18;omega)
theorem R5{s:Nat}{us:LL}(hx:Xz ts r X us){R:Rp}{q:List Rat}(hv:Sm (2*s+1) R.v)(hp:Sm s R.p)(h0:gG R.v R.v≠0)(hq:Bz 1 (dE us q))(w1:Bz (2*a+1) (dE us R.w.1))(w2:Bz (2*a+1) (dE us R.w.2))(hh:Bz b (dE us R.h))
  (hd:Bz J (iE (dE us R.d))) (a1:Bz a (dE us R.a.1)) (a2:Bz a (dE us R.a.2)):Pq.ok us.length (oZ s a b K K' I J) (CW us R q):=by
 have _:=tw;have gp:=Z.kx hx.ln;have x1:=(((hq.mul hx.tw gp w1).sub (hh.mul hx.tw gp w2.neg)).mul hx.tw gp hd)
 have x2:=(((hq.mul hx.tw gp w2).sub (hh.mul hx.tw gp w1)).mul hx.tw gp hd)
 have z:=MF (ts:=us) (u:=R.v) (p:=R.p) (w:=In us q R.h R.d R.w) (o:=(dE us R.a.1,dE us R.a.2)) (e:=wZ a b K K' I J) (f:=a) hv hp h0
  (x1.mono (by show _<=14*a+3*b+5*K+3*K'+I+J+25;omega)) (x2.mono (by show _<=14*a+3*b+5*K+3*K'+I+J+25;omega)) a1 a2
 exact Eb (a:=a) (b:=b) z (by show _<=a+4*(14*a+3*b+5*K+3*K'+I+J+25)+26*s+18;simp only[wZ];omega) (by show _<=a+4*(14*a+3*b+5*K+3*K'+I+J+25)+26*s+18;simp only[wZ];omega)
end
section
variable{s r b X K K' I J E:Nat}{l:Li}{a:As}(D:DyR l a)(hn:(llq a.rs).length<=1)(bp:Cs s l)(tw:Tw (llq a.rs) r)
  (Z:Szs (llq a.rs).length r (3*E+2*s+2*K+10) b X K K' I J) (hb:8*s+5<=b)
include D hn bp tw Z hb
theorem aac{g:Gr}{i k z0 z1 z2:Int}{j0 j1 j2:Jt}(P:RrrP E l a g i k z0 z1 z2 j0 j1 j2) :
  ∀sv∈C0 l a i k j0 j1 j2,Xz (llq a.rs) r X sv.ts/\∀p∈sv.ps,Pq.ok sv.ts.length (oZ s (3*E+2*s+2*K+10) b K K' I J) p:=by
 have _:=hn;have r5:=rI D.hl D.li bp P.h0 P.p0.or;have m7:=rI D.hl D.li bp P.h1 P.p1.or;have m5:=rI D.hl D.li bp P.h2 P.t1;have PO:=rI D.hl D.li bp P.h2 P.t2;obtain⟨y1,y2⟩:=vz D.hl D.li bp D.al D.hc tw Z.hK P.h0 P.p0;obtain⟨y3,y4⟩:=vz D.hl D.li bp D.al D.hc tw Z.hK P.h1 P.p1;have z1:Bz b (qE (lA (bi l j2 i) (bi l j0 i)):Et (llq a.rs)):=Bz.q tw.five ((De m5 r5).mono hb);have z2:Bz b (qE (lA (bi l j2 k) (bi l j1 k)):Et (llq a.rs)):=Bz.q tw.five ((De PO m7).mono hb);unfold C0
 by_cases h1:oL [cc (bi l j2 i) (bi l j0 i),cc (bi l j2 k) (bi l j1 k)]=true
 ·rw[ajg h1];intro sv h;cases h
 ·rw[ajf h1];obtain⟨w1,w2⟩:=aal (ahb.2 h1)
  by_cases h2:yV (fm l a j0 i) (fm l a j1 k) (qE (lA (bi l j2 i) (bi l j0 i))) (qE (lA (bi l j2 k) (bi l j1 k)))≠0
  ·rw[ajg h2];intro sv h;cases h
  ·rw[ajf h2];obtain⟨hx,hm⟩:=YZ Z tw y1 y2 y3 y4 z1 z2 (ah2.1 h2);exact Mn Z tw hx hm (Do ⟨r5,m5,w1,_,rfl,y1,y2⟩ ⟨m7,PO,w2,_,rfl,y3,y4⟩)
theorem Y0{g:Gr}{i z0 z1:Int}{j0 j:Jt}(P:SlP E l a g 2 i z0 z1 j0 j)(ha:j.a=i)(ci:Pd E a j.b) :
  ∀sv∈BO l a i j0 j,Xz (llq a.rs) r X sv.ts/\∀p∈sv.ps,Pq.ok sv.ts.length (oZ s (3*E+2*s+2*K+10) b K K' I J) p:=by
 have _:=hn;obtain⟨i1,i2,i3,i4,i5⟩:=ee D.li P.h1;have m5:Sm s (aL l i j.point):=by rw[<- ha];exact wL D.hl D.li bp i1 i3
 have r5:=rI D.hl D.li bp P.h0 P.p0.or;obtain⟨y1,y2⟩:=vz D.hl D.li bp D.al D.hc tw Z.hK P.h0 P.p0;obtain⟨y3,y4⟩:=vC D.hl D.li bp D.al D.hc tw Z.hK i2 i4 ci;obtain⟨y5,y6⟩:=vC D.hl D.li bp D.al D.hc tw Z.hK i2 (i5 P.hk) ci;have z1:Bz b (qE (lA (aL l i j.point) (bi l j0 i)):Et (llq a.rs)):=Bz.q tw.five ((De m5 r5).mono hb);unfold BO
 by_cases h1:oL [cc (aL l i j.point) (bi l j0 i)]=true
 ·rw[ajg h1];intro sv h;cases h
 ·rw[ajf h1];have w1:=Rm (ahb.2 h1)
  by_cases h2:yj (jy l a j.b j.on) (jy l a j.b j.to)≠0
  ·rw[ajg h2];intro sv h;cases h
  ·rw[ajf h2];obtain⟨hx,hm⟩:=Qw Z tw y3 y4 y5 y6 y1 y2 z1 (ah2.1 h2);exact Mn Z tw hx hm (vB ⟨r5,m5,w1,_,rfl,y1,y2⟩)
theorem RS{g:Gr}{i z0 z1:Int}{j0 j:Jt}(P:SlP E l a g 3 i z0 z1 j0 j)(hj:j.b=i)(ci:Pd E a j.a) :
  ∀sv∈DC l a i j0 j,Xz (llq a.rs) r X sv.ts/\∀p∈sv.ps,Pq.ok sv.ts.length (oZ s (3*E+2*s+2*K+10) b K K' I J) p:=by
 obtain⟨i1,i2,i3,i4,i5⟩:=ee D.li P.h1;have k8:=rI D.hl D.li bp P.h0 P.p0.or;have iT:Sm s (aL l i j.on):=by rw[<- hj];exact wL D.hl D.li bp i2 i4
 have hs2:Sm s (aL l i j.to):=by rw[<- hj];exact wL D.hl D.li bp i2 (i5 P.hk)
 have hv:Sm (2*s+1) (q5 l i j):=(hs2.sub iT).mono oz;have qn:Cb b [Nh l i j]:=(Cb.one (hv.dot hv)).mono oz;have qh:Cb b [ns l i j0 j]:=(Cb.one (hv.cross (iT.sub k8))).mono oz;obtain⟨o1,o2⟩:=vz D.hl D.li bp D.al D.hc tw Z.hK P.h0 P.p0;obtain⟨p1,p2⟩:=vC D.hl D.li bp D.al D.hc tw Z.hK i1 i3 ci;have w1:Bz (2*(3*E+2*s+2*K+10)+1) (vI l a i j0 j).1:=Bz.mono (p1.sub o1) oz;have w2:Bz (2*(3*E+2*s+2*K+10)+1) (vI l a i j0 j).2:=Bz.mono (p2.sub o2) oz;have hd:Bz (8*(3*E+2*s+2*K+10)+2*K+8) (mO l a i j0 j):=Bz.mono (FF Z tw (p:=fm l a j0 i) (q:=jy l a j.a j.point) o1 o2 p1 p2) oz;have hX:Bz X (kg l a i j0 j):=Bz.mono ((hd.qm qn).sub ((Bz.q tw.five qh).qm qh)) (by have:=Z.hX;omega);have h0:=Ra D.li P.h1 P.hk hj;unfold DC
 by_cases h1:a5 (mO l a i j0 j)=0/\a5 (qE (ns l i j0 j):Et (llq a.rs))=0
 ·rw[ajg h1];intro sv h;cases h
 ·rw[ajf h1]
  by_cases h2:a5 (kg l a i j0 j)<0
  ·rw[ajg h2];intro sv h;cases h
  ·rw[ajf h2];have qd:a5 (mO l a i j0 j)≠0:=abn tw h2 h1
   have key:∀us,Xz (llq a.rs) r X us->Bz J (iE (dE us (sX (mO l a i j0 j))))->∀q,Bz 1 (dE us q)->Pq.ok us.length (oZ s (3*E+2*s+2*K+10) b K K' I J) (CW us (yH l a i j0 j) q):=by
    intro us hx hi q hq;have h5:=hx.tw.five
    have hh:Bz b (dE us (sh 0 (ns l i j0 j:Rat))):=by
     have e:dE us (sh 0 (ns l i j0 j:Rat))=qE (ns l i j0 j):=tN _ _;rw[e];exact Bz.q h5 qh
    exact R5 Z tw hx (R:=yH l a i j0 j) hv k8 h0 hq (w1.upX hx.up h5) (w2.upX hx.up h5) hh hi (o1.upX hx.up h5) (o2.upX hx.up h5)
   by_cases h3:0<a5 (kg l a i j0 j)
   ·rw [ajg h3];have hx:=Aa tw hn Z.hL hX oz;have hi:=FQ Z tw hX (by omega:0 <= a5 (kg l a i j0 j)) hd qd;have rt:=EM Z tw (x:=kg l a i j0 j);have k:=key _ hx hi;intro sv h;unfold AN at h;obtain ⟨n,k9,rfl⟩:=af0.1 h;refine ⟨hx,fun p hp=>?_⟩;unfold E3 at hp;rw [afr.1 hp]
    match n,afy.1 k9 with
    |0,_=>exact k _ rt
    |1,_ =>
     refine k _ ?_;show Bz 1 (dE _ (sX (-sQ (kg l a i j0 j))));have e:dE (bZ (llq a.rs) (sX (kg l a i j0 j))) (sX (-sQ (kg l a i j0 j)))=-sQ (kg l a i j0 j):=dY _ _;rw[e];exact rt.neg
   ·rw[ajf h3];have hx:=EJ (X:=X) tw Z.hL;have e:dE (llq a.rs) (sX (mO l a i j0 j))=mO l a i j0 j:=dY _ _
    have hi:Bz J (iE (dE (llq a.rs) (sX (mO l a i j0 j)))):=by
     rw[e];exact(Eg Z tw hd qd).mono Z.ij
    have k:=key _ hx hi;intro sv h;unfold AN at h;obtain⟨n,k9,rfl⟩:=af0.1 h;refine⟨hx,fun p hp=>?_⟩;unfold E3 at hp;rw[afr.1 hp]
    match n,afy.1 k9 with
    |0,_=>exact k _ (tU ⟨tw.five,.inl rfl,⟨1,0,⟨by decide,fun q h=>by cases h⟩,by decide,by decide⟩⟩)
end
theorem QK{l:Li}{kw:List Bool}{g:Gr}(h:cH l kw=some g):∀x∈g.bo,eV l kw x=true:=by
 unfold cH at h;rw[ah8]at h;obtain⟨i,hi,h⟩:=h;obtain⟨h1,h2⟩:=fj hi;split at h
 ·rename_i k hk;subst h;unfold ik at hk;rw [ah8] at hk;obtain ⟨k',hk',rfl⟩:=hk;obtain ⟨h3,h4⟩:=fj hk';rw [show i + 1 + k' = k' + (i + 1) by omega] at h4;unfold df at h4;simp only [ahc,ah7,ajh] at h4;obtain ⟨⟨f1,f2⟩,_⟩:=h4;intro x hx;simp only [ia,aiq,aim,or_false] at hx;rcases hx with rfl | rfl
  ·exact f1
  ·exact f2
 ·rename_i hk;rw[hk]at h2;cases h2
theorem X5{l:Li}{kw:List Bool}{g:Gr}(h:d5 l kw=some g):∀x∈g.bo,eV l kw x=true:=by
 unfold d5 at h;rw[ah8]at h;obtain⟨i,hi,rfl⟩:=h;obtain⟨h1,h2⟩:=fj hi;unfold fV at h2;simp only[ahc,ah7,ajh]at h2;intro x hx;simp only[iP,aiq,aim,or_false]at hx;subst hx;exact h2.1
structure Aq where
  ts:LL
  bs:List Pq
  ms:List Int
instance:Inhabited Pq:=⟨⟨[],[],[],[]⟩⟩
instance:Inhabited Aq:=⟨⟨[],[],[]⟩⟩
def Pq.pl(p:Pq):Pl:=⟨p.c.map rt,p.s.map rt,p.x.map rt,p.y.map rt⟩
def Aq.as(a:Aq):As:=⟨a.ts.map (List.map rt),a.bs.map Pq.pl,a.ms⟩
abbrev Aq.cs(a:Aq):List AV:=[.lst 1 (a.ts.map nA),.lst 4 (a.bs.map Pq.av),.lst 1 (a.ms.map i64)]
abbrev Aq.av(a:Aq):AV:=.agg a.cs
theorem Aq.llq(a:Aq):Lw.llq a.as.rs=a.ts:=Di _
def EW(bs:List Pq)(is:List Int)(ps:List Pq):List Pq:=(is.zip ps).foldl (fun k x=>k.set x.1.toNat x.2) bs
def Aq.nxt(a:Aq)(g:Gr)(s:Sv):Aq:=⟨s.ts,EW a.bs g.bo s.ps,a.ms++[s.mode]⟩
def tz:Pq:=⟨[],[],[],[]⟩
def xh:Tn:=⟨⟨false,[],[]⟩,false⟩
def qO(g:Gr)(xs:List Tn):Tn:=if g.kind=0 then xs.getD g.driver.toNat xh else xh
theorem Ny:∀(zs:List (Int×Pq))(bs:List Pq),(zs.foldl (fun k x=>k.set x.1.toNat x.2) bs).length=bs.length
 |[],bs=>rfl
 |z::zs,bs=>by rw[af1,Ny zs,aje]
theorem I6:∀(zs:List (Int×Pq))(bs:List Pq)(p:Pq),p∈zs.foldl (fun k x=>k.set x.1.toNat x.2) bs->p∈bs\/∃z∈zs,z.2=p
 |[],bs,p,h=>.inl h
 |z::zs,bs,p,h=>by
  rw[af1]at h;rcases I6 zs _ p h with h |⟨z',hz,e⟩
  ·rcases af6 h with h |h
   ·exact .inl h
   ·exact .inr ⟨z,ai2,h.symm⟩
  ·exact .inr ⟨z',ait _ hz,e⟩
theorem Kp(bs:List Pq)(is:List Int)(ps:List Pq):(EW bs is ps).length=bs.length:=Ny _ _
theorem LR{bs:List Pq}{is:List Int}{ps:List Pq}{p:Pq}(h:p∈EW bs is ps):p∈bs\/p∈ps:=by
 rcases I6 _ _ _ h with h |⟨z,hz,e⟩
 ·exact .inl h
 ·exact .inr (e▸(List.of_mem_zip hz).2)
def mN(s j r E:Nat):Nat:=3*E+2*s+2*eB r j+10
def lN(s j r E:Nat):Nat:=24*mN s j r E+8*eB r j+5*(8*s+5)+23
def M5(s j r E:Nat):Nat:=iB r j (8*mN s j r E+2*eB r j+8)
def AW(s j r E:Nat):Nat:=iB (r+lN s j r E) j (8*mN s j r E+2*eB r j+8)
def wz(s j r E:Nat):Nat:=oZ s (mN s j r E) (8*s+5) (eB r j) (eB (r+lN s j r E) (j+1)) (M5 s j r E) (AW s j r E)
def pK(s g j r E:Nat):Nat:=mN s j r E+2*g+2*s+4
def eZ(g:Nat):Nat:=if g<=134 then 3200000000 else 10200000000
def rZ(g:Nat):Nat:=if g<=134 then 60000000 else 170000000
def kf(s g:Nat):Nat->Nat->Nat->Nat->Nat->Bool
  |0,_,j,r,E=>decide (E<=eZ g/\r<=rZ g/\j<=2)
  |n+1,y,j,r,E=>decide (E<=eZ g/\r<=rZ g/\j<=2)&&(kf s g n y j r (pK s g j r E) &&
      (decide (y=0)||(decide (j<=1/\E<=3900000/\r<=132000/\r+lN s j r E<=5000000000/\AW s j r E<=50000000000)&&kf s g n (y-1) (j+1) (r+lN s j r E) (wz s j r E))))
theorem Y1{s g n y j r E:Nat}(h:kf s g n y j r E=true):E<=eZ g/\r<=rZ g/\j<=2:=by
 cases n with
 |zero=>exact aji h
 |succ n =>
  unfold kf at h;simp only[ah7,ajh]at h;exact⟨h.1.1,h.1.2.1,h.1.2.2⟩
theorem SN{s g n y j r E:Nat}(h:kf s g n y j r E=true):E<=10200000000/\r<=400000000/\j<=2:=by
 have h:=Y1 h;unfold eZ rZ at h;split at h <;> omega
theorem Zk{s g n y j r E:Nat}(h:kf s g (n+1) y j r E=true):(E<=20000000000/\r<=400000000/\j<=2)/\kf s g n y j r (pK s g j r E)=true:=by
 have h3:=SN h;unfold kf at h;simp only[ah7,ajh]at h;exact⟨by omega,h.2.1⟩
theorem WW{s g n y j r E:Nat}(h:kf s g (n+1) (y+1) j r E=true):(j<=1/\E<=3900000/\r<=132000/\r+lN s j r E<=5000000000/\AW s j r E<=50000000000)/\kf s g n y (j+1) (r+lN s j r E) (wz s j r E)=true:=by
 unfold kf at h;simp only[ah7,ajb,ajh,aef]at h;rcases h.2.2 with h1 |h1
 ·omega
 ·exact h1
structure QInv(l:Li)(j r E:Nat)(a:Aq):Prop where
  tw:Tw a.ts r
  lv:a.ts.length<=j
  bs:∀p∈a.bs,Pq.ok a.ts.length E p
  ln:a.bs.length=l.bo.length
theorem Pq.ok.up{n n' e e':Nat}{p:Pq}(h:Pq.ok n e p)(hn:n<=n')(h5:n'<=5)(he:e<=e'):Pq.ok n' e' p :=
 ⟨⟨h5,h.c.nl.mono hn,h.c.cb.mono he⟩,⟨h5,h.s.nl.mono hn,h.s.cb.mono he⟩,⟨h5,h.x.nl.mono hn,h.x.cb.mono he⟩,⟨h5,h.y.nl.mono hn,h.y.cb.mono he⟩⟩
theorem Pq.ok.lv{n m e:Nat}{p:Pq}(h:Pq.ok n e p)(hn:n=m):Pq.ok m e p:=hn▸h
theorem x6{r r':Nat}(h:r<=r'):∀j,eB r j<=eB r' j
 |0=>aie _
 |j+1=>by have:=x6 h j;simp only[eB];omega
theorem Iz{r r':Nat}(h:r<=r'):∀j e,iB r j e<=iB r' j e
 |0,e=>aie _
 |j+1,e=>by
  have h1:=x6 h j;have h2:=x6 h (j+1);have h3:=Iz h j (4*e+3*eB r j+r+1);have h4:=Af r' j (e:=4*e+3*eB r j+r+1) (f:=4*e+3*eB r' j+r'+1) oz;simp only[iB];omega
theorem Pq.ok.nr{n e:Nat}{p:Pq}(h:Pq.ok n e p)(he:e<=lm n):∀x∈p.pl.l,NR x e:=by
 intro x hx;simp only[Pl.l,Pq.pl,aiq,aim,or_false]at hx;rcases hx with rfl |rfl |rfl |rfl
 ·exact h.c.rt he
 ·exact h.s.rt he
 ·exact h.x.rt he
 ·exact h.y.rt he
theorem Pq.ok.num{n e:Nat}{p:Pq}(h:Pq.ok n e p):∀x∈p.pl.l,jb n x=0:=by
 intro x hx;simp only[Pl.l,Pq.pl,aiq,aim,or_false]at hx;rcases hx with rfl |rfl |rfl |rfl
 ·exact tX h.c.nl
 ·exact tX h.s.nl
 ·exact tX h.x.nl
 ·exact tX h.y.nl
section
variable{l:Li}{j r E:Nat}{a:Aq}(Q:QInv l j r E a)
include Q
theorem QInv.chk:fp a.as.rs=0:=Q.tw.chk
theorem QInv.mem{p:Pl}(h:p∈a.as.bs):∃q∈a.bs,q.pl=p:=by have _:=Q;exact af0.1 h
theorem QInv.nr(hE:E<=50000000000){p:Pl}(h:p∈a.as.bs):∀x∈p.l,NR x E:=by
 obtain⟨q,hq,rfl⟩:=Q.mem h;exact(Q.bs q hq).nr (aiw hE (G1 _))
theorem QInv.ab(hl:ax l=0)(hE:E<=50000000000)(hr:r<=400000000):AB a.as:=by
 refine⟨Q.tw.tr.mono hr oz,fun p hp x hx=>(Q.nr hE hp x hx).mono hE,?_,?_⟩
 ·show(a.ts.map _).length<=8;rw[ah6];have:=Q.tw.three;omega
 ·show(a.bs.map _).length<=30;rw[ah6,Q.ln];have:=(ft hl).2.2.2.1;omega
theorem QInv.sma(hE:E<=50000000000){F:Nat}(hF:E<=F)(k:Int)(own:Bool):JC F l k a.as own :=
 fun b _ _ p hp x hx=>(Q.nr hE (ah3 hp) x hx).mono hF
theorem QInv.nd(hl:ax l=0){g:Gr}(hg:GrOk l g){own:Bool}:∀b∈mR l g own,tQ a.as b=0:=by
 intro b hb;unfold tQ;split
 ·rfl
 ·have h1:=JJ hl hg b hb;obtain ⟨p,hp⟩:=aB (l:=a.bs) (i:=b.toNat) (by rw [Q.ln]; omega);have e:a.as.bs[b.toNat]? = some p.pl:=by show (a.bs.map Pq.pl)[b.toNat]? = _; rw [aib,hp]; rfl
  rw[aP e];unfold pp;rw[ajf (by rw[Q.chk];simp)];have e2:a.as.rs.length=a.ts.length:=ah6 _;rw[e2];exact M9 (fun x hx=>(Q.bs p (ah3 hp)).num x hx)
theorem QInv.dy0(hl:ax l=0)(hs:bU l=0){k:Nat}{g:Gr}(hg:(aC l)[k]?=some g)(own:Bool):xb l k a.as own=0:=by
 have hk:=(afl.1 hg).1;obtain⟨_,ho⟩:=lT hl (ah3 hg);have hgA:wE l (k:Nat)=g:=aP hg;rw[QB hl,RK hs oz (by show(a.bs.map _).length=_;rw[ah6,Q.ln]) Q.chk,hgA];exact M9 (fun b hb=>Q.nd hl ho b (Kf.1 hb))
end
structure WkC(l:Li)(xs:List Tn)(s g:Nat):Prop where
  hl:l.ok
  li:ax l=0
  sp:bU l=0
  cs:Cs s l
  ln:xs.length=l.drivers.length
  ok:∀x∈xs,x.t.ok/\x.err=0/\Qb 1000 x.t.q/\Cb g [CC x.half x.t.q]/\Cb g [CH x.half x.t.q]
theorem Qk{l:Li}{g:Gr}(h:DyK l g)(hk:g.kind=0):0<=g.driver/\g.driver<l.drivers.length:=by
 cases h with
 | @drv b z d _ _ t d0 hd hb=>have:=(afl.1 hd).1;exact⟨d0,by show d<_;omega⟩
 |rrr=>exact ajm hk (by simp)
 |pr=>exact ajm hk (by simp)
 |rp=>exact ajm hk (by simp)
theorem QP:xh.t.ok:=⟨(fun x h=>by cases h),(fun x h=>by cases h),aii _,aii _⟩
theorem YH:Qb 1000 xh.t.q:=by
 have e:xh.t.q=0:=by decide +kernel
 rw[e];exact Qb.zero.mono oz
section
variable{l:Li}{xs:List Tn}{s g:Nat}(W:WkC l xs s g){k:Nat}{gr:Gr}(hg:(aC l)[k]?=some gr)
include W hg
theorem WkC.grp:DyK l gr/\GrOk l gr:=lT W.li (ah3 hg)
theorem WkC.tn:(qO gr xs).t.ok/\Qb 1000 (qO gr xs).t.q/\(gr.kind=0->∃x∈xs,qO gr xs=x):=by
 unfold qO
 by_cases hk:gr.kind=0
 ·rw[ajg hk];have h:=Qk (W.grp hg).1 hk;obtain⟨x,hx⟩:=aB (l:=xs) (i:=gr.driver.toNat) (by rw[W.ln];omega);rw[aP hx];have hm:=ah3 hx;exact⟨(W.ok x hm).1,(W.ok x hm).2.2.1,fun _=>⟨x,hm,rfl⟩⟩
 ·rw[ajf hk];exact⟨QP,YH,fun h=>ajm h hk⟩
variable{j r E:Nat}{a:Aq}(Q:QInv l j r E a)
include Q
theorem QInv.dyOk{F:Nat}(hE:E<=50000000000)(hF:E<=F):DyOk F l k a.as false k gr:=by
 obtain⟨i,g',h⟩:=Q6 (Q.sma hE hF k false) (Q.dy0 W.li W.sp hg false);have e:i=k:=by have:=h.hk;omega
 subst e;have:=h.hg;rw[hg]at this;cases this;exact h
theorem QInv.dyS(hr:r<=132000)(hj:j<=1):DyT a.as:=by have _:=W;have _:=hg;exact Wa (Q.tw.tr.mono hr oz) (fun _=>by rw[a.llq];exact aiw Q.lv hj)
theorem QInv.dyW(hE:E<=50000000000)(hr:r<=400000000):DyW l a.as:=by have _:=hg;exact⟨W.hl,W.li,Q.ab W.li hE hr,Q.chk⟩
theorem QInv.twl:Tw (Lw.llq a.as.rs) r:=by have _:=W;have _:=hg;rw[a.llq];exact Q.tw
theorem QInv.drv{n y:Nat}(ok:kf s g (n+1) y j r E=true)(hk:gr.kind=0):∀sv∈vn l a.as gr (qO gr xs),QInv l j r (pK s g j r E) (a.nxt gr sv):=by
 obtain⟨⟨hE,hr,hj⟩,_⟩:=Zk ok;have D:=QInv.dyW W hg Q oz hr;have O:=QInv.dyOk W hg Q (F:=E) oz (aie _);obtain⟨i,z0,d,j0,e,p9,p0⟩:=Yq O hk;obtain⟨_,_,hx⟩:=W.tn hg;obtain⟨x,hx,ex⟩:=hx hk;obtain⟨_,he,_,hc,hs⟩:=W.ok x hx;have ch:(Lw.llq a.as.rs).length=a.ts.length:=by rw[a.llq]
 have tw:=QInv.twl W hg Q;have r5:=rI W.hl W.li W.cs p9 p0.or;have hK:eB r (Lw.llq a.as.rs).length<=eB r j:=qB r (by rw[ch];exact Q.lv);obtain⟨o1,o2⟩:=vz W.hl W.li W.cs D.al D.hc tw hK p9 p0;rw[ex];unfold vn;rw[ajg hk,e];show ∀sv∈E5 l a.as i (l.jo.getD z0.toNat default) x,_;rw[aP p9];unfold E5;rw[ajf oz];have hp:=Vw (ts:=Lw.llq a.as.rs) (p:=bi l j0 i) (o:=fm l a.as j0 i) hc hs r5 tw.five o1 o2
 have rY:Pq.ok a.ts.length (pK s g j r E) (IV l a.as i j0 x):=by
  have:=Eb (a:=0) (b:=0) hp (e:=pK s g j r E) (by unfold pK mN;omega) (by unfold pK mN;omega);exact Pq.ok.lv this ch
 refine vB ⟨?_,?_,?_,?_⟩
 ·exact tw
 ·show(Lw.llq a.as.rs).length<=j;rw[ch];exact Q.lv
 ·intro p GB;show Pq.ok (Lw.llq a.as.rs).length _ p;rw[ch];rcases LR GB with h |h
  ·exact(Q.bs p h).up (aie _) Q.tw.five (by unfold pK mN;omega)
  ·rw[afr.1 h];exact rY
 ·exact(Kp _ _ _).trans Q.ln
theorem QInv.dy{n y:Nat}(ok:kf s g (n+1) (y+1) j r E=true)(hk:gr.kind≠0):∀sv∈vn l a.as gr (qO gr xs),QInv l (j+1) (r+lN s j r E) (wz s j r E) (a.nxt gr sv):=by
 obtain⟨⟨hj,hE,hr,hX,hJ⟩,_⟩:=WW ok;have D:DyR l a.as:=⟨QInv.dyW W hg Q oz oz,(QInv.dyS W hg Q hr hj).toDyS⟩
 have O:=QInv.dyOk W hg Q (F:=E) oz (aie _);have ch:(Lw.llq a.as.rs).length=a.ts.length:=by rw[a.llq]
 have GC:(Lw.llq a.as.rs).length<=j:=by rw[ch];exact Q.lv
 have tw:=QInv.twl W hg Q
 have Z:Szs (Lw.llq a.as.rs).length r (3*E+2*s+2*eB r j+10) (8*s+5) (lN s j r E) (eB r j) (eB (r+lN s j r E) (j+1)) (M5 s j r E) (AW s j r E):=by
  refine⟨by omega,qB r GC,?_,hX,qB _ oz,?_,?_,hJ,?_,?_⟩
  ·unfold lN mN;omega
  ·exact BZ r _ GC
  ·exact BZ _ _ GC
  ·exact aiw (qB r oz) (x6 oz _)
  ·exact Iz oz _ _
 have hn:(Lw.llq a.as.rs).length<=1:=by omega
 have key:∀sv∈vn l a.as gr (qO gr xs),Xz (Lw.llq a.as.rs) r (lN s j r E) sv.ts/\∀p∈sv.ps,Pq.ok sv.ts.length (wz s j r E) p:=by
  unfold vn;rw[ajf hk]
  by_cases iz:gr.kind=1
  ·obtain⟨i,k2,z0,z1,z2,j0,j1,j2,P⟩:=O.rrr iz;obtain⟨e0,e1,e2,b0,b1,_⟩:=P.at;rw[ajg iz,e0,e1,e2,b0,b1];exact aac D hn W.cs tw Z (aie _) P
  ·rw[ajf iz]
   by_cases cD:gr.kind=2
   ·obtain⟨i,z0,z1,j0,j,P,ha,hb⟩:=O.pr cD;obtain⟨e0,e1,b0,_⟩:=P.at;rw[ajg cD,e0,e1,b0];exact Y0 D hn W.cs tw Z (aie _) P ha hb
   ·obtain⟨i,z0,z1,j0,j,P,_,hj,hb⟩:=O.rp hk iz cD;obtain⟨e0,e1,b0,mZ⟩:=P.at;rw[ajf cD,e0,e1,b0];exact RS D hn W.cs tw Z (aie _) P hj hb
 intro sv GD;obtain⟨hx,hp⟩:=key sv GD;have h5:=hx.tw.five;have Bj:=hx.up;have iU:=hx.ln;rw[ch]at Bj iU;refine⟨hx.tw,?_,?_,?_⟩
 ·show sv.ts.length<=j+1;have:=Q.lv;omega
 ·intro p GB;rcases LR GB with h |h
  ·exact(Q.bs p h).up Bj h5 (by unfold wz oZ wZ mN;omega)
  ·exact hp p h
 ·exact(Kp _ _ _).trans Q.ln
end
end Go.Lw
