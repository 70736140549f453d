/- LimitsRadicands: for any linkage the law returns true and leaves its argument as it was. No other condition. Part 5 of 8: what the later parts need -/
import Derived.Test.YtmencaoblogmeaaGreatXd
import Derived.Laws.Cover3
set_option linter.unusedVariables false
open List (nil_append map_map)
open List renaming mem_of_getElem? → ahg, mem_cons_of_mem → ah6, mem_append → ahn, map_cons → aiq, mem_cons → ah3, length_cons → ahx, mem_cons_self → aig, length_append → aid, length_nil → ah9, getD_eq_getElem?_getD → ahh, getElem?_append_left → ah4, all_eq_true → ahs, getElem?_take → aie, getElem?_drop → aii, getElem?_map → aho, getElem?_append_right → ahz, getElem?_eq_getElem → ahm, getElem?_replicate → aia, map_append → aih, length_take → ah5, take_of_length_le → ah1, drop_zero → aim, take_length → ahw, not_mem_nil → ahy, length_map → ahk, length_replicate → ah7, map_replicate → aik, map_set → ain, length_set → air, mem_of_mem_take → aes, mem_of_mem_drop → aeu, mem_or_eq_of_mem_set → aex, eq_of_mem_replicate → ae2, mem_singleton → ae4, drop_eq_getElem_cons → ae7, drop_length → afb, length_eq_one_iff → afc, getElem?_eq_some_iff → afh, length_drop → afi, cons_append → afj, range_succ → afm, length_eq_zero_iff → afp, replicate → afq, mem_map → aft, mem_range → afu, contains_iff_mem → afv, foldl_cons → afw
open Nat renaming eq_of_beq_eq_true → ahi, le_refl → ahr, lt_of_lt_of_le → ah2, lt_or_ge → ahq, le_trans → ah8, zero_le → ahv, pow_add → ail, pow_succ → ado, mul_le_mul → adv, mul_pos → adw, blt_eq → adx, pow_lt_pow_right → ad6, pow_le_pow_right → ad8, beq → ad9, mul_comm → aef, zero_add → aeg, two_pow_pos → aej, blt → aem, add_zero → aep, add_sub_cancel → aeq
open Option renaming map_eq_some_iff → ahl, map_some → ahd, getD_some → ahe
open Bool renaming and_eq_true → ahj, or_eq_true → aio, eq_false_iff → agn, not_true → ago, and_false → agp, not_eq_false' → agr, eq_iff_iff → ags, not_eq_true' → agt, false_eq_true → agv
open Array renaming getD_eq_getD_getElem? → ahp, getElem?_eq_none → agw, getElem?_eq_getElem → ag7, getElem?_toList → ag9
open Int renaming toNat_natCast → aij, natAbs_mul → af6
open Rat renaming intCast_mul → agd, intCast_eq_zero_iff → agf, mul_eq_zero → agh
open Decidable renaming not_not → ahf
open Go renaming Operand → ai2, Value → ai3, TypeId → ai4, Program → ai5, World → ai6
open Go.Result renaming andThen_ok → ai7
open Go.Sem renaming run_bind → ai8, run_pure → ai9
open Go.Proofs.Tryz
namespace Go.Lw
def T.inv(r:(k:Nat)->T k):(k:Nat)->T k->T k
  |0,q=>(1:Rat)/q
  |k+1,x =>
    if T.isZ k x.2=true then(T.inv r k x.1,T.zero k)
    else if T.sgn r k (T.norm r k x)=0 then(T.inv r k (T.add k x.1 x.1),T.zero k)
    else(T.mul r k x.1 (T.inv r k (T.norm r k x)),T.mul r k (T.neg k x.2) (T.inv r k (T.norm r k x)))
theorem T.inv_low(r:(k:Nat)->T k)(k:Nat)(x:T k):T.inv r (k+1) (x,T.zero k)=(T.inv r k x,T.zero k):=by
 have h:=(T.isZ_iff k (T.zero k)).2 rfl
 conv=>lhs;unfold T.inv
 simp only[ait h]
theorem zL(r:(k:Nat)->T k){i j:Nat}{s L:List Rat}(hs:s.length<=2^i)(hL:L.length<=2^i)(h:ao i L=T.inv r i (ao i s))(dH:i<=j):ao j L=T.inv r j (ao j s):=by
  induction j with
  | zero => have : i = 0 := by omega
            subst this;exact h
  |succ j ih =>
    by_cases h':i=j+1
    · rw[<- h'];exact h
    · rw[kG (ah8 hs (d7 oz)),kG (ah8 hL (d7 oz)),T.inv_low,ih oz]
def iB(r:Nat):Nat->Nat->Nat
  |0,e=>e
  |j+1,e=>e+iB r j (4*e+3*eB r j+r+1)+eB r (j+1)
theorem Jp(r:Nat):∀j e,e<=iB r j e
 |0,e=>ahr _
 |j+1,e=>by simp only[iB];omega
theorem AG(r:Nat):∀j {e f:Nat},e<=f->iB r j e<=iB r j f
 |0,e,f,h=>h
 |j+1,e,f,h=>by
  have:=AG r j (e:=4*e+3*eB r j+r+1) (f:=4*f+3*eB r j+r+1) oz;simp only[iB];omega
theorem Ve(r j e:Nat):iB r j e<=iB r (j+1) e:=by
 have:=AG r j (e:=e) (f:=4*e+3*eB r j+r+1) oz;simp only[iB];omega
theorem CB(r e:Nat){i j:Nat}(h:i<=j):iB r i e<=iB r j e:=by
  induction j with
  | zero => have : i = 0 := by omega
            subst this;exact ahr _
  |succ j ih =>
    by_cases dH:i=j+1
    · rw[dH];exact ahr _
    · exact ah8 (ih oz) (Ve r j e)
theorem Tf{r:(k:Nat)->T k}{n:Nat}(h:Sg (E r n) (sg r n))(hd:0<=sg r n (bb r n)){x y:E r n}(hz:sg r (n+1) (dA x y)≠0)(hN:sg r n (aH x y)=0):sg r n (x+x)≠0:=by
 have hx:sg r n x≠0:=by
  intro hx;rw[my,hN,hx]at hz;have h1:sg r n (x*x)=0:=by rw[h.mul,hx];simp
  have h2:=h.zadd (y:=-(y*y*bb r n)) h1;unfold aH at hN;rw[h2,h.neg,h.mul,h.mul]at hN;unfold T.sgn3 at hz;have c1:=h.cs y;have c2:=h.cs (bb r n);rcases c1 with e |e |e <;> rcases c2 with e' |e' |e' <;> rw[e,e']at hN <;> rw[e,e']at hz <;> first |omega |(simp at hz) |(simp at hN)
 rcases h.cs x with e |e |e
 ·have := h.padd (x := -x) (y := -x) (by rw[h.neg,e];rfl) (by rw[h.neg,e];decide);rw[show -x+-x=-(x+x) by grind,h.neg]at this;omega
 ·exact aiz e hx
 ·have:=h.padd (x:=x) (y:=x) e oz;omega
theorem Cb.inv1{e:Nat}{q:Rat}(h:Cb e [q])(hq:q≠0):Cb e [(1:Rat)/q]:=by
 obtain⟨D,N,⟨h0,h1⟩,h2,h3⟩:=h;obtain⟨n,hn,hl⟩:=h1 q (by simp)
 have hD:((D:Int):Rat)≠0:=by
  intro h9;have:(D:Int)=0:=agf.1 h9;omega
 have k9:n≠0:=by
  rintro rfl;rw[show((0:Int):Rat)=0 from rfl]at hn;rcases agh.1 hn with h9 |h9
  ·exact hq h9
  ·exact hD h9
 have hnq:((n:Int):Rat)≠0:=fun h9=>k9 (agf.1 h9)
 refine⟨n.natAbs,D,⟨by omega,?_⟩,ah8 hl h3,h2⟩;intro x hx;rw[ae4.1 hx];have key:(1:Rat)/q*(n:Rat)=((D:Int):Rat):=by rw[<- hn];grind
 rcases Int.natAbs_eq n with e9 |e9
 ·refine⟨D,?_,by simp⟩;rw[<- e9];exact key
 ·refine ⟨-(D : Int), ?_, by simp⟩;rw [Rat.intCast_neg,<- key]
  conv=>rhs;rw[e9]
  rw[Rat.intCast_neg];grind
theorem Jk{e n:Nat}{s:List Rat}(h:Cb e s):Cb e (fP (s.take n) (fj (s.drop n)) n):=by
 obtain⟨D,N,h1,h2,h3⟩:=h;exact⟨D,N,(h1.sub (fun q hq=>aes hq)).join (h1.sub (fun q hq=>aeu hq)).minus,h2,h3⟩
theorem Lt:∀{j i:Nat}{x:T j},(sh j x).length=2^(i+1)->i+1<=j->T.isZ i (ao i ((sh j x).drop (2^i)))=false
 |0,i,x,_,h=>by omega
 |j+1,i,x,hl,h=>by
  cases hz:T.isZ j x.2
  ·have h1:=Xu hz;rw[h1]at hl
   have e:i=j:=by
    rcases Nat.lt_trichotomy i j with h9 |h9 |h9
    ·have := ad6 (a := 2) oz (show i+1<j+1 by omega);omega
    ·exact h9
    ·omega
   subst e;have h2:ao (i+1) (sh (i+1) x)=x:=dY (i+1) x;have h3:ao i ((sh (i+1) x).drop (2^i))=x.2:=ai0 Prod.snd h2;rw[h3];exact hz
  ·have h1:sh (j+1) x=sh j x.1:=by
    conv=>lhs;unfold sh
    rw[ait hz]
   rw[h1]at hl ⊢;have h2:=(iH j x.1).le
   have h3:i+1<=j:=by
    rcases ahq j (i+1)with h9 |h9
    ·have:=ad6 (a:=2) oz h9;omega
    ·exact h9
   exact Lt hl h3
theorem Ug(r:(k:Nat)->T k){i:Nat}{x:T (i+1)}(hz:T.isZ i x.2=false)(h0:T.sgn r i (T.norm r i x)=0):T.inv r (i+1) x=(T.inv r i (T.add i x.1 x.1),T.zero i):=by
 conv=>lhs;unfold T.inv
 rw[ais (by rw[hz];decide),ait h0]
theorem ZH(r:(k:Nat)->T k){i:Nat}{x:T (i+1)}(hz:T.isZ i x.2=false)(h0:T.sgn r i (T.norm r i x)≠0) :
  T.inv r (i+1) x=(T.mul r i x.1 (T.inv r i (T.norm r i x)),T.mul r i (T.neg i x.2) (T.inv r i (T.norm r i x))):=by
 conv=>lhs;unfold T.inv
 rw[ais (by rw[hz];decide),ais h0]
theorem mul_low(r:(k:Nat)->T k)(i:Nat)(x y w:T i):T.mul r (i+1) (x,y) (w,T.zero i)=(T.mul r i x w,T.mul r i y w):=by
 show(T.add i (T.mul r i x w) (T.mul r i (T.mul r i y (T.zero i)) (r i)),T.add i (T.mul r i x (T.zero i)) (T.mul r i y w))=_;rw[T.mul_zero,T.zero_mul,T.mul_zero,T.add_zero,T.zero_add]
open Go.Proofs
theorem Vj{ts:LL}{j e:Nat}{a:List Rat}{q:Rat}(h5:j<=5)(ha:Nl j a)(ca:Cb e a)(he:e<4398046511104)(hs:sh j (ao j a)=[q])(hq:q≠0) :
  FP 339 [jX ts,nA a] (nA [1/q]):=by
 have qa:∀q∈a,Qs q:=fun q hq=>ca.qs he hq
 have cs:=ca.sh ha;rw[hs]at cs;have qq:Qs q:=cs.qs he (by simp);have kX:=yB a h5 ha qa;rw[hs]at kX;have mW:=Ja (rt 1) (rt q) (Qb.one.qs oz).ok qq.ok;rw[bG,bG,ais hq]at mW;refine ak func339 ?_;refine gc kX ?_;refine gl ?_;refine gC (fun z=>?_) (fun z=>?_) (st2:=(77777,0))
 ·refine gc (oG 1 oz) ?_;refine gi rfl ?_;refine gc mW ?_;refine gD ?_;refine ah ?_;rfl
 cases z
theorem Qk{ts:LL}{m r:Nat}(ht:nU ts m r)(hm:m<=5)(gQ:m<=ts.length){j e i:Nat}{a s L:List Rat}(h5:j<=5)(ha:Nl j a)(ca:Cb e a)(he:4*e+3*eB r i+r+1<4398046511104)(hs:sh j (ao j a)=s)(hi:i+1<=m)
  (eA:s.length=2^(i+1)) (hb:sB r i (4*e+3*eB r i+r+1)<4398046511104) (h0:T.sgn (aD ts) i (ao i (ja ts i s))=0)
  (hL:FP 339 [jX ts,nA (dT (s.take (2^i)) (s.take (2^i)))] (nA L)):FP 339 [jX ts,nA a] (nA L):=by
 have qa:∀q∈a,Qs q:=fun q hq=>ca.qs oz hq
 have cs:=ca.sh ha;have kX:=yB a h5 ha qa;rw[hs]at cs kX;have rK:=aej i;have uw:2^i<=32:=d7 (b:=5) oz;have nV:2^(i+1)=2*2^i:=by rw[ado];omega
 obtain⟨nn,dn,cn⟩:=z4 ht oz eA cs;have k4:=KM ts m r ht hm gQ i _ _ oz nn cn hb;have qs:∀q∈s.take (2^i),Qs q:=fun q hq=>cs.take.qs oz hq
 refine ak func339 ?_;refine gc kX ?_;refine gl ?_;refine gC (fun z=>?_) (fun z=>?_) (st1:=(3,0));exact aiz z (by simp only[aa,beq_iff_eq];omega);refine gl ?_;refine gs (ls (.tmp rfl) (.const _) oz (show _=((2^i:Nat):Int) by rw[qQ oz,eA,l8]) rfl) ?_;refine gc (DK ts m r ht hm gQ i s e oz eA cs oz) ?_;refine gc k4 ?_;refine gC (fun z=>?_) (fun z=>?_) (st2:=(77777,0))
 ·refine gs (eF (.tmp rfl) (.none _) (.some _ (.tmp rfl) oz) T62 rfl T44 rfl oz (by simp only[ahk];omega) rfl) ?_;refine gs (eF (.tmp rfl) (.none _) (.some _ (.tmp rfl) oz) T62 rfl T44 rfl oz (by simp only[ahk];omega) rfl) ?_;refine gc (by have h9:=AE _ _ qs qs (by simp;omega) (by simp;omega);rw[<- r5]at h9;exact h9) ?_;refine gc hL ?_;refine gD ?_;refine ah ?_;rfl
 exact aiz z (by rw[h0];decide)
theorem US{ts:LL}{m r:Nat}(ht:nU ts m r)(hm:m<=5)(gQ:m<=ts.length){j e f i:Nat}{a s L:List Rat}(h5:j<=5)(ha:Nl j a)(ca:Cb e a)(he:4*e+3*eB r i+r+1<4398046511104)(hs:sh j (ao j a)=s)(hi:i+1<=m)
  (eA:s.length=2^(i+1)) (hb:sB r i (4*e+3*eB r i+r+1)<4398046511104) (h0:T.sgn (aD ts) i (ao i (ja ts i s))≠0)
  (hL:FP 339 [jX ts,nA (ja ts i s)] (nA L)) (nL:Nl i L) (cL:Cb f L) (hf:e+f+eB r (i+1)<4398046511104) :
  FP 339 [jX ts,nA a] (nA (pT ts (i+1) (fP (s.take (2^i)) (fj (s.drop (2^i))) (2^i)) L)):=by
 have qa:∀q∈a,Qs q:=fun q hq=>ca.qs oz hq
 have cs:=ca.sh ha;have kX:=yB a h5 ha qa;rw[hs]at cs kX;have rK:=aej i;have uw:2^i<=32:=d7 (b:=5) oz;have nV:2^(i+1)=2*2^i:=by rw[ado];omega
 obtain⟨nn,dn,cn⟩:=z4 ht oz eA cs;have k4:=KM ts m r ht hm gQ i _ _ oz nn cn hb;have qy:∀q∈s.drop (2^i),Qs q:=fun q hq=>cs.drop.qs oz hq
 have lx:(s.take (2^i)).length=2^i:=kq eA;have ly:(s.drop (2^i)).length=2^i:=lr eA;have nj:Nl (i+1) (fP (s.take (2^i)) (fj (s.drop (2^i))) (2^i)):=.inr ⟨i+1,ahr _,by rw[r9 oz (by rw[lO];omega)];omega⟩;have cj:Cb e (fP (s.take (2^i)) (fj (s.drop (2^i))) (2^i)):=Jk cs;have bQ:=zJ ts m r ht hm gQ (i+1) (i+1) _ _ e f hi (ahr _) nj (nL.mono oz) cj cL hf;refine ak func339 ?_;refine gc kX ?_;refine gl ?_;refine gC (fun z=>?_) (fun z=>?_) (st1:=(3,0));exact aiz z (by simp only[aa,beq_iff_eq];omega);refine gl ?_;refine gs (ls (.tmp rfl) (.const _) oz (show _=((2^i:Nat):Int) by rw[qQ oz,eA,l8]) rfl) ?_;refine gc (DK ts m r ht hm gQ i s e oz eA cs oz) ?_;refine gc k4 ?_;refine gC (fun z=>?_) (fun z=>?_) (st1:=(8,0));exact aiz z (by simp only[aa,beq_iff_eq];omega);refine gs (eF (.tmp rfl) (.none _) (.some _ (.tmp rfl) oz) T62 rfl T44 rfl oz (by simp only[ahk];omega) rfl) ?_;refine gs (eF (.tmp rfl) (.some _ (.tmp rfl) oz) (.none _) T62 rfl T44 rfl (by simp only[ahk];omega) oz rfl) ?_;refine gc (by have h9:=Hh _ qy oz;rw[<- wG]at h9;exact h9) ?_;refine gc (by have h9:=EC (s.take (2^i)) (fj (s.drop (2^i))) (2^i) oz (by rw[lO];omega) oz;rw[<- r5]at h9;exact h9) ?_;refine gc hL ?_;refine gc bQ ?_;refine gD ?_;refine ah ?_;rfl
theorem R9{ts:LL}{m r:Nat}(ht:nU ts m r)(hp:fO (aD ts) m)(hm:m<=5)(gQ:m<=ts.length)(j:Nat):∀(a:List Rat)(e:Nat),j<=m->Nl j a->Cb e a->T.sgn (aD ts) j (ao j a)≠0 ->
  sB r j e<4398046511104->iB r j e<4398046511104->∃L,FP 339 [jX ts,nA a] (nA L)/\Nl j L/\Cb (iB r j e) L/\ao j L=T.inv (aD ts) j (ao j a):=by
 induction j using Nat.strongRecOn
 rename_i j ih;intro a e hj ha ca h0 hs hi;have hse:=uE r j e;have cs:=ca.sh ha;have xz:=iH j (ao j a);have oh:=dY j (ao j a);have bA:=Jp r j e;obtain⟨s,pZ⟩:∃s,sh j (ao j a)=s:=⟨_,rfl⟩
 rcases E3 xz with h |h |⟨i,dH,h⟩
 ·exfalso;have h1:=afp.1 h;rw[h1,oB]at oh;rw[<- oh,T.sgn_zero]at h0;exact h0 rfl
 ·obtain ⟨q, hq⟩:=afc.1 h;rw [hq,rc] at oh;rw [<- oh,T.sgn_ofQ] at h0;have q0:q ≠ 0:=by rintro rfl; exact h0 rfl
  refine⟨[1/q],Vj oz ha ca oz hq q0,.inr ⟨0,by omega,rfl⟩,(Cb.inv1 (hq▸cs) q0).mono bA,?_⟩;rw[<- oh,<- rc j q];exact zL (aD ts) (i:=0) (s:=[q]) (L:=[1/q]) (by simp) (by simp) rfl oz
 ·have hz:=Lt h dH;rw [pZ] at h cs oh xz hz;obtain ⟨nn,dn,cn⟩:=z4 ht oz h cs;have eA:s.length <= 2 ^ (i + 1):=by omega
  have b1:sB r i (4*e+3*eB r i+r+1)<=sB r j e:=Aw r e dH;have b2:=uE r i (4*e+3*eB r i+r+1);have b3:iB r (i+1) e<=iB r j e:=CB r e dH;have b4:iB r (i+1) e=e+iB r i (4*e+3*eB r i+r+1)+eB r (i+1):=rfl;have lx:(s.take (2^i)).length=2^i:=kq h;have ly:(s.drop (2^i)).length=2^i:=lr h;have uw:2^i<=2^(i+1):=ad8 oz oz;rw[<- oh]at h0 ⊢
  by_cases hN:T.sgn (aD ts) i (ao i (ja ts i s))=0
  ·have hS:=ox (aD ts) i (fun k hk=>hp k oz)
   have hx:T.sgn (aD ts) i (ao i (dT (s.take (2^i)) (s.take (2^i))))≠0:=by
    rw[qf];rw[yd (aD ts) eA dH]at h0;rw[dn]at hN;exact Tf hS (hp i oz) (x:=ao i (s.take (2^i))) (y:=ao i (s.drop (2^i))) h0 hN
   have np:Nl i (dT (s.take (2^i)) (s.take (2^i))):=.inr ⟨i,ahr _,by rw[gy];omega⟩;have b5:=vP r i (e:=e+e+1) (f:=4*e+3*eB r i+r+1) oz;have b6:=AG r i (e:=e+e+1) (f:=4*e+3*eB r i+r+1) oz;obtain⟨L,k1,k2,k3,k4⟩:=ih i oz _ _ oz np (cs.take.plus cs.take) hx oz oz;refine⟨L,Qk ht hm gQ oz ha ca oz pZ oz h oz hN k1,k2.mono oz,k3.mono oz,?_⟩;refine zL (aD ts) (i:=i+1) eA (ah8 k2.le uw) ?_ dH;rw[Ug (aD ts) hz (by rw[<- dn];exact hN),kG k2.le,k4,qf];rfl
  ·obtain⟨L,k1,k2,k3,k4⟩:=ih i oz _ _ oz nn cn hN oz oz;have nj:Nl (i+1) (fP (s.take (2^i)) (fj (s.drop (2^i))) (2^i)):=.inr ⟨i+1,ahr _,by rw[r9 oz (by rw[lO];omega),ado];omega⟩;have s1:=i6 ts m ht.1 (i+1) (i+1) _ _ oz (ahr _) nj (k2.mono oz);have c1:=Cb.mul ht (k:=i+1) (show i+1<=m by omega) (ahr _) nj (k2.mono oz) (Jk cs) k3;refine⟨_,US ht hm gQ oz ha ca oz pZ oz h oz hN k1 k2 k3 oz,s1.1.mono dH,c1.mono oz,?_⟩;refine zL (aD ts) (i:=i+1) eA s1.1.le ?_ dH;rw[ZH (aD ts) hz (by rw[<- dn];exact hN),s1.2,DE oz,kG k2.le,mul_low,zP,k4,dn];rfl
theorem Vz{ts:LL}{r f j:Nat}(tw:Tw ts r){b:List Rat}(hb:Nm ts.length f b)(hj:j<=ts.length)(nb:Nl j b)(h0:T.sgn (aD ts) ts.length (ao ts.length b)≠0)(hf:f<=lm ts.length)(hi:iB r j f<4398046511104) :
  ∃L,FP 339 [jX ts,nA b] (nA L)/\Nl ts.length L/\Cb (iB r j f) L/\ao ts.length L=T.inv (aD ts) ts.length (ao ts.length b):=by
 rw[yd (aD ts) nb.le hj]at h0;obtain⟨L,k1,k2,k3,k4⟩:=R9 tw.ok tw.pos tw.five (ahr _) j b f hj nb hb.cb h0 (Wn hj tw.three tw.le hf) hi;exact⟨L,k1,k2.mono hj,k3,zL (aD ts) nb.le k2.le k4 hj⟩
def pq(k:Nat):List Rat:=(afq (2^(k+1)) 0).set (2^k) 1
def bX(ts:LL)(a:List Rat):LL:=ts++[bt a (2^ts.length)]
theorem Uu(k:Nat):(pq k).length=2^(k+1):=by simp[pq]
abbrev dk(l:Li)(kw driven:List Bool)(r:List AV):List AV:=l.av.cells++(.lst 1 (kw.map bl) :: .lst 1 (driven.map bl)::r)
theorem UN(j:Jt)(b:Int):FP 382 [j.av,i64 b] (i64 (kJ j b)):=by
 refine ak func382 ?_;refine gC (fun z=>?_) (fun z=>?_)
 ·have h1:b=j.a:=dV z;refine ah ?_;unfold kJ;rw[ait h1]
 have h1:b≠j.a:=dC z;refine gC (fun z=>?_) (fun z=>?_)
 ·have h2:b=j.b:=dV z;refine ah ?_;unfold kJ;rw[ais h1,ait h2]
 have h2:b≠j.b:=dC z;refine ah ?_;unfold kJ;rw[ais h1,ais h2];rfl
theorem S3(j:Jt)(kind body:Int)(f:FuncId)(pre caps:List AV)(p:Int->Bool)(hp:0<=kJ j body->FP f (pre++[i64 (kJ j body)]++caps) (bl (p (kJ j body)))) :
  FP 381 [j.av,.iptr [i64 body],.iptr [i64 kind],.iptr [.cl f pre caps]] (bl (zU kind body p j)):=by
 refine ak func381 ?_;refine gc (UN j body) ?_;refine bJ (fun h=>(hp (Q0 h))) ?_;refine ah ?_;exact ai0 bl Ys
theorem abn(bs:List Jt)(hl:bs.length<=281474976710656)(f:FuncId)(pre caps:List AV)(ok:Nat->Bool)
  (hf:∀(i:Nat)(b:Jt),bs[i]?=some b->(∀j,j<i->ok j=true)->FP f (pre++[b.av]++caps) (bl (!ok i))) :
  FP 380 [.lst 7 (bs.map Jt.av),.cl f pre caps] (i64 (sD (dP bs.length ok))):=by
 refine ak func380 ?_;refine gl ?_;refine aL [0,1,7] [] (fun(i:Nat)=>[pP 8 (i64 i)]) (fun _=>[]) (fun i=>i<=bs.length/\∀j,j<i->ok j=true) (fun i=>bs.length-i) 0 ⟨ahv _,fun j h=>by omega⟩ ?_;rintro i ⟨hi,hj⟩ K1 J1;refine gC (fun z=>?_) (fun z=>?_)
 ·have af:=aK z;obtain⟨b,hb⟩:=aB af;refine gi (ay hb) ?_;refine gc (hf i b hb hj) ?_;refine gC (fun z=>?_) (fun z=>?_)
  ·have h2:=dS z;refine ah ?_;rw[jT af hj h2];rfl
  have h2:=eJ z;refine ga aF ?_;exact aE J1 (i+1) ⟨af,fun j h9=>by rcases ahq j i with g |g;exact hj j g;(have:j=i:=by omega);subst this;exact h2⟩
 have af:=aW hi z;subst af;refine ah ?_;rw[km hj];rfl
theorem KX(l:Li)(hl:l.ok)(ae:ax l=0)(Fd:List AV)(kind body:Int)(f:FuncId)(pre caps:List AV)(p:Int->Bool)
  (hp:∀o:Int,0<=o->o<l.bo.length->FP f (pre++[i64 o]++caps) (bl (p o))) :
  FP 311 [.iptr (l.av.cells++Fd),i64 kind,i64 body,.cl f pre caps] (i64 (gJ l kind body p)):=by
 refine ak func311 ?_ (1,0);refine gW ((Wk.freezeB (k:=7) rfl rfl).trans<|(Wk.freezeB (k:=5) rfl rfl).trans<|(Wk.freezeB (k:=6) rfl rfl).trans<|Wk.o (sl:=[pP 0 (.iptr (l.av.cells++Fd)),pP 5 (.iptr [i64 kind]),pP 6 (.iptr [i64 body]),pP 7 (.iptr [.cl f pre caps])]) (hp:=[])) ?_;refine gc (Con.sA (.cons (.refl _) (.cons (KG rfl) .nil)) (abn l.jo hl.lj 381 [] [.iptr [i64 body],.iptr [i64 kind],.iptr [.cl f pre caps]] (fun i=>!zU kind body p (l.jo.getD i default)) (fun i b hb hj=>by rw[Bool.not_not,aQ hb];exact S3 b kind body f pre caps p (fun h=>hp _ h (Q6 ae hb body))))) ?_;refine ah ?_;rfl
theorem VK(l:Li)(kw driven:List Bool)(r:List AV)(b:Int)(h0:0<=b)(h1:b<kw.length):FP 378 [.iptr (dk l kw driven r),i64 b] (bl (kn kw b)):=by
 obtain⟨v,hv⟩:∃v,kw[b.toNat]?=some v:=aB oz;have ev:kn kw b=v:=aQ hv;refine ak func378 ?_;refine gi (fI (n:=b.toNat) oz hv) ?_;refine ah ?_;rw[ev]
theorem Mp(l:Li)(hl:l.ok)(ae:ax l=0)(kw driven:List Bool)(hk:kw.length=l.bo.length)(r:List AV)(kind body:Int) :
  FP 309 [.iptr (dk l kw driven r),i64 kind,i64 body] (i64 (gJ l kind body (kn kw))):=by
 refine ak func309 ?_;refine gc (KX l hl ae _ kind body 378 [.iptr (dk l kw driven r)] [] (kn kw) (fun o h0 h1=>VK l kw driven r o h0 oz)) ?_;refine ah ?_;rfl
theorem VG(o j:Int):FP 312 [i64 o,.iptr [i64 j]] (bl (decide (o=j))):=by
 refine ak func312 ?_;refine ah ?_;exact ai0 bl s9
theorem Zk(l:Li)(kw driven:List Bool)(hd:driven.length=kw.length)(r:List AV)(b:Int)(h0:0<=b)(h1:b<kw.length) :
  FP 313 [.iptr (dk l kw driven r),i64 b] (bl (!kn kw b&&!kn driven b)):=by
 obtain⟨v,hv⟩:∃v,kw[b.toNat]?=some v:=aB oz;have ev:kn kw b=v:=aQ hv;obtain⟨u,hu⟩:∃u,driven[b.toNat]?=some u:=aB oz;have eu:kn driven b=u:=aQ hu;refine ak func313 ?_;refine gi (fI (n:=b.toNat) oz hv) ?_;refine mh (fun _=>(fI (n:=b.toNat) oz hu)) ?_;refine ah ?_;rw[ev,eu];exact ai0 bl (me _ _)
theorem Q1(l:Li)(hl:l.ok)(ae:ax l=0)(kw driven:List Bool)(hk:kw.length=l.bo.length)(r:List AV) :
  FP 213 [.iptr (dk l kw driven r)] (.tup [((dt l kw).getD default).av,bl (dt l kw).isSome]):=by
 have ux:=hl.ld;refine ak func213 ?_;refine gl ?_;refine aL [0,2,11,12] [2] (fun(i:Nat)=>[pP 13 (i64 i)]) (fun _=>[]) (fun i=>i<=l.drivers.length/\∀j,j<i->(!f9 l kw j)=true) (fun i=>l.drivers.length-i) 0 ⟨ahv _,fun j h=>by omega⟩ ?_;rintro i ⟨hi,hj⟩ K1 J1;refine gC (fun z=>?_) (fun z=>?_)
 ·have af:=aK z;obtain⟨d,hd⟩:=aB af;have fM:l.drivers.getD i default=d:=aQ hd;have hb:=dJ (qV ae hd);obtain⟨v,hv⟩:∃v,kw[d.body.toNat]?=some v:=aB oz;have ev:kn kw d.body=v:=aQ hv;have ej:gJ l 0 d.body (kn kw)=bB l 0 d.body kw:=DZ ae (fun o _ _=>rfl);refine gi (ay hd) ?_;refine gi (fI (n:=d.body.toNat) oz hv) ?_;refine gD ?_;refine gC (fun z=>?_) (fun z=>?_)
  ·have h2 : f9 l kw i = false := by unfold f9; rw [fM, ev, z]; rfl
   refine ga aF ?_;exact aE J1 (i+1) ⟨af,fun k h9=>by rcases ahq k i with g |g;exact hj k g;(have:k=i:=by omega);subst this;rw[h2];rfl⟩
  have lU:v=false:=z;refine gc (show jv _ _ _ (i64 (bB l 0 d.body kw)) by rw[<- ej];exact Mp l hl ae kw driven hk r 0 d.body) ?_;refine gC (fun z=>?_) (fun z=>?_)
  ·have h2 : f9 l kw i = true := by unfold f9; rw [fM, ev, lU, aix (Lr z)]; rfl
   have hg:dt l kw=some ⟨0,[d.body],[bB l 0 d.body kw],i⟩:=by unfold dt;rw[jT af hj (by rw[h2];rfl),<- fM];rfl
   refine bZ ?_;rw[hg];rfl
  have h2:f9 l kw i=false:=by unfold f9;rw[fM,aiy (MA z),agp]
  refine ga aF ?_;exact aE J1 (i+1) ⟨af,fun k h9=>by rcases ahq k i with g |g;exact hj k g;(have:k=i:=by omega);subst this;rw[h2];rfl⟩
 have af:=aW hi z;subst af;have hg:dt l kw=none:=by unfold dt;rw[km hj];rfl
 refine gR ?_;exact aI.sub aI.pure (by rw[hg];exact Sub.tup (.cons tk (.cons (.refl _) .nil)))
theorem CL(l:Li)(ae:ax l=0)(kw:List Bool)(hk:kw.length=l.bo.length)(r:List AV)(b:Nat)(h1:b<l.bo.length) :
  FP 313 [.iptr (dk l kw (bD l) r),i64 b] (bl (e8 l kw b)):=by
 have h:=Zk l kw (bD l) (by rw[vI,hk]) r b oz oz;rw[QI ae oz]at h;exact h
theorem xT(l:Li)(hl:l.ok)(ae:ax l=0)(kw:List Bool)(hk:kw.length=l.bo.length)(r:List AV)(kind body:Int) :
  FP 309 [.iptr (dk l kw (bD l) r),i64 kind,i64 body] (i64 (bB l kind body kw)):=by
 have h:=Mp l hl ae kw (bD l) hk r kind body;rw[DZ ae (fun o _ _=>rfl)]at h;exact h
theorem QO(l:Li)(hl:l.ok)(ae:ax l=0)(kw:List Bool)(hk:kw.length=l.bo.length)(r:List AV) :
  FP 215 [.iptr (dk l kw (bD l) r)] (.tup [((d9 l kw).getD default).av,bl (d9 l kw).isSome]):=by
 have h8:=(fp ae).2.2.2.1;refine ak func215 ?_;refine gl ?_;refine aL [0,2,12,13] [2] (fun(i:Nat)=>[pP 14 (i64 i)]) (fun _=>[]) (fun i=>i<=l.bo.length/\∀j,j<i->(!fU l kw j)=true) (fun i=>l.bo.length-i) 0 ⟨ahv _,fun j h=>by omega⟩ ?_;rintro i ⟨hi,hj⟩ K1 J1;refine gC (fun z=>?_) (fun z=>?_)
 ·have af:=aK z;refine gc (CL l ae kw hk r i af) ?_;refine gC (fun z=>?_) (fun z=>?_)
  ·have h2 : fU l kw i = false := by unfold fU; rw [dS z]; rfl
   refine ga aF ?_;exact aE J1 (i+1) ⟨af,fun k h9=>by rcases ahq k i with g |g;exact hj k g;(have:k=i:=by omega);subst this;rw[h2];rfl⟩
  have hf:=eJ z;refine gc (xT l hl ae kw hk r 0 i) ?_;refine gc (xT l hl ae kw hk r 1 i) ?_;refine gC (fun z=>?_) (fun z=>?_)
  ·have h2 : fU l kw i = false := by unfold fU; rw [MG z, agp]
   refine ga aF ?_;exact aE J1 (i+1) ⟨af,fun k h9=>by rcases ahq k i with g |g;exact hj k g;(have:k=i:=by omega);subst this;rw[h2];rfl⟩
  obtain⟨p0,s0⟩:=HK z;have s1:=(pE (l:=l) (kind:=1) (body:=i) (oth:=kw)).2;have h2:fU l kw i=true:=by unfold fU;rw[hf,aix p0,aix s0];rfl
  obtain⟨j,oi⟩:∃j,l.jo[(bB l 1 i kw).toNat]?=some j:=aB oz;have p4:l.jo.getD (bB l 1 i kw).toNat default=j:=aQ oi;have hg:d9 l kw=some (iO l kw i):=by unfold d9;rw[jT af hj (by rw[h2];rfl),ahd]
  refine gi (fI (n:=(bB l 1 i kw).toNat) oz oi) ?_;refine gC (fun z=>?_) (fun z=>?_)
  ·have rL:j.a=i:=dV z;refine bZ ?_;rw[hg];unfold iO;rw[p4];simp only[ahe,ait rL];rfl
  have rL:j.a≠i:=dC z;refine bZ ?_;rw[hg];unfold iO;rw[p4];simp only[ahe,ais rL];rfl
 have af:=aW hi z;subst af;have hg:d9 l kw=none:=by unfold d9;rw[km hj];rfl
 refine gR ?_;exact aI.sub aI.pure (by rw[hg];exact Sub.tup (.cons tk (.cons (.refl _) .nil)))
theorem UB(Fd:List AV):FP 310 [.iptr Fd] (.fn 379 [.iptr [.iptr Fd]]):=by
 refine ak func310 ?_ (1,0);refine gW ((Wk.freezeB (k:=1) rfl rfl).trans<|Wk.o (sl:=[pP 1 (.iptr [.iptr Fd])]) (hp:=[])) ?_;refine ah ?_;rfl
def x9:Code->Option (Array Tmp×Code×Code)
  | .rangeFunc _ ps x y=>some (ps,x,y)
  | .seq a b=>match x9 a with
    |some r=>some r
    |none=>x9 b
  | .block _ c=>x9 c
  |_=>none
def Kq(n:Nat)(o:Option Code):LpD:=match o with
  |some c=>match x9 c with
    |some (ps,x,y)=>⟨ps,x,y,n⟩
    |none=>⟨#[],.skip,.skip,0⟩
  |none=>⟨#[],.skip,.skip,0⟩
def Mo(D:LpD)(Fd:List AV)(h:Bool):Blk:=.loop D (match h with |true=>.done |false=>.ready) (match h with |true=>some .ret |false=>none) [pP 1 (.iptr [.iptr Fd]),pP 2 (.ptr 1001 0),pP 3 (.ptr 1002 0)]
def ED(g:Gr):Blk:=.box [i64 g.kind,.lst 1 (g.bo.map i64),.lst 1 (g.jo.map i64),i64 g.driver]
def D5(h:Bool):Blk:=.box [bl h]
def fR(D:LpD)(Fd:List AV)(h:Bool)(g:Gr):Hp:=[pP 1000 (Mo D Fd h),pP 1001 (ED g),pP 1002 (D5 h)]
theorem Ko{D:LpD}{Fd:List AV}{h:Bool}{g:Gr}{k:Nat}{z:Blk}(hz:lk (fR D Fd h g) k=some z):1000<=k:=by
 unfold fR at hz;simp only[aA]at hz;split at hz
 ·omega
 ·split at hz
  ·omega
  ·split at hz
   ·omega
   ·cases hz
theorem Qr{D:LpD}{Fd:List AV}{s:AS}(hs:∀k z,lk (fR D Fd false default) k=some z->s.blk k=some z) :
  ∀k∈(fR D Fd false default++cw (fR D Fd false default)).map (·.1),k∈(fR D Fd false default).map (·.1)/\lk (fR D Fd false default++cw (fR D Fd false default)) k=s.blk k:=by
 intro k hk
 have hk':k=1000\/k=1001\/k=1002:=by
  simp[fR,cw]at hk;omega
 rcases hk' with rfl |rfl |rfl
 ·exact⟨by simp[fR],(hs _ _ rfl).symm⟩
 ·exact⟨by simp[fR],(hs _ _ rfl).symm⟩
 ·exact⟨by simp[fR],(hs _ _ rfl).symm⟩
theorem HE{l:Li}{kw:List Bool}{i k:Nat}(h:cond (e8 l kw i) (e8 l kw k) false=false):df l kw i k=false:=by
 rw[me]at h;unfold df;rw[h];rfl
theorem aby{H R:Hp}{k:Nat}{z:Blk}(h:lk H k=some z):lk (H++R) k=some z:=by rw[kL,ait (j6 h)];exact h
theorem YY{a b:Bool}(h:cond a b false=true):a=true:=by cases a <;> simp_all
theorem BQ{a b:Bool}(h:cond a b false=true):b=true:=by cases a <;> simp_all
theorem U0(D:LpD)(l:Li)(hl:l.ok)(ae:ax l=0)(kw:List Bool)(hk:kw.length=l.bo.length)(r:List AV)
  (hy:∀i k:Nat,i<k->k<l.bo.length->e8 l kw i=true->e8 l kw k=true ->
   yo prog 1000 [i64 i,i64 k] (fR D (dk l kw (bD l) r) false default) (bl (!df l kw i k)) (fR D (dk l kw (bD l) r) (df l kw i k) (cond (df l kw i k) (il l kw i k) default))) :
  Con prog 379 [.yl 1000,.iptr [.iptr (dk l kw (bD l) r)]] (fR D (dk l kw (bD l) r) false default) (.tup []) (fR D (dk l kw (bD l) r) (cG l kw).isSome ((cG l kw).getD default)):=by
 have h8:=(fp ae).2.2.2.1;refine gF func379 (fun k z h=>Ko h) ?_;refine gl ?_;refine aL [0,1,10] [1000,1001,1002] (fun(i:Nat)=>[pP 11 (i64 i)]) (fun _=>[]) (fun i=>i<=l.bo.length/\∀j,j<i->(gV l kw j).isNone=true) (fun i=>l.bo.length-i) 0 ⟨ahv _,fun j h=>by omega⟩ ?_;rintro i ⟨hi,hj⟩ K1 J1;refine gC (fun y=>?_) (fun y=>?_)
 ·have af:=aK y;refine ga aF ?_;refine aL [0,1,3,10,11] [] (fun (k:Nat)=>[pP 4 (i64 (i + 1 + k:Nat))]) (fun _=>[pP 1000 (Mo D (dk l kw (bD l) r) false),pP 1001 (ED default),pP 1002 (D5 false)]) (fun k=>i + 1 + k <= l.bo.length /\ ∀ j,j < k -> (!df l kw i (i + 1 + j)) = true) (fun k=>l.bo.length - k) 0 ⟨by omega,fun j h=>by omega⟩ ?_;rintro k ⟨hkl,gU⟩ K2 J2;refine gl ?_;refine gC (fun y=>?_) (fun y=>?_)
  ·have aT:i + 1 + k < l.bo.length:=aK y;refine gc (CL l ae kw hk r i af) ?_;refine bJ (fun _=>(CL l ae kw hk r (i + 1 + k) aT)) ?_;refine gs (K0 rfl rfl rfl (by intro hb; have h0:df l kw i (i + 1 + k) = false:=HE (by simpa using hb); simp only [h0,cond_false]; exact Qr (by intro k z h; exact h)) (fun hb=>WG (k:=1000) (.opt rfl (by rw [hb]; rfl)) (hy i (i + 1 + k) oz aT (YY hb) (BQ hb)) (.cons (.opt rfl (by rw [hb]; rfl)) (.cons (.opt rfl (by rw [hb]; rfl)) .nil)) (by intro k z h; exact h) rfl rfl)) ?_;refine gC (fun y=>?_) (fun y=>?_)
   ·have h2 : df l kw i (i + 1 + k) = true := by have h9 := BQ y; rw [Bool.not_not] at h9; exact h9
    have ol:gV l kw i=some (i+1+k):=by unfold gV;rw[jT oz gU (by rw[h2];rfl),ahd];congr 1;omega
    have hg:cG l kw=some (il l kw i (i+1+k)):=by unfold cG;rw[jT af hj (by rw[ol];rfl),ahd,ol]
    refine gR ?_;simp only[hg,h2,Option.isSome_some,ahe,cond_true];exact aI.keep (fun k z h=>aby h)
   have h2:df l kw i (i+1+k)=false:=by cases hc:cond (e8 l kw i) (e8 l kw ((i+1+k:Nat):Int)) false with |false=>exact HE hc |true=>rw[hc,Bool.not_not]at y;exact y
   refine ga aF ?_;exact aE J2 (k+1) ⟨by omega,fun j h9=>by rcases ahq j k with g |g;exact gU j g;(have:j=k:=by omega);subst this;rw[h2];rfl⟩ (hw:=Wk.of aY (.cons rfl (.of (by rw[h2])) (.cons rfl (.of (by rw[h2];rfl)) (.cons rfl (.of (by rw[h2])) .nil))))
  have aT:¬i+1+k<l.bo.length:=fun h=>by have h1:=uZ y;omega
  have ol:gV l kw i=none:=by unfold gV;rw[show l.bo.length-(i+1)=k by omega,km gU];rfl
  refine ga aF ?_;exact aE J1 (i+1) ⟨af,fun j h9=>by rcases ahq j i with g |g;exact hj j g;(have:j=i:=by omega);subst this;rw[ol];rfl⟩
 have af:=aW hi y;have hg:cG l kw=none:=by unfold cG;rw[<- af,km hj];rfl
 refine gR ?_;simp only[hg,Option.isSome_none,Option.getD_none];exact aI.keep (fun k z h=>h)
variable{P:ai5}
mutual
def AV.pm(σ:Nat->Nat):AV->AV
  | .ms k sz off len=>.ms (σ k) sz off len
  | .ptr k off=>.ptr (σ k) off
  | .eptr k sz i off=>.eptr (σ k) sz i off
  | .yl k=>.yl (σ k)
  | .agg cs=>.agg (AV.pms σ cs)
  | .tup cs=>.tup (AV.pms σ cs)
  | .fn f cs=>.fn f (AV.pms σ cs)
  | .opt b x=>.opt b (AV.pm σ x)
  | .v x=>.v x
  | .lst sz l=>.lst sz l
  | .iptr l=>.iptr l
  | .cl f cs ds=>.cl f cs ds
def AV.pms(σ:Nat->Nat):List AV->List AV
  |[]=>[]
  |x::l=>AV.pm σ x::AV.pms σ l
end
theorem AV.pms_eq(σ:Nat->Nat):∀l,AV.pms σ l=l.map (AV.pm σ)
 |[]=>rfl
 |x::l=>by simp only[AV.pms,aiq,AV.pms_eq σ l]
theorem AV.pm_one(σ:Nat->Nat)(x:AV)(h:x.one=true):(x.pm σ).one=true:=by
 cases x <;> simp only[AV.pm] <;> exact h
mutual
theorem AV.pm_pm{σ:Nat->Nat}(hσ:∀k,σ (σ k)=k):∀x:AV,(x.pm σ).pm σ=x
 | .ms k sz off len=>by simp only[AV.pm,hσ]
 | .ptr k off=>by simp only[AV.pm,hσ]
 | .eptr k sz i off=>by simp only[AV.pm,hσ]
 | .yl k=>by simp only[AV.pm,hσ]
 | .agg cs=>by simp only[AV.pm];rw[AV.pms_pms hσ cs]
 | .tup cs=>by simp only[AV.pm];rw[AV.pms_pms hσ cs]
 | .fn f cs=>by simp only[AV.pm];rw[AV.pms_pms hσ cs]
 | .opt b x=>by simp only[AV.pm];rw[AV.pm_pm hσ x]
 | .v x=>by simp only[AV.pm]
 | .lst sz l=>by simp only[AV.pm]
 | .iptr l=>by simp only[AV.pm]
 | .cl f cs ds=>by simp only[AV.pm]
theorem AV.pms_pms{σ:Nat->Nat}(hσ:∀k,σ (σ k)=k):∀l:List AV,AV.pms σ (AV.pms σ l)=l
 |[]=>by simp only[AV.pms]
 |x::l=>by simp only[AV.pms];rw[AV.pm_pm hσ x,AV.pms_pms hσ l]
end
theorem zC{g:Nat->Array ai3->Prop}{S:Nat->Nat->Prop}{σ:Nat->Nat}(hσ:∀k,σ (σ k)=k){m:Nat->Option Nat}{v:ai3}{x:AV}(h:Rep g S m v x):Rep g S (fun k=>m (σ k)) v (x.pm σ):=by
 induction h with
 |v x=>exact .v x
 |lst0 a cap sz'=>exact .lst0 a cap sz'
 |lst u hb hc hl hs ho hu hr _=>exact .lst u hb hc hl hs ho hu hr
 |iptr u hb ho hu hr _=>exact .iptr u hb ho hu hr
 |cl a b c d _ _=>exact .cl a b c d
 |ptr hm=>exact .ptr (by simp only[hσ];exact hm)
 |eptr hm=>exact .eptr (by simp only[hσ];exact hm)
 |yl hm=>exact .yl (by simp only[hσ];exact hm)
 |ms0 a k sz off=>exact .ms0 _ _ _ _
 |ms hm hc hS=>exact .ms (by simp only[hσ];exact hm) hc hS
 |opt h h' ih=>exact .opt ih h'
 |agg hn h1 hr ih =>
  simp only[AV.pm,AV.pms_eq];refine .agg (by simpa using hn) ?_ ?_
  ·intro j c hc;simp only[aho,ahl]at hc;obtain⟨y,hy,rfl⟩:=hc;exact AV.pm_one _ _ (h1 j y hy)
  ·intro j u c hu hc;simp only[aho,ahl]at hc;obtain⟨y,hy,rfl⟩:=hc;exact ih j u y hu hy
 |tup hn hr ih =>
  simp only[AV.pm,AV.pms_eq];refine .tup (by simpa using hn) ?_;intro j u c hu hc;simp only[aho,ahl]at hc;obtain⟨y,hy,rfl⟩:=hc;exact ih j u y hu hy
 |fn hn hr ih =>
  simp only[AV.pm,AV.pms_eq];refine .fn (by simpa using hn) ?_;intro j u c hu hc;simp only[aho,ahl]at hc;obtain⟨y,hy,rfl⟩:=hc;exact ih j u y hu hy
theorem RI{g:Nat->Array ai3->Prop}{S:Nat->Nat->Prop}{σ:Nat->Nat}(hσ:∀k,σ (σ k)=k){m:Nat->Option Nat}{w:ai6}{o:Option Nat}{x:Blk}(h:BlkRep g S m w o x) :
  BlkRep g S (fun k=>m (σ k)) w o (x.map (AV.pm σ)):=by
 cases x with
 |row sz es=>exact h.mono (fun _ _ h=>h) (fun _ _ h=>h) (fun _ _ hk=>hk.elim) rfl (fun _ _=>rfl)
 |vec vs=>exact h.mono (fun _ _ h=>h) (fun _ _ h=>h) (fun _ _ hk=>hk.elim) rfl (fun _ _=>rfl)
 |loop=>exact h.mapLoop _ (fun _ _ _ _ h=>zC hσ h)
 |box cs =>
  cases h with
  |box hw hn h1 aR =>
   refine .box hw (by simpa using hn) ?_ ?_
   ·intro j x hx;simp only[aho,ahl]at hx;obtain⟨y,hy,rfl⟩:=hx;exact AV.pm_one _ _ (h1 j y hy)
   ·intro j u x hu hx;simp only[aho,ahl]at hx;obtain⟨y,hy,rfl⟩:=hx;exact zC hσ (aR j u y hu hy)
theorem Fu{σ:Nat->Nat}(hσ:∀k,σ (σ k)=k):∀sl:bm,je (AV.pm σ) (je (AV.pm σ) sl)=sl
 |[]=>rfl
 |(t,none)::l=>by simp only[je,Fu hσ l]
 |(t,some x)::l=>by simp only[je,Fu hσ l,AV.pm_pm hσ x]
theorem Blk.pm_pm{σ:Nat->Nat}(hσ:∀k,σ (σ k)=k)(x:Blk):(x.map (AV.pm σ)).map (AV.pm σ)=x:=by
 cases x with
 |row sz es=>rfl
 |vec vs=>rfl
 |loop d st pe sl=>simp only[Blk.map,Fu hσ]
 |box cs =>
  simp only[Blk.map];rw[<- AV.pms_eq,<- AV.pms_eq,AV.pms_pms hσ]
def fV(σ:Nat->Nat):Hp->Hp
  |[]=>[]
  |(k,x)::l=>(σ k,match x with |some b=>some (b.map (AV.pm σ)) |none=>none)::fV σ l
theorem mN{σ:Nat->Nat}(hσ:∀k,σ (σ k)=k):∀(H:Hp)(k:Nat),lk (fV σ H) k=(lk H (σ k)).map (Blk.map (AV.pm σ))
 |[],k=>rfl
 |(k',x)::l,k=>by
  simp only[fV,aA,mN hσ l k]
  by_cases h:k=σ k'
  ·rw[ait h,ait (by rw[h,hσ])];cases x <;> rfl
  ·rw[ais h,ais (fun e=>h (by rw[<- e,hσ]))]
theorem BK{σ:Nat->Nat}(hσ:∀k,σ (σ k)=k)(H:Hp)(m:Nat->Option Nat):aO (fV σ H) (fun k=>m (σ k))=aO H m:=by
 funext b;apply propext;constructor
 ·rintro⟨k,z,hz,hb⟩;rw[mN hσ,ahl]at hz;obtain⟨y,hy,rfl⟩:=hz;exact⟨σ k,y,hy,hb⟩
 ·rintro⟨k,y,hy,hb⟩;exact⟨σ k,y.map (AV.pm σ),by rw[mN hσ,hσ,hy];rfl,by simp only[hσ];exact hb⟩
theorem Jx{σ:Nat->Nat}(hσ:∀k,σ (σ k)=k){ext:Nat->Prop}{H:Hp}{m:Nat->Option Nat}{w:ai6}(h:HeapRel ext H m w):HeapRel ext (fV σ H) (fun k=>m (σ k)) w:=by
 have e:Im ext (fV σ H) (fun k=>m (σ k)) w=Im ext H m w:=by funext b cs;simp only[Im,BK hσ]
 refine⟨?_,?_,?_⟩
 ·intro k z hz;rw[mN hσ,ahl]at hz;obtain⟨y,hy,rfl⟩:=hz;rw[e];exact RI hσ (h.blk _ y hy)
 ·intro k k' z z' b hz hz' hb hb';rw[mN hσ,ahl]at hz hz';obtain⟨y,hy,_⟩:=hz;obtain⟨y',hy',_⟩:=hz';have:=h.inj _ _ y y' b hy hy' hb hb';rw[<- hσ k,this,hσ]
 ·intro k z b hz hb;rw[mN hσ,ahl]at hz;obtain⟨y,hy,_⟩:=hz;exact h.sep _ y b hy hb
theorem Con.pm{σ:Nat->Nat}(hσ:∀k,σ (σ k)=k){f:FuncId}{args:List AV}{H H':Hp}{r:AV}(h:Con P f args H r H'):Con P f (args.map (AV.pm σ)) (fV σ H) (r.pm σ) (fV σ H'):=by
 refine⟨h.ok,?_⟩;intro ext m w vs hext bW c9 dj
 have bE:∀k,lk (fV σ (fV σ H)) k=lk H k:=by
  intro k;rw[mN hσ,mN hσ,hσ];cases lk H k with
  |none=>rfl
  |some y=>simp only[ahd,Blk.pm_pm hσ]
 have hh:=HeapRel.congr bE (Jx hσ bW);have em:(fun k=>(fun k=>m (σ k)) (σ k))=m:=by funext k;simp only[hσ]
 have eo:aO (fV σ H) m=aO H (fun k=>m (σ k)):=by
  have:=BK hσ H (fun k=>m (σ k));rw[em]at this;exact this
 have ei:Im ext (fV σ H) m w=Im ext H (fun k=>m (σ k)) w:=by funext b cs;simp only[Im,eo]
 refine Calls.mono (h.ret ext (fun k=>m (σ k)) w vs hext hh (by simpa using c9) (fun j v x hv hx=>?_)) ?_
 ·have h1 := dj j v (x.pm σ) hv (by simp[hx]);have h2:=zC hσ h1;rw[AV.pm_pm hσ,ei]at h2;exact h2
 ·rintro e w' ⟨v,m',rfl,hf,hh',hn,hk,aR⟩;refine⟨v,fun k=>m' (σ k),rfl,eo▸hf,Jx hσ hh',?_,?_,?_⟩
  ·intro k x b hx hb;rw[mN hσ,ahl]at hx;obtain⟨y,hy,_⟩:=hx;rw[eo];exact hn _ y b hy hb
  ·intro k x y hx hy;rw[mN hσ,ahl]at hx hy;obtain⟨x',hx',_⟩:=hx;obtain⟨y',hy',_⟩:=hy;have:=hk _ x' y' hx' hy';simpa only[hσ]using this
  ·have e2 : Im ext (fV σ H') (fun k => m' (σ k)) w' = Im ext H' m' w' := by funext b cs; simp only [Im, BK hσ]
   rw[e2];exact zC hσ aR
end Go.Lw
namespace Go.Lw
open Go.Proofs
theorem gZ{P:ai5}{N:Nat}{Q:Exit->AS->Prop}{c:Code}{s:AS}(h:Gd P N Q (.code c [] s)):ba P N c Q s:=h
theorem ZW{P:ai5}{N:Nat}{Q:Exit->AS->Prop}{c:Code}{s s':AS}(hw:Wk s s')(h:kz P N c Q s'):kz P N c Q s:=by
 intro C m a w n kN hN hr;obtain⟨m',hr'⟩:=hw C m a w hr;exact h C m' a w n kN hN hr'
def xP(k:Nat):Nat:=bif ad9 k 1000 then 900 else bif ad9 k 900 then 1000 else bif ad9 k 1001 then 2 else bif ad9 k 2 then 1001 else bif ad9 k 1002 then 3 else bif ad9 k 3 then 1002 else k
theorem nb{a b:Nat}(h:¬a=b):ad9 a b=false:=by
 cases h1:ad9 a b
 ·rfl
 ·exact aiz (ahi h1) h
theorem Wy(k:Nat):xP (xP k)=k:=by
 by_cases h1:k=1000
 ·subst h1;rfl
 by_cases h2:k=900
 ·subst h2;rfl
 by_cases h3:k=1001
 ·subst h3;rfl
 by_cases h4:k=2
 ·subst h4;rfl
 by_cases h5:k=1002
 ·subst h5;rfl
 by_cases h6:k=3
 ·subst h6;rfl
 have e:xP k=k:=by simp only[xP,nb h1,nb h2,nb h3,nb h4,nb h5,nb h6,cond_false]
 rw[e,e]
theorem X5(l:Li)(hl:l.ok)(ae:ax l=0)(kw:List Bool)(hk:kw.length=l.bo.length)(r:List AV) :
  FP 214 [.iptr (dk l kw (bD l) r)] (.tup [((cG l kw).getD default).av,bl (cG l kw).isSome]):=by
 refine Oa (rs:=Tryz.f214.results.toList) func214 rfl rfl (by simp) rfl (fun k z h=>by cases h) ?_;refine EI (gZ (go ?_));refine ZW (s':=⟨[pP 1 (.iptr [.iptr (dk l kw (bD l) r)]),pP 2 (.ptr 2 0),pP 3 (.ptr 3 0)],[pP 2 (ED default),pP 3 (D5 false)]⟩) ((Wk.freezeB (k:=1) rfl rfl).trans (Wk.of (.k (.k (.k .nil))) (.cons rfl (BlkSub.bL (.cons (.refl _) (.cons (.nil _ _ _) (.cons (.nil _ _ _) (.cons (.refl _) .nil)))) rfl) (.k .nil)))) ?_;refine YD ?_;refine EI (gZ (go ?_));refine gc (UB (dk l kw (bD l) r)) ?_;refine aa3 ?_
 have hy:∀i k:Nat,i<k->k<l.bo.length->e8 l kw i=true->e8 l kw k=true ->
   yo prog 1000 [i64 i,i64 k] (fR (Kq Tryz.f214.ntmps Tryz.f214.body) (dk l kw (bD l) r) false default) (bl (!df l kw i k)) (fR (Kq Tryz.f214.ntmps Tryz.f214.body) (dk l kw (bD l) r) (df l kw i k) (cond (df l kw i k) (il l kw i k) default)):=by
  intro i k hik aT Pc Pe;refine Sf (k:=1000) (fun k z h=>Ko h) rfl rfl (by intro p hp;have h9:p∈[11,12]:=hp;have h8:p=11\/p=12:=(by simpa using h9);show p<42;rcases h8 with h7 |h7 <;> (rw[h7];decide)) ?_;refine gZ (go ?_);refine⟨rfl,_,_,rfl,?_⟩;have hJ:gJ l 0 i (fun o=>decide (o=(k:Int)))=bB l 0 i (cz l.bo.length k):=DZ ae (fun o h0 h1=>(sJ h0 oz oz).symm);refine gZ (go ?_);refine gc (xT l hl ae kw hk r 0 i) ?_;refine gc (xT l hl ae kw hk r 0 k) ?_;refine gD ?_ (5,0);refine gW (Wk.freezeB (k:=5) rfl rfl) ?_;refine gc (r:=i64 (bB l 0 i (cz l.bo.length k))) (by rw[<- hJ];exact Con.sA (.cons (.refl _) (.cons (.refl _) (.cons (.refl _) (.cons (KG rfl) .nil)))) (KX l hl ae _ 0 i 312 [] [.iptr [i64 k]] (fun o=>decide (o=(k:Int))) (fun o h0 h1=>VG o k))) ?_;refine gC (fun ht=>?_) (fun ht=>?_)
  ·have h2 : df l kw i k = true := by unfold df; rw [Pc, Pe]; exact (x5.symm.trans ht)
   rw[h2];exact⟨_,_,rfl,aI.keep (by intro q z h;simp only[fR,aA]at h;split at h;(subst_vars;exact h);split at h;(subst_vars;exact h);split at h;(subst_vars;exact h);cases h)⟩
  ·have h2 : df l kw i k = false := by unfold df; rw [Pc, Pe]; exact (x5.symm.trans ht)
   rw[h2];exact⟨_,_,rfl,aI.keep (by intro q z h;simp only[fR,aA]at h;split at h;(subst_vars;exact h);split at h;(subst_vars;exact h);split at h;(subst_vars;exact h);cases h)⟩
 have cF:=Con.pm Wy (U0 _ l hl ae kw hk r hy);cases hg:cG l kw with
 |none =>
  rw[hg]at cF;refine Mw (k:=900) (sl0:=[pP 1 (.iptr [.iptr (dk l kw (bD l) r)]),pP 2 (.ptr 2 0),pP 3 (.ptr 3 0)]) (.tmp rfl) (by intro t x h;simp only[aA]at h;split at h;(subst_vars;exact h);split at h;(subst_vars;exact h);split at h;(subst_vars;exact h);cases h) rfl rfl cF (fun k' z h=>h) rfl rfl rfl rfl (by intro h;cases h) (.inl ⟨rfl,?_⟩);refine EI (gZ (go ?_));refine ba.out (gZ (go ?_));refine gR ?_;exact aI.sub aI.pure (Sub.tup (.cons tk (.cons (.refl _) .nil)))
 |some g =>
  rw[hg]at cF;refine Mw (k:=900) (sl0:=[pP 1 (.iptr [.iptr (dk l kw (bD l) r)]),pP 2 (.ptr 2 0),pP 3 (.ptr 3 0)]) (.tmp rfl) (by intro t x h;simp only[aA]at h;split at h;(subst_vars;exact h);split at h;(subst_vars;exact h);split at h;(subst_vars;exact h);cases h) rfl rfl cF (fun k' z h=>h) rfl rfl rfl rfl (by intro h;cases h) (.inr ⟨rfl,?_⟩);exact(bZ (P:=prog) (N:=Tryz.f214.ntmps) (e:=.ret) rfl)
theorem Cw{α:Type}{o:Option α}(h:o.isSome=true):∃x,o=some x:=by cases o <;> simp_all
theorem Dn{α:Type}{o:Option α}(h:o.isSome=false):o=none:=by cases o <;> simp_all
theorem Ym(l:Li)(hl:l.ok)(ae:ax l=0)(kw:List Bool)(hk:kw.length=l.bo.length)(r:List AV) :
  FP 111 [.iptr (dk l kw (bD l) r)] (.tup [((bY l kw).getD default).av,bl (bY l kw).isSome]):=by
 refine ak func111 ?_;refine gc (Q1 l hl ae kw (bD l) hk r) ?_;refine gC (fun z=>?_) (fun z=>?_)
 ·obtain⟨g,hg⟩:=Cw z;refine bZ ?_;unfold bY;rw[hg];rfl
 have hg:=Dn z;refine gc (X5 l hl ae kw hk r) ?_;refine gC (fun z=>?_) (fun z=>?_)
 ·obtain⟨g,rJ⟩:=Cw z;refine bZ ?_;unfold bY;rw[hg,rJ];rfl
 have rJ:=Dn z;refine gc (QO l hl ae kw hk r) ?_;refine bZ ?_;unfold bY;rw[hg,rJ];rfl
def u8(n:Nat):AV:=.v (.int .u8 n)
theorem vE{p q:Bool}{a b:Nat}{c:Nat}(hp:p=decide (a<=c))(hq:q=decide (c<=b)):cond p q false=decide (a<=c/\c<=b):=by
 subst hp;subst hq
 by_cases h:a<=c
 ·simp[h]
 ·simp[h]
theorem vc(c k:Nat):aa .geq (c:Int) (k:Int)=decide (k<=c):=by simp only[aa,decide_eq_decide];omega
theorem wQ(c k:Nat):aa .leq (c:Int) (k:Int)=decide (c<=k):=by simp only[aa,decide_eq_decide];omega
theorem RU(c:Nat):cond (cond (aa .geq (c:Int) 97) (aa .leq (c:Int) 122) false) true (cond (aa .geq (c:Int) 65) (aa .leq (c:Int) 90) false)=eV c:=by
 have e1:cond (aa .geq (c:Int) 97) (aa .leq (c:Int) 122) false=decide (97<=c/\c<=122):=vE (vc c 97) (wQ c 122);have e2:cond (aa .geq (c:Int) 65) (aa .leq (c:Int) 90) false=decide (65<=c/\c<=90):=vE (vc c 65) (wQ c 90);rw[e1,e2];unfold eV;cases decide (97<=c/\c<=122) <;> rfl
theorem Xm(c:Nat):cond (cond (aa .geq (c:Int) 65) (aa .leq (c:Int) 90) false) true (cond (aa .geq (c:Int) 97) (aa .leq (c:Int) 122) false)=eV c:=by
 have e1:cond (aa .geq (c:Int) 97) (aa .leq (c:Int) 122) false=decide (97<=c/\c<=122):=vE (vc c 97) (wQ c 122);have e2:cond (aa .geq (c:Int) 65) (aa .leq (c:Int) 90) false=decide (65<=c/\c<=90):=vE (vc c 65) (wQ c 90);rw[e1,e2];unfold eV;cases decide (97<=c/\c<=122) <;> cases decide (65<=c/\c<=90) <;> rfl
theorem GL(c:Nat):cond (aa .geq (c:Int) 48) (aa .leq (c:Int) 57) false=tI c:=vE (vc c 48) (wQ c 57)
theorem E6(c:Nat):cond (cond (eV c) true (tI c)) true (aa .eql (c:Int) 95)=lN c:=by
 unfold lN
 have:aa .eql (c:Int) 95=decide (c=95):=by
  rw[ags];simp only[aa,beq_iff_eq,aiu];omega
 rw[this];cases eV c <;> cases tI c <;> rfl
theorem NG(c:Nat):FP 376 [u8 c] (bl (eV c)):=by
 refine ak func376 ?_;refine ah ?_;exact ai0 bl (RU c)
theorem RY(c:Nat):FP 405 [u8 c] (bl (tI c)):=by
 refine ak func405 ?_;refine ah ?_;exact ai0 bl (GL c)
theorem S1(c:Nat):FP 377 [u8 c] (bl (lN c)):=by
 refine ak func377 ?_;refine gc (NG c) ?_;refine bJ (fun _=>(RY c)) ?_;refine ah ?_;exact ai0 bl (E6 c)
theorem HP(c:Nat):FP 258 [u8 c] (bl (eV c)):=by
 refine ak func258 ?_;refine ah ?_;exact ai0 bl (Xm c)
theorem V8(c:Nat):FP 260 [u8 c] (bl (tI c)):=by
 refine ak func260 ?_;refine ah ?_;exact ai0 bl (GL c)
theorem TX(s:ByteArray)(hs:s.size<=281474976710656):FP 306 [.v (.string s)] (i64 (fx s)):=by
 refine ak func306 ?_;refine gs (fT rfl rfl rfl (fun h=>wP (.opt rfl (o1 h)) (.const _) T9 rfl oz (by have:=Kd h;omega) rfl)) ?_;refine bJ (fun _=>(NG (dU s 0))) ?_;refine gC (fun z=>?_) (fun z=>?_)
 ·have h0:fx s=0:=SX z;refine ah ?_;rw[h0];rfl
 obtain⟨h0,h1⟩:=P8 z;refine aL [0] [] (fun(n:Nat)=>[pP 3 (i64 n)]) (fun _=>[]) (fun n=>1<=n/\n<=s.size/\fF s 1 (s.size-1)=fF s n (s.size-n)) (fun n=>s.size-n) 1 ⟨ahr _,h0,rfl⟩ ?_;rintro n ⟨iR,hn,hw⟩ K1 J1;refine gs (fT rfl rfl rfl (fun h=>wP (.opt rfl (o1 h)) (.opt rfl (o1 h)) T9 rfl oz (by have:=aK h;omega) rfl)) ?_;refine bJ (fun _=>(S1 (dU s n))) ?_;refine gC (fun z=>?_) (fun z=>?_)
 ·have h2:n<s.size/\lN (dU s n)=true:=aa7 z;refine ga aF ?_;exact aE J1 (n+1) ⟨by omega,by omega,by rw[hw,show s.size-n=(s.size-(n+1))+1 by omega];simp only[fF,h2.2,if_true]⟩
 have h2:n<s.size->lN (dU s n)=false:=Va z
 have h3:fx s=n:=by
  unfold fx;rw[ait ⟨h0,h1⟩,hw];rcases ahq n s.size with h |h
  ·rw[show s.size-n=(s.size-(n+1))+1 by omega];simp only[fF,h2 h,agv,if_false]
  ·rw[show s.size-n=0 by omega];rfl
 refine ah ?_;rw[h3]
theorem wD(s:ByteArray)(hs:s.size<=281474976710656):FP 209 [.v (.string s)] (bl (jc s)):=by
 refine ak func209 ?_;refine gc (TX s hs) ?_;refine ah ?_;exact ai0 bl (abu s)
theorem yf(s:ByteArray)(i:Nat):FP 259 [.v (.string s),i64 i] (u8 (dU s i)):=by
 refine ak func259 ?_;refine gC (fun z=>?_) (fun z=>?_)
 ·have h0:=aK z;refine gs (wP (.tmp rfl) (.tmp rfl) T9 rfl oz oz rfl) ?_;refine ah ?_;rfl
 have h0:=uZ z;refine ah ?_;rw[HW oz];rfl
theorem Ql(s:ByteArray)(hs:s.size<=281474976710656):FP 161 [.v (.string s),i64 0] (i64 ((if eV (dU s 0)then fF s 0 s.size else 0:Nat))):=by
 refine ak func161 ?_;refine gc (yf s 0) ?_;refine gc (HP (dU s 0)) ?_;refine gC (fun z=>?_) (fun z=>?_)
 ·have h0 : eV (dU s 0) = false := by simpa using z
  refine ah ?_;rw[h0];rfl
 have h0:eV (dU s 0)=true:=by simpa using z
 refine aL [0] [] (fun(n:Nat)=>[pP 1 (i64 n)]) (fun _=>[]) (fun n=>n<=s.size/\fF s 0 s.size=fF s n (s.size-n)) (fun n=>s.size-n) 0 ⟨ahv _,rfl⟩ ?_;rintro n ⟨hn,hw⟩ K1 J1;refine gc (yf s n) ?_;refine gc (HP (dU s n)) ?_;refine bJ (fun _=>(yf s n)) ?_;refine bJ (fun _=>(V8 (dU s n))) ?_;refine bJ (fun _=>(yf s n)) ?_;refine gC (fun z=>?_) (fun z=>?_)
 ·have h1:lN (dU s n)=true:=(E6 _).symm.trans z
  have h2:n<s.size:=by
   rcases ahq n s.size with h |h
   ·exact h
   ·rw[HW h]at h1;cases h1
  refine ga aF ?_;exact aE J1 (n+1) ⟨by omega,by rw[hw,show s.size-n=(s.size-(n+1))+1 by omega];simp only[fF,h1,if_true]⟩
 have h1:lN (dU s n)=false:=(E6 _).symm.trans z
 have h2:fF s 0 s.size=n:=by
  rw[hw];rcases ahq n s.size with h |h
  ·rw[show s.size-n=(s.size-(n+1))+1 by omega];simp only[fF,h1,agv,if_false]
  ·rw[show s.size-n=0 by omega];rfl
 refine ah ?_;rw[h0,h2];rfl
theorem wU(s:ByteArray)(hs:s.size<=281474976710656):FP 74 [.v (.string s)] (bl (jc s)):=by
 refine ak func74 ?_;refine bJ (fun _=>(Ql s hs)) ?_;refine ah ?_;exact ai0 bl (Xn s)
theorem tN(i:Int)(n:Nat):FP 308 [i64 i,i64 n] (bl (aV i n)):=by
 refine ak func308 ?_;refine ah ?_;exact ai0 bl (H2 i n)
theorem Vk(bs:List Bd)(k8:∀b∈bs,b.ok)(hl:bs.length<=281474976710656):FP 210 [.lst 2 (bs.map Bd.av)] (dh (ew bs.length (dZ bs))):=by
 refine ak func210 ?_;refine gl ?_;refine aL [0,11,12] [] (fun(i:Nat)=>[pP 13 (i64 i)]) (fun _=>[]) (fun i=>i<=bs.length/\∀j,j<i->dZ bs j=0) (fun i=>bs.length-i) 0 ⟨ahv _,fun j h=>by omega⟩ ?_;rintro i ⟨hi,hj⟩ K1 J1;refine gC (fun z=>?_) (fun z=>?_)
 ·have af:=aK z;obtain⟨b,hb⟩:=aB af;have cK:bs.getD i default=b:=aQ hb;have lQ:=k8 b (ahg hb);have iC:=pa Bd.name hb;refine gi (ay hb) ?_;refine gc (wD b.name lQ.name) ?_;refine gC (fun z=>?_) (fun z=>?_)
  ·have h1:=dS z;have e1:dZ bs i = 5:=by unfold dZ; rw [cK,ait h1]
   refine ah ?_;rw[d5 af hj (by rw[e1];decide),e1];rfl
  have h1:=eJ z;refine gs (eF (.tmp rfl) (.none _) (.some _ (.tmp rfl) oz) T22 rfl T83 rfl oz (by simp only[ahk];omega) rfl) ?_;refine ge rfl ?_;refine aL [0,3,4,11,12,13] [4] (fun(k:Nat)=>[pP 25 (.lst 2 ((bs.take i).map Bd.av)),pP 26 (i64 i),pP 27 (i64 k)]) (fun _=>[]) (fun k=>k<=i/\(bs.take k).any (fun y=>dw y.name b.name)=false) (fun k=>i-k) 0 ⟨ahv _,rfl⟩ ?_ (h1:=(.cons rfl (.of (wO 2 Bd.av bs i)) (.cons rfl (Sub.int (by simp;omega)) (.k .nil))));rintro k ⟨hk,hd⟩ K2 J2;refine gC (fun z=>?_) (fun z=>?_)
  ·have aT:=aK z;obtain ⟨y,hy'⟩:∃ y,(bs.take i)[k]? = some y:=aB (by simp; omega);have hy:=(wK hy').1;refine gi (ay hy') ?_;refine gC (fun z=>?_) (fun z=>?_)
   ·have h2:dw y.name b.name = true:=z;have e1:dZ bs i = 6:=by unfold dZ; rw [cK,ais (by rw [h1]; decide),ait (by rw [iC]; exact mM hy aT h2)]
    refine ah ?_;rw[d5 af hj (by rw[e1];decide),e1];rfl
   have h2:dw y.name b.name=false:=z;refine ga aF ?_;exact aE J2 (k+1) ⟨aT,lE hy hd h2⟩
  have aT:=aW hk z;subst aT;have b7:¬fQ (bs.map Bd.name) k=true:=by rw[iC,hd];decide
  refine gl ?_;refine gC (fun z=>?_) (fun z=>?_)
  ·have h3:8 < b.pts.length:=dN z;have e1:dZ bs k = 4:=by unfold dZ; rw [cK,ais (by rw [h1]; decide),ais b7,ait h3]
   refine ah ?_;rw[d5 af hj (by rw[e1];decide),e1];rfl
  have h3:b.pts.length<=8:=jU z;have e1:dZ bs k=ew b.pts.length (dK b.pts):=by unfold dZ;rw[cK,ais (by rw[h1];decide),ais b7,ais oz]
  refine gl ?_;refine aL [0,4,11,12,13,44,45] [4] (fun(p:Nat)=>[pP 46 (i64 p)]) (fun _=>[]) (fun p=>p<=b.pts.length/\∀j,j<p->dK b.pts j=0) (fun p=>b.pts.length-p) 0 ⟨ahv _,fun j h=>by omega⟩ ?_;rintro p ⟨hp,iU⟩ K3 J3;refine gC (fun z=>?_) (fun z=>?_)
  ·have eC:=aK z;obtain⟨m,hm⟩:=aB eC;have om:b.pts.getD p default=m:=aQ hm;have pL:=ahg hm;have xB:=pa Mk.name hm;have xC:=lQ.pts m pL;refine gi (ay hm) ?_;refine gc (wD m.name (lQ.names m pL)) ?_;refine gC (fun z=>?_) (fun z=>?_)
   ·have h4:=dS z;have e2:dK b.pts p = 5:=by unfold dK; rw [om,ait h4]
    have e3:dZ bs k=5:=by rw[e1,d5 eC iU (by rw[e2];decide),e2]
    refine ah ?_;rw[d5 af hj (by rw[e3];decide),e3];rfl
   have h4:=eJ z;refine gs (eF (.tmp rfl) (.none _) (.some _ (.tmp rfl) oz) T81 rfl T85 rfl oz (by simp only[ahk];omega) rfl) ?_;refine ge rfl ?_;refine aL [0,4,8,11,12,13,44,45,46] [4,8] (fun(q:Nat)=>[pP 59 (.lst 7 ((b.pts.take p).map Mk.av)),pP 60 (i64 p),pP 61 (i64 q)]) (fun _=>[]) (fun q=>q<=p/\(b.pts.take q).any (fun y=>dw y.name m.name)=false) (fun q=>p-q) 0 ⟨ahv _,rfl⟩ ?_ (h1:=(.cons rfl (.of (wO 7 Mk.av b.pts p)) (.cons rfl (Sub.int (by simp;omega)) (.k .nil))));rintro q ⟨hq,lZ⟩ K4 J4;refine gC (fun z=>?_) (fun z=>?_)
   ·have bC:=aK z;obtain ⟨y,hy'⟩:∃ y,(b.pts.take p)[q]? = some y:=aB (by simp; omega);have hy:=(wK hy').1;refine gi (ay hy') ?_;refine gC (fun z=>?_) (fun z=>?_)
    ·have h5:dw y.name m.name = true:=z;have e2:dK b.pts p = 6:=by unfold dK; rw [om,ais (by rw [h4]; decide),ait (by rw [xB]; exact mM hy bC h5)]
     have e3:dZ bs k=6:=by rw[e1,d5 eC iU (by rw[e2];decide),e2]
     refine ah ?_;rw[d5 af hj (by rw[e3];decide),e3];rfl
    have h5:dw y.name m.name=false:=z;refine ga aF ?_;exact aE J4 (q+1) ⟨bC,lE hy lZ h5⟩
   have bC:=aW hq z;subst bC;have xE:¬fQ (b.pts.map Mk.name) q=true:=by rw[xB,lZ];decide
   refine gc (u9 m.x xC.x) ?_;refine bJ (fun _=>(u9 m.y xC.y)) ?_;refine gC (fun z=>?_) (fun z=>?_)
   ·have h6:=qw z;have e2:dK b.pts q = 3:=by unfold dK; rw [om,ais (by rw [h4]; decide),ais xE,ais (by rintro ⟨g1,g2⟩; rcases h6 with g | g; (rw [g1] at g; cases g); (rw [g2] at g; cases g))]
    have e3:dZ bs k=3:=by rw[e1,d5 eC iU (by rw[e2];decide),e2]
    refine ah ?_;rw[d5 af hj (by rw[e3];decide),e3];rfl
   have h6:=p8 z;have e2:dK b.pts q=0:=by unfold dK;rw[om,ais (by rw[h4];decide),ais xE,ait h6]
   refine ga aF ?_;exact aE J3 (q+1) ⟨eC,fun j h9=>by rcases ahq j q with g |g;exact iU j g;(have:j=q:=by omega);subst this;exact e2⟩
  have eC:=aW hp z;subst eC;have e2:dZ bs k=0:=e1.trans (ph iU);refine ga aF ?_;exact aE J1 (k+1) ⟨af,fun j h9=>by rcases ahq j k with g |g;exact hj j g;(have:j=k:=by omega);subst this;exact e2⟩
 have af:=aW hi z;subst af;refine ah ?_;rw[ph hj];rfl
theorem Wr(l:Li)(hl:l.ok)(j:Jt):FP 307 [l.av,j.av] (dh (ek l j)):=by
 refine ak func307 ?_;refine gC (fun z=>?_) (fun z=>?_)
 ·have h1:=Gu z;refine ah ?_;unfold ek;rw[ait h1];rfl
 have h1:=GX z;refine gl ?_;refine gc (tN j.a l.bo.length) ?_;refine cm ?_;refine bJ (fun _=>(tN j.b l.bo.length)) ?_;refine gC (fun z=>?_) (fun z=>?_)
 ·have h2:=qw z;refine ah ?_;unfold ek;rw[ais h1,ait h2];rfl
 have h2:=p8 z;have jn:¬(aV j.a l.bo.length=false\/aV j.b l.bo.length=false):=by rw[h2.1,h2.2];simp
 obtain⟨A,hA,pA,mA,zA0⟩:=sH h2.1;obtain⟨B,hB,pB,mB,zB0⟩:=sH h2.2;refine gC (fun z=>?_) (fun z=>?_)
 ·have h3:=dV z;refine ah ?_;unfold ek;rw[ais h1,ais jn,ait h3];rfl
 have h3:=dC z;refine gi (ay hB) ?_;refine gi (ay hA) ?_;refine gl ?_;refine gc (tN j.point A.pts.length) ?_;refine cm ?_;refine bJ (fun _=>(tN j.on B.pts.length)) ?_;refine gD ?_;refine gC (fun z=>?_) (fun z=>?_)
 ·have h4:=qw z;refine ah ?_;unfold ek;rw[ais h1,ais jn,ais h3,pA,pB,ait h4];rfl
 have h4:=p8 z;have l0:¬(aV j.point A.pts.length=false\/aV j.on B.pts.length=false):=by rw[h4.1,h4.2];simp
 refine gC (fun z=>?_) (fun z=>?_)
 ·have h5:=dV z;refine gC (fun z=>?_) (fun z=>?_)
  ·have h6:=yM z;refine ah ?_;unfold ek;rw[ais h1,ais jn,ais h3,pA,pB,ais l0,ait h5,ait h6];rfl
  have h6:=On z;refine ah ?_;unfold ek;rw[ais h1,ais jn,ais h3,pA,pB,ais l0,ait h5,ais (by rw[h6];simp)];rfl
 have h5:=dC z;refine gl ?_;refine gc (tN j.to B.pts.length) ?_;refine gC (fun z=>?_) (fun z=>?_)
 ·have h6:=dS z;refine ah ?_;unfold ek;rw[ais h1,ais jn,ais h3,pA,pB,ais l0,ais h5,ait h6];rfl
 have h6:=eJ z;obtain⟨m1,g1,d1,mm1,z1⟩:=wA h4.2;obtain⟨m2,g2,d2,mm2,z2⟩:=wA h6;have mo1:=(hl.bo B mB).pts m1 mm1;have mo2:=(hl.bo B mB).pts m2 mm2;refine gi (ay g1) ?_;refine gi (ay g2) ?_;refine gD ?_;refine gc (E7 m1.x m2.x mo1.x mo2.x) ?_;refine bJ (fun _=>(E7 m1.y m2.y mo1.y mo2.y)) ?_;refine gC (fun z=>?_) (fun z=>?_)
 ·have h7:=NH z;refine ah ?_;unfold ek;rw[ais h1,ais jn,ais h3,pA,pB,ais l0,ais h5,ais (by rw[h6];decide),d1,d2,ait h7];rfl
 have h7:=HT z;refine ah ?_;unfold ek;rw[ais h1,ais jn,ais h3,pA,pB,ais l0,ais h5,ais (by rw[h6];decide),d1,d2,ais h7];rfl
theorem U4(l:Li)(hl:l.ok):FP 211 [l.av] (dh (et l)):=by
 have oo:=hl.lj;refine ak func211 ?_;refine gl ?_;refine gC (fun z=>?_) (fun z=>?_)
 ·have h0:16<l.jo.length:=dN z;refine ah ?_;unfold et;rw[ait h0];rfl
 have h0:l.jo.length<=16:=jU z;have e0:et l=ew l.jo.length (f6 l):=by unfold et;rw[ais oz]
 refine gl ?_;refine aL [1,14,15] [1] (fun(i:Nat)=>[pP 16 (i64 i)]) (fun _=>[]) (fun i=>i<=l.jo.length/\∀j,j<i->f6 l j=0) (fun i=>l.jo.length-i) 0 ⟨ahv _,fun j h=>by omega⟩ ?_;rintro i ⟨hi,hj⟩ K1 J1;refine gC (fun z=>?_) (fun z=>?_)
 ·have af:=aK z;obtain⟨b,hb⟩:=aB af;have cK:l.jo.getD i default=b:=aQ hb;have iC:=pa Jt.name hb;refine gi (ay hb) ?_;refine gc (wD b.name (hl.jnames b (ahg hb))) ?_;refine gC (fun z=>?_) (fun z=>?_)
  ·have h1:=dS z;have e1:f6 l i = 5:=by unfold f6; rw [cK,ait h1]
   refine ah ?_;rw[e0,d5 af hj (by rw[e1];decide),e1];rfl
  have h1:=eJ z;refine gs (eF (.tmp rfl) (.none _) (.some _ (.tmp rfl) oz) T23 rfl T102 rfl oz (by simp only[ahk];omega) rfl) ?_;refine ge rfl ?_;refine aL [1,3,4,14,15,16] [1,4] (fun(k:Nat)=>[pP 29 (.lst 7 ((l.jo.take i).map Jt.av)),pP 30 (i64 i),pP 31 (i64 k)]) (fun _=>[]) (fun k=>k<=i/\(l.jo.take k).any (fun y=>dw y.name b.name)=false) (fun k=>i-k) 0 ⟨ahv _,rfl⟩ ?_ (h1:=(.cons rfl (.of (wO 7 Jt.av l.jo i)) (.cons rfl (Sub.int (by simp;omega)) (.k .nil))));rintro k ⟨hk,hd⟩ K2 J2;refine gC (fun z=>?_) (fun z=>?_)
  ·have aT:=aK z;obtain ⟨y,hy'⟩:∃ y,(l.jo.take i)[k]? = some y:=aB (by simp; omega);have hy:=(wK hy').1;refine gi (ay hy') ?_;refine gC (fun z=>?_) (fun z=>?_)
   ·have h2:dw y.name b.name = true:=z;have e1:f6 l i = 6:=by unfold f6; rw [cK,ais (by rw [h1]; decide),ait (by rw [iC]; exact mM hy aT h2)]
    refine ah ?_;rw[e0,d5 af hj (by rw[e1];decide),e1];rfl
   have h2:dw y.name b.name=false:=z;refine ga aF ?_;exact aE J2 (k+1) ⟨aT,lE hy hd h2⟩
  have aT:=aW hk z;subst aT;have b7:¬fQ (l.jo.map Jt.name) k=true:=by rw[iC,hd];decide
  have e1:f6 l k=ek l b:=by unfold f6;rw[cK,ais (by rw[h1];decide),ais b7]
  refine gc (Wr l hl b) ?_;refine gC (fun z=>?_) (fun z=>?_)
  ·have h3:=p9 z;refine ah ?_;rw[e0,d5 af hj (by rw[e1];exact h3),e1]
  have h3:=qI z;refine ga aF ?_;exact aE J1 (k+1) ⟨af,fun j h9=>by rcases ahq j k with g |g;exact hj j g;(have:j=k:=by omega);subst this;exact e1.trans h3⟩
 have af:=aW hi z;subst af;refine ah ?_;rw[e0,ph hj];rfl
theorem QY(l:Li)(hl:l.ok):FP 212 [l.av] (dh (gG l)):=by
 have ux:=hl.ld;refine ak func212 ?_;refine gl ?_;refine gC (fun z=>?_) (fun z=>?_)
 ·have h0:2<l.drivers.length:=dN z;refine ah ?_;unfold gG;rw[ait h0];rfl
 have h0:l.drivers.length<=2:=jU z;have e0:gG l=ew l.drivers.length (dq l):=by unfold gG;rw[ais oz]
 refine gl ?_;refine aL [1,15,16] [1] (fun(i:Nat)=>[pP 17 (i64 i)]) (fun _=>[]) (fun i=>i<=l.drivers.length/\∀j,j<i->dq l j=0) (fun i=>l.drivers.length-i) 0 ⟨ahv _,fun j h=>by omega⟩ ?_;rintro i ⟨hi,hj⟩ K1 J1;refine gC (fun z=>?_) (fun z=>?_)
 ·have af:=aK z;obtain⟨b,hb⟩:=aB af;have cK:l.drivers.getD i default=b:=aQ hb;have iC:=pa Dr.name hb;refine gi (ay hb) ?_;refine gc (wD b.name (hl.dnames b (ahg hb))) ?_;refine gC (fun z=>?_) (fun z=>?_)
  ·have h1:=dS z;have e1:dq l i = 5:=by unfold dq; rw [cK,ait h1]
   refine ah ?_;rw[e0,d5 af hj (by rw[e1];decide),e1];rfl
  have h1:=eJ z;refine gs (eF (.tmp rfl) (.none _) (.some _ (.tmp rfl) oz) T24 rfl T73 rfl oz (by simp only[ahk];omega) rfl) ?_;refine ge rfl ?_;refine aL [1,3,4,15,16,17] [1,4] (fun(k:Nat)=>[pP 30 (.lst 2 ((l.drivers.take i).map Dr.av)),pP 31 (i64 i),pP 32 (i64 k)]) (fun _=>[]) (fun k=>k<=i/\(l.drivers.take k).any (fun y=>dw y.name b.name)=false) (fun k=>i-k) 0 ⟨ahv _,rfl⟩ ?_ (h1:=(.cons rfl (.of (wO 2 Dr.av l.drivers i)) (.cons rfl (Sub.int (by simp;omega)) (.k .nil))));rintro k ⟨hk,hd⟩ K2 J2;refine gC (fun z=>?_) (fun z=>?_)
  ·have aT:=aK z;obtain ⟨y,hy'⟩:∃ y,(l.drivers.take i)[k]? = some y:=aB (by simp; omega);have hy:=(wK hy').1;refine gi (ay hy') ?_;refine gC (fun z=>?_) (fun z=>?_)
   ·have h2:dw y.name b.name = true:=z;have e1:dq l i = 6:=by unfold dq; rw [cK,ais (by rw [h1]; decide),ait (by rw [iC]; exact mM hy aT h2)]
    refine ah ?_;rw[e0,d5 af hj (by rw[e1];decide),e1];rfl
   have h2:dw y.name b.name=false:=z;refine ga aF ?_;exact aE J2 (k+1) ⟨aT,lE hy hd h2⟩
  have aT:=aW hk z;subst aT;have b7:¬fQ (l.drivers.map Dr.name) k=true:=by rw[iC,hd];decide
  refine gl ?_;refine gc (tN b.body l.bo.length) ?_;refine gC (fun z=>?_) (fun z=>?_)
  ·have h3:=dS z;have e1:dq l k = 9:=by unfold dq; rw [cK,ais (by rw [h1]; decide),ais b7,ait h3]
   refine ah ?_;rw[e0,d5 af hj (by rw[e1];decide),e1];rfl
  have h3:=eJ z;refine gC (fun z=>?_) (fun z=>?_)
  ·have h4:=dV z;have e1:dq l k = 7:=by unfold dq; rw [cK,ais (by rw [h1]; decide),ais b7,ais (by rw [h3]; decide),ait h4]
   refine ah ?_;rw[e0,d5 af hj (by rw[e1];decide),e1];rfl
  have h4:=dC z;have e1:dq l k=if(l.drivers.take k).any (fun d=>decide (d.body=b.body))=true then 6 else 0:=by unfold dq;rw[cK,ais (by rw[h1];decide),ais b7,ais (by rw[h3];decide),ais h4]
  refine gs (eF (.tmp rfl) (.none _) (.some _ (.tmp rfl) oz) T24 rfl T73 rfl oz (by simp only[ahk];omega) rfl) ?_;refine ge rfl ?_;refine aL [1,4,15,16,17] [1,4] (fun(q:Nat)=>[pP 58 (.lst 2 ((l.drivers.take k).map Dr.av)),pP 59 (i64 k),pP 60 (i64 q)]) (fun _=>[]) (fun q=>q<=k/\(l.drivers.take q).any (fun d=>decide (d.body=b.body))=false) (fun q=>k-q) 0 ⟨ahv _,rfl⟩ ?_ (h1:=(.cons rfl (.of (wO 2 Dr.av l.drivers k)) (.cons rfl (Sub.int (by simp;omega)) (.k .nil))));rintro q ⟨hq,lZ⟩ K3 J3;refine gC (fun z=>?_) (fun z=>?_)
  ·have bC:=aK z;obtain ⟨y,hy'⟩:∃ y,(l.drivers.take k)[q]? = some y:=aB (by simp; omega);have hy:=(wK hy').1;refine gi (ay hy') ?_;refine gC (fun z=>?_) (fun z=>?_)
   ·have h5:decide (y.body = b.body) = true:=aix (dV z);have e2:dq l k = 6:=by rw [e1,ait (mM hy bC h5)]
    refine ah ?_;rw[e0,d5 af hj (by rw[e2];decide),e2];rfl
   have h5:decide (y.body=b.body)=false:=aiy (dC z);refine ga aF ?_;exact aE J3 (q+1) ⟨bC,lE hy lZ h5⟩
  have bC:=aW hq z;subst bC;have e2:dq l q=0:=by rw[e1,lZ];rfl
  refine ga aF ?_;exact aE J1 (q+1) ⟨af,fun j h9=>by rcases ahq j q with g |g;exact hj j g;(have:j=q:=by omega);subst this;exact e2⟩
 have af:=aW hi z;subst af;refine ah ?_;rw[e0,ph hj];rfl
theorem Jh(l:Li)(hl:l.ok):FP 110 [l.av] (dh (ax l)):=by
 have fK:=hl.lb;refine ak func110 ?_;refine gc (wD l.name hl.name) ?_;refine gC (fun z=>?_) (fun z=>?_)
 ·have h1:=dS z;refine ah ?_;unfold ax;rw[ait h1];rfl
 have h1:=eJ z;refine gl ?_;refine gC (fun z=>?_) (fun z=>?_)
 ·have h2:=LT z;refine ah ?_;unfold ax;rw[ais (by rw[h1];decide),ait h2];rfl
 have h2:=Jr z;refine gl ?_;refine gC (fun z=>?_) (fun z=>?_)
 ·have h3:8<l.bo.length:=dN z;refine ah ?_;unfold ax;rw[ais (by rw[h1];decide),ais h2,ait h3];rfl
 have h3:l.bo.length<=8:=jU z;have e0:ax l=if hO l≠0 then hO l else if et l≠0 then et l else gG l:=by unfold ax;rw[ais (by rw[h1];decide),ais h2,ais oz]
 refine gc (Vk l.bo hl.bo fK) ?_;refine gC (fun z=>?_) (fun z=>?_)
 ·have h4:hO l≠0:=p9 z;refine ah ?_;rw[e0,ait h4];rfl
 have h4:hO l=0:=qI z;refine gc (U4 l hl) ?_;refine gC (fun z=>?_) (fun z=>?_)
 ·have h5:=p9 z;refine ah ?_;rw[e0,ais (by rw[h4];simp),ait h5]
 have h5:=qI z;refine gc (QY l hl) ?_;refine ah ?_;rw[e0,ais (by rw[h4];simp),ais (by rw[h5];simp)]
theorem DI(d:Nat)(hd:aem d 1000=true)(l:Li)(hl:l.bo.length<=1000)(b:Nat)(hb:b<l.bo.length) :
  Con prog 289 [l.av,i64 b] [] (.ms d 1 0 l.bo.length) [(d,some (.row 1 ((cz l.bo.length b).map bl)))]:=by
 refine gF func289 (fun k z h=>by cases h) ?_;refine gl ?_;refine gs (gh (.tmp rfl) T92 rfl T4 rfl rfl oz (by dsimp only;omega) rfl) ?_;refine gs (m5 (.tmp rfl) (.tmp rfl) T92 rfl T4 rfl oz oz rfl) ?_;refine gs (dc (.tmp rfl) rfl (by rw[aia,ait (by simp;omega)]) rfl (.const _) rfl rfl T4 rfl rfl) ?_ (3,0);refine gW (Wk.of (sl:=[pP 5 (.ms 9 1 0 l.bo.length)]) (hp:=[pP 9 (.row 1 ((cz l.bo.length b).map bl))]) (.cons rfl (.of (by rw[aij])) .nil) (.cons rfl (.of (by unfold cz;simp only[ain,aik,aeg,aij];rfl)) .nil)) ?_ (3,0);refine gW (Wk.rk (k:=9) (d:=900) rfl rfl) ?_;refine gR ?_;exact aI.own1 rfl hd rfl
theorem VU(l:Li)(hl:l.bo.length<=1000)(b:Nat)(hb:b<l.bo.length):FP 289 [l.av,i64 b] (.lst 1 ((cz l.bo.length b).map bl)):=by
 have h:=Con.freeze (by rw[ahk,jd];omega) (DI 0 rfl l hl b hb);rw[aim,ah1 (by rw[ahk,jd];exact ahr _)]at h;exact h
theorem TN(l:Li)(hl:l.ok)(b:Int):FP 403 [l.av,i64 b] (bl (sF l b)):=by
 have ux:=hl.ld;refine ak func403 ?_;refine gl ?_;refine aL [1,8,9] [] (fun(i:Nat)=>[pP 10 (i64 i)]) (fun _=>[]) (fun i=>i<=l.drivers.length/\(l.drivers.take i).any (fun d=>decide (d.body=b))=false) (fun i=>l.drivers.length-i) 0 ⟨ahv _,rfl⟩ ?_;rintro i ⟨hi,hj⟩ K1 J1;refine gC (fun z=>?_) (fun z=>?_)
 ·have af:=aK z;obtain⟨d,hd⟩:=aB af;refine gi (ay hd) ?_;refine gC (fun z=>?_) (fun z=>?_)
  ·have h1:d.body=b:=dV z;refine ah ?_;unfold sF;rw[List.any_eq_true.2 ⟨d,ahg hd,aix h1⟩];rfl
  have h1:d.body≠b:=dC z;refine ga aF ?_;exact aE J1 (i+1) ⟨af,lE hd hj (aiy h1)⟩
 have af:=aW hi z;subst af;rw[ahw]at hj;refine ah ?_;unfold sF;rw[hj];rfl
theorem GF(l:Li)(hl:l.ok)(ae:ax l=0)(kind body:Int)(oth:List Bool)(ho:oth.length=l.bo.length):FP 368 [l.av,i64 kind,i64 body,.lst 1 (oth.map bl)] (i64 (bB l kind body oth)):=by
 have oo:=hl.lj;refine ak func368 ?_;refine gl ?_;refine aL [1,2,3,12,13] [] (fun(i:Nat)=>[pP 14 (i64 i)]) (fun _=>[]) (fun i=>i<=l.jo.length/\∀j,j<i->(!l7 kind body oth (l.jo.getD j default))=true) (fun i=>l.jo.length-i) 0 ⟨ahv _,fun j h=>by omega⟩ ?_;rintro i ⟨hi,hj⟩ K1 J1;refine gC (fun z=>?_) (fun z=>?_)
 ·have af:=aK z;obtain⟨j,oi⟩:=aB af;have p4:l.jo.getD i default=j:=aQ oi;obtain⟨i1,i2,_⟩:=d8 ae oi;have b1:=dJ i1;have b2:=dJ i2;obtain⟨va,Pf⟩:∃v,oth[j.a.toNat]?=some v:=aB oz;obtain⟨vb,Pg⟩:∃v,oth[j.b.toNat]?=some v:=aB oz;have ea:kn oth j.a=va:=aQ Pf;have eb:kn oth j.b=vb:=aQ Pg;refine gi (ay oi) ?_;refine mh (fun _=>(fI (n:=j.b.toNat) oz Pg)) ?_;refine mh (fun _=>(fI (n:=j.a.toNat) oz Pf)) ?_;refine gC (fun z=>?_) (fun z=>?_)
  ·have h2 : l7 kind body oth j = true := by rw [<- HY (va := va) (vb := vb) ea eb]; exact z
   refine ah ?_;unfold bB;rw[jT af hj (by rw[p4,h2];rfl)];rfl
  have h2:l7 kind body oth j=false:=by rw[<- HY (va:=va) (vb:=vb) ea eb];exact z
  refine ga aF ?_;exact aE J1 (i+1) ⟨af,fun k h9=>by rcases ahq k i with g |g;exact hj k g;(have:k=i:=by omega);subst this;rw[p4,h2];rfl⟩
 have af:=aW hi z;subst af;refine ah ?_;unfold bB;rw[km hj];rfl
theorem ZE(l:Li)(hl:l.ok)(kw:List Bool)(b:Nat)(hb:b<kw.length):FP 369 [l.av,.lst 1 (kw.map bl),i64 b] (bl (e8 l kw b)):=by
 obtain⟨v,hv⟩:=aB hb;have ev:kn kw (b:Int)=v:=aQ (by rw[aij];exact hv);refine ak func369 ?_;refine gi (ay hv) ?_;refine bJ (fun _=>(TN l hl b)) ?_;refine ah ?_;unfold e8;rw[ev];exact ai0 bl (me _ _)
theorem wB{l:Li}{kw:List Bool}(hl:l.ok)(ae:ax l=0)(kind body:Int)(hk:kw.length=l.bo.length) :
  Con prog 368 [l.av,i64 kind,i64 body,.ms 1000 1 0 kw.length] [pP 1000 (.row 1 (kw.map bl))] (i64 (bB l kind body kw)) [pP 1000 (.row 1 (kw.map bl))]:=by
 refine Con.borrow (args:=[l.av,i64 kind,i64 body,.lst 1 (kw.map bl)]) 1000 1 (kw.map bl) rfl rfl rfl ?_ rfl (fun k' x h=>by cases h) (GF l hl ae kind body kw hk);intro j x' hj
 match j,hj with
 |0,hj=>cases hj;exact .inl rfl
 |1,hj=>cases hj;exact .inl rfl
 |2,hj=>cases hj;exact .inl rfl
 |3,hj=>cases hj;exact .inr ⟨0,kw.length,rfl,by simp,by rw[aim,ah1 (by simp)];rfl⟩
theorem Ex{l:Li}{kw:List Bool}(hl:l.ok)(b:Nat)(hb:b<kw.length) :
  Con prog 369 [l.av,.ms 1000 1 0 kw.length,i64 b] [pP 1000 (.row 1 (kw.map bl))] (bl (e8 l kw b)) [pP 1000 (.row 1 (kw.map bl))]:=by
 refine Con.borrow (args:=[l.av,.lst 1 (kw.map bl),i64 b]) 1000 1 (kw.map bl) rfl rfl rfl ?_ rfl (fun k' x h=>by cases h) (ZE l hl kw b hb);intro j x' hj
 match j,hj with
 |0,hj=>cases hj;exact .inl rfl
 |1,hj=>cases hj;exact .inr ⟨0,kw.length,rfl,by simp,by rw[aim,ah1 (by simp)];rfl⟩
 |2,hj=>cases hj;exact .inl rfl
theorem Uh(l:Li)(hl:l.ok)(ae:ax l=0)(kw:List Bool)(hk:kw.length=l.bo.length):Con prog 290 [l.av,.ms 1000 1 0 kw.length] [pP 1000 (.row 1 (kw.map bl))] (.tup [((dt l kw).getD default).av,bl (dt l kw).isSome]) [pP 1000 (.row 1 (kw.map bl))]:=by
 have ux:=hl.ld;refine gF func290 (fun k z h=>eQ h) ?_;refine gl ?_;refine aL [2,4,10,11] [2,4,1000] (fun(i:Nat)=>[pP 1 (.ms 1000 1 0 kw.length),pP 12 (i64 i)]) (fun _=>[]) (fun i=>i<=l.drivers.length/\∀j,j<i->(!f9 l kw j)=true) (fun i=>l.drivers.length-i) 0 ⟨ahv _,fun j h=>by omega⟩ ?_;rintro i ⟨hi,hj⟩ K1 J1;refine gC (fun y=>?_) (fun y=>?_)
 ·have af:=aK y;obtain ⟨d,hd⟩:=aB af;have fM:l.drivers.getD i default = d:=aQ hd;have hb:=dJ (qV ae hd);obtain ⟨v,hv⟩:∃ v,kw[d.body.toNat]? = some v:=aB oz;have ev:kn kw d.body = v:=aQ hv;refine gi (ay hd) ?_;refine gs (m5 (.tmp rfl) (.tmp rfl) T92 rfl T4 rfl oz oz rfl) ?_;refine gs (dx (.tmp rfl) rfl (by rw [aeg,aho,hv]; rfl) T4 rfl rfl rfl) ?_;refine gC (fun y=>?_) (fun y=>?_)
  ·have h2 : f9 l kw i = false := by unfold f9; rw [fM, ev, y]; rfl
   refine ga aF ?_;exact aE J1 (i+1) ⟨af,fun k h9=>by rcases ahq k i with g |g;exact hj k g;(have:k=i:=by omega);subst this;rw[h2];rfl⟩
  have lU:v=false:=y;refine gt (pI (wB hl ae 0 d.body hk) (.cons (.tmp rfl) (.cons (.const _) (cV rfl rfl))) rfl rfl rfl) ?_;refine gC (fun y=>?_) (fun y=>?_)
  ·have h2 : f9 l kw i = true := by unfold f9; rw [fM, ev, lU, aix (Lr y)]; rfl
   have hg:dt l kw=some ⟨0,[d.body],[bB l 0 d.body kw],i⟩:=by unfold dt;rw[jT af hj (by rw[h2];rfl),<- fM];rfl
   refine gR ?_;rw[hg];exact aI.keep (d6 rfl)
  have h2:f9 l kw i=false:=by unfold f9;rw[fM,aiy (MA y),agp]
  refine ga aF ?_;exact aE J1 (i+1) ⟨af,fun k h9=>by rcases ahq k i with g |g;exact hj k g;(have:k=i:=by omega);subst this;rw[h2];rfl⟩
 have af:=aW hi y;subst af;have hg:dt l kw=none:=by unfold dt;rw[km hj];rfl
 refine gR ?_;exact aI.sub (aI.keep (d6 rfl)) (by rw[hg];exact Sub.tup (.cons tk (.cons (.refl _) .nil)))
theorem WP(l:Li)(hl:l.ok)(ae:ax l=0)(kw:List Bool)(hk:kw.length=l.bo.length):Con prog 291 [l.av,.ms 1000 1 0 kw.length] [pP 1000 (.row 1 (kw.map bl))] (.tup [((cG l kw).getD default).av,bl (cG l kw).isSome]) [pP 1000 (.row 1 (kw.map bl))]:=by
 have h8:=(fp ae).2.2.2.1;refine gF func291 (fun k z h=>eQ h) ?_;refine gl ?_;refine aL [2,4,12,13] [2,4,1000] (fun(i:Nat)=>[pP 1 (.ms 1000 1 0 kw.length),pP 14 (i64 i)]) (fun _=>[]) (fun i=>i<=l.bo.length/\∀j,j<i->(gV l kw j).isNone=true) (fun i=>l.bo.length-i) 0 ⟨ahv _,fun j h=>by omega⟩ ?_;rintro i ⟨hi,hj⟩ K1 J1;refine gC (fun y=>?_) (fun y=>?_)
 ·have af:=aK y;refine ga aF ?_;refine aL [2,4,6,12,13,14] [2,4,1000] (fun (k:Nat)=>[pP 1 (.ms 1000 1 0 kw.length),pP 7 (i64 (i + 1 + k:Nat))]) (fun _=>[]) (fun k=>i + 1 + k <= l.bo.length /\ ∀ j,j < k -> (!df l kw i (i + 1 + j)) = true) (fun k=>l.bo.length - k) 0 ⟨by omega,fun j h=>by omega⟩ ?_;rintro k ⟨hkl,gU⟩ K2 J2;refine gl ?_;refine gC (fun y=>?_) (fun y=>?_)
  ·have aT:i+1+k<l.bo.length:=aK y;refine gt (pI (Ex hl i oz) (a6 rfl rfl rfl) rfl rfl rfl) ?_;refine gu (fT rfl rfl rfl (fun h=>pI (Ex hl (i+1+k) oz) (.cons (.opt rfl (o1 h)) (.cons (.opt rfl (o1 h)) (.cons (.opt rfl (o1 h)) .nil))) rfl rfl rfl)) ?_;refine gC (fun y=>?_) (fun y=>?_)
   ·have h2 : df l kw i (i + 1 + k) = false := by unfold df; rw [show (e8 l kw i && e8 l kw ((i + 1 + k : Nat) : Int)) = false from by rcases qw y with g | g; (rw [g]; rfl); (rw [g, agp])]; rfl
    refine ga aF ?_;exact aE J2 (k+1) ⟨by omega,fun j h9=>by rcases ahq j k with g |g;exact gU j g;(have:j=k:=by omega);subst this;rw[h2];rfl⟩
   have uy:=p8 y;refine gt (pI (wB hl ae 0 i hk) (.cons (.tmp rfl) (.cons (.const _) (cV rfl rfl))) rfl rfl rfl) ?_;refine gt (pI (wB hl ae 0 (i+1+k:Nat) hk) (.cons (.tmp rfl) (.cons (.const _) (cV rfl rfl))) rfl rfl rfl) ?_;refine gc (VU l oz (i+1+k) aT) ?_;refine gc (GF l hl ae 0 i (cz l.bo.length ((i+1+k:Nat):Int)) (jd _ _)) ?_;refine gD ?_;refine gC (fun y=>?_) (fun y=>?_)
   ·have h2 : df l kw i (i + 1 + k) = true := by unfold df; rw [uy.1, uy.2]; exact (x5.symm.trans y)
    have ol:gV l kw i=some (i+1+k):=by unfold gV;rw[jT oz gU (by rw[h2];rfl),ahd];congr 1;omega
    have hg:cG l kw=some (il l kw i (i+1+k)):=by unfold cG;rw[jT af hj (by rw[ol];rfl),ahd,ol]
    refine gR ?_;rw[hg];exact aI.keep (d6 rfl)
   have h2:df l kw i (i+1+k)=false:=by unfold df;rw[show(decide (0<=bB l 0 i kw)&&decide (0<=bB l 0 ((i+1+k:Nat):Int) kw)&&decide (0<=bB l 0 i (cz l.bo.length ((i+1+k:Nat):Int))))=false from x5.symm.trans y,agp]
   refine ga aF ?_;exact aE J2 (k+1) ⟨by omega,fun j h9=>by rcases ahq j k with g |g;exact gU j g;(have:j=k:=by omega);subst this;rw[h2];rfl⟩
  have aT:¬i+1+k<l.bo.length:=fun h=>by have h1:=uZ y;omega
  have ol:gV l kw i=none:=by unfold gV;rw[show l.bo.length-(i+1)=k by omega,km gU];rfl
  refine ga aF ?_;exact aE J1 (i+1) ⟨af,fun j h9=>by rcases ahq j i with g |g;exact hj j g;(have:j=i:=by omega);subst this;rw[ol];rfl⟩
 have af:=aW hi y;have hg:cG l kw=none:=by unfold cG;rw[<- af,km hj];rfl
 refine gR ?_;exact aI.sub (aI.keep (d6 rfl)) (by rw[hg];exact Sub.tup (.cons tk (.cons (.refl _) .nil)))
theorem aaq(l:Li)(hl:l.ok)(ae:ax l=0)(kw:List Bool)(hk:kw.length=l.bo.length):Con prog 292 [l.av,.ms 1000 1 0 kw.length] [pP 1000 (.row 1 (kw.map bl))] (.tup [((d9 l kw).getD default).av,bl (d9 l kw).isSome]) [pP 1000 (.row 1 (kw.map bl))]:=by
 have h8:=(fp ae).2.2.2.1;refine gF func292 (fun k z h=>eQ h) ?_;refine gl ?_;refine aL [2,4,11,12] [2,4,1000] (fun(i:Nat)=>[pP 1 (.ms 1000 1 0 kw.length),pP 13 (i64 i)]) (fun _=>[]) (fun i=>i<=l.bo.length/\∀j,j<i->(!fU l kw j)=true) (fun i=>l.bo.length-i) 0 ⟨ahv _,fun j h=>by omega⟩ ?_;rintro i ⟨hi,hj⟩ K1 J1;refine gC (fun y=>?_) (fun y=>?_)
 ·have af:=aK y;refine gt (pI (Ex hl i oz) (a6 rfl rfl rfl) rfl rfl rfl) ?_;refine gC (fun y=>?_) (fun y=>?_)
  ·have h2 : fU l kw i = false := by unfold fU; rw [dS y]; rfl
   refine ga aF ?_;exact aE J1 (i+1) ⟨af,fun k h9=>by rcases ahq k i with g |g;exact hj k g;(have:k=i:=by omega);subst this;rw[h2];rfl⟩
  have hf:=eJ y;refine gt (pI (wB hl ae 0 i hk) (.cons (.tmp rfl) (.cons (.const _) (cV rfl rfl))) rfl rfl rfl) ?_;refine gt (pI (wB hl ae 1 i hk) (.cons (.tmp rfl) (.cons (.const _) (cV rfl rfl))) rfl rfl rfl) ?_;refine gD ?_;refine gC (fun y=>?_) (fun y=>?_)
  ·have h2 : fU l kw i = false := by unfold fU; rw [MG y, agp]
   refine ga aF ?_;exact aE J1 (i+1) ⟨af,fun k h9=>by rcases ahq k i with g |g;exact hj k g;(have:k=i:=by omega);subst this;rw[h2];rfl⟩
  obtain⟨p0,s0⟩:=HK y;have s1:=(pE (l:=l) (kind:=1) (body:=i) (oth:=kw)).2;have h2:fU l kw i=true:=by unfold fU;rw[hf,aix p0,aix s0];rfl
  obtain⟨j,oi⟩:∃j,l.jo[(bB l 1 i kw).toNat]?=some j:=aB oz;have p4:l.jo.getD (bB l 1 i kw).toNat default=j:=aQ oi;have hg:d9 l kw=some (iO l kw i):=by unfold d9;rw[jT af hj (by rw[h2];rfl),ahd]
  refine gi (fI (n:=(bB l 1 i kw).toNat) oz oi) ?_;refine gC (fun y=>?_) (fun y=>?_)
  ·have rL:j.a=i:=dV y;refine gR ?_;rw[hg];unfold iO;rw[p4];simp only[ahe,ait rL]
   exact aI.keep (d6 rfl)
  have rL:j.a≠i:=dC y;refine gR ?_;rw[hg];unfold iO;rw[p4];simp only[ahe,ais rL]
  exact aI.keep (d6 rfl)
 have af:=aW hi y;have hg:d9 l kw=none:=by unfold d9;rw[<- af,km hj];rfl
 refine gR ?_;exact aI.sub (aI.keep (d6 rfl)) (by rw[hg];exact Sub.tup (.cons tk (.cons (.refl _) .nil)))
theorem Dm{k:List Bool}{bs:List Int}{q:Nat}{x:Int}(h:bs[q]?=some x):a9 k (bs.drop q)=a9 (k.set x.toNat true) (bs.drop (q+1)):=by
 have hi:=(afh.1 h).1;rw[ae7 hi,(afh.1 h).2];rfl
theorem UR{l:Li}{n:Nat}{kw:List Bool}{out:List Gr}{g:Gr}(h:bY l kw=some g):cr l (n+1) kw out=cr l n (a9 kw g.bo) (out++[g]):=by
 show(match bY l kw with |none=>_ |some g=>_)=_;rw[h]
theorem ZG{l:Li}{n:Nat}{kw:List Bool}{out:List Gr}(h:bY l kw=none):cr l n kw out=(kw,out):=by
 cases n with
 |zero=>rfl
 |succ n=>show(match bY l kw with |none=>_ |some g=>_)=_;rw[h]
theorem C9{α:Type}{o:Option α}(h:o.isSome=false):o=none:=by cases o <;> simp_all
theorem L0{α:Type}{a b:Option α}(h:a.isSome=true):a=a.or b:=by cases a <;> simp_all
theorem Q9{l:Li}{kw:List Bool}(h:(dt l kw).or (cG l kw)=none):bY l kw=d9 l kw:=by
 unfold bY;rw[<- Option.or_assoc,h];rfl
theorem Xj{l:Li}{kw:List Bool}(h:((dt l kw).or (cG l kw)).isSome=true):bY l kw=(dt l kw).or (cG l kw):=by
 unfold bY;rw[<- Option.or_assoc];exact(L0 h).symm
theorem Ht(l:Li)(hl:l.ok)(ae:ax l=0):FP 191 [l.av] (.lst 4 ((b8 l).map Gr.av)):=by
 have h8:=(fp ae).2.2.2.1;have h0:=(fp ae).2.2.2.2;refine ak func191 ?_;refine gt (bq (DI 900 rfl l oz 0 oz) (.cons (.tmp rfl) (.cons (.const _) .nil)) bU rfl rfl) ?_;refine gl ?_;refine gW (Wk.virt 901 4 rfl) ?_;refine iW [1,13] [1] (fun(i:Nat)(kw:List Bool)(out:List Gr)=>[pP 3 (.ms 900 1 0 kw.length),pP 4 (.ms 901 4 0 out.length),pP 14 (i64 i)]) (fun _ kw out=>[pP 900 (.row 1 (kw.map bl)),pP 901 (.row 4 (out.map Gr.av))]) (fun i kw out=>i<=l.bo.length/\kw.length=l.bo.length/\out.length<=i/\cr l (l.bo.length-i) kw out=cr l l.bo.length (cz l.bo.length 0) []) (fun i _ _=>l.bo.length-i) 0 (cz l.bo.length 0) ([]) ⟨ahv _,jd _ _,ahr _,rfl⟩ ?_ (h1:=(.cons rfl (.of (by rw[jd])) (.k (.k .nil))))
 rintro i kw out ⟨hi,hk,kU,uy⟩ K1 J1;refine gC (fun z=>?_) (fun z=>?_) (st2:=(18,0))
 ·have af:=aK z;have fL:=Con.rekey1 900 rfl rfl rfl (Uh l hl ae kw hk);have Bc:=Con.rekey1 900 rfl rfl rfl (WP l hl ae kw hk);have iS:=Con.rekey1 900 rfl rfl rfl (aaq l hl ae kw hk);refine gt (bq fL (cV rfl rfl) bU rfl rfl) ?_;refine CD [1,5,13,14] [1,900,901] (fun(o:Option Gr)=>[pP 3 (.ms 900 1 0 kw.length),pP 4 (.ms 901 4 0 out.length),pP 6 (bl o.isSome)]) (fun o=>[pP 5 (.box (o.getD default).av.cells)]) (fun o=>o=(dt l kw).or (cG l kw)) ?_ ?_
  ·intro K2 J2;refine gC (fun z=>?_) (fun z=>?_)
   ·refine gt (bq Bc (cV rfl rfl) bU rfl rfl) ?_;exact tC J2 (cG l kw) (by rw[C9 (dS z)];rfl)
   exact tC J2 (dt l kw) (L0 (eJ z))
  rintro o ho;refine CD [1,5,13,14] [1,900,901] (fun(og:Option Gr)=>[pP 3 (.ms 900 1 0 kw.length),pP 4 (.ms 901 4 0 out.length),pP 6 (bl og.isSome)]) (fun og=>[pP 5 (.box (og.getD default).av.cells)]) (fun og=>og=bY l kw) ?_ ?_
  ·intro K3 J3;refine gC (fun z=>?_) (fun z=>?_)
   ·refine gt (bq iS (cV rfl rfl) bU rfl rfl) ?_;exact tC J3 (d9 l kw) (by have:=C9 (dS z);rw[ho]at this;exact(Q9 this).symm)
   exact tC J3 o (by rw[ho];exact(Xj (by rw[<- ho];exact eJ z)).symm)
  rintro og pS;refine gC (fun z=>?_) (fun z=>?_) (st1:=(18,0))
  ·have hn : bY l kw = none := by rw [<- pS]; exact C9 (dS z)
   have jF:b8 l=out:=by unfold b8;rw[<- uy,ZG hn]
   refine gW ((Wk.freeze (k:=901) rfl).trans<|Wk.of (sl:=[pP 4 (.lst 4 ((b8 l).map Gr.av))]) (hp:=[]) (.cons rfl (.of (by rw[jF,cf (by rw[ahk])])) .nil) .nil) ?_;refine ah ?_;rfl
  obtain⟨g,hg⟩:∃g,og=some g:=Option.isSome_iff_exists.1 (eJ z);have Ph:bY l kw=some g:=by rw[<- pS,hg]
  have jp:=CA ae Ph;subst hg;refine gs (eD (.tmp rfl) rfl (by rw[ahk]) (.tmp rfl) T53 rfl T104 rfl rfl (by dsimp only;simp only[ahx,ah9];omega) rfl rfl) ?_ (12,0);refine gW (Wk.of (sl:=[pP 1 (.ptr 1 0),pP 3 (.ms 900 1 0 kw.length),pP 4 (.ms 43 4 0 (out++[g]).length),pP 5 (.ptr 5 0),pP 13 (i64 l.bo.length),pP 14 (i64 i)]) (hp:=[pP 1 (.box l.av.cells),pP 5 (.box g.av.cells),pP 900 (.row 1 (kw.map bl)),pP 43 (.row 4 ((out++[g]).map Gr.av))]) (.k (.k (.cons rfl (.of (by rw[aid];rfl)) (.k (.k (.k .nil)))))) (.k (.k (.k (.cons rfl (.of (by rw[aih];rfl)) .nil))))) ?_ (12,0)
  refine gW (Wk.rk (k:=43) (d:=901) rfl rfl) ?_;refine gl ?_;refine fH [1,13,14,45,46] [1,901] (fun(q:Nat)(kk:List Bool)=>[pP 3 (.ms 900 1 0 kk.length),pP 4 (.ms 901 4 0 (out++[g]).length),pP 47 (i64 q)]) (fun _ kk=>[pP 900 (.row 1 (kk.map bl))]) (fun q kk=>q<=g.bo.length/\kk.length=l.bo.length/\a9 kk (g.bo.drop q)=a9 kw g.bo) (fun q _=>g.bo.length-q) 0 kw ⟨ahv _,hk,rfl⟩ ?_;rintro q kk ⟨hq,cp,fZ⟩ K4 J4;refine gC (fun z=>?_) (fun z=>?_)
  ·have bC:=aK z;obtain⟨x,hx⟩:=aB bC;have l6:=jp.b x (ahg hx);obtain⟨v,hv⟩:∃v,kk[x.toNat]?=some v:=aB oz;refine gi (ay hx) ?_;refine gs (m5 (.tmp rfl) (.tmp rfl) T92 rfl T4 rfl oz oz rfl) ?_;refine gs (dc (.tmp rfl) rfl (by rw[aeg,aho,hv];rfl) rfl (.const _) rfl rfl T4 rfl rfl) ?_;refine ga (zT (by have:=jp.lb;unfold az;omega)) ?_;exact fE J4 (q+1) (kk.set x.toNat true) ⟨bC,by rw[air];exact cp,by rw[<- Dm hx];exact fZ⟩ (hw:=Wk.of (.cons rfl (.of (by rw[air])) (.k (.k (.k (.k (.k (.k (.k .nil)))))))) (.cons rfl (.of (by rw[ain,aeg];rfl)) (.k (.k .nil))))
  have bC:=aW hq z;have F8:kk=a9 kw g.bo:=by rw[bC,afb]at fZ;exact fZ
  refine ga aF ?_;exact ia J1 (i+1) kk (out++[g]) ⟨af,cp,by rw[aid];simp only[ahx,ah9];omega,by rw[F8,<- UR Ph,<- uy];congr 1;omega⟩
 have af:=aW hi z;have jF:b8 l=out:=by unfold b8;rw[<- uy,show l.bo.length-i=0 by omega];rfl
 refine gW ((Wk.freeze (k:=901) rfl).trans<|Wk.of (sl:=[pP 4 (.lst 4 ((b8 l).map Gr.av))]) (hp:=[]) (.cons rfl (.of (by rw[jF,cf (by rw[ahk])])) .nil) .nil) ?_;refine ah ?_;rfl
theorem Ns{α:Type}{f:List Bool->α->List Bool}{k:List Bool}{l:List α}{i:Nat}{x:α}(h:l[i]?=some x):(l.drop i).foldl f k=(l.drop (i+1)).foldl f (f k x):=by
 have hi:=(afh.1 h).1;rw[ae7 hi,(afh.1 h).2];rfl
def iM(k:List Bool)(i:Nat):List Int:=((List.range i).filter (fun j=>!k.getD j false)).map (fun j:Nat=>((j:Nat):Int))
theorem NC{k:List Bool}{i:Nat}(h:k.getD i false=false):iM k (i+1)=iM k i++[(i:Int)]:=by
 unfold iM;rw[afm,List.filter_append,aih,List.filter_cons,h];rfl
theorem JM{k:List Bool}{i:Nat}(h:k.getD i false=true):iM k (i+1)=iM k i:=by
 unfold iM;rw[afm,List.filter_append,aih,List.filter_cons,h];simp
theorem AJ(k:List Bool)(i:Nat):(iM k i).length<=i:=by
 unfold iM;rw[ahk];exact ah8 (List.length_filter_le _ _) (by simp)
theorem tl{α:Type}{f:α->List Int}:∀(gs:List α)(k:List Bool),(gs.foldl (fun k g=>a9 k (f g)) k).length=k.length
 |[],k=>rfl
 |g::gs,k=>by rw[afw,tl gs,lL]
theorem W4(l:Li):(eS (bT l)).length<=l.bo.length:=by
 have h:=AJ (bT l) (bT l).length;have e:(bT l).length=l.bo.length:=by unfold bT;rw[tl,jd]
 rw[e]at h;unfold eS;rw[e];exact h
theorem QT(l:Li):(eS (fk l)).length<=l.jo.length:=by
 have h:=AJ (fk l) (fk l).length;have e:(fk l).length=l.jo.length:=by unfold fk;rw[tl,ah7]
 rw[e]at h;unfold eS;rw[e];exact h
theorem SA(l:Li)(hl:l.ok)(ae:ax l=0):FP 190 [l.av] (.tup [.lst 1 ((eS (bT l)).map i64),.lst 1 ((eS (fk l)).map i64)]):=by
 have h8:=(fp ae).2.2.2.1;have h0:=(fp ae).2.2.2.2;have F9:l.jo.length<=16:=by have:=(fp ae).2.1;unfold et at this;split at this;cases this;omega
 obtain⟨jp,Pi⟩:=zB ae;refine ak func190 ?_;refine gt (bq (DI 900 rfl l oz 0 oz) (.cons (.tmp rfl) (.cons (.const _) .nil)) bU rfl rfl) ?_;refine gl ?_;refine gs (gh (.tmp rfl) T92 rfl T4 rfl rfl oz (by dsimp only;omega) rfl) ?_;refine gD ?_ (2,0);refine gW (Wk.of (sl:=[pP 1 (.ptr 1 0),pP 2 (nS),pP 3 (nS),pP 4 (.ms 900 1 0 (cz l.bo.length 0).length),pP 5 (.ms 21 1 0 (afq l.jo.length false).length)]) (hp:=[pP 1 (.box l.av.cells),pP 900 (.row 1 ((cz l.bo.length 0).map bl)),pP 21 (.row 1 ((afq l.jo.length false).map bl))]) (.k (.k (.k (.cons rfl (.of (by rw[jd])) (.cons rfl (.of (by rw[ah7,aij])) .nil))))) (.k (.k (.cons rfl (.of (by rw[aik,aij];rfl)) .nil)))) ?_ (2,0)
 refine gW (Wk.rk (k:=21) (d:=901) rfl rfl) ?_;refine gc (Ht l hl ae) ?_;refine gl ?_;refine iW [1,2,3,23,24] [1] (fun(i:Nat)(k1 k2:List Bool)=>[pP 4 (.ms 900 1 0 k1.length),pP 5 (.ms 901 1 0 k2.length),pP 25 (i64 i)]) (fun _ k1 k2=>[pP 900 (.row 1 (k1.map bl)),pP 901 (.row 1 (k2.map bl))]) (fun i k1 k2=>i<=(b8 l).length/\k1.length=l.bo.length/\k2.length=l.jo.length/\((b8 l).drop i).foldl (fun k g=>a9 k g.bo) k1=bT l/\((b8 l).drop i).foldl (fun k g=>a9 k g.jo) k2=fk l) (fun i _ _=>(b8 l).length-i) 0 (cz l.bo.length 0) (afq l.jo.length false) ⟨ahv _,jd _ _,ah7,rfl,rfl⟩ ?_
 rintro i k1 k2 ⟨hi,iy,cC,Ga,Gb⟩ K1 J1;refine gC (fun z=>?_) (fun z=>?_)
 ·have af:=aK z;obtain⟨g,hg⟩:=aB af;have Be:=jp g (ahg hg);have fK:=Be.lb;have oo:=Be.lj;refine gi (ay hg) ?_;refine gl ?_;refine fH [1,2,3,7,23,24,25,30,31] [1,7,901] (fun(q:Nat)(kk:List Bool)=>[pP 4 (.ms 900 1 0 kk.length),pP 5 (.ms 901 1 0 k2.length),pP 32 (i64 q)]) (fun _ kk=>[pP 900 (.row 1 (kk.map bl))]) (fun q kk=>q<=g.bo.length/\kk.length=l.bo.length/\a9 kk (g.bo.drop q)=a9 k1 g.bo) (fun q _=>g.bo.length-q) 0 k1 ⟨ahv _,iy,rfl⟩ ?_;rintro q kk ⟨hq,cp,fZ⟩ K2 J2;refine gC (fun z=>?_) (fun z=>?_)
  ·have bC:=aK z;obtain⟨x,hx⟩:=aB bC;have l6:=Be.b x (ahg hx);obtain⟨v,hv⟩:∃v,kk[x.toNat]?=some v:=aB oz;refine gi (ay hx) ?_;refine gs (m5 (.tmp rfl) (.tmp rfl) T92 rfl T4 rfl oz oz rfl) ?_;refine gs (dc (.tmp rfl) rfl (by rw[aeg,aho,hv];rfl) rfl (.const _) rfl rfl T4 rfl rfl) ?_;refine ga aF ?_;exact fE J2 (q+1) (kk.set x.toNat true) ⟨bC,by rw[air];exact cp,by rw[<- Dm hx];exact fZ⟩ (hw:=Wk.of (.cons rfl (.of (by rw[air])) (.k (.k (.k (.k (.k (.k (.k (.k (.k (.k (.k .nil)))))))))))) (.cons rfl (.of (by rw[ain,aeg];rfl)) (.k (.k (.k .nil)))))
  have bC:=aW hq z;have F8:kk=a9 k1 g.bo:=by rw[bC,afb]at fZ;exact fZ
  refine gl ?_;refine fH [1,2,3,23,24,25,41,42] [1,900] (fun(p:Nat)(jj:List Bool)=>[pP 4 (.ms 900 1 0 kk.length),pP 5 (.ms 901 1 0 jj.length),pP 43 (i64 p)]) (fun _ jj=>[pP 901 (.row 1 (jj.map bl))]) (fun p jj=>p<=g.jo.length/\jj.length=l.jo.length/\a9 jj (g.jo.drop p)=a9 k2 g.jo) (fun p _=>g.jo.length-p) 0 k2 ⟨ahv _,cC,rfl⟩ ?_;rintro p jj ⟨hp,oq,Gc⟩ K3 J3;refine gC (fun z=>?_) (fun z=>?_)
  ·have eC:=aK z;obtain⟨x,hx⟩:=aB eC;have l6:=Be.j x (ahg hx);obtain⟨v,hv⟩:∃v,jj[x.toNat]?=some v:=aB oz;refine gi (ay hx) ?_;refine gs (m5 (.tmp rfl) (.tmp rfl) T92 rfl T4 rfl oz oz rfl) ?_;refine gs (dc (.tmp rfl) rfl (by rw[aeg,aho,hv];rfl) rfl (.const _) rfl rfl T4 rfl rfl) ?_;refine ga aF ?_;exact fE J3 (p+1) (jj.set x.toNat true) ⟨eC,by rw[air];exact oq,by rw[<- Dm hx];exact Gc⟩ (hw:=Wk.of (.k (.cons rfl (.of (by rw[air])) (.k (.k (.k (.k (.k (.k (.k (.k (.k .nil))))))))))) (.cons rfl (.of (by rw[ain,aeg];rfl)) (.k (.k .nil))))
  have eC:=aW hp z;have acz:jj=a9 k2 g.jo:=by rw[eC,afb]at Gc;exact Gc
  refine ga aF ?_;exact ia J1 (i+1) kk jj ⟨af,cp,oq,by rw[F8,<- Ga,Ns hg],by rw[acz,<- Gb,Ns hg]⟩
 have af:=aW hi z;have e1:k1=bT l:=by rw[af,afb]at Ga;exact Ga
 have e2:k2=fk l:=by rw[af,afb]at Gb;exact Gb
 refine gW (Wk.virt 902 1 rfl) ?_;refine aL [3,53] [900,901] (fun(i:Nat)=>[pP 2 (.ms 902 1 0 (iM k1 i).length),pP 5 (.ms 901 1 0 k2.length),pP 52 (.ms 900 1 0 k1.length),pP 54 (i64 i)]) (fun i=>[pP 902 (.row 1 ((iM k1 i).map i64))]) (fun i=>i<=k1.length) (fun i=>k1.length-i) 0 (ahv _) ?_;rintro i ha K4 J4;refine gC (fun z=>?_) (fun z=>?_) (st2:=(22,0))
 ·have xF:=aK z;obtain ⟨v,hv⟩:=aB xF;have xG:k1.getD i false = v:=aQ hv;have uu:=AJ k1 i;refine gs (m5 (.tmp rfl) (.tmp rfl) T92 rfl T4 rfl oz oz rfl) ?_;refine gs (dx (.tmp rfl) rfl (by rw [aeg,aij,aho,hv]; rfl) T4 rfl rfl rfl) ?_;refine gC (fun z=>?_) (fun z=>?_)
  ·have hu := NC (k := k1) (i := i) (by rw [xG]; exact dS z);refine gs (eD (.tmp rfl) rfl (by rw [ahk]) (.tmp rfl) T30 rfl T3 rfl rfl (by dsimp only; simp only [ahx,ah9]; omega) rfl rfl) ?_ (21,0);refine gW (Wk.of (sl:=[pP 2 (.ms 64 1 0 (iM k1 (i + 1)).length),pP 3 (nS),pP 5 (.ms 901 1 0 k2.length),pP 52 (.ms 900 1 0 k1.length),pP 53 (i64 k1.length),pP 54 (i64 i)]) (hp:=[pP 900 (.row 1 (k1.map bl)),pP 901 (.row 1 (k2.map bl)),pP 64 (.row 1 ((iM k1 (i + 1)).map i64))]) (.cons rfl (.of (by rw [hu,aid]; rfl)) (.k (.k (.k (.k (.k .nil)))))) (.k (.k (.cons rfl (.of (by rw [hu,aih]; rfl)) .nil)))) ?_ (21,0)
   refine gW (Wk.rk (k:=64) (d:=902) rfl rfl) ?_;refine ga aF ?_;exact aE J4 (i+1) xF (hw:=Wk.of (.cons rfl (.of (by first |rw[hu];done |rfl)) (.k (.k (.k (.k (.k .nil)))))) (.cons rfl (.of (by first |rw[hu];done |rfl)) (.k (.k .nil))))
  have hu:=JM (k:=k1) (i:=i) (by rw[xG];exact eJ z);refine ga aF ?_;exact aE J4 (i+1) xF (hw:=Wk.of (.cons rfl (.of (by first |rw[hu];done |rfl)) (.k (.k (.k (.k (.k .nil)))))) (.cons rfl (.of (by first |rw[hu];done |rfl)) (.k (.k .nil))))
 have xF:=aW ha z;refine gW ((Wk.freeze (k:=902) rfl).trans<|Wk.of (sl:=[pP 2 (.lst 1 ((eS (bT l)).map i64)),pP 3 (nS),pP 5 (.ms 901 1 0 k2.length)]) (hp:=[pP 901 (.row 1 (k2.map bl))]) (.cons rfl (.of (by rw[cf (by rw[ahk]),xF,e1];rfl)) (.k (.k .nil))) (.k .nil)) ?_;refine gW (Wk.virt 902 1 rfl) ?_;refine aL [2,67] [901] (fun(i:Nat)=>[pP 3 (.ms 902 1 0 (iM k2 i).length),pP 66 (.ms 901 1 0 k2.length),pP 68 (i64 i)]) (fun i=>[pP 902 (.row 1 ((iM k2 i).map i64))]) (fun i=>i<=k2.length) (fun i=>k2.length-i) 0 (ahv _) ?_;rintro i hb K5 J5;refine gC (fun z=>?_) (fun z=>?_) (st2:=(28,0))
 ·have xH:=aK z;obtain ⟨v,hv⟩:=aB xH;have xG:k2.getD i false = v:=aQ hv;have uu:=AJ k2 i;refine gs (m5 (.tmp rfl) (.tmp rfl) T92 rfl T4 rfl oz oz rfl) ?_;refine gs (dx (.tmp rfl) rfl (by rw [aeg,aij,aho,hv]; rfl) T4 rfl rfl rfl) ?_;refine gC (fun z=>?_) (fun z=>?_)
  ·have hu := NC (k := k2) (i := i) (by rw [xG]; exact dS z);refine gs (eD (.tmp rfl) rfl (by rw [ahk]) (.tmp rfl) T30 rfl T3 rfl rfl (by dsimp only; simp only [ahx,ah9]; omega) rfl rfl) ?_ (27,0);refine gW (Wk.of (sl:=[pP 2 (.lst 1 ((eS (bT l)).map i64)),pP 3 (.ms 78 1 0 (iM k2 (i + 1)).length),pP 66 (.ms 901 1 0 k2.length),pP 67 (i64 k2.length),pP 68 (i64 i)]) (hp:=[pP 901 (.row 1 (k2.map bl)),pP 78 (.row 1 ((iM k2 (i + 1)).map i64))]) (.k (.cons rfl (.of (by rw [hu,aid]; rfl)) (.k (.k (.k .nil))))) (.k (.cons rfl (.of (by rw [hu,aih]; rfl)) .nil))) ?_ (27,0)
   refine gW (Wk.rk (k:=78) (d:=902) rfl rfl) ?_;refine ga aF ?_;exact aE J5 (i+1) xH (hw:=Wk.of (.cons rfl (.of (by first |rw[hu];done |rfl)) (.k (.k (.k (.k .nil))))) (.cons rfl (.of (by first |rw[hu];done |rfl)) (.k .nil)))
  have hu:=JM (k:=k2) (i:=i) (by rw[xG];exact eJ z);refine ga aF ?_;exact aE J5 (i+1) xH (hw:=Wk.of (.cons rfl (.of (by first |rw[hu];done |rfl)) (.k (.k (.k (.k .nil))))) (.cons rfl (.of (by first |rw[hu];done |rfl)) (.k .nil)))
 have xH:=aW hb z;refine gW ((Wk.freeze (k:=902) rfl).trans<|Wk.of (sl:=[pP 2 (.lst 1 ((eS (bT l)).map i64)),pP 3 (.lst 1 ((eS (fk l)).map i64))]) (hp:=[]) (.k (.cons rfl (.of (by rw[cf (by rw[ahk]),xH,e2];rfl)) .nil)) .nil) ?_;refine bZ ?_;rfl
theorem SM(l:Li)(hl:l.ok)(ae:ax l=0):FP 85 [l.av] (.tup [.lst 4 ((aC l).map Gr.av),i64 (bS l)]):=by
 have h8:=(fp ae).2.2.2.1;have F9:l.jo.length<=16:=by have:=(fp ae).2.1;unfold et at this;split at this;cases this;omega
 have u1:=W4 l;have u2:=QT l;refine ak func85 ?_;refine gc (SA l hl ae) ?_;refine gl ?_;refine gl ?_;refine ga (cO oz) ?_;refine gC (fun z=>?_) (fun z=>?_)
 ·have h1:0 < (eS (bT l)).length + (eS (fk l)).length:=dN z;have hE:bS l = 7:=by unfold bS; rw [ais oz]
  refine gR ?_;exact gP (by unfold aC;rw[ais (by rw[hE];decide),hE];exact Sub.tup (.cons (.nil _ _ _) (.cons (.refl _) .nil)))
 have h1:(eS (bT l)).length+(eS (fk l)).length<=0:=jU z;have hE:bS l=0:=by unfold bS;rw[ait oz]
 refine gc (Ht l hl ae) ?_;refine bZ ?_;unfold aC;rw[ait hE,hE];rfl
variable{P:ai5}{N:Nat}{R:Array Oper}{s:AS}{pos:String}{after:Array Edge}
theorem Bp{d:Nat}{x:ai2}{n:Nat}{z:ai3}{T E t:ai4}{ti te:TI}(hx:Ev s x (.v (.int .i64 n)))
    (hT:aq P T=some ti) (hk:ti.k=.slice E) (hE:aq P E=some te) (hz:te.zero=[z]) (co:z.oneCell'=true) (hs:ad9 te.size 1=true) (mT:aem 0 te.bytes=true)
    (hb:(n:Int)*te.bytes<=281474976710656) (hN:aem d N=true) :
    Step P N R s ⟨some d,.makeSlice T x x,t,pos,after,none⟩
      ⟨some (.ms d 1 0 n),[(d,some (.vec (afq n z)))],ai x,[]⟩ :=
  tX rfl rfl hN (by simp) fun s' am hfr C m a w hr => by
    have db:=m9 hr (hx.agree am (fun _ h=>h));have hs:=ahi hs;rw[adx]at mT;obtain⟨d2,h3,h4,-,-⟩:=cM hT w;obtain rfl:=gI (h4.trans hk);obtain⟨zv,h5,h6⟩:=vV hE w;obtain⟨ie,h7,h8,-⟩:=LZ hE w;have h6':zv.cells.toList=[z]:=h6.trans hz;have FI:zv.cells=#[z]:=by rw[<- Array.toArray_toList (xs:=zv.cells),h6']
    have rA:(n:Int)<=281474976710656:=by
      have:(n:Int)*1<=n*te.bytes:=Int.mul_le_mul_of_nonneg_left oz oz;omega
    have kR:IntKind.i64.wrap (n:Int)=n:=IntWalk.i64_in n oz;obtain⟨zero,fB⟩:∃zero:Array ai3,zero=(if n*te.size=0 then #[]else zv.cells):=⟨_,rfl⟩
    refine⟨.slice (some ⟨w.heap.size,0,none⟩) n n,(Array.range (n*te.size)).map (zero[· % zero.size]!),E,w.drawn,?_,?_,?_,?_⟩
    · have fZ:(Instr.makeSlice T (.int .i64 n) (.int .i64 n)).run P w =
          .ok (.slice (some ⟨w.heap.size,0,none⟩) n n) { w with heap:=w.heap.push (.cells ((Array.range (n*te.size)).map (zero[· % zero.size]!)) E) }:=by
        have hc:¬(((n:Int)<0\/281474976710656<(ie.bytes:Int)*n)\/(n:Int)<0):=by
          rw[h8,Int.mul_comm];omega
        simp only[Instr.makeSlice,ai8,h3,ai7,asInt,asIntOf,ai9,h7,kR];rw[ais (by simpa using hc)];simp only[ai8,run_askRoom,ai7,eM hE,aij]
        by_cases h0:n*te.size=0
        · rw[ait h0]at fB ⊢
          subst fB;simp only[ai8,ai9,ai7,newRow,run_newObj]
        · rw[ais h0]at fB ⊢
          subst fB;simp only[ai8,ai9,ai7,h5,newRow,run_newObj]
      simp only[execOp,db,ai8,fZ,ai7,ai9]
    · exact fun h=>h
    · intro g S m' w' hg hS hm hw
      refine .vec hw ?_ (fun v hv=>by rw[ae2 hv];exact co);apply List.ext_getElem?;intro j;rw[ag9,aia]
      by_cases hj:j<n
      · have fY : ¬ n * te.size = 0 := by rw [hs]; omega
        rw[ais fY,FI]at fB;subst fB;rw[ait hj];simp only[Array.getElem?_map,Array.getElem?_range,show j<n*te.size by rw[hs];omega,if_true,ahd,Option.some.injEq];simp[Nat.mod_one]
      · rw[ais hj,agw (by simp[hs];omega)]
    · intro g S m' hm hS
      have:=Rep.ms (g:=g) (S:=S) (m:=m') (k:=d) (sz:=1) (off:=0) (len:=n) (cap:=n) hm (ahr _) (by simpa[hs]using hS);simpa using this
theorem Au{x y:ai2}{k i:Nat}{vs:List ai3}{v:ai3}{T t:ai4}{ti:TI}
  (hx:Ev s x (.eptr k 1 i 0)) (hk:s.blk k=some (.vec vs)) (hi:i<vs.length) (hy:Ev s y (.v v)) (hv:v.oneCell'=true) (hT:aq P T=some ti) (aN:ad9 ti.size 1=true) :
  Step P N R s ⟨none,.store T x y,t,pos,after,none⟩ ⟨none,[(k,some (.vec (vs.set i v)))],ai x++ai y,[k]⟩ :=
 Er rfl rfl (by simp) hk fun s' am C m a w hr => by
  have aN:=ahi aN;obtain⟨b,hm,db⟩:=y9 hr (hx.agree am (fun _ h=>ahn.2 (.inl h)));have gk:=m9 hr (hy.agree am (fun _ h=>ahn.2 (.inr h)));have hb:=hr.heap.blk k _ ((am.2 k (by simp)).trans hk);rw[hm]at hb;cases hb with
  | @vec _ _ c t2 hw hc h1 =>
   have bp:c.size=vs.length:=by rw[<- hc];simp
   have Bf:v.cells=#[v]:=by cases v <;> simp_all [Value.cells,Value.oneCell']
   refine⟨b,c,(over c.toList i v.cells.toList).toArray,t2,hm,hw,?_,?_,?_⟩
   ·simp[over,Bf];omega
   ·have dG := E9 (P := P) (off := i) (v := v) hT hw (by rw[Bf,aN];rfl) oz (by rw[Bf];simpa using hv);simp[execOp,Instr.storeAt,db,Instr.sureAddr,gk,dG]
   ·intro g S w' hg hS hw';refine .vec hw' ?_ (fun u hu=>?_)
    ·rw[hc,Bf];unfold over;rw[List.set_eq_take_append_cons_drop,ait hi];simp
    ·rcases aex hu with h9 |h9
     ·exact h1 u h9
     ·rw[h9];exact hv
inductive Lent(H:Hp)(hid:List Nat):AV->AV->Prop
  |same {x:AV} (h:x.nm=[]):Lent H hid x x
  |ms {k off len:Nat} {vs:List ai3} (hk:lk H k=some (.vec vs)) (hh:k∉hid) (hl:off+len<=vs.length) (hm:vs.length<=az):Lent H hid (.ms k 1 off len) (.lst 1 (((vs.drop off).take len).map .v))
theorem Hs{g:Nat->Array ai3->Prop}{S:Nat->Nat->Prop}{m:Nat->Option Nat}{u y:ai3}(h:Rep g S m u (.v y)):u=y:=by cases h;rfl
theorem Am{m:Nat->Option Nat}{b:Nat}:¬aO [] m b:=by rintro⟨k,x,h,_⟩;cases h
def sw(ext:Nat->Prop)(H:Hp)(hid:List Nat)(m:Nat->Option Nat)(b:Nat):Prop:=ext b\/∃k z,k∈hid/\lk H k=some z/\m k=some b
theorem Z8{ext:Nat->Prop}{H:Hp}{hid:List Nat}{m m2:Nat->Option Nat}{w:ai6}{b:Nat}{cs:Array ai3}(h:Im ext H m w b cs):Im (sw ext H hid m) [] m2 w b cs :=
 ⟨fun h'=>h'.elim h.1 (fun⟨k,z,_,hz,hb⟩=>h.2.1 ⟨k,z,hz,hb⟩),Am,h.2.2⟩
theorem M8{ext:Nat->Prop}{H:Hp}{hid:List Nat}{m:Nat->Option Nat}{w:ai6}(hh:HeapRel ext H m w){k b:Nat}{z:Blk}(hk:lk H k=some z)(hb:m k=some b)(hn:k∉hid):¬sw ext H hid m b:=by
 rintro(h |⟨k',z',h1,h2,h3⟩)
 ·exact(hh.sep k z b hk hb).1 h
 ·have:=hh.inj k k' z z' b hk h2 hb h3;subst this;exact hn h1
theorem Lent.rep{ext:Nat->Prop}{H:Hp}{hid:List Nat}{m:Nat->Option Nat}{w:ai6}(hh:HeapRel ext H m w){x x':AV}(h:Lent H hid x x') :
  ∀{v:ai3},Rep (Im ext H m w) (Sz w) m v x->∀m2:Nat->Option Nat,Rep (Im (sw ext H hid m) [] m w) (Sz w) m2 v x':=by
 cases h with
 |same hn=>intro v hv m2;exact(nO hn hv).mono (fun _ _ h=>Z8 h) (fun _ _ h=>h) (fun _ _ _ h=>h)
 | @ms k off len vs hk hnh hl hm =>
  intro v hr m2;have hb:=hh.blk k _ hk;cases hr with
  |ms0 a=>simp only[List.take_zero];exact .lst0 _ _ _
  | @ms _ _ _ _ _ cap b fZ hc hS =>
   rw[fZ]at hb;cases hb with
   | @vec _ _ c t hw kT h1 =>
    have bp:c.size=vs.length:=by rw[<- kT];simp
    have ch:(((vs.drop off).take len).map AV.v).length=len:=by rw[ahk,ah5,afi];omega
    have he':∀(i:Nat)(e:AV),(((vs.drop off).take len).map AV.v)[i]?=some e->∃u,e=.v u/\c[off+i]?=some u/\u∈vs:=by
     intro i e he;rw[aho,ahl]at he;obtain⟨u,he,rfl⟩:=he;rw[aie]at he;split at he
     ·rw[aii]at he;exact⟨u,rfl,by rw[<- ag9,kT];exact he,ahg he⟩
     ·cases he
    have:=Rep.lst (g:=Im (sw ext H hid m) [] m w) (S:=Sz w) (m:=m2) (b:=b) (off:=off) (cap:=cap) (sz:=1) (es:=((vs.drop off).take len).map AV.v) (cs:=c) (fun i j=>c.getD (off+i) undef)
     ⟨M8 hh hk fZ hnh,Am,t,(0,0),hw⟩ oz oz ?_ ?_ ?_ ?_
    ·rw[ch]at this;simpa using this
    ·intro i e he;obtain⟨u,rfl,_⟩:=he' i e he;rfl
    ·intro i j e x he hx;obtain⟨u,rfl,_,hm⟩:=he' i e he;cases j with
     |zero=>cases hx;exact h1 u hm
     |succ j=>cases hx
    ·intro i j e x he hx;obtain⟨u,rfl,hu,_⟩:=he' i e he;cases j with
     |zero=>rw[Nat.mul_one,aep,ahp,hu];rfl
     |succ j=>cases hx
    ·intro i j e x he hx;obtain⟨u,rfl,hu,_⟩:=he' i e he;cases j with
     |zero=>cases hx;rw[ahp,hu];exact .v _
     |succ j=>cases hx
def Oh:AV->Bool
  | .v (.int _ _)=>true
  |_=>false
def Hu:AV->Bool
  | .v (.int _ _)=>false
  | .v _=>true
  | .lst _ _=>true
  | .ms _ _ _ _=>true
  |_=>false
mutual
def AV.li:AV->Bool
  | .v _=>true
  | .agg cs=>AV.lis cs
  | .tup cs=>AV.lis cs
  | .lst sz es=>ad9 sz 1&&es.all Oh
  |_=>false
def AV.lis:List AV->Bool
  |[]=>true
  |x::l=>x.li&&AV.lis l
end
theorem AV.lis_mem:∀{l:List AV}{c:AV},AV.lis l=true->c∈l->c.li=true
 |x::l,c,h,hc=>by
  simp only[AV.lis,ahj]at h;rcases ah3.1 hc with rfl |hc
  ·exact h.1
  ·exact AV.lis_mem h.2 hc
theorem Rv{g:Nat->Array ai3->Prop}{S:Nat->Nat->Prop}{m:Nat->Option Nat}{u:ai3}{x:AV}(hx:Hu x=true)(h:Rep g S m u x)(kk:IntKind)(z:Int):u≠.int kk z:=by
 rintro rfl;cases h <;> cases hx
theorem Qq{g g':Nat->Array ai3->Prop}{S S':Nat->Nat->Prop}{m m':Nat->Option Nat}{v:ai3}{x:AV}(hx:x.li=true)
  (hg:∀b cs (o:Nat)(kk:IntKind)(z:Int),cs[o]?=some (.int kk z)->g b cs->g' b cs) (h:Rep g S m v x):Rep g' S' m' v x:=by
 induction h with
 |v=>exact .v _
 |agg hn h1 hr ih=>exact .agg hn h1 (fun j u c hu hc=>ih j u c hu hc (AV.lis_mem hx (ahg hc)))
 |tup hn hr ih=>exact .tup hn (fun j u c hu hc=>ih j u c hu hc (AV.lis_mem hx (ahg hc)))
 |lst0 a cap sz=>exact .lst0 _ _ _
 | @lst _ b off cap sz es cs u hb hc hl hs h1 hu hr _ =>
  simp only[AV.li,ahj]at hx;have aN:=ahi hx.1;subst aN
  match es,hx,hc,hl,hs,h1,hu,hr with
  |[],_,_,_,_,_,_,_=>exact .lst0 _ _ _
  |e::es,hx,hc,hl,hs,h1,hu,hr =>
   have fd:∀(i j:Nat)(e' c:AV),(e::es)[i]?=some e'->e'.cells[j]?=some c->∃kk z,c=.v (.int kk z):=by
    intro i j e' c he hc';have h9:=ahs.1 hx.2 e' (ahg he);cases e' with
    |v y=>cases y with
     |int kk z =>
      cases j with
      |zero=>cases hc';exact⟨_,_,rfl⟩
      |succ j=>cases hc'
     |_=>cases h9
    |_=>cases h9
   have he0:∃kk z,e=.v (.int kk z):=by
    have h9:=ahs.1 hx.2 e (by simp);cases e with
    |v y=>cases y with
     |int kk z=>exact⟨_,_,rfl⟩
     |_=>cases h9
    |_=>cases h9
   obtain⟨kk,z,rfl⟩:=he0;have h8:=hu 0 0 _ _ rfl rfl;have h7:=hr 0 0 _ _ rfl rfl;have h6:u 0 0=.int kk z:=Hs h7;rw[h6]at h8;refine .lst u (hg b cs _ kk z h8 hb) hc hl hs h1 hu (fun i j e' c he hc'=>?_);obtain⟨k2,z2,rfl⟩:=fd i j e' c he hc';rw[Hs (hr i j _ _ he hc')];exact .v _
 |_=>cases hx
theorem Con.lend{f:FuncId}{k:Nat}{cs:List AV}{cs':ai3->List AV}{H:Hp}{r:AV}(hid:List Nat)(j0:Nat)(hk:lk H k=some (.box cs))(hkh:k∉hid)
  (hc:∀v:ai3,v.oneCell'=true->(cs' v).length=cs.length/\(∀(j:Nat)(x:AV),(cs' v)[j]?=some x->x.one=true) /\
   ∀(j:Nat)(x x':AV),cs[j]?=some x->(cs' v)[j]?=some x'->(j=j0/\x'=.v v)\/Lent H hid x x')
  (hj:j0<cs.length)
  (hH:∀k z,lk H k=some z->k∈hid\/(∃cs,z=.box cs/\cs.all Hu=true)\/∃vs,z=.vec vs/\∀v∈vs,∀kk z,v≠.int kk z) (hr:r.li=true) (h:∀v:ai3,jv P f [.iptr (cs' v)] r):Con P f [.ptr k 0] H r H:=by
 refine⟨(h undef).ok,?_⟩;intro ext m w vs hext bW c9 dj;have aN:0<vs.size:=by rw[c9];exact Nat.one_pos
 have ji:=dj 0 vs[0] _ (ag7 aN) rfl;have hb:=bW.blk k _ hk;generalize lU:vs[0]=v0 at ji;cases ji with
 | @ptr _ _ _ b fZ =>
  rw[fZ]at hb;cases hb with
  | @box _ _ c t hw hn h1 aR =>
   have pV:j0<c.size:=by omega
   have kZ:=ahm (l:=cs) (i:=j0) oz;have uo:(c[j0]).oneCell'=true:=(aR j0 _ _ (ag7 pV) kZ).one (h1 j0 _ kZ);obtain⟨g1,g2,g3⟩:=hc c[j0] uo
   have FJ:∀b,sw ext H hid m b->b<w.heap.size:=by
    rintro b (h9 |⟨k',z',_,h2,h3⟩)
    ·exact hext b h9
    ·exact(bW.sep k' z' b h2 h3).2
   have ac0 := (h c[j0]).ret (sw ext H hid m) m w vs FJ ⟨fun k z hz => by (cases hz), fun k k' x x' b hx => by (cases hx), fun k x b hx => by (cases hx)⟩ (by rw [c9]; rfl) (by
    intro j v x hv hx
    match j,hx with
    |0,hx =>
     cases hx;rw[ag7 aN,lU]at hv;cases hv;refine .iptr (cs:=c) (fun j=>c.getD j undef) ⟨M8 bW hk fZ hkh,Am,t,(0,0),hw⟩ g2 ?_ ?_
     ·intro j x hx;have hlt:j < c.size:=by rw [hn,<- g1]; exact (afh.1 hx).1
      rw[aeg,ahp,ag7 hlt];rfl
     ·intro j x hx;have hlt:j < c.size:=by rw [hn,<- g1]; exact (afh.1 hx).1
      obtain⟨y,hy⟩:=js g1 hx;have kT:c[j]?=some (c.getD j undef):=by rw[ahp,ag7 hlt];rfl
      rcases g3 j y x hy hx with⟨rfl,rfl⟩ |hl
      ·have : c.getD j undef = c[j] := by rw [ag7 hlt] at kT; exact (Option.some.inj kT).symm
       rw[this];exact .v _
      ·exact hl.rep bW (aR j _ y kT hy) cQ)
   refine Calls.mono ac0 ?_;rintro e w' ⟨v,m',rfl,hf,hh,bj,rD,n7⟩;have Bg:∀b,b<w.heap.size->w'.heap[b]?=w.heap[b]? := fun b hb=>hf.keep b hb Am
   have xo:Frame (aO H m) w w':=⟨hf.os,hf.tape,hf.output,hf.size,hf.sz,fun b hb _=>Bg b hb⟩
   have cE:=eU (ext:=ext) xo (hp':=H) (m':=m) (fun k x b hk hb=>.inl ⟨k,x,hk,hb⟩);refine⟨v,m,rfl,xo,⟨?_,bW.inj,?_⟩,fun k x b hk hb=>.inl ⟨k,x,hk,hb⟩,fun _ _ _ _ _=>rfl,?_⟩
   ·intro k z hz;exact BlkRep.mono (w:=w) cE hf.sz (fun _ _ _ h=>h) rfl (fun b hb=>Bg b (bW.sep k z b hz hb).2) (bW.blk k z hz)
   ·intro k z b hz hb;have:=bW.sep k z b hz hb;exact⟨this.1,ah2 this.2 hf.size⟩
   ·refine Qq hr ?_ n7;rintro b2 cs2 o kk z ho ⟨g1,g2,t2,fl,g3⟩;refine⟨fun h9=>g1 (.inl h9),?_,t2,fl,g3⟩;rintro⟨k2,y,cC,a8⟩;have hlt:=fun b hb=>(bW.sep k2 _ b cC hb).2
    have h3:=bW.blk k2 _ cC;rw[a8]at h3;rcases hH k2 y cC with h9 |⟨cl,rfl,fJ⟩ |⟨vs2,rfl,lV⟩
    ·exact g1 (.inr ⟨k2,y,h9,cC,a8⟩)
    ·cases h3 with
     | @box _ _ c2 t' lX kW h12 FU =>
      have Ge:c2=cs2:=by
       rw[Bg b2 (hlt b2 a8),lX]at g3
       injection g3 with g3
       injection g3
      subst Ge;have ho':o<c2.size:=(Array.getElem?_eq_some_iff.1 ho).1;have hx:=ahm (l:=cl) (i:=o) oz;exact Rv (ahs.1 fJ _ (ahg hx)) (FU o _ _ ho hx) kk z rfl
    ·cases h3 with
     | @vec _ _ c2 t' lX pK h12 =>
      have Ge:c2=cs2:=by
       rw[Bg b2 (hlt b2 a8),lX]at g3
       injection g3 with g3
       injection g3
      subst Ge;have:Value.int kk z∈vs2:=by rw[<- pK];exact Array.mem_toList_iff.2 (Array.mem_of_getElem? ho)
      exact lV _ this kk z rfl
end Go.Lw
namespace Go.Lw
open Go.Proofs
def bv(xs:List Bool):List ai3:=xs.map .bool
theorem it(xs:List Bool):(bv xs).length=xs.length:=ahk _
theorem zW(xs:List Bool)(n:Nat):(bv xs).set n (.bool true)=bv (xs.set n true):=by unfold bv;rw[ain]
theorem Cu(xs:List Bool):∀v∈bv xs,∀kk z,v≠.int kk z:=by
 intro v hv kk z;obtain⟨b,_,rfl⟩:=aft.1 hv;exact fun h=>by cases h
theorem zK(xs:List Bool):(bv xs).map AV.v=xs.map bl:=by unfold bv;rw[map_map];rfl
theorem Ew(n:Nat):afq n (Value.bool false)=bv (afq n false):=by unfold bv;rw[aik]
theorem Vq(xs:List Int):(xs.map i64).all Oh=true:=by
 rw[ahs];intro x hx;obtain⟨b,_,rfl⟩:=aft.1 hx;rfl
theorem UV(g:Gr)(b:Bool):(AV.tup [g.av,bl b]).li=true:=by
 simp only[AV.li,AV.lis,Gr.av,Vq];rfl
def rg(l:Li)(n:Nat):Blk:=.box (l.av.cells++[.ms 23 1 0 l.bo.length,.ms 27 1 0 l.bo.length,.ms 31 1 0 l.jo.length,.ms 900 4 0 n])
def pi(l:Li)(kw used:List Bool)(out:List Gr):Hp :=
  [pP 33 (rg l out.length),pP 23 (.vec (bv kw)),pP 27 (.vec (bv (bD l))),pP 31 (.vec (bv used)),pP 900 (.row 4 (out.map Gr.av))]
theorem Fi{xs:List Bool}{n:Nat}(h:xs.length=n):AV.lst 1 ((((bv xs).drop 0).take n).map .v)=.lst 1 (xs.map bl):=by
 rw[aim,ah1 (by rw[it];omega),zK]
theorem Jy(l:Li)(hl:l.ok)(ae:ax l=0)(kw used:List Bool)(hk:kw.length=l.bo.length)(hu:used.length=l.jo.length)(hm:l.bo.length<=az/\l.jo.length<=az)(out:List Gr) :
  Con prog 111 [.ptr 33 0] (pi l kw used out) (.tup [((bY l kw).getD default).av,bl (bY l kw).isSome]) (pi l kw used out):=by
 refine Con.lend (cs:=l.av.cells++[.ms 23 1 0 l.bo.length,.ms 27 1 0 l.bo.length,.ms 31 1 0 l.jo.length,.ms 900 4 0 out.length])
  (cs':=fun v=>dk l kw (bD l) [.lst 1 (used.map bl),.v v]) [900] 7 rfl (by decide) ?_ (by simp[Li.av,AV.cells]) ?_ (UV _ _) (fun v=>Ym l hl ae kw hk _)
 ·intro v hv;refine⟨rfl,?_,?_⟩
  ·intro j x hx
   match j,hx with
   |0,hx=>cases hx;rfl
   |1,hx=>cases hx;rfl
   |2,hx=>cases hx;rfl
   |3,hx=>cases hx;rfl
   |4,hx=>cases hx;rfl
   |5,hx=>cases hx;rfl
   |6,hx=>cases hx;rfl
   |7,hx=>cases hx;exact hv
   |j+8,hx=>cases hx
  ·intro j x x' hx hx'
   match j,hx,hx' with
   |0,hx,hx'=>cases hx;cases hx';exact .inr (.same rfl)
   |1,hx,hx'=>cases hx;cases hx';exact .inr (.same rfl)
   |2,hx,hx'=>cases hx;cases hx';exact .inr (.same rfl)
   |3,hx,hx'=>cases hx;cases hx';exact .inr (.same rfl)
   |4,hx,hx' =>
    cases hx;cases hx'
    have h:=Lent.ms (H:=pi l kw used out) (hid:=[900]) (k:=23) (off:=0) (len:=l.bo.length) (vs:=bv kw) rfl (by decide) (by rw[it];omega) (by rw[it];omega);rw[Fi hk]at h;exact .inr h
   |5,hx,hx' =>
    cases hx;cases hx'
    have h:=Lent.ms (H:=pi l kw used out) (hid:=[900]) (k:=27) (off:=0) (len:=l.bo.length) (vs:=bv (bD l)) rfl (by decide) (by rw[it,vI];omega) (by rw[it,vI];omega);rw[Fi (vI l)]at h;exact .inr h
   |6,hx,hx' =>
    cases hx;cases hx'
    have h:=Lent.ms (H:=pi l kw used out) (hid:=[900]) (k:=31) (off:=0) (len:=l.jo.length) (vs:=bv used) rfl (by decide) (by rw[it];omega) (by rw[it];omega);rw[Fi hu]at h;exact .inr h
   |7,hx,hx'=>cases hx;cases hx';exact .inl ⟨rfl,rfl⟩
   |j+8,hx,hx'=>cases hx
 ·intro k z hz;simp only[pi,aA]at hz;split at hz
  ·cases hz;exact .inr (.inl ⟨_,rfl,rfl⟩)
  split at hz
  ·cases hz;exact .inr (.inr ⟨_,rfl,Cu _⟩)
  split at hz
  ·cases hz;exact .inr (.inr ⟨_,rfl,Cu _⟩)
  split at hz
  ·cases hz;exact .inr (.inr ⟨_,rfl,Cu _⟩)
  split at hz
  ·subst_vars;exact .inl (by decide)
  ·cases hz
def uh(l:Li):AV:=if ax l=0 then .iptr (dk l (bT l) (bD l) [.lst 1 ((fk l).map bl),.lst 4 ((b8 l).map Gr.av)])else .v (.pointer none)
def ka(l:Li)(out:List Gr):List Bool:=out.foldl (fun k g=>a9 k g.jo) (afq l.jo.length false)
theorem E1(l:Li)(out:List Gr):(ka l out).length=l.jo.length:=by unfold ka;rw[tl,ah7]
theorem RD(l:Li)(out:List Gr)(g:Gr):ka l (out++[g])=a9 (ka l out) g.jo:=by unfold ka;rw[List.foldl_append];rfl
theorem Cn{k:List Bool}{bs:List Int}{i:Nat}{b:Int}(h:bs[i]?=some b):a9 k (bs.take (i+1))=(a9 k (bs.take i)).set b.toNat true:=by
 unfold a9;rw[gB h,List.foldl_append];rfl
theorem Sj{l:Li}(ae:ax l=0){kw:List Bool}{out:List Gr}{g:Gr}(hk:kw.length=l.bo.length)(h:cr l (dl kw) kw out=(bT l,b8 l))(hg:bY l kw=some g) :
  cr l (dl (a9 kw g.bo)) (a9 kw g.bo) (out++[g])=(bT l,b8 l):=by
 have hlt:=uU ae hk hg;obtain⟨n,hn⟩:∃n,dl kw=n+1:=⟨dl kw-1,by omega⟩
 rw[hn]at h;unfold cr at h;rw[hg]at h;rw[<- h];exact CY ae _ _ _ _ (by rw[lL];exact hk) (ahr _) oz
theorem Tt{l:Li}{kw:List Bool}{out:List Gr}(h:cr l (dl kw) kw out=(bT l,b8 l))(hg:bY l kw=none):kw=bT l/\out=b8 l:=by
 cases hn:dl kw with
 |zero=>rw[hn]at h;exact⟨(Prod.mk.inj h).1,(Prod.mk.inj h).2⟩
 |succ n=>rw[hn]at h;unfold cr at h;rw[hg]at h;exact⟨(Prod.mk.inj h).1,(Prod.mk.inj h).2⟩
theorem ab9{n:Nat}:dl (cz n 0)<=n:=by
 unfold dl;exact ah8 List.countP_le_length (Nat.le_of_eq (jd _ _))
theorem Tl{l:Li}(ae:ax l=0):cr l (dl (cz l.bo.length 0)) (cz l.bo.length 0) []=(bT l,b8 l):=by
 rw[<- SG];exact CY ae _ _ _ _ (jd _ _) (ahr _) ab9
theorem Zv{l:Li}(ae:ax l=0){kw:List Bool}{out:List Gr}(hk:kw.length=l.bo.length)(h:cr l (dl kw) kw out=(bT l,b8 l)):out.length<=8:=by
 obtain⟨gs,e⟩:=BR (l:=l) (dl kw) kw out;rw[e]at h;have h1:=(zB ae).2;have h2:out++gs=b8 l:=(Prod.mk.inj h).2;rw[<- h2,aid]at h1;omega
theorem PW(l:Li)(kw used:List Bool)(out:List Gr)(hk:kw.length=l.bo.length)(hu:used.length=l.jo.length)(hm:l.bo.length<=az/\l.jo.length<=az) :
  Wk ⟨[pP 5 (.ptr 33 0)],pi l kw used out⟩ ⟨[pP 5 (.iptr (dk l kw (bD l) [.lst 1 (used.map bl),.lst 4 (out.map Gr.av)]))],[]⟩:=by
 have hd:=vI l;have q1:.ms 23 1 0 l.bo.length=AV.ms 23 1 0 ((bv kw).map AV.v).length:=by rw[ahk,it,hk]
 refine(Wk.of (sl:=[pP 5 (.ptr 33 0)]) (hp:=[pP 33 (rg l out.length),pP 23 (.row 1 ((bv kw).map .v)),pP 27 (.row 1 ((bv (bD l)).map .v)),pP 31 (.row 1 ((bv used).map .v)),pP 900 (.row 4 (out.map Gr.av))])
  (.k .nil) (.k (.cons rfl (.vecRow (by rw[it];omega)) (.cons rfl (.vecRow (by rw[it];omega)) (.cons rfl (.vecRow (by rw[it];omega)) (.k .nil)))))).trans ?_
 refine(Wk.freeze (k:=23) rfl).trans ?_
 refine(Wk.of (sl:=[pP 5 (.ptr 33 0)]) (hp:=[pP 33 (.box (l.av.cells++[.lst 1 (kw.map bl),.ms 27 1 0 l.bo.length,.ms 31 1 0 l.jo.length,.ms 900 4 0 out.length])),pP 27 (.row 1 ((bv (bD l)).map .v)),pP 31 (.row 1 ((bv used).map .v)),pP 900 (.row 4 (out.map Gr.av))])
  (.k .nil) (.cons rfl (BlkSub.bL (.cons (.refl _) (.cons (.refl _) (.cons (.refl _) (.cons (.refl _) (.cons (.of ((cf (by rw[ahk,it,hk])).trans (by rw[zK]))) (.cons (.refl _) (.cons (.refl _) (.cons (.refl _) .nil)))))))) rfl) (.k (.k (.k .nil))))).trans ?_
 refine(Wk.freeze (k:=27) rfl).trans ?_
 refine(Wk.of (sl:=[pP 5 (.ptr 33 0)]) (hp:=[pP 33 (.box (l.av.cells++[.lst 1 (kw.map bl),.lst 1 ((bD l).map bl),.ms 31 1 0 l.jo.length,.ms 900 4 0 out.length])),pP 31 (.row 1 ((bv used).map .v)),pP 900 (.row 4 (out.map Gr.av))])
  (.k .nil) (.cons rfl (BlkSub.bL (.cons (.refl _) (.cons (.refl _) (.cons (.refl _) (.cons (.refl _) (.cons (.refl _) (.cons (.of ((cf (by rw[ahk,it,hd])).trans (by rw[zK]))) (.cons (.refl _) (.cons (.refl _) .nil)))))))) rfl) (.k (.k .nil)))).trans ?_
 refine(Wk.freeze (k:=31) rfl).trans ?_
 refine(Wk.of (sl:=[pP 5 (.ptr 33 0)]) (hp:=[pP 33 (.box (l.av.cells++[.lst 1 (kw.map bl),.lst 1 ((bD l).map bl),.lst 1 (used.map bl),.ms 900 4 0 out.length])),pP 900 (.row 4 (out.map Gr.av))])
  (.k .nil) (.cons rfl (BlkSub.bL (.cons (.refl _) (.cons (.refl _) (.cons (.refl _) (.cons (.refl _) (.cons (.refl _) (.cons (.refl _) (.cons (.of ((cf (by rw[ahk,it,hu])).trans (by rw[zK]))) (.cons (.refl _) .nil)))))))) rfl) (.k .nil))).trans ?_
 refine(Wk.freeze (k:=900) rfl).trans ?_
 refine(Wk.of (sl:=[pP 5 (.ptr 33 0)]) (hp:=[pP 33 (.box (dk l kw (bD l) [.lst 1 (used.map bl),.lst 4 (out.map Gr.av)]))])
  (.k .nil) (.cons rfl (BlkSub.bL (.cons (.refl _) (.cons (.refl _) (.cons (.refl _) (.cons (.refl _) (.cons (.refl _) (.cons (.refl _) (.cons (.refl _) (.cons (.of (cf (by rw[ahk]))) .nil)))))))) rfl) .nil)).trans ?_
 refine(Wk.freezeB (k:=33) rfl rfl).trans ?_;exact Wk.of (.k .nil) .nil
theorem PO(l:Li)(hl:l.ok):FP 42 [l.av] (.tup [uh l,dh (ax l)]):=by
 refine ak func42 ?_;refine gc (Jh l hl) ?_;refine gC (fun y=>?_) (fun y=>?_)
 ·have h1:=p9 y;refine bZ ?_;unfold uh;rw[ais h1]
 have ae:=qI y;have h8:=(fp ae).2.2.2.1;have h0:=(fp ae).2.2.2.2;have F9:l.jo.length<=16:=by have:=(fp ae).2.1;unfold et at this;split at this;cases this;omega
 have ux:=hl.ld;have hm:l.bo.length<=az/\l.jo.length<=az:=by unfold az;omega
 refine gl ?_;refine gs (Bp (.tmp rfl) T92 rfl T4 rfl rfl rfl rfl (by dsimp only;omega) rfl) ?_;refine gl ?_;refine gs (Bp (.tmp rfl) T92 rfl T4 rfl rfl rfl rfl (by dsimp only;omega) rfl) ?_;refine gl ?_;refine gs (Bp (.tmp rfl) T92 rfl T4 rfl rfl rfl rfl (by dsimp only;omega) rfl) ?_;refine gD ?_;refine gs (br (n:=0) (.tmp rfl) (.const _) T92 rfl T4 rfl rfl oz rfl) ?_;refine gs (Au (.tmp rfl) rfl (by rw[ah7];omega) (.const _) rfl T4 rfl) ?_ (6,0);refine gW (Wk.of (sl:=[pP 1 (.ptr 1 0),pP 5 (.ptr 33 0)]) (hp:=[pP 1 (.box l.av.cells),pP 33 (.box (l.av.cells++[.ms 23 1 0 l.bo.length,.ms 27 1 0 l.bo.length,.ms 31 1 0 l.jo.length,nS])),pP 23 (.vec (bv (cz l.bo.length 0))),pP 27 (.vec (bv (afq l.bo.length false))),pP 31 (.vec (bv (afq l.jo.length false)))]) aY (.k (.k (.cons rfl (.of (by rw[Ew,zW];rfl)) (.cons rfl (.of (by rw[Ew])) (.cons rfl (.of (by rw[Ew])) .nil)))))) ?_
 refine gl ?_;refine aL [1,5,40,41] [1,23,31] (fun(i:Nat)=>[pP 42 (i64 i)]) (fun i=>[pP 33 (.box (l.av.cells++[.ms 23 1 0 l.bo.length,.ms 27 1 0 l.bo.length,.ms 31 1 0 l.jo.length,nS])),pP 27 (.vec (bv (a9 (afq l.bo.length false) ((l.drivers.map Dr.body).take i))))]) (fun i=>i<=l.drivers.length) (fun i=>l.drivers.length-i) 0 (ahv _) ?_;rintro i hi K1 J1;refine gC (fun y=>?_) (fun y=>?_) (st2:=(11,0))
 ·have af:=aK y;obtain⟨d,hd⟩:=aB af;have hb:=dJ (qV ae hd);have hmt:=Cn (k:=afq l.bo.length false) (bs:=l.drivers.map Dr.body) (i:=i) (b:=d.body) (by rw[aho,hd];rfl);refine gi (ay hd) ?_;refine gs (br (n:=d.body.toNat) (.tmp rfl) (.tmp rfl) T92 rfl T4 rfl oz oz rfl) ?_;refine gs (Au (.tmp rfl) rfl (by rw[it,lL,ah7];omega) (.const _) rfl T4 rfl) ?_;refine gD ?_;refine ga aF ?_;exact aE J1 (i+1) af (hw:=Wk.of aY (.k (.cons rfl (.of (by rw[zW,hmt])) (.k (.k (.k .nil))))))
 have af:=aW hi y;have Bh:a9 (afq l.bo.length false) ((l.drivers.map Dr.body).take i)=bD l:=by rw[af];unfold bD;rw[ah1 (by rw[ahk];omega)]
 refine gW ((Wk.virt 900 4 rfl).trans<|Wk.of (sl:=[pP 1 (.ptr 1 0),pP 5 (.ptr 33 0)]) (hp:=[pP 33 (rg l 0),pP 23 (.vec (bv (cz l.bo.length 0))),pP 27 (.vec (bv (bD l))),pP 31 (.vec (bv (afq l.jo.length false))),pP 900 (.row 4 [])]) aY (.cons rfl (BlkSub.bL (.cons (.refl _) (.cons (.refl _) (.cons (.refl _) (.cons (.refl _) (.cons (.refl _) (.cons (.refl _) (.cons (.refl _) (.cons (Sub.nM _ _ _) .nil)))))))) rfl) (.k (.cons rfl (.of (by rw[Bh])) (.k (.k .nil)))))) ?_
 refine gt (bq (Jy l hl ae (cz l.bo.length 0) (afq l.jo.length false) (jd _ _) ah7 hm []) (iN rfl) (fun k z h=>h) rfl rfl) ?_;refine fH [5,8] [] (fun(kw:List Bool)(out:List Gr)=>[pP 9 (bl (bY l kw).isSome)]) (fun kw out=>[pP 8 (.box ((bY l kw).getD default).av.cells),pP 33 (rg l out.length),pP 23 (.vec (bv kw)),pP 27 (.vec (bv (bD l))),pP 31 (.vec (bv (ka l out))),pP 900 (.row 4 (out.map Gr.av))]) (fun kw out=>kw.length=l.bo.length/\cr l (dl kw) kw out=(bT l,b8 l)) (fun kw _=>dl kw) (cz l.bo.length 0) ([]) ⟨jd _ _,Tl ae⟩ ?_
 rintro kw out ⟨hk,hf⟩ K2 J2;refine gC (fun y=>?_) (fun y=>?_) (st1:=(77777,0)) (st2:=(27,0))
 ·obtain ⟨g, hg⟩:=Cw y;have jp:=CA ae hg;have adb:=Zv ae hk hf;refine gW (Wk.of (sl:=[pP 5 (.ptr 33 0),pP 8 (.ptr 8 0)]) (hp:=[pP 8 (.box g.av.cells),pP 33 (rg l out.length),pP 23 (.vec (bv kw)),pP 27 (.vec (bv (bD l))),pP 31 (.vec (bv (ka l out))),pP 900 (.row 4 (out.map Gr.av))]) aY (.cons rfl (.of (by rw [hg]; rfl)) (.k (.k (.k (.k (.k .nil))))))) ?_;refine gl ?_;refine aL [5,8,66,67] [8,33,27,31,900] (fun (j:Nat)=>[pP 68 (i64 j)]) (fun j=>[pP 23 (.vec (bv (a9 kw (g.bo.take j))))]) (fun j=>j <= g.bo.length) (fun j=>g.bo.length - j) 0 (ahv _) ?_;rintro j hj K3 J3;refine gC (fun y=>?_) (fun y=>?_)
  ·have af:=aK y;obtain⟨b,hb⟩:=aB af;have mT:=jp.b b (ahg hb);have fK:=jp.lb;refine gi (ay hb) ?_;refine gs (br (n:=b.toNat) (.tmp rfl) (.tmp rfl) T92 rfl T4 rfl oz oz rfl) ?_;refine gs (Au (.tmp rfl) rfl (by rw[it,lL];omega) (.const _) rfl T4 rfl) ?_;refine ga aF ?_;exact aE J3 (j+1) af (hw:=Wk.of aY (.cons rfl (.of (by rw[zW,Cn hb])) (.k (.k (.k (.k (.k .nil)))))))
  have af:=aW hj y;subst af;refine gl ?_;refine aL [5,8,80,81] [8,33,27,900] (fun(q:Nat)=>[pP 82 (i64 q)]) (fun q=>[pP 23 (.vec (bv (a9 kw g.bo))),pP 31 (.vec (bv (a9 (ka l out) (g.jo.take q))))]) (fun q=>q<=g.jo.length) (fun q=>g.jo.length-q) 0 (ahv _) ?_ (h2:=(.cons rfl (.of (by rw[ahw])) (.k .nil)));rintro q hq K4 J4;refine gC (fun y=>?_) (fun y=>?_)
  ·have af:=aK y;obtain⟨b,hb⟩:=aB af;have mT:=jp.j b (ahg hb);have oo:=jp.lj;refine gi (ay hb) ?_;refine gs (br (n:=b.toNat) (.tmp rfl) (.tmp rfl) T92 rfl T4 rfl oz oz rfl) ?_;refine gs (Au (.tmp rfl) rfl (by rw[it,lL,E1];omega) (.const _) rfl T4 rfl) ?_;refine ga aF ?_;exact aE J4 (q+1) af (hw:=Wk.of aY (.k (.cons rfl (.of (by rw[zW,Cn hb])) (.k (.k (.k (.k .nil)))))))
  have af:=aW hq y;subst af;refine gs (eD (.tmp rfl) rfl (by rw[ahk]) (.tmp rfl) T53 rfl T104 rfl rfl (by simp only[ahx,ah9];omega) rfl rfl) ?_;refine gD ?_ (25,0);refine gW (Wk.of (sl:=[pP 5 (.ptr 33 0),pP 8 (.ptr 8 0)]) (hp:=[pP 8 (.box g.av.cells),pP 33 (.box (l.av.cells++[.ms 23 1 0 l.bo.length,.ms 27 1 0 l.bo.length,.ms 31 1 0 l.jo.length,.ms 100 4 0 (out++[g]).length])),pP 100 (.row 4 ((out++[g]).map Gr.av)),pP 23 (.vec (bv (a9 kw g.bo))),pP 27 (.vec (bv (bD l))),pP 31 (.vec (bv (ka l (out++[g]))))]) aY (.k (.cons rfl (.of (by rw[aid];rfl)) (.cons rfl (.of (by rw[aih];rfl)) (.k (.k (.cons rfl (.of (by rw[RD,ahw])) .nil))))))) ?_ (25,0)
  refine gW (Wk.rk (k:=100) (d:=900) rfl rfl) ?_ (26,0);refine gW (Wk.o (sl:=[pP 5 (.ptr 33 0),pP 103 (g.av)]) (hp:=[pP 33 (rg l (out++[g]).length),pP 23 (.vec (bv (a9 kw g.bo))),pP 27 (.vec (bv (bD l))),pP 31 (.vec (bv (ka l (out++[g])))),pP 900 (.row 4 ((out++[g]).map Gr.av))])) ?_;refine gt (bq (Jy l hl ae (a9 kw g.bo) (ka l (out++[g])) (by rw[lL];exact hk) (E1 _ _) hm (out++[g])) (iN rfl) (by intro k z h;simp only[pi,aA]at h;split at h;(subst_vars;exact h);split at h;(subst_vars;exact h);split at h;(subst_vars;exact h);split at h;(subst_vars;exact h);split at h;(subst_vars;exact h);cases h) rfl rfl) ?_;exact fE J2 (a9 kw g.bo) (out++[g]) ⟨by rw[lL];exact hk,Sj ae hk hf hg⟩ (uU ae hk hg)
 have hg:=Dn y;obtain⟨e1,e2⟩:=Tt hf hg;subst e1 e2;refine gW (Wk.o (sl:=[pP 5 (.ptr 33 0)]) (hp:=[pP 33 (rg l (b8 l).length),pP 23 (.vec (bv (bT l))),pP 27 (.vec (bv (bD l))),pP 31 (.vec (bv (ka l (b8 l)))),pP 900 (.row 4 ((b8 l).map Gr.av))])) ?_ (27,0);refine gW (PW l (bT l) (ka l (b8 l)) (b8 l) hk (E1 _ _) hm) ?_;refine bZ ?_;unfold uh;rw[ait ae,ae];rfl
theorem Kv{α:Type}[BEq α][LawfulBEq α]{xs:List α}{b:α}{ok:Nat->Bool}(h:∀i x,xs[i]?=some x->ok i=!(b==x)):decide (0<=sD (dP xs.length ok))=xs.contains b:=by
 cases hf:dP xs.length ok with
 |some i =>
  obtain⟨h1,h2⟩:=fm hf;obtain⟨x,hx⟩:=aB h1;rw[h i x hx]at h2;have:b=x:=by simpa using h2
  subst this;rw[afv.2 (ahg hx)];exact aix (by show(0:Int)<=(i:Int);omega)
 |none =>
  rw[aiy (by show ¬(0:Int) <= -1;decide)]
  symm
  rw[<- Bool.not_eq_true,afv];intro hm;obtain⟨i,hi⟩:=List.mem_iff_getElem?.1 hm;have hlt:=(afh.1 hi).1;unfold dP at hf;rw[List.find?_eq_none]at hf;have:=hf i (afu.2 hlt);rw[h i b hi]at this;simp at this
theorem UT(xs:List Bool)(b:Bool)(hl:xs.length<=281474976710656):FP 112 [.lst 1 (xs.map bl),bl b] (i64 (sD (dP xs.length (fun i=>!(b==xs.getD i false))))):=by
 refine ak func112 ?_;refine gl ?_;refine aL [0,1,7] [] (fun(i:Nat)=>[pP 8 (i64 i)]) (fun _=>[]) (fun i=>i<=xs.length/\∀j,j<i->(!(b==xs.getD j false))=true) (fun i=>xs.length-i) 0 ⟨ahv _,fun j h=>by omega⟩ ?_;rintro i ⟨hi,hj⟩ K1 J1;refine gC (fun z=>?_) (fun z=>?_)
 ·have af:=aK z;obtain⟨x,hx⟩:=aB af;have hg:xs.getD i false=x:=aQ hx;refine gi (ay hx) ?_;refine gC (fun z=>?_) (fun z=>?_)
  ·have h2:(b==x)=true:=z;refine ah ?_;rw[jT af hj (by rw[hg,h2];rfl)];rfl
  have h2:(b==x)=false:=z;refine ga aF ?_;exact aE J1 (i+1) ⟨af,fun j h9=>by rcases ahq j i with g |g;exact hj j g;(have:j=i:=by omega);subst this;rw[hg,h2];rfl⟩
 have af:=aW hi z;subst af;refine ah ?_;rw[km hj];rfl
theorem MU(xs:List Bool)(b:Bool)(hl:xs.length<=281474976710656):FP 43 [.lst 1 (xs.map bl),bl b] (bl (xs.contains b)):=by
 refine ak func43 ?_;refine gc (UT xs b hl) ?_;refine ah ?_;rw[<- Kv (xs:=xs) (b:=b) (ok:=fun i=>!(b==xs.getD i false)) (fun i x hx=>by rw[aQ hx])];rfl
theorem ZD(xs:List Int)(b:Int)(hl:xs.length<=281474976710656):FP 321 [.lst 1 (xs.map i64),i64 b] (i64 (sD (dP xs.length (fun i=>!(b==xs.getD i 0))))):=by
 refine ak func321 ?_;refine gl ?_;refine aL [0,1,7] [] (fun(i:Nat)=>[pP 8 (i64 i)]) (fun _=>[]) (fun i=>i<=xs.length/\∀j,j<i->(!(b==xs.getD j 0))=true) (fun i=>xs.length-i) 0 ⟨ahv _,fun j h=>by omega⟩ ?_;rintro i ⟨hi,hj⟩ K1 J1;refine gC (fun z=>?_) (fun z=>?_)
 ·have af:=aK z;obtain⟨x,hx⟩:=aB af;have hg:xs.getD i 0=x:=aQ hx;refine gi (ay hx) ?_;refine gC (fun z=>?_) (fun z=>?_)
  ·have h2:(b==x)=true:=z;refine ah ?_;rw[jT af hj (by rw[hg,h2];rfl)];rfl
  have h2:(b==x)=false:=z;refine ga aF ?_;exact aE J1 (i+1) ⟨af,fun j h9=>by rcases ahq j i with g |g;exact hj j g;(have:j=i:=by omega);subst this;rw[hg,h2];rfl⟩
 have af:=aW hi z;subst af;refine ah ?_;rw[km hj];rfl
theorem Lo(xs:List Int)(b:Int)(hl:xs.length<=281474976710656):FP 223 [.lst 1 (xs.map i64),i64 b] (bl (xs.contains b)):=by
 refine ak func223 ?_;refine gc (ZD xs b hl) ?_;refine ah ?_;rw[<- Kv (xs:=xs) (b:=b) (ok:=fun i=>!(b==xs.getD i 0)) (fun i x hx=>by rw[aQ hx])];rfl
theorem Yz(l:Li)(hl:l.ok):FP 17 [l.av] (.tup [.lst 4 (((if ax l=0 then aC l else[])).map Gr.av),dh (if ax l=0 then bS l else ax l)]):=by
 refine ak func17 ?_;refine gc (PO l hl) (hnm:=(by unfold uh;split <;> rfl)) ?_;refine gC (fun z=>?_) (fun z=>?_) (st2:=(77777,0))
 ·have h1:=p9 z;refine gR ?_;exact gP (by rw[ais h1,ais h1];exact Sub.tup (.cons (.nil _ _ _) (.cons (.refl _) .nil)))
 have ae:=qI z;have h8:=(fp ae).2.2.2.1;have F9:l.jo.length<=16:=by have:=(fp ae).2.1;unfold et at this;split at this;cases this;omega
 have lk1:(bT l).length=l.bo.length:=by unfold bT;rw[tl,jd]
 have lk2:(fk l).length=l.jo.length:=by unfold fk;rw[tl,ah7]
 have e1:uh l=.iptr (dk l (bT l) (bD l) [.lst 1 ((fk l).map bl),.lst 4 ((b8 l).map Gr.av)]):=by unfold uh;rw[ait ae]
 have c1:=Kc (k:=bT l);have c2:=Kc (k:=fk l);refine gW (Wk.of (sl:=[pP 4 (.iptr (dk l (bT l) (bD l) [.lst 1 ((fk l).map bl),.lst 4 ((b8 l).map Gr.av)])),pP 5 (dh (ax l))]) (hp:=[]) (.cons rfl (.of e1) (.k .nil)) .nil) ?_;refine gc (MU (bT l) false oz) ?_;refine bJ (fun _=>(MU (fk l) false oz)) ?_;refine gC (fun t25=>?_) (fun t25=>?_)
 ·have h2:bS l=7:=by
   unfold bS;rw[ais];intro h;have h3:(bT l).contains false=false:=c1.1 oz;have h4:(fk l).contains false=false:=c2.1 oz;rw[h3,h4]at t25;cases t25
  refine gR ?_;exact gP (by rw[ait ae,ait ae];unfold aC;rw[ais (by rw[h2];simp),h2];exact Sub.tup (.cons (.nil _ _ _) (.cons (.refl _) .nil)))
 have h2:bS l=0:=by
  unfold bS;rw[ait];cases h3:(bT l).contains false <;> cases h4:(fk l).contains false <;> rw[h3,h4]at t25 <;> first |(cases t25;done) |(have g1:=c1.2 h3;have g2:=c2.2 h4;omega)
 refine bZ ?_;rw[ait ae,ait ae,h2];unfold aC;rw[ait h2];rfl
theorem YO{l:Li}{g:Gr}{i:Nat}{z:Int}{j:Jt}(hz:g.jo[i]?=some z)(hj:l.jo[z.toNat]?=some j):(ci l g)[i]?=some (eI g j):=by
 unfold ci;rw[aho,hz,ahd,aQ hj]
theorem xR{l:Li}{g:Gr}{i:Nat}{z:Int}{j:Jt}{a:Int}(hz:g.jo[i]?=some z)(hj:l.jo[z.toNat]?=some j)(ha:eI g j=a):((ci l g).take i).map i64++[i64 a]=((ci l g).take (i+1)).map i64:=by
 rw[gB (YO hz hj),ha,aih];rfl
theorem NS{z:Int}{n:Nat}(h0:0<=z)(h1:z<n):cond (aa .lss z 0) true (aa .geq z (n:Int))=false:=by
 rw[show aa .lss z 0=false from aiy oz];exact aiy oz
theorem U8(l:Li)(hl:l.ok)(ae:ax l=0)(g:Gr)(hg:GrOk l g):Con prog 123 [l.av,g.av] [] (.tup [.ms 900 1 0 g.jo.length,.v .nilIface]) [pP 900 (.row 1 ((ci l g).map i64))]:=by
 have fK:=hg.lb;have oo:=hg.lj;refine gF func123 (fun k z h=>by cases h) ?_;refine gc (Jh l hl) ?_;refine gC (fun t=>?_) (fun t=>?_) (st1:=(3,0))
 ·(rw[ae]at t;cases t)
 refine gl ?_;refine gW ((Wk.virt 900 1 rfl).trans<|Wk.of (sl:=[pP 2 (.ptr 2 0),pP 3 (.ptr 3 0),pP 7 (.ms 900 1 0 0),pP 19 (.lst 1 (g.jo.map i64)),pP 20 (i64 g.jo.length),pP 21 (i64 0)]) (hp:=[pP 2 (.box l.av.cells),pP 3 (.box g.av.cells),pP 900 (.row 1 [])]) (.k (.k (.cons rfl (Sub.nM _ _ _) (.k (.k (.k .nil)))))) (.k (.k (.k .nil)))) ?_;refine aL [2,3,19,20] [2,3] (fun(i:Nat)=>[pP 7 (.ms 900 1 0 i),pP 21 (i64 i)]) (fun i=>[pP 900 (.row 1 (((ci l g).take i).map i64))]) (fun i=>i<=g.jo.length) (fun i=>g.jo.length-i) 0 (ahv _) ?_;rintro i hi K1 J1;refine gC (fun t=>?_) (fun t=>?_) (st2:=(18,0))
 ·have af:=aK t;obtain ⟨z,hz⟩:=aB af;obtain ⟨z0,z1⟩:=hg.j z (ahg hz);obtain ⟨j,hj⟩:∃ j,l.jo[z.toNat]? = some j:=aB oz;have hlt:(((ci l g).take i).map i64).length = i:=by rw [ahk,ah5,pv]; omega
  refine gi (ay hz) ?_;refine cm ?_;refine gC (fun t=>?_) (fun t=>?_) (st1:=(9,0))
  ·(rw[NS z0 z1]at t;cases t)
  refine gi (fI (n:=z.toNat) oz hj) ?_;refine gc (Lo g.bo j.a oz) ?_;refine gc (Lo g.bo j.b oz) ?_;refine gD ?_;refine gC (fun t55=>?_) (fun t55=>?_)
  ·have ha : eI g j = -1 := by unfold eI; cases h1 : g.bo.contains j.a <;> cases h2 : g.bo.contains j.b <;> rw [h1, h2] at t55 <;> first | (cases t55; done) | rfl
   refine gs (eD (.tmp rfl) rfl hlt.symm (.tmp rfl) T30 rfl T3 rfl rfl (by simp only[ahx,ah9];omega) rfl rfl) ?_ (17,0);refine gW (Wk.of (sl:=[pP 2 (.ptr 2 0),pP 3 (.ptr 3 0),pP 7 (.ms 62 1 0 (i+1)),pP 19 (.lst 1 (g.jo.map i64)),pP 20 (i64 g.jo.length),pP 21 (i64 i)]) (hp:=[pP 2 (.box l.av.cells),pP 3 (.box g.av.cells),pP 62 (.row 1 (((ci l g).take (i+1)).map i64))]) aY (.k (.k (.cons rfl (.of (ai0 (Blk.row 1) (xR hz hj ha))) .nil)))) ?_ (17,0);refine gW (Wk.rk (k:=62) (d:=900) rfl rfl) ?_;refine ga aF ?_;exact aE J1 (i+1) af
  refine gC (fun t=>?_) (fun t=>?_)
  ·have ha : eI g j = j.b := by unfold eI; cases h1 : g.bo.contains j.a <;> cases h2 : g.bo.contains j.b <;> rw [h1] at t <;> rw [h1, h2] at t55 <;> first | (cases t55; done) | (cases t; done) | rfl
   refine gs (eD (.tmp rfl) rfl hlt.symm (.tmp rfl) T30 rfl T3 rfl rfl (by simp only[ahx,ah9];omega) rfl rfl) ?_ (17,0);refine gW (Wk.of (sl:=[pP 2 (.ptr 2 0),pP 3 (.ptr 3 0),pP 7 (.ms 69 1 0 (i+1)),pP 19 (.lst 1 (g.jo.map i64)),pP 20 (i64 g.jo.length),pP 21 (i64 i)]) (hp:=[pP 2 (.box l.av.cells),pP 3 (.box g.av.cells),pP 69 (.row 1 (((ci l g).take (i+1)).map i64))]) aY (.k (.k (.cons rfl (.of (ai0 (Blk.row 1) (xR hz hj ha))) .nil)))) ?_ (17,0);refine gW (Wk.rk (k:=69) (d:=900) rfl rfl) ?_;refine ga aF ?_;exact aE J1 (i+1) af
  have ha:eI g j=j.a:=by unfold eI;rw[ais (by rw[show g.bo.contains j.a=false from t];simp)]
  refine gs (eD (.tmp rfl) rfl hlt.symm (.tmp rfl) T30 rfl T3 rfl rfl (by simp only[ahx,ah9];omega) rfl rfl) ?_ (17,0);refine gW (Wk.of (sl:=[pP 2 (.ptr 2 0),pP 3 (.ptr 3 0),pP 7 (.ms 54 1 0 (i+1)),pP 19 (.lst 1 (g.jo.map i64)),pP 20 (i64 g.jo.length),pP 21 (i64 i)]) (hp:=[pP 2 (.box l.av.cells),pP 3 (.box g.av.cells),pP 54 (.row 1 (((ci l g).take (i+1)).map i64))]) aY (.k (.k (.cons rfl (.of (ai0 (Blk.row 1) (xR hz hj ha))) .nil)))) ?_ (17,0);refine gW (Wk.rk (k:=54) (d:=900) rfl rfl) ?_;refine ga aF ?_;exact aE J1 (i+1) af
 have af:=aW hi t;subst af;refine gW (Wk.of (sl:=[pP 7 (.ms 900 1 0 g.jo.length)]) (hp:=[pP 900 (.row 1 ((ci l g).map i64))]) aY (.cons rfl (.of (by rw[ah1 (by rw[pv];exact ahr _)])) .nil)) ?_;refine gR ?_;exact aI.keep (d6 rfl)
section
variable{ts:LL}{u k:Nat}{a b a2 b2:List Rat}{x y x2 y2:Et ts}{w v w' v' w2 v2 w3 v3:Nat}
def atXE(c s X:Et ts)(p q:Rat):Et ts:=(c*qE p-s*qE q)+X
def atYE(c s Y:Et ts)(p q:Rat):Et ts:=(s*qE p+c*qE q)+Y
instance Zu.atXE[c:Ct ts u k]{x y z:Et ts}{p q:Rat}{w1 v1 w2 v2 w3 v3 w4 w5:Nat}[Zu u k x w1 v1][Zu u k y w2 v2][Zu u k z w3 v3][Qz u p w4][Qz u q w5]:Zu u k (atXE x y z p q) (w1+w4+(w2+w5)+w3) (v1+0+1+(v2+0+1)+1+v3+1) :=
  (ai1:Zu u k ((x*Lw.qE p-y*Lw.qE q)+z) _ _)
instance Zu.atYE[c:Ct ts u k]{x y z:Et ts}{p q:Rat}{w1 v1 w2 v2 w3 v3 w4 w5:Nat}[Zu u k x w1 v1][Zu u k y w2 v2][Zu u k z w3 v3][Qz u p w4][Qz u q w5]:Zu u k (atYE x y z p q) (w2+w4+(w1+w5)+w3) (v2+0+1+(v1+0+1)+1+v3+1) :=
  (ai1:Zu u k ((y*Lw.qE p+x*Lw.qE q)+z) _ _)
end
section
variable{ts:LL}{u k:Nat}{a b a2 b2:List Rat}{x y x2 y2:Et ts}{w v w' v' w2 v2 w3 v3:Nat}
end
variable{P:ai5}{N:Nat}{R:Array Oper}{s:AS}{pos:String}{after:Array Edge}
theorem be{d f k:Nat}{bx:Blk}{args:Array ai2}{ts:Array ai4}{xs:List AV}{r:AV}{t:ai4}
  (cF:Con P f xs [(k,some bx)] r [(k,some bx)]) (ha:EvL s args.toList xs) (hk:s.blk k=some bx) (bc:fW s [(k,some bx)] [(k,some bx)] r=true) (hN:aem d N=true) :
  Step P N R s ⟨some d,.call ⟨.value (.func f),args,ts⟩,t,pos,after,none⟩ ⟨some r,[],cB args.toList,[k]⟩:=by
 refine Step.weaken (bq (d:=d) cF ha (fun k' z h=>by
  obtain⟨rfl,h9⟩:=gY h;cases h9;exact hk) bc hN) (fun s' h=>h) (fun s' h k' hk'=>?_) (fun s' h=>?_)
 ·left;simp only[aih,cw,aiq,List.map_nil,ahn,ah3,ahy,or_false]at hk' ⊢;rcases hk' with h9 |h9 <;> exact h9
 ·intro C m a w hr;refine⟨m,hr.weak (fun t x hx=>⟨x,hx,.refl _⟩) (fun k' x hx=>⟨x,?_,.refl _⟩)⟩;have hb:lk s'.hp k=some bx:=(h.2 k (ae4.2 rfl)).trans hk;show lk ([(k,some bx)]++cw [(k,some bx)]++s'.hp) k'=some x;have hx':lk s'.hp k'=some x:=hx;simp only[cw,aiq,List.map_nil,afj,nil_append,aA]
  by_cases e:k'=k
  ·rw[ait e];rw[e,hb]at hx';exact hx'
  ·rw[ais e,ais e];exact hx'
end Go.Lw
namespace Go.Lw
open Go.Proofs
structure Vr where
  w:List Rt
  x:List Rt
  y:List Rt
instance:Inhabited Vr:=⟨⟨[],[],[]⟩⟩
def Vr.av(v:Vr):AV:=.agg [nR v.w,nR v.x,nR v.y]
def Vr.l(v:Vr):List (List Rt):=[v.w,v.x,v.y]
section
variable{rs:List (List Rt)}{r u k:Nat}{a b c:List Rat}{x y:Et (llq rs)}{w v w' v':Nat}
end
structure DyW(l:Li)(a:As):Prop where
  hl:l.ok
  li:ax l=0
  al:AB a
  hc:fg a.rs=0
structure DyR(l:Li)(a:As):Prop extends DyW l a where
  s:DyS a
theorem DyR.two{l:Li}{a:As}(D:DyR l a):(llq a.rs).length<=2:=D.s.two D.hc
section
variable{rs:List (List Rt)}{r:Nat}{a b c a2 b2 c2:List Rat}
end
section
variable{rs:List (List Rt)}{r u k:Nat}{a b:List Rat}{x y:Et (llq rs)}{w v w' v':Nat}
end
section
variable{rs:List (List Rt)}{r:Nat}{a b c a2 b2 c2:List Rat}{x y z x2 y2 z2:Et (llq rs)}
end
class Cy(ts:LL)(u k:outParam Nat):Prop where
  ex:∃R,Tw ts R/\eB R ts.length<=k
  k1:1<=k
  u3:3<=u
  two:ts.length<=2
instance Cy.cx{ts:LL}{u k:Nat}[c:Cy ts u k]:Cx (aD ts) ts.length u k:=by
  obtain⟨R,tw,h⟩:=c.ex;exact⟨⟨R,MK tw▸tw,h⟩,c.k1,c.u3⟩
theorem Cy.lm{ts:LL}{u k:Nat}(c:Cy ts u k):lm ts.length=200000000000:=by unfold Go.Lw.lm;rw[ait c.two]
def iE{ts:LL}(y:Et ts):Et ts:=T.inv (aD ts) ts.length y
section
variable{ts:LL}{u k:Nat}{a b:List Rat}{x y:Et ts}{w v w' v':Nat}
abbrev Yi(ts:LL)(ps:List AV):AV:=.agg [.lst 1 (ts.map nA),.lst 2 ps]
end
theorem nT(ts:LL)(a:List Rat):(bX ts a).length=ts.length+1:=by simp[bX]
theorem Hq{ts:LL}{a:List Rat}{j:Nat}(h:j<ts.length):(bX ts a).getD j []=ts.getD j []:=by
 unfold bX;rw[ahh,ahh,ah4 h]
theorem LJ(ts:LL)(a:List Rat):(bX ts a).getD ts.length []=bt a (2^ts.length):=by
 unfold bX;rw[ahh,ahz (ahr _),Nat.sub_self];rfl
theorem LY{ts:LL}{a:List Rat}{j:Nat}(h:j<ts.length):aD (bX ts a) j=aD ts j:=by
 unfold aD;rw[Hq h]
theorem Hb{ts:LL}{a:List Rat}{j:Nat}(h:j<=ts.length)(x:T j):T.sgn (aD (bX ts a)) j x=T.sgn (aD ts) j x :=
 T.sgn_congr j (fun i hi=>LY oz) x
theorem RB.ext{r e:Nat}{ts:LL}{a:List Rat}(h:RB r ts)(ha:Cb e a):RB (r+e) (bX ts a):=by
 obtain⟨D,N,h0,h1,h2,h3⟩:=h;obtain⟨D',N',k1,k2,k3⟩:=ha.wide (n:=2^ts.length);have hN:N<=2^r:=h3;refine⟨D*D',max (N*D') (N'*D),adw h0 k1.1,?_,?_,?_⟩
 ·intro d hd;rcases ahn.1 hd with h9 |h9
  ·exact((h1 d h9).scale k1.1).mono (Nat.le_max_left _ _)
  ·rw[ae4.1 h9,aef D];exact(k1.scale h0).mono (Nat.le_max_right _ _)
 ·rw[ail];exact adv h2 k2
 ·rw[ail];refine Nat.max_le.2 ⟨adv h3 k2,?_⟩;rw[aef (2^r)];exact adv k3 h2
theorem YG{r e:Nat}{ts:LL}{a:List Rat}(tw:Tw ts r)(h2:ts.length<=2)(ha:Nm ts.length e a)(he:r+e<=5000000000)(hs:0<=T.sgn (aD ts) ts.length (ao ts.length a)):Tw (bX ts a) (r+e):=by
 refine⟨by rw[nT];omega,?_,?_,tw.rb.ext ha.cb,he⟩
 ·intro j hj;rw[nT]at hj;rcases ahq j ts.length with h |h
  ·rw[Hq h];exact tw.len j h
  ·have : j = ts.length := by omega
   subst this;rw[LJ];exact gX ha.nl.le
 ·intro j hj;rw[nT]at hj;rw[Hb oz];rcases ahq j ts.length with h |h
  ·rw[LY h];exact tw.pos j h
  ·have : j = ts.length := by omega
   subst this
   have e1:aD (bX ts a) ts.length=ao ts.length a:=by
    show ao ts.length ((bX ts a).getD ts.length [])=_;rw[LJ,Js]
   rw[e1];exact hs
theorem L6{ts:LL}{a l:List Rat}{e:Nat}(h:Nm ts.length e l)(h4:ts.length<=4):Nm (bX ts a).length e l:=by
 rw[nT];exact⟨by omega,h.nl.mono oz,h.cb⟩
theorem Zi{ts:LL}{a l:List Rat}(h:Nl ts.length l):aZ (dE (bX ts a) l)=aZ (dE ts l):=by
 unfold aZ dE;rw[nT];show T.sgn (aD (bX ts a)) (ts.length+1) (ao (ts.length+1) l)=_;rw[yd (aD (bX ts a)) h.le (Nat.le_succ _),Hb (ahr _)]
theorem Xo{ts:LL}{a:List Rat}(h4:ts.length<=4):Nm (bX ts a).length 1 (pq ts.length):=by
 rw[nT];refine⟨by omega,.inr ⟨_,ahr _,Uu _⟩,1,1,⟨by omega,?_⟩,by omega,by omega⟩;intro q hq;unfold pq at hq;rcases aex hq with h |h
 ·rw[(List.mem_replicate.1 h).2];exact⟨0,by rw[Rat.zero_mul];rfl,by simp⟩
 ·rw[h];exact⟨1,by rw[Rat.one_mul];rfl,by simp⟩
structure Mt where
  ts:LL
  ps:List (List Rat×List Rat)
abbrev Q4(p:List Rat×List Rat):AV:=My p.1 p.2
abbrev Mt.av(m:Mt):AV:=Yi m.ts (m.ps.map Q4)
abbrev P2(ts:LL):Type:=Et ts×Et ts
abbrev P2.l{ts:LL}(p:P2 ts):List Rat×List Rat:=(sX p.1,sX p.2)
abbrev iL{ts:LL}(X:Et ts)(x:Et ts):Et (bX ts (sX X)):=dE (bX ts (sX X)) (sX x)
section
variable{ts:LL}
def v9(d:Et ts):Et ts:=qE ((2:Int):Rat)*d
def DX(p q:P2 ts):P2 ts:=(q.1-p.1,q.2-p.2)
def uF(p:P2 ts)(k:Et ts)(v:P2 ts):P2 ts:=(p.1+k*v.1,p.2+k*v.2)
def vf(p q:P2 ts)(z z2:Et ts):P2 ts:=uF p ((z+kf p q-z2)*iE (v9 (kf p q))) (DX p q)
def Jg(X d:Et ts):Et (bX ts (sX X)):=dE _ (pq ts.length)*iE (iL X (v9 d))
def Hi(X:Et ts)(f v:P2 ts)(c:Et (bX ts (sX X))):P2 (bX ts (sX X)):=uF (iL X f.1,iL X f.2) c (qE ((-1:Int):Rat)*iL X v.2,iL X v.1)
def M9(p:P2 ts)(z z2:Et ts):Mt:=if aZ (z-z2)≠0 then⟨ts,[]⟩else if 0<aZ z then⟨[],[]⟩else⟨ts,[(uF p 0 p).l]⟩
def tG(p q:P2 ts)(z z2:Et ts):Mt :=
  if aZ (kf p q)=0 then M9 p z z2
  else if aZ (iJ p z q z2)<0 then⟨ts,[]⟩
  else if aZ (iJ p z q z2)=0 then⟨ts,[(vf p q z z2).l]⟩
  else⟨bX ts (sX (iJ p z q z2)),[(Hi (iJ p z q z2) (vf p q z z2) (DX p q) (Jg (iJ p z q z2) (kf p q))).l,
    (Hi (iJ p z q z2) (vf p q z z2) (DX p q) (qE ((-1:Int):Rat)*Jg (iJ p z q z2) (kf p q))).l]⟩
def MR(z z2:Et ts):Nat:=if aZ (z-z2)=0/\0<aZ z then 15 else 0
def xV(p q:P2 ts)(z z2:Et ts):Nat:=if aZ (kf p q)=0 then MR z z2 else 0
end
section
variable{ts:LL}{a b c a2 b2 c2:List Rat}{x y z x2 y2 z2:Et ts}
end
section
variable{rs:List (List Rt)}{r:Nat}{a b c a2 b2 c2:List Rat}{x y z x2 y2 z2:Et (llq rs)}
theorem Zb{ts:LL}{X x:Et ts}:aZ (iL X x)=aZ x:=by
 show aZ (dE (bX ts (sX X)) (sX x))=_;rw[Zi (l:=sX x) (iH _ _)];show aZ (dE ts (sX x))=_;rw[show dE ts (sX x)=x from dY _ _]
theorem XT{ts:LL}{r:Nat}(tw:Tw ts r)(d:Et ts):aZ (v9 d)=aZ d:=by
 have h:=ox (aD ts) ts.length tw.pos
 have h2:sg (aD ts) ts.length (qE ((2:Int):Rat):Et ts)=1:=by
  show T.sgn (aD ts) ts.length (T.ofQ ts.length ((2:Int):Rat))=1;rw[T.sgn_ofQ];rfl
 have h3:=h.mul (qE ((2:Int):Rat)) d;rw[h2,Int.one_mul]at h3;exact h3
end
section
variable{ts:LL}
abbrev q8(p q:P2 ts):Et ts:=wt (iK q p) (iK q p)
abbrev zt(p q c:P2 ts):Et ts:=wt (iK q p) (iK c p)
abbrev CZ(p q c:P2 ts):Et ts:=HA (iK q p) (iK c p)
abbrev er(p q c:P2 ts)(z:Et ts):Et ts:=q8 p q*z-CZ p q c*CZ p q c
def KK(X:Et ts)(S:Et ts)(k:Et (bX ts (sX X))):Et (bX ts (sX X)):=k*iE (iL X S)
def Ie(X:Et ts)(p v:P2 ts)(k:Et (bX ts (sX X))):P2 (bX ts (sX X)):=uF (iL X p.1,iL X p.2) k (iL X v.1,iL X v.2)
abbrev rT(X:Et ts):Et (bX ts (sX X)):=dE _ (pq ts.length)
def sU(p q c:P2 ts)(z:Et ts):Mt :=
  if aZ (q8 p q)=0 then⟨[],[]⟩else if aZ (er p q c z)=-1 then⟨ts,[]⟩else if aZ (er p q c z)=0 then⟨ts,[(uF p (zt p q c*iE (q8 p q)) (iK q p)).l]⟩
  else⟨bX ts (sX (er p q c z)),[(Ie (er p q c z) p (iK q p) (KK (er p q c z) (q8 p q) (iL (er p q c z) (zt p q c)+rT (er p q c z)))).l,
    (Ie (er p q c z) p (iK q p) (KK (er p q c z) (q8 p q) (iL (er p q c z) (zt p q c)-rT (er p q c z)))).l]⟩
def Ah(p q:P2 ts):Nat:=if aZ (q8 p q)=0 then 8 else 0
end
section
variable{rs:List (List Rt)}{c:List Rat}{o p q:P2 (llq rs)}{z:Et (llq rs)}
end
def oE(vs:List (Rat×Rat)):Bool:=(dP vs.length fun i=>!decide (gx (vs.getD i (0,0)) (vs.getD i (0,0))=0)).isSome
theorem abk{v:Rat×Rat}(h:oE [v]=false):gx v v≠0:=by
 intro h0;have h1:dP 1 (fun i=>!decide (gx ([v].getD i (0,0)) ([v].getD i (0,0))=0))=some 0:=jT oz (fun j hj=>by omega) (by show(!decide (gx v v=0))=false;rw[h0];rfl);unfold oE at h;rw[show[v].length=1 from rfl,h1]at h;cases h
theorem TF{v w:Rat×Rat}(h:oE [v,w]=false):gx v v≠0/\gx w w≠0:=by
 unfold oE at h;rw[Option.isSome_eq_false_iff,Option.isNone_iff_eq_none]at h;have h2:=RH h;have h3:=h2 0 (by show 0<2;omega);have h4:=h2 1 (by show 1<2;omega);have h5:(!decide (gx v v=0))=true:=h3;have h6:(!decide (gx w w=0))=true:=h4;simp only[agt,decide_eq_false_iff_not]at h5 h6;exact⟨h5,h6⟩
section
variable{ts:LL}
abbrev Bx(u:Rat×Rat):Et ts:=qE (gx u u)
def tL(u:Rat×Rat)(w:P2 ts):Et ts:=(qE u.1*w.1+qE u.2*w.2)*iE (Bx u)
def ud(u:Rat×Rat)(w:P2 ts):Et ts:=(qE u.1*w.2-qE u.2*w.1)*iE (Bx u)
def BF(u:Rat×Rat)(w:P2 ts)(p:Rat×Rat)(o:P2 ts):Et ts:=o.1-(tL u w*qE p.1-ud u w*qE p.2)
def Bm(u:Rat×Rat)(w:P2 ts)(p:Rat×Rat)(o:P2 ts):Et ts:=o.2-(ud u w*qE p.1+tL u w*qE p.2)
def uP(u:Rat×Rat)(w:P2 ts)(p:Rat×Rat)(o:P2 ts):Pq:=⟨sX (tL u w),sX (ud u w),sX (BF u w p o),sX (Bm u w p o)⟩
end
structure Sv where
  ts:LL
  ps:List Pq
  mode:Int
abbrev Sv.av(s:Sv):AV:=.agg [.lst 1 (s.ts.map nA),.lst 4 (s.ps.map Pq.av),i64 s.mode]
structure Hd where
  p:Rat×Rat
  a:List Rat×List Rat
  c:Rat×Rat
abbrev Hd.av(h:Hd):AV:=.agg [bl (rt h.p.1).neg,ws (rt h.p.1).num,ws (rt h.p.1).den,bl (rt h.p.2).neg,ws (rt h.p.2).num,ws (rt h.p.2).den,nA h.a.1,nA h.a.2,bl (rt h.c.1).neg,ws (rt h.c.1).num,ws (rt h.c.1).den,bl (rt h.c.2).neg,ws (rt h.c.2).num,ws (rt h.c.2).den]
def Ab(ts:LL)(h:Hd)(x:List Rat×List Rat):P2 ts:=(dE ts x.1-dE ts h.a.1,dE ts x.2-dE ts h.a.2)
def zp(ts:LL)(h:Hd):P2 ts:=(dE ts h.a.1,dE ts h.a.2)
def Yh(ts:LL)(x:List Rat×List Rat)(h:Hd):Pq:=uP (b9 h.c h.p) (Ab ts h x) h.p (zp ts h)
def HF(m:Mt)(hs:List Hd)(i:Nat):Sv:=⟨m.ts,hs.map (Yh m.ts (m.ps.getD i ([],[]))),if m.ps.length=1 then 0 else 1-2*(i:Int)⟩
variable{P:ai5}{N:Nat}{R:Array Oper}{s:AS}{pos:String}{after:Array Edge}
def vk:ai3->Nat
  | .int .i64 _=>1
  | .string _=>2
  |_=>0
def Dd(P:ai5)(t:ai4):Bool:=match P.underlying t with |some .string=>true |_=>false
theorem Ul{t:ai4}(h:Dd P t=true):P.underlying t=some .string:=by
 unfold Dd at h;split at h
 ·assumption
 ·cases h
def CV (P : ai5) (ks : List Nat) (f : Field) : Bool := f.name != "_" && (match ks[f.offset]? with | some 1 => wW P f.type | some 2 => Dd P f.type | _ => false)
def zX(P:ai5)(T:ai4)(ks:List Nat):Bool:=match P.underlying T with
  |some (.struct fs)=>fs.toList.all (CV P ks)&&!P.stoodInHeld T&&!P.eqGuardType P.depth T
  |_=>false
theorem JT{cs:List ai3}{ks:List Nat}(hk:cs.map vk=ks)(w:ai6):∀{fs:List Field},fs.all (CV P ks)=true->(Op.eqFields 9999 cs.toArray cs.toArray fs).run P w=.ok true w
 |[],_=>rfl
 |f::fs,h=>by
  rw [List.all_cons,ahj] at h;obtain ⟨h1,h2⟩:=h;have ih:=JT hk w h2;unfold CV at h1;rw [ahj] at h1;obtain ⟨hn,h1⟩:=h1;have n1 : f.name ≠ "_" := by simpa using hn
  have hc:∀k,ks[f.offset]?=some k->∃v,cs[f.offset]?=some v/\vk v=k:=by
   intro k cC;rw[<- hk,aho,ahl]at cC;exact cC
  split at h1
  ·rename_i e;obtain ⟨v,hv,ot⟩:=hc 1 e;have hu:=B5 h1;have e0:cs.toArray[f.offset]? = some v:=by simpa using hv
   have e1:(part f.type cs.toArray f.offset).run P w=.ok v w:=by simp[part,isAgg,run_underlying hu,e0]
   have:∃n,v=.int .i64 n:=by unfold vk at ot;split at ot;exact⟨_,rfl⟩;cases ot;cases ot
   obtain⟨n,rfl⟩:=this;have e3:(Op.equalIn 9999 f.type (.int .i64 n) (.int .i64 n)).run P w=.ok (n==n) w:=run_equalIn_int w 9998 f.type .i64 .i64 n n hu;simp only[Op.eqFields,n1,ne_eq,not_false_eq_true,if_true,ai8,e1,e3,ai7,Sem.run_ite,beq_self_eq_true,ago,agv,if_false,ih]
  ·rename_i e;obtain ⟨v,hv,ot⟩:=hc 2 e;have hu:=Ul h1;have e0:cs.toArray[f.offset]? = some v:=by simpa using hv
   have e1:(part f.type cs.toArray f.offset).run P w=.ok v w:=by simp[part,isAgg,run_underlying hu,e0]
   have:∃n,v=.string n:=by unfold vk at ot;split at ot;cases ot;exact⟨_,rfl⟩;cases ot
   obtain⟨n,rfl⟩:=this;have e3:(Op.equalIn 9999 f.type (.string n) (.string n)).run P w=.ok (n.toList==n.toList) w:=run_equalIn_string w 9998 f.type n n hu;simp only[Op.eqFields,n1,ne_eq,not_false_eq_true,if_true,ai8,e1,e3,ai7,Sem.run_ite,beq_self_eq_true,ago,agv,if_false,ih]
  ·cases h1
theorem QB{T:ai4}{cs:List ai3}{ks:List Nat}(hk:cs.map vk=ks)(h:zX P T ks=true)(w:ai6) :
  (Op.equalIn 10000 T (.agg cs.toArray) (.agg cs.toArray)).run P w=.ok true w/\P.eqGuardType P.depth T=false:=by
 unfold zX at h;split at h
 ·rename_i fs hu;rw [ahj,ahj] at h;obtain ⟨⟨h,h1⟩,h2⟩:=h;have hF:P.fieldsOf T = fs:=by unfold Program.fieldsOf; rw [hu]
  have hs:P.stoodInHeld T=false:=by simpa using h1
  refine⟨?_,by simpa using h2⟩;rw[run_equalIn_struct w 9999 T _ _ (by rw[hF];exact hu) hs,hF];exact JT hk w h
 ·cases h
theorem IE{g:Nat->Array ai3->Prop}{S:Nat->Nat->Prop}{m:Nat->Option Nat}{u:ai3}{cs:List ai3}(h:Rep g S m u (.agg (cs.map .v))):u=.agg cs.toArray:=by
 cases h with
 | @agg _ vs _ hn h1 aR =>
  rw[ahk]at hn;congr 1;refine Array.ext (by simpa using hn) (fun i hi xI=>?_);have Gf:i<cs.length:=by simpa using xI
  have r:=aR i vs[i] (.v cs[i]) (by simp[hi]) (by simp[Gf]);have r2:∀{y z:ai3},Rep g S m y (.v z)->y=z:=fun h=>by cases h;rfl
  rw[r2 r];simp
theorem UJ{d:Nat}{x y:ai2}{cs:List ai3}{ks:List Nat}{S T t:ai4}(hx:Ev s x (.agg (cs.map .v)))(hy:Ev s y (.agg (cs.map .v)))
  (hk:cs.map vk=ks) (hS:zX P S ks=true) (hN:aem d N=true) :
  Step P N R s ⟨some d,.binOp .neq S x y T,t,pos,after,none⟩ ⟨some (.v (.bool false)),[],ai x++ai y,[]⟩ :=
 cA rfl rfl hN fun s' am C m ac w hr=>⟨.bool false,by
  have h:=IE ((hx.agree am (fun _ h=>ahn.2 (.inl h))).rep hr);have h':=IE ((hy.agree am (fun _ h=>ahn.2 (.inr h))).rep hr);obtain⟨r1,r2⟩:=QB (T:=S) hk hS w;simp only[execOp,h,h',ai8,run_eqGuard_agg w .neq S x y _ _ r2,ai7,run_neq_struct,r1,ai9,ago],.v _⟩
end Go.Lw
namespace Go.Lw
open Go.Proofs
theorem Tu{ts:LL}{X:Et ts}(hn:ts.length<=1)(e:Nat)(y:Et ts)(h:Nm ts.length e (sX y)):Nm (bX ts (sX X)).length e (sX y)/\sX (dE (bX ts (sX X)) (sX y))=sX y:=by
 refine⟨L6 h oz,?_⟩;show sh (bX ts (sX X)).length (ao (bX ts (sX X)).length (sX y))=sX y;rw[nT,kG h.nl.le];show(if T.isZ ts.length (T.zero ts.length)=true then sh ts.length (ao ts.length (sX y))else _)=_;rw[ait ((T.isZ_iff _ _).2 rfl)];exact ai0 (sh ts.length) (dY _ _)
theorem Ca{α:Type}{P:α->Prop}{x y:α}(hx:P x)(hy:P y):∀z∈[x,y],P z:=by
 intro z hz;rcases ah3.1 hz with rfl |hz
 ·exact hx
 ·rw[ae4.1 hz];exact hy
theorem uJ{α:Type}{P:α->Prop}{x:α}(hx:P x):∀z∈[x],P z:=by
 intro z hz;rw[ae4.1 hz];exact hx
section
variable{ts:LL}
def QX(q w1 w2 h:Et ts):Et ts:=q*w1-h*-w2
def X8(q w1 w2 h:Et ts):Et ts:=q*w2-h*w1
def G7(ts:LL)(q h d:List Rat)(w:List Rat×List Rat):P2 ts:=(QX (dE ts q) (dE ts w.1) (dE ts w.2) (dE ts h)*iE (dE ts d),X8 (dE ts q) (dE ts w.1) (dE ts w.2) (dE ts h)*iE (dE ts d))
structure Rp where
  v:Rat×Rat
  p:Rat×Rat
  a:List Rat×List Rat
  h:List Rat
  d:List Rat
  w:List Rat×List Rat
def DR(ts:LL)(R:Rp)(q:List Rat):Pq:=uP R.v (G7 ts q R.h R.d R.w) R.p (dE ts R.a.1,dE ts R.a.2)
end
def Dx(ts:LL)(R:Rp)(qs:LL)(i:Nat):Sv:=⟨ts,[DR ts R (qs.getD i [])],if qs.length=1 then 0 else 1-2*(i:Int)⟩
def At(l:Li)(a:As)(i:Int)(j0 j:Jt):Rp:=⟨qR l i j,bh l j0 i,P2.l (fo l a j0 i),sh 0 (nP l i j0 j:Rat),sX (mJ l a i j0 j),P2.l (uT l a i j0 j)⟩
def jV(l:Li)(a:As)(i:Int)(j0 j:Jt):Et (llq a.rs):=qE (HI l i j)*mJ l a i j0 j-qE (nP l i j0 j)*qE (nP l i j0 j)
theorem QH{ts:LL}{r:Nat}(tw:Tw ts r){n d h:Et ts}(hs:¬aZ (n*d-h*h)<0)(h1:¬(aZ d=0/\aZ h=0)):aZ d≠0:=by
 intro h0;have S:=ox (aD ts) ts.length tw.pos
 have e1:sg (aD ts) ts.length (n*d)=0:=by
  rw[S.mul];have:sg (aD ts) ts.length d=0:=h0;rw[this];exact Int.mul_zero _
 have e2:=S.zadd (y:=-(h*h)) e1;rw[show n*d+-(h*h)=n*d-h*h by grind,S.neg,S.mul]at e2;have e3:aZ (n*d-h*h)=sg (aD ts) ts.length (n*d-h*h):=rfl;have e4:aZ h=sg (aD ts) ts.length h:=rfl;have h2:sg (aD ts) ts.length h≠0:=fun h9=>h1 ⟨h0,by rw[e4];exact h9⟩
 rw[e3,e2]at hs;rcases S.cs h with g |g |g
 ·rw[g]at hs;exact hs (by decide)
 ·exact h2 g
 ·rw[g]at hs;exact hs (by decide)
theorem P9{p q:Rat}(h:p*p+q*q=0):p=0/\q=0:=by
 have h1:=IU p;have h2:=IU q;have h3:p*p=0:=by grind
 have h4:q*q=0:=by grind
 exact⟨by rcases agh.1 h3 with g |g <;> exact g,by rcases agh.1 h4 with g |g <;> exact g⟩
theorem Yp{l:Li}(ae:ax l=0){n:Nat}{j:Jt}(hj:l.jo[n]?=some j)(hk:j.kind≠0){i:Int}(hi:j.b=i):gx (qR l i j) (qR l i j)≠0:=by
 intro h0;obtain⟨h1,h2⟩:=P9 h0;have h3:=JK ae hj;subst hi;have e1:(aJ l j.b j.to).1-(aJ l j.b j.on).1=0:=h1;have e2:(aJ l j.b j.to).2-(aJ l j.b j.on).2=0:=h2;have e3:((bV l j.b).getD j.on.toNat default).x.q=((bV l j.b).getD j.to.toNat default).x.q:=by unfold aJ at e1;dsimp only at e1;grind
 have e4:((bV l j.b).getD j.on.toNat default).y.q=((bV l j.b).getD j.to.toNat default).y.q:=by unfold aJ at e2;dsimp only at e2;grind
 unfold ek at h3;split at h3
 ·cases h3
 ·split at h3
  ·cases h3
  ·split at h3
   ·cases h3
   ·split at h3
    ·cases h3
    ·split at h3
     ·cases h3
     ·first |(rw[ait ⟨e3,e4⟩]at h3;cases h3) |(split at h3 <;> first |(cases h3;done) |(rename_i g;exact aiz ⟨e3,e4⟩ g))
theorem Xy{ts:LL}(q:Rat):sX (qE q:Et ts)=sh 0 (q:Rat):=Cz _ _
def Ld(l:Li)(a:As)(i:Int)(j0:Jt)(x:Tn):Pq:=uP (((1:Int):Rat),0) ((qE (Fh x.half x.t.q),qE (ER x.half x.t.q)):P2 (llq a.rs)) (bh l j0 i) (fo l a j0 i)
theorem aa5{E:Nat}{l:Li}{k:Int}{a:As}{own:Bool}{n:Nat}{g:Gr}(h:DyOk E l k a own n g)(hk:g.kind=0):∃i z0 d j0,g=⟨0,[i],[z0],d⟩/\l.jo[z0.toNat]?=some j0/\PinP E l a j0 i:=by
 have hd:=h.dy;cases hd with
 |rrr _ _ _ _ _ _ _=>exact aiz hk (by simp)
 |pr _ _ _=>exact aiz hk (by simp)
 |rp _ _ _=>exact aiz hk (by simp)
 | @drv b z d j x t d0 hd hb=>exact⟨b,z,d,j,rfl,t.hj,h.pin rfl t (by simp) (by simp)⟩
def Ax(m:Mt)(hs:List Hd):List Sv:=(List.range m.ps.length).map (HF m hs)
def Es(l:Li)(a:As)(i k:Int)(j0 j1 j2:Jt):List Sv :=
  if oE [b9 (bh l j2 i) (bh l j0 i),b9 (bh l j2 k) (bh l j1 k)]=true then[]
  else if xV (fo l a j0 i) (fo l a j1 k) (qE (lI (bh l j2 i) (bh l j0 i))) (qE (lI (bh l j2 k) (bh l j1 k)))≠0 then[]
  else Ax (tG (fo l a j0 i) (fo l a j1 k) (qE (lI (bh l j2 i) (bh l j0 i))) (qE (lI (bh l j2 k) (bh l j1 k)))) [⟨bh l j0 i,P2.l (fo l a j0 i),bh l j2 i⟩,⟨bh l j1 k,P2.l (fo l a j1 k),bh l j2 k⟩]
def CC(l:Li)(a:As)(i:Int)(j0 j:Jt):List Sv :=
  if oE [b9 (aJ l i j.point) (bh l j0 i)]=true then[]
  else if Ah (jw l a j.b j.on) (jw l a j.b j.to)≠0 then[]
  else Ax (sU (jw l a j.b j.on) (jw l a j.b j.to) (fo l a j0 i) (qE (lI (aJ l i j.point) (bh l j0 i)))) [⟨bh l j0 i,P2.l (fo l a j0 i),aJ l i j.point⟩]
def AD(ts:LL)(R:Rp)(qs:LL):List Sv:=(List.range qs.length).map (Dx ts R qs)
def Ez(l:Li)(a:As)(i:Int)(j0 j:Jt):List Sv :=
  if aZ (mJ l a i j0 j)=0/\aZ (qE (nP l i j0 j):Et (llq a.rs))=0 then[]
  else if aZ (jV l a i j0 j)<0 then[]
  else if 0<aZ (jV l a i j0 j)then AD (bX (llq a.rs) (sX (jV l a i j0 j))) (At l a i j0 j) [pq (llq a.rs).length,sX (-rT (jV l a i j0 j))]
  else AD (llq a.rs) (At l a i j0 j) [[]]
def Dv(l:Li)(a:As)(i:Int)(j0:Jt)(x:Tn):List Sv:=if x.err≠0 then[]else[⟨llq a.rs,[Ld l a i j0 x],1⟩]
def vi(l:Li)(a:As)(g:Gr)(x:Tn):List Sv :=
  if g.kind=0 then Dv l a (o8 g 0) (ke l g 0) x
  else if g.kind=1 then Es l a (o8 g 0) (o8 g 1) (ke l g 0) (ke l g 1) (ke l g 2)
  else if g.kind=2 then CC l a (o8 g 0) (ke l g 0) (ke l g 1)
  else Ez l a (o8 g 0) (ke l g 0) (ke l g 1)
section
variable{n N:Nat}{r r':(k:Nat)->T k}
end
section
variable{ts:LL}(X:Et ts)
end
theorem XU{ts:LL}:(qE ((1:Int):Rat):Et ts)=1:=rfl
section
variable{ts:LL}
theorem B8(r:(k:Nat)->T k):∀(n:Nat)(q:Rat),T.inv r n (T.ofQ n q)=T.ofQ n (1/q)
 |0,q=>rfl
 |n+1,q=>by
  show T.inv r (n+1) (T.ofQ n q,T.zero n)=(T.ofQ n (1/q),T.zero n);rw[T.inv_low,B8 r n q]
theorem YN:(iE (qE 1):Et ts)=1:=by
 show T.inv (aD ts) ts.length (T.ofQ ts.length 1)=_;rw[B8,show(1:Rat)/1=((1:Nat):Rat) by decide +kernel];rfl
end
theorem EH(r:(k:Nat)->T k)(q:Rat):∀(k:Nat){a c:List Rat},(∀i,i<2^k->c.getD i 0=q*a.getD i 0)->ao k c=T.mul r k (T.ofQ k q) (ao k a)
 |0,a,c,h=>h 0 (by decide)
 |k+1,a,c,h=>by
  have h1:=EH r q k (a:=a.take (2^k)) (c:=c.take (2^k)) (fun i hi=>by rw[kv,kv,ait hi,ait hi];exact h i (by rw[ado];omega));have h2:=EH r q k (a:=a.drop (2^k)) (c:=c.drop (2^k)) (fun i hi=>by rw[lG,lG];exact h _ (by rw[ado];omega));show(ao k (c.take (2^k)),ao k (c.drop (2^k)))=T.mul r (k+1) (T.ofQ k q,T.zero k) (ao k (a.take (2^k)),ao k (a.drop (2^k)));rw[T.mul_comm,T.mul_half,h1,h2,T.mul_comm r k (ao k (a.take _)),T.mul_comm r k (ao k (a.drop _))]
section
variable{ts:LL}
def Bz(e:Nat)(x:Et ts):Prop:=Nm ts.length e (sX x)
theorem Bz.mono{e f:Nat}{x:Et ts}(h:Bz e x)(hf:e<=f):Bz f x:=Nm.mono h hf
theorem Bz.add{e f:Nat}{x y:Et ts}(hx:Bz e x)(hy:Bz f y):Bz (e+f+1) (x+y):=Nm.addT hx hy
theorem Bz.sub{e f:Nat}{x y:Et ts}(hx:Bz e x)(hy:Bz f y):Bz (e+f+1) (x-y):=Nm.subT hx hy
theorem Bz.neg{e:Nat}{x:Et ts}(hx:Bz e x):Bz e (-x):=Nm.negT hx
theorem Bz.mul{r K e f:Nat}(tw:Tw ts r)(hK:eB r ts.length<=K){x y:Et ts}(hx:Bz e x)(hy:Bz f y):Bz (e+f+K) (x*y):=by
 have h:=Nm.mul tw rfl hx hy;have e1:∀z:Et ts,ao ts.length (sX z)=z:=fun z=>dY _ _
 rw[e1,e1]at h;exact Nm.mono h (Nat.add_le_add_left hK _)
theorem Bz.q{e:Nat}{q:Rat}(h5:ts.length<=5)(hq:Cb e [q]):Bz e (qE q:Et ts):=by
 unfold Bz;rw[Xy];exact Nm.ofQ h5 hq
theorem Bz.qm{e f:Nat}{q:Rat}{x:Et ts}(hq:Cb e [q])(hx:Bz f x):Bz (e+f) (qE q*x):=by
 obtain⟨D,N,h1,h2,h3⟩:=hq;obtain⟨D',N',k1,k2,k3⟩:=hx.cb;obtain⟨n,hn,hN⟩:=h1.2 q (ae4.2 rfl);have jI:ao ts.length (sX x)=x:=dY _ _
 have hd:ao ts.length ((sX x).map (q*·))=T.mul (aD ts) ts.length (T.ofQ ts.length q) (ao ts.length (sX x)):=EH _ q _ (fun i _=>by
  rw[ahh,aho,ahh];cases(sX x)[i]? with
  |none=>exact(Rat.mul_zero q).symm
  |some v=>rfl)
 rw[jI]at hd
 have hc:Cb (e+f) ((sX x).map (q*·)):=by
  refine⟨D*D',N*N',⟨adw h1.1 k1.1,?_⟩,?_,?_⟩
  ·intro z hz;obtain⟨y,hy,rfl⟩:=aft.1 hz;obtain⟨m,hm,hM⟩:=k1.2 y hy;refine⟨n*m,?_,?_⟩
   ·rw[Int.natCast_mul,agd,agd,<- hn,<- hm];grind
   ·rw[af6];exact adv hN hM
  ·rw[ail];exact adv h2 k2
  ·rw[ail];exact adv h3 k3
 have cJ:Nl ts.length ((sX x).map (q*·)):=by
  rcases hx.nl with h |⟨j,hj,h⟩
  ·exact .inl (by rw[h];rfl)
  ·exact .inr ⟨j,hj,by rw[ahk];exact h⟩
 refine⟨hx.five,iH _ _,?_⟩;have:=hc.sh cJ;rw[hd]at this;exact this
theorem Bz.mq{e f:Nat}{q:Rat}{x:Et ts}(hx:Bz f x)(hq:Cb e [q]):Bz (e+f) (x*qE q):=by
 rw[show x*qE q=qE q*x by grind];exact hx.qm hq
theorem Bz.iq{e f:Nat}{q:Rat}{x:Et ts}(hx:Bz f x)(hq:Cb e [q])(h0:q≠0):Bz (e+f) (x*iE (qE q)):=by
 have h:(iE (qE q):Et ts)=qE (1/q):=B8 _ _ q;rw[h];exact hx.mq (hq.inv1 h0)
theorem Bz.iv{r f j I:Nat}{y:Et ts}(tw:Tw ts r)(hy:Bz f y)(nb:Nl j (sX y))(hj:j<=ts.length)(h0:aZ y≠0)(hI:iB r j f<=I)(hs:I<=50000000000):Bz I (iE y):=by
 have hf:=Jp r j f;have hl:=Lv ts.length;have e1:ao ts.length (sX y)=y:=dY _ _;obtain⟨L,_,k2,k3,k4⟩:=Vz (b:=sX y) tw hy hj nb (by rw[e1];exact h0) oz oz;rw[e1]at k4;have:=k3.sh k2;rw[k4]at this;exact⟨tw.five,iH _ _,this.mono hI⟩
structure Pz(n ec ex:Nat)(p:Pq):Prop where
  c:Nm n ec p.c
  s:Nm n ec p.s
  x:Nm n ex p.x
  y:Nm n ex p.y
theorem Pz.mono{n n' a b a' b':Nat}{p:Pq}(h:Pz n a b p)(hn:n<=n')(h5:n'<=5)(ha:a<=a')(hb:b<=b'):Pz n' a' b' p :=
 ⟨⟨h5,h.c.nl.mono hn,h.c.cb.mono ha⟩,⟨h5,h.s.nl.mono hn,h.s.cb.mono ha⟩,⟨h5,h.x.nl.mono hn,h.x.cb.mono hb⟩,⟨h5,h.y.nl.mono hn,h.y.cb.mono hb⟩⟩
theorem Jf{s t e f:Nat}{u p:Rat×Rat}{w o:P2 ts}(hu:Sm t u)(hp:Sm s p)(h0:gx u u≠0)(w1:Bz e w.1)(w2:Bz e w.2)(o1:Bz f o.1)(o2:Bz f o.2) :
  Pz ts.length (2*e+6*t+2) (f+4*e+12*t+2*s+6) (uP u w p o):=by
 have u1:=Cb.one hu.x;have u2:=Cb.one hu.y;have p1:=Cb.one hp.x;have p2:=Cb.one hp.y;have n:=Cb.one (hu.dot hu);have c:=(((w1.qm u1).add (w2.qm u2)).iq n h0).mono (f:=2*e+6*t+2) oz;have d:=(((w2.qm u1).sub (w1.qm u2)).iq n h0).mono (f:=2*e+6*t+2) oz;exact⟨c,d,(o1.sub ((c.mq p1).sub (d.mq p2))).mono oz,(o2.sub ((d.mq p1).add (c.mq p2))).mono oz⟩
theorem tO{a:List Rat}{e:Nat}(h:Nm ts.length e a):Bz e (dE ts a):=by
 have:=h.cb.sh h.nl;exact⟨h.five,iH _ _,this⟩
theorem abq{s f:Nat}{p:Rat×Rat}{c d:Rat}{o:P2 ts}{g:Nat}(hc:Cb g [c])(hd:Cb g [d])(hp:Sm s p)(h5:ts.length<=5)(o1:Bz f o.1)(o2:Bz f o.2) :
  Pz ts.length (g+1) (f+2*g+2*s+4) (uP (((1:Int):Rat),0) ((qE c,qE d):P2 ts) p o):=by
 have e0:∀x:Et ts,(qE ((1:Int):Rat):Et ts)*x=x:=fun x=>by
  have:(qE ((1:Int):Rat):Et ts)=1:=rfl;rw[this];grind
 have e1:∀x:Et ts,(qE (0:Rat):Et ts)*x=0:=fun x=>by
  have:(qE (0:Rat):Et ts)=0:=rfl;rw[this];grind
 have e2:(iE (Bx (((1:Int):Rat),0)):Et ts)=1:=by
  show iE (qE (gx (((1:Int):Rat),0) (((1:Int):Rat),0)))=_;rw[show gx (((1:Int):Rat),(0:Rat)) (((1:Int):Rat),(0:Rat))=1 by decide +kernel];exact YN
 have ec:tL (((1:Int):Rat),0) ((qE c,qE d):P2 ts)=qE c:=by
  unfold tL;rw[e0,e1,e2];grind
 have ed:ud (((1:Int):Rat),0) ((qE c,qE d):P2 ts)=qE d:=by
  unfold ud;rw[e0,e1,e2];grind
 have p1:=Cb.one hp.x;have p2:=Cb.one hp.y;have c1:Bz g (qE c:Et ts):=Bz.q h5 hc;have d1:Bz g (qE d:Et ts):=Bz.q h5 hd;refine⟨?_,?_,?_,?_⟩
 ·show Bz _ (tL _ _);rw[ec];exact c1.mono oz
 ·show Bz _ (ud _ _);rw[ed];exact d1.mono oz
 ·show Bz _ (BF _ _ p o);unfold BF;rw[ec,ed];exact(o1.sub ((c1.mq p1).sub (d1.mq p2))).mono oz
 ·show Bz _ (Bm _ _ p o);unfold Bm;rw[ec,ed];exact(o2.sub ((d1.mq p1).add (c1.mq p2))).mono oz
structure Xz(ts:LL)(r X:Nat)(us:LL):Prop where
  tw:Tw us (r+X)
  up:ts.length<=us.length
  ln:us.length<=ts.length+1
theorem Cv{r X:Nat}(tw:Tw ts r)(hx:r+X<=5000000000):Xz ts r X ts:=⟨⟨tw.three,tw.len,tw.pos,tw.rb.mono oz,hx⟩,ahr _,by omega⟩
theorem yz{r X:Nat}(tw:Tw ts r)(hn:ts.length<=1)(hx:r+X<=5000000000){x:Et ts}(h:Bz X x)(hs:0<=aZ x):Xz ts r X (bX ts (sX x)) :=
 ⟨YG tw oz h hx (by rw[show ao ts.length (sX x)=x from dY _ _];exact hs),by rw[nT];omega,by rw[nT];omega⟩
theorem Bz.up{e:Nat}{X x:Et ts}(h:Bz e x)(hn:ts.length<=1):Bz e (iL X x):=by
 have h1:Nm (bX ts (sX X)).length e (sX x):=L6 h oz;exact tO h1
structure Szs(n r a b X K K' I J:Nat):Prop where
  n1:n<=1
  hK:eB r n<=K
  hX:24*a+8*K+5*b+23<=X
  hL:r+X<=5000000000
  hK':eB (r+X) (n+1)<=K'
  hI:iB r n (8*a+2*K+8)<=I
  hJ:iB (r+X) n (8*a+2*K+8)<=J
  hJ':J<=50000000000
  kk:K<=K'
  ij:I<=J
theorem Szs.kx{n r a b X K K' I J:Nat}(h:Szs n r a b X K K' I J){us:LL}(hu:us.length<=n+1):eB (r+X) us.length<=K':=ah8 (q7 _ hu) h.hK'
section
variable{r a b X K K' I J:Nat}(Z:Szs ts.length r a b X K K' I J)(tw:Tw ts r)
include Z tw
theorem CX{p q:P2 ts}(p1:Bz a p.1)(p2:Bz a p.2)(q1:Bz a q.1)(q2:Bz a q.2):Bz (8*a+2*K+5) (wt (iK q p) (iK q p)):=by
 have v1:=q1.sub p1;have v2:=q2.sub p2;exact((v1.mul tw Z.hK v1).add (v2.mul tw Z.hK v2)).mono oz
theorem BH{y:Et ts}(hy:Bz (8*a+2*K+8) y)(h0:aZ y≠0):Bz I (iE y) :=
 hy.iv tw (iH _ _) (ahr _) h0 Z.hI (by have:=Z.ij;have:=Z.hJ';omega)
theorem EO{x y:Et ts}(hx:Bz X x)(hs:0<=aZ x)(hy:Bz (8*a+2*K+8) y)(h0:aZ y≠0):Bz J (iE (iL x y)):=by
 have E:=yz tw Z.n1 Z.hL hx hs
 have e1:sX (iL x y)=sX y:=by
  have:=(Tu (X:=x) Z.n1 _ y hy).2;exact this
 refine(hy.up Z.n1).iv E.tw (j:=ts.length) (by rw[e1];exact iH _ _) E.up (by rw[Zb];exact h0) Z.hJ Z.hJ'
theorem CK{x:Et ts}:Bz 1 (dE (bX ts (sX x)) (pq ts.length)):=by have _:=tw;exact tO (Xo (by have:=Z.n1;omega))
theorem P3{p q:P2 ts}{z z2:Et ts}(p1:Bz a p.1)(p2:Bz a p.2)(q1:Bz a q.1)(q2:Bz a q.2)(hz:Bz b z)(ki:Bz b z2)(h0:xV p q z z2=0) :
  Xz ts r X (tG p q z z2).ts/\∀m∈(tG p q z z2).ps,Nm (tG p q z z2).ts.length (13*a+2*b+5*K+2*K'+I+J+20) m.1/\Nm (tG p q z z2).ts.length (13*a+2*b+5*K+2*K'+I+J+20) m.2:=by
 have hn:=Z.n1;have cp:=Z.kk;have hd:Bz (8*a+2*K+5) (kf p q):=CX Z tw (p:=q) (q:=p) q1 q2 p1 p2;have hm:=(hz.add hd).sub ki;have q4:Cb 3 [((4:Int):Rat)]:=Cb.int (z:=4) (by decide);have q2':Cb 2 [((2:Int):Rat)]:=Cb.int (z:=2) (by decide);have qm1:Cb 1 [((-1:Int):Rat)]:=Cb.int (z:=-1) (by decide)
 have hX:Bz X (iJ p z q z2):=by
  have h:=((hz.mul tw Z.hK hd).qm q4).sub (hm.mul tw Z.hK hm);have h2:=h.mono (f:=X) (by have:=Z.hX;omega);exact h2
 have same:=Cv (X:=X) tw Z.hL;have v1:=q1.sub p1;have v2:=q2.sub p2;unfold xV MR at h0;unfold tG M9
 by_cases hs:aZ (kf p q)=0
 ·rw[ait hs]at h0 ⊢
  by_cases aX:aZ (z-z2)≠0
  ·rw[ait aX];exact⟨same,fun m hm=>by cases hm⟩
  ·rw[ais aX]
   by_cases hp:0<aZ z
   ·rw[ait ⟨ahf.1 aX,hp⟩]at h0;cases h0
   ·rw[ais hp]
    have n0:Bz 0 (0:Et ts):=by
     have:=Bz.q (ts:=ts) (e:=0) (q:=0) oz (Cb.int (z:=0) (by decide));exact this
    refine⟨same,uJ ⟨?_,?_⟩⟩
    ·exact(p1.add (n0.mul tw Z.hK p1)).mono (f:=13*a+2*b+5*K+2*K'+I+J+20) oz
    ·exact(p2.add (n0.mul tw Z.hK p2)).mono (f:=13*a+2*b+5*K+2*K'+I+J+20) oz
 ·rw [ais hs];have xy:aZ (v9 (kf p q)) ≠ 0:=by rw [XT tw]; exact hs
  have ht:Bz (8*a+2*K+8) (v9 (kf p q)):=Bz.mono (e:=2+(8*a+2*K+5)) (hd.qm q2') oz
  by_cases kZ:aZ (iJ p z q z2)<0
  ·rw[ait kZ];exact⟨same,fun m hm=>by cases hm⟩
  ·rw[ais kZ];have hk:=hm.mul tw Z.hK (BH Z tw ht xy);have f1:Bz (11*a+2*b+4*K+I+10) (vf p q z z2).1:=(p1.add (hk.mul tw Z.hK v1)).mono oz;have f2:Bz (11*a+2*b+4*K+I+10) (vf p q z z2).2:=(p2.add (hk.mul tw Z.hK v2)).mono oz
   by_cases rz:aZ (iJ p z q z2)=0
   ·rw[ait rz];exact⟨same,uJ ⟨f1.mono oz,f2.mono oz⟩⟩
   ·rw [ais rz];have fY:0 <= aZ (iJ p z q z2):=by omega
    have E:=yz tw hn Z.hL hX fY;have gp:=Z.kx E.ln;have s1:=(CK Z tw (x:=iJ p z q z2)).mul E.tw gp (EO Z tw hX fY ht xy);have s2:=s1.qm qm1;have w1:=(v2.up (X:=iJ p z q z2) hn).qm qm1;have w2:=v1.up (X:=iJ p z q z2) hn;have g1:=f1.up (X:=iJ p z q z2) hn;have g2:=f2.up (X:=iJ p z q z2) hn;exact⟨E,Ca ⟨(g1.add (s1.mul E.tw gp w1)).mono oz,(g2.add (s1.mul E.tw gp w2)).mono oz⟩ ⟨(g1.add (s2.mul E.tw gp w1)).mono oz,(g2.add (s2.mul E.tw gp w2)).mono oz⟩⟩
theorem TE{p q o:P2 ts}{z:Et ts}(p1:Bz a p.1)(p2:Bz a p.2)(q1:Bz a q.1)(q2:Bz a q.2)(o1:Bz a o.1)(o2:Bz a o.2)(hz:Bz b z)(h0:Ah p q=0) :
  Xz ts r X (sU p q o z).ts/\∀m∈(sU p q o z).ps,Nm (sU p q o z).ts.length (13*a+2*b+5*K+2*K'+I+J+20) m.1/\Nm (sU p q o z).ts.length (13*a+2*b+5*K+2*K'+I+J+20) m.2:=by
 have hn:=Z.n1;have cp:=Z.kk;have hS:=(CX Z tw p1 p2 q1 q2)
 have v1:=q1.sub p1;have v2:=q2.sub p2;have w1:=o1.sub p1;have w2:=o2.sub p2;have hE:Bz (8*a+2*K+5) (zt p q o):=((v1.mul tw Z.hK w1).add (v2.mul tw Z.hK w2)).mono oz;have hC:Bz (8*a+2*K+5) (CZ p q o):=((v1.mul tw Z.hK w2).sub (v2.mul tw Z.hK w1)).mono oz;have hX:Bz X (er p q o z):=((hS.mul tw Z.hK hz).sub (hC.mul tw Z.hK hC)).mono (by have:=Z.hX;omega);have same:=Cv (X:=X) tw Z.hL;unfold Ah at h0;unfold sU
 by_cases hs:aZ (q8 p q)=0
 ·rw[ait hs]at h0;cases h0
 ·rw[ais hs]
  by_cases h1:aZ (er p q o z)=-1
  ·rw[ait h1];exact⟨same,fun m hm=>by cases hm⟩
  ·rw[ais h1]
   by_cases h2:aZ (er p q o z)=0
   ·rw[ait h2];have hk:=hE.mul tw Z.hK (BH Z tw (hS.mono oz) hs);exact⟨same,uJ ⟨(p1.add (hk.mul tw Z.hK v1)).mono (f:=13*a+2*b+5*K+2*K'+I+J+20) oz,(p2.add (hk.mul tw Z.hK v2)).mono (f:=13*a+2*b+5*K+2*K'+I+J+20) oz⟩⟩
   ·rw[ais h2]
    have fY:0<=aZ (er p q o z):=by
     have:=T.sgn_cases (aD ts) ts.length (er p q o z);have e:aZ (er p q o z)=T.sgn (aD ts) ts.length (er p q o z):=rfl;omega
    have E:=yz tw hn Z.hL hX fY;have gp:=Z.kx E.ln;have hi:=EO Z tw hX fY (hS.mono oz) hs;have rt:=CK Z tw (x:=er p q o z);have k1:=((hE.up (X:=er p q o z) hn).add rt).mul E.tw gp hi;have k2:=((hE.up (X:=er p q o z) hn).sub rt).mul E.tw gp hi;have g1:=p1.up (X:=er p q o z) hn;have g2:=p2.up (X:=er p q o z) hn;have u1:=v1.up (X:=er p q o z) hn;have u2:=v2.up (X:=er p q o z) hn;exact⟨E,Ca ⟨(g1.add (k1.mul E.tw gp u1)).mono oz,(g2.add (k1.mul E.tw gp u2)).mono oz⟩ ⟨(g1.add (k2.mul E.tw gp u1)).mono oz,(g2.add (k2.mul E.tw gp u2)).mono oz⟩⟩
end
end
def Cs(s:Nat)(l:Li):Prop:=∀b∈l.bo,∀m∈b.pts,Qb s m.x.q/\Qb s m.y.q
section
variable{s:Nat}{l:Li}(hl:l.ok)(ae:ax l=0)(bp:Cs s l)
include hl ae bp
theorem vB{body pt:Int}(h1:aV body l.bo.length=true)(h2:aV pt (bV l body).length=true):Sm s (aJ l body pt):=by
 obtain⟨n,k,bd,m,h⟩:=vN hl ae h1 h2;obtain⟨c1,c2⟩:=bp bd (ahg h.gbd) m (ahg h.gm);rw[h.ex,bG]at c1;rw[h.ey,bG]at c2;exact⟨c1,c2⟩
theorem qd{i:Nat}{j:Jt}(hj:l.jo[i]?=some j){b:Int}(h:j.a=b\/j.b=b):Sm s (bh l j b):=by
 obtain⟨i1,i2,i3,i4,_⟩:=d8 ae hj;unfold bh
 by_cases e:j.a=b
 ·rw[ait e];subst e;exact vB hl ae bp i1 i3
 ·rw[ais e];rcases h with h |h
  ·exact aiz h e
  ·subst h;exact vB hl ae bp i2 i4
theorem uX{E r K:Nat}{a:As}(al:AB a)(hc:fg a.rs=0)(tw:Tw (llq a.rs) r)(hK:eB r (llq a.rs).length<=K){body pt:Int}(h1:aV body l.bo.length=true)(h2:aV pt (bV l body).length=true)(hb:Pd E a body) :
  Bz (3*E+2*s+2*K+10) (jw l a body pt).1/\Bz (3*E+2*s+2*K+10) (jw l a body pt).2:=by
 obtain⟨n,k,bd,m,b,hp⟩:=VO hl ae al hc h1 h2 hb;obtain⟨c1,c2⟩:=bp bd (ahg hp.mp.gbd) m (ahg hp.mp.gm);have h:=Z9 tw hp.ok c1 c2;have hk:kB r (llq a.rs).length<=K:=hK;unfold jw Bz;rw[hp.eq];exact⟨h.1.mono oz,h.2.mono oz⟩
theorem uW{E r K:Nat}{a:As}(al:AB a)(hc:fg a.rs=0)(tw:Tw (llq a.rs) r)(hK:eB r (llq a.rs).length<=K){i:Nat}{j:Jt}(hj:l.jo[i]?=some j){b:Int}(h:PinP E l a j b) :
  Bz (3*E+2*s+2*K+10) (fo l a j b).1/\Bz (3*E+2*s+2*K+10) (fo l a j b).2:=by
 obtain⟨i1,i2,i3,i4,_⟩:=d8 ae hj;unfold fo;rcases h.tie with⟨e,hb⟩ |⟨e,e2,hb⟩
 ·rw[ait e];exact uX hl ae bp al hc tw hK i2 i4 hb
 ·rw[ais e];exact uX hl ae bp al hc tw hK i1 i3 hb
end
theorem Bz.upX{ts us:LL}{e:Nat}{x:Et ts}(h:Bz e x)(h1:ts.length<=us.length)(h5:us.length<=5):Bz e (dE us (sX x)):=tO ⟨h5,Nl.mono h.nl h1,h.cb⟩
theorem Cg{s:Nat}{p q:Rat×Rat}(hp:Sm s p)(hq:Sm s q):Cb (8*s+5) [lI p q]:=by
 have h:=(hp.sub hq).dot (hp.sub hq);exact Cb.one (h.mono oz)
abbrev wZ(a b K K' I J:Nat):Nat:=14*a+3*b+5*K+3*K'+I+J+25
abbrev oZ(s a b K K' I J:Nat):Nat:=a+4*wZ a b K K' I J+26*s+18
theorem DD{n a b ec ex e:Nat}{p:Pq}(h:Pz n ec ex p)(h1:ec<=e)(h2:ex<=e):Pq.ok n e p:=⟨h.c.mono h1,h.s.mono h1,h.x.mono h2,h.y.mono h2⟩
section
variable{ts:LL}{r a b X K K' I J:Nat}(Z:Szs ts.length r a b X K K' I J)(tw:Tw ts r)
include Z tw
theorem MJ{s:Nat}{m:Mt}(hx:Xz ts r X m.ts)(hm:∀x∈m.ps,Nm m.ts.length (13*a+2*b+5*K+2*K'+I+J+20) x.1/\Nm m.ts.length (13*a+2*b+5*K+2*K'+I+J+20) x.2){hs:List Hd}
  (hh:∀h∈hs,Sm s h.p/\Sm s h.c/\gx (b9 h.c h.p) (b9 h.c h.p)≠0/\∃o:P2 ts,h.a=P2.l o/\Bz a o.1/\Bz a o.2) :
  ∀sv∈Ax m hs,Xz ts r X sv.ts/\∀p∈sv.ps,Pq.ok sv.ts.length (oZ s a b K K' I J) p:=by
 have _:=Z;have _:=tw;intro sv h1;unfold Ax at h1;obtain⟨i,hi,rfl⟩:=aft.1 h1;obtain⟨x,Pk⟩:=aB (afu.1 hi);obtain⟨n1,n2⟩:=hm x (ahg Pk);refine⟨hx,fun p hp=>?_⟩;unfold HF at hp;rw[aQ Pk]at hp;obtain⟨h,h2,rfl⟩:=aft.1 hp;obtain⟨Bc,eL,h0,o,ea,o1,o2⟩:=hh h h2;have h5:=hx.tw.five;have u1:=o1.upX hx.up h5;have u2:=o2.upX hx.up h5;have w1:=tO n1;have w2:=tO n2;have e1:h.a.1=sX o.1:=by rw[ea]
 have e2:h.a.2=sX o.2:=by rw[ea]
 have z:=Jf (ts:=m.ts) (u:=b9 h.c h.p) (p:=h.p) (w:=Ab m.ts h x) (o:=zp m.ts h) (e:=13*a+2*b+5*K+2*K'+I+J+20+a+1) (f:=a) (eL.sub Bc) Bc h0
  (by unfold Ab;rw[e1];exact w1.sub u1) (by unfold Ab;rw[e2];exact w2.sub u2) (by unfold zp;rw[e1];exact u1) (by unfold zp;rw[e2];exact u2)
 exact DD (a:=a) (b:=b) z (by show _<=a+4*(14*a+3*b+5*K+3*K'+I+J+25)+26*s+18;omega) (by show _<=a+4*(14*a+3*b+5*K+3*K'+I+J+25)+26*s+18;omega)
theorem SO{s:Nat}{us:LL}(hx:Xz ts r X us){R:Rp}{q:List Rat}(hv:Sm (2*s+1) R.v)(hp:Sm s R.p)(h0:gx R.v R.v≠0)(hq:Bz 1 (dE us q))(w1:Bz (2*a+1) (dE us R.w.1))(w2:Bz (2*a+1) (dE us R.w.2))(hh:Bz b (dE us R.h))
  (hd:Bz J (iE (dE us R.d))) (a1:Bz a (dE us R.a.1)) (a2:Bz a (dE us R.a.2)):Pq.ok us.length (oZ s a b K K' I J) (DR us R q):=by
 have _:=tw;have gp:=Z.kx hx.ln;have x1:=(((hq.mul hx.tw gp w1).sub (hh.mul hx.tw gp w2.neg)).mul hx.tw gp hd)
 have x2:=(((hq.mul hx.tw gp w2).sub (hh.mul hx.tw gp w1)).mul hx.tw gp hd)
 have z:=Jf (ts:=us) (u:=R.v) (p:=R.p) (w:=G7 us q R.h R.d R.w) (o:=(dE us R.a.1,dE us R.a.2)) (e:=wZ a b K K' I J) (f:=a) hv hp h0
  (x1.mono (by show _<=14*a+3*b+5*K+3*K'+I+J+25;omega)) (x2.mono (by show _<=14*a+3*b+5*K+3*K'+I+J+25;omega)) a1 a2
 exact DD (a:=a) (b:=b) z (by show _<=a+4*(14*a+3*b+5*K+3*K'+I+J+25)+26*s+18;simp only[wZ];omega) (by show _<=a+4*(14*a+3*b+5*K+3*K'+I+J+25)+26*s+18;simp only[wZ];omega)
end
section
variable{s r b X K K' I J E:Nat}{l:Li}{a:As}(D:DyR l a)(hn:(llq a.rs).length<=1)(bp:Cs s l)(tw:Tw (llq a.rs) r)
  (Z:Szs (llq a.rs).length r (3*E+2*s+2*K+10) b X K K' I J) (hb:8*s+5<=b)
include D hn bp tw Z hb
theorem ZI{g:Gr}{i k z0 z1 z2:Int}{j0 j1 j2:Jt}(P:RrrP E l a g i k z0 z1 z2 j0 j1 j2) :
  ∀sv∈Es l a i k j0 j1 j2,Xz (llq a.rs) r X sv.ts/\∀p∈sv.ps,Pq.ok sv.ts.length (oZ s (3*E+2*s+2*K+10) b K K' I J) p:=by
 have _:=hn;have rN:=qd D.hl D.li bp P.h0 P.p0.or;have mX:=qd D.hl D.li bp P.h1 P.p1.or;have mV:=qd D.hl D.li bp P.h2 P.t1;have Pm:=qd D.hl D.li bp P.h2 P.t2;obtain⟨y1,y2⟩:=uW D.hl D.li bp D.al D.hc tw Z.hK P.h0 P.p0;obtain⟨y3,y4⟩:=uW D.hl D.li bp D.al D.hc tw Z.hK P.h1 P.p1;have z1:Bz b (qE (lI (bh l j2 i) (bh l j0 i)):Et (llq a.rs)):=Bz.q tw.five ((Cg mV rN).mono hb);have z2:Bz b (qE (lI (bh l j2 k) (bh l j1 k)):Et (llq a.rs)):=Bz.q tw.five ((Cg Pm mX).mono hb);unfold Es
 by_cases h1:oE [b9 (bh l j2 i) (bh l j0 i),b9 (bh l j2 k) (bh l j1 k)]=true
 ·rw[ait h1];intro sv h;cases h
 ·rw[ais h1];obtain⟨w1,w2⟩:=TF (agn.2 h1)
  by_cases h2:xV (fo l a j0 i) (fo l a j1 k) (qE (lI (bh l j2 i) (bh l j0 i))) (qE (lI (bh l j2 k) (bh l j1 k)))≠0
  ·rw[ait h2];intro sv h;cases h
  ·rw[ais h2];obtain⟨hx,hm⟩:=P3 Z tw y1 y2 y3 y4 z1 z2 (ahf.1 h2);exact MJ Z tw hx hm (Ca ⟨rN,mV,w1,_,rfl,y1,y2⟩ ⟨mX,Pm,w2,_,rfl,y3,y4⟩)
theorem ZL{g:Gr}{i z0 z1:Int}{j0 j:Jt}(P:SlP E l a g 2 i z0 z1 j0 j)(ha:j.a=i)(cK:Pd E a j.b) :
  ∀sv∈CC l a i j0 j,Xz (llq a.rs) r X sv.ts/\∀p∈sv.ps,Pq.ok sv.ts.length (oZ s (3*E+2*s+2*K+10) b K K' I J) p:=by
 have _:=hn;obtain⟨i1,i2,i3,i4,i5⟩:=d8 D.li P.h1;have mV:Sm s (aJ l i j.point):=by rw[<- ha];exact vB D.hl D.li bp i1 i3
 have rN:=qd D.hl D.li bp P.h0 P.p0.or;obtain⟨y1,y2⟩:=uW D.hl D.li bp D.al D.hc tw Z.hK P.h0 P.p0;obtain⟨y3,y4⟩:=uX D.hl D.li bp D.al D.hc tw Z.hK i2 i4 cK;obtain⟨y5,y6⟩:=uX D.hl D.li bp D.al D.hc tw Z.hK i2 (i5 P.hk) cK;have z1:Bz b (qE (lI (aJ l i j.point) (bh l j0 i)):Et (llq a.rs)):=Bz.q tw.five ((Cg mV rN).mono hb);unfold CC
 by_cases h1:oE [b9 (aJ l i j.point) (bh l j0 i)]=true
 ·rw[ait h1];intro sv h;cases h
 ·rw[ais h1];have w1:=abk (agn.2 h1)
  by_cases h2:Ah (jw l a j.b j.on) (jw l a j.b j.to)≠0
  ·rw[ait h2];intro sv h;cases h
  ·rw[ais h2];obtain⟨hx,hm⟩:=TE Z tw y3 y4 y5 y6 y1 y2 z1 (ahf.1 h2);exact MJ Z tw hx hm (uJ ⟨rN,mV,w1,_,rfl,y1,y2⟩)
theorem VY{g:Gr}{i z0 z1:Int}{j0 j:Jt}(P:SlP E l a g 3 i z0 z1 j0 j)(hj:j.b=i)(cK:Pd E a j.a) :
  ∀sv∈Ez l a i j0 j,Xz (llq a.rs) r X sv.ts/\∀p∈sv.ps,Pq.ok sv.ts.length (oZ s (3*E+2*s+2*K+10) b K K' I J) p:=by
 obtain⟨i1,i2,i3,i4,i5⟩:=d8 D.li P.h1;have kV:=qd D.hl D.li bp P.h0 P.p0.or;have iS:Sm s (aJ l i j.on):=by rw[<- hj];exact vB D.hl D.li bp i2 i4
 have hs2:Sm s (aJ l i j.to):=by rw[<- hj];exact vB D.hl D.li bp i2 (i5 P.hk)
 have hv:Sm (2*s+1) (qR l i j):=(hs2.sub iS).mono oz;have qn:Cb b [HI l i j]:=(Cb.one (hv.dot hv)).mono oz;have qh:Cb b [nP l i j0 j]:=(Cb.one (hv.cross (iS.sub kV))).mono oz;obtain⟨o1,o2⟩:=uW D.hl D.li bp D.al D.hc tw Z.hK P.h0 P.p0;obtain⟨p1,p2⟩:=uX D.hl D.li bp D.al D.hc tw Z.hK i1 i3 cK;have w1:Bz (2*(3*E+2*s+2*K+10)+1) (uT l a i j0 j).1:=Bz.mono (p1.sub o1) oz;have w2:Bz (2*(3*E+2*s+2*K+10)+1) (uT l a i j0 j).2:=Bz.mono (p2.sub o2) oz;have hd:Bz (8*(3*E+2*s+2*K+10)+2*K+8) (mJ l a i j0 j):=Bz.mono (CX Z tw (p:=fo l a j0 i) (q:=jw l a j.a j.point) o1 o2 p1 p2) oz;have hX:Bz X (jV l a i j0 j):=Bz.mono ((hd.qm qn).sub ((Bz.q tw.five qh).qm qh)) (by have:=Z.hX;omega);have h0:=Yp D.li P.h1 P.hk hj;unfold Ez
 by_cases h1:aZ (mJ l a i j0 j)=0/\aZ (qE (nP l i j0 j):Et (llq a.rs))=0
 ·rw[ait h1];intro sv h;cases h
 ·rw[ais h1]
  by_cases h2:aZ (jV l a i j0 j)<0
  ·rw[ait h2];intro sv h;cases h
  ·rw[ais h2];have pY:aZ (mJ l a i j0 j)≠0:=QH tw h2 h1
   have key:∀us,Xz (llq a.rs) r X us->Bz J (iE (dE us (sX (mJ l a i j0 j))))->∀q,Bz 1 (dE us q)->Pq.ok us.length (oZ s (3*E+2*s+2*K+10) b K K' I J) (DR us (At l a i j0 j) q):=by
    intro us hx hi q hq;have h5:=hx.tw.five
    have hh:Bz b (dE us (sh 0 (nP l i j0 j:Rat))):=by
     have e:dE us (sh 0 (nP l i j0 j:Rat))=qE (nP l i j0 j):=tJ _ _;rw[e];exact Bz.q h5 qh
    exact SO Z tw hx (R:=At l a i j0 j) hv kV h0 hq (w1.upX hx.up h5) (w2.upX hx.up h5) hh hi (o1.upX hx.up h5) (o2.upX hx.up h5)
   by_cases h3:0<aZ (jV l a i j0 j)
   ·rw [ait h3];have hx:=yz tw hn Z.hL hX oz;have hi:=EO Z tw hX (by omega:0 <= aZ (jV l a i j0 j)) hd pY;have rt:=CK Z tw (x:=jV l a i j0 j);have k:=key _ hx hi;intro sv h;unfold AD at h;obtain ⟨n,kW,rfl⟩:=aft.1 h;refine ⟨hx,fun p hp=>?_⟩;unfold Dx at hp;rw [ae4.1 hp]
    match n,afu.1 kW with
    |0,_=>exact k _ rt
    |1,_ =>
     refine k _ ?_;show Bz 1 (dE _ (sX (-rT (jV l a i j0 j))));have e:dE (bX (llq a.rs) (sX (jV l a i j0 j))) (sX (-rT (jV l a i j0 j)))=-rT (jV l a i j0 j):=dY _ _;rw[e];exact rt.neg
   ·rw[ais h3];have hx:=Cv (X:=X) tw Z.hL;have e:dE (llq a.rs) (sX (mJ l a i j0 j))=mJ l a i j0 j:=dY _ _
    have hi:Bz J (iE (dE (llq a.rs) (sX (mJ l a i j0 j)))):=by
     rw[e];exact(BH Z tw hd pY).mono Z.ij
    have k:=key _ hx hi;intro sv h;unfold AD at h;obtain⟨n,kW,rfl⟩:=aft.1 h;refine⟨hx,fun p hp=>?_⟩;unfold Dx at hp;rw[ae4.1 hp]
    match n,afu.1 kW with
    |0,_=>exact k _ (tO ⟨tw.five,.inl rfl,⟨1,0,⟨by decide,fun q h=>by cases h⟩,by decide,by decide⟩⟩)
end
theorem Xp{l:Li}{kw:List Bool}{g:Gr}(h:cG l kw=some g):∀x∈g.bo,e8 l kw x=true:=by
 unfold cG at h;rw[ahl]at h;obtain⟨i,hi,h⟩:=h;obtain⟨h1,h2⟩:=fm hi;split at h
 ·rename_i k hk;subst h;unfold gV at hk;rw [ahl] at hk;obtain ⟨k',hk',rfl⟩:=hk;obtain ⟨h3,h4⟩:=fm hk';rw [show i + 1 + k' = k' + (i + 1) by omega] at h4;unfold df at h4;simp only [agr,ahj,aiu] at h4;obtain ⟨⟨f1,f2⟩,_⟩:=h4;intro x hx;simp only [il,ah3,ahy,or_false] at hx;rcases hx with rfl | rfl
  ·exact f1
  ·exact f2
 ·rename_i hk;rw[hk]at h2;cases h2
theorem X4{l:Li}{kw:List Bool}{g:Gr}(h:d9 l kw=some g):∀x∈g.bo,e8 l kw x=true:=by
 unfold d9 at h;rw[ahl]at h;obtain⟨i,hi,rfl⟩:=h;obtain⟨h1,h2⟩:=fm hi;unfold fU at h2;simp only[agr,ahj,aiu]at h2;intro x hx;simp only[iO,ah3,ahy,or_false]at hx;subst hx;exact h2.1
structure Aq where
  ts:LL
  bs:List Pq
  ms:List Int
instance:Inhabited Pq:=⟨⟨[],[],[],[]⟩⟩
instance:Inhabited Aq:=⟨⟨[],[],[]⟩⟩
def Pq.pl(p:Pq):Pl:=⟨p.c.map rt,p.s.map rt,p.x.map rt,p.y.map rt⟩
def Aq.as(a:Aq):As:=⟨a.ts.map (List.map rt),a.bs.map Pq.pl,a.ms⟩
abbrev Aq.cs(a:Aq):List AV:=[.lst 1 (a.ts.map nA),.lst 4 (a.bs.map Pq.av),.lst 1 (a.ms.map i64)]
abbrev Aq.av(a:Aq):AV:=.agg a.cs
theorem Aq.llq(a:Aq):Lw.llq a.as.rs=a.ts:=EX _
def D8(bs:List Pq)(is:List Int)(ps:List Pq):List Pq:=(is.zip ps).foldl (fun k x=>k.set x.1.toNat x.2) bs
def Aq.nxt(a:Aq)(g:Gr)(s:Sv):Aq:=⟨s.ts,D8 a.bs g.bo s.ps,a.ms++[s.mode]⟩
def rS:Pq:=⟨[],[],[],[]⟩
def vA:Tn:=⟨⟨false,[],[]⟩,false⟩
def ql(g:Gr)(xs:List Tn):Tn:=if g.kind=0 then xs.getD g.driver.toNat vA else vA
theorem NP:∀(zs:List (Int×Pq))(bs:List Pq),(zs.foldl (fun k x=>k.set x.1.toNat x.2) bs).length=bs.length
 |[],bs=>rfl
 |z::zs,bs=>by rw[afw,NP zs,air]
theorem MI:∀(zs:List (Int×Pq))(bs:List Pq)(p:Pq),p∈zs.foldl (fun k x=>k.set x.1.toNat x.2) bs->p∈bs\/∃z∈zs,z.2=p
 |[],bs,p,h=>.inl h
 |z::zs,bs,p,h=>by
  rw[afw]at h;rcases MI zs _ p h with h |⟨z',hz,e⟩
  ·rcases aex h with h |h
   ·exact .inl h
   ·exact .inr ⟨z,aig,h.symm⟩
  ·exact .inr ⟨z',ah6 _ hz,e⟩
theorem Nk(bs:List Pq)(is:List Int)(ps:List Pq):(D8 bs is ps).length=bs.length:=NP _ _
theorem KT{bs:List Pq}{is:List Int}{ps:List Pq}{p:Pq}(h:p∈D8 bs is ps):p∈bs\/p∈ps:=by
 rcases MI _ _ _ h with h |⟨z,hz,e⟩
 ·exact .inl h
 ·exact .inr (e▸(List.of_mem_zip hz).2)
def mw(s j r E:Nat):Nat:=3*E+2*s+2*eB r j+10
def lF(s j r E:Nat):Nat:=24*mw s j r E+8*eB r j+5*(8*s+5)+23
def GI(s j r E:Nat):Nat:=iB r j (8*mw s j r E+2*eB r j+8)
def Aj(s j r E:Nat):Nat:=iB (r+lF s j r E) j (8*mw s j r E+2*eB r j+8)
def vF(s j r E:Nat):Nat:=oZ s (mw s j r E) (8*s+5) (eB r j) (eB (r+lF s j r E) (j+1)) (GI s j r E) (Aj s j r E)
def oL(s g j r E:Nat):Nat:=mw s j r E+2*g+2*s+4
def eZ(g:Nat):Nat:=if g<=134 then 3200000000 else 10200000000
def rZ(g:Nat):Nat:=if g<=134 then 60000000 else 170000000
def jZ(s g:Nat):Nat->Nat->Nat->Nat->Nat->Bool
  |0,_,j,r,E=>decide (E<=eZ g/\r<=rZ g/\j<=2)
  |n+1,y,j,r,E=>decide (E<=eZ g/\r<=rZ g/\j<=2)&&(jZ s g n y j r (oL s g j r E) &&
      (decide (y=0)||(decide (j<=1/\E<=3900000/\r<=132000/\r+lF s j r E<=5000000000/\Aj s j r E<=50000000000)&&jZ s g n (y-1) (j+1) (r+lF s j r E) (vF s j r E))))
theorem Tr{s g n y j r E:Nat}(h:jZ s g n y j r E=true):E<=eZ g/\r<=rZ g/\j<=2:=by
 cases n with
 |zero=>exact aiv h
 |succ n =>
  unfold jZ at h;simp only[ahj,aiu]at h;exact⟨h.1.1,h.1.2.1,h.1.2.2⟩
theorem Xh{s g n y j r E:Nat}(h:jZ s g n y j r E=true):E<=10200000000/\r<=400000000/\j<=2:=by
 have h:=Tr h;unfold eZ rZ at h;split at h <;> omega
theorem aai{s g n y j r E:Nat}(h:jZ s g (n+1) y j r E=true):(E<=20000000000/\r<=400000000/\j<=2)/\jZ s g n y j r (oL s g j r E)=true:=by
 have h3:=Xh h;unfold jZ at h;simp only[ahj,aiu]at h;exact⟨by omega,h.2.1⟩
theorem aag{s g n y j r E:Nat}(h:jZ s g (n+1) (y+1) j r E=true):(j<=1/\E<=3900000/\r<=132000/\r+lF s j r E<=5000000000/\Aj s j r E<=50000000000)/\jZ s g n y (j+1) (r+lF s j r E) (vF s j r E)=true:=by
 unfold jZ at h;simp only[ahj,aio,aiu,aeq]at h;rcases h.2.2 with h1 |h1
 ·omega
 ·exact h1
structure QInv(l:Li)(j r E:Nat)(a:Aq):Prop where
  tw:Tw a.ts r
  lv:a.ts.length<=j
  bs:∀p∈a.bs,Pq.ok a.ts.length E p
  ln:a.bs.length=l.bo.length
theorem Pq.ok.up{n n' e e':Nat}{p:Pq}(h:Pq.ok n e p)(hn:n<=n')(h5:n'<=5)(he:e<=e'):Pq.ok n' e' p :=
 ⟨⟨h5,h.c.nl.mono hn,h.c.cb.mono he⟩,⟨h5,h.s.nl.mono hn,h.s.cb.mono he⟩,⟨h5,h.x.nl.mono hn,h.x.cb.mono he⟩,⟨h5,h.y.nl.mono hn,h.y.cb.mono he⟩⟩
theorem Pq.ok.lv{n m e:Nat}{p:Pq}(h:Pq.ok n e p)(hn:n=m):Pq.ok m e p:=hn▸h
theorem Ag{r r':Nat}(h:r<=r'):∀j,eB r j<=eB r' j
 |0=>ahr _
 |j+1=>by have:=Ag h j;simp only[eB];omega
theorem MY{r r':Nat}(h:r<=r'):∀j e,iB r j e<=iB r' j e
 |0,e=>ahr _
 |j+1,e=>by
  have h1:=Ag h j;have h2:=Ag h (j+1);have h3:=MY h j (4*e+3*eB r j+r+1);have h4:=AG r' j (e:=4*e+3*eB r j+r+1) (f:=4*e+3*eB r' j+r'+1) oz;simp only[iB];omega
theorem Pq.ok.nr{n e:Nat}{p:Pq}(h:Pq.ok n e p)(he:e<=lm n):∀x∈p.pl.l,NR x e:=by
 intro x hx;simp only[Pl.l,Pq.pl,ah3,ahy,or_false]at hx;rcases hx with rfl |rfl |rfl |rfl
 ·exact h.c.rt he
 ·exact h.s.rt he
 ·exact h.x.rt he
 ·exact h.y.rt he
theorem Pq.ok.num{n e:Nat}{p:Pq}(h:Pq.ok n e p):∀x∈p.pl.l,iY n x=0:=by
 intro x hx;simp only[Pl.l,Pq.pl,ah3,ahy,or_false]at hx;rcases hx with rfl |rfl |rfl |rfl
 ·exact rQ h.c.nl
 ·exact rQ h.s.nl
 ·exact rQ h.x.nl
 ·exact rQ h.y.nl
section
variable{l:Li}{j r E:Nat}{a:Aq}(Q:QInv l j r E a)
include Q
theorem QInv.chk:fg a.as.rs=0:=Q.tw.chk
theorem QInv.mem{p:Pl}(h:p∈a.as.bs):∃q∈a.bs,q.pl=p:=by have _:=Q;exact aft.1 h
theorem QInv.nr(hE:E<=50000000000){p:Pl}(h:p∈a.as.bs):∀x∈p.l,NR x E:=by
 obtain⟨q,hq,rfl⟩:=Q.mem h;exact(Q.bs q hq).nr (ah8 hE (Lv _))
theorem QInv.ab(hl:ax l=0)(hE:E<=50000000000)(hr:r<=400000000):AB a.as:=by
 refine⟨Q.tw.tr.mono hr oz,fun p hp x hx=>(Q.nr hE hp x hx).mono hE,?_,?_⟩
 ·show(a.ts.map _).length<=8;rw[ahk];have:=Q.tw.three;omega
 ·show(a.bs.map _).length<=30;rw[ahk,Q.ln];have:=(fp hl).2.2.2.1;omega
theorem QInv.sma(hE:E<=50000000000){F:Nat}(hF:E<=F)(k:Int)(own:Bool):Kw F l k a.as own :=
 fun b _ _ p hp x hx=>(Q.nr hE (ahg hp) x hx).mono hF
theorem QInv.nd(hl:ax l=0){g:Gr}(hg:GrOk l g){own:Bool}:∀b∈mF l g own,tm a.as b=0:=by
 intro b hb;unfold tm;split
 ·rfl
 ·have h1:=JQ hl hg b hb;obtain ⟨p,hp⟩:=aB (l:=a.bs) (i:=b.toNat) (by rw [Q.ln]; omega);have e:a.as.bs[b.toNat]? = some p.pl:=by show (a.bs.map Pq.pl)[b.toNat]? = _; rw [aho,hp]; rfl
  rw[aQ e];unfold oO;rw[ais (by rw[Q.chk];simp)];have e2:a.as.rs.length=a.ts.length:=ahk _;rw[e2];exact HL (fun x hx=>(Q.bs p (ahg hp)).num x hx)
theorem QInv.dy0(hl:ax l=0)(hs:bS l=0){k:Nat}{g:Gr}(hg:(aC l)[k]?=some g)(own:Bool):vL l k a.as own=0:=by
 have hk:=(afh.1 hg).1;obtain⟨_,ho⟩:=lw hl (ahg hg);have hgA:w8 l (k:Nat)=g:=aQ hg;rw[YA hl,ab1 hs oz (by show(a.bs.map _).length=_;rw[ahk,Q.ln]) Q.chk,hgA];exact HL (fun b hb=>Q.nd hl ho b (LD.1 hb))
end
structure WkC(l:Li)(xs:List Tn)(s g:Nat):Prop where
  hl:l.ok
  li:ax l=0
  sp:bS l=0
  cs:Cs s l
  ln:xs.length=l.drivers.length
  ok:∀x∈xs,x.t.ok/\x.err=0/\Qb 1000 x.t.q/\Cb g [Fh x.half x.t.q]/\Cb g [ER x.half x.t.q]
theorem TC{l:Li}{g:Gr}(h:DyK l g)(hk:g.kind=0):0<=g.driver/\g.driver<l.drivers.length:=by
 cases h with
 | @drv b z d _ _ t d0 hd hb=>have:=(afh.1 hd).1;exact⟨d0,by show d<_;omega⟩
 |rrr=>exact aiz hk (by simp)
 |pr=>exact aiz hk (by simp)
 |rp=>exact aiz hk (by simp)
theorem VC:vA.t.ok:=⟨(fun x h=>by cases h),(fun x h=>by cases h),ahv _,ahv _⟩
theorem abg:Qb 1000 vA.t.q:=by
 have e:vA.t.q=0:=by decide +kernel
 rw[e];exact Qb.zero.mono oz
section
variable{l:Li}{xs:List Tn}{s g:Nat}(W:WkC l xs s g){k:Nat}{gr:Gr}(hg:(aC l)[k]?=some gr)
include W hg
theorem WkC.grp:DyK l gr/\GrOk l gr:=lw W.li (ahg hg)
theorem WkC.tn:(ql gr xs).t.ok/\Qb 1000 (ql gr xs).t.q/\(gr.kind=0->∃x∈xs,ql gr xs=x):=by
 unfold ql
 by_cases hk:gr.kind=0
 ·rw[ait hk];have h:=TC (W.grp hg).1 hk;obtain⟨x,hx⟩:=aB (l:=xs) (i:=gr.driver.toNat) (by rw[W.ln];omega);rw[aQ hx];have hm:=ahg hx;exact⟨(W.ok x hm).1,(W.ok x hm).2.2.1,fun _=>⟨x,hm,rfl⟩⟩
 ·rw[ais hk];exact⟨VC,abg,fun h=>aiz h hk⟩
variable{j r E:Nat}{a:Aq}(Q:QInv l j r E a)
include Q
theorem QInv.dyOk{F:Nat}(hE:E<=50000000000)(hF:E<=F):DyOk F l k a.as false k gr:=by
 obtain⟨i,g',h⟩:=SQ (Q.sma hE hF k false) (Q.dy0 W.li W.sp hg false);have e:i=k:=by have:=h.hk;omega
 subst e;have:=h.hg;rw[hg]at this;cases this;exact h
theorem QInv.dyS(hr:r<=132000)(hj:j<=1):DyT a.as:=by have _:=W;have _:=hg;exact Y4 (Q.tw.tr.mono hr oz) (fun _=>by rw[a.llq];exact ah8 Q.lv hj)
theorem QInv.dyW(hE:E<=50000000000)(hr:r<=400000000):DyW l a.as:=by have _:=hg;exact⟨W.hl,W.li,Q.ab W.li hE hr,Q.chk⟩
theorem QInv.twl:Tw (Lw.llq a.as.rs) r:=by have _:=W;have _:=hg;rw[a.llq];exact Q.tw
theorem QInv.drv{n y:Nat}(ok:jZ s g (n+1) y j r E=true)(hk:gr.kind=0):∀sv∈vi l a.as gr (ql gr xs),QInv l j r (oL s g j r E) (a.nxt gr sv):=by
 obtain⟨⟨hE,hr,hj⟩,_⟩:=aai ok;have D:=QInv.dyW W hg Q oz hr;have O:=QInv.dyOk W hg Q (F:=E) oz (ahr _);obtain⟨i,z0,d,j0,e,pV,p0⟩:=aa5 O hk;obtain⟨_,_,hx⟩:=W.tn hg;obtain⟨x,hx,ex⟩:=hx hk;obtain⟨_,he,_,hc,hs⟩:=W.ok x hx;have ch:(Lw.llq a.as.rs).length=a.ts.length:=by rw[a.llq]
 have tw:=QInv.twl W hg Q;have rN:=qd W.hl W.li W.cs pV p0.or;have hK:eB r (Lw.llq a.as.rs).length<=eB r j:=q7 r (by rw[ch];exact Q.lv);obtain⟨o1,o2⟩:=uW W.hl W.li W.cs D.al D.hc tw hK pV p0;rw[ex];unfold vi;rw[ait hk,e];show ∀sv∈Dv l a.as i (l.jo.getD z0.toNat default) x,_;rw[aQ pV];unfold Dv;rw[ais oz];have hp:=abq (ts:=Lw.llq a.as.rs) (p:=bh l j0 i) (o:=fo l a.as j0 i) hc hs rN tw.five o1 o2
 have rK:Pq.ok a.ts.length (oL s g j r E) (Ld l a.as i j0 x):=by
  have:=DD (a:=0) (b:=0) hp (e:=oL s g j r E) (by unfold oL mw;omega) (by unfold oL mw;omega);exact Pq.ok.lv this ch
 refine uJ ⟨?_,?_,?_,?_⟩
 ·exact tw
 ·show(Lw.llq a.as.rs).length<=j;rw[ch];exact Q.lv
 ·intro p Gg;show Pq.ok (Lw.llq a.as.rs).length _ p;rw[ch];rcases KT Gg with h |h
  ·exact(Q.bs p h).up (ahr _) Q.tw.five (by unfold oL mw;omega)
  ·rw[ae4.1 h];exact rK
 ·exact(Nk _ _ _).trans Q.ln
theorem QInv.dy{n y:Nat}(ok:jZ s g (n+1) (y+1) j r E=true)(hk:gr.kind≠0):∀sv∈vi l a.as gr (ql gr xs),QInv l (j+1) (r+lF s j r E) (vF s j r E) (a.nxt gr sv):=by
 obtain⟨⟨hj,hE,hr,hX,hJ⟩,_⟩:=aag ok;have D:DyR l a.as:=⟨QInv.dyW W hg Q oz oz,(QInv.dyS W hg Q hr hj).toDyS⟩
 have O:=QInv.dyOk W hg Q (F:=E) oz (ahr _);have ch:(Lw.llq a.as.rs).length=a.ts.length:=by rw[a.llq]
 have Gh:(Lw.llq a.as.rs).length<=j:=by rw[ch];exact Q.lv
 have tw:=QInv.twl W hg Q
 have Z:Szs (Lw.llq a.as.rs).length r (3*E+2*s+2*eB r j+10) (8*s+5) (lF s j r E) (eB r j) (eB (r+lF s j r E) (j+1)) (GI s j r E) (Aj s j r E):=by
  refine⟨by omega,q7 r Gh,?_,hX,q7 _ oz,?_,?_,hJ,?_,?_⟩
  ·unfold lF mw;omega
  ·exact CB r _ Gh
  ·exact CB _ _ Gh
  ·exact ah8 (q7 r oz) (Ag oz _)
  ·exact MY oz _ _
 have hn:(Lw.llq a.as.rs).length<=1:=by omega
 have key:∀sv∈vi l a.as gr (ql gr xs),Xz (Lw.llq a.as.rs) r (lF s j r E) sv.ts/\∀p∈sv.ps,Pq.ok sv.ts.length (vF s j r E) p:=by
  unfold vi;rw[ais hk]
  by_cases iy:gr.kind=1
  ·obtain⟨i,k2,z0,z1,z2,j0,j1,j2,P⟩:=O.rrr iy;obtain⟨e0,e1,e2,b0,b1,_⟩:=P.at;rw[ait iy,e0,e1,e2,b0,b1];exact ZI D hn W.cs tw Z (ahr _) P
  ·rw[ais iy]
   by_cases cC:gr.kind=2
   ·obtain⟨i,z0,z1,j0,j,P,ha,hb⟩:=O.pr cC;obtain⟨e0,e1,b0,_⟩:=P.at;rw[ait cC,e0,e1,b0];exact ZL D hn W.cs tw Z (ahr _) P ha hb
   ·obtain⟨i,z0,z1,j0,j,P,_,hj,hb⟩:=O.rp hk iy cC;obtain⟨e0,e1,b0,mU⟩:=P.at;rw[ais cC,e0,e1,b0];exact VY D hn W.cs tw Z (ahr _) P hj hb
 intro sv hsv;obtain⟨hx,hp⟩:=key sv hsv;have h5:=hx.tw.five;have AZ:=hx.up;have iT:=hx.ln;rw[ch]at AZ iT;refine⟨hx.tw,?_,?_,?_⟩
 ·show sv.ts.length<=j+1;have:=Q.lv;omega
 ·intro p Gg;rcases KT Gg with h |h
  ·exact(Q.bs p h).up AZ h5 (by unfold vF oZ wZ mw;omega)
  ·exact hp p h
 ·exact(Nk _ _ _).trans Q.ln
end
end Go.Lw
