/- VelocityOf: for any linkage,any turns,any assembly and driver the law returns true and leaves its arguments as they were. No other condition. Part 6 of 8: what the later parts need -/
import Derived.Test.YtokaoegjfpjjnaaGreatVe
import Derived.Laws.Cover3
set_option linter.unusedVariables false
open List (cons_append nil_append map_nil map_map map_id)
open List renaming mem_of_getElem? → afl, mem_cons_of_mem → agi, mem_append → aft, map_cons → agv, mem_cons → agd, length_cons → af9, mem_cons_self → agt, length_append → agf, length_nil → agj, getD_eq_getElem?_getD → afn, getElem?_append_left → af6, all_eq_true → afy, getElem?_take → af7, getElem?_drop → agn, getElem?_map → afu, getElem?_append_right → af5, getElem?_eq_getElem → afr, map_append → agc, length_take → agu, take_of_length_le → af4, drop_zero → agw, take_length → af1, not_mem_nil → af8, length_map → afm, length_replicate → agl, map_replicate → agq, map_set → ags, length_set → agm, map_congr_left → ac3, mem_or_eq_of_mem_set → ac4, mem_range → ac5, mem_map → ac6, range_succ → ac7, foldl_cons → ac8, mem_singleton → adc, filter_cons → ade, filter_append → adj, take_append_drop → adm, getElem?_replicate → adq, drop_eq_getElem_cons → adr, contains_iff_mem → ads, getElem?_eq_some_iff → adw, mem_replicate → ad4, drop_length → ad6, replicate → ad7
open Nat renaming eq_of_beq_eq_true → afo, le_refl → afq, lt_of_lt_of_le → af3, lt_or_ge → afv, le_trans → af2, zero_le → afz, pow_add → agk, mul_pos → abt, mul_le_mul → abx, beq → ab3, zero_add → ab5, blt_eq → ab7, beq_refl → ab8, mul_comm → acb, add_sub_cancel → ace, add_zero → ach, blt → acm, pow_succ → acq
open Option renaming map_eq_some_iff → afs, map_some → afi, getD_some → afj
open Bool renaming and_eq_true → afp, or_eq_true → agp, and_false → aeu, eq_false_iff → aev, false_eq_true → aew, not_true → aez, not_eq_true' → ae0
open Array renaming getD_eq_getD_getElem? → afx, getElem?_toList → ae2, getElem?_eq_getElem → ae4, getElem?_eq_none → afe
open Int renaming toNat_natCast → ago, natAbs_mul → aee
open Rat renaming intCast_mul → aeo
open Decidable renaming not_not → afk
open Go renaming Operand → ag8, Value → ag9, TypeId → aha, Program → ahb, World → ahc
open Go.Proofs.Tryz
namespace Go.Lw
open Go.Proofs
theorem wb{l:Li}{kw:List Bool}(hl:l.ok)(hli:ao l=0)(kind body:Int)(hk:kw.length=l.bo.length) :
  Con prog 372 [l.av,i64 kind,i64 body,.ms 1000 1 0 kw.length] [pP 1000 (.row 1 (kw.map bl))] (i64 (jointI l kind body kw)) [pP 1000 (.row 1 (kw.map bl))]:=by
 refine Con.borrow (args:=[l.av,i64 kind,i64 body,.lst 1 (kw.map bl)]) 1000 1 (kw.map bl) rfl rfl rfl ?_ rfl (fun k' x h=>by cases h) (F1 l hl hli kind body kw hk);intro j x' hj
 match j,hj with
 |0,hj=>cases hj;exact .inl rfl
 |1,hj=>cases hj;exact .inl rfl
 |2,hj=>cases hj;exact .inl rfl
 |3,hj=>cases hj;exact .inr ⟨0,kw.length,rfl,by simp,by rw[agw,af4 (by simp)];rfl⟩
theorem Dm{l:Li}{kw:List Bool}(hl:l.ok)(b:Nat)(hb:b<kw.length) :
  Con prog 373 [l.av,.ms 1000 1 0 kw.length,i64 b] [pP 1000 (.row 1 (kw.map bl))] (bl (freeB l kw b)) [pP 1000 (.row 1 (kw.map bl))]:=by
 refine Con.borrow (args:=[l.av,.lst 1 (kw.map bl),i64 b]) 1000 1 (kw.map bl) rfl rfl rfl ?_ rfl (fun k' x h=>by cases h) (OY l hl kw b hb);intro j x' hj
 match j,hj with
 |0,hj=>cases hj;exact .inl rfl
 |1,hj=>cases hj;exact .inr ⟨0,kw.length,rfl,by simp,by rw[agw,af4 (by simp)];rfl⟩
 |2,hj=>cases hj;exact .inl rfl
theorem Xv(l:Li)(hl:l.ok)(hli:ao l=0)(kw:List Bool)(hk:kw.length=l.bo.length):Con prog 274 [l.av,.ms 1000 1 0 kw.length] [pP 1000 (.row 1 (kw.map bl))] (.tup [((driverG l kw).getD default).av,bl (driverG l kw).isSome]) [pP 1000 (.row 1 (kw.map bl))]:=by
 have hld:=hl.ld;refine gF func274 (fun k z h=>cO h) ?_;refine gl ?_;refine aL [2,4,10,11] [2,4,1000] (fun(i:Nat)=>[pP 1 (.ms 1000 1 0 kw.length),pP 12 (i64 i)]) (fun _=>[]) (fun i=>i<=l.dv.length/\∀j,j<i->(!drHit l kw j)=true) (fun i=>l.dv.length-i) 0 ⟨afz _,fun j h=>by omega⟩ ?_;rintro i ⟨hi,hj⟩ K1 J1;refine gC (fun y=>?_) (fun y=>?_)
 ·have hin:=aY y;obtain⟨d,hd⟩:=ay hin;have hdd:l.dv.getD i default=d:=ax hd;have hb:=cV (pS hli hd);obtain⟨v,hv⟩:∃ v,kw[d.body.toNat]?=some v:=ay oz;have ev:kn kw d.body=v:=ax hv;refine gi (aq hd) ?_;refine gs (m5 (.tmp rfl) (.tmp rfl) T320 rfl T4 rfl oz oz rfl) ?_;refine gs (cF (.tmp rfl) rfl (by rw[ab5,afu,hv]; rfl) T4 rfl rfl rfl) ?_;refine gC (fun y=>?_) (fun y=>?_)
  ·have h2:drHit l kw i=false:=by unfold drHit; rw[hdd,ev,y]; rfl
   refine ga aK ?_;exact aH J1 (i+1) ⟨hin,fun k h9=>by rcases afv k i with g |g;exact hj k g;(have:k=i:=by omega);subst this;rw[h2];rfl⟩
  have hv0:v=false:=y;refine gt (nh (wb hl hli 0 d.body hk) (.cons (.tmp rfl) (.cons (.const _) (ce rfl rfl))) rfl rfl rfl) ?_;refine gC (fun y=>?_) (fun y=>?_)
  ·have h2:drHit l kw i=true:=by unfold drHit; rw[hdd,ev,hv0,ag3 (IA y)]; rfl
   have hg:driverG l kw=some ⟨0,[d.body],[jointI l 0 d.body kw],i⟩:=by unfold driverG;rw[fS hin hj (by rw[h2];rfl),<- hdd];rfl
   refine gR ?_;rw[hg];exact aE.keep (df rfl)
  have h2:drHit l kw i=false:=by unfold drHit;rw[hdd,ag4 (Gb y),aeu]
  refine ga aK ?_;exact aH J1 (i+1) ⟨hin,fun k h9=>by rcases afv k i with g |g;exact hj k g;(have:k=i:=by omega);subst this;rw[h2];rfl⟩
 have hin:=a7 hi y;subst hin;have hg:driverG l kw=none:=by unfold driverG;rw[gn hj];rfl
 refine gR ?_;exact aE.sub (aE.keep (df rfl)) (by rw[hg];exact Sub.tup (.cons tg (.cons (.refl _) .nil)))
theorem Wu(l:Li)(hl:l.ok)(hli:ao l=0)(kw:List Bool)(hk:kw.length=l.bo.length):Con prog 275 [l.av,.ms 1000 1 0 kw.length] [pP 1000 (.row 1 (kw.map bl))] (.tup [((pairG l kw).getD default).av,bl (pairG l kw).isSome]) [pP 1000 (.row 1 (kw.map bl))]:=by
 have h8:=(er hli).2.2.2.1;refine gF func275 (fun k z h=>cO h) ?_;refine gl ?_;refine aL [2,4,12,13] [2,4,1000] (fun(i:Nat)=>[pP 1 (.ms 1000 1 0 kw.length),pP 14 (i64 i)]) (fun _=>[]) (fun i=>i<=l.bo.length/\∀j,j<i->(prAt l kw j).isNone=true) (fun i=>l.bo.length-i) 0 ⟨afz _,fun j h=>by omega⟩ ?_;rintro i ⟨hi,hj⟩ K1 J1;refine gC (fun y=>?_) (fun y=>?_)
 ·have hin:=aY y;refine ga aK ?_;refine aL [2,4,6,12,13,14] [2,4,1000] (fun (k:Nat)=>[pP 1 (.ms 1000 1 0 kw.length),pP 7 (i64 (i+1+k:Nat))]) (fun _=>[]) (fun k=>i+1+k<=l.bo.length/\∀ j,j<k->(!prHit l kw i (i+1+j))=true) (fun k=>l.bo.length - k) 0 ⟨by omega,fun j h=>by omega⟩ ?_;rintro k ⟨hkl,hkj⟩ K2 J2;refine gl ?_;refine gC (fun y=>?_) (fun y=>?_)
  ·have hkn:i+1+k<l.bo.length:=aY y;refine gt (nh (Dm hl i oz) (aI rfl rfl rfl) rfl rfl rfl) ?_;refine gu (fc rfl rfl rfl (fun h=>nh (Dm hl (i+1+k) oz) (.cons (.opt rfl (o1 h)) (.cons (.opt rfl (o1 h)) (.cons (.opt rfl (o1 h)) .nil))) rfl rfl rfl)) ?_;refine gC (fun y=>?_) (fun y=>?_)
   ·have h2:prHit l kw i (i+1+k)=false:=by unfold prHit; rw[show (freeB l kw i && freeB l kw ((i+1+k:Nat):Int))=false from by rcases nk y with g | g; (rw[g]; rfl); (rw[g,aeu])]; rfl
    refine ga aK ?_;exact aH J2 (k+1) ⟨by omega,fun j h9=>by rcases afv j k with g |g;exact hkj j g;(have:j=k:=by omega);subst this;rw[h2];rfl⟩
   have hff:=nQ y;refine gt (nh (wb hl hli 0 i hk) (.cons (.tmp rfl) (.cons (.const _) (ce rfl rfl))) rfl rfl rfl) ?_;refine gt (nh (wb hl hli 0 (i+1+k:Nat) hk) (.cons (.tmp rfl) (.cons (.const _) (ce rfl rfl))) rfl rfl rfl) ?_;refine gc (R7 l oz (i+1+k) hkn) ?_;refine gc (F1 l hl hli 0 i (da l.bo.length ((i+1+k:Nat):Int)) (jK _ _)) ?_;refine gD ?_;refine gC (fun y=>?_) (fun y=>?_)
   ·have h2:prHit l kw i (i+1+k)=true:=by unfold prHit; rw[hff.1,hff.2]; exact (zi.symm.trans y)
    have hat:prAt l kw i=some (i+1+k):=by unfold prAt;rw[fS oz hkj (by rw[h2];rfl),afi];congr 1;omega
    have hg:pairG l kw=some (prG l kw i (i+1+k)):=by unfold pairG;rw[fS hin hj (by rw[hat];rfl),afi,hat]
    refine gR ?_;rw[hg];exact aE.keep (df rfl)
   have h2:prHit l kw i (i+1+k)=false:=by unfold prHit;rw[show(decide (0<=jointI l 0 i kw)&&decide (0<=jointI l 0 ((i+1+k:Nat):Int) kw)&&decide (0<=jointI l 0 i (da l.bo.length ((i+1+k:Nat):Int))))=false from zi.symm.trans y,aeu]
   refine ga aK ?_;exact aH J2 (k+1) ⟨by omega,fun j h9=>by rcases afv j k with g |g;exact hkj j g;(have:j=k:=by omega);subst this;rw[h2];rfl⟩
  have hkn:¬i+1+k<l.bo.length:=fun h=>by have h1:=tU y;omega
  have hat:prAt l kw i=none:=by unfold prAt;rw[show l.bo.length-(i+1)=k by omega,gn hkj];rfl
  refine ga aK ?_;exact aH J1 (i+1) ⟨hin,fun j h9=>by rcases afv j i with g |g;exact hj j g;(have:j=i:=by omega);subst this;rw[hat];rfl⟩
 have hin:=a7 hi y;have hg:pairG l kw=none:=by unfold pairG;rw[<- hin,gn hj];rfl
 refine gR ?_;exact aE.sub (aE.keep (df rfl)) (by rw[hg];exact Sub.tup (.cons tg (.cons (.refl _) .nil)))
theorem Ou(l:Li)(hl:l.ok)(hli:ao l=0)(kw:List Bool)(hk:kw.length=l.bo.length):Con prog 276 [l.av,.ms 1000 1 0 kw.length] [pP 1000 (.row 1 (kw.map bl))] (.tup [((singleG l kw).getD default).av,bl (singleG l kw).isSome]) [pP 1000 (.row 1 (kw.map bl))]:=by
 have h8:=(er hli).2.2.2.1;refine gF func276 (fun k z h=>cO h) ?_;refine gl ?_;refine aL [2,4,11,12] [2,4,1000] (fun(i:Nat)=>[pP 1 (.ms 1000 1 0 kw.length),pP 13 (i64 i)]) (fun _=>[]) (fun i=>i<=l.bo.length/\∀j,j<i->(!sgHit l kw j)=true) (fun i=>l.bo.length-i) 0 ⟨afz _,fun j h=>by omega⟩ ?_;rintro i ⟨hi,hj⟩ K1 J1;refine gC (fun y=>?_) (fun y=>?_)
 ·have hin:=aY y;refine gt (nh (Dm hl i oz) (aI rfl rfl rfl) rfl rfl rfl) ?_;refine gC (fun y=>?_) (fun y=>?_)
  ·have h2:sgHit l kw i=false:=by unfold sgHit; rw[cm y]; rfl
   refine ga aK ?_;exact aH J1 (i+1) ⟨hin,fun k h9=>by rcases afv k i with g |g;exact hj k g;(have:k=i:=by omega);subst this;rw[h2];rfl⟩
  have hf:=ci y;refine gt (nh (wb hl hli 0 i hk) (.cons (.tmp rfl) (.cons (.const _) (ce rfl rfl))) rfl rfl rfl) ?_;refine gt (nh (wb hl hli 1 i hk) (.cons (.tmp rfl) (.cons (.const _) (ce rfl rfl))) rfl rfl rfl) ?_;refine gD ?_;refine gC (fun y=>?_) (fun y=>?_)
  ·have h2:sgHit l kw i=false:=by unfold sgHit; rw[Lo y,aeu]
   refine ga aK ?_;exact aH J1 (i+1) ⟨hin,fun k h9=>by rcases afv k i with g |g;exact hj k g;(have:k=i:=by omega);subst this;rw[h2];rfl⟩
  obtain⟨p0,s0⟩:=LB y;have s1:=(oc (l:=l) (kind:=1) (body:=i) (oth:=kw)).2;have h2:sgHit l kw i=true:=by unfold sgHit;rw[hf,ag3 p0,ag3 s0];rfl
  obtain⟨j,hjt⟩:∃j,l.jo[(jointI l 1 i kw).toNat]?=some j:=ay oz;have hjd:l.jo.getD (jointI l 1 i kw).toNat default=j:=ax hjt;have hg:singleG l kw=some (sgG l kw i):=by unfold singleG;rw[fS hin hj (by rw[h2];rfl),afi]
  refine gi (bY (n:=(jointI l 1 i kw).toNat) oz hjt) ?_;refine gC (fun y=>?_) (fun y=>?_)
  ·have hji:j.a=i:=cB y;refine gR ?_;rw[hg];unfold sgG;rw[hjd];simp only[afj,agz hji]
   exact aE.keep (df rfl)
  have hji:j.a≠i:=cU y;refine gR ?_;rw[hg];unfold sgG;rw[hjd];simp only[afj,agy hji]
  exact aE.keep (df rfl)
 have hin:=a7 hi y;have hg:singleG l kw=none:=by unfold singleG;rw[<- hin,gn hj];rfl
 refine gR ?_;exact aE.sub (aE.keep (df rfl)) (by rw[hg];exact Sub.tup (.cons tg (.cons (.refl _) .nil)))
theorem Ei{k:List Bool}{bs:List Int}{q:Nat}{x:Int}(h:bs[q]?=some x):bG k (bs.drop q)=bG (k.set x.toNat true) (bs.drop (q+1)):=by
 have hi:=(adw.1 h).1;rw[adr hi,(adw.1 h).2];rfl
theorem O9{l:Li}{n:Nat}{kw:List Bool}{out:List Gr}{g:Gr}(h:nextG l kw=some g):findFrom l (n+1) kw out=findFrom l n (bG kw g.bo) (out++[g]):=by
 show(match nextG l kw with |none=>_ |some g=>_)=_;rw[h]
theorem Va{l:Li}{n:Nat}{kw:List Bool}{out:List Gr}(h:nextG l kw=none):findFrom l n kw out=(kw,out):=by
 cases n with
 |zero=>rfl
 |succ n=>show(match nextG l kw with |none=>_ |some g=>_)=_;rw[h]
theorem DY{α:Type}{o:Option α}(h:o.isSome=false):o=none:=by cases o <;> simp_all
theorem Gi{α:Type}{a b:Option α}(h:a.isSome=true):a=a.or b:=by cases a <;> simp_all
theorem V5{l:Li}{kw:List Bool}(h:(driverG l kw).or (pairG l kw)=none):nextG l kw=singleG l kw:=by
 unfold nextG;rw[<- Option.or_assoc,h];rfl
theorem TT{l:Li}{kw:List Bool}(h:((driverG l kw).or (pairG l kw)).isSome=true):nextG l kw=(driverG l kw).or (pairG l kw):=by
 unfold nextG;rw[<- Option.or_assoc];exact(Gi h).symm
theorem LS(l:Li)(hl:l.ok)(hli:ao l=0):FP 147 [l.av] (.lst 4 ((findG l).map Gr.av)):=by
 have h8:=(er hli).2.2.2.1;have h0:=(er hli).2.2.2.2;refine ai func147 ?_;refine gt (aF (BE 900 rfl l oz 0 oz) (.cons (.tmp rfl) (.cons (.const _) .nil)) aG rfl rfl) ?_;refine gl ?_;refine gW (Wk.virt 901 4 rfl) ?_;refine jf [1,13] [1] (fun(i:Nat)(kw:List Bool)(out:List Gr)=>[pP 3 (.ms 900 1 0 kw.length),pP 4 (.ms 901 4 0 out.length),pP 14 (i64 i)]) (fun _ kw out=>[pP 900 (.row 1 (kw.map bl)),pP 901 (.row 4 (out.map Gr.av))]) (fun i kw out=>i<=l.bo.length/\kw.length=l.bo.length/\out.length<=i/\findFrom l (l.bo.length-i) kw out=findFrom l l.bo.length (da l.bo.length 0) []) (fun i _ _=>l.bo.length-i) 0 (da l.bo.length 0) ([]) ⟨afz _,jK _ _,afq _,rfl⟩ ?_ (h1:=(.cons rfl (Sub.of (by rw[jK])) (.k (.k .nil))))
 rintro i kw out ⟨hi,hk,hol,hff⟩ K1 J1;refine gC (fun z=>?_) (fun z=>?_) (st2:=(18,0))
 ·have hin:=aY z;have hd1:=Con.rekey1 900 rfl rfl rfl (Xv l hl hli kw hk);have hp1:=Con.rekey1 900 rfl rfl rfl (Wu l hl hli kw hk);have hs1:=Con.rekey1 900 rfl rfl rfl (Ou l hl hli kw hk);refine gt (aF hd1 (ce rfl rfl) aG rfl rfl) ?_;refine Cp [1,5,13,14] [1,900,901] (fun(o:Option Gr)=>[pP 3 (.ms 900 1 0 kw.length),pP 4 (.ms 901 4 0 out.length),pP 6 (bl o.isSome)]) (fun o=>[pP 5 (.box (o.getD default).av.cells)]) (fun o=>o=(driverG l kw).or (pairG l kw)) ?_ ?_
  ·intro K2 J2;refine gC (fun z=>?_) (fun z=>?_)
   ·refine gt (aF hp1 (ce rfl rfl) aG rfl rfl) ?_;exact sI J2 (pairG l kw) (by rw[DY (cm z)];rfl)
   exact sI J2 (driverG l kw) (Gi (ci z))
  rintro o ho;refine Cp [1,5,13,14] [1,900,901] (fun(og:Option Gr)=>[pP 3 (.ms 900 1 0 kw.length),pP 4 (.ms 901 4 0 out.length),pP 6 (bl og.isSome)]) (fun og=>[pP 5 (.box (og.getD default).av.cells)]) (fun og=>og=nextG l kw) ?_ ?_
  ·intro K3 J3;refine gC (fun z=>?_) (fun z=>?_)
   ·refine gt (aF hs1 (ce rfl rfl) aG rfl rfl) ?_;exact sI J3 (singleG l kw) (by have:=DY (cm z);rw[ho]at this;exact(V5 this).symm)
   exact sI J3 o (by rw[ho];exact(TT (by rw[<- ho];exact ci z)).symm)
  rintro og hog;refine gC (fun z=>?_) (fun z=>?_) (st1:=(18,0))
  ·have hn:nextG l kw=none:=by rw[<- hog]; exact DY (cm z)
   have hfin:findG l=out:=by unfold findG;rw[<- hff,Va hn]
   refine gW ((Wk.freeze (k:=901) rfl).trans<|Wk.of (sl:=[pP 4 (.lst 4 ((findG l).map Gr.av))]) (hp:=[]) (.cons rfl (Sub.of (by rw[hfin,cz (by rw[afm])])) .nil) .nil) ?_;refine af ?_;rfl
  obtain⟨g,hg⟩:∃g,og=some g:=Option.isSome_iff_exists.1 (ci z);have hng:nextG l kw=some g:=by rw[<- hog,hg]
  have hgo:=zQ hli hng;subst hg;refine gs (eg (.tmp rfl) rfl (by rw[afm]) (.tmp rfl) T130 rfl T169 rfl rfl (by dsimp only;simp only[af9,agj];omega) rfl rfl) ?_ (12,0);refine gW (Wk.of (sl:=[pP 1 (.ptr 1 0),pP 3 (.ms 900 1 0 kw.length),pP 4 (.ms 43 4 0 (out++[g]).length),pP 5 (.ptr 5 0),pP 13 (i64 l.bo.length),pP 14 (i64 i)]) (hp:=[pP 1 (.box l.av.cells),pP 5 (.box g.av.cells),pP 900 (.row 1 (kw.map bl)),pP 43 (.row 4 ((out++[g]).map Gr.av))]) (.k (.k (.cons rfl (Sub.of (by rw[agf];rfl)) (.k (.k (.k .nil)))))) (.k (.k (.k (.cons rfl (BlkSub.of (by rw[agc];rfl)) .nil))))) ?_ (12,0)
  refine gW (Wk.rk (k:=43) (d:=901) rfl rfl) ?_;refine gl ?_;refine ib [1,13,14,45,46] [1,901] (fun(q:Nat)(kk:List Bool)=>[pP 3 (.ms 900 1 0 kk.length),pP 4 (.ms 901 4 0 (out++[g]).length),pP 47 (i64 q)]) (fun _ kk=>[pP 900 (.row 1 (kk.map bl))]) (fun q kk=>q<=g.bo.length/\kk.length=l.bo.length/\bG kk (g.bo.drop q)=bG kw g.bo) (fun q _=>g.bo.length-q) 0 kw ⟨afz _,hk,rfl⟩ ?_;rintro q kk ⟨hq,hkk,hmk⟩ K4 J4;refine gC (fun z=>?_) (fun z=>?_)
  ·have hqn:=aY z;obtain⟨x,hx⟩:=ay hqn;have hxb:=hgo.b x (afl hx);obtain⟨v,hv⟩:∃v,kk[x.toNat]?=some v:=ay oz;refine gi (aq hx) ?_;refine gs (m5 (.tmp rfl) (.tmp rfl) T320 rfl T4 rfl oz oz rfl) ?_;refine gs (cw (.tmp rfl) rfl (by rw[ab5,afu,hv];rfl) rfl (.const _) rfl rfl T4 rfl rfl) ?_;refine ga (E7 (by have:=hgo.lb;unfold aS;omega)) ?_;exact ik J4 (q+1) (kk.set x.toNat true) ⟨hqn,by rw[agm];exact hkk,by rw[<- Ei hx];exact hmk⟩ (hw:=Wk.of (.cons rfl (Sub.of (by rw[agm])) (.k (.k (.k (.k (.k (.k (.k .nil)))))))) (.cons rfl (BlkSub.of (by rw[ags,ab5];rfl)) (.k (.k .nil))))
  have hqn:=a7 hq z;have hmk2:kk=bG kw g.bo:=by rw[hqn,ad6]at hmk;exact hmk
  refine ga aK ?_;exact ii J1 (i+1) kk (out++[g]) ⟨hin,hkk,by rw[agf];simp only[af9,agj];omega,by rw[hmk2,<- O9 hng,<- hff];congr 1;omega⟩
 have hin:=a7 hi z;have hfin:findG l=out:=by unfold findG;rw[<- hff,show l.bo.length-i=0 by omega];rfl
 refine gW ((Wk.freeze (k:=901) rfl).trans<|Wk.of (sl:=[pP 4 (.lst 4 ((findG l).map Gr.av))]) (hp:=[]) (.cons rfl (Sub.of (by rw[hfin,cz (by rw[afm])])) .nil) .nil) ?_;refine af ?_;rfl
theorem H3{α:Type}{f:List Bool->α->List Bool}{k:List Bool}{l:List α}{i:Nat}{x:α}(h:l[i]?=some x):(l.drop i).foldl f k=(l.drop (i+1)).foldl f (f k x):=by
 have hi:=(adw.1 h).1;rw[adr hi,(adw.1 h).2];rfl
def il(k:List Bool)(i:Nat):List Int:=((List.range i).filter (fun j=>!k.getD j false)).map (fun j:Nat=>((j:Nat):Int))
theorem J6{k:List Bool}{i:Nat}(h:k.getD i false=false):il k (i+1)=il k i++[(i:Int)]:=by
 unfold il;rw[ac7,adj,agc,ade,h];rfl
theorem Ie{k:List Bool}{i:Nat}(h:k.getD i false=true):il k (i+1)=il k i:=by
 unfold il;rw[ac7,adj,agc,ade,h];simp
theorem xR(k:List Bool)(i:Nat):(il k i).length<=i:=by
 unfold il;rw[afm];exact af2 (List.length_filter_le _ _) (by simp)
theorem sH{α:Type}{f:α->List Int}:∀(gs:List α)(k:List Bool),(gs.foldl (fun k g=>bG k (f g)) k).length=k.length
 |[],k=>rfl
 |g::gs,k=>by rw[ac8,sH gs,lZ]
theorem R5(l:Li):(gg (cG l)).length<=l.bo.length:=by
 have h:=xR (cG l) (cG l).length;have e:(cG l).length=l.bo.length:=by unfold cG;rw[sH,jK]
 rw[e]at h;unfold gg;rw[e];exact h
theorem Sf(l:Li):(gg (fm l)).length<=l.jo.length:=by
 have h:=xR (fm l) (fm l).length;have e:(fm l).length=l.jo.length:=by unfold fm;rw[sH,agl]
 rw[e]at h;unfold gg;rw[e];exact h
theorem UH(l:Li)(hl:l.ok)(hli:ao l=0):FP 146 [l.av] (.tup [.lst 1 ((gg (cG l)).map i64),.lst 1 ((gg (fm l)).map i64)]):=by
 have h8:=(er hli).2.2.2.1;have h0:=(er hli).2.2.2.2;have hj16:l.jo.length<=16:=by have:=(er hli).2.1;unfold fa at this;split at this;cases this;omega
 obtain⟨hgo,hgl⟩:=qF hli;refine ai func146 ?_;refine gt (aF (BE 900 rfl l oz 0 oz) (.cons (.tmp rfl) (.cons (.const _) .nil)) aG rfl rfl) ?_;refine gl ?_;refine gs (gX (.tmp rfl) T320 rfl T4 rfl rfl oz (by dsimp only;omega) rfl) ?_;refine gD ?_ (2,0);refine gW (Wk.of (sl:=[pP 1 (.ptr 1 0),pP 2 (nS),pP 3 (nS),pP 4 (.ms 900 1 0 (da l.bo.length 0).length),pP 5 (.ms 21 1 0 (ad7 l.jo.length false).length)]) (hp:=[pP 1 (.box l.av.cells),pP 900 (.row 1 ((da l.bo.length 0).map bl)),pP 21 (.row 1 ((ad7 l.jo.length false).map bl))]) (.k (.k (.k (.cons rfl (Sub.of (by rw[jK])) (.cons rfl (Sub.of (by rw[agl,ago])) .nil))))) (.k (.k (.cons rfl (BlkSub.of (by rw[agq,ago];rfl)) .nil)))) ?_ (2,0)
 refine gW (Wk.rk (k:=21) (d:=901) rfl rfl) ?_;refine gc (LS l hl hli) ?_;refine gl ?_;refine jf [1,2,3,23,24] [1] (fun(i:Nat)(k1 k2:List Bool)=>[pP 4 (.ms 900 1 0 k1.length),pP 5 (.ms 901 1 0 k2.length),pP 25 (i64 i)]) (fun _ k1 k2=>[pP 900 (.row 1 (k1.map bl)),pP 901 (.row 1 (k2.map bl))]) (fun i k1 k2=>i<=(findG l).length/\k1.length=l.bo.length/\k2.length=l.jo.length/\((findG l).drop i).foldl (fun k g=>bG k g.bo) k1=cG l/\((findG l).drop i).foldl (fun k g=>bG k g.jo) k2=fm l) (fun i _ _=>(findG l).length-i) 0 (da l.bo.length 0) (ad7 l.jo.length false) ⟨afz _,jK _ _,agl,rfl,rfl⟩ ?_
 rintro i k1 k2 ⟨hi,hk1,hk2,hf1,hf2⟩ K1 J1;refine gC (fun z=>?_) (fun z=>?_)
 ·have hin:=aY z;obtain⟨g,hg⟩:=ay hin;have hgk:=hgo g (afl hg);have hlb:=hgk.lb;have hlj:=hgk.lj;refine gi (aq hg) ?_;refine gl ?_;refine ib [1,2,3,7,23,24,25,30,31] [1,7,901] (fun(q:Nat)(kk:List Bool)=>[pP 4 (.ms 900 1 0 kk.length),pP 5 (.ms 901 1 0 k2.length),pP 32 (i64 q)]) (fun _ kk=>[pP 900 (.row 1 (kk.map bl))]) (fun q kk=>q<=g.bo.length/\kk.length=l.bo.length/\bG kk (g.bo.drop q)=bG k1 g.bo) (fun q _=>g.bo.length-q) 0 k1 ⟨afz _,hk1,rfl⟩ ?_;rintro q kk ⟨hq,hkk,hmk⟩ K2 J2;refine gC (fun z=>?_) (fun z=>?_)
  ·have hqn:=aY z;obtain⟨x,hx⟩:=ay hqn;have hxb:=hgk.b x (afl hx);obtain⟨v,hv⟩:∃v,kk[x.toNat]?=some v:=ay oz;refine gi (aq hx) ?_;refine gs (m5 (.tmp rfl) (.tmp rfl) T320 rfl T4 rfl oz oz rfl) ?_;refine gs (cw (.tmp rfl) rfl (by rw[ab5,afu,hv];rfl) rfl (.const _) rfl rfl T4 rfl rfl) ?_;refine ga aK ?_;exact ik J2 (q+1) (kk.set x.toNat true) ⟨hqn,by rw[agm];exact hkk,by rw[<- Ei hx];exact hmk⟩ (hw:=Wk.of (.cons rfl (Sub.of (by rw[agm])) (.k (.k (.k (.k (.k (.k (.k (.k (.k (.k (.k .nil)))))))))))) (.cons rfl (BlkSub.of (by rw[ags,ab5];rfl)) (.k (.k (.k .nil)))))
  have hqn:=a7 hq z;have hmk2:kk=bG k1 g.bo:=by rw[hqn,ad6]at hmk;exact hmk
  refine gl ?_;refine ib [1,2,3,23,24,25,41,42] [1,900] (fun(p:Nat)(jj:List Bool)=>[pP 4 (.ms 900 1 0 kk.length),pP 5 (.ms 901 1 0 jj.length),pP 43 (i64 p)]) (fun _ jj=>[pP 901 (.row 1 (jj.map bl))]) (fun p jj=>p<=g.jo.length/\jj.length=l.jo.length/\bG jj (g.jo.drop p)=bG k2 g.jo) (fun p _=>g.jo.length-p) 0 k2 ⟨afz _,hk2,rfl⟩ ?_;rintro p jj ⟨hp,hjj,hmj⟩ K3 J3;refine gC (fun z=>?_) (fun z=>?_)
  ·have hpn:=aY z;obtain⟨x,hx⟩:=ay hpn;have hxb:=hgk.j x (afl hx);obtain⟨v,hv⟩:∃v,jj[x.toNat]?=some v:=ay oz;refine gi (aq hx) ?_;refine gs (m5 (.tmp rfl) (.tmp rfl) T320 rfl T4 rfl oz oz rfl) ?_;refine gs (cw (.tmp rfl) rfl (by rw[ab5,afu,hv];rfl) rfl (.const _) rfl rfl T4 rfl rfl) ?_;refine ga aK ?_;exact ik J3 (p+1) (jj.set x.toNat true) ⟨hpn,by rw[agm];exact hjj,by rw[<- Ei hx];exact hmj⟩ (hw:=Wk.of (.k (.cons rfl (Sub.of (by rw[agm])) (.k (.k (.k (.k (.k (.k (.k (.k (.k .nil))))))))))) (.cons rfl (BlkSub.of (by rw[ags,ab5];rfl)) (.k (.k .nil))))
  have hpn:=a7 hp z;have hmj2:jj=bG k2 g.jo:=by rw[hpn,ad6]at hmj;exact hmj
  refine ga aK ?_;exact ii J1 (i+1) kk jj ⟨hin,hkk,hjj,by rw[hmk2,<- hf1,H3 hg],by rw[hmj2,<- hf2,H3 hg]⟩
 have hin:=a7 hi z;have e1:k1=cG l:=by rw[hin,ad6]at hf1;exact hf1
 have e2:k2=fm l:=by rw[hin,ad6]at hf2;exact hf2
 refine gW (Wk.virt 902 1 rfl) ?_;refine aL [3,53] [900,901] (fun(i:Nat)=>[pP 2 (.ms 902 1 0 (il k1 i).length),pP 5 (.ms 901 1 0 k2.length),pP 52 (.ms 900 1 0 k1.length),pP 54 (i64 i)]) (fun i=>[pP 902 (.row 1 ((il k1 i).map i64))]) (fun i=>i<=k1.length) (fun i=>k1.length-i) 0 (afz _) ?_;rintro i ha K4 J4;refine gC (fun z=>?_) (fun z=>?_) (st2:=(22,0))
 ·have hin6:=aY z;obtain⟨v,hv⟩:=ay hin6;have hvd:k1.getD i false=v:=ax hv;have hul:=xR k1 i;refine gs (m5 (.tmp rfl) (.tmp rfl) T320 rfl T4 rfl oz oz rfl) ?_;refine gs (cF (.tmp rfl) rfl (by rw[ab5,ago,afu,hv]; rfl) T4 rfl rfl rfl) ?_;refine gC (fun z=>?_) (fun z=>?_)
  ·have hu:=J6 (k:=k1) (i:=i) (by rw[hvd]; exact cm z);refine gs (eg (.tmp rfl) rfl (by rw[afm]) (.tmp rfl) T46 rfl T3 rfl rfl (by dsimp only; simp only [af9,agj]; omega) rfl rfl) ?_ (21,0);refine gW (Wk.of (sl:=[pP 2 (.ms 64 1 0 (il k1 (i+1)).length),pP 3 (nS),pP 5 (.ms 901 1 0 k2.length),pP 52 (.ms 900 1 0 k1.length),pP 53 (i64 k1.length),pP 54 (i64 i)]) (hp:=[pP 900 (.row 1 (k1.map bl)),pP 901 (.row 1 (k2.map bl)),pP 64 (.row 1 ((il k1 (i+1)).map i64))]) (.cons rfl (Sub.of (by rw[hu,agf]; rfl)) (.k (.k (.k (.k (.k .nil)))))) (.k (.k (.cons rfl (BlkSub.of (by rw[hu,agc]; rfl)) .nil)))) ?_ (21,0)
   refine gW (Wk.rk (k:=64) (d:=902) rfl rfl) ?_;refine ga aK ?_;exact aH J4 (i+1) hin6 (hw:=Wk.of (.cons rfl (Sub.of (by first |rw[hu];done |rfl)) (.k (.k (.k (.k (.k .nil)))))) (.cons rfl (BlkSub.of (by first |rw[hu];done |rfl)) (.k (.k .nil))))
  have hu:=Ie (k:=k1) (i:=i) (by rw[hvd];exact ci z);refine ga aK ?_;exact aH J4 (i+1) hin6 (hw:=Wk.of (.cons rfl (Sub.of (by first |rw[hu];done |rfl)) (.k (.k (.k (.k (.k .nil)))))) (.cons rfl (BlkSub.of (by first |rw[hu];done |rfl)) (.k (.k .nil))))
 have hin6:=a7 ha z;refine gW ((Wk.freeze (k:=902) rfl).trans<|Wk.of (sl:=[pP 2 (.lst 1 ((gg (cG l)).map i64)),pP 3 (nS),pP 5 (.ms 901 1 0 k2.length)]) (hp:=[pP 901 (.row 1 (k2.map bl))]) (.cons rfl (Sub.of (by rw[cz (by rw[afm]),hin6,e1];rfl)) (.k (.k .nil))) (.k .nil)) ?_;refine gW (Wk.virt 902 1 rfl) ?_;refine aL [2,67] [901] (fun(i:Nat)=>[pP 3 (.ms 902 1 0 (il k2 i).length),pP 66 (.ms 901 1 0 k2.length),pP 68 (i64 i)]) (fun i=>[pP 902 (.row 1 ((il k2 i).map i64))]) (fun i=>i<=k2.length) (fun i=>k2.length-i) 0 (afz _) ?_;rintro i hb K5 J5;refine gC (fun z=>?_) (fun z=>?_) (st2:=(28,0))
 ·have hin8:=aY z;obtain⟨v,hv⟩:=ay hin8;have hvd:k2.getD i false=v:=ax hv;have hul:=xR k2 i;refine gs (m5 (.tmp rfl) (.tmp rfl) T320 rfl T4 rfl oz oz rfl) ?_;refine gs (cF (.tmp rfl) rfl (by rw[ab5,ago,afu,hv]; rfl) T4 rfl rfl rfl) ?_;refine gC (fun z=>?_) (fun z=>?_)
  ·have hu:=J6 (k:=k2) (i:=i) (by rw[hvd]; exact cm z);refine gs (eg (.tmp rfl) rfl (by rw[afm]) (.tmp rfl) T46 rfl T3 rfl rfl (by dsimp only; simp only [af9,agj]; omega) rfl rfl) ?_ (27,0);refine gW (Wk.of (sl:=[pP 2 (.lst 1 ((gg (cG l)).map i64)),pP 3 (.ms 78 1 0 (il k2 (i+1)).length),pP 66 (.ms 901 1 0 k2.length),pP 67 (i64 k2.length),pP 68 (i64 i)]) (hp:=[pP 901 (.row 1 (k2.map bl)),pP 78 (.row 1 ((il k2 (i+1)).map i64))]) (.k (.cons rfl (Sub.of (by rw[hu,agf]; rfl)) (.k (.k (.k .nil))))) (.k (.cons rfl (BlkSub.of (by rw[hu,agc]; rfl)) .nil))) ?_ (27,0)
   refine gW (Wk.rk (k:=78) (d:=902) rfl rfl) ?_;refine ga aK ?_;exact aH J5 (i+1) hin8 (hw:=Wk.of (.cons rfl (Sub.of (by first |rw[hu];done |rfl)) (.k (.k (.k (.k .nil))))) (.cons rfl (BlkSub.of (by first |rw[hu];done |rfl)) (.k .nil)))
  have hu:=Ie (k:=k2) (i:=i) (by rw[hvd];exact ci z);refine ga aK ?_;exact aH J5 (i+1) hin8 (hw:=Wk.of (.cons rfl (Sub.of (by first |rw[hu];done |rfl)) (.k (.k (.k (.k .nil))))) (.cons rfl (BlkSub.of (by first |rw[hu];done |rfl)) (.k .nil)))
 have hin8:=a7 hb z;refine gW ((Wk.freeze (k:=902) rfl).trans<|Wk.of (sl:=[pP 2 (.lst 1 ((gg (cG l)).map i64)),pP 3 (.lst 1 ((gg (fm l)).map i64))]) (hp:=[]) (.k (.cons rfl (Sub.of (by rw[cz (by rw[afm]),hin8,e2];rfl)) .nil)) .nil) ?_;refine bg ?_;rfl
theorem jU(l:Li)(hl:l.ok)(hli:ao l=0):FP 59 [l.av] (.tup [.lst 4 ((splitG l).map Gr.av),i64 (splitE l)]):=by
 have h8:=(er hli).2.2.2.1;have hj16:l.jo.length<=16:=by have:=(er hli).2.1;unfold fa at this;split at this;cases this;omega
 have u1:=R5 l;have u2:=Sf l;refine ai func59 ?_;refine gc (UH l hl hli) ?_;refine gl ?_;refine gl ?_;refine ga (cZ oz) ?_;refine gC (fun z=>?_) (fun z=>?_)
 ·have h1:0<(gg (cG l)).length+(gg (fm l)).length:=ja z;have hE:splitE l=7:=by unfold splitE; rw[agy oz]
  refine gR ?_;exact gy (by unfold splitG;rw[agy (by rw[hE];decide),hE];exact Sub.tup (.cons (.nil _ _ _) (.cons (.refl _) .nil)))
 have h1:(gg (cG l)).length+(gg (fm l)).length<=0:=iP z;have hE:splitE l=0:=by unfold splitE;rw[agz oz]
 refine gc (LS l hl hli) ?_;refine bg ?_;unfold splitG;rw[agz hE,hE];rfl
variable{P:ahb}{N:Nat}{R:Array Oper}{s:AS}{pos:String}{after:Array Edge}
theorem D8{d:Nat}{x:ag8}{n:Nat}{z:ag9}{T E t:aha}{ti te:TI}(hx:Ev s x (.v (.int .i64 n)))
    (hT:au P T=some ti) (hk:ti.k=.slice E) (hE:au P E=some te) (hz:te.zero=[z]) (hz1:z.oneCell'=true) (hs:ab3 te.size 1=true) (hbb:acm 0 te.bytes=true)
    (hb:(n:Int)*te.bytes<=281474976710656) (hN:acm d N=true) :
    Step P N R s ⟨some d,.makeSlice T x x,t,pos,after,none⟩
      ⟨some (.ms d 1 0 n),[(d,some (.vec (ad7 n z)))],aj x,[]⟩ :=
  uS rfl rfl hN (by simp) fun s' hag hfr C m a w hr=>by
    have hxv:=mi hr (hx.agree hag (fun _ h=>h));have hs:=afo hs;rw[ab7]at hbb;obtain⟨d2,h3,h4,-,-⟩:=dg hT w;obtain rfl:=gT (h4.trans hk);obtain⟨zv,h5,h6⟩:=uY hE w;obtain⟨ie,h7,h8,-⟩:=Kz hE w;have h6':zv.cells.toList=[z]:=h6.trans hz;have hzc:zv.cells=#[z]:=by rw[<- Array.toArray_toList (xs:=zv.cells),h6']
    have hnb:(n:Int)<=281474976710656:=by
      have:(n:Int)*1<=n*te.bytes:=Int.mul_le_mul_of_nonneg_left oz oz;omega
    have hw1:IntKind.i64.wrap (n:Int)=n:=IntWalk.i64_in n oz;obtain⟨zero,hzero⟩:∃zero:Array ag9,zero=(if n*te.size=0 then #[]else zv.cells):=⟨_,rfl⟩
    refine⟨.slice (some ⟨w.heap.size,0,none⟩) n n,(Array.range (n*te.size)).map (zero[· % zero.size]!),E,w.drawn,?_,?_,?_,?_⟩
    · have hmk:(Instr.makeSlice T (.int .i64 n) (.int .i64 n)).run P w =
          .ok (.slice (some ⟨w.heap.size,0,none⟩) n n) { w with heap:=w.heap.push (.cells ((Array.range (n*te.size)).map (zero[· % zero.size]!)) E) }:=by
        have hc:¬(((n:Int)<0\/281474976710656<(ie.bytes:Int)*n)\/(n:Int)<0):=by
          rw[h8,Int.mul_comm];omega
        simp only[Instr.makeSlice,Sem.run_bind,h3,Result.andThen_ok,asInt,asIntOf,Sem.run_pure,h7,hw1];rw[agy (by simpa using hc)];simp only[Sem.run_bind,run_askRoom,Result.andThen_ok,fL hE,ago]
        by_cases h0:n*te.size=0
        · rw[agz h0]at hzero ⊢
          subst hzero;simp only[Sem.run_bind,Sem.run_pure,Result.andThen_ok,newRow,run_newObj]
        · rw[agy h0]at hzero ⊢
          subst hzero;simp only[Sem.run_bind,Sem.run_pure,Result.andThen_ok,h5,newRow,run_newObj]
      simp only[execOp,hxv,Sem.run_bind,hmk,Result.andThen_ok,Sem.run_pure]
    · exact fun h=>h
    · intro g S m' w' hg hS hm hw
      refine .vec hw ?_ (fun v hv=>by rw[List.eq_of_mem_replicate hv];exact hz1);apply List.ext_getElem?;intro j;rw[ae2,adq]
      by_cases hj:j<n
      · have hpos:¬ n*te.size=0:=by rw[hs]; omega
        rw[agy hpos,hzc]at hzero;subst hzero;rw[agz hj];simp only[Array.getElem?_map,Array.getElem?_range,show j<n*te.size by rw[hs];omega,if_true,afi,Option.some.injEq];simp[Nat.mod_one]
      · rw[agy hj,afe (by simp[hs];omega)]
    · intro g S m' hm hS
      have:=Rep.ms (g:=g) (S:=S) (m:=m') (k:=d) (sz:=1) (off:=0) (len:=n) (cap:=n) hm (afq _) (by simpa[hs]using hS);simpa using this
theorem xC{x y:ag8}{k i:Nat}{vs:List ag9}{v:ag9}{T t:aha}{ti:TI}
  (hx:Ev s x (.eptr k 1 i 0)) (hk:s.blk k=some (.vec vs)) (hi:i<vs.length) (hy:Ev s y (.v v)) (hv:v.oneCell'=true) (hT:au P T=some ti) (hsz:ab3 ti.size 1=true) :
  Step P N R s ⟨none,.store T x y,t,pos,after,none⟩ ⟨none,[(k,some (.vec (vs.set i v)))],aj x++aj y,[k]⟩ :=
 Ex rfl rfl (by simp) hk fun s' hag C m a w hr=>by
  have hsz:=afo hsz;obtain⟨b,hm,hxv⟩:=ym hr (hx.agree hag (fun _ h=>aft.2 (.inl h)));have hyv:=mi hr (hy.agree hag (fun _ h=>aft.2 (.inr h)));have hb:=hr.heap.blk k _ ((hag.2 k (by simp)).trans hk);rw[hm]at hb;cases hb with
  | @vec _ _ c t2 hw hc h1 =>
   have hcs:c.size=vs.length:=by rw[<- hc];simp
   have hvc:v.cells=#[v]:=by cases v <;> simp_all[Value.cells,Value.oneCell']
   refine⟨b,c,(over c.toList i v.cells.toList).toArray,t2,hm,hw,?_,?_,?_⟩
   ·simp[over,hvc];omega
   ·have hrun:=Eg (P:=P) (off:=i) (v:=v) hT hw (by rw[hvc,hsz];rfl) oz (by rw[hvc];simpa using hv);simp[execOp,Instr.storeAt,hxv,Instr.sureAddr,hyv,hrun]
   ·intro g S w' hg hS hw';refine .vec hw' ?_ (fun u hu=>?_)
    ·rw[hc,hvc];unfold over;rw[List.set_eq_take_append_cons_drop,agz hi];simp
    ·rcases ac4 hu with h9 |h9
     ·exact h1 u h9
     ·rw[h9];exact hv
inductive Lent(H:Hp)(hid:List Nat):AV->AV->Prop
  |same {x:AV} (h:x.nm=[]):Lent H hid x x
  |ms {k off len:Nat} {vs:List ag9} (hk:lk H k=some (.vec vs)) (hh:k∉hid) (hl:off+len<=vs.length) (hm:vs.length<=aS):Lent H hid (.ms k 1 off len) (.lst 1 (((vs.drop off).take len).map .v))
theorem JG{g:Nat->Array ag9->Prop}{S:Nat->Nat->Prop}{m:Nat->Option Nat}{u y:ag9}(h:Rep g S m u (.v y)):u=y:=by cases h;rfl
theorem wL{m:Nat->Option Nat}{b:Nat}:¬aW [] m b:=by rintro⟨k,x,h,_⟩;cases h
def rG(ext:Nat->Prop)(H:Hp)(hid:List Nat)(m:Nat->Option Nat)(b:Nat):Prop:=ext b\/∃k z,k∈hid/\lk H k=some z/\m k=some b
theorem U2{ext:Nat->Prop}{H:Hp}{hid:List Nat}{m m2:Nat->Option Nat}{w:ahc}{b:Nat}{cs:Array ag9}(h:Im ext H m w b cs):Im (rG ext H hid m) [] m2 w b cs :=
 ⟨fun h'=>h'.elim h.1 (fun⟨k,z,_,hz,hb⟩=>h.2.1 ⟨k,z,hz,hb⟩),wL,h.2.2⟩
theorem E6{ext:Nat->Prop}{H:Hp}{hid:List Nat}{m:Nat->Option Nat}{w:ahc}(hh:HeapRel ext H m w){k b:Nat}{z:Blk}(hk:lk H k=some z)(hb:m k=some b)(hn:k∉hid):¬rG ext H hid m b:=by
 rintro(h |⟨k',z',h1,h2,h3⟩)
 ·exact(hh.sep k z b hk hb).1 h
 ·have:=hh.inj k k' z z' b hk h2 hb h3;subst this;exact hn h1
theorem Lent.rep{ext:Nat->Prop}{H:Hp}{hid:List Nat}{m:Nat->Option Nat}{w:ahc}(hh:HeapRel ext H m w){x x':AV}(h:Lent H hid x x') :
  ∀{v:ag9},Rep (Im ext H m w) (Sz w) m v x->∀m2:Nat->Option Nat,Rep (Im (rG ext H hid m) [] m w) (Sz w) m2 v x':=by
 cases h with
 |same hn=>intro v hv m2;exact(kW hn hv).mono (fun _ _ h=>U2 h) (fun _ _ h=>h) (fun _ _ _ h=>h)
 | @ms k off len vs hk hnh hl hm =>
  intro v hr m2;have hb:=hh.blk k _ hk;cases hr with
  |ms0 a=>simp only[List.take_zero];exact .lst0 _ _ _
  | @ms _ _ _ _ _ cap b hmk hc hS =>
   rw[hmk]at hb;cases hb with
   | @vec _ _ c t hw hcv h1 =>
    have hcs:c.size=vs.length:=by rw[<- hcv];simp
    have hlen:(((vs.drop off).take len).map AV.v).length=len:=by rw[afm,agu,List.length_drop];omega
    have he':∀(i:Nat)(e:AV),(((vs.drop off).take len).map AV.v)[i]?=some e->∃u,e=.v u/\c[off+i]?=some u/\u∈vs:=by
     intro i e he;rw[afu,afs]at he;obtain⟨u,he,rfl⟩:=he;rw[af7]at he;split at he
     ·rw[agn]at he;exact⟨u,rfl,by rw[<- ae2,hcv];exact he,afl he⟩
     ·cases he
    have:=Rep.lst (g:=Im (rG ext H hid m) [] m w) (S:=Sz w) (m:=m2) (b:=b) (off:=off) (cap:=cap) (sz:=1) (es:=((vs.drop off).take len).map AV.v) (cs:=c) (fun i j=>c.getD (off+i) undef)
     ⟨E6 hh hk hmk hnh,wL,t,(0,0),hw⟩ oz oz ?_ ?_ ?_ ?_
    ·rw[hlen]at this;simpa using this
    ·intro i e he;obtain⟨u,rfl,_⟩:=he' i e he;rfl
    ·intro i j e x he hx;obtain⟨u,rfl,_,hm⟩:=he' i e he;cases j with
     |zero=>cases hx;exact h1 u hm
     |succ j=>cases hx
    ·intro i j e x he hx;obtain⟨u,rfl,hu,_⟩:=he' i e he;cases j with
     |zero=>rw[Nat.mul_one,ach,afx,hu];rfl
     |succ j=>cases hx
    ·intro i j e x he hx;obtain⟨u,rfl,hu,_⟩:=he' i e he;cases j with
     |zero=>cases hx;rw[afx,hu];exact .v _
     |succ j=>cases hx
def J0:AV->Bool
  | .v (.int _ _)=>true
  |_=>false
def Iz:AV->Bool
  | .v (.int _ _)=>false
  | .v _=>true
  | .lst _ _=>true
  | .ms _ _ _ _=>true
  |_=>false
mutual
def AV.li:AV->Bool
  | .v _=>true
  | .agg cs=>AV.lis cs
  | .tup cs=>AV.lis cs
  | .lst sz es=>ab3 sz 1&&es.all J0
  |_=>false
def AV.lis:List AV->Bool
  |[]=>true
  |x::l=>x.li&&AV.lis l
end
theorem AV.lis_mem:∀{l:List AV}{c:AV},AV.lis l=true->c∈l->c.li=true
 |x::l,c,h,hc=>by
  simp only[AV.lis,afp]at h;rcases agd.1 hc with rfl |hc
  ·exact h.1
  ·exact AV.lis_mem h.2 hc
theorem QK{g:Nat->Array ag9->Prop}{S:Nat->Nat->Prop}{m:Nat->Option Nat}{u:ag9}{x:AV}(hx:Iz x=true)(h:Rep g S m u x)(kk:IntKind)(z:Int):u≠.int kk z:=by
 rintro rfl;cases h <;> cases hx
theorem Rq{g g':Nat->Array ag9->Prop}{S S':Nat->Nat->Prop}{m m':Nat->Option Nat}{v:ag9}{x:AV}(hx:x.li=true)
  (hg:∀b cs (o:Nat)(kk:IntKind)(z:Int),cs[o]?=some (.int kk z)->g b cs->g' b cs) (h:Rep g S m v x):Rep g' S' m' v x:=by
 induction h with
 |v=>exact .v _
 |agg hn h1 hr ih=>exact .agg hn h1 (fun j u c hu hc=>ih j u c hu hc (AV.lis_mem hx (afl hc)))
 |tup hn hr ih=>exact .tup hn (fun j u c hu hc=>ih j u c hu hc (AV.lis_mem hx (afl hc)))
 |lst0 a cap sz=>exact .lst0 _ _ _
 | @lst _ b off cap sz es cs u hb hc hl hs h1 hu hr _ =>
  simp only[AV.li,afp]at hx;have hsz:=afo hx.1;subst hsz
  match es,hx,hc,hl,hs,h1,hu,hr with
  |[],_,_,_,_,_,_,_=>exact .lst0 _ _ _
  |e::es,hx,hc,hl,hs,h1,hu,hr =>
   have hcell:∀(i j:Nat)(e' c:AV),(e::es)[i]?=some e'->e'.cells[j]?=some c->∃kk z,c=.v (.int kk z):=by
    intro i j e' c he hc';have h9:=afy.1 hx.2 e' (afl he);cases e' with
    |v y=>cases y with
     |int kk z =>
      cases j with
      |zero=>cases hc';exact⟨_,_,rfl⟩
      |succ j=>cases hc'
     |_=>cases h9
    |_=>cases h9
   have he0:∃kk z,e=.v (.int kk z):=by
    have h9:=afy.1 hx.2 e (by simp);cases e with
    |v y=>cases y with
     |int kk z=>exact⟨_,_,rfl⟩
     |_=>cases h9
    |_=>cases h9
   obtain⟨kk,z,rfl⟩:=he0;have h8:=hu 0 0 _ _ rfl rfl;have h7:=hr 0 0 _ _ rfl rfl;have h6:u 0 0=.int kk z:=JG h7;rw[h6]at h8;refine .lst u (hg b cs _ kk z h8 hb) hc hl hs h1 hu (fun i j e' c he hc'=>?_);obtain⟨k2,z2,rfl⟩:=hcell i j e' c he hc';rw[JG (hr i j _ _ he hc')];exact .v _
 |_=>cases hx
theorem Con.lend{f:FuncId}{k:Nat}{cs:List AV}{cs':ag9->List AV}{H:Hp}{r:AV}(hid:List Nat)(j0:Nat)(hk:lk H k=some (.box cs))(hkh:k∉hid)
  (hc:∀v:ag9,v.oneCell'=true->(cs' v).length=cs.length/\(∀(j:Nat)(x:AV),(cs' v)[j]?=some x->x.one=true) /\
   ∀(j:Nat)(x x':AV),cs[j]?=some x->(cs' v)[j]?=some x'->(j=j0/\x'=.v v)\/Lent H hid x x')
  (hj:j0<cs.length)
  (hH:∀k z,lk H k=some z->k∈hid\/(∃cs,z=.box cs/\cs.all Iz=true)\/∃vs,z=.vec vs/\∀v∈vs,∀kk z,v≠.int kk z) (hr:r.li=true) (h:∀v:ag9,je P f [.iptr (cs' v)] r):Con P f [.ptr k 0] H r H:=by
 refine⟨(h undef).ok,?_⟩;intro ext m w vs hext hheap hvs hrep;have hsz:0<vs.size:=by rw[hvs];exact Nat.one_pos
 have hr0:=hrep 0 vs[0] _ (ae4 hsz) rfl;have hb:=hheap.blk k _ hk;generalize hv0:vs[0]=v0 at hr0;cases hr0 with
 | @ptr _ _ _ b hmk =>
  rw[hmk]at hb;cases hb with
  | @box _ _ c t hw hn h1 hrr =>
   have hj0:j0<c.size:=by omega
   have hx0:=afr (l:=cs) (i:=j0) oz;have hone:(c[j0]).oneCell'=true:=(hrr j0 _ _ (ae4 hj0) hx0).one (h1 j0 _ hx0);obtain⟨g1,g2,g3⟩:=hc c[j0] hone
   have hext':∀b,rG ext H hid m b->b<w.heap.size:=by
    rintro b (h9 |⟨k',z',_,h2,h3⟩)
    ·exact hext b h9
    ·exact(hheap.sep k' z' b h2 h3).2
   have hcall:=(h c[j0]).ret (rG ext H hid m) m w vs hext' ⟨fun k z hz=>by (cases hz),fun k k' x x' b hx=>by (cases hx),fun k x b hx=>by (cases hx)⟩ (by rw[hvs]; rfl) (by
    intro j v x hv hx
    match j,hx with
    |0,hx =>
     cases hx;rw[ae4 hsz,hv0]at hv;cases hv;refine .iptr (cs:=c) (fun j=>c.getD j undef) ⟨E6 hheap hk hmk hkh,wL,t,(0,0),hw⟩ g2 ?_ ?_
     ·intro j x hx;have hlt:j<c.size:=by rw[hn,<- g1]; exact (adw.1 hx).1
      rw[ab5,afx,ae4 hlt];rfl
     ·intro j x hx;have hlt:j<c.size:=by rw[hn,<- g1]; exact (adw.1 hx).1
      obtain⟨y,hy⟩:=jr g1 hx;have hcv:c[j]?=some (c.getD j undef):=by rw[afx,ae4 hlt];rfl
      rcases g3 j y x hy hx with⟨rfl,rfl⟩ |hl
      ·have:c.getD j undef=c[j]:=by rw[ae4 hlt] at hcv; exact (Option.some.inj hcv).symm
       rw[this];exact .v _
      ·exact hl.rep hheap (hrr j _ y hcv hy) dc)
   refine Calls.mono hcall ?_;rintro e w' ⟨v,m',rfl,hf,hh,hnew,hkeep,hres⟩;have hkeepB:∀b,b<w.heap.size->w'.heap[b]?=w.heap[b]?:=fun b hb=>hf.keep b hb wL
   have hframe:Frame (aW H m) w w':=⟨hf.os,hf.tape,hf.output,hf.size,hf.sz,fun b hb _=>hkeepB b hb⟩
   have him:=fg (ext:=ext) hframe (hp':=H) (m':=m) (fun k x b hk hb=>.inl ⟨k,x,hk,hb⟩);refine⟨v,m,rfl,hframe,⟨?_,hheap.inj,?_⟩,fun k x b hk hb=>.inl ⟨k,x,hk,hb⟩,fun _ _ _ _ _=>rfl,?_⟩
   ·intro k z hz;exact BlkRep.mono (w:=w) him hf.sz (fun _ _ _ h=>h) rfl (fun b hb=>hkeepB b (hheap.sep k z b hz hb).2) (hheap.blk k z hz)
   ·intro k z b hz hb;have:=hheap.sep k z b hz hb;exact⟨this.1,af3 this.2 hf.size⟩
   ·refine Rq hr ?_ hres;rintro b2 cs2 o kk z ho ⟨g1,g2,t2,fl,g3⟩;refine⟨fun h9=>g1 (.inl h9),?_,t2,fl,g3⟩;rintro⟨k2,y,hk2,hb2⟩;have hlt:=fun b hb=>(hheap.sep k2 _ b hk2 hb).2
    have h3:=hheap.blk k2 _ hk2;rw[hb2]at h3;rcases hH k2 y hk2 with h9 |⟨cl,rfl,hcl⟩ |⟨vs2,rfl,hvl⟩
    ·exact g1 (.inr ⟨k2,y,h9,hk2,hb2⟩)
    ·cases h3 with
     | @box _ _ c2 t' hw2 hn2 h12 hrr2 =>
      have hcc:c2=cs2:=by
       rw[hkeepB b2 (hlt b2 hb2),hw2]at g3
       injection g3 with g3
       injection g3
      subst hcc;have ho':o<c2.size:=(Array.getElem?_eq_some_iff.1 ho).1;have hx:=afr (l:=cl) (i:=o) oz;exact QK (afy.1 hcl _ (afl hx)) (hrr2 o _ _ ho hx) kk z rfl
    ·cases h3 with
     | @vec _ _ c2 t' hw2 hc2 h12 =>
      have hcc:c2=cs2:=by
       rw[hkeepB b2 (hlt b2 hb2),hw2]at g3
       injection g3 with g3
       injection g3
      subst hcc;have:Value.int kk z∈vs2:=by rw[<- hc2];exact Array.mem_toList_iff.2 (Array.mem_of_getElem? ho)
      exact hvl _ this kk z rfl
end Go.Lw
namespace Go.Lw
open Go.Proofs
def bv(xs:List Bool):List ag9:=xs.map .bool
theorem gO(xs:List Bool):(bv xs).length=xs.length:=afm _
theorem yk(xs:List Bool)(n:Nat):(bv xs).set n (.bool true)=bv (xs.set n true):=by unfold bv;rw[ags]
theorem B4(xs:List Bool):∀v∈bv xs,∀kk z,v≠.int kk z:=by
 intro v hv kk z;obtain⟨b,_,rfl⟩:=ac6.1 hv;exact fun h=>by cases h
theorem xW(xs:List Bool):(bv xs).map AV.v=xs.map bl:=by unfold bv;rw[map_map];rfl
theorem CL(n:Nat):ad7 n (Value.bool false)=bv (ad7 n false):=by unfold bv;rw[agq]
theorem UA(xs:List Int):(xs.map i64).all J0=true:=by
 rw[afy];intro x hx;obtain⟨b,_,rfl⟩:=ac6.1 hx;rfl
theorem aaq(g:Gr)(b:Bool):(AV.tup [g.av,bl b]).li=true:=by
 simp only[AV.li,AV.lis,Gr.av,UA];rfl
def o7(l:Li)(n:Nat):Blk:=.box (l.av.cells++[.ms 23 1 0 l.bo.length,.ms 27 1 0 l.bo.length,.ms 31 1 0 l.jo.length,.ms 900 4 0 n])
def oA(l:Li)(kw used:List Bool)(out:List Gr):Hp :=
  [pP 33 (o7 l out.length),pP 23 (.vec (bv kw)),pP 27 (.vec (bv (bV l))),pP 31 (.vec (bv used)),pP 900 (.row 4 (out.map Gr.av))]
theorem D7{xs:List Bool}{n:Nat}(h:xs.length=n):AV.lst 1 ((((bv xs).drop 0).take n).map .v)=.lst 1 (xs.map bl):=by
 rw[agw,af4 (by rw[gO];omega),xW]
theorem Jr(l:Li)(hl:l.ok)(hli:ao l=0)(kw used:List Bool)(hk:kw.length=l.bo.length)(hu:used.length=l.jo.length)(hm:l.bo.length<=aS/\l.jo.length<=aS)(out:List Gr) :
  Con prog 344 [.ptr 33 0] (oA l kw used out) (.tup [((nextG l kw).getD default).av,bl (nextG l kw).isSome]) (oA l kw used out):=by
 refine Con.lend (cs:=l.av.cells++[.ms 23 1 0 l.bo.length,.ms 27 1 0 l.bo.length,.ms 31 1 0 l.jo.length,.ms 900 4 0 out.length])
  (cs':=fun v=>dO l kw (bV l) [.lst 1 (used.map bl),.v v]) [900] 7 rfl (by decide) ?_ (by simp[Li.av,AV.cells]) ?_ (aaq _ _) (fun v=>P5 l hl hli kw hk _)
 ·intro v hv;refine⟨rfl,?_,?_⟩
  ·intro j x hx
   match j,hx with
   |0,hx=>cases hx;rfl
   |1,hx=>cases hx;rfl
   |2,hx=>cases hx;rfl
   |3,hx=>cases hx;rfl
   |4,hx=>cases hx;rfl
   |5,hx=>cases hx;rfl
   |6,hx=>cases hx;rfl
   |7,hx=>cases hx;exact hv
   |j+8,hx=>cases hx
  ·intro j x x' hx hx'
   match j,hx,hx' with
   |0,hx,hx'=>cases hx;cases hx';exact .inr (.same rfl)
   |1,hx,hx'=>cases hx;cases hx';exact .inr (.same rfl)
   |2,hx,hx'=>cases hx;cases hx';exact .inr (.same rfl)
   |3,hx,hx'=>cases hx;cases hx';exact .inr (.same rfl)
   |4,hx,hx' =>
    cases hx;cases hx'
    have h:=Lent.ms (H:=oA l kw used out) (hid:=[900]) (k:=23) (off:=0) (len:=l.bo.length) (vs:=bv kw) rfl (by decide) (by rw[gO];omega) (by rw[gO];omega);rw[D7 hk]at h;exact .inr h
   |5,hx,hx' =>
    cases hx;cases hx'
    have h:=Lent.ms (H:=oA l kw used out) (hid:=[900]) (k:=27) (off:=0) (len:=l.bo.length) (vs:=bv (bV l)) rfl (by decide) (by rw[gO,vV];omega) (by rw[gO,vV];omega);rw[D7 (vV l)]at h;exact .inr h
   |6,hx,hx' =>
    cases hx;cases hx'
    have h:=Lent.ms (H:=oA l kw used out) (hid:=[900]) (k:=31) (off:=0) (len:=l.jo.length) (vs:=bv used) rfl (by decide) (by rw[gO];omega) (by rw[gO];omega);rw[D7 hu]at h;exact .inr h
   |7,hx,hx'=>cases hx;cases hx';exact .inl ⟨rfl,rfl⟩
   |j+8,hx,hx'=>cases hx
 ·intro k z hz;simp only[oA,aD]at hz;split at hz
  ·cases hz;exact .inr (.inl ⟨_,rfl,rfl⟩)
  split at hz
  ·cases hz;exact .inr (.inr ⟨_,rfl,B4 _⟩)
  split at hz
  ·cases hz;exact .inr (.inr ⟨_,rfl,B4 _⟩)
  split at hz
  ·cases hz;exact .inr (.inr ⟨_,rfl,B4 _⟩)
  split at hz
  ·subst_vars;exact .inl (by decide)
  ·cases hz
def rP(l:Li):AV:=if ao l=0 then .iptr (dO l (cG l) (bV l) [.lst 1 ((fm l).map bl),.lst 4 ((findG l).map Gr.av)])else .v (.pointer none)
def jJ(l:Li)(out:List Gr):List Bool:=out.foldl (fun k g=>bG k g.jo) (ad7 l.jo.length false)
theorem AD(l:Li)(out:List Gr):(jJ l out).length=l.jo.length:=by unfold jJ;rw[sH,agl]
theorem SE(l:Li)(out:List Gr)(g:Gr):jJ l (out++[g])=bG (jJ l out) g.jo:=by unfold jJ;rw[List.foldl_append];rfl
theorem CF{k:List Bool}{bs:List Int}{i:Nat}{b:Int}(h:bs[i]?=some b):bG k (bs.take (i+1))=(bG k (bs.take i)).set b.toNat true:=by
 unfold bG;rw[eH h,List.foldl_append];rfl
theorem Y6{l:Li}(hli:ao l=0){kw:List Bool}{out:List Gr}{g:Gr}(hk:kw.length=l.bo.length)(h:findFrom l (dz kw) kw out=(cG l,findG l))(hg:nextG l kw=some g) :
  findFrom l (dz (bG kw g.bo)) (bG kw g.bo) (out++[g])=(cG l,findG l):=by
 have hlt:=uJ hli hk hg;obtain⟨n,hn⟩:∃n,dz kw=n+1:=⟨dz kw-1,by omega⟩
 rw[hn]at h;unfold findFrom at h;rw[hg]at h;rw[<- h];exact Dk hli _ _ _ _ (by rw[lZ];exact hk) (afq _) oz
theorem XK{l:Li}{kw:List Bool}{out:List Gr}(h:findFrom l (dz kw) kw out=(cG l,findG l))(hg:nextG l kw=none):kw=cG l/\out=findG l:=by
 cases hn:dz kw with
 |zero=>rw[hn]at h;exact⟨(Prod.mk.inj h).1,(Prod.mk.inj h).2⟩
 |succ n=>rw[hn]at h;unfold findFrom at h;rw[hg]at h;exact⟨(Prod.mk.inj h).1,(Prod.mk.inj h).2⟩
theorem Ww{n:Nat}:dz (da n 0)<=n:=by
 unfold dz;exact af2 List.countP_le_length (Nat.le_of_eq (jK _ _))
theorem TZ{l:Li}(hli:ao l=0):findFrom l (dz (da l.bo.length 0)) (da l.bo.length 0) []=(cG l,findG l):=by
 rw[<- Rn];exact Dk hli _ _ _ _ (jK _ _) (afq _) Ww
theorem UT{l:Li}(hli:ao l=0){kw:List Bool}{out:List Gr}(hk:kw.length=l.bo.length)(h:findFrom l (dz kw) kw out=(cG l,findG l)):out.length<=8:=by
 obtain⟨gs,e⟩:=ES (l:=l) (dz kw) kw out;rw[e]at h;have h1:=(qF hli).2;have h2:out++gs=findG l:=(Prod.mk.inj h).2;rw[<- h2,agf]at h1;omega
theorem WY(l:Li)(kw used:List Bool)(out:List Gr)(hk:kw.length=l.bo.length)(hu:used.length=l.jo.length)(hm:l.bo.length<=aS/\l.jo.length<=aS) :
  Wk ⟨[pP 5 (.ptr 33 0)],oA l kw used out⟩ ⟨[pP 5 (.iptr (dO l kw (bV l) [.lst 1 (used.map bl),.lst 4 (out.map Gr.av)]))],[]⟩:=by
 have hd:=vV l;have q1:.ms 23 1 0 l.bo.length=AV.ms 23 1 0 ((bv kw).map AV.v).length:=by rw[afm,gO,hk]
 refine(Wk.of (sl:=[pP 5 (.ptr 33 0)]) (hp:=[pP 33 (o7 l out.length),pP 23 (.row 1 ((bv kw).map .v)),pP 27 (.row 1 ((bv (bV l)).map .v)),pP 31 (.row 1 ((bv used).map .v)),pP 900 (.row 4 (out.map Gr.av))])
  (.k .nil) (.k (.cons rfl (.vecRow (by rw[gO];omega)) (.cons rfl (.vecRow (by rw[gO];omega)) (.cons rfl (.vecRow (by rw[gO];omega)) (.k .nil)))))).trans ?_
 refine(Wk.freeze (k:=23) rfl).trans ?_
 refine(Wk.of (sl:=[pP 5 (.ptr 33 0)]) (hp:=[pP 33 (.box (l.av.cells++[.lst 1 (kw.map bl),.ms 27 1 0 l.bo.length,.ms 31 1 0 l.jo.length,.ms 900 4 0 out.length])),pP 27 (.row 1 ((bv (bV l)).map .v)),pP 31 (.row 1 ((bv used).map .v)),pP 900 (.row 4 (out.map Gr.av))])
  (.k .nil) (.cons rfl (BlkSub.boxL (.cons (.refl _) (.cons (.refl _) (.cons (.refl _) (.cons (.refl _) (.cons (.of ((cz (by rw[afm,gO,hk])).trans (by rw[xW]))) (.cons (.refl _) (.cons (.refl _) (.cons (.refl _) .nil)))))))) rfl) (.k (.k (.k .nil))))).trans ?_
 refine(Wk.freeze (k:=27) rfl).trans ?_
 refine(Wk.of (sl:=[pP 5 (.ptr 33 0)]) (hp:=[pP 33 (.box (l.av.cells++[.lst 1 (kw.map bl),.lst 1 ((bV l).map bl),.ms 31 1 0 l.jo.length,.ms 900 4 0 out.length])),pP 31 (.row 1 ((bv used).map .v)),pP 900 (.row 4 (out.map Gr.av))])
  (.k .nil) (.cons rfl (BlkSub.boxL (.cons (.refl _) (.cons (.refl _) (.cons (.refl _) (.cons (.refl _) (.cons (.refl _) (.cons (.of ((cz (by rw[afm,gO,hd])).trans (by rw[xW]))) (.cons (.refl _) (.cons (.refl _) .nil)))))))) rfl) (.k (.k .nil)))).trans ?_
 refine(Wk.freeze (k:=31) rfl).trans ?_
 refine(Wk.of (sl:=[pP 5 (.ptr 33 0)]) (hp:=[pP 33 (.box (l.av.cells++[.lst 1 (kw.map bl),.lst 1 ((bV l).map bl),.lst 1 (used.map bl),.ms 900 4 0 out.length])),pP 900 (.row 4 (out.map Gr.av))])
  (.k .nil) (.cons rfl (BlkSub.boxL (.cons (.refl _) (.cons (.refl _) (.cons (.refl _) (.cons (.refl _) (.cons (.refl _) (.cons (.refl _) (.cons (.of ((cz (by rw[afm,gO,hu])).trans (by rw[xW]))) (.cons (.refl _) .nil)))))))) rfl) (.k .nil))).trans ?_
 refine(Wk.freeze (k:=900) rfl).trans ?_
 refine(Wk.of (sl:=[pP 5 (.ptr 33 0)]) (hp:=[pP 33 (.box (dO l kw (bV l) [.lst 1 (used.map bl),.lst 4 (out.map Gr.av)]))])
  (.k .nil) (.cons rfl (BlkSub.boxL (.cons (.refl _) (.cons (.refl _) (.cons (.refl _) (.cons (.refl _) (.cons (.refl _) (.cons (.refl _) (.cons (.refl _) (.cons (.of (cz (by rw[afm]))) .nil)))))))) rfl) .nil)).trans ?_
 refine(Wk.freezeB (k:=33) rfl rfl).trans ?_;exact Wk.of (.k .nil) .nil
theorem V9(l:Li)(hl:l.ok):FP 222 [l.av] (.tup [rP l,cf (ao l)]):=by
 refine ai func222 ?_;refine gc (Bi l hl) ?_;refine gC (fun y=>?_) (fun y=>?_)
 ·have h1:=eQ y;refine bg ?_;unfold rP;rw[agy h1]
 have hli:=fd y;have h8:=(er hli).2.2.2.1;have h0:=(er hli).2.2.2.2;have hj16:l.jo.length<=16:=by have:=(er hli).2.1;unfold fa at this;split at this;cases this;omega
 have hld:=hl.ld;have hm:l.bo.length<=aS/\l.jo.length<=aS:=by unfold aS;omega
 refine gl ?_;refine gs (D8 (.tmp rfl) T320 rfl T4 rfl rfl rfl rfl (by dsimp only;omega) rfl) ?_;refine gl ?_;refine gs (D8 (.tmp rfl) T320 rfl T4 rfl rfl rfl rfl (by dsimp only;omega) rfl) ?_;refine gl ?_;refine gs (D8 (.tmp rfl) T320 rfl T4 rfl rfl rfl rfl (by dsimp only;omega) rfl) ?_;refine gD ?_;refine gs (bi (n:=0) (.tmp rfl) (.const _) T320 rfl T4 rfl rfl oz rfl) ?_;refine gs (xC (.tmp rfl) rfl (by rw[agl];omega) (.const _) rfl T4 rfl) ?_ (6,0);refine gW (Wk.of (sl:=[pP 1 (.ptr 1 0),pP 5 (.ptr 33 0)]) (hp:=[pP 1 (.box l.av.cells),pP 33 (.box (l.av.cells++[.ms 23 1 0 l.bo.length,.ms 27 1 0 l.bo.length,.ms 31 1 0 l.jo.length,nS])),pP 23 (.vec (bv (da l.bo.length 0))),pP 27 (.vec (bv (ad7 l.bo.length false))),pP 31 (.vec (bv (ad7 l.jo.length false)))]) bj (.k (.k (.cons rfl (BlkSub.of (by rw[CL,yk];rfl)) (.cons rfl (BlkSub.of (by rw[CL])) (.cons rfl (BlkSub.of (by rw[CL])) .nil)))))) ?_
 refine gl ?_;refine aL [1,5,40,41] [1,23,31] (fun(i:Nat)=>[pP 42 (i64 i)]) (fun i=>[pP 33 (.box (l.av.cells++[.ms 23 1 0 l.bo.length,.ms 27 1 0 l.bo.length,.ms 31 1 0 l.jo.length,nS])),pP 27 (.vec (bv (bG (ad7 l.bo.length false) ((l.dv.map Dr.body).take i))))]) (fun i=>i<=l.dv.length) (fun i=>l.dv.length-i) 0 (afz _) ?_;rintro i hi K1 J1;refine gC (fun y=>?_) (fun y=>?_) (st2:=(11,0))
 ·have hin:=aY y;obtain⟨d,hd⟩:=ay hin;have hb:=cV (pS hli hd);have hmt:=CF (k:=ad7 l.bo.length false) (bs:=l.dv.map Dr.body) (i:=i) (b:=d.body) (by rw[afu,hd];rfl);refine gi (aq hd) ?_;refine gs (bi (n:=d.body.toNat) (.tmp rfl) (.tmp rfl) T320 rfl T4 rfl oz oz rfl) ?_;refine gs (xC (.tmp rfl) rfl (by rw[gO,lZ,agl];omega) (.const _) rfl T4 rfl) ?_;refine gD ?_;refine ga aK ?_;exact aH J1 (i+1) hin (hw:=Wk.of bj (.k (.cons rfl (BlkSub.of (by rw[yk,hmt])) (.k (.k (.k .nil))))))
 have hin:=a7 hi y;have hall:bG (ad7 l.bo.length false) ((l.dv.map Dr.body).take i)=bV l:=by rw[hin];unfold bV;rw[af4 (by rw[afm];omega)]
 refine gW ((Wk.virt 900 4 rfl).trans<|Wk.of (sl:=[pP 1 (.ptr 1 0),pP 5 (.ptr 33 0)]) (hp:=[pP 33 (o7 l 0),pP 23 (.vec (bv (da l.bo.length 0))),pP 27 (.vec (bv (bV l))),pP 31 (.vec (bv (ad7 l.jo.length false))),pP 900 (.row 4 [])]) bj (.cons rfl (BlkSub.boxL (.cons (.refl _) (.cons (.refl _) (.cons (.refl _) (.cons (.refl _) (.cons (.refl _) (.cons (.refl _) (.cons (.refl _) (.cons (Sub.nM _ _ _) .nil)))))))) rfl) (.k (.cons rfl (BlkSub.of (by rw[hall])) (.k (.k .nil)))))) ?_
 refine gt (aF (Jr l hl hli (da l.bo.length 0) (ad7 l.jo.length false) (jK _ _) agl hm []) (fo rfl) (fun k z h=>h) rfl rfl) ?_;refine ib [5,8] [] (fun(kw:List Bool)(out:List Gr)=>[pP 9 (bl (nextG l kw).isSome)]) (fun kw out=>[pP 8 (.box ((nextG l kw).getD default).av.cells),pP 33 (o7 l out.length),pP 23 (.vec (bv kw)),pP 27 (.vec (bv (bV l))),pP 31 (.vec (bv (jJ l out))),pP 900 (.row 4 (out.map Gr.av))]) (fun kw out=>kw.length=l.bo.length/\findFrom l (dz kw) kw out=(cG l,findG l)) (fun kw _=>dz kw) (da l.bo.length 0) ([]) ⟨jK _ _,TZ hli⟩ ?_
 rintro kw out ⟨hk,hf⟩ K2 J2;refine gC (fun y=>?_) (fun y=>?_) (st1:=(77777,0)) (st2:=(27,0))
 ·obtain⟨g,hg⟩:=CX y;have hgo:=zQ hli hg;have hout:=UT hli hk hf;refine gW (Wk.of (sl:=[pP 5 (.ptr 33 0),pP 8 (.ptr 8 0)]) (hp:=[pP 8 (.box g.av.cells),pP 33 (o7 l out.length),pP 23 (.vec (bv kw)),pP 27 (.vec (bv (bV l))),pP 31 (.vec (bv (jJ l out))),pP 900 (.row 4 (out.map Gr.av))]) bj (.cons rfl (BlkSub.of (by rw[hg]; rfl)) (.k (.k (.k (.k (.k .nil))))))) ?_;refine gl ?_;refine aL [5,8,66,67] [8,33,27,31,900] (fun (j:Nat)=>[pP 68 (i64 j)]) (fun j=>[pP 23 (.vec (bv (bG kw (g.bo.take j))))]) (fun j=>j<=g.bo.length) (fun j=>g.bo.length - j) 0 (afz _) ?_;rintro j hj K3 J3;refine gC (fun y=>?_) (fun y=>?_)
  ·have hin:=aY y;obtain⟨b,hb⟩:=ay hin;have hbb:=hgo.b b (afl hb);have hlb:=hgo.lb;refine gi (aq hb) ?_;refine gs (bi (n:=b.toNat) (.tmp rfl) (.tmp rfl) T320 rfl T4 rfl oz oz rfl) ?_;refine gs (xC (.tmp rfl) rfl (by rw[gO,lZ];omega) (.const _) rfl T4 rfl) ?_;refine ga aK ?_;exact aH J3 (j+1) hin (hw:=Wk.of bj (.cons rfl (BlkSub.of (by rw[yk,CF hb])) (.k (.k (.k (.k (.k .nil)))))))
  have hin:=a7 hj y;subst hin;refine gl ?_;refine aL [5,8,80,81] [8,33,27,900] (fun(q:Nat)=>[pP 82 (i64 q)]) (fun q=>[pP 23 (.vec (bv (bG kw g.bo))),pP 31 (.vec (bv (bG (jJ l out) (g.jo.take q))))]) (fun q=>q<=g.jo.length) (fun q=>g.jo.length-q) 0 (afz _) ?_ (h2:=(.cons rfl (BlkSub.of (by rw[af1])) (.k .nil)));rintro q hq K4 J4;refine gC (fun y=>?_) (fun y=>?_)
  ·have hin:=aY y;obtain⟨b,hb⟩:=ay hin;have hbb:=hgo.j b (afl hb);have hlj:=hgo.lj;refine gi (aq hb) ?_;refine gs (bi (n:=b.toNat) (.tmp rfl) (.tmp rfl) T320 rfl T4 rfl oz oz rfl) ?_;refine gs (xC (.tmp rfl) rfl (by rw[gO,lZ,AD];omega) (.const _) rfl T4 rfl) ?_;refine ga aK ?_;exact aH J4 (q+1) hin (hw:=Wk.of bj (.k (.cons rfl (BlkSub.of (by rw[yk,CF hb])) (.k (.k (.k (.k .nil)))))))
  have hin:=a7 hq y;subst hin;refine gs (eg (.tmp rfl) rfl (by rw[afm]) (.tmp rfl) T130 rfl T169 rfl rfl (by simp only[af9,agj];omega) rfl rfl) ?_;refine gD ?_ (25,0);refine gW (Wk.of (sl:=[pP 5 (.ptr 33 0),pP 8 (.ptr 8 0)]) (hp:=[pP 8 (.box g.av.cells),pP 33 (.box (l.av.cells++[.ms 23 1 0 l.bo.length,.ms 27 1 0 l.bo.length,.ms 31 1 0 l.jo.length,.ms 100 4 0 (out++[g]).length])),pP 100 (.row 4 ((out++[g]).map Gr.av)),pP 23 (.vec (bv (bG kw g.bo))),pP 27 (.vec (bv (bV l))),pP 31 (.vec (bv (jJ l (out++[g]))))]) bj (.k (.cons rfl (BlkSub.of (by rw[agf];rfl)) (.cons rfl (BlkSub.of (by rw[agc];rfl)) (.k (.k (.cons rfl (BlkSub.of (by rw[SE,af1])) .nil))))))) ?_ (25,0)
  refine gW (Wk.rk (k:=100) (d:=900) rfl rfl) ?_ (26,0);refine gW (Wk.o (sl:=[pP 5 (.ptr 33 0),pP 103 (g.av)]) (hp:=[pP 33 (o7 l (out++[g]).length),pP 23 (.vec (bv (bG kw g.bo))),pP 27 (.vec (bv (bV l))),pP 31 (.vec (bv (jJ l (out++[g])))),pP 900 (.row 4 ((out++[g]).map Gr.av))])) ?_;refine gt (aF (Jr l hl hli (bG kw g.bo) (jJ l (out++[g])) (by rw[lZ];exact hk) (AD _ _) hm (out++[g])) (fo rfl) (by intro k z h;simp only[oA,aD]at h;split at h;(subst_vars;exact h);split at h;(subst_vars;exact h);split at h;(subst_vars;exact h);split at h;(subst_vars;exact h);split at h;(subst_vars;exact h);cases h) rfl rfl) ?_;exact ik J2 (bG kw g.bo) (out++[g]) ⟨by rw[lZ];exact hk,Y6 hli hk hf hg⟩ (uJ hli hk hg)
 have hg:=Bx y;obtain⟨e1,e2⟩:=XK hf hg;subst e1 e2;refine gW (Wk.o (sl:=[pP 5 (.ptr 33 0)]) (hp:=[pP 33 (o7 l (findG l).length),pP 23 (.vec (bv (cG l))),pP 27 (.vec (bv (bV l))),pP 31 (.vec (bv (jJ l (findG l)))),pP 900 (.row 4 ((findG l).map Gr.av))])) ?_ (27,0);refine gW (WY l (cG l) (jJ l (findG l)) (findG l) hk (AD _ _) hm) ?_;refine bg ?_;unfold rP;rw[agz hli,hli];rfl
theorem FD{α:Type}[BEq α][LawfulBEq α]{xs:List α}{b:α}{ok:Nat->Bool}(h:∀i x,xs[i]?=some x->ok i=!(b==x)):decide (0<=kG (bJ xs.length ok))=xs.contains b:=by
 cases hf:bJ xs.length ok with
 |some i =>
  obtain⟨h1,h2⟩:=iK hf;obtain⟨x,hx⟩:=ay h1;rw[h i x hx]at h2;have:b=x:=by simpa using h2
  subst this;rw[ads.2 (afl hx)];exact ag3 (by show(0:Int)<=(i:Int);omega)
 |none =>
  rw[ag4 (by show ¬(0:Int)<=-1;decide)]
  symm
  rw[<- Bool.not_eq_true,ads];intro hm;obtain⟨i,hi⟩:=List.mem_iff_getElem?.1 hm;have hlt:=(adw.1 hi).1;unfold bJ at hf;rw[List.find?_eq_none]at hf;have:=hf i (ac5.2 hlt);rw[h i b hi]at this;simp at this
theorem Nu(xs:List Bool)(b:Bool)(hl:xs.length<=281474976710656):FP 345 [.lst 1 (xs.map bl),bl b] (i64 (kG (bJ xs.length (fun i=>!(b==xs.getD i false))))):=by
 refine ai func345 ?_;refine gl ?_;refine aL [0,1,7] [] (fun(i:Nat)=>[pP 8 (i64 i)]) (fun _=>[]) (fun i=>i<=xs.length/\∀j,j<i->(!(b==xs.getD j false))=true) (fun i=>xs.length-i) 0 ⟨afz _,fun j h=>by omega⟩ ?_;rintro i ⟨hi,hj⟩ K1 J1;refine gC (fun z=>?_) (fun z=>?_)
 ·have hin:=aY z;obtain⟨x,hx⟩:=ay hin;have hg:xs.getD i false=x:=ax hx;refine gi (aq hx) ?_;refine gC (fun z=>?_) (fun z=>?_)
  ·have h2:(b==x)=true:=z;refine af ?_;rw[fS hin hj (by rw[hg,h2];rfl)];rfl
  have h2:(b==x)=false:=z;refine ga aK ?_;exact aH J1 (i+1) ⟨hin,fun j h9=>by rcases afv j i with g |g;exact hj j g;(have:j=i:=by omega);subst this;rw[hg,h2];rfl⟩
 have hin:=a7 hi z;subst hin;refine af ?_;rw[gn hj];rfl
theorem Ke(xs:List Bool)(b:Bool)(hl:xs.length<=281474976710656):FP 223 [.lst 1 (xs.map bl),bl b] (bl (xs.contains b)):=by
 refine ai func223 ?_;refine gc (Nu xs b hl) ?_;refine af ?_;rw[<- FD (xs:=xs) (b:=b) (ok:=fun i=>!(b==xs.getD i false)) (fun i x hx=>by rw[ax hx])];rfl
theorem UW(xs:List Int)(b:Int)(hl:xs.length<=281474976710656):FP 401 [.lst 1 (xs.map i64),i64 b] (i64 (kG (bJ xs.length (fun i=>!(b==xs.getD i 0))))):=by
 refine ai func401 ?_;refine gl ?_;refine aL [0,1,7] [] (fun(i:Nat)=>[pP 8 (i64 i)]) (fun _=>[]) (fun i=>i<=xs.length/\∀j,j<i->(!(b==xs.getD j 0))=true) (fun i=>xs.length-i) 0 ⟨afz _,fun j h=>by omega⟩ ?_;rintro i ⟨hi,hj⟩ K1 J1;refine gC (fun z=>?_) (fun z=>?_)
 ·have hin:=aY z;obtain⟨x,hx⟩:=ay hin;have hg:xs.getD i 0=x:=ax hx;refine gi (aq hx) ?_;refine gC (fun z=>?_) (fun z=>?_)
  ·have h2:(b==x)=true:=z;refine af ?_;rw[fS hin hj (by rw[hg,h2];rfl)];rfl
  have h2:(b==x)=false:=z;refine ga aK ?_;exact aH J1 (i+1) ⟨hin,fun j h9=>by rcases afv j i with g |g;exact hj j g;(have:j=i:=by omega);subst this;rw[hg,h2];rfl⟩
 have hin:=a7 hi z;subst hin;refine af ?_;rw[gn hj];rfl
theorem HX(xs:List Int)(b:Int)(hl:xs.length<=281474976710656):FP 318 [.lst 1 (xs.map i64),i64 b] (bl (xs.contains b)):=by
 refine ai func318 ?_;refine gc (UW xs b hl) ?_;refine af ?_;rw[<- FD (xs:=xs) (b:=b) (ok:=fun i=>!(b==xs.getD i 0)) (fun i x hx=>by rw[ax hx])];rfl
theorem yn(l:Li)(hl:l.ok):FP 113 [l.av] (.tup [.lst 4 (((if ao l=0 then splitG l else[])).map Gr.av),cf (if ao l=0 then splitE l else ao l)]):=by
 refine ai func113 ?_;refine gc (V9 l hl) (hnm:=(by unfold rP;split <;> rfl)) ?_;refine gC (fun z=>?_) (fun z=>?_) (st2:=(77777,0))
 ·have h1:=eQ z;refine gR ?_;exact gy (by rw[agy h1,agy h1];exact Sub.tup (.cons (.nil _ _ _) (.cons (.refl _) .nil)))
 have hli:=fd z;have h8:=(er hli).2.2.2.1;have hj16:l.jo.length<=16:=by have:=(er hli).2.1;unfold fa at this;split at this;cases this;omega
 have lk1:(cG l).length=l.bo.length:=by unfold cG;rw[sH,jK]
 have lk2:(fm l).length=l.jo.length:=by unfold fm;rw[sH,agl]
 have e1:rP l=.iptr (dO l (cG l) (bV l) [.lst 1 ((fm l).map bl),.lst 4 ((findG l).map Gr.av)]):=by unfold rP;rw[agz hli]
 have c1:=Kr (k:=cG l);have c2:=Kr (k:=fm l);refine gW (Wk.of (sl:=[pP 4 (.iptr (dO l (cG l) (bV l) [.lst 1 ((fm l).map bl),.lst 4 ((findG l).map Gr.av)])),pP 5 (cf (ao l))]) (hp:=[]) (.cons rfl (Sub.of e1) (.k .nil)) .nil) ?_;refine gc (Ke (cG l) false oz) ?_;refine bn (fun _=>(Ke (fm l) false oz)) ?_;refine gC (fun t25=>?_) (fun t25=>?_)
 ·have h2:splitE l=7:=by
   unfold splitE;rw[agy];intro h;have h3:(cG l).contains false=false:=c1.1 oz;have h4:(fm l).contains false=false:=c2.1 oz;rw[h3,h4]at t25;cases t25
  refine gR ?_;exact gy (by rw[agz hli,agz hli];unfold splitG;rw[agy (by rw[h2];simp),h2];exact Sub.tup (.cons (.nil _ _ _) (.cons (.refl _) .nil)))
 have h2:splitE l=0:=by
  unfold splitE;rw[agz];cases h3:(cG l).contains false <;> cases h4:(fm l).contains false <;> rw[h3,h4]at t25 <;> first |(cases t25;done) |(have g1:=c1.2 h3;have g2:=c2.2 h4;omega)
 refine bg ?_;rw[agz hli,agz hli,h2];unfold splitG;rw[agz h2];rfl
def SO(ys:List Int)(i:Nat):Prop:=∀p q,p<q->q<i->ys.getD p 0<=ys.getD q 0
def SI(ys:List Int)(i j:Nat):Prop:=∀p q,p<q->q<=i->q≠j->ys.getD p 0<=ys.getD q 0
theorem Rd{xs ys:List Int}{i:Nat}(hp:ys.Perm xs)(hi:ys.length<=i)(h:SO ys i):ys=eO xs:=by
 refine Rb hp (List.pairwise_iff_getElem.2 fun p q hp hq hpq=>?_);have h1:=h p q hpq oz;rw[ax (afr hp),ax (afr hq)]at h1;exact h1
theorem WK{ys:List Int}{i:Nat}(h:SO ys i):SI ys i i:=fun p q h1 h2 h3=>h p q h1 oz
theorem aa4{ys:List Int}{i j:Nat}(h:SI ys i j)(hj:j=0\/ys.getD (j-1) 0<=ys.getD j 0):SO ys (i+1):=by
 intro p q h1 h2
 by_cases hq:q=j
 ·subst hq;rcases hj with hj |hj
  ·omega
  ·by_cases hp:p=q-1
   ·subst hp;exact hj
   ·exact Int.le_trans (h p (q-1) oz oz oz) hj
 ·exact h p q h1 oz hq
theorem ID(ys:List Int)(i:Nat)(x:Int)(p:Nat)(hi:i<ys.length):(ys.set i x).getD p 0=if p=i then x else ys.getD p 0:=by
 rw[afn,afn,List.getElem?_set]
 by_cases h:i=p
 ·subst h;simp[hi]
 ·rw[agy h,agy (fun e=>h e.symm)]
theorem XE{ys:List Int}{i j:Nat}(h:SI ys i j)(hj:0<j)(hi:j<=i)(hl:i<ys.length)(hlt:ys.getD j 0<ys.getD (j-1) 0):SI ((ys.set j (ys.getD (j-1) 0)).set (j-1) (ys.getD j 0)) i (j-1):=by
 intro p q h1 h2 h3
 have e:∀r,((ys.set j (ys.getD (j-1) 0)).set (j-1) (ys.getD j 0)).getD r 0=if r=j-1 then ys.getD j 0 else if r=j then ys.getD (j-1) 0 else ys.getD r 0:=fun r=>by
  rw[ID _ _ _ _ (by rw[agm];omega),ID _ _ _ _ oz]
 rw[e,e,agy h3]
 by_cases hq:q=j
 ·rw[agz hq]
  by_cases hp:p=j-1
  ·rw[agz hp];omega
  ·rw[agy hp,agy oz];exact h p (j-1) oz oz oz
 ·rw[agy hq]
  by_cases hp:p=j-1
  ·rw[agz hp];exact h j q oz h2 hq
  ·rw[agy hp]
   by_cases hp2:p=j
   ·rw[agz hp2];exact h (j-1) q oz h2 hq
   ·rw[agy hp2];exact h p q h1 h2 hq
theorem ZR{ys:List Int}{j:Nat}{a b:Int}(ha:ys[j]?=some a)(hb:ys[j-1]?=some b):((ys.set j b).set (j-1) a).Perm ys:=by
 obtain⟨h1,rfl⟩:=adw.1 ha;obtain⟨h2,rfl⟩:=adw.1 hb;exact List.set_set_perm h1 h2
theorem RT{j:Nat}{a b:Int}(h:cond (aa .gtr (j:Int) 0) (decide (a<b)) false=true):0<j/\a<b:=by
 cases h1:aa .gtr (j:Int) 0 <;> rw[h1]at h
 ·cases h
 ·exact⟨ja (b:=0) h1,ag1 h⟩
theorem PK{j:Nat}{a b:Int}(h:cond (aa .gtr (j:Int) 0) (decide (a<b)) false=false):j=0\/b<=a:=by
 cases h1:aa .gtr (j:Int) 0 <;> rw[h1]at h
 ·have:=iP (b:=0) h1;omega
 ·have h2:decide (a<b)=false:=h;have:=ag2 h2;omega
theorem Ui(ys:List Int)(j:Nat)(a b:Int):((ys.map i64).set j (i64 b)).set (j-1) (i64 a)=((ys.set j b).set (j-1) a).map i64:=by rw[ags,ags]
theorem Ik(a:Int):FP 454 [i64 a] (bl false):=by
 refine ai func454 ?_;refine af ?_;simp[aa];rfl
theorem XB(a b:Int):FP 408 [i64 a,i64 b] (bl (decide (a<b))):=by
 refine ai func408 ?_;refine gc (Ik a) ?_;refine bn (fun _=>(Ik b)) ?_;refine af ?_
 first |rfl |(simp;done)
theorem NU(xs:List Int)(hl:xs.length<=12):Con prog 402 [.ms 1000 1 0 xs.length,i64 0,i64 xs.length] [pP 1000 (.row 1 (xs.map i64))] (.tup []) [pP 1000 (.row 1 ((eO xs).map i64))]:=by
 refine gF func402 (fun k z h=>cO h) ?_;refine ga (show _=((1:Nat):Int)from rfl) ?_;refine ib [1,2] [] (fun(ys:List Int)(i:Nat)=>[pP 0 (.ms 1000 1 0 xs.length),pP 6 (i64 i)]) (fun ys _=>[pP 1000 (.row 1 (ys.map i64))]) (fun ys i=>ys.length=xs.length/\ys.Perm xs/\1<=i/\SO ys i) (fun _ i=>xs.length+1-i) xs 1 ⟨rfl,.refl _,afq _,fun p q h1 h2=>by omega⟩ ?_;rintro ys i ⟨hyl,hyp,hi1,hso⟩ K1 J1;refine gC (fun y=>?_) (fun y=>?_)
 ·have hin:=aY y;refine ib [1,2,6] [] (fun (zs:List Int) (j:Nat)=>[pP 0 (.ms 1000 1 0 xs.length),pP 7 (i64 j)]) (fun zs _=>[pP 1000 (.row 1 (zs.map i64))]) (fun zs j=>zs.length=xs.length/\zs.Perm xs/\j<=i/\SI zs i j) (fun _ j=>j) ys i ⟨hyl,hyp,afq _,WK hso⟩ ?_;rintro zs j ⟨hzl,hzp,hji,hsi⟩ K2 J2;obtain⟨a,ha⟩:=ay (show j<zs.length by omega);obtain⟨b,hb⟩:=ay (show j - 1<zs.length by omega);refine gs (fc rfl rfl rfl (fun h=>bi (n:=j) (.opt rfl (o1 h)) (.opt rfl (o1 h)) T46 rfl T3 rfl oz oz rfl)) ?_;refine gs (fc rfl rfl rfl (fun h=>cF (.opt rfl (o1 h)) rfl (aq ha) T3 rfl rfl rfl)) ?_;refine nP (fun h=>(jz (ja (b:=0) h) (by unfold aS; omega))) ?_;refine gs (fc rfl rfl rfl (fun h=>bi (n:=(j - 1)) (.opt rfl (o1 h)) (.opt rfl (o1 h)) T46 rfl T3 rfl oz oz rfl)) ?_;refine gs (fc rfl rfl rfl (fun h=>cF (.opt rfl (o1 h)) rfl (aq hb) T3 rfl rfl rfl)) ?_;refine bn (fun _=>(XB a b)) ?_;refine gD ?_;refine gC (fun y=>?_) (fun y=>?_)
  ·obtain⟨hj0,hab⟩:=RT y;refine ga (jz hj0 (by unfold aS;omega)) ?_;refine ga (jz hj0 (by unfold aS;omega)) ?_;refine gs (bi (n:=(j-1)) (.tmp rfl) (.tmp rfl) T46 rfl T3 rfl oz oz rfl) ?_;refine gs (cF (.tmp rfl) rfl (aq hb) T3 rfl rfl rfl) ?_;refine gs (bi (n:=j) (.tmp rfl) (.tmp rfl) T46 rfl T3 rfl oz oz rfl) ?_;refine gs (cF (.tmp rfl) rfl (aq ha) T3 rfl rfl rfl) ?_;refine gs (bi (n:=j) (.tmp rfl) (.tmp rfl) T46 rfl T3 rfl oz oz rfl) ?_;refine gs (cw (.tmp rfl) rfl (aq ha) rfl (.tmp rfl) rfl rfl T3 rfl rfl) ?_;refine gs (bi (n:=(j-1)) (.tmp rfl) (.tmp rfl) T46 rfl T3 rfl oz oz rfl) ?_;refine gs (cw (.tmp rfl) rfl ((List.getElem?_set_ne oz).trans (aq hb)) rfl (.tmp rfl) rfl rfl T3 rfl rfl) ?_;refine gD ?_;refine ga (jz hj0 (by unfold aS;omega)) ?_;exact ik J2 ((zs.set j b).set (j-1) a) (j-1) ⟨by rw[agm,agm];exact hzl,(ZR ha hb).trans hzp,by omega,by have h9:=XE hsi hj0 hji oz (by rw[ax ha,ax hb];exact hab);rw[ax ha,ax hb]at h9;exact h9⟩ (hw:=Wk.of bj (.cons rfl (BlkSub.of (ag6 (Blk.row 1) (Ui zs j a b))) .nil))
  have hs:=PK y;refine ga aK ?_;exact ik J1 zs (i+1) ⟨hzl,hzp,by omega,aa4 hsi (by rw[ax ha,ax hb];exact hs)⟩
 have hin:=tU y;refine gR ?_;exact aE.own2 rfl (by rw[<- Rd hyp oz hso]) rfl
theorem PA(xs:List Int)(hl:xs.length<=12)(m:Int):Con prog 319 [.ms 1000 1 0 xs.length,i64 0,i64 xs.length,i64 m] [pP 1000 (.row 1 (xs.map i64))] (.tup []) [pP 1000 (.row 1 ((eO xs).map i64))]:=by
 refine gF func319 (fun k z h=>cO h) ?_;refine Tl [1,2,3,8,9] [1000] [pP 0 (.ms 1000 1 0 xs.length)] [] (True) (0) trivial ?_;rintro-K1 J1;refine ga (dp oz) ?_;refine gC (fun y=>?_) (fun y=>?_) (st2:=(77777,0))
 ·refine gt (aF (NU xs hl) (aI rfl rfl rfl) aG rfl rfl) ?_;refine gR ?_;exact aE.own2 rfl rfl rfl
 (rw[show aa .leq ((xs.length:Int)-0) 12=true from ag3 oz]at y;cases y)
theorem ZL(x:Nat)(hx:x<256):FP 412 [u64 x] (i64 (aV x)):=by
 refine ai func412 ?_;refine gC (fun z=>?_) (fun z=>?_) (st1:=(2,0))
 ·(have:=z;simp[aa]at this;omega)
 refine gC (fun z=>?_) (fun z=>?_) (st1:=(5,0))
 ·(have:=z;simp[aa]at this;omega)
 refine gC (fun z=>?_) (fun z=>?_) (st1:=(8,0))
 ·(have:=z;simp[aa]at this;omega)
 refine gv (jT hx) ?_;refine gs (vW (y:=x) (.const _) (.tmp rfl) T9 rfl (by kernel_rfl) (by first |rfl |omega) oz rfl) ?_;refine gv (i64_in (by have:=jl hx;omega)) ?_;refine ga (cZ (by have:=jl hx;omega)) ?_;refine af ?_;simp only[i64];congr 2;omega
theorem RE(x:Nat)(hx:x<256):FP 320 [u64 x] (i64 (aV x)):=by
 refine ai func320 ?_;refine gC (fun hcfalse=>?_) (fun hcfalse=>?_) (st1:=(1,0));cases hcfalse;refine gc (ZL x hx) ?_;refine af ?_
 first |rfl |(simp;done)
theorem WL(xs:List Int)(hl:xs.length<=12):Con prog 196 [.ms 1000 1 0 xs.length] [pP 1000 (.row 1 (xs.map i64))] (.tup []) [pP 1000 (.row 1 ((eO xs).map i64))]:=by
 refine gF func196 (fun k z h=>cO h) ?_;refine gv (show IntKind.u64.wrap _=((xs.length:Nat):Int)from u64_in oz) ?_;refine gc (RE xs.length oz) ?_;refine gt (aF (PA xs hl _) (.cons (.tmp rfl) (.cons (.const _) (ce rfl rfl))) aG rfl rfl) ?_;refine gR ?_;exact aE.own2 rfl rfl rfl
theorem aah{l:Li}{g:Gr}{i:Nat}{z:Int}{j:Jt}(hz:g.jo[i]?=some z)(hj:l.jo[z.toNat]?=some j):(fV l g)[i]?=some (jB g j):=by
 unfold fV;rw[afu,hz,afi,ax hj]
theorem Ep{l:Li}{g:Gr}{i:Nat}{z:Int}{j:Jt}{a:Int}(hz:g.jo[i]?=some z)(hj:l.jo[z.toNat]?=some j)(ha:jB g j=a):((fV l g).take i).map i64++[i64 a]=((fV l g).take (i+1)).map i64:=by
 rw[eH (aah hz hj),ha,agc];rfl
theorem UI{z:Int}{n:Nat}(h0:0<=z)(h1:z<n):cond (aa .lss z 0) true (aa .geq z (n:Int))=false:=by
 rw[show aa .lss z 0=false from ag4 oz];exact ag4 oz
theorem JN(l:Li)(hl:l.ok)(hli:ao l=0)(g:Gr)(hg:GrOk l g):Con prog 195 [l.av,g.av] [] (.tup [.ms 900 1 0 g.jo.length,.v .nilIface]) [pP 900 (.row 1 ((fV l g).map i64))]:=by
 have hlb:=hg.lb;have hlj:=hg.lj;refine gF func195 (fun k z h=>by cases h) ?_;refine gc (Bi l hl) ?_;refine gC (fun q=>?_) (fun q=>?_) (st1:=(3,0))
 ·(rw[hli]at q;cases q)
 refine gl ?_;refine gW ((Wk.virt 900 1 rfl).trans<|Wk.of (sl:=[pP 2 (.ptr 2 0),pP 3 (.ptr 3 0),pP 7 (.ms 900 1 0 0),pP 19 (.lst 1 (g.jo.map i64)),pP 20 (i64 g.jo.length),pP 21 (i64 0)]) (hp:=[pP 2 (.box l.av.cells),pP 3 (.box g.av.cells),pP 900 (.row 1 [])]) (.k (.k (.cons rfl (Sub.nM _ _ _) (.k (.k (.k .nil)))))) (.k (.k (.k .nil)))) ?_;refine aL [2,3,19,20] [2,3] (fun(i:Nat)=>[pP 7 (.ms 900 1 0 i),pP 21 (i64 i)]) (fun i=>[pP 900 (.row 1 (((fV l g).take i).map i64))]) (fun i=>i<=g.jo.length) (fun i=>g.jo.length-i) 0 (afz _) ?_;rintro i hi K1 J1;refine gC (fun q=>?_) (fun q=>?_) (st2:=(18,0))
 ·have hin:=aY q;obtain⟨z,hz⟩:=ay hin;obtain⟨z0,z1⟩:=hg.j z (afl hz);obtain⟨j,hj⟩:∃ j,l.jo[z.toNat]?=some j:=ay oz;have hlt:(((fV l g).take i).map i64).length=i:=by rw[afm,agu,r5]; omega
  refine gi (aq hz) ?_;refine bF ?_;refine gC (fun q=>?_) (fun q=>?_) (st1:=(9,0))
  ·(rw[UI z0 z1]at q;cases q)
  refine gi (bY (n:=z.toNat) oz hj) ?_;refine gc (HX g.bo j.a oz) ?_;refine gc (HX g.bo j.b oz) ?_;refine gD ?_;refine gC (fun t55=>?_) (fun t55=>?_)
  ·have ha:jB g j=-1:=by unfold jB; cases h1:g.bo.contains j.a <;> cases h2:g.bo.contains j.b <;> rw[h1,h2] at t55 <;> first | (cases t55; done) | rfl
   refine gs (eg (.tmp rfl) rfl hlt.symm (.tmp rfl) T46 rfl T3 rfl rfl (by simp only[af9,agj];omega) rfl rfl) ?_ (17,0);refine gW (Wk.of (sl:=[pP 2 (.ptr 2 0),pP 3 (.ptr 3 0),pP 7 (.ms 62 1 0 (i+1)),pP 19 (.lst 1 (g.jo.map i64)),pP 20 (i64 g.jo.length),pP 21 (i64 i)]) (hp:=[pP 2 (.box l.av.cells),pP 3 (.box g.av.cells),pP 62 (.row 1 (((fV l g).take (i+1)).map i64))]) bj (.k (.k (.cons rfl (BlkSub.of (ag6 (Blk.row 1) (Ep hz hj ha))) .nil)))) ?_ (17,0);refine gW (Wk.rk (k:=62) (d:=900) rfl rfl) ?_;refine ga aK ?_;exact aH J1 (i+1) hin
  refine gC (fun q=>?_) (fun q=>?_)
  ·have ha:jB g j=j.b:=by unfold jB; cases h1:g.bo.contains j.a <;> cases h2:g.bo.contains j.b <;> rw[h1] at q <;> rw[h1,h2] at t55 <;> first | (cases t55; done) | (cases q; done) | rfl
   refine gs (eg (.tmp rfl) rfl hlt.symm (.tmp rfl) T46 rfl T3 rfl rfl (by simp only[af9,agj];omega) rfl rfl) ?_ (17,0);refine gW (Wk.of (sl:=[pP 2 (.ptr 2 0),pP 3 (.ptr 3 0),pP 7 (.ms 69 1 0 (i+1)),pP 19 (.lst 1 (g.jo.map i64)),pP 20 (i64 g.jo.length),pP 21 (i64 i)]) (hp:=[pP 2 (.box l.av.cells),pP 3 (.box g.av.cells),pP 69 (.row 1 (((fV l g).take (i+1)).map i64))]) bj (.k (.k (.cons rfl (BlkSub.of (ag6 (Blk.row 1) (Ep hz hj ha))) .nil)))) ?_ (17,0);refine gW (Wk.rk (k:=69) (d:=900) rfl rfl) ?_;refine ga aK ?_;exact aH J1 (i+1) hin
  have ha:jB g j=j.a:=by unfold jB;rw[agy (by rw[show g.bo.contains j.a=false from q];simp)]
  refine gs (eg (.tmp rfl) rfl hlt.symm (.tmp rfl) T46 rfl T3 rfl rfl (by simp only[af9,agj];omega) rfl rfl) ?_ (17,0);refine gW (Wk.of (sl:=[pP 2 (.ptr 2 0),pP 3 (.ptr 3 0),pP 7 (.ms 54 1 0 (i+1)),pP 19 (.lst 1 (g.jo.map i64)),pP 20 (i64 g.jo.length),pP 21 (i64 i)]) (hp:=[pP 2 (.box l.av.cells),pP 3 (.box g.av.cells),pP 54 (.row 1 (((fV l g).take (i+1)).map i64))]) bj (.k (.k (.cons rfl (BlkSub.of (ag6 (Blk.row 1) (Ep hz hj ha))) .nil)))) ?_ (17,0);refine gW (Wk.rk (k:=54) (d:=900) rfl rfl) ?_;refine ga aK ?_;exact aH J1 (i+1) hin
 have hin:=a7 hi q;subst hin;refine gW (Wk.of (sl:=[pP 7 (.ms 900 1 0 g.jo.length)]) (hp:=[pP 900 (.row 1 ((fV l g).map i64))]) bj (.cons rfl (BlkSub.of (by rw[af4 (by rw[r5];exact afq _)])) .nil)) ?_;refine gR ?_;exact aE.keep (df rfl)
section
variable{ts:LL}{u k:Nat}{a b a2 b2:List Rat}{x y x2 y2:Et ts}{w v w' v' w2 v2 w3 v3:Nat}
theorem xp(c:Ct ts u k)(h:w+v+(w'+v')<=10000):w*u+v*k+(w'*u+v'*k)+1<=lm ts.length:=by
 have h1:=zY c (w:=w+w') (v:=v+v') (m:=10000) oz;have h2:=dl ts.length;rw[xb];omega
theorem Eo(c:Ct ts u k)(h:w+v<=10000):w*u+v*k<=lm ts.length:=Z2 c h
theorem Eh(c:Ct ts u k){R:Nat}(h:eB R ts.length<=k):2*(2500*1000000+2500*1000000+kB R ts.length)<=lm ts.length:=by
 have h1:=c.kk h;have h2:=dl ts.length;omega
theorem WT [c:Ct ts u k] [ha:Zl ts u k a x w v] [hb:Zl ts u k b y w' v'] (h:w+v+(w'+v')<=10000:=by decide):FP 250 [aB ts,nA a,nA b] (.tup [nA (sX (x+y)),.v .nilIface]):=by
 obtain⟨R,tw,hk⟩:=c.ex;have h0:=xp c h;have h1:=tV tw ha.nm hb.nm oz;rw[ha.eq,hb.eq]at h1;exact h1
theorem Zf [c:Ct ts u k] [ha:Zl ts u k a x w v] [hb:Zl ts u k b y w' v'] (h:w+v+(w'+v')<=10000:=by decide):FP 209 [aB ts,nA a,nA b] (.tup [nA (sX (x - y)),.v .nilIface]):=by
 obtain⟨R,tw,hk⟩:=c.ex;have h0:=xp c h;have h1:=zn tw ha.nm hb.nm oz;rw[ha.eq,hb.eq]at h1;exact h1
theorem Zx [c:Ct ts u k] [ha:Zl ts u k a x w v] [hb:Zl ts u k b y w' v'] (h:w+v+(w'+v')<=10000:=by decide):FP 210 [aB ts,nA a,nA b] (.tup [nA (sX (x*y)),.v .nilIface]):=by
 obtain⟨R,tw,hk⟩:=c.ex;have h0:=xp c h;have h1:=yo tw ha.nm hb.nm oz;rw[ha.eq,hb.eq]at h1;exact h1
theorem Ob [c:Ct ts u k] [ha:Zl ts u k a x w v] [hb:Zl ts u k b y w' v'] (h:w+v+(w'+v')<=10000:=by decide):FP 50 [aB ts,nA a,nA b] (bl (Ag x y)):=by
 obtain⟨R,tw,hk⟩:=c.ex;have h0:=xp c h;have h1:=km tw ha.nm hb.nm oz;rw[ha.eq,hb.eq]at h1;exact h1
theorem Y3 [c:Ct ts u k] [ha:Zl ts u k a x w v] (h:w+v<=10000:=by decide):FP 128 [aB ts,nA a] (.tup [nA (sX (-x)),.v .nilIface]):=by
 obtain⟨R,tw,hk⟩:=c.ex;have h0:=Eo c h;have h1:=zp tw ha.nm oz;rw[ha.eq]at h1;exact h1
theorem PI [c:Ct ts u k] [ha:Zl ts u k a x w v] (h:w+v<=10000:=by decide):FP 87 [aB ts,nA a] (.tup [i64 (aC x),.v .nilIface]):=by
 obtain⟨R,tw,hk⟩:=c.ex;have h0:=Eo c h;have h1:=wF tw ha.nm oz;rw[ha.eq]at h1;exact h1
theorem P8 [c:Ct ts u k] [ha:Zl ts u k a x w v] (h:w+v<=10000:=by decide):FP 33 [aB ts,nA a] (i64 (aC x)):=by
 obtain⟨R,tw,hk⟩:=c.ex;have h0:=Eo c h;have h1:=BJ tw ha.nm oz;rw[ha.eq]at h1;exact h1
theorem rh [c:Ct ts u k] [ha:Zl ts u k a x w v] [hb:Zl ts u k b y w' v'] [ha2:Zl ts u k a2 x2 w2 v2] [hb2:Zl ts u k b2 y2 w3 v3] (h:w+v+(w'+v')+(w2+v2+(w3+v3))<=2500:=by decide) :
  FP 245 [aB ts,aw a b,aw a2 b2] (aw (sX (x-x2)) (sX (y-y2))):=by
 obtain⟨R,tw,hk⟩:=c.ex;have h0:=Eh c hk;have h1:=wU (e:=2500*1000000) tw (ha.up c oz) (hb.up c oz) (ha2.up c oz) (hb2.up c oz) oz;rw[ha.eq,hb.eq,ha2.eq,hb2.eq]at h1;exact h1
theorem BH [c:Ct ts u k] [ha:Zl ts u k a x w v] [hb:Zl ts u k b y w' v'] [ha2:Zl ts u k a2 x2 w2 v2] [hb2:Zl ts u k b2 y2 w3 v3] (h:w+v+(w'+v')+(w2+v2+(w3+v3))<=2500:=by decide) :
  FP 247 [aB ts,aw a b,aw a2 b2] (nA (sX (dotE x y x2 y2))):=by
 obtain⟨R,tw,hk⟩:=c.ex;have h0:=Eh c hk;have h1:=CI (e:=2500*1000000) tw (ha.up c oz) (hb.up c oz) (ha2.up c oz) (hb2.up c oz) oz;rw[ha.eq,hb.eq,ha2.eq,hb2.eq]at h1;exact h1
theorem Mx [c:Ct ts u k] [ha:Zl ts u k a x w v] [hb:Zl ts u k b y w' v'] [ha2:Zl ts u k a2 x2 w2 v2] [hb2:Zl ts u k b2 y2 w3 v3] (h:w+v+(w'+v')+(w2+v2+(w3+v3))<=2500:=by decide) :
  FP 246 [aB ts,aw a b,aw a2 b2] (nA (sX (crsE x y x2 y2))):=by
 obtain⟨R,tw,hk⟩:=c.ex;have h0:=Eh c hk;have h1:=CZ (e:=2500*1000000) tw (ha.up c oz) (hb.up c oz) (ha2.up c oz) (hb2.up c oz) oz;rw[ha.eq,hb.eq,ha2.eq,hb2.eq]at h1;exact h1
def atXE(c s X:Et ts)(p q:Rat):Et ts:=(c*qE p-s*qE q)+X
def atYE(c s Y:Et ts)(p q:Rat):Et ts:=(s*qE p+c*qE q)+Y
instance Zu.atXE[c:Ct ts u k]{x y z:Et ts}{p q:Rat}{w1 v1 w2 v2 w3 v3 w4 w5:Nat}[Zu u k x w1 v1][Zu u k y w2 v2][Zu u k z w3 v3][Qz u p w4][Qz u q w5]:Zu u k (atXE x y z p q) (w1+w4+(w2+w5)+w3) (v1+0+1+(v2+0+1)+1+v3+1) :=
  (ag7:Zu u k ((x*Lw.qE p-y*Lw.qE q)+z) _ _)
instance Zu.atYE[c:Ct ts u k]{x y z:Et ts}{p q:Rat}{w1 v1 w2 v2 w3 v3 w4 w5:Nat}[Zu u k x w1 v1][Zu u k y w2 v2][Zu u k z w3 v3][Qz u p w4][Qz u q w5]:Zu u k (atYE x y z p q) (w2+w4+(w1+w5)+w3) (v2+0+1+(v1+0+1)+1+v3+1) :=
  (ag7:Zu u k ((y*Lw.qE p+x*Lw.qE q)+z) _ _)
end
abbrev PU(l:Li)(g:Gr)(a:As):List AV:=[.v (.string l.name),.lst 2 (l.bo.map Bd.av),.lst 7 (l.jo.map Jt.av),.lst 2 (l.dv.map Dr.av),i64 g.kind,.lst 1 (g.bo.map i64),.lst 1 (g.jo.map i64),i64 g.driver,
  .lst 1 (a.rs.map nR),.lst 4 (a.bs.map Pl.av),.lst 1 (a.ms.map i64),.v .nilIface]
abbrev fF(l:Li)(g:Gr)(a:As):Blk:=.box (PU l g a)
def Kp(e:Nat):AV:=if e=0 then .ptr 900 0 else .v (.pointer none)
def HY(e:Nat)(l:Li)(g:Gr)(a:As):Hp:=if e=0 then[pP 900 (fF l g a)]else[]
theorem tP{e:Nat}(h:e≠0):Kp e=.v (.pointer none):=agy h
theorem uT{e:Nat}{l:Li}{g:Gr}{a:As}(h:e≠0):HY e l g a=[]:=agy h
theorem IR(l:Li)(g:Gr):cH l g true=fV l g++g.bo:=rfl
theorem MK(l:Li)(g:Gr):cH l g false=fV l g:=by unfold cH;simp
theorem OZ{rs:List (List Rt)}{b:Pl}{i:Nat}{x:List Rt}(h:aZ rs=0)(hx:b.l[i]?=some x)(hb:∀y∈b.l.take i,bH rs.length y=0)(hn:bH rs.length x≠0):aQ rs b.l=bH rs.length x:=uR h hx hb hn
theorem Pp{l:Li}{g:Gr}{a:As}{own:Bool}{j:Nat}{b:Int}(hb:(eO (cH l g own))[j]?=some b)(hj:∀c∈(eO (cH l g own)).take j,gw a c=0)(hn:gw a b≠0):fD ((eO (cH l g own)).map (gw a))=gw a b:=by
 have h1:eO (cH l g own)=(eO (cH l g own)).take j++b::(eO (cH l g own)).drop (j+1):=by
  obtain⟨hi,e⟩:=adw.1 hb;rw[<- e,<- adr hi,adm]
 generalize eO (cH l g own)=xs at *;rw[h1,agc,tE _ _ (ug hj),agv,Ms,agz hn]
theorem QY(l:Li)(hl:l.ok)(k:Int)(a:As)(al:AB a)(own:Bool) :
  Con prog 90 [l.av,i64 k,a.av,bl own] [] (.tup [Kp (gM l k a own),cf (gM l k a own)]) (HY (gM l k a own) l (mr l k) a):=by
 have hbl:=al.bl;refine gF func90 (fun k z h=>by cases h) ?_;refine gc (yn l hl) ?_;refine gC (fun y=>?_) (fun y=>?_)
 ·have h1:=eQ y;refine gR ?_;rw[QD rfl h1,tP h1,uT h1];exact n7 rfl
 have h1:=fd y;obtain⟨hli,hsp⟩:=Qp h1;rw[show(if ao l=0 then splitG l else[])=splitG l from agz hli];have hbs:=(er hli).2.2.2.1;have hgl:=(qF hli).2;have hsg:splitG l=findG l:=by unfold splitG;rw[agz hsp]
 refine bF ?_;refine gC (fun y=>?_) (fun y=>?_)
 ·have h2:=Ah y;have he:gM l k a own=9:=(qi hli).trans (XX hsp h2);refine gR ?_;rw[he,tP (by decide),uT (by decide)];exact n7 rfl
 have h2:=Cq y;refine gl ?_;refine gl ?_;refine gC (fun y=>?_) (fun y=>?_)
 ·have h3:=Ri y;have he:gM l k a own=10:=(qi hli).trans (aag hsp h2 h3);refine gR ?_;rw[he,tP (by decide),uT (by decide)];exact n7 rfl
 have h3:=Q7 y;refine gc (zG a.rs 400000000 al.tr) ?_;refine gC (fun y=>?_) (fun y=>?_)
 ·have h4:=eQ y;refine gR ?_;rw[(qi hli).trans (XI hsp h2 h3 h4),tP h4,uT h4];exact n7 rfl
 have h4:=fd y;obtain⟨i,rfl,hi⟩:=Qc h2;obtain⟨g,hg⟩:=ay hi;obtain⟨hgd,hgo⟩:=i9 hli (afl hg);have hgA:mr l (i:Nat)=g:=ax hg;rw[hgA];have he5:gM l (i:Nat) a own=fD ((eO (cH l g own)).map (gw a)):=by rw[<- hgA];exact(qi hli).trans (JY hsp h2 h3 h4)
 have hnl:(cH l g own).length<=5:=NC hgo;have hgb:=hgo.lb;have hgj:=hgo.lj;refine gi (aq hg) ?_;refine gt (aF (JN l hl hli g hgo) (ce rfl rfl) aG rfl rfl) ?_;refine gD ?_;refine gf ?_;refine tb [1,4,6,10] [4,6] [pP 13 (.ms 900 1 0 (cH l g own).length)] [pP 900 (.row 1 ((cH l g own).map i64))] (True) ?_ ?_
 ·intro K1 J1;refine gC (fun y=>?_) (fun y=>?_)
  ·have ho:own=true:=y;subst ho;refine gi (aq hg) ?_;refine gs (eg (.tmp rfl) rfl (by rw[afm,r5]) (.tmp rfl) T46 rfl T3 rfl rfl (by simp only[afm];omega) rfl rfl) ?_;exact jx J1 trivial (hw:=(Wk.of (sl:=[pP 1 (i64 i),pP 4 (.ptr 4 0),pP 6 (.ptr 6 0),pP 10 (.lst 4 ((splitG l).map Gr.av)),pP 13 (.ms 71 1 0 (cH l g true).length)]) (hp:=[pP 4 (.box l.av.cells),pP 6 (.box a.av.cells),pP 71 (.row 1 ((cH l g true).map i64))]) (.k (.k (.k (.k (.cons rfl (Sub.of (by rw[IR,agf,r5,afm])) .nil))))) (.k (.k (.cons rfl (BlkSub.of (by rw[IR,agc])) .nil)))).trans<|(Wk.rk (k:=71) (d:=900) rfl rfl).trans<|Wk.o)
  have ho:own=false:=y;subst ho;exact jx J1 trivial (hw:=Wk.of (.cons rfl (Sub.of (by rw[MK,r5])) (.k (.k (.k (.k .nil))))) (.cons rfl (BlkSub.of (by rw[MK])) (.k (.k .nil))))
 rintro -;refine gt (aF (Con.rk 900 rfl rfl (WL (cH l g own) oz)) (fo rfl) aG rfl rfl) ?_ (17,0);refine gW ((Wk.freeze (k:=900) rfl).trans<|Wk.of (sl:=[pP 1 (i64 i),pP 4 (.ptr 4 0),pP 6 (.ptr 6 0),pP 10 (.lst 4 ((splitG l).map Gr.av)),pP 13 (.lst 1 ((eO (cH l g own)).map i64))]) (hp:=[pP 4 (.box l.av.cells),pP 6 (.box a.av.cells)]) (.k (.k (.k (.k (.cons rfl (Sub.of (cz (by rw[afm,Fh]))) .nil))))) (.k (.k .nil))) ?_;refine gl ?_;refine aL [1,4,6,10,74,75] [4,6] (fun(j:Nat)=>[pP 76 (i64 j)]) (fun _=>[]) (fun j=>j<=(eO (cH l g own)).length/\∀b∈(eO (cH l g own)).take j,gw a b=0) (fun j=>(eO (cH l g own)).length-j) 0 ⟨afz _,fun b hb=>by simp at hb⟩ ?_;rintro j ⟨hj,hjz⟩ K2 J2;refine gC (fun y=>?_) (fun y=>?_)
 ·have hjn:=aY y;obtain⟨b,hb⟩:=ay hjn;have hbm:=zc.1 (afl hb);have hbr:=yM hli hgo b hbm;have hsl:(eO (cH l g own)).length<=5:=by rw[Fh]; exact hnl
  refine gi (aq hb) ?_;refine gC (fun y=>?_) (fun y=>?_)
  ·have hz:gw a b=0:=by unfold gw; rw[agz (by simpa[aa] using y)]
   refine ga aK ?_;exact aH J2 (j+1) ⟨hjn,fun c hc=>by rw[eH hb]at hc;rcases aft.1 hc with h9 |h9;exact hjz c h9;(rw[adc.1 h9];exact hz)⟩
  have hb0:0<=b:=by have:=ag2 (p:=b<0) y;omega
  obtain⟨p,hp⟩:=ay (l:=a.bs) (i:=b.toNat) oz;have hpn:=al.nr p (afl hp);have hnd:gw a b=aQ a.rs p.l:=by unfold gw;rw[agy oz,ax hp]
  refine gi (bY (n:=b.toNat) oz hp) ?_;refine ge rfl ?_;refine aL [1,4,6,10,74,75,76,95,96] [4,6] (fun(q:Nat)=>[pP 97 (i64 q)]) (fun _=>[]) (fun q=>q<=4/\∀x∈p.l.take q,bH a.rs.length x=0) (fun q=>4-q) 0 ⟨afz _,fun x hx=>by simp at hx⟩ ?_;rintro q ⟨hq,hqz⟩ K3 J3;refine gC (fun y=>?_) (fun y=>?_)
  ·have hqn:q<4:=aY (b:=4) y;obtain⟨x,hx⟩:∃x,p.l[q]?=some x:=ay (show q<p.l.length from hqn);have hxn:=hpn x (afl hx);have hone:aQ a.rs [x]=bH a.rs.length x:=BD h4;refine gi (aq hx) ?_;refine gc (Fc a.rs 400000000 al.tr x 50000000000 hxn (S9 _)) ?_;refine gC (fun y=>?_) (fun y=>?_)
   ·have h5:=eQ y;rw[hone] at h5 ⊢;have h6:gw a b=bH a.rs.length x:=hnd.trans (OZ h4 hx hqz h5);have h7:gM l (i:Nat) a own=bH a.rs.length x:=by rw[he5,Pp hb hjz (by rw[h6]; exact h5),h6]
    refine gR ?_;rw[h7,tP h5,uT h5];exact n7 rfl
   have h5:=fd y;rw[hone]at h5;refine ga aK ?_;exact aH J3 (q+1) ⟨hqn,fun z hz=>by rw[eH hx]at hz;rcases aft.1 hz with h9 |h9;exact hqz z h9;(rw[adc.1 h9];exact h5)⟩
  have hqn:q=4:=a7 (b:=4) hq y;subst hqn;have hqz:∀x∈p.l,bH a.rs.length x=0:=hqz;refine ga aK ?_;exact aH J2 (j+1) ⟨hjn,fun c hc=>by rw[eH hb]at hc;rcases aft.1 hc with h9 |h9;exact hjz c h9;(rw[adc.1 h9,hnd];exact nZ h4 hqz)⟩
 have hjn:=a7 hj y
 have h8:gM l (i:Nat) a own=0:=by
  rw[he5];exact ug (fun b hb=>hjz b (by rw[hjn,af1];exact hb))
 refine gi (aq hg) ?_;refine gD ?_ (77777,0);refine gW (Wk.o (sl:=[pP 8 (.ptr 120 0),pP 9 (.v .nilIface)]) (hp:=[pP 120 (fF l g a)])) ?_ (77777,0);refine gW (Wk.rk (k:=120) (d:=900) rfl rfl) ?_;refine gR ?_;rw[h8];exact aE.keep (df rfl)
theorem Mh{ts:LL}{r e:Nat}(tw:Tw ts r){a b c d:List Rat}(ha:Nm ts.length e a)(hb:Nm ts.length e b)(hc:Nm ts.length e c)(hd:Nm ts.length e d)(he:2*e<=lm ts.length) :
  FP 98 [aB ts,aw a b,aw c d] (.tup [aw (sh ts.length (subT ts (ae ts.length a) (ae ts.length c))) (sh ts.length (subT ts (ae ts.length b) (ae ts.length d))),.v .nilIface]):=by
 refine ai func98 ?_;refine gc (tQ (e:=e) tw [(a,b),(c,d)] (by simp only[agd,af8,or_false];rintro p (rfl |rfl);exact⟨ha,hb⟩;exact⟨hc,hd⟩) oz (by simp)) ?_;refine gf ?_;refine gt (aF (Con.rekeyB 21 rfl rfl rfl rfl (A5 tw ha hb hc hd he)) (aI rfl rfl rfl) aG rfl rfl) ?_;refine gt (aF (Con.rekeyB 21 rfl rfl rfl rfl (Ed _ _ _)) (ce rfl rfl) aG rfl rfl) ?_;refine bg ?_;rfl
theorem HJ{ts:LL}{r e:Nat}(tw:Tw ts r){a b c d:List Rat}(ha:Nm ts.length e a)(hb:Nm ts.length e b)(hc:Nm ts.length e c)(hd:Nm ts.length e d)(he:2*(e+e+kB r ts.length)<=lm ts.length) :
  FP 99 [aB ts,aw a b,aw c d] (.tup [nA (sh ts.length (ni ts (ae ts.length a) (ae ts.length b) (ae ts.length c) (ae ts.length d))),.v .nilIface]):=by
 refine ai func99 ?_;refine gc (Con.sA (.cons (.refl _) (.cons (.refl _) (.cons (.refl _) (.cons (Sub.fn0 _) .nil)))) (LR tw ha hb hc hd oz _ _ (JI tw ha hb hc hd he))) ?_;refine bg ?_
 first |rfl |(simp;done)
section
variable{ts:LL}{u k:Nat}{a b a2 b2:List Rat}{x y x2 y2:Et ts}{w v w' v' w2 v2 w3 v3:Nat}
end
variable{P:ahb}{N:Nat}{R:Array Oper}{s:AS}{pos:String}{after:Array Edge}
theorem iL{d f k:Nat}{bx:Blk}{args:Array ag8}{ts:Array aha}{xs:List AV}{r:AV}{t:aha}
  (hcon:Con P f xs [(k,some bx)] r [(k,some bx)]) (ha:EvL s args.toList xs) (hk:s.blk k=some bx) (hok:fA s [(k,some bx)] [(k,some bx)] r=true) (hN:acm d N=true) :
  Step P N R s ⟨some d,.call ⟨.value (.func f),args,ts⟩,t,pos,after,none⟩ ⟨some r,[],cQ args.toList,[k]⟩:=by
 refine Step.weaken (aF (d:=d) hcon ha (fun k' z h=>by
  obtain⟨rfl,h9⟩:=gE h;cases h9;exact hk) hok hN) (fun s' h=>h) (fun s' h k' hk'=>?_) (fun s' h=>?_)
 ·left;simp only[agc,cq,agv,map_nil,aft,agd,af8,or_false]at hk' ⊢;rcases hk' with h9 |h9 <;> exact h9
 ·intro C m a w hr;refine⟨m,hr.weak (fun t x hx=>⟨x,hx,.refl _⟩) (fun k' x hx=>⟨x,?_,.refl _⟩)⟩;have hb:lk s'.hp k=some bx:=(h.2 k (adc.2 rfl)).trans hk;show lk ([(k,some bx)]++cq [(k,some bx)]++s'.hp) k'=some x;have hx':lk s'.hp k'=some x:=hx;simp only[cq,agv,map_nil,cons_append,nil_append,aD]
  by_cases e:k'=k
  ·rw[agz e];rw[e,hb]at hx';exact hx'
  ·rw[agy e,agy e];exact hx'
theorem nU{k1 k2 k':Nat}{x y:Option Blk}{z:Blk}(h:lk [(k1,x),(k2,y)] k'=some z):(k'=k1/\x=some z)\/(k'≠k1/\k'=k2/\y=some z):=by
 rw[aD]at h
 by_cases e:k'=k1
 ·rw[agz e]at h;exact .inl ⟨e,h⟩
 ·rw[agy e]at h;obtain⟨h1,h2⟩:=gE h;exact .inr ⟨e,h1,h2⟩
theorem oe{k1 k2:Nat}{x y:Option Blk}:lk [(k1,x),(k2,y)] k1=x:=by rw[aD,agz rfl]
theorem ow{k1 k2:Nat}{x y:Option Blk}(h:k1≠k2):lk [(k1,x),(k2,y)] k2=y:=by rw[aD,agy (fun e=>h e.symm),aD,agz rfl]
theorem Mp{k1 k2:Nat}(hne:k1≠k2){x y:Blk}{m:Nat->Option Nat}{b:Nat}:aW [(k1,some x),(k2,some y)] m b↔m k1=some b\/m k2=some b:=by
 constructor
 ·rintro⟨k',z,hz,hb⟩;rcases nU hz with⟨e,_⟩ |⟨_,e,_⟩
  ·exact .inl (e▸hb)
  ·exact .inr (e▸hb)
 ·rintro(h |h)
  ·exact⟨k1,x,oe,h⟩
  ·exact⟨k2,y,ow hne,h⟩
theorem FL{k1 k2 d1 d2:Nat}(hk:k1≠k2)(hd:d1≠d2){x y x' y':Blk}{m m2:Nat->Option Nat}(h1:m2 d1=m k1)(h2:m2 d2=m k2):aW [(d1,some x'),(d2,some y')] m2=aW [(k1,some x),(k2,some y)] m:=by
 funext b;apply propext;rw[Mp hk,Mp hd,h1,h2]
theorem DT{ext:Nat->Prop}{k1 k2 d1 d2:Nat}(hk:k1≠k2)(hd:d1≠d2){x y x' y':Blk}{m m2:Nat->Option Nat}{w:ahc}(h1:m2 d1=m k1)(h2:m2 d2=m k2):Im ext [(d1,some x'),(d2,some y')] m2 w=Im ext [(k1,some x),(k2,some y)] m w:=by
 funext b cs;simp only[Im,FL hk hd (x:=x) (y:=y) (x':=x') (y':=y') h1 h2]
theorem Hc{ext:Nat->Prop}{k1 k2 d1 d2:Nat}(hk:k1≠k2)(hd:d1≠d2){x y:Blk}{m m2:Nat->Option Nat}{w:ahc}(hx:x.nm=[])(hy:y.nm=[])(h1:m2 d1=m k1)(h2:m2 d2=m k2)
  (hr:HeapRel ext [(k1,some x),(k2,some y)] m w):HeapRel ext [(d1,some x),(d2,some y)] m2 w:=by
 refine⟨?_,?_,?_⟩
 ·intro k' z hz;rw[DT hk hd (x:=x) (y:=y) h1 h2];rcases nU hz with⟨rfl,h9⟩ |⟨_,rfl,h9⟩
  ·cases h9;exact BlkRep.mono (w:=w) (fun _ _ h=>h) (fun _ _ h=>h) (fun _ _ hn=>(Dv hx hn).elim) h1 (fun _ _=>rfl) (hr.blk k1 _ oe)
  ·cases h9;exact BlkRep.mono (w:=w) (fun _ _ h=>h) (fun _ _ h=>h) (fun _ _ hn=>(Dv hy hn).elim) h2 (fun _ _=>rfl) (hr.blk k2 _ (ow hk))
 ·intro k k' z z' b hz hz' hb hb';rcases nU hz with⟨rfl,_⟩ |⟨_,rfl,_⟩ <;> rcases nU hz' with⟨rfl,_⟩ |⟨_,rfl,_⟩
  ·rfl
  ·exact ag5 (hr.inj k1 k2 _ _ b oe (ow hk) (h1▸hb) (h2▸hb')) hk
  ·exact ag5 (hr.inj k1 k2 _ _ b oe (ow hk) (h1▸hb') (h2▸hb)) hk
  ·rfl
 ·intro k' z b hz hb;rcases nU hz with⟨rfl,h9⟩ |⟨_,rfl,h9⟩
  ·exact hr.sep k1 _ b oe (h1▸hb)
  ·exact hr.sep k2 _ b (ow hk) (h2▸hb)
theorem Con.rekeyBB{P:ahb}{f:FuncId}{k1 k2 o1 o2:Nat}{x y x' y':Blk}{xs:List AV}{r:AV}(d1 d2:Nat)(hk:k1≠k2)(hd:d1≠d2)(hx:x.nm=[])(hy:y.nm=[])(hx':x'.nm=[])(hy':y'.nm=[])(hxs:(xs.all fun x=>x.nm.isEmpty)=true)(hr:r.nm=[])
  (h:Con P f (.ptr k1 o1 :: .ptr k2 o2::xs) [(k1,some x),(k2,some y)] r [(k1,some x'),(k2,some y')]):Con P f (.ptr d1 o1 :: .ptr d2 o2::xs) [(d1,some x),(d2,some y)] r [(d1,some x'),(d2,some y')]:=by
 refine⟨h.ok,?_⟩;intro ext m w vs hext hheap hvs hrep;obtain⟨m2,e1,e2⟩:∃m2:Nat->Option Nat,m2 k1=m d1/\m2 k2=m d2:=⟨fun k=>if k=k1 then m d1 else m d2,agz rfl,agy (fun e=>hk e.symm)⟩
 have h1:=h.ret ext m2 w vs hext (Hc hd hk hx hy e1 e2 hheap) (by simpa using hvs) (by
  intro j v z hv hz;rw[DT hd hk (x:=x) (y:=y) e1 e2]
  match j,hz with
  |0,hz =>
   cases hz;have h2:=hrep 0 v _ hv rfl;cases h2 with
   |ptr hm=>exact .ptr (e1.trans hm)
  |1,hz =>
   cases hz;have h2:=hrep 1 v _ hv rfl;cases h2 with
   |ptr hm=>exact .ptr (e2.trans hm)
  |j+2,hz =>
   have h2:=hrep (j+2) v z hv hz;refine kW ?_ h2;have:=afy.1 hxs z (afl hz);simpa using this)
 refine Calls.mono h1 ?_;rintro e w' ⟨v,m',rfl,hf,hh,hn,hkp,hrr⟩;have ho:=FL hd hk (x:=x) (y:=y) (x':=x) (y':=y) e1 e2;obtain⟨m3,f1,f2⟩:∃m3:Nat->Option Nat,m3 d1=m' k1/\m3 d2=m' k2:=⟨fun k=>if k=d1 then m' k1 else m' k2,agz rfl,agy (fun e=>hd e.symm)⟩
 refine⟨v,m3,rfl,ho▸hf,Hc hk hd hx' hy' f1 f2 hh,?_,?_,?_⟩
 ·intro k' z b hz hb;rw[<- ho];rcases nU hz with⟨rfl,_⟩ |⟨_,rfl,_⟩
  ·exact hn k1 _ b oe (f1▸hb)
  ·exact hn k2 _ b (ow hk) (f2▸hb)
 ·intro k' z z' hz hz';rcases nU hz with⟨rfl,_⟩ |⟨_,rfl,_⟩
  ·rw[f1,<- e1];exact hkp k1 _ _ oe oe
  ·rw[f2,<- e2];exact hkp k2 _ _ (ow hk) (ow hk)
 ·rw[DT hk hd (x:=x') (y:=y') f1 f2];exact kW hr hrr
end Go.Lw
namespace Go.Lw
open Go.Proofs
theorem HO{l:Li}{body pt:Int}{n k:Nat}{bd:Bd}{m:Mk}(h:MkP l body pt n k bd m):qP (aJ l body pt)=.agg [bl m.x.neg,ws m.x.num,ws m.x.den,bl m.y.neg,ws m.y.num,ws m.y.den]:=by
 rw[h.ex,h.ey]
theorem G2{p q:Rat×Rat}{e f:Nat}(hp:Sm e p)(hq:Sm f q)(he:e<=1000000)(hf:f<=1000000):FP 202 [qP p,qP q] (qP (iC p q)):=by
 refine ai func202 ?_;refine gc (wg (hp.x.qs oz) (hq.x.qs oz)) ?_;refine gc (wg (hp.y.qs oz) (hq.y.qs oz)) ?_;refine gD ?_;refine af ?_
 first |rfl |(simp;done)
theorem SR{p q:Rat×Rat}{e f:Nat}(hp:Sm e p)(hq:Sm f q)(he:e<=1000000)(hf:f<=1000000):FP 329 [qP p,qP q] (qA (fR p q)):=by
 refine ai func329 ?_;refine gc (sQ (hp.x.qs oz) (hq.x.qs oz)) ?_;refine gc (sQ (hp.y.qs oz) (hq.y.qs oz)) ?_;refine gc (wK ((hp.x.mul hq.x).qs oz) ((hp.y.mul hq.y).qs oz)) ?_;refine gD ?_;refine af ?_
 first |rfl |(simp;done)
theorem R8{p q:Rat×Rat}{e f:Nat}(hp:Sm e p)(hq:Sm f q)(he:e<=1000000)(hf:f<=1000000):FP 212 [qP p,qP q] (qA (DZ p q)):=by
 refine ai func212 ?_;refine gc (sQ (hp.x.qs oz) (hq.y.qs oz)) ?_;refine gc (sQ (hp.y.qs oz) (hq.x.qs oz)) ?_;refine gc (wg ((hp.x.mul hq.y).qs oz) ((hp.y.mul hq.x).qs oz)) ?_;refine gD ?_;refine af ?_
 first |rfl |(simp;done)
theorem Y9{p:Rat×Rat}{e:Nat}(hp:Sm e p)(he:e<=1000000):FP 201 [qP p] (nA (sh 0 (fR p p:Rat))):=by
 refine ai func201 ?_;refine gc (SR hp hp he he) ?_;refine gc (mU ((hp.dot hp).qs oz)) ?_;refine af ?_
 first |rfl |(simp;done)
theorem YM:FP 91 [] (nA (sh 0 ((1:Int):Rat))):=by
 refine ai func91 ?_;refine gc (ng 1 oz) ?_;refine gc (mU (sG oz)) ?_;refine af ?_
 first |rfl |(simp;done)
theorem nO{l:Li}(hl:l.ok)(hli:ao l=0)(g:Gr)(a:As){body pt:Int}(h1:aT body l.bo.length=true)(h2:aT pt (bW l body).length=true) :
  Con prog 203 [.ptr 1000 0,i64 body,i64 pt] [pP 1000 (fF l g a)] (qP (aJ l body pt)) [pP 1000 (fF l g a)]:=by
 obtain⟨n,k,bd,m,mp⟩:=oV hl hli h1 h2;rw[HO mp];have hn:=mp.hn;have hk:=mp.hk;have hlb:=hl.lb;subst hn;subst hk;refine gF func203 (fun k z h=>cO h) ?_;refine gi (aq mp.gbd) ?_;refine gi (aq mp.gm) ?_;refine gR ?_;exact aE.keep (df rfl)
theorem pp{E:Nat}{l:Li}(hl:l.ok)(hli:ao l=0)(g:Gr){a:As}(al:AB a)(hc:aZ a.rs=0){body pt:Int}(h1:aT body l.bo.length=true)(h2:aT pt (bW l body).length=true)(hE:E<=20000000000)(h3:(llq a.rs).length<=2)(hb:Pd E a body) :
  Con prog 191 [.ptr 1000 0,i64 body,i64 pt] [pP 1000 (fF l g a)] (aw (sX (bb l a body pt).1) (sX (bb l a body pt).2)) [pP 1000 (fF l g a)]:=by
 obtain⟨n,k,bd,m,b,hp⟩:=uq hl hli al hc h1 h2 hb;obtain⟨tw,hta⟩:=bZ al.tr hc
 have kb:kB 400000000 (llq a.rs).length<=1200000006:=by
  have h9:=jX 400000000 h3;have h8:eB 400000000 2=1200000006:=by decide
  show eB 400000000 _<=_;omega
 have hlm:lm (llq a.rs).length=200000000000:=by unfold lm;rw[agz h3]
 have hlb:=hl.lb;have hbl:=al.bl;have hmk:=nO hl hli g a h1 h2;show Con prog _ _ _ (aw (sh (llq a.rs).length (ez l a body pt).1) (sh (llq a.rs).length (ez l a body pt).2)) _;rw[hp.eq];have hn:=hp.mp.hn;rw[HO hp.mp]at hmk
 have hat:FP 139 [a5 a.rs,b.av,m.x.av,m.y.av] (.tup [aw (sh (llq a.rs).length (gU (llq a.rs) b m).1) (sh (llq a.rs).length (gU (llq a.rs) b m).2),.v .nilIface]):=by
  rw[hta,hp.av,hp.mp.ex,hp.mp.ey];have h9:=xa tw (hp.ok.c.mono (f:=E+1000) oz) (hp.ok.s.mono oz) (hp.ok.x.mono oz) (hp.ok.y.mono oz) (hp.mp.sm.x.mono (f:=E+1000) oz) (hp.mp.sm.y.mono (f:=E+1000) oz) oz;unfold gU;rw[hp.mp.ex,hp.mp.ey,bq,bq];exact h9
 refine gF func191 (fun k z h=>cO h) ?_;refine gt (aF hmk (aI rfl rfl rfl) aG rfl rfl) ?_;refine gi (bY (n:=n) hn hp.gb) ?_;refine gc hat ?_;refine gD ?_;refine gC (fun y=>?_) (fun y=>?_) (st2:=(77777,0))
 ·refine gR ?_;exact aE.keep (df rfl)
 cases y
theorem yB{E:Nat}(hE:E<=20000000000){l:Li}(hl:l.ok)(hli:ao l=0)(g:Gr)(hg:GrOk l g){a:As}(al:AB a)(hc:aZ a.rs=0){k:Nat}{z b:Int}{j:Jt}(hz:g.jo[k]?=some z)(hj:l.jo[z.toNat]?=some j)(h3:(llq a.rs).length<=2)(h:PinP E l a j b) :
  Con prog 197 [.ptr 1000 0,i64 k,i64 b] [pP 1000 (fF l g a)] (.tup [qP (aO l j b),aw (sX (aN l a j b).1) (sX (aN l a j b).2)]) [pP 1000 (fF l g a)]:=by
 obtain⟨z0,z1⟩:=hg.j z (afl hz);obtain⟨i1,i2,i3,i4,_⟩:=bS hli hj;have hgj:=hg.lj;have hlj:=hl.lj;refine gF func197 (fun k z h=>cO h) ?_;refine gi (aq hz) ?_;refine gi (bY (n:=z.toNat) oz hj) ?_;refine gD ?_;refine gC (fun y=>?_) (fun y=>?_)
 ·have e:j.a=b:=cB y;have hb:Pd E a j.b:=by rcases h.tie with h9 | h9; exact h9.2; exact ag5 e h9.1
  have eq1:aO l j b=aJ l b j.point:=agz e;have eq2:aN l a j b=bb l a j.b j.on:=agz e;rw[eq1,eq2];subst e;refine gt (aF (nO hl hli g a i1 i3) (aI rfl rfl rfl) aG rfl rfl) ?_;refine gt (aF (pp hl hli g al hc i2 i4 hE h3 hb) (aI rfl rfl rfl) aG rfl rfl) ?_;refine gD ?_;refine gR ?_;exact aE.keep (df rfl)
 have e:j.a≠b:=cU y;have e2:j.b=b/\Pd E a j.a:=by rcases h.tie with h9 |h9;exact ag5 h9.1 e;exact h9.2
 have eq1:aO l j b=aJ l b j.on:=agy e;have eq2:aN l a j b=bb l a j.a j.point:=agy e;rw[eq1,eq2];obtain⟨e2,hb⟩:=e2;subst e2;refine gt (aF (nO hl hli g a i2 i4) (aI rfl rfl rfl) aG rfl rfl) ?_;refine gt (aF (pp hl hli g al hc i1 i3 hE h3 hb) (aI rfl rfl rfl) aG rfl rfl) ?_;refine gD ?_;refine gR ?_;exact aE.keep (df rfl)
theorem E2{l:Li}(hl:l.ok)(hli:ao l=0)(g:Gr)(hg:GrOk l g)(a:As){z b:Int}{j:Jt}(hz:g.jo[2]?=some z)(hj:l.jo[z.toNat]?=some j)(h:j.a=b\/j.b=b) :
  Con prog 198 [.ptr 1000 0,i64 b] [pP 1000 (fF l g a)] (qP (aO l j b)) [pP 1000 (fF l g a)]:=by
 obtain⟨z0,z1⟩:=hg.j z (afl hz);obtain⟨i1,i2,i3,i4,_⟩:=bS hli hj;have hgj:=hg.lj;have hlj:=hl.lj;have h2:=(adw.1 hz).1;refine gF func198 (fun k z h=>cO h) ?_;refine gi (aq hz) ?_;refine gi (bY (n:=z.toNat) oz hj) ?_;refine gD ?_;refine gC (fun y=>?_) (fun y=>?_)
 ·have e:j.a=b:=cB y;have eq1:aO l j b=aJ l b j.point:=agz e;rw[eq1];subst e;refine gt (aF (nO hl hli g a i1 i3) (aI rfl rfl rfl) aG rfl rfl) ?_;refine gR ?_;exact aE.keep (df rfl)
 have e:j.a≠b:=cU y;have e2:j.b=b:=by rcases h with h9 |h9;exact ag5 h9 e;exact h9
 have eq1:aO l j b=aJ l b j.on:=agy e;rw[eq1];subst e2;refine gt (aF (nO hl hli g a i2 i4) (aI rfl rfl rfl) aG rfl rfl) ?_;refine gR ?_;exact aE.keep (df rfl)
theorem Dj{l:Li}(hl:l.ok)(g:Gr)(hg:GrOk l g)(a:As){z:Int}{j:Jt}(hz:g.jo[1]?=some z)(hj:l.jo[z.toNat]?=some j) :
  Con prog 190 [.ptr 1000 0] [pP 1000 (fF l g a)] j.av [pP 1000 (fF l g a)]:=by
 obtain⟨z0,z1⟩:=hg.j z (afl hz);have hgj:=hg.lj;have hlj:=hl.lj;have h2:=(adw.1 hz).1;refine gF func190 (fun k z h=>cO h) ?_;refine gi (aq hz) ?_;refine gi (bY (n:=z.toNat) oz hj) ?_;refine gD ?_;refine gR ?_;exact aE.keep (df rfl)
abbrev PT{ts:LL}(p:Rat×Rat)(at_:Et ts×Et ts)(c:Rat×Rat):List AV :=
  [bl (rt p.1).neg,ws (rt p.1).num,ws (rt p.1).den,bl (rt p.2).neg,ws (rt p.2).num,ws (rt p.2).den,nA (sX at_.1),nA (sX at_.2),bl (rt c.1).neg,ws (rt c.1).num,ws (rt c.1).den,bl (rt c.2).neg,ws (rt c.2).num,ws (rt c.2).den]
abbrev Ak{ts:LL}(p:Rat×Rat)(at_:Et ts×Et ts)(c:Rat×Rat):AV:=.agg (PT p at_ c)
theorem Vp{E:Nat}{l:Li}(hl:l.ok)(hli:ao l=0){a:As}(al:AB a)(hc:aZ a.rs=0)(h3:(llq a.rs).length<=2){i k z0 z1 z2:Int}{j0 j1 j2:Jt}(hg:GrOk l ⟨1,[i,k],[z0,z1,z2],0⟩)
  (h0:l.jo[z0.toNat]?=some j0) (h1:l.jo[z1.toNat]?=some j1) (h2:l.jo[z2.toNat]?=some j2) (p0:PinP E l a j0 i) (p1:PinP E l a j1 k) (t1:j2.a=i\/j2.b=i) (t2:j2.a=k\/j2.b=k) (hE:E<=20000000000:=by omega) :
  Con prog 92 [.ptr 1000 0] [pP 1000 (fF l ⟨1,[i,k],[z0,z1,z2],0⟩ a)] (.tup [Ak (aO l j0 i) (aN l a j0 i) (aO l j2 i),Ak (aO l j1 k) (aN l a j1 k) (aO l j2 k)]) [pP 1000 (fF l ⟨1,[i,k],[z0,z1,z2],0⟩ a)]:=by
 refine gF func92 (fun k z h=>cO h) ?_;refine gi (rfl) ?_;refine gi (rfl) ?_;refine gD ?_;refine gt (aF (yB oz hl hli _ hg al hc (k:=0) rfl h0 h3 p0) (.cons (.tmp rfl) (.cons (.const _) (fo rfl))) aG rfl rfl) ?_;refine gt (aF (yB oz hl hli _ hg al hc (k:=1) rfl h1 h3 p1) (.cons (.tmp rfl) (.cons (.const _) (fo rfl))) aG rfl rfl) ?_;refine gt (aF (E2 hl hli _ hg a rfl h2 t1) (ce rfl rfl) aG rfl rfl) ?_;refine gt (aF (E2 hl hli _ hg a rfl h2 t2) (ce rfl rfl) aG rfl rfl) ?_;refine gD ?_;refine gR ?_;exact aE.keep (df rfl)
theorem VD{E:Nat}{l:Li}(hl:l.ok)(hli:ao l=0){a:As}(al:AB a)(hc:aZ a.rs=0)(h3:(llq a.rs).length<=2){i z0 z1:Int}{j0 j1:Jt}(hg:GrOk l ⟨2,[i],[z0,z1],0⟩)
  (h0:l.jo[z0.toNat]?=some j0) (h1:l.jo[z1.toNat]?=some j1) (p0:PinP E l a j0 i) (ha:j1.a=i) (hk:j1.kind≠0) (hb:Pd E a j1.b) (hE:E<=20000000000:=by omega) :
  Con prog 96 [.ptr 1000 0] [pP 1000 (fF l ⟨2,[i],[z0,z1],0⟩ a)] (.tup [Ak (aO l j0 i) (aN l a j0 i) (aJ l i j1.point),aw (sX (bb l a j1.b j1.on).1) (sX (bb l a j1.b j1.on).2),aw (sX (bb l a j1.b j1.to).1) (sX (bb l a j1.b j1.to).2)]) [pP 1000 (fF l ⟨2,[i],[z0,z1],0⟩ a)]:=by
 obtain⟨i1,i2,i3,i4,i5⟩:=bS hli h1;rw[ha]at i1 i3;refine gF func96 (fun k z h=>cO h) ?_;refine gi (rfl) ?_;refine gt (iL (Dj hl _ hg a rfl h1) (fo rfl) rfl rfl rfl) ?_;refine gD ?_;refine gt (aF (yB oz hl hli _ hg al hc (k:=0) rfl h0 h3 p0) (.cons (.tmp rfl) (.cons (.const _) (fo rfl))) aG rfl rfl) ?_;refine gt (aF (nO hl hli _ a i1 i3) (aI rfl rfl rfl) aG rfl rfl) ?_;refine gt (aF (pp hl hli _ al hc i2 i4 oz h3 hb) (aI rfl rfl rfl) aG rfl rfl) ?_;refine gt (aF (pp hl hli _ al hc i2 (i5 hk) oz h3 hb) (aI rfl rfl rfl) aG rfl rfl) ?_;refine gD ?_;refine gR ?_;exact aE.keep (df rfl)
structure Vr where
  w:List Rt
  x:List Rt
  y:List Rt
instance:Inhabited Vr:=⟨⟨[],[],[]⟩⟩
def Vr.av(v:Vr):AV:=.agg [nR v.w,nR v.x,nR v.y]
def Vr.l(v:Vr):List (List Rt):=[v.w,v.x,v.y]
def lD(a:As)(r:List Vr):Bool :=
  a.bs.all (fun b=>iy a.rs b.l)&&(r.all (fun x=>iy a.rs x.l)&&(decide (a.bs.length<=20/\r.length<=20)&&(iy a.rs []&&decide (a.rs.length<=2\/5<a.rs.length))))
structure VL(a:As)(r:List Vr):Prop where
  al:AL a
  nr:∀x∈r,∀y∈x.l,NR y 4000
  rl:r.length<=20
theorem ZE{a:As}{r:List Vr}(h:lD a r=true)(ha:a.ok)(hr:∀x∈r,dH x.l):VL a r:=by
 unfold lD at h;simp only[afp,ag0,afy]at h;obtain⟨h1,h2,h3,h4,h5⟩:=h;refine⟨Xh ?_ ha,fun x hx=>(BX (h2 x hx) ha.rs (hr x hx)).nr,h3.2⟩;unfold AJ;simp only[afp,ag0,afy];exact⟨h1,⟨h3.1,h4⟩,h5⟩
theorem AL.ct{a:As}(h:AL a)(hc:aZ a.rs=0):Ct (llq a.rs) 4000 300000:=by
 obtain⟨tw,_⟩:=bZ h.tr hc;exact⟨⟨40000,tw,af2 (MD 40000 tw.three) oz⟩,by omega,by omega,by omega,by omega⟩
abbrev qk(rs:List (List Rt)):Blk:=.box [.lst 1 (rs.map nR),.v .nilIface]
theorem yH(rs:List (List Rt))(a:List Rat):Con prog 93 [.ptr 1000 0,nA a,.v .nilIface] [pP 1000 (qk rs)] (nA a) [pP 1000 (qk rs)]:=by
 refine gF func93 (fun k z h=>cO h) ?_;refine gC (fun y=>?_) (fun y=>?_) (st2:=(77777,0))
 ·refine gR ?_;exact aE.keep (df rfl)
 cases y
theorem oq(rs:List (List Rt))(a b:List Rat):Con prog 97 [.ptr 1000 0,aw a b,.v .nilIface] [pP 1000 (qk rs)] (aw a b) [pP 1000 (qk rs)]:=by
 refine gF func97 (fun k z h=>cO h) ?_;refine gC (fun q=>?_) (fun q=>?_) (st2:=(77777,0))
 ·refine gR ?_;exact aE.keep (df rfl)
 cases q
section
variable{rs:List (List Rt)}{r u k:Nat}{a b c:List Rat}{x y:Et (llq rs)}{w v w' v':Nat}
end
structure DyW(l:Li)(a:As):Prop where
  hl:l.ok
  li:ao l=0
  al:AB a
  hc:aZ a.rs=0
structure DyR(l:Li)(a:As):Prop extends DyW l a where
  s:DyS a
theorem DyR.two{l:Li}{a:As}(D:DyR l a):(llq a.rs).length<=2:=D.s.two D.hc
theorem rO{n:Nat}(h3:n<=2):kB 400000000 n<=1200000006:=by
 have h9:=jX 400000000 h3;have h8:eB 400000000 2=1200000006:=by decide
 show eB 400000000 _<=_;omega
abbrev Qj(l:Li)(a:As)(i:Int)(j0 j:Jt):List AV :=
  qC (aO l j0 i)++([nA (sX (aN l a j0 i).1),nA (sX (aN l a j0 i).2)]++(qC (oa l i j)++[nA (sh 0 (lH l i j0 j:Rat)),nA (sh 0 (zW l i j:Rat)),nA (sX (jZ l a i j0 j)),nA (sX (it l a i j0 j).1),nA (sX (it l a i j0 j).2)]))
theorem aa8{E:Nat}(hE:E<=20000000000){l:Li}{a:As}(D:DyW l a)(h3:(llq a.rs).length<=2){i z0 z1:Int}{j0 j:Jt}(hg:GrOk l ⟨3,[i],[z0,z1],0⟩)
  (h0:l.jo[z0.toNat]?=some j0) (h1:l.jo[z1.toNat]?=some j) (p0:PinP E l a j0 i) (hi:j.b=i) (hk:j.kind≠0) (hb:Pd E a j.a)
  (hsub:FP 98 [.agg [.lst 1 (a.rs.map nR)],aw (sX (bb l a j.a j.point).1) (sX (bb l a j.a j.point).2),aw (sX (aN l a j0 i).1) (sX (aN l a j0 i).2)] (.tup [aw (sX (it l a i j0 j).1) (sX (it l a i j0 j).2),.v .nilIface]))
  (hdot:FP 102 [.agg [.lst 1 (a.rs.map nR)],aw (sX (it l a i j0 j).1) (sX (it l a i j0 j).2),aw (sX (it l a i j0 j).1) (sX (it l a i j0 j).2)] (.tup [nA (sX (jZ l a i j0 j)),.v .nilIface])) :
  Con prog 103 [.ptr 1000 0,.ptr 1001 0] [pP 1000 (fF l ⟨3,[i],[z0,z1],0⟩ a),pP 1001 (qk a.rs)] (.agg (Qj l a i j0 j)) [pP 1000 (fF l ⟨3,[i],[z0,z1],0⟩ a),pP 1001 (qk a.rs)]:=by
 obtain⟨i1,i2,i3,i4,i5⟩:=bS D.li h1;have hs0:Sm 1000 (aO l j0 i):=k8 D.hl D.li h0 (by rcases p0.tie with h9 |h9;exact .inl h9.1;exact .inr h9.2.1);subst hi;have hs1:=iT D.hl D.li i2 i4;have hs2:=iT D.hl D.li i2 (i5 hk);have hv:=hs2.sub hs1;refine gF func103 (fun k z h=>VU h) ?_;refine gi (rfl) ?_;refine gt (iL (Dj D.hl _ hg a rfl h1) (fo rfl) rfl rfl rfl) ?_;refine gD ?_;refine gt (aF (yB hE D.hl D.li _ hg D.al D.hc (k:=0) rfl h0 h3 p0) (.cons (.tmp rfl) (.cons (.const _) (fo rfl))) aG rfl rfl) ?_;refine gt (iL (nO D.hl D.li _ a i2 i4) (aI rfl rfl rfl) rfl rfl rfl) ?_;refine gt (iL (nO D.hl D.li _ a i2 (i5 hk)) (aI rfl rfl rfl) rfl rfl rfl) ?_;refine gc (G2 hs2 hs1 oz oz) ?_;refine gD ?_;refine gc (G2 hs1 hs0 oz oz) ?_;refine gc (R8 hv (hs1.sub hs0) oz oz) ?_;refine gc (mU ((hv.cross (hs1.sub hs0)).qs oz)) ?_;refine gc (Y9 hv oz) ?_;refine gD ?_;refine gt (aF (pp D.hl D.li _ D.al D.hc i1 i3 hE h3 hb) (aI rfl rfl rfl) aG rfl rfl) ?_;refine gC (fun q=>?_) (fun q=>?_) (st2:=(77777,0))
 ·refine gc hsub ?_;refine gt (aF (Con.rekeyB 1001 rfl rfl rfl rfl (oq _ _ _)) (aI rfl rfl rfl) aG rfl rfl) ?_;refine gD ?_;refine gc hdot ?_;refine gt (aF (Con.rekeyB 1001 rfl rfl rfl rfl (yH _ _)) (aI rfl rfl rfl) aG rfl rfl) ?_;refine gD ?_;refine gR ?_;exact aE.keep (f7 rfl rfl)
 cases q
section
variable{rs:List (List Rt)}{r:Nat}{a b c a2 b2 c2:List Rat}
end
section
variable{rs:List (List Rt)}{r u k:Nat}{a b:List Rat}{x y:Et (llq rs)}{w v w' v':Nat}
end
section
variable{rs:List (List Rt)}{r:Nat}{a b c a2 b2 c2:List Rat}{x y z x2 y2 z2:Et (llq rs)}
end
class Cy(ts:LL)(u k:outParam Nat):Prop where
  ex:∃R,Tw ts R/\eB R ts.length<=k
  k1:1<=k
  u3:3<=u
  two:ts.length<=2
instance Cy.cx{ts:LL}{u k:Nat}[c:Cy ts u k]:Cx (am ts) ts.length u k:=by
  obtain⟨R,tw,h⟩:=c.ex;exact⟨⟨R,JQ tw▸tw,h⟩,c.k1,c.u3⟩
theorem Cy.lm{ts:LL}{u k:Nat}(c:Cy ts u k):lm ts.length=200000000000:=by unfold Go.Lw.lm;rw[agz c.two]
def iE{ts:LL}(y:Et ts):Et ts:=T.inv (am ts) ts.length y
section
variable{ts:LL}{u k:Nat}{a b:List Rat}{x y:Et ts}{w v w' v':Nat}
abbrev Rm(ts:LL)(ps:List AV):AV:=.agg [.lst 1 (ts.map nA),.lst 2 ps]
end
theorem mg(ts:LL)(a:List Rat):(ch ts a).length=ts.length+1:=by simp[ch]
theorem IG{ts:LL}{a:List Rat}{j:Nat}(h:j<ts.length):(ch ts a).getD j []=ts.getD j []:=by
 unfold ch;rw[afn,afn,af6 h]
theorem G4(ts:LL)(a:List Rat):(ch ts a).getD ts.length []=aP a (2^ts.length):=by
 unfold ch;rw[afn,af5 (afq _),Nat.sub_self];rfl
theorem FY{ts:LL}{a:List Rat}{j:Nat}(h:j<ts.length):am (ch ts a) j=am ts j:=by
 unfold am;rw[IG h]
theorem Gc{ts:LL}{a:List Rat}{j:Nat}(h:j<=ts.length)(x:T j):T.sgn (am (ch ts a)) j x=T.sgn (am ts) j x :=
 T.sgn_congr j (fun i hi=>FY oz) x
theorem RB.ext{r e:Nat}{ts:LL}{a:List Rat}(h:RB r ts)(ha:Cb e a):RB (r+e) (ch ts a):=by
 obtain⟨D,N,h0,h1,h2,h3⟩:=h;obtain⟨D',N',k1,k2,k3⟩:=ha.wide (n:=2^ts.length);have hN:N<=2^r:=h3;refine⟨D*D',max (N*D') (N'*D),abt h0 k1.1,?_,?_,?_⟩
 ·intro d hd;rcases aft.1 hd with h9 |h9
  ·exact((h1 d h9).scale k1.1).mono (Nat.le_max_left _ _)
  ·rw[adc.1 h9,acb D];exact(k1.scale h0).mono (Nat.le_max_right _ _)
 ·rw[agk];exact abx h2 k2
 ·rw[agk];refine Nat.max_le.2 ⟨abx h3 k2,?_⟩;rw[acb (2^r)];exact abx k3 h2
theorem abf{r e:Nat}{ts:LL}{a:List Rat}(tw:Tw ts r)(h2:ts.length<=2)(ha:Nm ts.length e a)(he:r+e<=5000000000)(hs:0<=T.sgn (am ts) ts.length (ae ts.length a)):Tw (ch ts a) (r+e):=by
 refine⟨by rw[mg];omega,?_,?_,tw.rb.ext ha.cb,he⟩
 ·intro j hj;rw[mg]at hj;rcases afv j ts.length with h |h
  ·rw[IG h];exact tw.len j h
  ·have:j=ts.length:=by omega
   subst this;rw[G4];exact dF ha.nl.le
 ·intro j hj;rw[mg]at hj;rw[Gc oz];rcases afv j ts.length with h |h
  ·rw[FY h];exact tw.pos j h
  ·have:j=ts.length:=by omega
   subst this
   have e1:am (ch ts a) ts.length=ae ts.length a:=by
    show ae ts.length ((ch ts a).getD ts.length [])=_;rw[G4,zL]
   rw[e1];exact hs
theorem M8{ts:LL}{a l:List Rat}{e:Nat}(h:Nm ts.length e l)(h4:ts.length<=4):Nm (ch ts a).length e l:=by
 rw[mg];exact⟨by omega,h.nl.mono oz,h.cb⟩
theorem N6{ts:LL}{a l:List Rat}(h:Nl ts.length l):aC (dE (ch ts a) l)=aC (dE ts l):=by
 unfold aC dE;rw[mg];show T.sgn (am (ch ts a)) (ts.length+1) (ae (ts.length+1) l)=_;rw[pN (am (ch ts a)) h.le (Nat.le_succ _),Gc (afq _)]
theorem aa9{ts:LL}{a:List Rat}(h4:ts.length<=4):Nm (ch ts a).length 1 (oG ts.length):=by
 rw[mg];refine⟨by omega,.inr ⟨_,afq _,VI _⟩,1,1,⟨by omega,?_⟩,by omega,by omega⟩;intro q hq;unfold oG at hq;rcases ac4 hq with h |h
 ·rw[(ad4.1 h).2];exact⟨0,by rw[Rat.zero_mul];rfl,by simp⟩
 ·rw[h];exact⟨1,by rw[Rat.one_mul];rfl,by simp⟩
structure Mt where
  ts:LL
  ps:List (List Rat×List Rat)
abbrev Sn(p:List Rat×List Rat):AV:=aw p.1 p.2
abbrev Mt.av(m:Mt):AV:=Rm m.ts (m.ps.map Sn)
abbrev P2(ts:LL):Type:=Et ts×Et ts
abbrev P2.l{ts:LL}(p:P2 ts):List Rat×List Rat:=(sX p.1,sX p.2)
abbrev iw{ts:LL}(X:Et ts)(x:Et ts):Et (ch ts (sX X)):=dE (ch ts (sX X)) (sX x)
section
variable{ts:LL}
def uL(d:Et ts):Et ts:=qE ((2:Int):Rat)*d
def Co(p q:P2 ts):P2 ts:=(q.1-p.1,q.2-p.2)
def vn(p:P2 ts)(k:Et ts)(v:P2 ts):P2 ts:=(p.1+k*v.1,p.2+k*v.2)
def vh(p q:P2 ts)(z z2:Et ts):P2 ts:=vn p ((z+fE p q-z2)*iE (uL (fE p q))) (Co p q)
def KO(X d:Et ts):Et (ch ts (sX X)):=dE _ (oG ts.length)*iE (iw X (uL d))
def GL(X:Et ts)(f v:P2 ts)(c:Et (ch ts (sX X))):P2 (ch ts (sX X)):=vn (iw X f.1,iw X f.2) c (qE ((-1:Int):Rat)*iw X v.2,iw X v.1)
def Ky(p:P2 ts)(z z2:Et ts):Mt:=if aC (z-z2)≠0 then⟨ts,[]⟩else if 0<aC z then⟨[],[]⟩else⟨ts,[(vn p 0 p).l]⟩
def rq(p q:P2 ts)(z z2:Et ts):Mt :=
  if aC (fE p q)=0 then Ky p z z2
  else if aC (ir p z q z2)<0 then⟨ts,[]⟩
  else if aC (ir p z q z2)=0 then⟨ts,[(vh p q z z2).l]⟩
  else⟨ch ts (sX (ir p z q z2)),[(GL (ir p z q z2) (vh p q z z2) (Co p q) (KO (ir p z q z2) (fE p q))).l,
    (GL (ir p z q z2) (vh p q z z2) (Co p q) (qE ((-1:Int):Rat)*KO (ir p z q z2) (fE p q))).l]⟩
def Ki(z z2:Et ts):Nat:=if aC (z-z2)=0/\0<aC z then 15 else 0
def ze(p q:P2 ts)(z z2:Et ts):Nat:=if aC (fE p q)=0 then Ki z z2 else 0
end
section
variable{ts:LL}{a b c a2 b2 c2:List Rat}{x y z x2 y2 z2:Et ts}
end
section
variable{rs:List (List Rt)}{r:Nat}{a b c a2 b2 c2:List Rat}{x y z x2 y2 z2:Et (llq rs)}
theorem Sr{ts:LL}{X x:Et ts}:aC (iw X x)=aC x:=by
 show aC (dE (ch ts (sX X)) (sX x))=_;rw[N6 (l:=sX x) (eS _ _)];show aC (dE ts (sX x))=_;rw[show dE ts (sX x)=x from bK _ _]
theorem Vm{ts:LL}{r:Nat}(tw:Tw ts r)(d:Et ts):aC (uL d)=aC d:=by
 have h:=kc (am ts) ts.length tw.pos
 have h2:sg (am ts) ts.length (qE ((2:Int):Rat):Et ts)=1:=by
  show T.sgn (am ts) ts.length (T.ofQ ts.length ((2:Int):Rat))=1;rw[T.sgn_ofQ];rfl
 have h3:=h.mul (qE ((2:Int):Rat)) d;rw[h2,Int.one_mul]at h3;exact h3
end
section
variable{ts:LL}
abbrev o6(p q:P2 ts):Et ts:=aX (ah q p) (ah q p)
abbrev w6(p q c:P2 ts):Et ts:=aX (ah q p) (ah c p)
abbrev De(p q c:P2 ts):Et ts:=a6 (ah q p) (ah c p)
abbrev eE(p q c:P2 ts)(z:Et ts):Et ts:=o6 p q*z-De p q c*De p q c
def HA(X:Et ts)(S:Et ts)(k:Et (ch ts (sX X))):Et (ch ts (sX X)):=k*iE (iw X S)
def KS(X:Et ts)(p v:P2 ts)(k:Et (ch ts (sX X))):P2 (ch ts (sX X)):=vn (iw X p.1,iw X p.2) k (iw X v.1,iw X v.2)
abbrev rv(X:Et ts):Et (ch ts (sX X)):=dE _ (oG ts.length)
def sa(p q c:P2 ts)(z:Et ts):Mt :=
  if aC (o6 p q)=0 then⟨[],[]⟩else if aC (eE p q c z)=-1 then⟨ts,[]⟩else if aC (eE p q c z)=0 then⟨ts,[(vn p (w6 p q c*iE (o6 p q)) (ah q p)).l]⟩
  else⟨ch ts (sX (eE p q c z)),[(KS (eE p q c z) p (ah q p) (HA (eE p q c z) (o6 p q) (iw (eE p q c z) (w6 p q c)+rv (eE p q c z)))).l,
    (KS (eE p q c z) p (ah q p) (HA (eE p q c z) (o6 p q) (iw (eE p q c z) (w6 p q c)-rv (eE p q c z)))).l]⟩
def wB(p q:P2 ts):Nat:=if aC (o6 p q)=0 then 8 else 0
end
section
variable{rs:List (List Rt)}{c:List Rat}{o p q:P2 (llq rs)}{z:Et (llq rs)}
end
def nC(vs:List (Rat×Rat)):Bool:=(bJ vs.length fun i=>!decide (fR (vs.getD i (0,0)) (vs.getD i (0,0))=0)).isSome
theorem Yy{v:Rat×Rat}(h:nC [v]=false):fR v v≠0:=by
 intro h0;have h1:bJ 1 (fun i=>!decide (fR ([v].getD i (0,0)) ([v].getD i (0,0))=0))=some 0:=fS oz (fun j hj=>by omega) (by show(!decide (fR v v=0))=false;rw[h0];rfl);unfold nC at h;rw[show[v].length=1 from rfl,h1]at h;cases h
theorem Qk{v w:Rat×Rat}(h:nC [v,w]=false):fR v v≠0/\fR w w≠0:=by
 unfold nC at h;rw[Option.isSome_eq_false_iff,Option.isNone_iff_eq_none]at h;have h2:=wX h;have h3:=h2 0 (by show 0<2;omega);have h4:=h2 1 (by show 1<2;omega);have h5:(!decide (fR v v=0))=true:=h3;have h6:(!decide (fR w w=0))=true:=h4;simp only[ae0,decide_eq_false_iff_not]at h5 h6;exact⟨h5,h6⟩
section
variable{ts:LL}
abbrev CY(u:Rat×Rat):Et ts:=qE (fR u u)
def qK(u:Rat×Rat)(w:P2 ts):Et ts:=(qE u.1*w.1+qE u.2*w.2)*iE (CY u)
def r6(u:Rat×Rat)(w:P2 ts):Et ts:=(qE u.1*w.2-qE u.2*w.1)*iE (CY u)
def A9(u:Rat×Rat)(w:P2 ts)(p:Rat×Rat)(o:P2 ts):Et ts:=o.1-(qK u w*qE p.1-r6 u w*qE p.2)
def AO(u:Rat×Rat)(w:P2 ts)(p:Rat×Rat)(o:P2 ts):Et ts:=o.2-(r6 u w*qE p.1+qK u w*qE p.2)
def uo(u:Rat×Rat)(w:P2 ts)(p:Rat×Rat)(o:P2 ts):Pq:=⟨sX (qK u w),sX (r6 u w),sX (A9 u w p o),sX (AO u w p o)⟩
end
structure Sv where
  ts:LL
  ps:List Pq
  mode:Int
abbrev Sv.av(s:Sv):AV:=.agg [.lst 1 (s.ts.map nA),.lst 4 (s.ps.map Pq.av),i64 s.mode]
structure Hd where
  p:Rat×Rat
  a:List Rat×List Rat
  c:Rat×Rat
abbrev Hd.av(h:Hd):AV:=.agg [bl (rt h.p.1).neg,ws (rt h.p.1).num,ws (rt h.p.1).den,bl (rt h.p.2).neg,ws (rt h.p.2).num,ws (rt h.p.2).den,nA h.a.1,nA h.a.2,bl (rt h.c.1).neg,ws (rt h.c.1).num,ws (rt h.c.1).den,bl (rt h.c.2).neg,ws (rt h.c.2).num,ws (rt h.c.2).den]
def wG(ts:LL)(h:Hd)(x:List Rat×List Rat):P2 ts:=(dE ts x.1-dE ts h.a.1,dE ts x.2-dE ts h.a.2)
def zE(ts:LL)(h:Hd):P2 ts:=(dE ts h.a.1,dE ts h.a.2)
def YG(ts:LL)(x:List Rat×List Rat)(h:Hd):Pq:=uo (iC h.c h.p) (wG ts h x) h.p (zE ts h)
def Np(m:Mt)(hs:List Hd)(i:Nat):Sv:=⟨m.ts,hs.map (YG m.ts (m.ps.getD i ([],[]))),if m.ps.length=1 then 0 else 1-2*(i:Int)⟩
variable{P:ahb}{N:Nat}{R:Array Oper}{s:AS}{pos:String}{after:Array Edge}
def vk:ag9->Nat
  | .int .i64 _=>1
  | .string _=>2
  |_=>0
def BF(P:ahb)(t:aha):Bool:=match P.underlying t with |some .string=>true |_=>false
theorem Ov{t:aha}(h:BF P t=true):P.underlying t=some .string:=by
 unfold BF at h;split at h
 ·assumption
 ·cases h
def C2 (P : ahb) (ks : List Nat) (f : Field) : Bool := f.name != "_" && (match ks[f.offset]? with | some 1 => uk P f.type | some 2 => BF P f.type | _ => false)
def xd(P:ahb)(T:aha)(ks:List Nat):Bool:=match P.underlying T with
  |some (.struct fs)=>fs.toList.all (C2 P ks)&&!P.stoodInHeld T&&!P.eqGuardType P.depth T
  |_=>false
theorem HI{cs:List ag9}{ks:List Nat}(hk:cs.map vk=ks)(w:ahc):∀{fs:List Field},fs.all (C2 P ks)=true->(Op.eqFields 9999 cs.toArray cs.toArray fs).run P w=.ok true w
 |[],_=>rfl
 |f::fs,h=>by
  rw [List.all_cons,afp] at h;obtain ⟨h1,h2⟩:=h;have ih:=HI hk w h2;unfold C2 at h1;rw [afp] at h1;obtain ⟨hn,h1⟩:=h1;have n1 : f.name ≠ "_" := by simpa using hn
  have hc:∀k,ks[f.offset]?=some k->∃v,cs[f.offset]?=some v/\vk v=k:=by
   intro k hk2;rw[<- hk,afu,afs]at hk2;exact hk2
  split at h1
  ·rename_i e;obtain⟨v,hv,hvk⟩:=hc 1 e;have hu:=Ap h1;have e0:cs.toArray[f.offset]?=some v:=by simpa using hv
   have e1:(part f.type cs.toArray f.offset).run P w=.ok v w:=by simp[part,isAgg,run_underlying hu,e0]
   have:∃n,v=.int .i64 n:=by unfold vk at hvk;split at hvk;exact⟨_,rfl⟩;cases hvk;cases hvk
   obtain⟨n,rfl⟩:=this;have e3:(Op.equalIn 9999 f.type (.int .i64 n) (.int .i64 n)).run P w=.ok (n==n) w:=run_equalIn_int w 9998 f.type .i64 .i64 n n hu;simp only[Op.eqFields,n1,ne_eq,not_false_eq_true,if_true,Sem.run_bind,e1,e3,Result.andThen_ok,Sem.run_ite,beq_self_eq_true,aez,aew,if_false,ih]
  ·rename_i e;obtain⟨v,hv,hvk⟩:=hc 2 e;have hu:=Ov h1;have e0:cs.toArray[f.offset]?=some v:=by simpa using hv
   have e1:(part f.type cs.toArray f.offset).run P w=.ok v w:=by simp[part,isAgg,run_underlying hu,e0]
   have:∃n,v=.string n:=by unfold vk at hvk;split at hvk;cases hvk;exact⟨_,rfl⟩;cases hvk
   obtain⟨n,rfl⟩:=this;have e3:(Op.equalIn 9999 f.type (.string n) (.string n)).run P w=.ok (n.toList==n.toList) w:=run_equalIn_string w 9998 f.type n n hu;simp only[Op.eqFields,n1,ne_eq,not_false_eq_true,if_true,Sem.run_bind,e1,e3,Result.andThen_ok,Sem.run_ite,beq_self_eq_true,aez,aew,if_false,ih]
  ·cases h1
theorem VB{T:aha}{cs:List ag9}{ks:List Nat}(hk:cs.map vk=ks)(h:xd P T ks=true)(w:ahc) :
  (Op.equalIn 10000 T (.agg cs.toArray) (.agg cs.toArray)).run P w=.ok true w/\P.eqGuardType P.depth T=false:=by
 unfold xd at h;split at h
 ·rename_i fs hu;rw[afp,afp] at h;obtain⟨⟨h,h1⟩,h2⟩:=h;have hF:P.fieldsOf T=fs:=by unfold Program.fieldsOf; rw[hu]
  have hs:P.stoodInHeld T=false:=by simpa using h1
  refine⟨?_,by simpa using h2⟩;rw[run_equalIn_struct w 9999 T _ _ (by rw[hF];exact hu) hs,hF];exact HI hk w h
 ·cases h
theorem GY{g:Nat->Array ag9->Prop}{S:Nat->Nat->Prop}{m:Nat->Option Nat}{u:ag9}{cs:List ag9}(h:Rep g S m u (.agg (cs.map .v))):u=.agg cs.toArray:=by
 cases h with
 | @agg _ vs _ hn h1 hrr =>
  rw[afm]at hn;congr 1;refine Array.ext (by simpa using hn) (fun i hi hi2=>?_);have hi3:i<cs.length:=by simpa using hi2
  have r:=hrr i vs[i] (.v cs[i]) (by simp[hi]) (by simp[hi3]);have r2:∀{y z:ag9},Rep g S m y (.v z)->y=z:=fun h=>by cases h;rfl
  rw[r2 r];simp
theorem Rc{d:Nat}{x y:ag8}{cs:List ag9}{ks:List Nat}{S T t:aha}(hx:Ev s x (.agg (cs.map .v)))(hy:Ev s y (.agg (cs.map .v)))
  (hk:cs.map vk=ks) (hS:xd P S ks=true) (hN:acm d N=true) :
  Step P N R s ⟨some d,.binOp .neq S x y T,t,pos,after,none⟩ ⟨some (.v (.bool false)),[],aj x++aj y,[]⟩ :=
 cK rfl rfl hN fun s' hag C m ac w hr=>⟨.bool false,by
  have h:=GY ((hx.agree hag (fun _ h=>aft.2 (.inl h))).rep hr);have h':=GY ((hy.agree hag (fun _ h=>aft.2 (.inr h))).rep hr);obtain⟨r1,r2⟩:=VB (T:=S) hk hS w;simp only[execOp,h,h',Sem.run_bind,run_eqGuard_agg w .neq S x y _ _ r2,Result.andThen_ok,run_neq_struct,r1,Sem.run_pure,aez],.v _⟩
def E9(P:ahb)(T:aha)(f o:Nat):Bool:=match P.underlying T with
  |some (.struct fs)=>(match fs[f]? with
    |some fl=>ab3 fl.offset o&&(match P.underlying fl.type with
      |some (.struct _)=>false
      |some (.array _ _)=>false
      |some _=>true
      |none=>false)
    |none=>false)
  |_=>false
theorem WD{d f o:Nat}{x:ag8}{cs:List AV}{c:AV}{T t:aha}(hx:Ev s x (.agg cs))(hc:cs[o]?=some c)(hF:E9 P T f o=true)(hN:acm d N=true) :
  Step P N R s ⟨some d,.field T x f,t,pos,after,none⟩ ⟨some c,[],aj x,[]⟩ :=
 cK rfl rfl hN fun s' hag C m a w hr=>by
  have h:=(hx.agree hag (fun _ h=>h)).rep hr;generalize hu:a.eval x=y at h;cases h with
  | @agg _ vs _ hn h1 hrr =>
   have ho:=(adw.1 hc).1;have hv:vs[o]?=some vs[o]:=by simp[hn,ho]
   refine⟨vs[o],?_,hrr o _ c hv hc⟩;unfold E9 at hF;split at hF
   ·rename_i fs hu2;split at hF
    ·rename_i fl hfl;rw[afp]at hF;obtain⟨h2,h3⟩:=hF;have h2:=afo h2
     have h4:∃u,P.underlying fl.type=some u/\(∀g,u≠.struct g)/\(∀n e,u≠.array n e):=by
      split at h3
      ·cases h3
      ·cases h3
      ·rename_i u n1 n2 e;exact⟨_,e,fun g h=>n1 g h,fun n e2 h=>n2 n e2 h⟩
      ·cases h3
     obtain⟨u,e1,e2,e3⟩:=h4;subst h2;simp[execOp,hu,Instr.field,run_underlying hu2,hfl,part,isAgg,run_underlying e1,asAgg,hv]
    ·cases hF
   ·cases hF
end Go.Lw
namespace Go.Lw
open Go.Proofs
theorem Re{ts:LL}{X:Et ts}(hn:ts.length<=1)(e:Nat)(y:Et ts)(h:Nm ts.length e (sX y)):Nm (ch ts (sX X)).length e (sX y)/\sX (dE (ch ts (sX X)) (sX y))=sX y:=by
 refine⟨M8 h oz,?_⟩;show sh (ch ts (sX X)).length (ae (ch ts (sX X)).length (sX y))=sX y;rw[mg,gN h.nl.le];show(if T.isZ ts.length (T.zero ts.length)=true then sh ts.length (ae ts.length (sX y))else _)=_;rw[agz ((T.isZ_iff _ _).2 rfl)];exact ag6 (sh ts.length) (bK _ _)
theorem AH{α:Type}{P:α->Prop}{x y:α}(hx:P x)(hy:P y):∀z∈[x,y],P z:=by
 intro z hz;rcases agd.1 hz with rfl |hz
 ·exact hx
 ·rw[adc.1 hz];exact hy
theorem uc{α:Type}{P:α->Prop}{x:α}(hx:P x):∀z∈[x],P z:=by
 intro z hz;rw[adc.1 hz];exact hx
section
variable{ts:LL}
def TN(q w1 w2 h:Et ts):Et ts:=q*w1-h*-w2
def ZS(q w1 w2 h:Et ts):Et ts:=q*w2-h*w1
def Lp(ts:LL)(q h d:List Rat)(w:List Rat×List Rat):P2 ts:=(TN (dE ts q) (dE ts w.1) (dE ts w.2) (dE ts h)*iE (dE ts d),ZS (dE ts q) (dE ts w.1) (dE ts w.2) (dE ts h)*iE (dE ts d))
structure Rp where
  v:Rat×Rat
  p:Rat×Rat
  a:List Rat×List Rat
  h:List Rat
  d:List Rat
  w:List Rat×List Rat
def C1(ts:LL)(R:Rp)(q:List Rat):Pq:=uo R.v (Lp ts q R.h R.d R.w) R.p (dE ts R.a.1,dE ts R.a.2)
end
def Br(ts:LL)(R:Rp)(qs:LL)(i:Nat):Sv:=⟨ts,[C1 ts R (qs.getD i [])],if qs.length=1 then 0 else 1-2*(i:Int)⟩
def x7(l:Li)(a:As)(i:Int)(j0 j:Jt):Rp:=⟨oa l i j,aO l j0 i,P2.l (aN l a j0 i),sh 0 (lH l i j0 j:Rat),sX (jZ l a i j0 j),P2.l (it l a i j0 j)⟩
def jw(l:Li)(a:As)(i:Int)(j0 j:Jt):Et (llq a.rs):=qE (zW l i j)*jZ l a i j0 j-qE (lH l i j0 j)*qE (lH l i j0 j)
theorem Pt{ts:LL}{r:Nat}(tw:Tw ts r){n d h:Et ts}(hs:¬aC (n*d-h*h)<0)(h1:¬(aC d=0/\aC h=0)):aC d≠0:=by
 intro h0;have S:=kc (am ts) ts.length tw.pos
 have e1:sg (am ts) ts.length (n*d)=0:=by
  rw[S.mul];have:sg (am ts) ts.length d=0:=h0;rw[this];exact Int.mul_zero _
 have e2:=S.zadd (y:=-(h*h)) e1;rw[show n*d+-(h*h)=n*d-h*h by grind,S.neg,S.mul]at e2;have e3:aC (n*d-h*h)=sg (am ts) ts.length (n*d-h*h):=rfl;have e4:aC h=sg (am ts) ts.length h:=rfl;have h2:sg (am ts) ts.length h≠0:=fun h9=>h1 ⟨h0,by rw[e4];exact h9⟩
 rw[e3,e2]at hs;rcases S.cs h with g |g |g
 ·rw[g]at hs;exact hs (by decide)
 ·exact h2 g
 ·rw[g]at hs;exact hs (by decide)
theorem RV{p q:Rat}(h:p*p+q*q=0):p=0/\q=0:=by
 have h1:=LN p;have h2:=LN q;have h3:p*p=0:=by grind
 have h4:q*q=0:=by grind
 exact⟨by rcases Rat.mul_eq_zero.1 h3 with g |g <;> exact g,by rcases Rat.mul_eq_zero.1 h4 with g |g <;> exact g⟩
theorem Ol{l:Li}(hli:ao l=0){n:Nat}{j:Jt}(hj:l.jo[n]?=some j)(hk:j.kind≠0){i:Int}(hi:j.b=i):fR (oa l i j) (oa l i j)≠0:=by
 intro h0;obtain⟨h1,h2⟩:=RV h0;have h3:=Fo hli hj;subst hi;have e1:(aJ l j.b j.to).1-(aJ l j.b j.on).1=0:=h1;have e2:(aJ l j.b j.to).2-(aJ l j.b j.on).2=0:=h2;have e3:((bW l j.b).getD j.on.toNat default).x.q=((bW l j.b).getD j.to.toNat default).x.q:=by unfold aJ at e1;dsimp only at e1;grind
 have e4:((bW l j.b).getD j.on.toNat default).y.q=((bW l j.b).getD j.to.toNat default).y.q:=by unfold aJ at e2;dsimp only at e2;grind
 unfold eJ at h3;split at h3
 ·cases h3
 ·split at h3
  ·cases h3
  ·split at h3
   ·cases h3
   ·split at h3
    ·cases h3
    ·split at h3
     ·cases h3
     ·first |(rw[agz ⟨e3,e4⟩]at h3;cases h3) |(split at h3 <;> first |(cases h3;done) |(rename_i g;exact ag5 ⟨e3,e4⟩ g))
theorem yj{ts:LL}(q:Rat):sX (qE q:Et ts)=sh 0 (q:Rat):=Bn _ _
def L8(l:Li)(a:As)(i:Int)(j0:Jt)(x:Tn):Pq:=uo (((1:Int):Rat),0) ((qE (jS x.half x.t.q),qE (jO x.half x.t.q)):P2 (llq a.rs)) (aO l j0 i) (aN l a j0 i)
theorem WR{E:Nat}{l:Li}{k:Int}{a:As}{own:Bool}{n:Nat}{g:Gr}(h:DyOk E l k a own n g)(hk:g.kind=0):∃i z0 d j0,g=⟨0,[i],[z0],d⟩/\l.jo[z0.toNat]?=some j0/\PinP E l a j0 i:=by
 have hd:=h.dy;cases hd with
 |rrr _ _ _ _ _ _ _=>exact ag5 hk (by simp)
 |pr _ _ _=>exact ag5 hk (by simp)
 |rp _ _ _=>exact ag5 hk (by simp)
 | @drv b z d j x t d0 hd hb=>exact⟨b,z,d,j,rfl,t.hj,h.pin rfl t (by simp) (by simp)⟩
theorem AL.sma{a:As}(al:AL a)(l:Li)(k:Int)(own:Bool):Cg 3900000 l k a own:=fun b _ _ p hp x hx=>(al.nr p (afl hp) x hx).mono oz
def wz(m:Mt)(hs:List Hd):List Sv:=(List.range m.ps.length).map (Np m hs)
def Aw(l:Li)(a:As)(i k:Int)(j0 j1 j2:Jt):List Sv :=
  if nC [iC (aO l j2 i) (aO l j0 i),iC (aO l j2 k) (aO l j1 k)]=true then[]
  else if ze (aN l a j0 i) (aN l a j1 k) (qE (kZ (aO l j2 i) (aO l j0 i))) (qE (kZ (aO l j2 k) (aO l j1 k)))≠0 then[]
  else wz (rq (aN l a j0 i) (aN l a j1 k) (qE (kZ (aO l j2 i) (aO l j0 i))) (qE (kZ (aO l j2 k) (aO l j1 k)))) [⟨aO l j0 i,P2.l (aN l a j0 i),aO l j2 i⟩,⟨aO l j1 k,P2.l (aN l a j1 k),aO l j2 k⟩]
def Dy(l:Li)(a:As)(i:Int)(j0 j:Jt):List Sv :=
  if nC [iC (aJ l i j.point) (aO l j0 i)]=true then[]
  else if wB (bb l a j.b j.on) (bb l a j.b j.to)≠0 then[]
  else wz (sa (bb l a j.b j.on) (bb l a j.b j.to) (aN l a j0 i) (qE (kZ (aJ l i j.point) (aO l j0 i)))) [⟨aO l j0 i,P2.l (aN l a j0 i),aJ l i j.point⟩]
def xZ(ts:LL)(R:Rp)(qs:LL):List Sv:=(List.range qs.length).map (Br ts R qs)
def A6(l:Li)(a:As)(i:Int)(j0 j:Jt):List Sv :=
  if aC (jZ l a i j0 j)=0/\aC (qE (lH l i j0 j):Et (llq a.rs))=0 then[]
  else if aC (jw l a i j0 j)<0 then[]
  else if 0<aC (jw l a i j0 j)then xZ (ch (llq a.rs) (sX (jw l a i j0 j))) (x7 l a i j0 j) [oG (llq a.rs).length,sX (-rv (jw l a i j0 j))]
  else xZ (llq a.rs) (x7 l a i j0 j) [[]]
def EP(l:Li)(a:As)(i:Int)(j0:Jt)(x:Tn):List Sv:=if x.err≠0 then[]else[⟨llq a.rs,[L8 l a i j0 x],1⟩]
def v6(l:Li)(a:As)(g:Gr)(x:Tn):List Sv :=
  if g.kind=0 then EP l a (ba g 0) (an l g 0) x
  else if g.kind=1 then Aw l a (ba g 0) (ba g 1) (an l g 0) (an l g 1) (an l g 2)
  else if g.kind=2 then Dy l a (ba g 0) (an l g 0) (an l g 1)
  else A6 l a (ba g 0) (an l g 0) (an l g 1)
section
variable{n N:Nat}{r r':(k:Nat)->T k}
end
section
variable{ts:LL}(X:Et ts)
end
theorem Tf{ts:LL}:(qE ((1:Int):Rat):Et ts)=1:=rfl
section
variable{ts:LL}
theorem Bq(r:(k:Nat)->T k):∀(n:Nat)(q:Rat),T.inv r n (T.ofQ n q)=T.ofQ n (1/q)
 |0,q=>rfl
 |n+1,q=>by
  show T.inv r (n+1) (T.ofQ n q,T.zero n)=(T.ofQ n (1/q),T.zero n);rw[T.inv_low,Bq r n q]
theorem Om:(iE (qE 1):Et ts)=1:=by
 show T.inv (am ts) ts.length (T.ofQ ts.length 1)=_;rw[Bq,show(1:Rat)/1=((1:Nat):Rat) by decide +kernel];rfl
end
theorem Ci(r:(k:Nat)->T k)(q:Rat):∀(k:Nat){a c:List Rat},(∀i,i<2^k->c.getD i 0=q*a.getD i 0)->ae k c=T.mul r k (T.ofQ k q) (ae k a)
 |0,a,c,h=>h 0 (by decide)
 |k+1,a,c,h=>by
  have h1:=Ci r q k (a:=a.take (2^k)) (c:=c.take (2^k)) (fun i hi=>by rw[kJ,kJ,agz hi,agz hi];exact h i (by rw[acq];omega));have h2:=Ci r q k (a:=a.drop (2^k)) (c:=c.drop (2^k)) (fun i hi=>by rw[kA,kA];exact h _ (by rw[acq];omega));show(ae k (c.take (2^k)),ae k (c.drop (2^k)))=T.mul r (k+1) (T.ofQ k q,T.zero k) (ae k (a.take (2^k)),ae k (a.drop (2^k)));rw[T.mul_comm,T.mul_half,h1,h2,T.mul_comm r k (ae k (a.take _)),T.mul_comm r k (ae k (a.drop _))]
section
variable{ts:LL}
def Bz(e:Nat)(x:Et ts):Prop:=Nm ts.length e (sX x)
theorem Bz.mono{e f:Nat}{x:Et ts}(h:Bz e x)(hf:e<=f):Bz f x:=Nm.mono h hf
theorem Bz.add{e f:Nat}{x y:Et ts}(hx:Bz e x)(hy:Bz f y):Bz (e+f+1) (x+y):=Nm.addT hx hy
theorem Bz.sub{e f:Nat}{x y:Et ts}(hx:Bz e x)(hy:Bz f y):Bz (e+f+1) (x-y):=Nm.subT hx hy
theorem Bz.neg{e:Nat}{x:Et ts}(hx:Bz e x):Bz e (-x):=Nm.negT hx
theorem Bz.mul{r K e f:Nat}(tw:Tw ts r)(hK:eB r ts.length<=K){x y:Et ts}(hx:Bz e x)(hy:Bz f y):Bz (e+f+K) (x*y):=by
 have h:=Nm.mul tw rfl hx hy;have e1:∀z:Et ts,ae ts.length (sX z)=z:=fun z=>bK _ _
 rw[e1,e1]at h;exact Nm.mono h (Nat.add_le_add_left hK _)
theorem Bz.q{e:Nat}{q:Rat}(h5:ts.length<=5)(hq:Cb e [q]):Bz e (qE q:Et ts):=by
 unfold Bz;rw[yj];exact Nm.ofQ h5 hq
theorem Bz.qm{e f:Nat}{q:Rat}{x:Et ts}(hq:Cb e [q])(hx:Bz f x):Bz (e+f) (qE q*x):=by
 obtain⟨D,N,h1,h2,h3⟩:=hq;obtain⟨D',N',k1,k2,k3⟩:=hx.cb;obtain⟨n,hn,hN⟩:=h1.2 q (adc.2 rfl);have hx2:ae ts.length (sX x)=x:=bK _ _
 have hd:ae ts.length ((sX x).map (q*·))=T.mul (am ts) ts.length (T.ofQ ts.length q) (ae ts.length (sX x)):=Ci _ q _ (fun i _=>by
  rw[afn,afu,afn];cases(sX x)[i]? with
  |none=>exact(Rat.mul_zero q).symm
  |some v=>rfl)
 rw[hx2]at hd
 have hc:Cb (e+f) ((sX x).map (q*·)):=by
  refine⟨D*D',N*N',⟨abt h1.1 k1.1,?_⟩,?_,?_⟩
  ·intro z hz;obtain⟨y,hy,rfl⟩:=ac6.1 hz;obtain⟨m,hm,hM⟩:=k1.2 y hy;refine⟨n*m,?_,?_⟩
   ·rw[Int.natCast_mul,aeo,aeo,<- hn,<- hm];grind
   ·rw[aee];exact abx hN hM
  ·rw[agk];exact abx h2 k2
  ·rw[agk];exact abx h3 k3
 have hnl:Nl ts.length ((sX x).map (q*·)):=by
  rcases hx.nl with h |⟨j,hj,h⟩
  ·exact .inl (by rw[h];rfl)
  ·exact .inr ⟨j,hj,by rw[afm];exact h⟩
 refine⟨hx.five,eS _ _,?_⟩;have:=hc.sh hnl;rw[hd]at this;exact this
theorem Bz.mq{e f:Nat}{q:Rat}{x:Et ts}(hx:Bz f x)(hq:Cb e [q]):Bz (e+f) (x*qE q):=by
 rw[show x*qE q=qE q*x by grind];exact hx.qm hq
theorem Bz.iq{e f:Nat}{q:Rat}{x:Et ts}(hx:Bz f x)(hq:Cb e [q])(h0:q≠0):Bz (e+f) (x*iE (qE q)):=by
 have h:(iE (qE q):Et ts)=qE (1/q):=Bq _ _ q;rw[h];exact hx.mq (hq.inv1 h0)
theorem Bz.iv{r f j I:Nat}{y:Et ts}(tw:Tw ts r)(hy:Bz f y)(nb:Nl j (sX y))(hj:j<=ts.length)(h0:aC y≠0)(hI:iB r j f<=I)(hs:I<=50000000000):Bz I (iE y):=by
 have hf:=nG r j f;have hl:=dl ts.length;have e1:ae ts.length (sX y)=y:=bK _ _;obtain⟨L,_,k2,k3,k4⟩:=DU (b:=sX y) tw hy hj nb (by rw[e1];exact h0) oz oz;rw[e1]at k4;have:=k3.sh k2;rw[k4]at this;exact⟨tw.five,eS _ _,this.mono hI⟩
structure Pz(n ec ex:Nat)(p:Pq):Prop where
  c:Nm n ec p.c
  s:Nm n ec p.s
  x:Nm n ex p.x
  y:Nm n ex p.y
theorem Pz.mono{n n' a b a' b':Nat}{p:Pq}(h:Pz n a b p)(hn:n<=n')(h5:n'<=5)(ha:a<=a')(hb:b<=b'):Pz n' a' b' p :=
 ⟨⟨h5,h.c.nl.mono hn,h.c.cb.mono ha⟩,⟨h5,h.s.nl.mono hn,h.s.cb.mono ha⟩,⟨h5,h.x.nl.mono hn,h.x.cb.mono hb⟩,⟨h5,h.y.nl.mono hn,h.y.cb.mono hb⟩⟩
theorem Gh{s t e f:Nat}{u p:Rat×Rat}{w o:P2 ts}(hu:Sm t u)(hp:Sm s p)(h0:fR u u≠0)(w1:Bz e w.1)(w2:Bz e w.2)(o1:Bz f o.1)(o2:Bz f o.2) :
  Pz ts.length (2*e+6*t+2) (f+4*e+12*t+2*s+6) (uo u w p o):=by
 have u1:=Cb.one hu.x;have u2:=Cb.one hu.y;have p1:=Cb.one hp.x;have p2:=Cb.one hp.y;have n:=Cb.one (hu.dot hu);have c:=(((w1.qm u1).add (w2.qm u2)).iq n h0).mono (f:=2*e+6*t+2) oz;have d:=(((w2.qm u1).sub (w1.qm u2)).iq n h0).mono (f:=2*e+6*t+2) oz;exact⟨c,d,(o1.sub ((c.mq p1).sub (d.mq p2))).mono oz,(o2.sub ((d.mq p1).add (c.mq p2))).mono oz⟩
theorem qO{a:List Rat}{e:Nat}(h:Nm ts.length e a):Bz e (dE ts a):=by
 have:=h.cb.sh h.nl;exact⟨h.five,eS _ _,this⟩
theorem RJ{s f:Nat}{p:Rat×Rat}{c d:Rat}{o:P2 ts}{g:Nat}(hc:Cb g [c])(hd:Cb g [d])(hp:Sm s p)(h5:ts.length<=5)(o1:Bz f o.1)(o2:Bz f o.2) :
  Pz ts.length (g+1) (f+2*g+2*s+4) (uo (((1:Int):Rat),0) ((qE c,qE d):P2 ts) p o):=by
 have e0:∀x:Et ts,(qE ((1:Int):Rat):Et ts)*x=x:=fun x=>by
  have:(qE ((1:Int):Rat):Et ts)=1:=rfl;rw[this];grind
 have e1:∀x:Et ts,(qE (0:Rat):Et ts)*x=0:=fun x=>by
  have:(qE (0:Rat):Et ts)=0:=rfl;rw[this];grind
 have e2:(iE (CY (((1:Int):Rat),0)):Et ts)=1:=by
  show iE (qE (fR (((1:Int):Rat),0) (((1:Int):Rat),0)))=_;rw[show fR (((1:Int):Rat),(0:Rat)) (((1:Int):Rat),(0:Rat))=1 by decide +kernel];exact Om
 have ec:qK (((1:Int):Rat),0) ((qE c,qE d):P2 ts)=qE c:=by
  unfold qK;rw[e0,e1,e2];grind
 have ed:r6 (((1:Int):Rat),0) ((qE c,qE d):P2 ts)=qE d:=by
  unfold r6;rw[e0,e1,e2];grind
 have p1:=Cb.one hp.x;have p2:=Cb.one hp.y;have c1:Bz g (qE c:Et ts):=Bz.q h5 hc;have d1:Bz g (qE d:Et ts):=Bz.q h5 hd;refine⟨?_,?_,?_,?_⟩
 ·show Bz _ (qK _ _);rw[ec];exact c1.mono oz
 ·show Bz _ (r6 _ _);rw[ed];exact d1.mono oz
 ·show Bz _ (A9 _ _ p o);unfold A9;rw[ec,ed];exact(o1.sub ((c1.mq p1).sub (d1.mq p2))).mono oz
 ·show Bz _ (AO _ _ p o);unfold AO;rw[ec,ed];exact(o2.sub ((d1.mq p1).add (c1.mq p2))).mono oz
structure Xz(ts:LL)(r X:Nat)(us:LL):Prop where
  tw:Tw us (r+X)
  up:ts.length<=us.length
  ln:us.length<=ts.length+1
theorem B5{r X:Nat}(tw:Tw ts r)(hx:r+X<=5000000000):Xz ts r X ts:=⟨⟨tw.three,tw.len,tw.pos,tw.rb.mono oz,hx⟩,afq _,by omega⟩
theorem xU{r X:Nat}(tw:Tw ts r)(hn:ts.length<=1)(hx:r+X<=5000000000){x:Et ts}(h:Bz X x)(hs:0<=aC x):Xz ts r X (ch ts (sX x)) :=
 ⟨abf tw oz h hx (by rw[show ae ts.length (sX x)=x from bK _ _];exact hs),by rw[mg];omega,by rw[mg];omega⟩
theorem Bz.up{e:Nat}{X x:Et ts}(h:Bz e x)(hn:ts.length<=1):Bz e (iw X x):=by
 have h1:Nm (ch ts (sX X)).length e (sX x):=M8 h oz;exact qO h1
structure Szs(n r a b X K K' I J:Nat):Prop where
  n1:n<=1
  hK:eB r n<=K
  hX:24*a+8*K+5*b+23<=X
  hL:r+X<=5000000000
  hK':eB (r+X) (n+1)<=K'
  hI:iB r n (8*a+2*K+8)<=I
  hJ:iB (r+X) n (8*a+2*K+8)<=J
  hJ':J<=50000000000
  kk:K<=K'
  ij:I<=J
theorem Szs.kx{n r a b X K K' I J:Nat}(h:Szs n r a b X K K' I J){us:LL}(hu:us.length<=n+1):eB (r+X) us.length<=K':=af2 (jX _ hu) h.hK'
section
variable{r a b X K K' I J:Nat}(Z:Szs ts.length r a b X K K' I J)(tw:Tw ts r)
include Z tw
theorem EE{p q:P2 ts}(p1:Bz a p.1)(p2:Bz a p.2)(q1:Bz a q.1)(q2:Bz a q.2):Bz (8*a+2*K+5) (aX (ah q p) (ah q p)):=by
 have v1:=q1.sub p1;have v2:=q2.sub p2;exact((v1.mul tw Z.hK v1).add (v2.mul tw Z.hK v2)).mono oz
theorem Am{y:Et ts}(hy:Bz (8*a+2*K+8) y)(h0:aC y≠0):Bz I (iE y) :=
 hy.iv tw (eS _ _) (afq _) h0 Z.hI (by have:=Z.ij;have:=Z.hJ';omega)
theorem At{x y:Et ts}(hx:Bz X x)(hs:0<=aC x)(hy:Bz (8*a+2*K+8) y)(h0:aC y≠0):Bz J (iE (iw x y)):=by
 have E:=xU tw Z.n1 Z.hL hx hs
 have e1:sX (iw x y)=sX y:=by
  have:=(Re (X:=x) Z.n1 _ y hy).2;exact this
 refine(hy.up Z.n1).iv E.tw (j:=ts.length) (by rw[e1];exact eS _ _) E.up (by rw[Sr];exact h0) Z.hJ Z.hJ'
theorem Cr{x:Et ts}:Bz 1 (dE (ch ts (sX x)) (oG ts.length)):=by have _:=tw;exact qO (aa9 (by have:=Z.n1;omega))
theorem Oe{p q:P2 ts}{z z2:Et ts}(p1:Bz a p.1)(p2:Bz a p.2)(q1:Bz a q.1)(q2:Bz a q.2)(hz:Bz b z)(hz2:Bz b z2)(h0:ze p q z z2=0) :
  Xz ts r X (rq p q z z2).ts/\∀m∈(rq p q z z2).ps,Nm (rq p q z z2).ts.length (13*a+2*b+5*K+2*K'+I+J+20) m.1/\Nm (rq p q z z2).ts.length (13*a+2*b+5*K+2*K'+I+J+20) m.2:=by
 have hn:=Z.n1;have hkk:=Z.kk;have hd:Bz (8*a+2*K+5) (fE p q):=EE Z tw (p:=q) (q:=p) q1 q2 p1 p2;have hm:=(hz.add hd).sub hz2;have q4:Cb 3 [((4:Int):Rat)]:=Cb.int (z:=4) (by decide);have q2':Cb 2 [((2:Int):Rat)]:=Cb.int (z:=2) (by decide);have qm1:Cb 1 [((-1:Int):Rat)]:=Cb.int (z:=-1) (by decide)
 have hX:Bz X (ir p z q z2):=by
  have h:=((hz.mul tw Z.hK hd).qm q4).sub (hm.mul tw Z.hK hm);have h2:=h.mono (f:=X) (by have:=Z.hX;omega);exact h2
 have same:=B5 (X:=X) tw Z.hL;have v1:=q1.sub p1;have v2:=q2.sub p2;unfold ze Ki at h0;unfold rq Ky
 by_cases hs:aC (fE p q)=0
 ·rw[agz hs]at h0 ⊢
  by_cases hz0:aC (z-z2)≠0
  ·rw[agz hz0];exact⟨same,fun m hm=>by cases hm⟩
  ·rw[agy hz0]
   by_cases hp:0<aC z
   ·rw[agz ⟨afk.1 hz0,hp⟩]at h0;cases h0
   ·rw[agy hp]
    have n0:Bz 0 (0:Et ts):=by
     have:=Bz.q (ts:=ts) (e:=0) (q:=0) oz (Cb.int (z:=0) (by decide));exact this
    refine⟨same,uc ⟨?_,?_⟩⟩
    ·exact(p1.add (n0.mul tw Z.hK p1)).mono (f:=13*a+2*b+5*K+2*K'+I+J+20) oz
    ·exact(p2.add (n0.mul tw Z.hK p2)).mono (f:=13*a+2*b+5*K+2*K'+I+J+20) oz
 ·rw[agy hs];have ht0:aC (uL (fE p q))≠0:=by rw[Vm tw]; exact hs
  have ht:Bz (8*a+2*K+8) (uL (fE p q)):=Bz.mono (e:=2+(8*a+2*K+5)) (hd.qm q2') oz
  by_cases hx0:aC (ir p z q z2)<0
  ·rw[agz hx0];exact⟨same,fun m hm=>by cases hm⟩
  ·rw[agy hx0];have hk:=hm.mul tw Z.hK (Am Z tw ht ht0);have f1:Bz (11*a+2*b+4*K+I+10) (vh p q z z2).1:=(p1.add (hk.mul tw Z.hK v1)).mono oz;have f2:Bz (11*a+2*b+4*K+I+10) (vh p q z z2).2:=(p2.add (hk.mul tw Z.hK v2)).mono oz
   by_cases hx1:aC (ir p z q z2)=0
   ·rw[agz hx1];exact⟨same,uc ⟨f1.mono oz,f2.mono oz⟩⟩
   ·rw[agy hx1];have hpos:0<=aC (ir p z q z2):=by omega
    have E:=xU tw hn Z.hL hX hpos;have hkx:=Z.kx E.ln;have s1:=(Cr Z tw (x:=ir p z q z2)).mul E.tw hkx (At Z tw hX hpos ht ht0);have s2:=s1.qm qm1;have w1:=(v2.up (X:=ir p z q z2) hn).qm qm1;have w2:=v1.up (X:=ir p z q z2) hn;have g1:=f1.up (X:=ir p z q z2) hn;have g2:=f2.up (X:=ir p z q z2) hn;exact⟨E,AH ⟨(g1.add (s1.mul E.tw hkx w1)).mono oz,(g2.add (s1.mul E.tw hkx w2)).mono oz⟩ ⟨(g1.add (s2.mul E.tw hkx w1)).mono oz,(g2.add (s2.mul E.tw hkx w2)).mono oz⟩⟩
theorem Zv{p q o:P2 ts}{z:Et ts}(p1:Bz a p.1)(p2:Bz a p.2)(q1:Bz a q.1)(q2:Bz a q.2)(o1:Bz a o.1)(o2:Bz a o.2)(hz:Bz b z)(h0:wB p q=0) :
  Xz ts r X (sa p q o z).ts/\∀m∈(sa p q o z).ps,Nm (sa p q o z).ts.length (13*a+2*b+5*K+2*K'+I+J+20) m.1/\Nm (sa p q o z).ts.length (13*a+2*b+5*K+2*K'+I+J+20) m.2:=by
 have hn:=Z.n1;have hkk:=Z.kk;have hS:=(EE Z tw p1 p2 q1 q2)
 have v1:=q1.sub p1;have v2:=q2.sub p2;have w1:=o1.sub p1;have w2:=o2.sub p2;have hE:Bz (8*a+2*K+5) (w6 p q o):=((v1.mul tw Z.hK w1).add (v2.mul tw Z.hK w2)).mono oz;have hC:Bz (8*a+2*K+5) (De p q o):=((v1.mul tw Z.hK w2).sub (v2.mul tw Z.hK w1)).mono oz;have hX:Bz X (eE p q o z):=((hS.mul tw Z.hK hz).sub (hC.mul tw Z.hK hC)).mono (by have:=Z.hX;omega);have same:=B5 (X:=X) tw Z.hL;unfold wB at h0;unfold sa
 by_cases hs:aC (o6 p q)=0
 ·rw[agz hs]at h0;cases h0
 ·rw[agy hs]
  by_cases h1:aC (eE p q o z)=-1
  ·rw[agz h1];exact⟨same,fun m hm=>by cases hm⟩
  ·rw[agy h1]
   by_cases h2:aC (eE p q o z)=0
   ·rw[agz h2];have hk:=hE.mul tw Z.hK (Am Z tw (hS.mono oz) hs);exact⟨same,uc ⟨(p1.add (hk.mul tw Z.hK v1)).mono (f:=13*a+2*b+5*K+2*K'+I+J+20) oz,(p2.add (hk.mul tw Z.hK v2)).mono (f:=13*a+2*b+5*K+2*K'+I+J+20) oz⟩⟩
   ·rw[agy h2]
    have hpos:0<=aC (eE p q o z):=by
     have:=T.sgn_cases (am ts) ts.length (eE p q o z);have e:aC (eE p q o z)=T.sgn (am ts) ts.length (eE p q o z):=rfl;omega
    have E:=xU tw hn Z.hL hX hpos;have hkx:=Z.kx E.ln;have hi:=At Z tw hX hpos (hS.mono oz) hs;have rt:=Cr Z tw (x:=eE p q o z);have k1:=((hE.up (X:=eE p q o z) hn).add rt).mul E.tw hkx hi;have k2:=((hE.up (X:=eE p q o z) hn).sub rt).mul E.tw hkx hi;have g1:=p1.up (X:=eE p q o z) hn;have g2:=p2.up (X:=eE p q o z) hn;have u1:=v1.up (X:=eE p q o z) hn;have u2:=v2.up (X:=eE p q o z) hn;exact⟨E,AH ⟨(g1.add (k1.mul E.tw hkx u1)).mono oz,(g2.add (k1.mul E.tw hkx u2)).mono oz⟩ ⟨(g1.add (k2.mul E.tw hkx u1)).mono oz,(g2.add (k2.mul E.tw hkx u2)).mono oz⟩⟩
end
end
def Cs(s:Nat)(l:Li):Prop:=∀b∈l.bo,∀m∈b.pts,Qb s m.x.q/\Qb s m.y.q
section
variable{s:Nat}{l:Li}(hl:l.ok)(hli:ao l=0)(hcs:Cs s l)
include hl hli hcs
theorem vK{body pt:Int}(h1:aT body l.bo.length=true)(h2:aT pt (bW l body).length=true):Sm s (aJ l body pt):=by
 obtain⟨n,k,bd,m,h⟩:=oV hl hli h1 h2;obtain⟨c1,c2⟩:=hcs bd (afl h.gbd) m (afl h.gm);rw[h.ex,bq]at c1;rw[h.ey,bq]at c2;exact⟨c1,c2⟩
theorem pa{i:Nat}{j:Jt}(hj:l.jo[i]?=some j){b:Int}(h:j.a=b\/j.b=b):Sm s (aO l j b):=by
 obtain⟨i1,i2,i3,i4,_⟩:=bS hli hj;unfold aO
 by_cases e:j.a=b
 ·rw[agz e];subst e;exact vK hl hli hcs i1 i3
 ·rw[agy e];rcases h with h |h
  ·exact ag5 h e
  ·subst h;exact vK hl hli hcs i2 i4
theorem v7{E r K:Nat}{a:As}(al:AB a)(hc:aZ a.rs=0)(tw:Tw (llq a.rs) r)(hK:eB r (llq a.rs).length<=K){body pt:Int}(h1:aT body l.bo.length=true)(h2:aT pt (bW l body).length=true)(hb:Pd E a body) :
  Bz (3*E+2*s+2*K+10) (bb l a body pt).1/\Bz (3*E+2*s+2*K+10) (bb l a body pt).2:=by
 obtain⟨n,k,bd,m,b,hp⟩:=uq hl hli al hc h1 h2 hb;obtain⟨c1,c2⟩:=hcs bd (afl hp.mp.gbd) m (afl hp.mp.gm);have h:=AX tw hp.ok c1 c2;have hk:kB r (llq a.rs).length<=K:=hK;unfold bb Bz;rw[hp.eq];exact⟨h.1.mono oz,h.2.mono oz⟩
theorem uf{E r K:Nat}{a:As}(al:AB a)(hc:aZ a.rs=0)(tw:Tw (llq a.rs) r)(hK:eB r (llq a.rs).length<=K){i:Nat}{j:Jt}(hj:l.jo[i]?=some j){b:Int}(h:PinP E l a j b) :
  Bz (3*E+2*s+2*K+10) (aN l a j b).1/\Bz (3*E+2*s+2*K+10) (aN l a j b).2:=by
 obtain⟨i1,i2,i3,i4,_⟩:=bS hli hj;unfold aN;rcases h.tie with⟨e,hb⟩ |⟨e,e2,hb⟩
 ·rw[agz e];exact v7 hl hli hcs al hc tw hK i2 i4 hb
 ·rw[agy e];exact v7 hl hli hcs al hc tw hK i1 i3 hb
end
theorem Bz.upX{ts us:LL}{e:Nat}{x:Et ts}(h:Bz e x)(h1:ts.length<=us.length)(h5:us.length<=5):Bz e (dE us (sX x)):=qO ⟨h5,Nl.mono h.nl h1,h.cb⟩
theorem Bj{s:Nat}{p q:Rat×Rat}(hp:Sm s p)(hq:Sm s q):Cb (8*s+5) [kZ p q]:=by
 have h:=(hp.sub hq).dot (hp.sub hq);exact Cb.one (h.mono oz)
abbrev wZ(a b K K' I J:Nat):Nat:=14*a+3*b+5*K+3*K'+I+J+25
abbrev oZ(s a b K K' I J:Nat):Nat:=a+4*wZ a b K K' I J+26*s+18
theorem Ck{n a b ec ex e:Nat}{p:Pq}(h:Pz n ec ex p)(h1:ec<=e)(h2:ex<=e):Pq.ok n e p:=⟨h.c.mono h1,h.s.mono h1,h.x.mono h2,h.y.mono h2⟩
section
variable{ts:LL}{r a b X K K' I J:Nat}(Z:Szs ts.length r a b X K K' I J)(tw:Tw ts r)
include Z tw
theorem Fb{s:Nat}{m:Mt}(hx:Xz ts r X m.ts)(hm:∀x∈m.ps,Nm m.ts.length (13*a+2*b+5*K+2*K'+I+J+20) x.1/\Nm m.ts.length (13*a+2*b+5*K+2*K'+I+J+20) x.2){hs:List Hd}
  (hh:∀h∈hs,Sm s h.p/\Sm s h.c/\fR (iC h.c h.p) (iC h.c h.p)≠0/\∃o:P2 ts,h.a=P2.l o/\Bz a o.1/\Bz a o.2) :
  ∀sv∈wz m hs,Xz ts r X sv.ts/\∀p∈sv.ps,Pq.ok sv.ts.length (oZ s a b K K' I J) p:=by
 have _:=Z;have _:=tw;intro sv h1;unfold wz at h1;obtain⟨i,hi,rfl⟩:=ac6.1 h1;obtain⟨x,hxx⟩:=ay (ac5.1 hi);obtain⟨n1,n2⟩:=hm x (afl hxx);refine⟨hx,fun p hp=>?_⟩;unfold Np at hp;rw[ax hxx]at hp;obtain⟨h,h2,rfl⟩:=ac6.1 hp;obtain⟨hp1,hc1,h0,o,ea,o1,o2⟩:=hh h h2;have h5:=hx.tw.five;have u1:=o1.upX hx.up h5;have u2:=o2.upX hx.up h5;have w1:=qO n1;have w2:=qO n2;have e1:h.a.1=sX o.1:=by rw[ea]
 have e2:h.a.2=sX o.2:=by rw[ea]
 have z:=Gh (ts:=m.ts) (u:=iC h.c h.p) (p:=h.p) (w:=wG m.ts h x) (o:=zE m.ts h) (e:=13*a+2*b+5*K+2*K'+I+J+20+a+1) (f:=a) (hc1.sub hp1) hp1 h0
  (by unfold wG;rw[e1];exact w1.sub u1) (by unfold wG;rw[e2];exact w2.sub u2) (by unfold zE;rw[e1];exact u1) (by unfold zE;rw[e2];exact u2)
 exact Ck (a:=a) (b:=b) z (by show _<=a+4*(14*a+3*b+5*K+3*K'+I+J+25)+26*s+18;omega) (by show _<=a+4*(14*a+3*b+5*K+3*K'+I+J+25)+26*s+18;omega)
theorem NI{s:Nat}{us:LL}(hx:Xz ts r X us){R:Rp}{q:List Rat}(hv:Sm (2*s+1) R.v)(hp:Sm s R.p)(h0:fR R.v R.v≠0)(hq:Bz 1 (dE us q))(w1:Bz (2*a+1) (dE us R.w.1))(w2:Bz (2*a+1) (dE us R.w.2))(hh:Bz b (dE us R.h))
  (hd:Bz J (iE (dE us R.d))) (a1:Bz a (dE us R.a.1)) (a2:Bz a (dE us R.a.2)):Pq.ok us.length (oZ s a b K K' I J) (C1 us R q):=by
 have _:=tw;have hkx:=Z.kx hx.ln;have x1:=(((hq.mul hx.tw hkx w1).sub (hh.mul hx.tw hkx w2.neg)).mul hx.tw hkx hd)
 have x2:=(((hq.mul hx.tw hkx w2).sub (hh.mul hx.tw hkx w1)).mul hx.tw hkx hd)
 have z:=Gh (ts:=us) (u:=R.v) (p:=R.p) (w:=Lp us q R.h R.d R.w) (o:=(dE us R.a.1,dE us R.a.2)) (e:=wZ a b K K' I J) (f:=a) hv hp h0
  (x1.mono (by show _<=14*a+3*b+5*K+3*K'+I+J+25;omega)) (x2.mono (by show _<=14*a+3*b+5*K+3*K'+I+J+25;omega)) a1 a2
 exact Ck (a:=a) (b:=b) z (by show _<=a+4*(14*a+3*b+5*K+3*K'+I+J+25)+26*s+18;simp only[wZ];omega) (by show _<=a+4*(14*a+3*b+5*K+3*K'+I+J+25)+26*s+18;simp only[wZ];omega)
end
section
variable{s r b X K K' I J E:Nat}{l:Li}{a:As}(D:DyR l a)(hn:(llq a.rs).length<=1)(hcs:Cs s l)(tw:Tw (llq a.rs) r)
  (Z:Szs (llq a.rs).length r (3*E+2*s+2*K+10) b X K K' I J) (hb:8*s+5<=b)
include D hn hcs tw Z hb
theorem NW{g:Gr}{i k z0 z1 z2:Int}{j0 j1 j2:Jt}(P:RrrP E l a g i k z0 z1 z2 j0 j1 j2) :
  ∀sv∈Aw l a i k j0 j1 j2,Xz (llq a.rs) r X sv.ts/\∀p∈sv.ps,Pq.ok sv.ts.length (oZ s (3*E+2*s+2*K+10) b K K' I J) p:=by
 have _:=hn;have hq0:=pa D.hl D.li hcs P.h0 P.p0.or;have hq1:=pa D.hl D.li hcs P.h1 P.p1.or;have hq2:=pa D.hl D.li hcs P.h2 P.t1;have hq3:=pa D.hl D.li hcs P.h2 P.t2;obtain⟨y1,y2⟩:=uf D.hl D.li hcs D.al D.hc tw Z.hK P.h0 P.p0;obtain⟨y3,y4⟩:=uf D.hl D.li hcs D.al D.hc tw Z.hK P.h1 P.p1;have z1:Bz b (qE (kZ (aO l j2 i) (aO l j0 i)):Et (llq a.rs)):=Bz.q tw.five ((Bj hq2 hq0).mono hb);have z2:Bz b (qE (kZ (aO l j2 k) (aO l j1 k)):Et (llq a.rs)):=Bz.q tw.five ((Bj hq3 hq1).mono hb);unfold Aw
 by_cases h1:nC [iC (aO l j2 i) (aO l j0 i),iC (aO l j2 k) (aO l j1 k)]=true
 ·rw[agz h1];intro sv h;cases h
 ·rw[agy h1];obtain⟨w1,w2⟩:=Qk (aev.2 h1)
  by_cases h2:ze (aN l a j0 i) (aN l a j1 k) (qE (kZ (aO l j2 i) (aO l j0 i))) (qE (kZ (aO l j2 k) (aO l j1 k)))≠0
  ·rw[agz h2];intro sv h;cases h
  ·rw[agy h2];obtain⟨hx,hm⟩:=Oe Z tw y1 y2 y3 y4 z1 z2 (afk.1 h2);exact Fb Z tw hx hm (AH ⟨hq0,hq2,w1,_,rfl,y1,y2⟩ ⟨hq1,hq3,w2,_,rfl,y3,y4⟩)
theorem Pi{g:Gr}{i z0 z1:Int}{j0 j:Jt}(P:SlP E l a g 2 i z0 z1 j0 j)(ha:j.a=i)(hbd:Pd E a j.b) :
  ∀sv∈Dy l a i j0 j,Xz (llq a.rs) r X sv.ts/\∀p∈sv.ps,Pq.ok sv.ts.length (oZ s (3*E+2*s+2*K+10) b K K' I J) p:=by
 have _:=hn;obtain⟨i1,i2,i3,i4,i5⟩:=bS D.li P.h1;have hq2:Sm s (aJ l i j.point):=by rw[<- ha];exact vK D.hl D.li hcs i1 i3
 have hq0:=pa D.hl D.li hcs P.h0 P.p0.or;obtain⟨y1,y2⟩:=uf D.hl D.li hcs D.al D.hc tw Z.hK P.h0 P.p0;obtain⟨y3,y4⟩:=v7 D.hl D.li hcs D.al D.hc tw Z.hK i2 i4 hbd;obtain⟨y5,y6⟩:=v7 D.hl D.li hcs D.al D.hc tw Z.hK i2 (i5 P.hk) hbd;have z1:Bz b (qE (kZ (aJ l i j.point) (aO l j0 i)):Et (llq a.rs)):=Bz.q tw.five ((Bj hq2 hq0).mono hb);unfold Dy
 by_cases h1:nC [iC (aJ l i j.point) (aO l j0 i)]=true
 ·rw[agz h1];intro sv h;cases h
 ·rw[agy h1];have w1:=Yy (aev.2 h1)
  by_cases h2:wB (bb l a j.b j.on) (bb l a j.b j.to)≠0
  ·rw[agz h2];intro sv h;cases h
  ·rw[agy h2];obtain⟨hx,hm⟩:=Zv Z tw y3 y4 y5 y6 y1 y2 z1 (afk.1 h2);exact Fb Z tw hx hm (uc ⟨hq0,hq2,w1,_,rfl,y1,y2⟩)
theorem YQ{g:Gr}{i z0 z1:Int}{j0 j:Jt}(P:SlP E l a g 3 i z0 z1 j0 j)(hj:j.b=i)(hbd:Pd E a j.a) :
  ∀sv∈A6 l a i j0 j,Xz (llq a.rs) r X sv.ts/\∀p∈sv.ps,Pq.ok sv.ts.length (oZ s (3*E+2*s+2*K+10) b K K' I J) p:=by
 obtain⟨i1,i2,i3,i4,i5⟩:=bS D.li P.h1;have hs0:=pa D.hl D.li hcs P.h0 P.p0.or;have hs1:Sm s (aJ l i j.on):=by rw[<- hj];exact vK D.hl D.li hcs i2 i4
 have hs2:Sm s (aJ l i j.to):=by rw[<- hj];exact vK D.hl D.li hcs i2 (i5 P.hk)
 have hv:Sm (2*s+1) (oa l i j):=(hs2.sub hs1).mono oz;have qn:Cb b [zW l i j]:=(Cb.one (hv.dot hv)).mono oz;have qh:Cb b [lH l i j0 j]:=(Cb.one (hv.cross (hs1.sub hs0))).mono oz;obtain⟨o1,o2⟩:=uf D.hl D.li hcs D.al D.hc tw Z.hK P.h0 P.p0;obtain⟨p1,p2⟩:=v7 D.hl D.li hcs D.al D.hc tw Z.hK i1 i3 hbd;have w1:Bz (2*(3*E+2*s+2*K+10)+1) (it l a i j0 j).1:=Bz.mono (p1.sub o1) oz;have w2:Bz (2*(3*E+2*s+2*K+10)+1) (it l a i j0 j).2:=Bz.mono (p2.sub o2) oz;have hd:Bz (8*(3*E+2*s+2*K+10)+2*K+8) (jZ l a i j0 j):=Bz.mono (EE Z tw (p:=aN l a j0 i) (q:=bb l a j.a j.point) o1 o2 p1 p2) oz;have hX:Bz X (jw l a i j0 j):=Bz.mono ((hd.qm qn).sub ((Bz.q tw.five qh).qm qh)) (by have:=Z.hX;omega);have h0:=Ol D.li P.h1 P.hk hj;unfold A6
 by_cases h1:aC (jZ l a i j0 j)=0/\aC (qE (lH l i j0 j):Et (llq a.rs))=0
 ·rw[agz h1];intro sv h;cases h
 ·rw[agy h1]
  by_cases h2:aC (jw l a i j0 j)<0
  ·rw[agz h2];intro sv h;cases h
  ·rw[agy h2];have hd0:aC (jZ l a i j0 j)≠0:=Pt tw h2 h1
   have key:∀us,Xz (llq a.rs) r X us->Bz J (iE (dE us (sX (jZ l a i j0 j))))->∀q,Bz 1 (dE us q)->Pq.ok us.length (oZ s (3*E+2*s+2*K+10) b K K' I J) (C1 us (x7 l a i j0 j) q):=by
    intro us hx hi q hq;have h5:=hx.tw.five
    have hh:Bz b (dE us (sh 0 (lH l i j0 j:Rat))):=by
     have e:dE us (sh 0 (lH l i j0 j:Rat))=qE (lH l i j0 j):=oi _ _;rw[e];exact Bz.q h5 qh
    exact NI Z tw hx (R:=x7 l a i j0 j) hv hs0 h0 hq (w1.upX hx.up h5) (w2.upX hx.up h5) hh hi (o1.upX hx.up h5) (o2.upX hx.up h5)
   by_cases h3:0<aC (jw l a i j0 j)
   ·rw[agz h3];have hx:=xU tw hn Z.hL hX oz;have hi:=At Z tw hX (by omega:0<=aC (jw l a i j0 j)) hd hd0;have rt:=Cr Z tw (x:=jw l a i j0 j);have k:=key _ hx hi;intro sv h;unfold xZ at h;obtain⟨n,hn2,rfl⟩:=ac6.1 h;refine ⟨hx,fun p hp=>?_⟩;unfold Br at hp;rw[adc.1 hp]
    match n,ac5.1 hn2 with
    |0,_=>exact k _ rt
    |1,_ =>
     refine k _ ?_;show Bz 1 (dE _ (sX (-rv (jw l a i j0 j))));have e:dE (ch (llq a.rs) (sX (jw l a i j0 j))) (sX (-rv (jw l a i j0 j)))=-rv (jw l a i j0 j):=bK _ _;rw[e];exact rt.neg
   ·rw[agy h3];have hx:=B5 (X:=X) tw Z.hL;have e:dE (llq a.rs) (sX (jZ l a i j0 j))=jZ l a i j0 j:=bK _ _
    have hi:Bz J (iE (dE (llq a.rs) (sX (jZ l a i j0 j)))):=by
     rw[e];exact(Am Z tw hd hd0).mono Z.ij
    have k:=key _ hx hi;intro sv h;unfold xZ at h;obtain⟨n,hn2,rfl⟩:=ac6.1 h;refine⟨hx,fun p hp=>?_⟩;unfold Br at hp;rw[adc.1 hp]
    match n,ac5.1 hn2 with
    |0,_=>exact k _ (qO ⟨tw.five,.inl rfl,⟨1,0,⟨by decide,fun q h=>by cases h⟩,by decide,by decide⟩⟩)
end
theorem Xk{l:Li}(hl:ao l=0):l.dv.length<=2:=by
 have h1:=(er hl).2.2.1;unfold ic at h1;split at h1
 ·cases h1
 ·omega
structure Aq where
  ts:LL
  bs:List Pq
  ms:List Int
instance:Inhabited Pq:=⟨⟨[],[],[],[]⟩⟩
instance:Inhabited Aq:=⟨⟨[],[],[]⟩⟩
def Pq.pl(p:Pq):Pl:=⟨p.c.map rt,p.s.map rt,p.x.map rt,p.y.map rt⟩
def Aq.as(a:Aq):As:=⟨a.ts.map (List.map rt),a.bs.map Pq.pl,a.ms⟩
theorem Pq.pl_av(p:Pq):p.pl.av=p.av:=by unfold Pl.av Pq.av Pq.pl;rw[cT,cT,cT,cT]
abbrev Aq.cs(a:Aq):List AV:=[.lst 1 (a.ts.map nA),.lst 4 (a.bs.map Pq.av),.lst 1 (a.ms.map i64)]
abbrev Aq.av(a:Aq):AV:=.agg a.cs
theorem Aq.as_av(a:Aq):a.as.av=a.av:=by
 unfold As.av Aq.as Aq.av Aq.cs;rw[map_map,map_map];congr 3
 ·exact ac3 (fun x _=>cT x)
 ·congr 1;exact ac3 (fun x _=>Pq.pl_av x)
theorem Aq.llq(a:Aq):Lw.llq a.as.rs=a.ts:=mb _
def Ba(bs:List Pq)(is:List Int)(ps:List Pq):List Pq:=(is.zip ps).foldl (fun k x=>k.set x.1.toNat x.2) bs
def Aq.nxt(a:Aq)(g:Gr)(s:Sv):Aq:=⟨s.ts,Ba a.bs g.bo s.ps,a.ms++[s.mode]⟩
def fZ:Pq:=⟨[],[],[],[]⟩
def W8:Pq:=⟨[1],[],[],[]⟩
def mJ:Tn:=⟨⟨false,[],[]⟩,false⟩
def pZ(g:Gr)(xs:List Tn):Tn:=if g.kind=0 then xs.getD g.driver.toNat mJ else mJ
theorem Lm:∀(zs:List (Int×Pq))(bs:List Pq),(zs.foldl (fun k x=>k.set x.1.toNat x.2) bs).length=bs.length
 |[],bs=>rfl
 |z::zs,bs=>by rw[ac8,Lm zs,agm]
theorem G7:∀(zs:List (Int×Pq))(bs:List Pq)(p:Pq),p∈zs.foldl (fun k x=>k.set x.1.toNat x.2) bs->p∈bs\/∃z∈zs,z.2=p
 |[],bs,p,h=>.inl h
 |z::zs,bs,p,h=>by
  rw[ac8]at h;rcases G7 zs _ p h with h |⟨z',hz,e⟩
  ·rcases ac4 h with h |h
   ·exact .inl h
   ·exact .inr ⟨z,agt,h.symm⟩
  ·exact .inr ⟨z',agi _ hz,e⟩
theorem Kg(bs:List Pq)(is:List Int)(ps:List Pq):(Ba bs is ps).length=bs.length:=Lm _ _
theorem KL{bs:List Pq}{is:List Int}{ps:List Pq}{p:Pq}(h:p∈Ba bs is ps):p∈bs\/p∈ps:=by
 rcases G7 _ _ _ h with h |⟨z,hz,e⟩
 ·exact .inl h
 ·exact .inr (e▸(List.of_mem_zip hz).2)
def l6(s j r E:Nat):Nat:=3*E+2*s+2*eB r j+10
def kS(s j r E:Nat):Nat:=24*l6 s j r E+8*eB r j+5*(8*s+5)+23
def If(s j r E:Nat):Nat:=iB r j (8*l6 s j r E+2*eB r j+8)
def xx(s j r E:Nat):Nat:=iB (r+kS s j r E) j (8*l6 s j r E+2*eB r j+8)
def vY(s j r E:Nat):Nat:=oZ s (l6 s j r E) (8*s+5) (eB r j) (eB (r+kS s j r E) (j+1)) (If s j r E) (xx s j r E)
def oy(s g j r E:Nat):Nat:=l6 s j r E+2*g+2*s+4
def eZ(g:Nat):Nat:=if g<=134 then 3200000000 else 10200000000
def rZ(g:Nat):Nat:=if g<=134 then 60000000 else 170000000
def jc(s g:Nat):Nat->Nat->Nat->Nat->Nat->Bool
  |0,_,j,r,E=>decide (E<=eZ g/\r<=rZ g/\j<=2)
  |n+1,y,j,r,E=>decide (E<=eZ g/\r<=rZ g/\j<=2)&&(jc s g n y j r (oy s g j r E) &&
      (decide (y=0)||(decide (j<=1/\E<=3900000/\r<=132000/\r+kS s j r E<=5000000000/\xx s j r E<=50000000000)&&jc s g n (y-1) (j+1) (r+kS s j r E) (vY s j r E))))
theorem Wi{s g n y j r E:Nat}(h:jc s g n y j r E=true):E<=eZ g/\r<=rZ g/\j<=2:=by
 cases n with
 |zero=>exact ag1 h
 |succ n =>
  unfold jc at h;simp only[afp,ag0]at h;exact⟨h.1.1,h.1.2.1,h.1.2.2⟩
theorem NK{s g n y j r E:Nat}(h:jc s g n y j r E=true):E<=10200000000/\r<=400000000/\j<=2:=by
 have h:=Wi h;unfold eZ rZ at h;split at h <;> omega
theorem YC{s g n y j r E:Nat}(h:jc s g (n+1) y j r E=true):(E<=20000000000/\r<=400000000/\j<=2)/\jc s g n y j r (oy s g j r E)=true:=by
 have h3:=NK h;unfold jc at h;simp only[afp,ag0]at h;exact⟨by omega,h.2.1⟩
theorem Pm{s g n y j r E:Nat}(h:jc s g (n+1) (y+1) j r E=true):(j<=1/\E<=3900000/\r<=132000/\r+kS s j r E<=5000000000/\xx s j r E<=50000000000)/\jc s g n y (j+1) (r+kS s j r E) (vY s j r E)=true:=by
 unfold jc at h;simp only[afp,agp,ag0,ace]at h;rcases h.2.2 with h1 |h1
 ·omega
 ·exact h1
structure QInv(l:Li)(j r E:Nat)(a:Aq):Prop where
  tw:Tw a.ts r
  lv:a.ts.length<=j
  bs:∀p∈a.bs,Pq.ok a.ts.length E p
  ln:a.bs.length=l.bo.length
theorem Pq.ok.up{n n' e e':Nat}{p:Pq}(h:Pq.ok n e p)(hn:n<=n')(h5:n'<=5)(he:e<=e'):Pq.ok n' e' p :=
 ⟨⟨h5,h.c.nl.mono hn,h.c.cb.mono he⟩,⟨h5,h.s.nl.mono hn,h.s.cb.mono he⟩,⟨h5,h.x.nl.mono hn,h.x.cb.mono he⟩,⟨h5,h.y.nl.mono hn,h.y.cb.mono he⟩⟩
theorem Pq.ok.lv{n m e:Nat}{p:Pq}(h:Pq.ok n e p)(hn:n=m):Pq.ok m e p:=hn▸h
theorem yv{r r':Nat}(h:r<=r'):∀j,eB r j<=eB r' j
 |0=>afq _
 |j+1=>by have:=yv h j;simp only[eB];omega
theorem H4{r r':Nat}(h:r<=r'):∀j e,iB r j e<=iB r' j e
 |0,e=>afq _
 |j+1,e=>by
  have h1:=yv h j;have h2:=yv h (j+1);have h3:=H4 h j (4*e+3*eB r j+r+1);have h4:=vX r' j (e:=4*e+3*eB r j+r+1) (f:=4*e+3*eB r' j+r'+1) oz;simp only[iB];omega
theorem Pq.ok.nr{n e:Nat}{p:Pq}(h:Pq.ok n e p)(he:e<=lm n):∀x∈p.pl.l,NR x e:=by
 intro x hx;simp only[Pl.l,Pq.pl,agd,af8,or_false]at hx;rcases hx with rfl |rfl |rfl |rfl
 ·exact h.c.rt he
 ·exact h.s.rt he
 ·exact h.x.rt he
 ·exact h.y.rt he
theorem Pq.ok.num{n e:Nat}{p:Pq}(h:Pq.ok n e p):∀x∈p.pl.l,bH n x=0:=by
 intro x hx;simp only[Pl.l,Pq.pl,agd,af8,or_false]at hx;rcases hx with rfl |rfl |rfl |rfl
 ·exact sk h.c.nl
 ·exact sk h.s.nl
 ·exact sk h.x.nl
 ·exact sk h.y.nl
section
variable{l:Li}{j r E:Nat}{a:Aq}(Q:QInv l j r E a)
include Q
theorem QInv.chk:aZ a.as.rs=0:=Q.tw.chk
theorem QInv.mem{p:Pl}(h:p∈a.as.bs):∃q∈a.bs,q.pl=p:=by have _:=Q;exact ac6.1 h
theorem QInv.nr(hE:E<=50000000000){p:Pl}(h:p∈a.as.bs):∀x∈p.l,NR x E:=by
 obtain⟨q,hq,rfl⟩:=Q.mem h;exact(Q.bs q hq).nr (af2 hE (dl _))
theorem QInv.ab(hl:ao l=0)(hE:E<=50000000000)(hr:r<=400000000):AB a.as:=by
 refine⟨Q.tw.tr.mono hr oz,fun p hp x hx=>(Q.nr hE hp x hx).mono hE,?_,?_⟩
 ·show(a.ts.map _).length<=8;rw[afm];have:=Q.tw.three;omega
 ·show(a.bs.map _).length<=30;rw[afm,Q.ln];have:=(er hl).2.2.2.1;omega
theorem QInv.sma(hE:E<=50000000000){F:Nat}(hF:E<=F)(k:Int)(own:Bool):Cg F l k a.as own :=
 fun b _ _ p hp x hx=>(Q.nr hE (afl hp) x hx).mono hF
theorem QInv.nd(hl:ao l=0){g:Gr}(hg:GrOk l g){own:Bool}:∀b∈cH l g own,gw a.as b=0:=by
 intro b hb;unfold gw;split
 ·rfl
 ·have h1:=yM hl hg b hb;obtain⟨p,hp⟩:=ay (l:=a.bs) (i:=b.toNat) (by rw[Q.ln]; omega);have e:a.as.bs[b.toNat]?=some p.pl:=by show (a.bs.map Pq.pl)[b.toNat]?=_; rw[afu,hp]; rfl
  rw[ax e];unfold aQ;rw[agy (by rw[Q.chk];simp)];have e2:a.as.rs.length=a.ts.length:=afm _;rw[e2];exact ug (fun x hx=>(Q.bs p (afl hp)).num x hx)
theorem QInv.dy0(hl:ao l=0)(hs:splitE l=0){k:Nat}{g:Gr}(hg:(splitG l)[k]?=some g)(own:Bool):gM l k a.as own=0:=by
 have hk:=(adw.1 hg).1;obtain⟨_,ho⟩:=i9 hl (afl hg);have hgA:mr l (k:Nat)=g:=ax hg;rw[qi hl,JY hs oz (by show(a.bs.map _).length=_;rw[afm,Q.ln]) Q.chk,hgA];exact ug (fun b hb=>Q.nd hl ho b (zc.1 hb))
end
structure WkC(l:Li)(xs:List Tn)(s g:Nat):Prop where
  hl:l.ok
  li:ao l=0
  sp:splitE l=0
  cs:Cs s l
  ln:xs.length=l.dv.length
  ok:∀x∈xs,x.t.ok/\x.err=0/\Qb 1000 x.t.q/\Cb g [jS x.half x.t.q]/\Cb g [jO x.half x.t.q]
theorem Rh{l:Li}{g:Gr}(h:DyK l g)(hk:g.kind=0):0<=g.driver/\g.driver<l.dv.length:=by
 cases h with
 | @drv b z d _ _ t d0 hd hb=>have:=(adw.1 hd).1;exact⟨d0,by show d<_;omega⟩
 |rrr=>exact ag5 hk (by simp)
 |pr=>exact ag5 hk (by simp)
 |rp=>exact ag5 hk (by simp)
theorem W4:mJ.t.ok:=⟨(fun x h=>by cases h),(fun x h=>by cases h),afz _,afz _⟩
theorem UQ:Qb 1000 mJ.t.q:=by
 have e:mJ.t.q=0:=by decide +kernel
 rw[e];exact Qb.zero.mono oz
section
variable{l:Li}{xs:List Tn}{s g:Nat}(W:WkC l xs s g){k:Nat}{gr:Gr}(hg:(splitG l)[k]?=some gr)
include W hg
theorem WkC.grp:DyK l gr/\GrOk l gr:=i9 W.li (afl hg)
theorem WkC.tn:(pZ gr xs).t.ok/\Qb 1000 (pZ gr xs).t.q/\(gr.kind=0->∃x∈xs,pZ gr xs=x):=by
 unfold pZ
 by_cases hk:gr.kind=0
 ·rw[agz hk];have h:=Rh (W.grp hg).1 hk;obtain⟨x,hx⟩:=ay (l:=xs) (i:=gr.driver.toNat) (by rw[W.ln];omega);rw[ax hx];have hm:=afl hx;exact⟨(W.ok x hm).1,(W.ok x hm).2.2.1,fun _=>⟨x,hm,rfl⟩⟩
 ·rw[agy hk];exact⟨W4,UQ,fun h=>ag5 h hk⟩
variable{j r E:Nat}{a:Aq}(Q:QInv l j r E a)
include Q
theorem QInv.dyOk{F:Nat}(hE:E<=50000000000)(hF:E<=F):DyOk F l k a.as false k gr:=by
 obtain⟨i,g',h⟩:=CA (Q.sma hE hF k false) (Q.dy0 W.li W.sp hg false);have e:i=k:=by have:=h.hk;omega
 subst e;have:=h.hg;rw[hg]at this;cases this;exact h
theorem QInv.dyS(hr:r<=132000)(hj:j<=1):DyT a.as:=by have _:=W;have _:=hg;exact Y5 (Q.tw.tr.mono hr oz) (fun _=>by rw[a.llq];exact af2 Q.lv hj)
theorem QInv.dyW(hE:E<=50000000000)(hr:r<=400000000):DyW l a.as:=by have _:=hg;exact⟨W.hl,W.li,Q.ab W.li hE hr,Q.chk⟩
theorem QInv.twl:Tw (Lw.llq a.as.rs) r:=by have _:=W;have _:=hg;rw[a.llq];exact Q.tw
theorem QInv.drv{n y:Nat}(ok:jc s g (n+1) y j r E=true)(hk:gr.kind=0):∀sv∈v6 l a.as gr (pZ gr xs),QInv l j r (oy s g j r E) (a.nxt gr sv):=by
 obtain⟨⟨hE,hr,hj⟩,_⟩:=YC ok;have D:=QInv.dyW W hg Q oz hr;have O:=QInv.dyOk W hg Q (F:=E) oz (afq _);obtain⟨i,z0,d,j0,e,hj0,p0⟩:=WR O hk;obtain⟨_,_,hx⟩:=W.tn hg;obtain⟨x,hx,ex⟩:=hx hk;obtain⟨_,he,_,hc,hs⟩:=W.ok x hx;have hlen:(Lw.llq a.as.rs).length=a.ts.length:=by rw[a.llq]
 have tw:=QInv.twl W hg Q;have hq0:=pa W.hl W.li W.cs hj0 p0.or;have hK:eB r (Lw.llq a.as.rs).length<=eB r j:=jX r (by rw[hlen];exact Q.lv);obtain⟨o1,o2⟩:=uf W.hl W.li W.cs D.al D.hc tw hK hj0 p0;rw[ex];unfold v6;rw[agz hk,e];show ∀sv∈EP l a.as i (l.jo.getD z0.toNat default) x,_;rw[ax hj0];unfold EP;rw[agy oz];have hp:=RJ (ts:=Lw.llq a.as.rs) (p:=aO l j0 i) (o:=aN l a.as j0 i) hc hs hq0 tw.five o1 o2
 have hp2:Pq.ok a.ts.length (oy s g j r E) (L8 l a.as i j0 x):=by
  have:=Ck (a:=0) (b:=0) hp (e:=oy s g j r E) (by unfold oy l6;omega) (by unfold oy l6;omega);exact Pq.ok.lv this hlen
 refine uc ⟨?_,?_,?_,?_⟩
 ·exact tw
 ·show(Lw.llq a.as.rs).length<=j;rw[hlen];exact Q.lv
 ·intro p hp3;show Pq.ok (Lw.llq a.as.rs).length _ p;rw[hlen];rcases KL hp3 with h |h
  ·exact(Q.bs p h).up (afq _) Q.tw.five (by unfold oy l6;omega)
  ·rw[adc.1 h];exact hp2
 ·exact(Kg _ _ _).trans Q.ln
theorem QInv.dy{n y:Nat}(ok:jc s g (n+1) (y+1) j r E=true)(hk:gr.kind≠0):∀sv∈v6 l a.as gr (pZ gr xs),QInv l (j+1) (r+kS s j r E) (vY s j r E) (a.nxt gr sv):=by
 obtain⟨⟨hj,hE,hr,hX,hJ⟩,_⟩:=Pm ok;have D:DyR l a.as:=⟨QInv.dyW W hg Q oz oz,(QInv.dyS W hg Q hr hj).toDyS⟩
 have O:=QInv.dyOk W hg Q (F:=E) oz (afq _);have hlen:(Lw.llq a.as.rs).length=a.ts.length:=by rw[a.llq]
 have hlv:(Lw.llq a.as.rs).length<=j:=by rw[hlen];exact Q.lv
 have tw:=QInv.twl W hg Q
 have Z:Szs (Lw.llq a.as.rs).length r (3*E+2*s+2*eB r j+10) (8*s+5) (kS s j r E) (eB r j) (eB (r+kS s j r E) (j+1)) (If s j r E) (xx s j r E):=by
  refine⟨by omega,jX r hlv,?_,hX,jX _ oz,?_,?_,hJ,?_,?_⟩
  ·unfold kS l6;omega
  ·exact zf r _ hlv
  ·exact zf _ _ hlv
  ·exact af2 (jX r oz) (yv oz _)
  ·exact H4 oz _ _
 have hn:(Lw.llq a.as.rs).length<=1:=by omega
 have key:∀sv∈v6 l a.as gr (pZ gr xs),Xz (Lw.llq a.as.rs) r (kS s j r E) sv.ts/\∀p∈sv.ps,Pq.ok sv.ts.length (vY s j r E) p:=by
  unfold v6;rw[agy hk]
  by_cases hk1:gr.kind=1
  ·obtain⟨i,k2,z0,z1,z2,j0,j1,j2,P⟩:=O.rrr hk1;obtain⟨e0,e1,e2,b0,b1,_⟩:=P.at;rw[agz hk1,e0,e1,e2,b0,b1];exact NW D hn W.cs tw Z (afq _) P
  ·rw[agy hk1]
   by_cases hk2:gr.kind=2
   ·obtain⟨i,z0,z1,j0,j,P,ha,hb⟩:=O.pr hk2;obtain⟨e0,e1,b0,_⟩:=P.at;rw[agz hk2,e0,e1,b0];exact Pi D hn W.cs tw Z (afq _) P ha hb
   ·obtain⟨i,z0,z1,j0,j,P,_,hj,hb⟩:=O.rp hk hk1 hk2;obtain⟨e0,e1,b0,hk3⟩:=P.at;rw[agy hk2,e0,e1,b0];exact YQ D hn W.cs tw Z (afq _) P hj hb
 intro sv hsv;obtain⟨hx,hp⟩:=key sv hsv;have h5:=hx.tw.five;have hup:=hx.up;have hln:=hx.ln;rw[hlen]at hup hln;refine⟨hx.tw,?_,?_,?_⟩
 ·show sv.ts.length<=j+1;have:=Q.lv;omega
 ·intro p hp3;rcases KL hp3 with h |h
  ·exact(Q.bs p h).up hup h5 (by unfold vY oZ wZ l6;omega)
  ·exact hp p h
 ·exact(Kg _ _ _).trans Q.ln
end
def qV(F:Int->Bool)(sg:Bool)(f:Sv->List Aq×Nat):List Sv->List Aq×Nat
  |[]=>([],0)
  |s::r=>if F s.mode=false then qV F sg f r else if(f s).2≠0 then f s else if sg=true then f s else((f s).1++(qV F sg f r).1,(qV F sg f r).2)
theorem fW{k k0:Nat}{x y:Option Blk}{z:Blk}(h0:1000<=k0)(h:lk [(1000,x),(k0,y)] k=some z):1000<=k:=by
 rw[aD]at h;split at h
 ·omega
 ·rw[aD]at h;split at h
  ·omega
  ·cases h
open Lean.Grind (CommRing)
section
variable{r:(k:Nat)->T k}
def fQ{n:Nat}(x:E r n):E r n:=T.inv r n x
theorem u7{n:Nat}(u:E r n)(h:Sg (E r n) (sg r n)):sg r (n+1) (bA u 0)=sg r n u:=by
 rw[kC,h.zero];unfold T.sgn3;split
 ·rfl
 ·rw[agz (.inr rfl)]
theorem Ve{n:Nat}{x y:E r n}(hz:T.isZ n y=true):fQ (bA x y:E r (n+1))=bA (fQ x) 0:=by
 have e:y=T.zero n:=(T.isZ_iff n y).1 hz;subst e;have h:=T.inv_low r n x;show T.inv r (n+1) (x,T.zero n)=_;rw[h,E.zero_def];rfl
theorem NY{n:Nat}{x y:E r n}(hz:T.isZ n y=false)(h0:sg r n (aM x y)=0):fQ (bA x y:E r (n+1))=bA (fQ (x+x)) 0:=by
 have h:=A7 r (i:=n) (x:=((x,y):T n×T n)) hz h0;show T.inv r (n+1) (x,y)=_;rw[h,E.zero_def];rfl
theorem Vx{n:Nat}{x y:E r n}(hz:T.isZ n y=false)(h0:sg r n (aM x y)≠0):fQ (bA x y:E r (n+1))=bA (x*fQ (aM x y)) (-y*fQ (aM x y)):=by
 have h:=Bt r (i:=n) (x:=((x,y):T n×T n)) hz h0;exact h
theorem WJ{q:Rat}(hq:bB q≠0):bB ((1:Rat)/q*q+-(((1:Nat):Rat)))=0:=by
 have hq:q≠0:=by
  rintro rfl;exact hq (by decide +kernel)
 have e:(1:Rat)/q*q+-(((1:Nat):Rat))=0:=by
  rw[show(((1:Nat):Rat))=1 from rfl];grind
 rw[e];decide +kernel
theorem Jx(r:(k:Nat)->T k):∀(n:Nat),eA r n->∀x:E r n,sg r n x≠0->sg r n (fQ x*x-1)=0
 |0,hp,x,hx=>WJ (q:=x) hx
 |n+1,hp,z,hz=>by
  have hp':eA r n:=fun j hj=>hp j oz
  have h:=kc r n hp';have H:=kc r (n+1) hp;have ih:=Jx r n hp';obtain⟨x,y,rfl⟩:=ki z;cases hzy:T.isZ n y
  ·by_cases h0:sg r n (aM x y)=0
   ·rw[NY hzy h0];have h2:=AI h (hp n oz) hz h0;have e1:=ih _ h2
    have c:sg r (n+1) (bA x (-y))=0:=by
     have m:=H.mul (bA x y) (bA x (-y))
     have e:(bA x y:E r (n+1))*bA x (-y)=bA (aM x y) 0:=by
      rw[kI];unfold aM;congr 1 <;> grind
     rw[e,u7 _ h,h0]at m;rcases Int.mul_eq_zero.1 m.symm with g |g
     ·exact ag5 g hz
     ·exact g
    have e2:bA (fQ (x+x)) 0*bA x y-(1:E r (n+1))=-(bA (fQ (x+x)) 0*bA x (-y))+bA (fQ (x+x)*(x+x)-1) 0:=by
     rw[zC,show ∀a b:E r (n+1),a-b=a+-b from fun a b=>by grind,kI,kI,uW,uW,oX,oX];congr 1 <;> grind
    rw[e2];have e3:sg r (n+1) (-(bA (fQ (x+x)) 0*bA x (-y)))=0:=by rw[H.neg,H.mul,c];simp
    rw[H.zadd e3,u7 _ h];exact e1
   ·rw[Vx hzy h0];have e1:=ih _ h0
    have e2:bA (x*fQ (aM x y)) (-y*fQ (aM x y))*bA x y-(1:E r (n+1))=bA (fQ (aM x y)*aM x y-1) 0:=by
     rw[zC,show ∀a b:E r (n+1),a-b=a+-b from fun a b=>by grind,kI,uW,oX];generalize fQ (aM x y)=i;unfold aM;congr 1 <;> grind
    rw[e2,u7 _ h];exact e1
  ·rw[Ve hzy];have e:y=0:=by rw[(T.isZ_iff n y).1 hzy,E.zero_def]
   subst e;rw[u7 _ h]at hz;have e1:=ih _ hz
   have e2:bA (fQ x) 0*bA x 0-(1:E r (n+1))=bA (fQ x*x-1) 0:=by
    rw[zC,show ∀a b:E r (n+1),a-b=a+-b from fun a b=>by grind,kI,uW,oX];congr 1 <;> grind
   rw[e2,u7 _ h];exact e1
end
section
variable{r:(k:Nat)->T k}{n:Nat}
def zS(h:eA r n):Setoid (E r n) where
  r x y:=sg r n (x-y)=0
  iseqv:=by
    have H:=kc r n h;refine⟨fun x=>?_,fun {x y} e=>?_,fun {x y z} e f=>?_⟩
    · rw[show x-x=0 by grind];exact H.zero
    · rw[show y-x=-(x-y) by grind,H.neg,e];rfl
    · rw[show x-z=(x-y)+(y-z) by grind,H.zadd e];exact f
def Zq(h:eA r n):Type:=Quotient (zS h)
def aA(h:eA r n)(x:E r n):Zq h:=Quotient.mk (zS h) x
theorem kR(h:eA r n){x y:E r n}:aA h x=aA h y↔sg r n (x-y)=0 :=
 ⟨fun e=>Quotient.exact (s:=zS h) e,fun e=>Quotient.sound (s:=zS h) e⟩
instance (h:eA r n):Add (Zq h):=⟨Quotient.lift₂ (fun x y=>aA h (x+y)) (by
  intro a b c d e f;have H:=kc r n h;refine(kR h).2 ?_;rw[show a+b-(c+d)=(a-c)+(b-d) by grind,H.zadd (show sg r n (a-c)=0 from e)];exact f)⟩
instance (h:eA r n):Mul (Zq h):=⟨Quotient.lift₂ (fun x y=>aA h (x*y)) (by
  intro a b c d e f;have H:=kc r n h;refine(kR h).2 ?_;have e':sg r n (a-c)=0:=e;have f':sg r n (b-d)=0:=f;rw[show a*b-c*d=(a-c)*b+c*(b-d) by grind,H.zadd (by rw[H.mul,e'];simp),H.mul,f'];simp)⟩
instance (h:eA r n):Neg (Zq h):=⟨Quotient.lift (fun x=>aA h (-x)) (by
  intro a c e;have H:=kc r n h;refine(kR h).2 ?_;have e':sg r n (a-c)=0:=e;rw[show -a - -c=-(a-c) by grind,H.neg,e'];rfl)⟩
instance (h:eA r n):_root_.Sub (Zq h):=⟨fun x y=>x+-y⟩
instance (h:eA r n)(c:Nat):OfNat (Zq h) c:=⟨aA h (OfNat.ofNat c)⟩
instance (h:eA r n):NatCast (Zq h):=⟨fun c=>aA h (c:E r n)⟩
instance (h:eA r n):IntCast (Zq h):=⟨fun c=>aA h (c:E r n)⟩
instance (h:eA r n):SMul Nat (Zq h):=⟨fun c x=>aA h (c:E r n)*x⟩
instance (h:eA r n):SMul Int (Zq h):=⟨fun c x=>aA h (c:E r n)*x⟩
def Zq.pow{h:eA r n}(x:Zq h):Nat->Zq h
  |0=>aA h 1
  |c+1=>Zq.pow x c*x
instance (h:eA r n):HPow (Zq h) Nat (Zq h):=⟨Zq.pow⟩
variable(h:eA r n)
theorem md(x y:E r n):aA h (x+y)=aA h x+aA h y:=rfl
theorem ft(x y:E r n):aA h (x*y)=aA h x*aA h y:=rfl
theorem kt(x y:E r n):aA h (x-y)=aA h x-aA h y:=by
 rw[show x-y=x+-y by grind];rfl
theorem eX(a:Zq h):∃x,a=aA h x:=Quotient.ind (motive:=fun a=>∃x,a=aA h x) (fun x=>⟨x,rfl⟩) a
instance zRing:CommRing (Zq h) where
  add_zero a:=by
    obtain⟨x,rfl⟩:=eX h a;exact ag6 (aA h) (show x+0=x by grind)
  add_comm a b:=by
    obtain⟨x,rfl⟩:=eX h a;obtain⟨y,rfl⟩:=eX h b;exact ag6 (aA h) (show x+y=y+x by grind)
  add_assoc a b c:=by
    obtain⟨x,rfl⟩:=eX h a;obtain⟨y,rfl⟩:=eX h b;obtain⟨z,rfl⟩:=eX h c;exact ag6 (aA h) (show x+y+z=x+(y+z) by grind)
  mul_assoc a b c:=by
    obtain⟨x,rfl⟩:=eX h a;obtain⟨y,rfl⟩:=eX h b;obtain⟨z,rfl⟩:=eX h c;exact ag6 (aA h) (show x*y*z=x*(y*z) by grind)
  mul_one a:=by
    obtain⟨x,rfl⟩:=eX h a;exact ag6 (aA h) (show x*1=x by grind)
  one_mul a:=by
    obtain⟨x,rfl⟩:=eX h a;exact ag6 (aA h) (show 1*x=x by grind)
  left_distrib a b c:=by
    obtain⟨x,rfl⟩:=eX h a;obtain⟨y,rfl⟩:=eX h b;obtain⟨z,rfl⟩:=eX h c;exact ag6 (aA h) (show x*(y+z)=x*y+x*z by grind)
  right_distrib a b c:=by
    obtain⟨x,rfl⟩:=eX h a;obtain⟨y,rfl⟩:=eX h b;obtain⟨z,rfl⟩:=eX h c;exact ag6 (aA h) (show(x+y)*z=x*z+y*z by grind)
  zero_mul a:=by
    obtain⟨x,rfl⟩:=eX h a;exact ag6 (aA h) (show 0*x=0 by grind)
  mul_zero a:=by
    obtain⟨x,rfl⟩:=eX h a;exact ag6 (aA h) (show x*0=0 by grind)
  pow_zero a:=rfl
  pow_succ a c:=rfl
  ofNat_succ c:=ag6 (aA h) (Lean.Grind.Semiring.ofNat_succ (α:=E r n) c)
  ofNat_eq_natCast c:=ag6 (aA h) (Lean.Grind.Semiring.ofNat_eq_natCast (α:=E r n) c)
  nsmul_eq_natCast_mul c a:=rfl
  neg_add_cancel a:=by
    obtain⟨x,rfl⟩:=eX h a;exact ag6 (aA h) (show -x+x=0 by grind)
  sub_eq_add_neg a b:=rfl
  neg_zsmul i a:=by
    obtain⟨x,rfl⟩:=eX h a
    exact ag6 (aA h) (show((-i:Int):E r n)*x=-((i:E r n)*x) by
      rw[Lean.Grind.Ring.intCast_neg];grind)
  zsmul_natCast_eq_nsmul c a:=rfl
  intCast_ofNat c:=ag6 (aA h) (Lean.Grind.Ring.intCast_ofNat (α:=E r n) c)
  intCast_neg i:=ag6 (aA h) (Lean.Grind.Ring.intCast_neg (α:=E r n) i)
  mul_comm a b:=by
    obtain⟨x,rfl⟩:=eX h a;obtain⟨y,rfl⟩:=eX h b;exact ag6 (aA h) (show x*y=y*x by grind)
theorem Wg{x:E r n}:aA h x=0↔sg r n x=0:=by
 have e:=kR h (x:=x) (y:=0);rw[show x-0=x by grind]at e;exact e
theorem Sb{x:E r n}(hx:sg r n x≠0):aA h (fQ x)*aA h x=1:=by
 have e:=(kR h (x:=fQ x*x) (y:=1)).2 (Jx r n h x hx);exact e
end
example {r:(k:Nat)->T k} {n:Nat} (h:eA r n) (a b c:Zq h) (e:a*b=1) (f:c*a=2):c=2*b:=by grind
structure Hm{ts:LL}{R:Type}[CommRing R](f:Et ts->R):Prop where
  add:∀x y,f (x+y)=f x+f y
  mul:∀x y,f (x*y)=f x*f y
  neg:∀x,f (-x)=-f x
  one:f 1=1
  inv:∀x,aC x≠0->f (iE x)*f x=1
  zero:∀x,f x=0↔aC x=0
section
variable{ts:LL}{R:Type}[CommRing R]{f:Et ts->R}(h:Hm f)
include h
theorem Hm.sub(x y:Et ts):f (x-y)=f x-f y:=by
 rw[show x-y=x+-y by grind,h.add,h.neg];grind
theorem Hm.q1:f (qE ((1:Int):Rat))=1:=by rw[Tf];exact h.one
theorem Hm.q4:f (qE 4)=4:=by
 have e:(qE 4:Et ts)=1+1+1+1:=by
  have e1:=LX (r:=am ts) (n:=ts.length) 1 1;have e2:=LX (r:=am ts) (n:=ts.length) 2 2;rw[show(1:Rat)+1=2 by decide +kernel]at e1;rw[show(2:Rat)+2=4 by decide +kernel,e1]at e2;rw[e2];have e3:(qE 1:Et ts)=1:=rfl;rw[e3];grind
 rw[e,h.add,h.add,h.add,h.one];grind
end
abbrev fC(ts:LL):Prop:=eA (am ts) ts.length
section
variable{R:Type}[CommRing R]
end
def dt{ts:LL}(T:LL)(y:Et ts):Et T:=dE T (sX y)
structure Lf(ts T:LL):Prop where
  pos:fC T
  hm:Hm (fun y:Et ts=>aA pos (dt T y))
  low:∀l:List Rat,l.length<=2^ts.length->dt T (dE ts l)=dE T l
  q:∀q:Rat,dt T (qE q:Et ts)=qE q
  len:ts.length<=T.length
  sg:∀y:Et ts,aC (dt T y)=aC y
  ad:∀x y:Et ts,dt T (x+y)=dt T x+dt T y
  mu:∀x y:Et ts,dt T (x*y)=dt T x*dt T y
section
variable{ts:LL}
end
def iJ(T:LL)(p:Pq)(m:Rat×Rat):P2 T:=(dE T p.c*qE m.1-dE T p.s*qE m.2+dE T p.x,dE T p.s*qE m.1+dE T p.c*qE m.2+dE T p.y)
def CH(T:LL)(p:Pq):Prop:=aC (dE T p.c*dE T p.c+dE T p.s*dE T p.s-1)=0
def bt(l:Li)(T:LL)(bs:List Pq)(b pt:Int):P2 T:=iJ T (bs.getD b.toNat fZ) (aJ l b pt)
def JH(l:Li)(T:LL)(bs:List Pq)(j:Jt):Prop :=
  if j.kind=0 then aC ((bt l T bs j.a j.point).1-(bt l T bs j.b j.on).1)=0/\aC ((bt l T bs j.a j.point).2-(bt l T bs j.b j.on).2)=0
  else aC (a6 (ah (bt l T bs j.b j.to) (bt l T bs j.b j.on)) (ah (bt l T bs j.a j.point) (bt l T bs j.b j.on)))=0
section
variable{T:LL}{u p c:Rat×Rat}{w o:P2 T}
end
def dJ(a:As):List Pq:=a.bs.map fun b=>⟨lq b.c,lq b.s,lq b.x,lq b.y⟩
theorem PR(q:Aq):dJ q.as=q.bs:=by
 unfold dJ Aq.as;rw[map_map]
 conv=>rhs;rw[<- map_id q.bs]
 refine ac3 fun p _=>?_
 show(⟨lq (p.c.map rt),lq (p.s.map rt),lq (p.x.map rt),lq (p.y.map rt)⟩:Pq)=p;rw[cJ,cJ,cJ,cJ]
theorem gS(l:Li)(a:As)(b pt:Int):bb l a b pt=bt l (llq a.rs) (dJ a) b pt:=by
 have e:(dJ a).getD b.toNat fZ=⟨lq (a.bs.getD b.toNat default).c,lq (a.bs.getD b.toNat default).s,lq (a.bs.getD b.toNat default).x,lq (a.bs.getD b.toNat default).y⟩:=by
  unfold dJ;rw[afn,afn,afu];cases a.bs[b.toNat]? <;> rfl
 unfold bt;rw[e];rfl
def Nq(n:Nat)(p:Pq):Prop:=p.c.length<=2^n/\p.s.length<=2^n/\p.x.length<=2^n/\p.y.length<=2^n
section
variable{ts T:LL}(L:Lf ts T)
include L
theorem Lf.add(x y:Et ts):aA L.pos (dt T (x+y))=aA L.pos (dt T x)+aA L.pos (dt T y):=L.hm.add x y
theorem Lf.mul(x y:Et ts):aA L.pos (dt T (x*y))=aA L.pos (dt T x)*aA L.pos (dt T y):=L.hm.mul x y
theorem Lf.sub(x y:Et ts):aA L.pos (dt T (x-y))=aA L.pos (dt T x)-aA L.pos (dt T y):=L.hm.sub x y
theorem Lf.one:aA L.pos (dt T (1:Et ts))=1:=L.hm.one
theorem Lf.at{p:Pq}(hp:Nq ts.length p)(m:Rat×Rat):aA L.pos (iJ T p m).1=aA L.pos (dt T (iJ ts p m).1)/\aA L.pos (iJ T p m).2=aA L.pos (dt T (iJ ts p m).2):=by
 obtain⟨h1,h2,h3,h4⟩:=hp;unfold iJ;dsimp only;constructor
 ·rw[L.add,L.sub,L.mul,L.mul,L.low _ h1,L.low _ h2,L.low _ h3,L.q,L.q,md,kt,ft,ft]
 ·rw[L.add,L.add,L.mul,L.mul,L.low _ h1,L.low _ h2,L.low _ h4,L.q,L.q,md,md,ft,ft]
theorem Lf.zero(x:Et ts):aC (dt T x)=0↔aC x=0:=(Wg L.pos).symm.trans (L.hm.zero x)
end
theorem DK(n k:Nat)(hn:n<=5):Nm n k []:=⟨hn,.inl rfl,⟨1,0,⟨by decide,fun q h=>by cases h⟩,Nat.one_le_two_pow,afz _⟩⟩
theorem fP{n:Nat}(h:n<=2):lm n=200000000000:=by unfold lm;rw[agz h]
structure Vt(ts:LL) where
  w:Et ts
  x:Et ts
  y:Et ts
abbrev Vt.av{ts:LL}(v:Vt ts):AV:=.agg [nA (sX v.w),nA (sX v.x),nA (sX v.y)]
abbrev pg(l:Li)(a:Aq)(c:AV):List AV:=[.lst 1 (a.ts.map nA),.v .nilIface,.v (.string l.name),.lst 2 (l.bo.map Bd.av),.lst 7 (l.jo.map Jt.av),.lst 2 (l.dv.map Dr.av),.lst 1 (a.ts.map nA),.lst 4 (a.bs.map Pq.av),.lst 1 (a.ms.map i64),c]
abbrev Jl(l:Li)(a:Aq):List AV:=pg l a (.ms 1001 3 0 l.bo.length)
abbrev aU(l:Li)(a:Aq){ts:LL}(V:List (Vt ts)):Hp:=[pP 1000 (.box (Jl l a)),pP 1001 (.row 3 (V.map Vt.av))]
section
variable(l:Li)(a:Aq){ts:LL}(V:List (Vt ts)){x y q:List Rat}
theorem pq(x:List Rat):Con prog 349 [.ptr 1000 0,nA x,.v .nilIface] (aU l a V) (nA x) (aU l a V):=by
 refine gF func349 (fun k z h=>fW oz h) ?_;refine gC (fun y=>?_) (fun y=>?_) (st2:=(77777,0))
 ·refine gR ?_;exact aE.keep (f7 rfl rfl)
 cases y
theorem Mf(x y:List Rat):Con prog 346 [.ptr 1000 0,aw x y,.v .nilIface] (aU l a V) (aw x y) (aU l a V):=by
 refine gF func346 (fun k z h=>fW oz h) ?_;refine gC (fun u=>?_) (fun u=>?_) (st2:=(77777,0))
 ·refine gR ?_;exact aE.keep (f7 rfl rfl)
 cases u
theorem yd(hq:FP 210 [aB a.ts,nA x,nA y] (.tup [nA q,.v .nilIface])):Con prog 230 [.ptr 1000 0,nA x,nA y] (aU l a V) (nA q) (aU l a V):=by
 refine gF func230 (fun k z h=>fW oz h) ?_;refine gc hq ?_;refine gt (aF (pq l a V q) (aI rfl rfl rfl) aG rfl rfl) ?_;refine gR ?_;exact aE.keep (f7 rfl rfl)
theorem D5(hq:FP 250 [aB a.ts,nA x,nA y] (.tup [nA q,.v .nilIface])):Con prog 229 [.ptr 1000 0,nA x,nA y] (aU l a V) (nA q) (aU l a V):=by
 refine gF func229 (fun k z h=>fW oz h) ?_;refine gc hq ?_;refine gt (aF (pq l a V q) (aI rfl rfl rfl) aG rfl rfl) ?_;refine gR ?_;exact aE.keep (f7 rfl rfl)
theorem H5(hq:FP 209 [aB a.ts,nA x,nA y] (.tup [nA q,.v .nilIface])):Con prog 231 [.ptr 1000 0,nA x,nA y] (aU l a V) (nA q) (aU l a V):=by
 refine gF func231 (fun k z h=>fW oz h) ?_;refine gc hq ?_;refine gt (aF (pq l a V q) (aI rfl rfl rfl) aG rfl rfl) ?_;refine gR ?_;exact aE.keep (f7 rfl rfl)
theorem CO(hq:FP 350 [aB a.ts,nA x,nA y] (.tup [nA q,.v .nilIface])):Con prog 234 [.ptr 1000 0,nA x,nA y] (aU l a V) (nA q) (aU l a V):=by
 refine gF func234 (fun k z h=>fW oz h) ?_;refine gc hq ?_;refine gt (aF (pq l a V q) (aI rfl rfl rfl) aG rfl rfl) ?_;refine gR ?_;exact aE.keep (f7 rfl rfl)
theorem WC(hq:FP 128 [aB a.ts,nA x] (.tup [nA q,.v .nilIface])):Con prog 236 [.ptr 1000 0,nA x] (aU l a V) (nA q) (aU l a V):=by
 refine gF func236 (fun k z h=>fW oz h) ?_;refine gc hq ?_;refine gt (aF (pq l a V q) (aI rfl rfl rfl) aG rfl rfl) ?_;refine gR ?_;exact aE.keep (f7 rfl rfl)
theorem pI{x1 x2 y1 y2 q1 q2:List Rat}(hq:FP 98 [aB a.ts,aw x1 x2,aw y1 y2] (.tup [aw q1 q2,.v .nilIface])):Con prog 232 [.ptr 1000 0,aw x1 x2,aw y1 y2] (aU l a V) (aw q1 q2) (aU l a V):=by
 refine gF func232 (fun k z h=>fW oz h) ?_;refine gc hq ?_;refine gt (aF (Mf l a V q1 q2) (aI rfl rfl rfl) aG rfl rfl) ?_;refine gD ?_;refine gR ?_;exact aE.keep (f7 rfl rfl)
theorem He{x1 x2 y1 y2:List Rat}(hq:FP 99 [aB a.ts,aw x1 x2,aw y1 y2] (.tup [nA q,.v .nilIface])):Con prog 233 [.ptr 1000 0,aw x1 x2,aw y1 y2] (aU l a V) (nA q) (aU l a V):=by
 refine gF func233 (fun k z h=>fW oz h) ?_;refine gc hq ?_;refine gt (aF (pq l a V q) (aI rfl rfl rfl) aG rfl rfl) ?_;refine gD ?_;refine gR ?_;exact aE.keep (f7 rfl rfl)
theorem AA{x1 x2 y1 y2:List Rat}(hq:FP 102 [aB a.ts,aw x1 x2,aw y1 y2] (.tup [nA q,.v .nilIface])):Con prog 235 [.ptr 1000 0,aw x1 x2,aw y1 y2] (aU l a V) (nA q) (aU l a V):=by
 refine gF func235 (fun k z h=>fW oz h) ?_;refine gc hq ?_;refine gt (aF (pq l a V q) (aI rfl rfl rfl) aG rfl rfl) ?_;refine gD ?_;refine gR ?_;exact aE.keep (f7 rfl rfl)
end
section
variable{ts:LL}{r K e f g:Nat}(tw:Tw ts r)(hK:eB r ts.length<=K)(h2:ts.length<=2){x y:Et ts}{p q:P2 ts}
structure Bp(e:Nat)(p:P2 ts):Prop where
  x:Bz e p.1
  y:Bz e p.2
theorem Bp.mono(h:Bp e p)(hf:e<=f):Bp f p:=⟨h.x.mono hf,h.y.mono hf⟩
theorem Bp.sb(h:Bp e p)(h':Bp f q):Bp (e+f+1) (ah p q):=⟨h.x.sub h'.x,h.y.sub h'.y⟩
theorem bR(x:Et ts):ae ts.length (sX x)=x:=bK _ _
include tw h2
theorem Gs(hx:Bz e x)(hy:Bz f y)(h:e+f<=200000000000):FP 250 [aB ts,nA (sX x),nA (sX y)] (.tup [nA (sX (x+y)),.v .nilIface]):=by
 have h1:=tV tw hx hy (by rw[fP h2];exact h);rw[bR,bR]at h1;exact h1
theorem aa5(hx:Bz e x)(h:e+2<=200000000000):FP 250 [aB ts,nA (sX x),nA []] (.tup [nA (sX x),.v .nilIface]):=by
 have h1:=tV tw hx (DK ts.length 2 tw.five) (by rw[fP h2];exact h);rw[bR,iX]at h1;have e1:T.add ts.length x (T.zero ts.length)=x:=T.add_zero _ _;rw[e1]at h1;exact h1
theorem LC(hx:Bz e x)(hy:Bz f y)(h:e+f<=200000000000):FP 209 [aB ts,nA (sX x),nA (sX y)] (.tup [nA (sX (x-y)),.v .nilIface]):=by
 have h1:=zn tw hx hy (by rw[fP h2];exact h);rw[bR,bR]at h1;exact h1
theorem zF(hx:Bz e x)(hy:Bz f y)(h:e+f<=200000000000):FP 210 [aB ts,nA (sX x),nA (sX y)] (.tup [nA (sX (x*y)),.v .nilIface]):=by
 have h1:=yo tw hx hy (by rw[fP h2];exact h);rw[bR,bR]at h1;exact h1
theorem Sh(hx:Bz e x)(h:e<=200000000000):FP 128 [aB ts,nA (sX x)] (.tup [nA (sX (-x)),.v .nilIface]):=by
 have h1:=zp tw hx (by rw[fP h2];exact h);rw[bR]at h1;exact h1
include hK
theorem pL{I:Nat}(hx:Bz e x)(hy:Bz f y)(h0:aC y≠0)(hI:iB r ts.length f<=I)(h:e+I+K<=200000000000):FP 350 [aB ts,nA (sX x),nA (sX y)] (.tup [nA (sX (x*iE y)),.v .nilIface])/\Bz (e+I+K) (x*iE y):=by
 have hf:=nG r ts.length f;have e0:T.sgn (am ts) ts.length (ae ts.length (sX y))≠0:=by rw[bR];exact h0
 have h1:=VR tw hx hy (afq _) hy.nl e0 (by rw[fP h2];omega) oz;have h3:=Z0 tw hx hy (afq _) hy.nl e0 (by rw[fP h2];omega) oz;rw[bR,bR]at h1 h3;exact⟨h1,Nm.mono h3 oz⟩
theorem pO(hp:Bp e p)(hq:Bp e q)(h:2*e<=200000000000):FP 98 [aB ts,aw (sX p.1) (sX p.2),aw (sX q.1) (sX q.2)] (.tup [aw (sX (ah p q).1) (sX (ah p q).2),.v .nilIface]):=by
 have _:=hK;have h1:=Mh tw hp.x hp.y hq.x hq.y (by rw[fP h2];exact h);rw[bR,bR,bR,bR]at h1;exact h1
theorem BT(hp:Bp e p)(hq:Bp e q)(h:2*(e+e+K)<=200000000000):FP 102 [aB ts,aw (sX p.1) (sX p.2),aw (sX q.1) (sX q.2)] (.tup [nA (sX (aX p q)),.v .nilIface]):=by
 have hk:kB r ts.length<=K:=hK;have h1:=DB tw hp.x hp.y hq.x hq.y (by rw[fP h2];omega);rw[bR,bR,bR,bR]at h1;exact h1
theorem FK(hp:Bp e p)(hq:Bp e q)(h:2*(e+e+K)<=200000000000):FP 99 [aB ts,aw (sX p.1) (sX p.2),aw (sX q.1) (sX q.2)] (.tup [nA (sX (a6 p q)),.v .nilIface]):=by
 have hk:kB r ts.length<=K:=hK;have h1:=HJ tw hp.x hp.y hq.x hq.y (by rw[fP h2];omega);rw[bR,bR,bR,bR]at h1;exact h1
theorem Bp.dot(hp:Bp e p)(hq:Bp f q):Bz (2*(e+f+K)+1) (aX p q):=by
 have _:=h2;have h:=(hp.x.mul tw hK hq.x).add (hp.y.mul tw hK hq.y);exact h.mono oz
theorem Bp.crs(hp:Bp e p)(hq:Bp f q):Bz (2*(e+f+K)+1) (a6 p q):=by
 have _:=h2;have h:=(hp.x.mul tw hK hq.y).sub (hp.y.mul tw hK hq.x);exact h.mono oz
end
def cR{ts:LL}(v:Vt ts)(p:P2 ts):P2 ts:=(v.x-v.w*p.2,v.y+v.w*p.1)
def cW{ts:LL}(w:Et ts)(p u:P2 ts):Vt ts:=⟨w,u.1+w*p.2,u.2-w*p.1⟩
structure Bv{ts:LL}(e:Nat)(v:Vt ts):Prop where
  w:Bz e v.w
  x:Bz e v.x
  y:Bz e v.y
theorem Bv.mono{ts:LL}{e f:Nat}{v:Vt ts}(h:Bv e v)(hf:e<=f):Bv f v:=⟨h.w.mono hf,h.x.mono hf,h.y.mono hf⟩
section
variable{ts:LL}{r K e f g:Nat}(tw:Tw ts r)(hK:eB r ts.length<=K)
include tw hK
theorem Bv.at{v:Vt ts}{p:P2 ts}(hv:Bv e v)(hp:Bp f p):Bp (2*e+f+K+1) (cR v p):=⟨(hv.x.sub (hv.w.mul tw hK hp.y)).mono oz,(hv.y.add (hv.w.mul tw hK hp.x)).mono oz⟩
theorem ul{w:Et ts}{p u:P2 ts}(hw:Bz e w)(hp:Bp f p)(hu:Bp g u):Bv (g+e+f+K+1) (cW w p u):=⟨hw.mono oz,(hu.x.add (hw.mul tw hK hp.y)).mono oz,(hu.y.sub (hw.mul tw hK hp.x)).mono oz⟩
end
section
variable{l:Li}{a:Aq}{V:List (Vt a.ts)}{r K e f g:Nat}(tw:Tw a.ts r)(hK:eB r a.ts.length<=K)(h2:a.ts.length<=2)
include tw hK h2
theorem ND{v:Vt a.ts}{p:P2 a.ts}(hv:Bv e v)(hp:Bp f p)(h:2*e+f+K+1<=200000000000) :
  Con prog 343 [.ptr 1000 0,v.av,aw (sX p.1) (sX p.2)] (aU l a V) (aw (sX (cR v p).1) (sX (cR v p).2)) (aU l a V):=by
 refine gF func343 (fun k z h=>fW oz h) ?_;refine gt (aF (yd l a V (zF tw h2 hv.w hp.y oz)) (aI rfl rfl rfl) aG rfl rfl) ?_;refine gt (aF (H5 l a V (LC tw h2 hv.x (hv.w.mul tw hK hp.y) oz)) (aI rfl rfl rfl) aG rfl rfl) ?_;refine gt (aF (yd l a V (zF tw h2 hv.w hp.x oz)) (aI rfl rfl rfl) aG rfl rfl) ?_;refine gt (aF (D5 l a V (Gs tw h2 hv.y (hv.w.mul tw hK hp.x) oz)) (aI rfl rfl rfl) aG rfl rfl) ?_;refine gD ?_;refine gR ?_;exact aE.keep (f7 rfl rfl)
theorem uv{w:Et a.ts}{p u:P2 a.ts}(hw:Bz e w)(hp:Bp f p)(hu:Bp g u)(h:g+e+f+K+2<=200000000000) :
  Con prog 117 [.ptr 1000 0,nA (sX w),aw (sX p.1) (sX p.2),aw (sX u.1) (sX u.2)] (aU l a V) (cW w p u).av (aU l a V):=by
 have hadd:Con prog 229 [.ptr 1000 0,nA (sX w),nS] (aU l a V) (nA (sX w)) (aU l a V):=Con.sA (.cons (.refl _) (.cons (.refl _) (.cons (Sub.nil _ none 0) .nil))) (D5 l a V (aa5 tw h2 hw oz));refine gF func117 (fun k z h=>fW oz h) ?_;refine gt (aF hadd (.cons (.tmp rfl) (.cons (.tmp rfl) (.cons (.const _) .nil))) aG rfl rfl) ?_;refine gt (aF (yd l a V (zF tw h2 hw hp.y oz)) (aI rfl rfl rfl) aG rfl rfl) ?_;refine gt (aF (D5 l a V (Gs tw h2 hu.x (hw.mul tw hK hp.y) oz)) (aI rfl rfl rfl) aG rfl rfl) ?_;refine gt (aF (yd l a V (zF tw h2 hw hp.x oz)) (aI rfl rfl rfl) aG rfl rfl) ?_;refine gt (aF (H5 l a V (LC tw h2 hu.y (hw.mul tw hK hp.x) oz)) (aI rfl rfl rfl) aG rfl rfl) ?_;refine gD ?_;refine gR ?_;exact aE.keep (f7 rfl rfl)
end
structure AqV(E K:Nat)(l:Li)(a:Aq):Prop where
  hl:l.ok
  li:ao l=0
  tw:∃r,Tw a.ts r/\eB r a.ts.length<=K
  two:a.ts.length<=2
  ln:a.bs.length=l.bo.length
  bs:∀p∈a.bs,Pq.ok a.ts.length E p
theorem uX(ts:LL):sX (0:Et ts)=[]:=by
 show sX (qE (0:Rat):Et ts)=[];rw[yj];rfl
section
variable{E K:Nat}{l:Li}{a:Aq}(A:AqV E K l a)
include A
theorem AqV.pt{body pt:Int}(h1:aT body l.bo.length=true)(h2:aT pt (bW l body).length=true):Bp (3*E+2*K+2010) (bt l a.ts a.bs body pt):=by
 obtain⟨n,k,bd,m,h⟩:=oV A.hl A.li h1 h2;obtain⟨r,tw,hK⟩:=A.tw;have hk:kB r a.ts.length<=K:=hK;obtain⟨p,hp⟩:=ay (l:=a.bs) (i:=n) (by rw[A.ln];exact(adw.1 h.gbd).1);have po:=A.bs p (afl hp);have e:body.toNat=n:=by have:=h.hn;omega
 have hb:Pq.ok a.ts.length E ⟨lq p.pl.c,lq p.pl.s,lq p.pl.x,lq p.pl.y⟩:=by
  unfold Pq.pl;dsimp only;rw[cJ,cJ,cJ,cJ];exact po
 have hq:=DX tw hb h.sm;unfold Pq.pl at hq;dsimp only[dw]at hq;rw[cJ,cJ,cJ,cJ]at hq;unfold bt;rw[e,ax hp];exact⟨hq.1.mono oz,hq.2.mono oz⟩
theorem mQ{V:List (Vt a.ts)}{body pt:Int}(h1:aT body l.bo.length=true)(h2:aT pt (bW l body).length=true)(hE:8*E+8*K+8004<=200000000000) :
  Con prog 224 [.ptr 1000 0,i64 body,i64 pt] (aU l a V) (aw (sX (bt l a.ts a.bs body pt).1) (sX (bt l a.ts a.bs body pt).2)) (aU l a V):=by
 obtain⟨n,k,bd,m,h⟩:=oV A.hl A.li h1 h2;obtain⟨r,tw,hK⟩:=A.tw;have hk:kB r a.ts.length<=K:=hK;obtain⟨p,hp⟩:=ay (l:=a.bs) (i:=n) (by rw[A.ln];exact(adw.1 h.gbd).1);have po:=(A.bs p (afl hp)).up (afq _) tw.five (show E<=E+1000 by omega);have hlb:=A.hl.lb;have hn:=h.hn;have hkk:=h.hk;have e:body.toNat=n:=by omega
 have hat:FP 139 [aB a.ts,p.av,m.x.av,m.y.av] (.tup [aw (sX (bt l a.ts a.bs body pt).1) (sX (bt l a.ts a.bs body pt).2),.v .nilIface]):=by
  have h9:=xa tw po.c po.s po.x po.y (h.sm.x.mono (show 1000<=E+1000 by omega)) (h.sm.y.mono (show 1000<=E+1000 by omega)) (by rw[fP A.two];omega);rw[h.ex,h.ey];unfold bt;rw[e,ax hp];exact h9
 subst hn;subst hkk;refine gF func224 (fun k z h=>fW oz h) ?_;refine gi (aq h.gbd) ?_;refine gi (aq h.gm) ?_;refine gi (aq hp) ?_;refine gc hat ?_;refine gt (aF (Mf _ _ _ _ _) (aI rfl rfl rfl) aG rfl rfl) ?_;refine gD ?_;refine gR ?_;exact aE.keep (f7 rfl rfl)
end
open Lean.Grind (CommRing)
def tF(bs bs':List Pq)(n:Nat)(b:Int):Prop:=bs'.getD b.toNat fZ=bs.getD b.toNat fZ/\Nq n (bs.getD b.toNat fZ)
section
variable{ts T:LL}(L:Lf ts T)
include L
theorem Lf.pt(l:Li){bs bs':List Pq}{b:Int}(h:tF bs bs' ts.length b)(pt:Int) :
  aA L.pos (bt l T bs' b pt).1=aA L.pos (dt T (bt l ts bs b pt).1)/\aA L.pos (bt l T bs' b pt).2=aA L.pos (dt T (bt l ts bs b pt).2):=by
 unfold bt;rw[h.1];exact L.at h.2 _
end
section
variable{T:LL}(hp:fC T)
include hp
theorem E4{l:Li}{bs:List Pq}{j:Jt}(hk:j.kind=0)(h1:aA hp (bt l T bs j.a j.point).1=aA hp (bt l T bs j.b j.on).1)(h2:aA hp (bt l T bs j.a j.point).2=aA hp (bt l T bs j.b j.on).2):JH l T bs j:=by
 unfold JH;rw[agz hk];exact⟨(kR hp).1 h1,(kR hp).1 h2⟩
end
section
variable{ts T:LL}(L:Lf ts T)
include L
end
section
variable{l:Li}{a:As}{T:LL}(L:Lf (llq a.rs) T)
include L
theorem Lf.pin{bs':List Pq}{j:Jt}{i:Int}(hk:j.kind=0)(tie:(j.a=i/\tF (dJ a) bs' (llq a.rs).length j.b)\/(j.a≠i/\j.b=i/\tF (dJ a) bs' (llq a.rs).length j.a))
  (h:iJ T (bs'.getD i.toNat fZ) (aO l j i)=(dt T (aN l a j i).1,dt T (aN l a j i).2)):JH l T bs' j:=by
 have h1:=ag6 Prod.fst h;have h2:=ag6 Prod.snd h;dsimp only at h1 h2;rcases tie with⟨e,hs⟩ |⟨e,e2,hs⟩
 ·have b:=L.pt l hs j.on;unfold aO aN at h1 h2;simp only[agz e]at h1 h2;rw[gS]at h1 h2;refine E4 L.pos hk ?_ ?_
  ·rw[b.1];unfold bt;rw[e];exact ag6 (aA L.pos) h1
  ·rw[b.2];unfold bt;rw[e];exact ag6 (aA L.pos) h2
 ·have b:=L.pt l hs j.point;unfold aO aN at h1 h2;simp only[agy e]at h1 h2;rw[gS]at h1 h2;refine E4 L.pos hk ?_ ?_
  ·rw[b.1]
   conv=>rhs;unfold bt
   rw[e2];exact(ag6 (aA L.pos) h1).symm
  ·rw[b.2]
   conv=>rhs;unfold bt
   rw[e2];exact(ag6 (aA L.pos) h2).symm
end
section
variable{l:Li}{a:As}{r:Nat}(tw:Tw (llq a.rs) r)(hN:∀p∈dJ a,Nq (llq a.rs).length p)
include tw hN
end
section
variable{l:Li}{a:As}{r:Nat}(tw:Tw (llq a.rs) r)(hN:∀p∈dJ a,Nq (llq a.rs).length p)
include tw hN
end
theorem mS{ts:LL}(hp:fC ts){x y:Et ts}(h:aA hp x=aA hp y):aC x=aC y:=(kc _ _ hp).sub0 ((kR hp).1 h)
section
variable{R:Type}[CommRing R]
end
section
variable{ts:LL}
end
def pinP(l:Li)(T:LL)(bs:List Pq)(j:Jt)(b:Int):P2 T:=if j.a=b then bt l T bs j.b j.on else bt l T bs j.a j.point
def de(l:Li)(T:LL)(bs:List Pq)(g:Gr):Et T :=
  if g.kind=0 then qE 1
  else if g.kind=1 then a6 (ah (pinP l T bs (an l g 1) (ba g 1)) (pinP l T bs (an l g 0) (ba g 0))) (ah (iJ T (bs.getD (ba g 0).toNat fZ) (aO l (an l g 2) (ba g 0))) (pinP l T bs (an l g 0) (ba g 0)))
  else if g.kind=2 then aX (ah (bt l T bs (an l g 1).b (an l g 1).to) (bt l T bs (an l g 1).b (an l g 1).on)) (ah (iJ T (bs.getD (ba g 0).toNat fZ) (aJ l (ba g 0) (an l g 1).point)) (pinP l T bs (an l g 0) (ba g 0)))
  else aX (ah (bt l T bs (an l g 1).b (an l g 1).to) (bt l T bs (an l g 1).b (an l g 1).on)) (ah (bt l T bs (an l g 1).a (an l g 1).point) (pinP l T bs (an l g 0) (ba g 0)))
theorem kF(l:Li)(a:As)(j:Jt)(b:Int):aN l a j b=pinP l (llq a.rs) (dJ a) j b:=by
 unfold aN pinP;split
 ·exact gS l a _ _
 ·exact gS l a _ _
theorem rW(a:As)(b:Int)(q:Rat×Rat):bD a b q=iJ (llq a.rs) ((dJ a).getD b.toNat fZ) q:=by
 have e:(dJ a).getD b.toNat fZ=⟨lq (a.bs.getD b.toNat default).c,lq (a.bs.getD b.toNat default).s,lq (a.bs.getD b.toNat default).x,lq (a.bs.getD b.toNat default).y⟩:=by
  unfold dJ;rw[afn,afn,afu];cases a.bs[b.toNat]? <;> rfl
 rw[e];rfl
theorem M4(l:Li)(a:As)(g:Gr):eU l a g=de l (llq a.rs) (dJ a) g:=by
 unfold eU de it;simp only[kF,gS,rW]
section
variable{ts T:LL}(L:Lf ts T)
include L
theorem Lf.pinP{l:Li}{bs bs':List Pq}{j:Jt}(b:Int)(ha:tF bs bs' ts.length j.a)(hb:tF bs bs' ts.length j.b) :
  aA L.pos (Lw.pinP l T bs' j b).1=aA L.pos (dt T (Lw.pinP l ts bs j b).1)/\aA L.pos (Lw.pinP l T bs' j b).2=aA L.pos (dt T (Lw.pinP l ts bs j b).2):=by
 unfold Lw.pinP;split
 ·exact L.pt l hb _
 ·exact L.pt l ha _
end
section
variable{P:ahb}{N:Nat}{R:Array Oper}{s:AS}{pos:String}{after:Array Edge}
theorem bT{d f k k2:Nat}{bx bx2:Blk}{args:Array ag8}{ts:Array aha}{xs:List AV}{r:AV}{t:aha}
  (hcon:Con P f xs [(k,some bx),(k2,some bx2)] r [(k,some bx),(k2,some bx2)]) (ha:EvL s args.toList xs) (hne:ab3 k2 k=false) (hk:s.blk k=some bx) (hk2:s.blk k2=some bx2)
  (hok:fA s [(k,some bx),(k2,some bx2)] [(k,some bx),(k2,some bx2)] r=true) (hN:acm d N=true) :
  Step P N R s ⟨some d,.call ⟨.value (.func f),args,ts⟩,t,pos,after,none⟩ ⟨some r,[],cQ args.toList,[k,k2]⟩:=by
 have hne':k2≠k:=fun e=>by rw[e,ab8]at hne;cases hne
 refine Step.weaken (aF (d:=d) hcon ha (fun k' z h=>by
  rcases nU h with⟨rfl,h9⟩ |⟨_,rfl,h9⟩
  ·cases h9;exact hk
  ·cases h9;exact hk2) hok hN) (fun s' h=>h) (fun s' h k' hk'=>?_) (fun s' h=>?_)
 ·left;simp only[agc,cq,agv,map_nil,aft,agd,af8,or_false]at hk' ⊢;rcases hk' with h9 |h9 <;> exact h9
 ·intro C m a w hr;refine ⟨m,hr.weak (fun t x hx=>⟨x,hx,.refl _⟩) (fun k' x hx=>⟨x,?_,.refl _⟩)⟩;have hb:lk s'.hp k=some bx:=(h.2 k (by simp)).trans hk;have hb2:lk s'.hp k2=some bx2:=(h.2 k2 (by simp)).trans hk2;show lk ([(k,some bx),(k2,some bx2)]++cq [(k,some bx),(k2,some bx2)]++s'.hp) k'=some x;have hx':lk s'.hp k'=some x:=hx;simp only [cq,agv,map_nil,cons_append,nil_append,aD]
  by_cases e:k'=k
  ·rw[agz e];rw[e,hb]at hx';exact hx'
  ·rw[agy e]
   by_cases e2:k'=k2
   ·rw[agz e2];rw[e2,hb2]at hx';exact hx'
   ·rw[agy e2,agy e,agy e2];exact hx'
end
def Iy(k:Nat):Nat:=bif ab3 k 1001 then 901 else bif ab3 k 901 then 1001 else k
def TY(F:Int->Bool)(sg:Bool)(f:Sv->List Aq×Nat)(S:List Sv)(i:Nat)(c:List Aq):Prop :=
  i<=S.length/\qV F sg f S=(c++(qV F sg f (S.drop i)).1,(qV F sg f (S.drop i)).2)
section
variable{F:Int->Bool}{sg:Bool}{f:Sv->List Aq×Nat}{S:List Sv}{i:Nat}{c:List Aq}(h:TY F sg f S i c){s:Sv}(hs:S[i]?=some s)
include h hs
end
end Go.Lw
