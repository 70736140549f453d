/- DyadHolds: for anything drawn and any group the law returns true and leaves its arguments as they were. No other condition. Part 6 of 8: what the later parts need -/
import Derived.Test.YtpdiojikejnehaaGreatXe
import Derived.Laws.Cover3
set_option linter.unusedVariables false
open List (mem_of_getElem? mem_append map_cons mem_cons length_cons length_append length_nil getD_eq_getElem?_getD getElem?_append_left getElem?_eq_none all_eq_true getElem?_take getElem?_drop getElem?_map getElem?_append_right getElem?_eq_getElem nil_append map_append length_take take_of_length_le drop_zero take_length map_nil not_mem_nil length_map map_map length_replicate map_replicate map_set length_set)
open Nat (eq_of_beq_eq_true le_refl lt_of_lt_of_le lt_or_ge le_trans zero_le pow_add)
open Option (map_eq_some_iff)
open Bool (and_eq_true)
open Array (getD_eq_getD_getElem?)
open Int (toNat_natCast)
open Go.Proofs.Tryz
namespace Go.Lw
open Go.Proofs
theorem uD{l:Li}{kw:List Bool}(hl:l.ok)(hli:aP l=0)(kind body:Int)(hk:kw.length=l.bo.length) :
  Con prog 245 [l.av,i64 kind,i64 body,.ms 1000 1 0 kw.length] [(1000,some (.row 1 (kw.map bl)))] (i64 (jointI l kind body kw)) [(1000,some (.row 1 (kw.map bl)))]:=by
 refine Con.borrow (args:=[l.av,i64 kind,i64 body,.lst 1 (kw.map bl)]) 1000 1 (kw.map bl) rfl rfl rfl ?_ rfl (fun k' x h=>by cases h) (G4 l hl hli kind body kw hk);intro j x' hj
 match j,hj with
 |0,hj=>cases hj;exact .inl rfl
 |1,hj=>cases hj;exact .inl rfl
 |2,hj=>cases hj;exact .inl rfl
 |3,hj=>cases hj;exact .inr ⟨0,kw.length,rfl,by simp,by rw[drop_zero,take_of_length_le (by simp)];rfl⟩
theorem zN{l:Li}{kw:List Bool}(hl:l.ok)(b:Nat)(hb:b<kw.length) :
  Con prog 246 [l.av,.ms 1000 1 0 kw.length,i64 b] [(1000,some (.row 1 (kw.map bl)))] (bl (freeB l kw b)) [(1000,some (.row 1 (kw.map bl)))]:=by
 refine Con.borrow (args:=[l.av,.lst 1 (kw.map bl),i64 b]) 1000 1 (kw.map bl) rfl rfl rfl ?_ rfl (fun k' x h=>by cases h) (Mp l hl kw b hb);intro j x' hj
 match j,hj with
 |0,hj=>cases hj;exact .inl rfl
 |1,hj=>cases hj;exact .inr ⟨0,kw.length,rfl,by simp,by rw[drop_zero,take_of_length_le (by simp)];rfl⟩
 |2,hj=>cases hj;exact .inl rfl
theorem OO(l:Li)(hl:l.ok)(hli:aP l=0)(kw:List Bool)(hk:kw.length=l.bo.length):Con prog 136 [l.av,.ms 1000 1 0 kw.length] [(1000,some (.row 1 (kw.map bl)))] (.tup [((driverG l kw).getD default).av,bl (driverG l kw).isSome]) [(1000,some (.row 1 (kw.map bl)))]:=by
 have hld:=hl.ld;refine gF func136 (fun k z h=>bH h) ?_;refine gl ?_;refine aZ [2,4,10,11] [2,4,1000] (fun(i:Nat)=>[(1,some (.ms 1000 1 0 kw.length)),(12,some (i64 i))]) (fun _=>[]) (fun i=>i<=l.dv.length/\∀j,j<i->(!drHit l kw j)=true) (fun i=>l.dv.length-i) 0 ⟨zero_le _,fun j h=>by omega⟩ ?_;rintro i ⟨hi,hj⟩ K1 J1;refine gC (fun t13=>?_) (fun t13=>?_)
 ·have hin:=bh t13;obtain ⟨d,hd⟩:=aH hin;have hdd:l.dv.getD i default = d:=aw hd;have hb:=dM (mb hli hd);obtain ⟨v,hv⟩:∃ v,kw[d.body.toNat]? = some v:=aH oz;have ev:kn kw d.body = v:=aw hv;refine gi (aN hd) ?_;refine gs (mi (.tmp rfl) (.tmp rfl) T219 rfl T4 rfl oz oz rfl) ?_;refine gs (ek (.tmp rfl) rfl (by rw [Nat.zero_add,getElem?_map,hv]; rfl) T4 rfl rfl rfl) ?_;refine gC (fun t21=>?_) (fun t21=>?_)
  ·have h2 : drHit l kw i = false := by unfold drHit; rw [hdd, ev, t21]; rfl
   refine ga aV ?_;exact aT J1 (i+1) ⟨hin,fun k h9=>by rcases lt_or_ge k i with g |g;exact hj k g;(have:k=i:=by omega);subst this;rw[h2];rfl⟩
  have hv0:v=false:=t21;refine gt (nF (uD hl hli 0 d.body hk) (.cons (.tmp rfl) (.cons (.const _) (bO rfl rfl))) rfl rfl rfl) ?_;refine gC (fun t28=>?_) (fun t28=>?_)
  ·have h2 : drHit l kw i = true := by unfold drHit; rw [hdd, ev, hv0, decide_eq_true (CW t28)]; rfl
   have hg:driverG l kw=some ⟨0,[d.body],[jointI l 0 d.body kw],i⟩:=by unfold driverG;rw[iW hin hj (by rw[h2];rfl),<- hdd];rfl
   refine gR ?_;rw[hg];exact aJ.keep (br rfl)
  have h2:drHit l kw i=false:=by unfold drHit;rw[hdd,decide_eq_false (IM t28),Bool.and_false]
  refine ga aV ?_;exact aT J1 (i+1) ⟨hin,fun k h9=>by rcases lt_or_ge k i with g |g;exact hj k g;(have:k=i:=by omega);subst this;rw[h2];rfl⟩
 have hin:=bD hi t13;subst hin;have hg:driverG l kw=none:=by unfold driverG;rw[jB hj];rfl
 refine gR ?_;exact aJ.sub (aJ.keep (br rfl)) (by rw[hg];exact Sub.tup (.cons qr (.cons (.refl _) .nil)))
theorem Q2(l:Li)(hl:l.ok)(hli:aP l=0)(kw:List Bool)(hk:kw.length=l.bo.length):Con prog 137 [l.av,.ms 1000 1 0 kw.length] [(1000,some (.row 1 (kw.map bl)))] (.tup [((pairG l kw).getD default).av,bl (pairG l kw).isSome]) [(1000,some (.row 1 (kw.map bl)))]:=by
 have h8:=(dZ hli).2.2.2.1;refine gF func137 (fun k z h=>bH h) ?_;refine gl ?_;refine aZ [2,4,12,13] [2,4,1000] (fun(i:Nat)=>[(1,some (.ms 1000 1 0 kw.length)),(14,some (i64 i))]) (fun _=>[]) (fun i=>i<=l.bo.length/\∀j,j<i->(prAt l kw j).isNone=true) (fun i=>l.bo.length-i) 0 ⟨zero_le _,fun j h=>by omega⟩ ?_;rintro i ⟨hi,hj⟩ K1 J1;refine gC (fun t15=>?_) (fun t15=>?_)
 ·have hin:=bh t15;refine ga aV ?_;refine aZ [2,4,6,12,13,14] [2,4,1000] (fun (k:Nat)=>[(1,some (.ms 1000 1 0 kw.length)),(7,some (i64 (i + 1 + k:Nat)))]) (fun _=>[]) (fun k=>i + 1 + k <= l.bo.length /\ ∀ j,j < k -> (!prHit l kw i (i + 1 + j)) = true) (fun k=>l.bo.length - k) 0 ⟨by omega,fun j h=>by omega⟩ ?_;rintro k ⟨hkl,hkj⟩ K2 J2;refine gl ?_;refine gC (fun t23=>?_) (fun t23=>?_)
  ·have hkn:i+1+k<l.bo.length:=bh t23;refine gt (nF (zN hl i oz) (aF rfl rfl rfl) rfl rfl rfl) ?_;refine gu (eJ rfl rfl rfl (fun h=>nF (zN hl (i+1+k) oz) (.cons (.opt rfl (o1 h)) (.cons (.opt rfl (o1 h)) (.cons (.opt rfl (o1 h)) .nil))) rfl rfl rfl)) ?_;refine gC (fun t37=>?_) (fun t37=>?_)
   ·have h2 : prHit l kw i (i + 1 + k) = false := by unfold prHit; rw [show (freeB l kw i && freeB l kw ((i + 1 + k : Nat) : Int)) = false from by rcases oD t37 with g | g; (rw [g]; rfl); (rw [g, Bool.and_false])]; rfl
    refine ga aV ?_;exact aT J2 (k+1) ⟨by omega,fun j h9=>by rcases lt_or_ge j k with g |g;exact hkj j g;(have:j=k:=by omega);subst this;rw[h2];rfl⟩
   have hff:=oU t37;refine gt (nF (uD hl hli 0 i hk) (.cons (.tmp rfl) (.cons (.const _) (bO rfl rfl))) rfl rfl rfl) ?_;refine gt (nF (uD hl hli 0 (i+1+k:Nat) hk) (.cons (.tmp rfl) (.cons (.const _) (bO rfl rfl))) rfl rfl rfl) ?_;refine gc (Lc l oz (i+1+k) hkn) ?_;refine gc (G4 l hl hli 0 i (dq l.bo.length ((i+1+k:Nat):Int)) (jv _ _)) ?_;refine gD ?_;refine gC (fun t61=>?_) (fun t61=>?_)
   ·have h2 : prHit l kw i (i + 1 + k) = true := by unfold prHit; rw [hff.1, hff.2]; exact (uU.symm.trans t61)
    have hat:prAt l kw i=some (i+1+k):=by unfold prAt;rw[iW oz hkj (by rw[h2];rfl),Option.map_some];congr 1;omega
    have hg:pairG l kw=some (prG l kw i (i+1+k)):=by unfold pairG;rw[iW hin hj (by rw[hat];rfl),Option.map_some,hat]
    refine gR ?_;rw[hg];exact aJ.keep (br rfl)
   have h2:prHit l kw i (i+1+k)=false:=by unfold prHit;rw[show(decide (0<=jointI l 0 i kw)&&decide (0<=jointI l 0 ((i+1+k:Nat):Int) kw)&&decide (0<=jointI l 0 i (dq l.bo.length ((i+1+k:Nat):Int))))=false from uU.symm.trans t61,Bool.and_false]
   refine ga aV ?_;exact aT J2 (k+1) ⟨by omega,fun j h9=>by rcases lt_or_ge j k with g |g;exact hkj j g;(have:j=k:=by omega);subst this;rw[h2];rfl⟩
  have hkn:¬i+1+k<l.bo.length:=fun h=>by have h1:=uz t23;omega
  have hat:prAt l kw i=none:=by unfold prAt;rw[show l.bo.length-(i+1)=k by omega,jB hkj];rfl
  refine ga aV ?_;exact aT J1 (i+1) ⟨hin,fun j h9=>by rcases lt_or_ge j i with g |g;exact hj j g;(have:j=i:=by omega);subst this;rw[hat];rfl⟩
 have hin:=bD hi t15;have hg:pairG l kw=none:=by unfold pairG;rw[<- hin,jB hj];rfl
 refine gR ?_;exact aJ.sub (aJ.keep (br rfl)) (by rw[hg];exact Sub.tup (.cons qr (.cons (.refl _) .nil)))
theorem QW(l:Li)(hl:l.ok)(hli:aP l=0)(kw:List Bool)(hk:kw.length=l.bo.length):Con prog 138 [l.av,.ms 1000 1 0 kw.length] [(1000,some (.row 1 (kw.map bl)))] (.tup [((singleG l kw).getD default).av,bl (singleG l kw).isSome]) [(1000,some (.row 1 (kw.map bl)))]:=by
 have h8:=(dZ hli).2.2.2.1;refine gF func138 (fun k z h=>bH h) ?_;refine gl ?_;refine aZ [2,4,11,12] [2,4,1000] (fun(i:Nat)=>[(1,some (.ms 1000 1 0 kw.length)),(13,some (i64 i))]) (fun _=>[]) (fun i=>i<=l.bo.length/\∀j,j<i->(!sgHit l kw j)=true) (fun i=>l.bo.length-i) 0 ⟨zero_le _,fun j h=>by omega⟩ ?_;rintro i ⟨hi,hj⟩ K1 J1;refine gC (fun t14=>?_) (fun t14=>?_)
 ·have hin:=bh t14;refine gt (nF (zN hl i oz) (aF rfl rfl rfl) rfl rfl rfl) ?_;refine gC (fun t20=>?_) (fun t20=>?_)
  ·have h2 : sgHit l kw i = false := by unfold sgHit; rw [dF t20]; rfl
   refine ga aV ?_;exact aT J1 (i+1) ⟨hin,fun k h9=>by rcases lt_or_ge k i with g |g;exact hj k g;(have:k=i:=by omega);subst this;rw[h2];rfl⟩
  have hf:=dw t20;refine gt (nF (uD hl hli 0 i hk) (.cons (.tmp rfl) (.cons (.const _) (bO rfl rfl))) rfl rfl rfl) ?_;refine gt (nF (uD hl hli 1 i hk) (.cons (.tmp rfl) (.cons (.const _) (bO rfl rfl))) rfl rfl rfl) ?_;refine gD ?_;refine gC (fun t34=>?_) (fun t34=>?_)
  ·have h2 : sgHit l kw i = false := by unfold sgHit; rw [F0 t34, Bool.and_false]
   refine ga aV ?_;exact aT J1 (i+1) ⟨hin,fun k h9=>by rcases lt_or_ge k i with g |g;exact hj k g;(have:k=i:=by omega);subst this;rw[h2];rfl⟩
  obtain⟨p0,s0⟩:=G7 t34;have s1:=(n8 (l:=l) (kind:=1) (body:=i) (oth:=kw)).2;have h2:sgHit l kw i=true:=by unfold sgHit;rw[hf,decide_eq_true p0,decide_eq_true s0];rfl
  obtain⟨j,hjt⟩:∃j,l.jo[(jointI l 1 i kw).toNat]?=some j:=aH oz;have hjd:l.jo.getD (jointI l 1 i kw).toNat default=j:=aw hjt;have hg:singleG l kw=some (sgG l kw i):=by unfold singleG;rw[iW hin hj (by rw[h2];rfl),Option.map_some]
  refine gi (fD (n:=(jointI l 1 i kw).toNat) oz hjt) ?_;refine gC (fun t42=>?_) (fun t42=>?_)
  ·have hji:j.a=i:=cB t42;refine gR ?_;rw[hg];unfold sgG;rw[hjd];simp only[Option.getD_some,if_pos hji]
   exact aJ.keep (br rfl)
  have hji:j.a≠i:=cK t42;refine gR ?_;rw[hg];unfold sgG;rw[hjd];simp only[Option.getD_some,if_neg hji]
  exact aJ.keep (br rfl)
 have hin:=bD hi t14;have hg:singleG l kw=none:=by unfold singleG;rw[<- hin,jB hj];rfl
 refine gR ?_;exact aJ.sub (aJ.keep (br rfl)) (by rw[hg];exact Sub.tup (.cons qr (.cons (.refl _) .nil)))
theorem yh{k:List Bool}{bs:List Int}{q:Nat}{x:Int}(h:bs[q]?=some x):bW k (bs.drop q)=bW (k.set x.toNat true) (bs.drop (q+1)):=by
 have hi:=(List.getElem?_eq_some_iff.1 h).1;rw[List.drop_eq_getElem_cons hi,(List.getElem?_eq_some_iff.1 h).2];rfl
theorem L8{l:Li}{n:Nat}{kw:List Bool}{out:List Gr}{g:Gr}(h:nextG l kw=some g):findFrom l (n+1) kw out=findFrom l n (bW kw g.bo) (out++[g]):=by
 show(match nextG l kw with |none=>_ |some g=>_)=_;rw[h]
theorem O4{l:Li}{n:Nat}{kw:List Bool}{out:List Gr}(h:nextG l kw=none):findFrom l n kw out=(kw,out):=by
 cases n with
 |zero=>rfl
 |succ n=>show(match nextG l kw with |none=>_ |some g=>_)=_;rw[h]
theorem x4{α:Type}{o:Option α}(h:o.isSome=false):o=none:=by cases o <;> simp_all
theorem Fk{α:Type}{a b:Option α}(h:a.isSome=true):a=a.or b:=by cases a <;> simp_all
theorem Qu{l:Li}{kw:List Bool}(h:(driverG l kw).or (pairG l kw)=none):nextG l kw=singleG l kw:=by
 unfold nextG;rw[<- Option.or_assoc,h];rfl
theorem UV{l:Li}{kw:List Bool}(h:((driverG l kw).or (pairG l kw)).isSome=true):nextG l kw=(driverG l kw).or (pairG l kw):=by
 unfold nextG;rw[<- Option.or_assoc];exact(Fk h).symm
theorem FA(l:Li)(hl:l.ok)(hli:aP l=0):FP 59 [l.av] (.lst 4 ((findG l).map Gr.av)):=by
 have h8:=(dZ hli).2.2.2.1;have h0:=(dZ hli).2.2.2.2;refine aj func59 ?_;refine gt (aI (zC 900 rfl l oz 0 oz) (.cons (.tmp rfl) (.cons (.const _) .nil)) aL rfl rfl) ?_;refine gl ?_;refine gW (Wk.virt 901 4 rfl) ?_;refine jb [1,13] [1] (fun(i:Nat)(kw:List Bool)(out:List Gr)=>[(3,some (.ms 900 1 0 kw.length)),(4,some (.ms 901 4 0 out.length)),(14,some (i64 i))]) (fun _ kw out=>[(900,some (.row 1 (kw.map bl))),(901,some (.row 4 (out.map Gr.av)))]) (fun i kw out=>i<=l.bo.length/\kw.length=l.bo.length/\out.length<=i/\findFrom l (l.bo.length-i) kw out=findFrom l l.bo.length (dq l.bo.length 0) []) (fun i _ _=>l.bo.length-i) 0 (dq l.bo.length 0) ([]) ⟨zero_le _,jv _ _,le_refl _,rfl⟩ ?_ (h1:=(.cons rfl (Sub.of (by rw[jv])) (.k (.k .nil))))
 rintro i kw out ⟨hi,hk,hol,hff⟩ K1 J1;refine gC (fun t15=>?_) (fun t15=>?_) (st2:=(18,0))
 ·have hin:=bh t15;have hd1:=Con.rekey1 900 rfl rfl rfl (OO l hl hli kw hk);have hp1:=Con.rekey1 900 rfl rfl rfl (Q2 l hl hli kw hk);have hs1:=Con.rekey1 900 rfl rfl rfl (QW l hl hli kw hk);refine gt (aI hd1 (bO rfl rfl) aL rfl rfl) ?_;refine BF [1,5,13,14] [1,900,901] (fun(o:Option Gr)=>[(3,some (.ms 900 1 0 kw.length)),(4,some (.ms 901 4 0 out.length)),(6,some (bl o.isSome))]) (fun o=>[(5,some (.box (o.getD default).av.cells))]) (fun o=>o=(driverG l kw).or (pairG l kw)) ?_ ?_
  ·intro K2 J2;refine gC (fun t23=>?_) (fun t23=>?_)
   ·refine gt (aI hp1 (bO rfl rfl) aL rfl rfl) ?_;exact qo J2 (pairG l kw) (by rw[x4 (dF t23)];rfl)
   exact qo J2 (driverG l kw) (Fk (dw t23))
  rintro o ho;refine BF [1,5,13,14] [1,900,901] (fun(og:Option Gr)=>[(3,some (.ms 900 1 0 kw.length)),(4,some (.ms 901 4 0 out.length)),(6,some (bl og.isSome))]) (fun og=>[(5,some (.box (og.getD default).av.cells))]) (fun og=>og=nextG l kw) ?_ ?_
  ·intro K3 J3;refine gC (fun t31=>?_) (fun t31=>?_)
   ·refine gt (aI hs1 (bO rfl rfl) aL rfl rfl) ?_;exact qo J3 (singleG l kw) (by have:=x4 (dF t31);rw[ho]at this;exact(Qu this).symm)
   exact qo J3 o (by rw[ho];exact(UV (by rw[<- ho];exact dw t31)).symm)
  rintro og hog;refine gC (fun t39=>?_) (fun t39=>?_) (st1:=(18,0))
  ·have hn : nextG l kw = none := by rw [<- hog]; exact x4 (dF t39)
   have hfin:findG l=out:=by unfold findG;rw[<- hff,O4 hn]
   refine gW ((Wk.freeze (k:=901) rfl).trans<|Wk.of (sl:=[(4,some (.lst 4 ((findG l).map Gr.av)))]) (hp:=[]) (.cons rfl (Sub.of (by rw[hfin,cr (by rw[length_map])])) .nil) .nil) ?_;refine af ?_;rfl
  obtain⟨g,hg⟩:∃g,og=some g:=Option.isSome_iff_exists.1 (dw t39);have hng:nextG l kw=some g:=by rw[<- hog,hg]
  have hgo:=yL hli hng;subst hg;refine gs (de (.tmp rfl) rfl (by rw[length_map]) (.tmp rfl) T32 rfl T53 rfl rfl (by dsimp only;simp only[length_cons,length_nil];omega) rfl rfl) ?_ (12,0);refine gW (Wk.of (sl:=[(1,some (.ptr 1 0)),(3,some (.ms 900 1 0 kw.length)),(4,some (.ms 43 4 0 (out++[g]).length)),(5,some (.ptr 5 0)),(13,some (i64 l.bo.length)),(14,some (i64 i))]) (hp:=[(1,some (.box l.av.cells)),(5,some (.box g.av.cells)),(900,some (.row 1 (kw.map bl))),(43,some (.row 4 ((out++[g]).map Gr.av)))]) (.k (.k (.cons rfl (Sub.of (by rw[length_append];rfl)) (.k (.k (.k .nil)))))) (.k (.k (.k (.cons rfl (BlkSub.of (by rw[map_append];rfl)) .nil))))) ?_ (12,0)
  refine gW (Wk.rk (k:=43) (d:=901) rfl rfl) ?_;refine gl ?_;refine ic [1,13,14,45,46] [1,901] (fun(q:Nat)(kk:List Bool)=>[(3,some (.ms 900 1 0 kk.length)),(4,some (.ms 901 4 0 (out++[g]).length)),(47,some (i64 q))]) (fun _ kk=>[(900,some (.row 1 (kk.map bl)))]) (fun q kk=>q<=g.bo.length/\kk.length=l.bo.length/\bW kk (g.bo.drop q)=bW kw g.bo) (fun q _=>g.bo.length-q) 0 kw ⟨zero_le _,hk,rfl⟩ ?_;rintro q kk ⟨hq,hkk,hmk⟩ K4 J4;refine gC (fun t48=>?_) (fun t48=>?_)
  ·have hqn:=bh t48;obtain⟨x,hx⟩:=aH hqn;have hxb:=hgo.b x (mem_of_getElem? hx);obtain⟨v,hv⟩:∃v,kk[x.toNat]?=some v:=aH oz;refine gi (aN hx) ?_;refine gs (mi (.tmp rfl) (.tmp rfl) T219 rfl T4 rfl oz oz rfl) ?_;refine gs (dA (.tmp rfl) rfl (by rw[Nat.zero_add,getElem?_map,hv];rfl) rfl (.const _) rfl rfl T4 rfl rfl) ?_;refine ga (IH (by have:=hgo.lb;unfold a7;omega)) ?_;exact hO J4 (q+1) (kk.set x.toNat true) ⟨hqn,by rw[length_set];exact hkk,by rw[<- yh hx];exact hmk⟩ (hw:=Wk.of (.cons rfl (Sub.of (by rw[length_set])) (.k (.k (.k (.k (.k (.k (.k .nil)))))))) (.cons rfl (BlkSub.of (by rw[map_set,Nat.zero_add];rfl)) (.k (.k .nil))))
  have hqn:=bD hq t48;have hmk2:kk=bW kw g.bo:=by rw[hqn,List.drop_length]at hmk;exact hmk
  refine ga aV ?_;exact gQ J1 (i+1) kk (out++[g]) ⟨hin,hkk,by rw[length_append];simp only[length_cons,length_nil];omega,by rw[hmk2,<- L8 hng,<- hff];congr 1;omega⟩
 have hin:=bD hi t15;have hfin:findG l=out:=by unfold findG;rw[<- hff,show l.bo.length-i=0 by omega];rfl
 refine gW ((Wk.freeze (k:=901) rfl).trans<|Wk.of (sl:=[(4,some (.lst 4 ((findG l).map Gr.av)))]) (hp:=[]) (.cons rfl (Sub.of (by rw[hfin,cr (by rw[length_map])])) .nil) .nil) ?_;refine af ?_;rfl
theorem FM{α:Type}{f:List Bool->α->List Bool}{k:List Bool}{l:List α}{i:Nat}{x:α}(h:l[i]?=some x):(l.drop i).foldl f k=(l.drop (i+1)).foldl f (f k x):=by
 have hi:=(List.getElem?_eq_some_iff.1 h).1;rw[List.drop_eq_getElem_cons hi,(List.getElem?_eq_some_iff.1 h).2];rfl
def gU(k:List Bool)(i:Nat):List Int:=((List.range i).filter (fun j=>!k.getD j false)).map (fun j:Nat=>((j:Nat):Int))
theorem EQ{k:List Bool}{i:Nat}(h:k.getD i false=false):gU k (i+1)=gU k i++[(i:Int)]:=by
 unfold gU;rw[List.range_succ,List.filter_append,map_append,List.filter_cons,h];rfl
theorem Gf{k:List Bool}{i:Nat}(h:k.getD i false=true):gU k (i+1)=gU k i:=by
 unfold gU;rw[List.range_succ,List.filter_append,map_append,List.filter_cons,h];simp
theorem wl(k:List Bool)(i:Nat):(gU k i).length<=i:=by
 unfold gU;rw[length_map];exact le_trans (List.length_filter_le _ _) (by simp)
theorem rP{α:Type}{f:α->List Int}:∀(gs:List α)(k:List Bool),(gs.foldl (fun k g=>bW k (f g)) k).length=k.length
 |[],k=>rfl
 |g::gs,k=>by rw[List.foldl_cons,rP gs,k8]
theorem KQ(l:Li):(fV (cP l)).length<=l.bo.length:=by
 have h:=wl (cP l) (cP l).length;have e:(cP l).length=l.bo.length:=by unfold cP;rw[rP,jv]
 rw[e]at h;unfold fV;rw[e];exact h
theorem Oo(l:Li):(fV (fe l)).length<=l.jo.length:=by
 have h:=wl (fe l) (fe l).length;have e:(fe l).length=l.jo.length:=by unfold fe;rw[rP,length_replicate]
 rw[e]at h;unfold fV;rw[e];exact h
theorem To(l:Li)(hl:l.ok)(hli:aP l=0):FP 58 [l.av] (.tup [.lst 1 ((fV (cP l)).map i64),.lst 1 ((fV (fe l)).map i64)]):=by
 have h8:=(dZ hli).2.2.2.1;have h0:=(dZ hli).2.2.2.2;have hj16:l.jo.length<=16:=by have:=(dZ hli).2.1;unfold eM at this;split at this;cases this;omega
 obtain⟨hgo,hgl⟩:=sW hli;refine aj func58 ?_;refine gt (aI (zC 900 rfl l oz 0 oz) (.cons (.tmp rfl) (.cons (.const _) .nil)) aL rfl rfl) ?_;refine gl ?_;refine gs (iL (.tmp rfl) T219 rfl T4 rfl rfl oz (by dsimp only;omega) rfl) ?_;refine gD ?_ (2,0);refine gW (Wk.of (sl:=[(1,some (.ptr 1 0)),(2,some (nS)),(3,some (nS)),(4,some (.ms 900 1 0 (dq l.bo.length 0).length)),(5,some (.ms 21 1 0 (List.replicate l.jo.length false).length))]) (hp:=[(1,some (.box l.av.cells)),(900,some (.row 1 ((dq l.bo.length 0).map bl))),(21,some (.row 1 ((List.replicate l.jo.length false).map bl)))]) (.k (.k (.k (.cons rfl (Sub.of (by rw[jv])) (.cons rfl (Sub.of (by rw[length_replicate,toNat_natCast])) .nil))))) (.k (.k (.cons rfl (BlkSub.of (by rw[map_replicate,toNat_natCast];rfl)) .nil)))) ?_ (2,0)
 refine gW (Wk.rk (k:=21) (d:=901) rfl rfl) ?_;refine gc (FA l hl hli) ?_;refine gl ?_;refine jb [1,2,3,23,24] [1] (fun(i:Nat)(k1 k2:List Bool)=>[(4,some (.ms 900 1 0 k1.length)),(5,some (.ms 901 1 0 k2.length)),(25,some (i64 i))]) (fun _ k1 k2=>[(900,some (.row 1 (k1.map bl))),(901,some (.row 1 (k2.map bl)))]) (fun i k1 k2=>i<=(findG l).length/\k1.length=l.bo.length/\k2.length=l.jo.length/\((findG l).drop i).foldl (fun k g=>bW k g.bo) k1=cP l/\((findG l).drop i).foldl (fun k g=>bW k g.jo) k2=fe l) (fun i _ _=>(findG l).length-i) 0 (dq l.bo.length 0) (List.replicate l.jo.length false) ⟨zero_le _,jv _ _,length_replicate,rfl,rfl⟩ ?_
 rintro i k1 k2 ⟨hi,hk1,hk2,hf1,hf2⟩ K1 J1;refine gC (fun t26=>?_) (fun t26=>?_)
 ·have hin:=bh t26;obtain⟨g,hg⟩:=aH hin;have hgk:=hgo g (mem_of_getElem? hg);have hlb:=hgk.lb;have hlj:=hgk.lj;refine gi (aN hg) ?_;refine gl ?_;refine ic [1,2,3,7,23,24,25,30,31] [1,7,901] (fun(q:Nat)(kk:List Bool)=>[(4,some (.ms 900 1 0 kk.length)),(5,some (.ms 901 1 0 k2.length)),(32,some (i64 q))]) (fun _ kk=>[(900,some (.row 1 (kk.map bl)))]) (fun q kk=>q<=g.bo.length/\kk.length=l.bo.length/\bW kk (g.bo.drop q)=bW k1 g.bo) (fun q _=>g.bo.length-q) 0 k1 ⟨zero_le _,hk1,rfl⟩ ?_;rintro q kk ⟨hq,hkk,hmk⟩ K2 J2;refine gC (fun t33=>?_) (fun t33=>?_)
  ·have hqn:=bh t33;obtain⟨x,hx⟩:=aH hqn;have hxb:=hgk.b x (mem_of_getElem? hx);obtain⟨v,hv⟩:∃v,kk[x.toNat]?=some v:=aH oz;refine gi (aN hx) ?_;refine gs (mi (.tmp rfl) (.tmp rfl) T219 rfl T4 rfl oz oz rfl) ?_;refine gs (dA (.tmp rfl) rfl (by rw[Nat.zero_add,getElem?_map,hv];rfl) rfl (.const _) rfl rfl T4 rfl rfl) ?_;refine ga aV ?_;exact hO J2 (q+1) (kk.set x.toNat true) ⟨hqn,by rw[length_set];exact hkk,by rw[<- yh hx];exact hmk⟩ (hw:=Wk.of (.cons rfl (Sub.of (by rw[length_set])) (.k (.k (.k (.k (.k (.k (.k (.k (.k (.k (.k .nil)))))))))))) (.cons rfl (BlkSub.of (by rw[map_set,Nat.zero_add];rfl)) (.k (.k (.k .nil)))))
  have hqn:=bD hq t33;have hmk2:kk=bW k1 g.bo:=by rw[hqn,List.drop_length]at hmk;exact hmk
  refine gl ?_;refine ic [1,2,3,23,24,25,41,42] [1,900] (fun(p:Nat)(jj:List Bool)=>[(4,some (.ms 900 1 0 kk.length)),(5,some (.ms 901 1 0 jj.length)),(43,some (i64 p))]) (fun _ jj=>[(901,some (.row 1 (jj.map bl)))]) (fun p jj=>p<=g.jo.length/\jj.length=l.jo.length/\bW jj (g.jo.drop p)=bW k2 g.jo) (fun p _=>g.jo.length-p) 0 k2 ⟨zero_le _,hk2,rfl⟩ ?_;rintro p jj ⟨hp,hjj,hmj⟩ K3 J3;refine gC (fun t44=>?_) (fun t44=>?_)
  ·have hpn:=bh t44;obtain⟨x,hx⟩:=aH hpn;have hxb:=hgk.j x (mem_of_getElem? hx);obtain⟨v,hv⟩:∃v,jj[x.toNat]?=some v:=aH oz;refine gi (aN hx) ?_;refine gs (mi (.tmp rfl) (.tmp rfl) T219 rfl T4 rfl oz oz rfl) ?_;refine gs (dA (.tmp rfl) rfl (by rw[Nat.zero_add,getElem?_map,hv];rfl) rfl (.const _) rfl rfl T4 rfl rfl) ?_;refine ga aV ?_;exact hO J3 (p+1) (jj.set x.toNat true) ⟨hpn,by rw[length_set];exact hjj,by rw[<- yh hx];exact hmj⟩ (hw:=Wk.of (.k (.cons rfl (Sub.of (by rw[length_set])) (.k (.k (.k (.k (.k (.k (.k (.k (.k .nil))))))))))) (.cons rfl (BlkSub.of (by rw[map_set,Nat.zero_add];rfl)) (.k (.k .nil))))
  have hpn:=bD hp t44;have hmj2:jj=bW k2 g.jo:=by rw[hpn,List.drop_length]at hmj;exact hmj
  refine ga aV ?_;exact gQ J1 (i+1) kk jj ⟨hin,hkk,hjj,by rw[hmk2,<- hf1,FM hg],by rw[hmj2,<- hf2,FM hg]⟩
 have hin:=bD hi t26;have e1:k1=cP l:=by rw[hin,List.drop_length]at hf1;exact hf1
 have e2:k2=fe l:=by rw[hin,List.drop_length]at hf2;exact hf2
 refine gW (Wk.virt 902 1 rfl) ?_;refine aZ [3,53] [900,901] (fun(i:Nat)=>[(2,some (.ms 902 1 0 (gU k1 i).length)),(5,some (.ms 901 1 0 k2.length)),(52,some (.ms 900 1 0 k1.length)),(54,some (i64 i))]) (fun i=>[(902,some (.row 1 ((gU k1 i).map i64)))]) (fun i=>i<=k1.length) (fun i=>k1.length-i) 0 (zero_le _) ?_;rintro i ha K4 J4;refine gC (fun t55=>?_) (fun t55=>?_) (st2:=(22,0))
 ·have hin6:=bh t55;obtain ⟨v,hv⟩:=aH hin6;have hvd:k1.getD i false = v:=aw hv;have hul:=wl k1 i;refine gs (mi (.tmp rfl) (.tmp rfl) T219 rfl T4 rfl oz oz rfl) ?_;refine gs (ek (.tmp rfl) rfl (by rw [Nat.zero_add,toNat_natCast,getElem?_map,hv]; rfl) T4 rfl rfl rfl) ?_;refine gC (fun t60=>?_) (fun t60=>?_)
  ·have hu := EQ (k := k1) (i := i) (by rw [hvd]; exact dF t60);refine gs (de (.tmp rfl) rfl (by rw [length_map]) (.tmp rfl) T39 rfl T3 rfl rfl (by dsimp only; simp only [length_cons,length_nil]; omega) rfl rfl) ?_ (21,0);refine gW (Wk.of (sl:=[(2,some (.ms 64 1 0 (gU k1 (i + 1)).length)),(3,some (nS)),(5,some (.ms 901 1 0 k2.length)),(52,some (.ms 900 1 0 k1.length)),(53,some (i64 k1.length)),(54,some (i64 i))]) (hp:=[(900,some (.row 1 (k1.map bl))),(901,some (.row 1 (k2.map bl))),(64,some (.row 1 ((gU k1 (i + 1)).map i64)))]) (.cons rfl (Sub.of (by rw [hu,length_append]; rfl)) (.k (.k (.k (.k (.k .nil)))))) (.k (.k (.cons rfl (BlkSub.of (by rw [hu,map_append]; rfl)) .nil)))) ?_ (21,0)
   refine gW (Wk.rk (k:=64) (d:=902) rfl rfl) ?_;refine ga aV ?_;exact aT J4 (i+1) hin6 (hw:=Wk.of (.cons rfl (Sub.of (by first |rw[hu];done |rfl)) (.k (.k (.k (.k (.k .nil)))))) (.cons rfl (BlkSub.of (by first |rw[hu];done |rfl)) (.k (.k .nil))))
  have hu:=Gf (k:=k1) (i:=i) (by rw[hvd];exact dw t60);refine ga aV ?_;exact aT J4 (i+1) hin6 (hw:=Wk.of (.cons rfl (Sub.of (by first |rw[hu];done |rfl)) (.k (.k (.k (.k (.k .nil)))))) (.cons rfl (BlkSub.of (by first |rw[hu];done |rfl)) (.k (.k .nil))))
 have hin6:=bD ha t55;refine gW ((Wk.freeze (k:=902) rfl).trans<|Wk.of (sl:=[(2,some (.lst 1 ((fV (cP l)).map i64))),(3,some (nS)),(5,some (.ms 901 1 0 k2.length))]) (hp:=[(901,some (.row 1 (k2.map bl)))]) (.cons rfl (Sub.of (by rw[cr (by rw[length_map]),hin6,e1];rfl)) (.k (.k .nil))) (.k .nil)) ?_;refine gW (Wk.virt 902 1 rfl) ?_;refine aZ [2,67] [901] (fun(i:Nat)=>[(3,some (.ms 902 1 0 (gU k2 i).length)),(66,some (.ms 901 1 0 k2.length)),(68,some (i64 i))]) (fun i=>[(902,some (.row 1 ((gU k2 i).map i64)))]) (fun i=>i<=k2.length) (fun i=>k2.length-i) 0 (zero_le _) ?_;rintro i hb K5 J5;refine gC (fun t69=>?_) (fun t69=>?_) (st2:=(28,0))
 ·have hin8:=bh t69;obtain ⟨v,hv⟩:=aH hin8;have hvd:k2.getD i false = v:=aw hv;have hul:=wl k2 i;refine gs (mi (.tmp rfl) (.tmp rfl) T219 rfl T4 rfl oz oz rfl) ?_;refine gs (ek (.tmp rfl) rfl (by rw [Nat.zero_add,toNat_natCast,getElem?_map,hv]; rfl) T4 rfl rfl rfl) ?_;refine gC (fun t74=>?_) (fun t74=>?_)
  ·have hu := EQ (k := k2) (i := i) (by rw [hvd]; exact dF t74);refine gs (de (.tmp rfl) rfl (by rw [length_map]) (.tmp rfl) T39 rfl T3 rfl rfl (by dsimp only; simp only [length_cons,length_nil]; omega) rfl rfl) ?_ (27,0);refine gW (Wk.of (sl:=[(2,some (.lst 1 ((fV (cP l)).map i64))),(3,some (.ms 78 1 0 (gU k2 (i + 1)).length)),(66,some (.ms 901 1 0 k2.length)),(67,some (i64 k2.length)),(68,some (i64 i))]) (hp:=[(901,some (.row 1 (k2.map bl))),(78,some (.row 1 ((gU k2 (i + 1)).map i64)))]) (.k (.cons rfl (Sub.of (by rw [hu,length_append]; rfl)) (.k (.k (.k .nil))))) (.k (.cons rfl (BlkSub.of (by rw [hu,map_append]; rfl)) .nil))) ?_ (27,0)
   refine gW (Wk.rk (k:=78) (d:=902) rfl rfl) ?_;refine ga aV ?_;exact aT J5 (i+1) hin8 (hw:=Wk.of (.cons rfl (Sub.of (by first |rw[hu];done |rfl)) (.k (.k (.k (.k .nil))))) (.cons rfl (BlkSub.of (by first |rw[hu];done |rfl)) (.k .nil)))
  have hu:=Gf (k:=k2) (i:=i) (by rw[hvd];exact dw t74);refine ga aV ?_;exact aT J5 (i+1) hin8 (hw:=Wk.of (.cons rfl (Sub.of (by first |rw[hu];done |rfl)) (.k (.k (.k (.k .nil))))) (.cons rfl (BlkSub.of (by first |rw[hu];done |rfl)) (.k .nil)))
 have hin8:=bD hb t69;refine gW ((Wk.freeze (k:=902) rfl).trans<|Wk.of (sl:=[(2,some (.lst 1 ((fV (cP l)).map i64))),(3,some (.lst 1 ((fV (fe l)).map i64)))]) (hp:=[]) (.k (.cons rfl (Sub.of (by rw[cr (by rw[length_map]),hin8,e2];rfl)) .nil)) .nil) ?_;refine bE ?_;rfl
theorem BL(l:Li)(hl:l.ok)(hli:aP l=0):FP 16 [l.av] (.tup [.lst 4 ((splitG l).map Gr.av),i64 (splitE l)]):=by
 have h8:=(dZ hli).2.2.2.1;have hj16:l.jo.length<=16:=by have:=(dZ hli).2.1;unfold eM at this;split at this;cases this;omega
 have u1:=KQ l;have u2:=Oo l;refine aj func16 ?_;refine gc (To l hl hli) ?_;refine gl ?_;refine gl ?_;refine ga (db oz) ?_;refine gC (fun t16=>?_) (fun t16=>?_)
 ·have h1:0 < (fV (cP l)).length + (fV (fe l)).length:=jl t16;have hE:splitE l = 7:=by unfold splitE; rw [if_neg oz]
  refine gR ?_;exact d7 (by unfold splitG;rw[if_neg (by rw[hE];decide),hE];exact Sub.tup (.cons (.nil _ _ _) (.cons (.refl _) .nil)))
 have h1:(fV (cP l)).length+(fV (fe l)).length<=0:=kc t16;have hE:splitE l=0:=by unfold splitE;rw[if_pos oz]
 refine gc (FA l hl hli) ?_;refine bE ?_;unfold splitG;rw[if_pos hE,hE];rfl
variable{P:Program}{N:Nat}{R:Array Oper}{s:AS}{pos:String}{after:Array Edge}
theorem AX{d:Nat}{x:Operand}{n:Nat}{z:Value}{T E t:TypeId}{ti te:TI}(hx:Ev s x (.v (.int .i64 n)))
    (hT:aE P T=some ti) (hk:ti.k=.slice E) (hE:aE P E=some te) (hz:te.zero=[z]) (hz1:z.oneCell'=true) (hs:Nat.beq te.size 1=true) (hbb:Nat.blt 0 te.bytes=true)
    (hb:(n:Int)*te.bytes<=281474976710656) (hN:Nat.blt d N=true) :
    Step P N R s ⟨some d,.makeSlice T x x,t,pos,after,none⟩
      ⟨some (.ms d 1 0 n),[(d,some (.vec (List.replicate n z)))],ay x,[]⟩ :=
  sZ rfl rfl hN (by simp) fun s' hag hfr C m a w hr => by
    have hxv:=oI hr (hx.agree hag (fun _ h=>h));have hs:=eq_of_beq_eq_true hs;rw[Nat.blt_eq]at hbb;obtain⟨d2,h3,h4,-,-⟩:=dS hT w;obtain rfl:=jd (h4.trans hk);obtain⟨zv,h5,h6⟩:=si hE w;obtain⟨ie,h7,h8,-⟩:=Eu hE w;have h6':zv.cells.toList=[z]:=h6.trans hz;have hzc:zv.cells=#[z]:=by rw[<- Array.toArray_toList (xs:=zv.cells),h6']
    have hnb:(n:Int)<=281474976710656:=by
      have:(n:Int)*1<=n*te.bytes:=Int.mul_le_mul_of_nonneg_left oz oz;omega
    have hw1:IntKind.i64.wrap (n:Int)=n:=IntWalk.i64_in n oz;obtain⟨zero,hzero⟩:∃zero:Array Value,zero=(if n*te.size=0 then #[]else zv.cells):=⟨_,rfl⟩
    refine⟨.slice (some ⟨w.heap.size,0,none⟩) n n,(Array.range (n*te.size)).map (zero[· % zero.size]!),E,w.drawn,?_,?_,?_,?_⟩
    · have hmk:(Instr.makeSlice T (.int .i64 n) (.int .i64 n)).run P w =
          .ok (.slice (some ⟨w.heap.size,0,none⟩) n n) { w with heap:=w.heap.push (.cells ((Array.range (n*te.size)).map (zero[· % zero.size]!)) E) }:=by
        have hc:¬(((n:Int)<0\/281474976710656<(ie.bytes:Int)*n)\/(n:Int)<0):=by
          rw[h8,Int.mul_comm];omega
        simp only[Instr.makeSlice,Sem.run_bind,h3,Result.andThen_ok,asInt,asIntOf,Sem.run_pure,h7,hw1];rw[if_neg (by simpa using hc)];simp only[Sem.run_bind,run_askRoom,Result.andThen_ok,gd hE,toNat_natCast]
        by_cases h0:n*te.size=0
        · rw[if_pos h0]at hzero ⊢
          subst hzero;simp only[Sem.run_bind,Sem.run_pure,Result.andThen_ok,newRow,run_newObj]
        · rw[if_neg h0]at hzero ⊢
          subst hzero;simp only[Sem.run_bind,Sem.run_pure,Result.andThen_ok,h5,newRow,run_newObj]
      simp only[execOp,hxv,Sem.run_bind,hmk,Result.andThen_ok,Sem.run_pure]
    · exact fun h=>h
    · intro g S m' w' hg hS hm hw
      refine .vec hw ?_ (fun v hv=>by rw[List.eq_of_mem_replicate hv];exact hz1);apply List.ext_getElem?;intro j;rw[Array.getElem?_toList,List.getElem?_replicate]
      by_cases hj:j<n
      · have hpos : ¬ n * te.size = 0 := by rw [hs]; omega
        rw[if_neg hpos,hzc]at hzero;subst hzero;rw[if_pos hj];simp only[Array.getElem?_map,Array.getElem?_range,show j<n*te.size by rw[hs];omega,if_true,Option.map_some,Option.some.injEq];simp[Nat.mod_one]
      · rw[if_neg hj,Array.getElem?_eq_none (by simp[hs];omega)]
    · intro g S m' hm hS
      have:=Rep.ms (g:=g) (S:=S) (m:=m') (k:=d) (sz:=1) (off:=0) (len:=n) (cap:=n) hm (le_refl _) (by simpa[hs]using hS);simpa using this
theorem wh{x y:Operand}{k i:Nat}{vs:List Value}{v:Value}{T t:TypeId}{ti:TI}
  (hx:Ev s x (.eptr k 1 i 0)) (hk:s.blk k=some (.vec vs)) (hi:i<vs.length) (hy:Ev s y (.v v)) (hv:v.oneCell'=true) (hT:aE P T=some ti) (hsz:Nat.beq ti.size 1=true) :
  Step P N R s ⟨none,.store T x y,t,pos,after,none⟩ ⟨none,[(k,some (.vec (vs.set i v)))],ay x++ay y,[k]⟩ :=
 zV rfl rfl (by simp) hk fun s' hag C m a w hr => by
  have hsz:=eq_of_beq_eq_true hsz;obtain⟨b,hm,hxv⟩:=xt hr (hx.agree hag (fun _ h=>List.mem_append.2 (.inl h)));have hyv:=oI hr (hy.agree hag (fun _ h=>List.mem_append.2 (.inr h)));have hb:=hr.heap.blk k _ ((hag.2 k (by simp)).trans hk);rw[hm]at hb;cases hb with
  | @vec _ _ c t2 hw hc h1 =>
   have hcs:c.size=vs.length:=by rw[<- hc];simp
   have hvc:v.cells=#[v]:=by cases v <;> simp_all [Value.cells,Value.oneCell']
   refine⟨b,c,(over c.toList i v.cells.toList).toArray,t2,hm,hw,?_,?_,?_⟩
   ·simp[over,hvc];omega
   ·have hrun := xL (P := P) (off := i) (v := v) hT hw (by rw[hvc,hsz];rfl) oz (by rw[hvc];simpa using hv);simp[execOp,Instr.storeAt,hxv,Instr.sureAddr,hyv,hrun]
   ·intro g S w' hg hS hw';refine .vec hw' ?_ (fun u hu=>?_)
    ·rw[hc,hvc];unfold over;rw[List.set_eq_take_append_cons_drop,if_pos hi];simp
    ·rcases List.mem_or_eq_of_mem_set hu with h9 |h9
     ·exact h1 u h9
     ·rw[h9];exact hv
inductive Lent(H:Hp)(hid:List Nat):AV->AV->Prop
  |same {x:AV} (h:x.nm=[]):Lent H hid x x
  |ms {k off len:Nat} {vs:List Value} (hk:lk H k=some (.vec vs)) (hh:k∉hid) (hl:off+len<=vs.length) (hm:vs.length<=a7):Lent H hid (.ms k 1 off len) (.lst 1 (((vs.drop off).take len).map .v))
theorem CE{g:Nat->Array Value->Prop}{S:Nat->Nat->Prop}{m:Nat->Option Nat}{u y:Value}(h:Rep g S m u (.v y)):u=y:=by cases h;rfl
theorem v7{m:Nat->Option Nat}{b:Nat}:¬a8 [] m b:=by rintro⟨k,x,h,_⟩;cases h
def rS(ext:Nat->Prop)(H:Hp)(hid:List Nat)(m:Nat->Option Nat)(b:Nat):Prop:=ext b\/∃k z,k∈hid/\lk H k=some z/\m k=some b
theorem VD{ext:Nat->Prop}{H:Hp}{hid:List Nat}{m m2:Nat->Option Nat}{w:World}{b:Nat}{cs:Array Value}(h:Im ext H m w b cs):Im (rS ext H hid m) [] m2 w b cs :=
 ⟨fun h'=>h'.elim h.1 (fun⟨k,z,_,hz,hb⟩=>h.2.1 ⟨k,z,hz,hb⟩),v7,h.2.2⟩
theorem HN{ext:Nat->Prop}{H:Hp}{hid:List Nat}{m:Nat->Option Nat}{w:World}(hh:HeapRel ext H m w){k b:Nat}{z:Blk}(hk:lk H k=some z)(hb:m k=some b)(hn:k∉hid):¬rS ext H hid m b:=by
 rintro(h |⟨k',z',h1,h2,h3⟩)
 ·exact(hh.sep k z b hk hb).1 h
 ·have:=hh.inj k k' z z' b hk h2 hb h3;subst this;exact hn h1
theorem Lent.rep{ext:Nat->Prop}{H:Hp}{hid:List Nat}{m:Nat->Option Nat}{w:World}(hh:HeapRel ext H m w){x x':AV}(h:Lent H hid x x') :
  ∀{v:Value},Rep (Im ext H m w) (Sz w) m v x->∀m2:Nat->Option Nat,Rep (Im (rS ext H hid m) [] m w) (Sz w) m2 v x':=by
 cases h with
 |same hn=>intro v hv m2;exact(iX hn hv).mono (fun _ _ h=>VD h) (fun _ _ h=>h) (fun _ _ _ h=>h)
 | @ms k off len vs hk hnh hl hm =>
  intro v hr m2;have hb:=hh.blk k _ hk;cases hr with
  |ms0 a=>simp only[List.take_zero];exact .lst0 _ _ _
  | @ms _ _ _ _ _ cap b hmk hc hS =>
   rw[hmk]at hb;cases hb with
   | @vec _ _ c t hw hcv h1 =>
    have hcs:c.size=vs.length:=by rw[<- hcv];simp
    have hlen:(((vs.drop off).take len).map AV.v).length=len:=by rw[length_map,length_take,List.length_drop];omega
    have he':∀(i:Nat)(e:AV),(((vs.drop off).take len).map AV.v)[i]?=some e->∃u,e=.v u/\c[off+i]?=some u/\u∈vs:=by
     intro i e he;rw[getElem?_map,map_eq_some_iff]at he;obtain⟨u,he,rfl⟩:=he;rw[getElem?_take]at he;split at he
     ·rw[getElem?_drop]at he;exact⟨u,rfl,by rw[<- Array.getElem?_toList,hcv];exact he,mem_of_getElem? he⟩
     ·cases he
    have:=Rep.lst (g:=Im (rS ext H hid m) [] m w) (S:=Sz w) (m:=m2) (b:=b) (off:=off) (cap:=cap) (sz:=1) (es:=((vs.drop off).take len).map AV.v) (cs:=c) (fun i j=>c.getD (off+i) undef)
     ⟨HN hh hk hmk hnh,v7,t,(0,0),hw⟩ oz oz ?_ ?_ ?_ ?_
    ·rw[hlen]at this;simpa using this
    ·intro i e he;obtain⟨u,rfl,_⟩:=he' i e he;rfl
    ·intro i j e x he hx;obtain⟨u,rfl,_,hm⟩:=he' i e he;cases j with
     |zero=>cases hx;exact h1 u hm
     |succ j=>cases hx
    ·intro i j e x he hx;obtain⟨u,rfl,hu,_⟩:=he' i e he;cases j with
     |zero=>rw[Nat.mul_one,Nat.add_zero,getD_eq_getD_getElem?,hu];rfl
     |succ j=>cases hx
    ·intro i j e x he hx;obtain⟨u,rfl,hu,_⟩:=he' i e he;cases j with
     |zero=>cases hx;rw[getD_eq_getD_getElem?,hu];exact .v _
     |succ j=>cases hx
def Ck:AV->Bool
  | .v (.int _ _)=>true
  |_=>false
def Dg:AV->Bool
  | .v (.int _ _)=>false
  | .v _=>true
  | .lst _ _=>true
  | .ms _ _ _ _=>true
  |_=>false
mutual
def AV.li:AV->Bool
  | .v _=>true
  | .agg cs=>AV.lis cs
  | .tup cs=>AV.lis cs
  | .lst sz es=>Nat.beq sz 1&&es.all Ck
  |_=>false
def AV.lis:List AV->Bool
  |[]=>true
  |x::l=>x.li&&AV.lis l
end
theorem AV.lis_mem:∀{l:List AV}{c:AV},AV.lis l=true->c∈l->c.li=true
 |x::l,c,h,hc=>by
  simp only[AV.lis,and_eq_true]at h;rcases List.mem_cons.1 hc with rfl |hc
  ·exact h.1
  ·exact AV.lis_mem h.2 hc
theorem LJ{g:Nat->Array Value->Prop}{S:Nat->Nat->Prop}{m:Nat->Option Nat}{u:Value}{x:AV}(hx:Dg x=true)(h:Rep g S m u x)(kk:IntKind)(z:Int):u≠.int kk z:=by
 rintro rfl;cases h <;> cases hx
theorem VL{g g':Nat->Array Value->Prop}{S S':Nat->Nat->Prop}{m m':Nat->Option Nat}{v:Value}{x:AV}(hx:x.li=true)
  (hg:∀b cs (o:Nat)(kk:IntKind)(z:Int),cs[o]?=some (.int kk z)->g b cs->g' b cs) (h:Rep g S m v x):Rep g' S' m' v x:=by
 induction h with
 |v=>exact .v _
 |agg hn h1 hr ih=>exact .agg hn h1 (fun j u c hu hc=>ih j u c hu hc (AV.lis_mem hx (mem_of_getElem? hc)))
 |tup hn hr ih=>exact .tup hn (fun j u c hu hc=>ih j u c hu hc (AV.lis_mem hx (mem_of_getElem? hc)))
 |lst0 a cap sz=>exact .lst0 _ _ _
 | @lst _ b off cap sz es cs u hb hc hl hs h1 hu hr _ =>
  simp only[AV.li,and_eq_true]at hx;have hsz:=eq_of_beq_eq_true hx.1;subst hsz
  match es,hx,hc,hl,hs,h1,hu,hr with
  |[],_,_,_,_,_,_,_=>exact .lst0 _ _ _
  |e::es,hx,hc,hl,hs,h1,hu,hr =>
   have hcell:∀(i j:Nat)(e' c:AV),(e::es)[i]?=some e'->e'.cells[j]?=some c->∃kk z,c=.v (.int kk z):=by
    intro i j e' c he hc';have h9:=List.all_eq_true.1 hx.2 e' (mem_of_getElem? he);cases e' with
    |v y=>cases y with
     |int kk z =>
      cases j with
      |zero=>cases hc';exact⟨_,_,rfl⟩
      |succ j=>cases hc'
     |_=>cases h9
    |_=>cases h9
   have he0:∃kk z,e=.v (.int kk z):=by
    have h9:=List.all_eq_true.1 hx.2 e (by simp);cases e with
    |v y=>cases y with
     |int kk z=>exact⟨_,_,rfl⟩
     |_=>cases h9
    |_=>cases h9
   obtain⟨kk,z,rfl⟩:=he0;have h8:=hu 0 0 _ _ rfl rfl;have h7:=hr 0 0 _ _ rfl rfl;have h6:u 0 0=.int kk z:=CE h7;rw[h6]at h8;refine .lst u (hg b cs _ kk z h8 hb) hc hl hs h1 hu (fun i j e' c he hc'=>?_);obtain⟨k2,z2,rfl⟩:=hcell i j e' c he hc';rw[CE (hr i j _ _ he hc')];exact .v _
 |_=>cases hx
theorem Con.lend{f:FuncId}{k:Nat}{cs:List AV}{cs':Value->List AV}{H:Hp}{r:AV}(hid:List Nat)(j0:Nat)(hk:lk H k=some (.box cs))(hkh:k∉hid)
  (hc:∀v:Value,v.oneCell'=true->(cs' v).length=cs.length/\(∀(j:Nat)(x:AV),(cs' v)[j]?=some x->x.one=true) /\
   ∀(j:Nat)(x x':AV),cs[j]?=some x->(cs' v)[j]?=some x'->(j=j0/\x'=.v v)\/Lent H hid x x')
  (hj:j0<cs.length)
  (hH:∀k z,lk H k=some z->k∈hid\/(∃cs,z=.box cs/\cs.all Dg=true)\/∃vs,z=.vec vs/\∀v∈vs,∀kk z,v≠.int kk z) (hr:r.li=true) (h:∀v:Value,i9 P f [.iptr (cs' v)] r):Con P f [.ptr k 0] H r H:=by
 refine⟨(h undef).ok,?_⟩;intro ext m w vs hext hheap hvs hrep;have hsz:0<vs.size:=by rw[hvs];exact Nat.one_pos
 have hr0:=hrep 0 vs[0] _ (Array.getElem?_eq_getElem hsz) rfl;have hb:=hheap.blk k _ hk;generalize hv0:vs[0]=v0 at hr0;cases hr0 with
 | @ptr _ _ _ b hmk =>
  rw[hmk]at hb;cases hb with
  | @box _ _ c t hw hn h1 hrr =>
   have hj0:j0<c.size:=by omega
   have hx0:=getElem?_eq_getElem (l:=cs) (i:=j0) oz;have hone:(c[j0]).oneCell'=true:=(hrr j0 _ _ (Array.getElem?_eq_getElem hj0) hx0).one (h1 j0 _ hx0);obtain⟨g1,g2,g3⟩:=hc c[j0] hone
   have hext':∀b,rS ext H hid m b->b<w.heap.size:=by
    rintro b (h9 |⟨k',z',_,h2,h3⟩)
    ·exact hext b h9
    ·exact(hheap.sep k' z' b h2 h3).2
   have hcall := (h c[j0]).ret (rS ext H hid m) m w vs hext' ⟨fun k z hz => by (cases hz), fun k k' x x' b hx => by (cases hx), fun k x b hx => by (cases hx)⟩ (by rw [hvs]; rfl) (by
    intro j v x hv hx
    match j,hx with
    |0,hx =>
     cases hx;rw[Array.getElem?_eq_getElem hsz,hv0]at hv;cases hv;refine .iptr (cs:=c) (fun j=>c.getD j undef) ⟨HN hheap hk hmk hkh,v7,t,(0,0),hw⟩ g2 ?_ ?_
     ·intro j x hx;have hlt:j < c.size:=by rw [hn,<- g1]; exact (List.getElem?_eq_some_iff.1 hx).1
      rw[Nat.zero_add,getD_eq_getD_getElem?,Array.getElem?_eq_getElem hlt];rfl
     ·intro j x hx;have hlt:j < c.size:=by rw [hn,<- g1]; exact (List.getElem?_eq_some_iff.1 hx).1
      obtain⟨y,hy⟩:=ja g1 hx;have hcv:c[j]?=some (c.getD j undef):=by rw[getD_eq_getD_getElem?,Array.getElem?_eq_getElem hlt];rfl
      rcases g3 j y x hy hx with⟨rfl,rfl⟩ |hl
      ·have : c.getD j undef = c[j] := by rw [Array.getElem?_eq_getElem hlt] at hcv; exact (Option.some.inj hcv).symm
       rw[this];exact .v _
      ·exact hl.rep hheap (hrr j _ y hcv hy) dl)
   refine Calls.mono hcall ?_;rintro e w' ⟨v,m',rfl,hf,hh,hnew,hkeep,hres⟩;have hkeepB:∀b,b<w.heap.size->w'.heap[b]?=w.heap[b]? := fun b hb=>hf.keep b hb v7
   have hframe:Frame (a8 H m) w w':=⟨hf.os,hf.tape,hf.output,hf.size,hf.sz,fun b hb _=>hkeepB b hb⟩
   have him:=eO (ext:=ext) hframe (hp':=H) (m':=m) (fun k x b hk hb=>.inl ⟨k,x,hk,hb⟩);refine⟨v,m,rfl,hframe,⟨?_,hheap.inj,?_⟩,fun k x b hk hb=>.inl ⟨k,x,hk,hb⟩,fun _ _ _ _ _=>rfl,?_⟩
   ·intro k z hz;exact BlkRep.mono (w:=w) him hf.sz (fun _ _ _ h=>h) rfl (fun b hb=>hkeepB b (hheap.sep k z b hz hb).2) (hheap.blk k z hz)
   ·intro k z b hz hb;have:=hheap.sep k z b hz hb;exact⟨this.1,lt_of_lt_of_le this.2 hf.size⟩
   ·refine VL hr ?_ hres;rintro b2 cs2 o kk z ho ⟨g1,g2,t2,fl,g3⟩;refine⟨fun h9=>g1 (.inl h9),?_,t2,fl,g3⟩;rintro⟨k2,y,hk2,hb2⟩;have hlt:=fun b hb=>(hheap.sep k2 _ b hk2 hb).2
    have h3:=hheap.blk k2 _ hk2;rw[hb2]at h3;rcases hH k2 y hk2 with h9 |⟨cl,rfl,hcl⟩ |⟨vs2,rfl,hvl⟩
    ·exact g1 (.inr ⟨k2,y,h9,hk2,hb2⟩)
    ·cases h3 with
     | @box _ _ c2 t' hw2 hn2 h12 hrr2 =>
      have hcc:c2=cs2:=by
       rw[hkeepB b2 (hlt b2 hb2),hw2]at g3
       injection g3 with g3
       injection g3
      subst hcc;have ho':o<c2.size:=(Array.getElem?_eq_some_iff.1 ho).1;have hx:=getElem?_eq_getElem (l:=cl) (i:=o) oz;exact LJ (List.all_eq_true.1 hcl _ (mem_of_getElem? hx)) (hrr2 o _ _ ho hx) kk z rfl
    ·cases h3 with
     | @vec _ _ c2 t' hw2 hc2 h12 =>
      have hcc:c2=cs2:=by
       rw[hkeepB b2 (hlt b2 hb2),hw2]at g3
       injection g3 with g3
       injection g3
      subst hcc;have:Value.int kk z∈vs2:=by rw[<- hc2];exact Array.mem_toList_iff.2 (Array.mem_of_getElem? ho)
      exact hvl _ this kk z rfl
end Go.Lw
namespace Go.Lw
open Go.Proofs
def bv(xs:List Bool):List Value:=xs.map .bool
theorem gq(xs:List Bool):(bv xs).length=xs.length:=length_map _
theorem wJ(xs:List Bool)(n:Nat):(bv xs).set n (.bool true)=bv (xs.set n true):=by unfold bv;rw[map_set]
theorem A7(xs:List Bool):∀v∈bv xs,∀kk z,v≠.int kk z:=by
 intro v hv kk z;obtain⟨b,_,rfl⟩:=List.mem_map.1 hv;exact fun h=>by cases h
theorem w9(xs:List Bool):(bv xs).map AV.v=xs.map bl:=by unfold bv;rw[map_map];rfl
theorem zZ(n:Nat):List.replicate n (Value.bool false)=bv (List.replicate n false):=by unfold bv;rw[map_replicate]
theorem Tu(xs:List Int):(xs.map i64).all Ck=true:=by
 rw[all_eq_true];intro x hx;obtain⟨b,_,rfl⟩:=List.mem_map.1 hx;rfl
theorem Ld(g:Gr)(b:Bool):(AV.tup [g.av,bl b]).li=true:=by
 simp only[AV.li,AV.lis,Gr.av,Tu];rfl
def oG(l:Li)(n:Nat):Blk:=.box (l.av.cells++[.ms 23 1 0 l.bo.length,.ms 27 1 0 l.bo.length,.ms 31 1 0 l.jo.length,.ms 900 4 0 n])
def mP(l:Li)(kw used:List Bool)(out:List Gr):Hp :=
  [(33,some (oG l out.length)),(23,some (.vec (bv kw))),(27,some (.vec (bv (cc l)))),(31,some (.vec (bv used))),(900,some (.row 4 (out.map Gr.av)))]
theorem yV{xs:List Bool}{n:Nat}(h:xs.length=n):AV.lst 1 ((((bv xs).drop 0).take n).map .v)=.lst 1 (xs.map bl):=by
 rw[drop_zero,take_of_length_le (by rw[gq];omega),w9]
theorem EI(l:Li)(hl:l.ok)(hli:aP l=0)(kw used:List Bool)(hk:kw.length=l.bo.length)(hu:used.length=l.jo.length)(hm:l.bo.length<=a7/\l.jo.length<=a7)(out:List Gr) :
  Con prog 339 [.ptr 33 0] (mP l kw used out) (.tup [((nextG l kw).getD default).av,bl (nextG l kw).isSome]) (mP l kw used out):=by
 refine Con.lend (cs:=l.av.cells++[.ms 23 1 0 l.bo.length,.ms 27 1 0 l.bo.length,.ms 31 1 0 l.jo.length,.ms 900 4 0 out.length])
  (cs':=fun v=>dO l kw (cc l) [.lst 1 (used.map bl),.v v]) [900] 7 rfl (by decide) ?_ (by simp[Li.av,AV.cells]) ?_ (Ld _ _) (fun v=>R8 l hl hli kw hk _)
 ·intro v hv;refine⟨rfl,?_,?_⟩
  ·intro j x hx
   match j,hx with
   |0,hx=>cases hx;rfl
   |1,hx=>cases hx;rfl
   |2,hx=>cases hx;rfl
   |3,hx=>cases hx;rfl
   |4,hx=>cases hx;rfl
   |5,hx=>cases hx;rfl
   |6,hx=>cases hx;rfl
   |7,hx=>cases hx;exact hv
   |j+8,hx=>cases hx
  ·intro j x x' hx hx'
   match j,hx,hx' with
   |0,hx,hx'=>cases hx;cases hx';exact .inr (.same rfl)
   |1,hx,hx'=>cases hx;cases hx';exact .inr (.same rfl)
   |2,hx,hx'=>cases hx;cases hx';exact .inr (.same rfl)
   |3,hx,hx'=>cases hx;cases hx';exact .inr (.same rfl)
   |4,hx,hx' =>
    cases hx;cases hx'
    have h:=Lent.ms (H:=mP l kw used out) (hid:=[900]) (k:=23) (off:=0) (len:=l.bo.length) (vs:=bv kw) rfl (by decide) (by rw[gq];omega) (by rw[gq];omega);rw[yV hk]at h;exact .inr h
   |5,hx,hx' =>
    cases hx;cases hx'
    have h:=Lent.ms (H:=mP l kw used out) (hid:=[900]) (k:=27) (off:=0) (len:=l.bo.length) (vs:=bv (cc l)) rfl (by decide) (by rw[gq,uf];omega) (by rw[gq,uf];omega);rw[yV (uf l)]at h;exact .inr h
   |6,hx,hx' =>
    cases hx;cases hx'
    have h:=Lent.ms (H:=mP l kw used out) (hid:=[900]) (k:=31) (off:=0) (len:=l.jo.length) (vs:=bv used) rfl (by decide) (by rw[gq];omega) (by rw[gq];omega);rw[yV hu]at h;exact .inr h
   |7,hx,hx'=>cases hx;cases hx';exact .inl ⟨rfl,rfl⟩
   |j+8,hx,hx'=>cases hx
 ·intro k z hz;simp only[mP,aU]at hz;split at hz
  ·cases hz;exact .inr (.inl ⟨_,rfl,rfl⟩)
  split at hz
  ·cases hz;exact .inr (.inr ⟨_,rfl,A7 _⟩)
  split at hz
  ·cases hz;exact .inr (.inr ⟨_,rfl,A7 _⟩)
  split at hz
  ·cases hz;exact .inr (.inr ⟨_,rfl,A7 _⟩)
  split at hz
  ·subst_vars;exact .inl (by decide)
  ·cases hz
def pL(l:Li):AV:=if aP l=0 then .iptr (dO l (cP l) (cc l) [.lst 1 ((fe l).map bl),.lst 4 ((findG l).map Gr.av)])else .v (.pointer none)
def jm(l:Li)(out:List Gr):List Bool:=out.foldl (fun k g=>bW k g.jo) (List.replicate l.jo.length false)
theorem BQ(l:Li)(out:List Gr):(jm l out).length=l.jo.length:=by unfold jm;rw[rP,length_replicate]
theorem Qq(l:Li)(out:List Gr)(g:Gr):jm l (out++[g])=bW (jm l out) g.jo:=by unfold jm;rw[List.foldl_append];rfl
theorem xZ{k:List Bool}{bs:List Int}{i:Nat}{b:Int}(h:bs[i]?=some b):bW k (bs.take (i+1))=(bW k (bs.take i)).set b.toNat true:=by
 unfold bW;rw[eD h,List.foldl_append];rfl
theorem Vh{l:Li}(hli:aP l=0){kw:List Bool}{out:List Gr}{g:Gr}(hk:kw.length=l.bo.length)(h:findFrom l (dQ kw) kw out=(cP l,findG l))(hg:nextG l kw=some g) :
  findFrom l (dQ (bW kw g.bo)) (bW kw g.bo) (out++[g])=(cP l,findG l):=by
 have hlt:=sP hli hk hg;obtain⟨n,hn⟩:∃n,dQ kw=n+1:=⟨dQ kw-1,by omega⟩
 rw[hn]at h;unfold findFrom at h;rw[hg]at h;rw[<- h];exact Am hli _ _ _ _ (by rw[k8];exact hk) (le_refl _) oz
theorem TU{l:Li}{kw:List Bool}{out:List Gr}(h:findFrom l (dQ kw) kw out=(cP l,findG l))(hg:nextG l kw=none):kw=cP l/\out=findG l:=by
 cases hn:dQ kw with
 |zero=>rw[hn]at h;exact⟨(Prod.mk.inj h).1,(Prod.mk.inj h).2⟩
 |succ n=>rw[hn]at h;unfold findFrom at h;rw[hg]at h;exact⟨(Prod.mk.inj h).1,(Prod.mk.inj h).2⟩
theorem V7{n:Nat}:dQ (dq n 0)<=n:=by
 unfold dQ;exact le_trans List.countP_le_length (Nat.le_of_eq (jv _ _))
theorem Qi{l:Li}(hli:aP l=0):findFrom l (dQ (dq l.bo.length 0)) (dq l.bo.length 0) []=(cP l,findG l):=by
 rw[<- K8];exact Am hli _ _ _ _ (jv _ _) (le_refl _) V7
theorem QD{l:Li}(hli:aP l=0){kw:List Bool}{out:List Gr}(hk:kw.length=l.bo.length)(h:findFrom l (dQ kw) kw out=(cP l,findG l)):out.length<=8:=by
 obtain⟨gs,e⟩:=AP (l:=l) (dQ kw) kw out;rw[e]at h;have h1:=(sW hli).2;have h2:out++gs=findG l:=(Prod.mk.inj h).2;rw[<- h2,length_append]at h1;omega
theorem KN(l:Li)(kw used:List Bool)(out:List Gr)(hk:kw.length=l.bo.length)(hu:used.length=l.jo.length)(hm:l.bo.length<=a7/\l.jo.length<=a7) :
  Wk ⟨[(5,some (.ptr 33 0))],mP l kw used out⟩ ⟨[(5,some (.iptr (dO l kw (cc l) [.lst 1 (used.map bl),.lst 4 (out.map Gr.av)])))],[]⟩:=by
 have hd:=uf l;have q1:.ms 23 1 0 l.bo.length=AV.ms 23 1 0 ((bv kw).map AV.v).length:=by rw[length_map,gq,hk]
 refine(Wk.of (sl:=[(5,some (.ptr 33 0))]) (hp:=[(33,some (oG l out.length)),(23,some (.row 1 ((bv kw).map .v))),(27,some (.row 1 ((bv (cc l)).map .v))),(31,some (.row 1 ((bv used).map .v))),(900,some (.row 4 (out.map Gr.av)))])
  (.k .nil) (.k (.cons rfl (.vecRow (by rw[gq];omega)) (.cons rfl (.vecRow (by rw[gq];omega)) (.cons rfl (.vecRow (by rw[gq];omega)) (.k .nil)))))).trans ?_
 refine(Wk.freeze (k:=23) rfl).trans ?_
 refine(Wk.of (sl:=[(5,some (.ptr 33 0))]) (hp:=[(33,some (.box (l.av.cells++[.lst 1 (kw.map bl),.ms 27 1 0 l.bo.length,.ms 31 1 0 l.jo.length,.ms 900 4 0 out.length]))),(27,some (.row 1 ((bv (cc l)).map .v))),(31,some (.row 1 ((bv used).map .v))),(900,some (.row 4 (out.map Gr.av)))])
  (.k .nil) (.cons rfl (BlkSub.bL (.cons (.refl _) (.cons (.refl _) (.cons (.refl _) (.cons (.refl _) (.cons (.of ((cr (by rw[length_map,gq,hk])).trans (by rw[w9]))) (.cons (.refl _) (.cons (.refl _) (.cons (.refl _) .nil)))))))) rfl) (.k (.k (.k .nil))))).trans ?_
 refine(Wk.freeze (k:=27) rfl).trans ?_
 refine(Wk.of (sl:=[(5,some (.ptr 33 0))]) (hp:=[(33,some (.box (l.av.cells++[.lst 1 (kw.map bl),.lst 1 ((cc l).map bl),.ms 31 1 0 l.jo.length,.ms 900 4 0 out.length]))),(31,some (.row 1 ((bv used).map .v))),(900,some (.row 4 (out.map Gr.av)))])
  (.k .nil) (.cons rfl (BlkSub.bL (.cons (.refl _) (.cons (.refl _) (.cons (.refl _) (.cons (.refl _) (.cons (.refl _) (.cons (.of ((cr (by rw[length_map,gq,hd])).trans (by rw[w9]))) (.cons (.refl _) (.cons (.refl _) .nil)))))))) rfl) (.k (.k .nil)))).trans ?_
 refine(Wk.freeze (k:=31) rfl).trans ?_
 refine(Wk.of (sl:=[(5,some (.ptr 33 0))]) (hp:=[(33,some (.box (l.av.cells++[.lst 1 (kw.map bl),.lst 1 ((cc l).map bl),.lst 1 (used.map bl),.ms 900 4 0 out.length]))),(900,some (.row 4 (out.map Gr.av)))])
  (.k .nil) (.cons rfl (BlkSub.bL (.cons (.refl _) (.cons (.refl _) (.cons (.refl _) (.cons (.refl _) (.cons (.refl _) (.cons (.refl _) (.cons (.of ((cr (by rw[length_map,gq,hu])).trans (by rw[w9]))) (.cons (.refl _) .nil)))))))) rfl) (.k .nil))).trans ?_
 refine(Wk.freeze (k:=900) rfl).trans ?_
 refine(Wk.of (sl:=[(5,some (.ptr 33 0))]) (hp:=[(33,some (.box (dO l kw (cc l) [.lst 1 (used.map bl),.lst 4 (out.map Gr.av)])))])
  (.k .nil) (.cons rfl (BlkSub.bL (.cons (.refl _) (.cons (.refl _) (.cons (.refl _) (.cons (.refl _) (.cons (.refl _) (.cons (.refl _) (.cons (.refl _) (.cons (.of (cr (by rw[length_map]))) .nil)))))))) rfl) .nil)).trans ?_
 refine(Wk.freezeB (k:=33) rfl rfl).trans ?_;exact Wk.of (.k .nil) .nil
theorem KX(l:Li)(hl:l.ok):FP 250 [l.av] (.tup [pL l,cq (aP l)]):=by
 refine aj func250 ?_;refine gc (D4 l hl) ?_;refine gC (fun t17=>?_) (fun t17=>?_)
 ·have h1:=fc t17;refine bE ?_;unfold pL;rw[if_neg h1]
 have hli:=eH t17;have h8:=(dZ hli).2.2.2.1;have h0:=(dZ hli).2.2.2.2;have hj16:l.jo.length<=16:=by have:=(dZ hli).2.1;unfold eM at this;split at this;cases this;omega
 have hld:=hl.ld;have hm:l.bo.length<=a7/\l.jo.length<=a7:=by unfold a7;omega
 refine gl ?_;refine gs (AX (.tmp rfl) T219 rfl T4 rfl rfl rfl rfl (by dsimp only;omega) rfl) ?_;refine gl ?_;refine gs (AX (.tmp rfl) T219 rfl T4 rfl rfl rfl rfl (by dsimp only;omega) rfl) ?_;refine gl ?_;refine gs (AX (.tmp rfl) T219 rfl T4 rfl rfl rfl rfl (by dsimp only;omega) rfl) ?_;refine gD ?_;refine gs (cg (n:=0) (.tmp rfl) (.const _) T219 rfl T4 rfl rfl oz rfl) ?_;refine gs (wh (.tmp rfl) rfl (by rw[length_replicate];omega) (.const _) rfl T4 rfl) ?_ (6,0);refine gW (Wk.of (sl:=[(1,some (.ptr 1 0)),(5,some (.ptr 33 0))]) (hp:=[(1,some (.box l.av.cells)),(33,some (.box (l.av.cells++[.ms 23 1 0 l.bo.length,.ms 27 1 0 l.bo.length,.ms 31 1 0 l.jo.length,nS]))),(23,some (.vec (bv (dq l.bo.length 0)))),(27,some (.vec (bv (List.replicate l.bo.length false)))),(31,some (.vec (bv (List.replicate l.jo.length false))))]) bg (.k (.k (.cons rfl (BlkSub.of (by rw[zZ,wJ];rfl)) (.cons rfl (BlkSub.of (by rw[zZ])) (.cons rfl (BlkSub.of (by rw[zZ])) .nil)))))) ?_
 refine gl ?_;refine aZ [1,5,40,41] [1,23,31] (fun(i:Nat)=>[(42,some (i64 i))]) (fun i=>[(33,some (.box (l.av.cells++[.ms 23 1 0 l.bo.length,.ms 27 1 0 l.bo.length,.ms 31 1 0 l.jo.length,nS]))),(27,some (.vec (bv (bW (List.replicate l.bo.length false) ((l.dv.map Dr.body).take i)))))]) (fun i=>i<=l.dv.length) (fun i=>l.dv.length-i) 0 (zero_le _) ?_;rintro i hi K1 J1;refine gC (fun t43=>?_) (fun t43=>?_) (st2:=(11,0))
 ·have hin:=bh t43;obtain⟨d,hd⟩:=aH hin;have hb:=dM (mb hli hd);have hmt:=xZ (k:=List.replicate l.bo.length false) (bs:=l.dv.map Dr.body) (i:=i) (b:=d.body) (by rw[getElem?_map,hd];rfl);refine gi (aN hd) ?_;refine gs (cg (n:=d.body.toNat) (.tmp rfl) (.tmp rfl) T219 rfl T4 rfl oz oz rfl) ?_;refine gs (wh (.tmp rfl) rfl (by rw[gq,k8,length_replicate];omega) (.const _) rfl T4 rfl) ?_;refine gD ?_;refine ga aV ?_;exact aT J1 (i+1) hin (hw:=Wk.of bg (.k (.cons rfl (BlkSub.of (by rw[wJ,hmt])) (.k (.k (.k .nil))))))
 have hin:=bD hi t43;have hall:bW (List.replicate l.bo.length false) ((l.dv.map Dr.body).take i)=cc l:=by rw[hin];unfold cc;rw[take_of_length_le (by rw[length_map];omega)]
 refine gW ((Wk.virt 900 4 rfl).trans<|Wk.of (sl:=[(1,some (.ptr 1 0)),(5,some (.ptr 33 0))]) (hp:=[(33,some (oG l 0)),(23,some (.vec (bv (dq l.bo.length 0)))),(27,some (.vec (bv (cc l)))),(31,some (.vec (bv (List.replicate l.jo.length false)))),(900,some (.row 4 []))]) bg (.cons rfl (BlkSub.bL (.cons (.refl _) (.cons (.refl _) (.cons (.refl _) (.cons (.refl _) (.cons (.refl _) (.cons (.refl _) (.cons (.refl _) (.cons (Sub.nM _ _ _) .nil)))))))) rfl) (.k (.cons rfl (BlkSub.of (by rw[hall])) (.k (.k .nil)))))) ?_
 refine gt (aI (EI l hl hli (dq l.bo.length 0) (List.replicate l.jo.length false) (jv _ _) length_replicate hm []) (cJ rfl) (fun k z h=>h) rfl rfl) ?_;refine ic [5,8] [] (fun(kw:List Bool)(out:List Gr)=>[(9,some (bl (nextG l kw).isSome))]) (fun kw out=>[(8,some (.box ((nextG l kw).getD default).av.cells)),(33,some (oG l out.length)),(23,some (.vec (bv kw))),(27,some (.vec (bv (cc l)))),(31,some (.vec (bv (jm l out)))),(900,some (.row 4 (out.map Gr.av)))]) (fun kw out=>kw.length=l.bo.length/\findFrom l (dQ kw) kw out=(cP l,findG l)) (fun kw _=>dQ kw) (dq l.bo.length 0) ([]) ⟨jv _ _,Qi hli⟩ ?_
 rintro kw out ⟨hk,hf⟩ K2 J2;refine gC (fun t59=>?_) (fun t59=>?_) (st1:=(77777,0)) (st2:=(27,0))
 ·obtain ⟨g, hg⟩:=zO t59;have hgo:=yL hli hg;have hout:=QD hli hk hf;refine gW (Wk.of (sl:=[(5,some (.ptr 33 0)),(8,some (.ptr 8 0))]) (hp:=[(8,some (.box g.av.cells)),(33,some (oG l out.length)),(23,some (.vec (bv kw))),(27,some (.vec (bv (cc l)))),(31,some (.vec (bv (jm l out)))),(900,some (.row 4 (out.map Gr.av)))]) bg (.cons rfl (BlkSub.of (by rw [hg]; rfl)) (.k (.k (.k (.k (.k .nil))))))) ?_;refine gl ?_;refine aZ [5,8,66,67] [8,33,27,31,900] (fun (j:Nat)=>[(68,some (i64 j))]) (fun j=>[(23,some (.vec (bv (bW kw (g.bo.take j)))))]) (fun j=>j <= g.bo.length) (fun j=>g.bo.length - j) 0 (zero_le _) ?_;rintro j hj K3 J3;refine gC (fun t69=>?_) (fun t69=>?_)
  ·have hin:=bh t69;obtain⟨b,hb⟩:=aH hin;have hbb:=hgo.b b (mem_of_getElem? hb);have hlb:=hgo.lb;refine gi (aN hb) ?_;refine gs (cg (n:=b.toNat) (.tmp rfl) (.tmp rfl) T219 rfl T4 rfl oz oz rfl) ?_;refine gs (wh (.tmp rfl) rfl (by rw[gq,k8];omega) (.const _) rfl T4 rfl) ?_;refine ga aV ?_;exact aT J3 (j+1) hin (hw:=Wk.of bg (.cons rfl (BlkSub.of (by rw[wJ,xZ hb])) (.k (.k (.k (.k (.k .nil)))))))
  have hin:=bD hj t69;subst hin;refine gl ?_;refine aZ [5,8,80,81] [8,33,27,900] (fun(q:Nat)=>[(82,some (i64 q))]) (fun q=>[(23,some (.vec (bv (bW kw g.bo)))),(31,some (.vec (bv (bW (jm l out) (g.jo.take q)))))]) (fun q=>q<=g.jo.length) (fun q=>g.jo.length-q) 0 (zero_le _) ?_ (h2:=(.cons rfl (BlkSub.of (by rw[take_length])) (.k .nil)));rintro q hq K4 J4;refine gC (fun t83=>?_) (fun t83=>?_)
  ·have hin:=bh t83;obtain⟨b,hb⟩:=aH hin;have hbb:=hgo.j b (mem_of_getElem? hb);have hlj:=hgo.lj;refine gi (aN hb) ?_;refine gs (cg (n:=b.toNat) (.tmp rfl) (.tmp rfl) T219 rfl T4 rfl oz oz rfl) ?_;refine gs (wh (.tmp rfl) rfl (by rw[gq,k8,BQ];omega) (.const _) rfl T4 rfl) ?_;refine ga aV ?_;exact aT J4 (q+1) hin (hw:=Wk.of bg (.k (.cons rfl (BlkSub.of (by rw[wJ,xZ hb])) (.k (.k (.k (.k .nil)))))))
  have hin:=bD hq t83;subst hin;refine gs (de (.tmp rfl) rfl (by rw[length_map]) (.tmp rfl) T32 rfl T53 rfl rfl (by simp only[length_cons,length_nil];omega) rfl rfl) ?_;refine gD ?_ (25,0);refine gW (Wk.of (sl:=[(5,some (.ptr 33 0)),(8,some (.ptr 8 0))]) (hp:=[(8,some (.box g.av.cells)),(33,some (.box (l.av.cells++[.ms 23 1 0 l.bo.length,.ms 27 1 0 l.bo.length,.ms 31 1 0 l.jo.length,.ms 100 4 0 (out++[g]).length]))),(100,some (.row 4 ((out++[g]).map Gr.av))),(23,some (.vec (bv (bW kw g.bo)))),(27,some (.vec (bv (cc l)))),(31,some (.vec (bv (jm l (out++[g])))))]) bg (.k (.cons rfl (BlkSub.of (by rw[length_append];rfl)) (.cons rfl (BlkSub.of (by rw[map_append];rfl)) (.k (.k (.cons rfl (BlkSub.of (by rw[Qq,take_length])) .nil))))))) ?_ (25,0)
  refine gW (Wk.rk (k:=100) (d:=900) rfl rfl) ?_ (26,0);refine gW (Wk.o (sl:=[(5,some (.ptr 33 0)),(103,some (g.av))]) (hp:=[(33,some (oG l (out++[g]).length)),(23,some (.vec (bv (bW kw g.bo)))),(27,some (.vec (bv (cc l)))),(31,some (.vec (bv (jm l (out++[g]))))),(900,some (.row 4 ((out++[g]).map Gr.av)))])) ?_;refine gt (aI (EI l hl hli (bW kw g.bo) (jm l (out++[g])) (by rw[k8];exact hk) (BQ _ _) hm (out++[g])) (cJ rfl) (by intro k z h;simp only[mP,aU]at h;split at h;(subst_vars;exact h);split at h;(subst_vars;exact h);split at h;(subst_vars;exact h);split at h;(subst_vars;exact h);split at h;(subst_vars;exact h);cases h) rfl rfl) ?_;exact hO J2 (bW kw g.bo) (out++[g]) ⟨by rw[k8];exact hk,Vh hli hk hf hg⟩ (sP hli hk hg)
 have hg:=Br t59;obtain⟨e1,e2⟩:=TU hf hg;subst e1 e2;refine gW (Wk.o (sl:=[(5,some (.ptr 33 0))]) (hp:=[(33,some (oG l (findG l).length)),(23,some (.vec (bv (cP l)))),(27,some (.vec (bv (cc l)))),(31,some (.vec (bv (jm l (findG l))))),(900,some (.row 4 ((findG l).map Gr.av)))])) ?_ (27,0);refine gW (KN l (cP l) (jm l (findG l)) (findG l) hk (BQ _ _) hm) ?_;refine bE ?_;unfold pL;rw[if_pos hli,hli];rfl
theorem Dj{α:Type}[BEq α][LawfulBEq α]{xs:List α}{b:α}{ok:Nat->Bool}(h:∀i x,xs[i]?=some x->ok i=!(b==x)):decide (0<=ni (dB xs.length ok))=xs.contains b:=by
 cases hf:dB xs.length ok with
 |some i =>
  obtain⟨h1,h2⟩:=iH hf;obtain⟨x,hx⟩:=aH h1;rw[h i x hx]at h2;have:b=x:=by simpa using h2
  subst this;rw[List.contains_iff_mem.2 (mem_of_getElem? hx)];exact decide_eq_true (by show(0:Int)<=(i:Int);omega)
 |none =>
  rw[decide_eq_false (by show ¬(0:Int) <= -1;decide)]
  symm
  rw[<- Bool.not_eq_true,List.contains_iff_mem];intro hm;obtain⟨i,hi⟩:=List.mem_iff_getElem?.1 hm;have hlt:=(List.getElem?_eq_some_iff.1 hi).1;unfold dB at hf;rw[List.find?_eq_none]at hf;have:=hf i (List.mem_range.2 hlt);rw[h i b hi]at this;simp at this
theorem Jb(xs:List Bool)(b:Bool)(hl:xs.length<=281474976710656):FP 340 [.lst 1 (xs.map bl),bl b] (i64 (ni (dB xs.length (fun i=>!(b==xs.getD i false))))):=by
 refine aj func340 ?_;refine gl ?_;refine aZ [0,1,7] [] (fun(i:Nat)=>[(8,some (i64 i))]) (fun _=>[]) (fun i=>i<=xs.length/\∀j,j<i->(!(b==xs.getD j false))=true) (fun i=>xs.length-i) 0 ⟨zero_le _,fun j h=>by omega⟩ ?_;rintro i ⟨hi,hj⟩ K1 J1;refine gC (fun t9=>?_) (fun t9=>?_)
 ·have hin:=bh t9;obtain⟨x,hx⟩:=aH hin;have hg:xs.getD i false=x:=aw hx;refine gi (aN hx) ?_;refine gC (fun t16=>?_) (fun t16=>?_)
  ·have h2:(b==x)=true:=t16;refine af ?_;rw[iW hin hj (by rw[hg,h2];rfl)];rfl
  have h2:(b==x)=false:=t16;refine ga aV ?_;exact aT J1 (i+1) ⟨hin,fun j h9=>by rcases lt_or_ge j i with g |g;exact hj j g;(have:j=i:=by omega);subst this;rw[hg,h2];rfl⟩
 have hin:=bD hi t9;subst hin;refine af ?_;rw[jB hj];rfl
theorem Hy(xs:List Bool)(b:Bool)(hl:xs.length<=281474976710656):FP 251 [.lst 1 (xs.map bl),bl b] (bl (xs.contains b)):=by
 refine aj func251 ?_;refine gc (Jb xs b hl) ?_;refine af ?_;rw[<- Dj (xs:=xs) (b:=b) (ok:=fun i=>!(b==xs.getD i false)) (fun i x hx=>by rw[aw hx])];rfl
theorem NK(xs:List Int)(b:Int)(hl:xs.length<=281474976710656):FP 341 [.lst 1 (xs.map i64),i64 b] (i64 (ni (dB xs.length (fun i=>!(b==xs.getD i 0))))):=by
 refine aj func341 ?_;refine gl ?_;refine aZ [0,1,7] [] (fun(i:Nat)=>[(8,some (i64 i))]) (fun _=>[]) (fun i=>i<=xs.length/\∀j,j<i->(!(b==xs.getD j 0))=true) (fun i=>xs.length-i) 0 ⟨zero_le _,fun j h=>by omega⟩ ?_;rintro i ⟨hi,hj⟩ K1 J1;refine gC (fun t9=>?_) (fun t9=>?_)
 ·have hin:=bh t9;obtain⟨x,hx⟩:=aH hin;have hg:xs.getD i 0=x:=aw hx;refine gi (aN hx) ?_;refine gC (fun t16=>?_) (fun t16=>?_)
  ·have h2:(b==x)=true:=t16;refine af ?_;rw[iW hin hj (by rw[hg,h2];rfl)];rfl
  have h2:(b==x)=false:=t16;refine ga aV ?_;exact aT J1 (i+1) ⟨hin,fun j h9=>by rcases lt_or_ge j i with g |g;exact hj j g;(have:j=i:=by omega);subst this;rw[hg,h2];rfl⟩
 have hin:=bD hi t9;subst hin;refine af ?_;rw[jB hj];rfl
theorem Fq(xs:List Int)(b:Int)(hl:xs.length<=281474976710656):FP 253 [.lst 1 (xs.map i64),i64 b] (bl (xs.contains b)):=by
 refine aj func253 ?_;refine gc (NK xs b hl) ?_;refine af ?_;rw[<- Dj (xs:=xs) (b:=b) (ok:=fun i=>!(b==xs.getD i 0)) (fun i x hx=>by rw[aw hx])];rfl
theorem S0(l:Li)(hl:l.ok):FP 143 [l.av] (.tup [.lst 4 (((if aP l=0 then splitG l else[])).map Gr.av),cq (if aP l=0 then splitE l else aP l)]):=by
 refine aj func143 ?_;refine gc (KX l hl) (hnm:=(by unfold pL;split <;> rfl)) ?_;refine gC (fun t12=>?_) (fun t12=>?_) (st2:=(77777,0))
 ·have h1:=fc t12;refine gR ?_;exact d7 (by rw[if_neg h1,if_neg h1];exact Sub.tup (.cons (.nil _ _ _) (.cons (.refl _) .nil)))
 have hli:=eH t12;have h8:=(dZ hli).2.2.2.1;have hj16:l.jo.length<=16:=by have:=(dZ hli).2.1;unfold eM at this;split at this;cases this;omega
 have lk1:(cP l).length=l.bo.length:=by unfold cP;rw[rP,jv]
 have lk2:(fe l).length=l.jo.length:=by unfold fe;rw[rP,length_replicate]
 have e1:pL l=.iptr (dO l (cP l) (cc l) [.lst 1 ((fe l).map bl),.lst 4 ((findG l).map Gr.av)]):=by unfold pL;rw[if_pos hli]
 have c1:=F4 (k:=cP l);have c2:=F4 (k:=fe l);refine gW (Wk.of (sl:=[(4,some (.iptr (dO l (cP l) (cc l) [.lst 1 ((fe l).map bl),.lst 4 ((findG l).map Gr.av)]))),(5,some (cq (aP l)))]) (hp:=[]) (.cons rfl (Sub.of e1) (.k .nil)) .nil) ?_;refine gc (Hy (cP l) false oz) ?_;refine bU (fun _=>(Hy (fe l) false oz)) ?_;refine gC (fun t25=>?_) (fun t25=>?_)
 ·have h2:splitE l=7:=by
   unfold splitE;rw[if_neg];intro h;have h3:(cP l).contains false=false:=c1.1 oz;have h4:(fe l).contains false=false:=c2.1 oz;rw[h3,h4]at t25;cases t25
  refine gR ?_;exact d7 (by rw[if_pos hli,if_pos hli];unfold splitG;rw[if_neg (by rw[h2];simp),h2];exact Sub.tup (.cons (.nil _ _ _) (.cons (.refl _) .nil)))
 have h2:splitE l=0:=by
  unfold splitE;rw[if_pos];cases h3:(cP l).contains false <;> cases h4:(fe l).contains false <;> rw[h3,h4]at t25 <;> first |(cases t25;done) |(have g1:=c1.2 h3;have g2:=c2.2 h4;omega)
 refine bE ?_;rw[if_pos hli,if_pos hli,h2];unfold splitG;rw[if_pos h2];rfl
def SO(ys:List Int)(i:Nat):Prop:=∀p q,p<q->q<i->ys.getD p 0<=ys.getD q 0
def SI(ys:List Int)(i j:Nat):Prop:=∀p q,p<q->q<=i->q≠j->ys.getD p 0<=ys.getD q 0
theorem QT{xs ys:List Int}{i:Nat}(hp:ys.Perm xs)(hi:ys.length<=i)(h:SO ys i):ys=eK xs:=by
 refine Ky hp (List.pairwise_iff_getElem.2 fun p q hp hq hpq=>?_);have h1:=h p q hpq oz;rw[aw (getElem?_eq_getElem hp),aw (getElem?_eq_getElem hq)]at h1;exact h1
theorem Sd{ys:List Int}{i:Nat}(h:SO ys i):SI ys i i:=fun p q h1 h2 h3=>h p q h1 oz
theorem MR{ys:List Int}{i j:Nat}(h:SI ys i j)(hj:j=0\/ys.getD (j-1) 0<=ys.getD j 0):SO ys (i+1):=by
 intro p q h1 h2
 by_cases hq:q=j
 ·subst hq;rcases hj with hj |hj
  ·omega
  ·by_cases hp:p=q-1
   ·subst hp;exact hj
   ·exact Int.le_trans (h p (q-1) oz oz oz) hj
 ·exact h p q h1 oz hq
theorem Ha(ys:List Int)(i:Nat)(x:Int)(p:Nat)(hi:i<ys.length):(ys.set i x).getD p 0=if p=i then x else ys.getD p 0:=by
 rw[getD_eq_getElem?_getD,getD_eq_getElem?_getD,List.getElem?_set]
 by_cases h:i=p
 ·subst h;simp[hi]
 ·rw[if_neg h,if_neg (fun e=>h e.symm)]
theorem MH{ys:List Int}{i j:Nat}(h:SI ys i j)(hj:0<j)(hi:j<=i)(hl:i<ys.length)(hlt:ys.getD j 0<ys.getD (j-1) 0):SI ((ys.set j (ys.getD (j-1) 0)).set (j-1) (ys.getD j 0)) i (j-1):=by
 intro p q h1 h2 h3
 have e:∀r,((ys.set j (ys.getD (j-1) 0)).set (j-1) (ys.getD j 0)).getD r 0=if r=j-1 then ys.getD j 0 else if r=j then ys.getD (j-1) 0 else ys.getD r 0:=fun r=>by
  rw[Ha _ _ _ _ (by rw[length_set];omega),Ha _ _ _ _ oz]
 rw[e,e,if_neg h3]
 by_cases hq:q=j
 ·rw[if_pos hq]
  by_cases hp:p=j-1
  ·rw[if_pos hp];omega
  ·rw[if_neg hp,if_neg oz];exact h p (j-1) oz oz oz
 ·rw[if_neg hq]
  by_cases hp:p=j-1
  ·rw[if_pos hp];exact h j q oz h2 hq
  ·rw[if_neg hp]
   by_cases hp2:p=j
   ·rw[if_pos hp2];exact h (j-1) q oz h2 hq
   ·rw[if_neg hp2];exact h p q h1 h2 hq
theorem Kb{ys:List Int}{j:Nat}{a b:Int}(ha:ys[j]?=some a)(hb:ys[j-1]?=some b):((ys.set j b).set (j-1) a).Perm ys:=by
 obtain⟨h1,rfl⟩:=List.getElem?_eq_some_iff.1 ha;obtain⟨h2,rfl⟩:=List.getElem?_eq_some_iff.1 hb;exact List.set_set_perm h1 h2
theorem Sa{j:Nat}{a b:Int}(h:cond (aa .gtr (j:Int) 0) (decide (a<b)) false=true):0<j/\a<b:=by
 cases h1:aa .gtr (j:Int) 0 <;> rw[h1]at h
 ·cases h
 ·exact⟨jl (b:=0) h1,of_decide_eq_true h⟩
theorem LK{j:Nat}{a b:Int}(h:cond (aa .gtr (j:Int) 0) (decide (a<b)) false=false):j=0\/b<=a:=by
 cases h1:aa .gtr (j:Int) 0 <;> rw[h1]at h
 ·have:=kc (b:=0) h1;omega
 ·have h2:decide (a<b)=false:=h;have:=of_decide_eq_false h2;omega
theorem Vu(ys:List Int)(j:Nat)(a b:Int):((ys.map i64).set j (i64 b)).set (j-1) (i64 a)=((ys.set j b).set (j-1) a).map i64:=by rw[map_set,map_set]
theorem DG(a:Int):FP 384 [i64 a] (bl false):=by
 refine aj func384 ?_;refine af ?_;simp[aa];rfl
theorem Jf(a b:Int):FP 348 [i64 a,i64 b] (bl (decide (a<b))):=by
 refine aj func348 ?_;refine gc (DG a) ?_;refine bU (fun _=>(DG b)) ?_;refine af ?_
 first |rfl |(simp;done)
theorem TY(xs:List Int)(hl:xs.length<=12):Con prog 342 [.ms 1000 1 0 xs.length,i64 0,i64 xs.length] [(1000,some (.row 1 (xs.map i64)))] (.tup []) [(1000,some (.row 1 ((eK xs).map i64)))]:=by
 refine gF func342 (fun k z h=>bH h) ?_;refine ga (show _=((1:Nat):Int)from rfl) ?_;refine ic [1,2] [] (fun(ys:List Int)(i:Nat)=>[(0,some (.ms 1000 1 0 xs.length)),(6,some (i64 i))]) (fun ys _=>[(1000,some (.row 1 (ys.map i64)))]) (fun ys i=>ys.length=xs.length/\ys.Perm xs/\1<=i/\SO ys i) (fun _ i=>xs.length+1-i) xs 1 ⟨rfl,.refl _,le_refl _,fun p q h1 h2=>by omega⟩ ?_;rintro ys i ⟨hyl,hyp,hi1,hso⟩ K1 J1;refine gC (fun t12=>?_) (fun t12=>?_)
 ·have hin:=bh t12;refine ic [1,2,6] [] (fun (zs:List Int) (j:Nat)=>[(0,some (.ms 1000 1 0 xs.length)),(7,some (i64 j))]) (fun zs _=>[(1000,some (.row 1 (zs.map i64)))]) (fun zs j=>zs.length = xs.length /\ zs.Perm xs /\ j <= i /\ SI zs i j) (fun _ j=>j) ys i ⟨hyl,hyp,le_refl _,Sd hso⟩ ?_;rintro zs j ⟨hzl,hzp,hji,hsi⟩ K2 J2;obtain ⟨a,ha⟩:=aH (show j < zs.length by omega);obtain ⟨b,hb⟩:=aH (show j - 1 < zs.length by omega);refine gs (eJ rfl rfl rfl (fun h=>cg (n:=j) (.opt rfl (o1 h)) (.opt rfl (o1 h)) T39 rfl T3 rfl oz oz rfl)) ?_;refine gs (eJ rfl rfl rfl (fun h=>ek (.opt rfl (o1 h)) rfl (aN ha) T3 rfl rfl rfl)) ?_;refine od (fun h=>(jw (jl (b:=0) h) (by unfold a7; omega))) ?_;refine gs (eJ rfl rfl rfl (fun h=>cg (n:=(j - 1)) (.opt rfl (o1 h)) (.opt rfl (o1 h)) T39 rfl T3 rfl oz oz rfl)) ?_;refine gs (eJ rfl rfl rfl (fun h=>ek (.opt rfl (o1 h)) rfl (aN hb) T3 rfl rfl rfl)) ?_;refine bU (fun _=>(Jf a b)) ?_;refine gD ?_;refine gC (fun t30=>?_) (fun t30=>?_)
  ·obtain⟨hj0,hab⟩:=Sa t30;refine ga (jw hj0 (by unfold a7;omega)) ?_;refine ga (jw hj0 (by unfold a7;omega)) ?_;refine gs (cg (n:=(j-1)) (.tmp rfl) (.tmp rfl) T39 rfl T3 rfl oz oz rfl) ?_;refine gs (ek (.tmp rfl) rfl (aN hb) T3 rfl rfl rfl) ?_;refine gs (cg (n:=j) (.tmp rfl) (.tmp rfl) T39 rfl T3 rfl oz oz rfl) ?_;refine gs (ek (.tmp rfl) rfl (aN ha) T3 rfl rfl rfl) ?_;refine gs (cg (n:=j) (.tmp rfl) (.tmp rfl) T39 rfl T3 rfl oz oz rfl) ?_;refine gs (dA (.tmp rfl) rfl (aN ha) rfl (.tmp rfl) rfl rfl T3 rfl rfl) ?_;refine gs (cg (n:=(j-1)) (.tmp rfl) (.tmp rfl) T39 rfl T3 rfl oz oz rfl) ?_;refine gs (dA (.tmp rfl) rfl ((List.getElem?_set_ne oz).trans (aN hb)) rfl (.tmp rfl) rfl rfl T3 rfl rfl) ?_;refine gD ?_;refine ga (jw hj0 (by unfold a7;omega)) ?_;exact hO J2 ((zs.set j b).set (j-1) a) (j-1) ⟨by rw[length_set,length_set];exact hzl,(Kb ha hb).trans hzp,by omega,by have h9:=MH hsi hj0 hji oz (by rw[aw ha,aw hb];exact hab);rw[aw ha,aw hb]at h9;exact h9⟩ (hw:=Wk.of bg (.cons rfl (BlkSub.of (congrArg (Blk.row 1) (Vu zs j a b))) .nil))
  have hs:=LK t30;refine ga aV ?_;exact hO J1 zs (i+1) ⟨hzl,hzp,by omega,MR hsi (by rw[aw ha,aw hb];exact hs)⟩
 have hin:=uz t12;refine gR ?_;exact aJ.own2 rfl (by rw[<- QT hyp oz hso]) rfl
theorem Tm(xs:List Int)(hl:xs.length<=12)(m:Int):Con prog 254 [.ms 1000 1 0 xs.length,i64 0,i64 xs.length,i64 m] [(1000,some (.row 1 (xs.map i64)))] (.tup []) [(1000,some (.row 1 ((eK xs).map i64)))]:=by
 refine gF func254 (fun k z h=>bH h) ?_;refine JA [1,2,3,8,9] [1000] [(0,some (.ms 1000 1 0 xs.length))] [] (True) (0) trivial ?_;rintro-K1 J1;refine ga (dL oz) ?_;refine gC (fun t23=>?_) (fun t23=>?_) (st2:=(77777,0))
 ·refine gt (aI (TY xs hl) (aF rfl rfl rfl) aL rfl rfl) ?_;refine gR ?_;exact aJ.own2 rfl rfl rfl
 (rw[show aa .leq ((xs.length:Int)-0) 12=true from decide_eq_true oz]at t23;cases t23)
theorem RO(x:Nat)(hx:x<256):FP 352 [u64 x] (i64 (a9 x)):=by
 refine aj func352 ?_;refine gC (fun t4=>?_) (fun t4=>?_) (st1:=(2,0))
 ·(have:=t4;simp[aa]at this;omega)
 refine gC (fun t8=>?_) (fun t8=>?_) (st1:=(5,0))
 ·(have:=t8;simp[aa]at this;omega)
 refine gC (fun t14=>?_) (fun t14=>?_) (st1:=(8,0))
 ·(have:=t14;simp[aa]at this;omega)
 refine gv (jS hx) ?_;refine gs (sE (y:=x) (.const _) (.tmp rfl) T9 rfl (by kernel_rfl) (by first |rfl |omega) oz rfl) ?_;refine gv (i64_in (by have:=iU hx;omega)) ?_;refine ga (db (by have:=iU hx;omega)) ?_;refine af ?_;simp only[i64];congr 2;omega
theorem Kk(x:Nat)(hx:x<256):FP 255 [u64 x] (i64 (a9 x)):=by
 refine aj func255 ?_;refine gC (fun hcfalse=>?_) (fun hcfalse=>?_) (st1:=(1,0));cases hcfalse;refine gc (RO x hx) ?_;refine af ?_
 first |rfl |(simp;done)
theorem Ol(xs:List Int)(hl:xs.length<=12):Con prog 146 [.ms 1000 1 0 xs.length] [(1000,some (.row 1 (xs.map i64)))] (.tup []) [(1000,some (.row 1 ((eK xs).map i64)))]:=by
 refine gF func146 (fun k z h=>bH h) ?_;refine gv (show IntKind.u64.wrap _=((xs.length:Nat):Int)from u64_in oz) ?_;refine gc (Kk xs.length oz) ?_;refine gt (aI (Tm xs hl _) (.cons (.tmp rfl) (.cons (.const _) (bO rfl rfl))) aL rfl rfl) ?_;refine gR ?_;exact aJ.own2 rfl rfl rfl
theorem VS{l:Li}{g:Gr}{i:Nat}{z:Int}{j:Jt}(hz:g.jo[i]?=some z)(hj:l.jo[z.toNat]?=some j):(fL l g)[i]?=some (jA g j):=by
 unfold fL;rw[getElem?_map,hz,Option.map_some,aw hj]
theorem BI{l:Li}{g:Gr}{i:Nat}{z:Int}{j:Jt}{a:Int}(hz:g.jo[i]?=some z)(hj:l.jo[z.toNat]?=some j)(ha:jA g j=a):((fL l g).take i).map i64++[i64 a]=((fL l g).take (i+1)).map i64:=by
 rw[eD (VS hz hj),ha,map_append];rfl
theorem Vl{z:Int}{n:Nat}(h0:0<=z)(h1:z<n):cond (aa .lss z 0) true (aa .geq z (n:Int))=false:=by
 rw[show aa .lss z 0=false from decide_eq_false oz];exact decide_eq_false oz
theorem P8(l:Li)(hl:l.ok)(hli:aP l=0)(g:Gr)(hg:GrOk l g):Con prog 145 [l.av,g.av] [] (.tup [.ms 900 1 0 g.jo.length,.v .nilIface]) [(900,some (.row 1 ((fL l g).map i64)))]:=by
 have hlb:=hg.lb;have hlj:=hg.lj;refine gF func145 (fun k z h=>by cases h) ?_;refine gc (D4 l hl) ?_;refine gC (fun t16=>?_) (fun t16=>?_) (st1:=(3,0))
 ·(rw[hli]at t16;cases t16)
 refine gl ?_;refine gW ((Wk.virt 900 1 rfl).trans<|Wk.of (sl:=[(2,some (.ptr 2 0)),(3,some (.ptr 3 0)),(7,some (.ms 900 1 0 0)),(19,some (.lst 1 (g.jo.map i64))),(20,some (i64 g.jo.length)),(21,some (i64 0))]) (hp:=[(2,some (.box l.av.cells)),(3,some (.box g.av.cells)),(900,some (.row 1 []))]) (.k (.k (.cons rfl (Sub.nM _ _ _) (.k (.k (.k .nil)))))) (.k (.k (.k .nil)))) ?_;refine aZ [2,3,19,20] [2,3] (fun(i:Nat)=>[(7,some (.ms 900 1 0 i)),(21,some (i64 i))]) (fun i=>[(900,some (.row 1 (((fL l g).take i).map i64)))]) (fun i=>i<=g.jo.length) (fun i=>g.jo.length-i) 0 (zero_le _) ?_;rintro i hi K1 J1;refine gC (fun t22=>?_) (fun t22=>?_) (st2:=(18,0))
 ·have hin:=bh t22;obtain ⟨z,hz⟩:=aH hin;obtain ⟨z0,z1⟩:=hg.j z (mem_of_getElem? hz);obtain ⟨j,hj⟩:∃ j,l.jo[z.toNat]? = some j:=aH oz;have hlt:(((fL l g).take i).map i64).length = i:=by rw [length_map,length_take,r6]; omega
  refine gi (aN hz) ?_;refine cE ?_;refine gC (fun t33=>?_) (fun t33=>?_) (st1:=(9,0))
  ·(rw[Vl z0 z1]at t33;cases t33)
  refine gi (fD (n:=z.toNat) oz hj) ?_;refine gc (Fq g.bo j.a oz) ?_;refine gc (Fq g.bo j.b oz) ?_;refine gD ?_;refine gC (fun t55=>?_) (fun t55=>?_)
  ·have ha : jA g j = -1 := by unfold jA; cases h1 : g.bo.contains j.a <;> cases h2 : g.bo.contains j.b <;> rw [h1, h2] at t55 <;> first | (cases t55; done) | rfl
   refine gs (de (.tmp rfl) rfl hlt.symm (.tmp rfl) T39 rfl T3 rfl rfl (by simp only[length_cons,length_nil];omega) rfl rfl) ?_ (17,0);refine gW (Wk.of (sl:=[(2,some (.ptr 2 0)),(3,some (.ptr 3 0)),(7,some (.ms 62 1 0 (i+1))),(19,some (.lst 1 (g.jo.map i64))),(20,some (i64 g.jo.length)),(21,some (i64 i))]) (hp:=[(2,some (.box l.av.cells)),(3,some (.box g.av.cells)),(62,some (.row 1 (((fL l g).take (i+1)).map i64)))]) bg (.k (.k (.cons rfl (BlkSub.of (congrArg (Blk.row 1) (BI hz hj ha))) .nil)))) ?_ (17,0);refine gW (Wk.rk (k:=62) (d:=900) rfl rfl) ?_;refine ga aV ?_;exact aT J1 (i+1) hin
  refine gC (fun t63=>?_) (fun t63=>?_)
  ·have ha : jA g j = j.b := by unfold jA; cases h1 : g.bo.contains j.a <;> cases h2 : g.bo.contains j.b <;> rw [h1] at t63 <;> rw [h1, h2] at t55 <;> first | (cases t55; done) | (cases t63; done) | rfl
   refine gs (de (.tmp rfl) rfl hlt.symm (.tmp rfl) T39 rfl T3 rfl rfl (by simp only[length_cons,length_nil];omega) rfl rfl) ?_ (17,0);refine gW (Wk.of (sl:=[(2,some (.ptr 2 0)),(3,some (.ptr 3 0)),(7,some (.ms 69 1 0 (i+1))),(19,some (.lst 1 (g.jo.map i64))),(20,some (i64 g.jo.length)),(21,some (i64 i))]) (hp:=[(2,some (.box l.av.cells)),(3,some (.box g.av.cells)),(69,some (.row 1 (((fL l g).take (i+1)).map i64)))]) bg (.k (.k (.cons rfl (BlkSub.of (congrArg (Blk.row 1) (BI hz hj ha))) .nil)))) ?_ (17,0);refine gW (Wk.rk (k:=69) (d:=900) rfl rfl) ?_;refine ga aV ?_;exact aT J1 (i+1) hin
  have ha:jA g j=j.a:=by unfold jA;rw[if_neg (by rw[show g.bo.contains j.a=false from t63];simp)]
  refine gs (de (.tmp rfl) rfl hlt.symm (.tmp rfl) T39 rfl T3 rfl rfl (by simp only[length_cons,length_nil];omega) rfl rfl) ?_ (17,0);refine gW (Wk.of (sl:=[(2,some (.ptr 2 0)),(3,some (.ptr 3 0)),(7,some (.ms 54 1 0 (i+1))),(19,some (.lst 1 (g.jo.map i64))),(20,some (i64 g.jo.length)),(21,some (i64 i))]) (hp:=[(2,some (.box l.av.cells)),(3,some (.box g.av.cells)),(54,some (.row 1 (((fL l g).take (i+1)).map i64)))]) bg (.k (.k (.cons rfl (BlkSub.of (congrArg (Blk.row 1) (BI hz hj ha))) .nil)))) ?_ (17,0);refine gW (Wk.rk (k:=54) (d:=900) rfl rfl) ?_;refine ga aV ?_;exact aT J1 (i+1) hin
 have hin:=bD hi t22;subst hin;refine gW (Wk.of (sl:=[(7,some (.ms 900 1 0 g.jo.length))]) (hp:=[(900,some (.row 1 ((fL l g).map i64)))]) bg (.cons rfl (BlkSub.of (by rw[take_of_length_le (by rw[r6];exact le_refl _)])) .nil)) ?_;refine gR ?_;exact aJ.keep (br rfl)
section
variable{ts:LL}{u k:Nat}{a b a2 b2:List Rat}{x y x2 y2:Et ts}{w v w' v' w2 v2 w3 v3:Nat}
theorem xY(c:Ct ts u k)(h:w+v+(w'+v')<=10000):w*u+v*k+(w'*u+v'*k)+1<=lm ts.length:=by
 have h1:=C3 c (w:=w+w') (v:=v+v') (m:=10000) oz;have h2:=lM ts.length;rw[wY];omega
theorem Af(c:Ct ts u k){R:Nat}(h:eB R ts.length<=k):2*(2500*1000000+2500*1000000+kB R ts.length)<=lm ts.length:=by
 have h1:=c.kk h;have h2:=lM ts.length;omega
theorem Vm [c : Ct ts u k] [ha : Zl ts u k a x w v] [hb : Zl ts u k b y w' v'] (h : w + v + (w' + v') <= 10000 := by decide) : FP 356 [aO ts, nA a, nA b] (.tup [nA (sX (x + y)), .v .nilIface]) := by
 obtain⟨R,tw,hk⟩:=c.ex;have h0:=xY c h;have h1:=yz tw ha.nm hb.nm oz;rw[ha.eq,hb.eq]at h1;exact h1
theorem DB [c : Ct ts u k] [ha : Zl ts u k a x w v] [hb : Zl ts u k b y w' v'] (h : w + v + (w' + v') <= 10000 := by decide) : FP 176 [aO ts, nA a, nA b] (.tup [nA (sX (x - y)), .v .nilIface]) := by
 obtain⟨R,tw,hk⟩:=c.ex;have h0:=xY c h;have h1:=oy tw ha.nm hb.nm oz;rw[ha.eq,hb.eq]at h1;exact h1
theorem H7 [c : Ct ts u k] [ha : Zl ts u k a x w v] [hb : Zl ts u k b y w' v'] (h : w + v + (w' + v') <= 10000 := by decide) : FP 127 [aO ts, nA a, nA b] (.tup [nA (sX (x * y)), .v .nilIface]) := by
 obtain⟨R,tw,hk⟩:=c.ex;have h0:=xY c h;have h1:=Ad tw ha.nm hb.nm oz;rw[ha.eq,hb.eq]at h1;exact h1
theorem Fa [c : Ct ts u k] [ha : Zl ts u k a x w v] [hb : Zl ts u k b y w' v'] [ha2 : Zl ts u k a2 x2 w2 v2] [hb2 : Zl ts u k b2 y2 w3 v3] (h : w + v + (w' + v') + (w2 + v2 + (w3 + v3)) <= 2500 := by decide) :
  FP 80 [aO ts,aG a b,aG a2 b2] (.tup [nA (sX (dotE x y x2 y2)),.v .nilIface]):=by
 obtain⟨R,tw,hk⟩:=c.ex;have h0:=Af c hk;have h1:=xg (e:=2500*1000000) tw (ha.up c oz) (hb.up c oz) (ha2.up c oz) (hb2.up c oz) oz;rw[ha.eq,hb.eq,ha2.eq,hb2.eq]at h1;exact h1
def atXE(c s X:Et ts)(p q:Rat):Et ts:=(c*qE p-s*qE q)+X
def atYE(c s Y:Et ts)(p q:Rat):Et ts:=(s*qE p+c*qE q)+Y
instance Zu.atXE[c:Ct ts u k]{x y z:Et ts}{p q:Rat}{w1 v1 w2 v2 w3 v3 w4 w5:Nat}[Zu u k x w1 v1][Zu u k y w2 v2][Zu u k z w3 v3][Qz u p w4][Qz u q w5]:Zu u k (atXE x y z p q) (w1+w4+(w2+w5)+w3) (v1+0+1+(v2+0+1)+1+v3+1) :=
  (inferInstance:Zu u k ((x*Lw.qE p-y*Lw.qE q)+z) _ _)
instance Zu.atYE[c:Ct ts u k]{x y z:Et ts}{p q:Rat}{w1 v1 w2 v2 w3 v3 w4 w5:Nat}[Zu u k x w1 v1][Zu u k y w2 v2][Zu u k z w3 v3][Qz u p w4][Qz u q w5]:Zu u k (atYE x y z p q) (w2+w4+(w1+w5)+w3) (v2+0+1+(v1+0+1)+1+v3+1) :=
  (inferInstance:Zu u k ((y*Lw.qE p+x*Lw.qE q)+z) _ _)
end
abbrev LN(l:Li)(g:Gr)(a:As):List AV:=[.v (.string l.name),.lst 2 (l.bo.map Bd.av),.lst 7 (l.jo.map Jt.av),.lst 2 (l.dv.map Dr.av),i64 g.kind,.lst 1 (g.bo.map i64),.lst 1 (g.jo.map i64),i64 g.driver,
  .lst 1 (a.rs.map nR),.lst 4 (a.bs.map Pl.av),.lst 1 (a.ms.map i64),.v .nilIface]
abbrev b8(l:Li)(g:Gr)(a:As):Blk:=.box (LN l g a)
def Fe(e:Nat):AV:=if e=0 then .ptr 900 0 else .v (.pointer none)
def Ei(e:Nat)(l:Li)(g:Gr)(a:As):Hp:=if e=0 then[(900,some (b8 l g a))]else[]
theorem pj{e:Nat}(h:e≠0):Fe e=.v (.pointer none):=if_neg h
theorem ow{e:Nat}{l:Li}{g:Gr}{a:As}(h:e≠0):Ei e l g a=[]:=if_neg h
theorem Id(l:Li)(g:Gr):cQ l g true=fL l g++g.bo:=rfl
theorem FU(l:Li)(g:Gr):cQ l g false=fL l g:=by unfold cQ;simp
theorem TH{rs:List (List Rt)}{b:Pl}{i:Nat}{x:List Rt}(h:bq rs=0)(hx:b.l[i]?=some x)(hb:∀y∈b.l.take i,b7 rs.length y=0)(hn:b7 rs.length x≠0):bb rs b.l=b7 rs.length x:=uP h hx hb hn
theorem UW{l:Li}{g:Gr}{a:As}{own:Bool}{j:Nat}{b:Int}(hb:(eK (cQ l g own))[j]?=some b)(hj:∀c∈(eK (cQ l g own)).take j,fU a c=0)(hn:fU a b≠0):fH ((eK (cQ l g own)).map (fU a))=fU a b:=by
 have h1:eK (cQ l g own)=(eK (cQ l g own)).take j++b::(eK (cQ l g own)).drop (j+1):=by
  obtain⟨hi,e⟩:=List.getElem?_eq_some_iff.1 hb;rw[<- e,<- List.drop_eq_getElem_cons hi,List.take_append_drop]
 generalize eK (cQ l g own)=xs at *;rw[h1,map_append,uS _ _ (oc hj),map_cons,E3,if_pos hn]
theorem A5(l:Li)(hl:l.ok)(k:Int)(a:As)(al:AB a)(own:Bool) :
  Con prog 63 [l.av,i64 k,a.av,bl own] [] (.tup [Fe (et l k a own),cq (et l k a own)]) (Ei (et l k a own) l (el l k) a):=by
 have hbl:=al.bl;refine gF func63 (fun k z h=>by cases h) ?_;refine gc (S0 l hl) ?_;refine gC (fun t27=>?_) (fun t27=>?_)
 ·have h1:=fc t27;refine gR ?_;rw[SD rfl h1,pj h1,ow h1];exact kP rfl
 have h1:=eH t27;obtain⟨hli,hsp⟩:=Vf h1;rw[show(if aP l=0 then splitG l else[])=splitG l from if_pos hli];have hbs:=(dZ hli).2.2.2.1;have hgl:=(sW hli).2;have hsg:splitG l=findG l:=by unfold splitG;rw[if_pos hsp]
 refine cE ?_;refine gC (fun t36=>?_) (fun t36=>?_)
 ·have h2:=Vc t36;have he:et l k a own=9:=(rx hli).trans (Pt hsp h2);refine gR ?_;rw[he,pj (by decide),ow (by decide)];exact kP rfl
 have h2:=Vo t36;refine gl ?_;refine gl ?_;refine gC (fun t44=>?_) (fun t44=>?_)
 ·have h3:=UH t44;have he:et l k a own=10:=(rx hli).trans (Uy hsp h2 h3);refine gR ?_;rw[he,pj (by decide),ow (by decide)];exact kP rfl
 have h3:=Kh t44;refine gc (tK a.rs 400000000 al.tr) ?_;refine gC (fun t50=>?_) (fun t50=>?_)
 ·have h4:=fc t50;refine gR ?_;rw[(rx hli).trans (TD hsp h2 h3 h4),pj h4,ow h4];exact kP rfl
 have h4:=eH t50;obtain⟨i,rfl,hi⟩:=VU h2;obtain⟨g,hg⟩:=aH hi;obtain⟨hgd,hgo⟩:=oY hli (mem_of_getElem? hg);have hgA:el l (i:Nat)=g:=aw hg;rw[hgA];have he5:et l (i:Nat) a own=fH ((eK (cQ l g own)).map (fU a)):=by rw[<- hgA];exact(rx hli).trans (E0 hsp h2 h3 h4)
 have hnl:(cQ l g own).length<=5:=QJ hgo;have hgb:=hgo.lb;have hgj:=hgo.lj;refine gi (aN hg) ?_;refine gt (aI (P8 l hl hli g hgo) (bO rfl rfl) aL rfl rfl) ?_;refine gD ?_;refine gC (fun t62=>?_) (fun t62=>?_) (st1:=(13,0));cases t62;refine qu [1,4,6,10] [4,6] [(13,some (.ms 900 1 0 (cQ l g own).length))] [(900,some (.row 1 ((cQ l g own).map i64)))] (True) ?_ ?_
 ·intro K1 J1;refine gC (fun t64=>?_) (fun t64=>?_)
  ·have ho:own=true:=t64;subst ho;refine gi (aN hg) ?_;refine gs (de (.tmp rfl) rfl (by rw[length_map,r6]) (.tmp rfl) T39 rfl T3 rfl rfl (by simp only[length_map];omega) rfl rfl) ?_;exact iT J1 trivial (hw:=(Wk.of (sl:=[(1,some (i64 i)),(4,some (.ptr 4 0)),(6,some (.ptr 6 0)),(10,some (.lst 4 ((splitG l).map Gr.av))),(13,some (.ms 71 1 0 (cQ l g true).length))]) (hp:=[(4,some (.box l.av.cells)),(6,some (.box a.av.cells)),(71,some (.row 1 ((cQ l g true).map i64)))]) (.k (.k (.k (.k (.cons rfl (Sub.of (by rw[Id,length_append,r6,length_map])) .nil))))) (.k (.k (.cons rfl (BlkSub.of (by rw[Id,map_append])) .nil)))).trans<|(Wk.rk (k:=71) (d:=900) rfl rfl).trans<|Wk.o)
  have ho:own=false:=t64;subst ho;exact iT J1 trivial (hw:=Wk.of (.cons rfl (Sub.of (by rw[FU,r6])) (.k (.k (.k (.k .nil))))) (.cons rfl (BlkSub.of (by rw[FU])) (.k (.k .nil))))
 rintro -;refine gt (aI (Con.rk 900 rfl rfl (Ol (cQ l g own) oz)) (cJ rfl) aL rfl rfl) ?_ (17,0);refine gW ((Wk.freeze (k:=900) rfl).trans<|Wk.of (sl:=[(1,some (i64 i)),(4,some (.ptr 4 0)),(6,some (.ptr 6 0)),(10,some (.lst 4 ((splitG l).map Gr.av))),(13,some (.lst 1 ((eK (cQ l g own)).map i64)))]) (hp:=[(4,some (.box l.av.cells)),(6,some (.box a.av.cells))]) (.k (.k (.k (.k (.cons rfl (Sub.of (cr (by rw[length_map,EC]))) .nil))))) (.k (.k .nil))) ?_;refine gl ?_;refine aZ [1,4,6,10,74,75] [4,6] (fun(j:Nat)=>[(76,some (i64 j))]) (fun _=>[]) (fun j=>j<=(eK (cQ l g own)).length/\∀b∈(eK (cQ l g own)).take j,fU a b=0) (fun j=>(eK (cQ l g own)).length-j) 0 ⟨zero_le _,fun b hb=>by simp at hb⟩ ?_;rintro j ⟨hj,hjz⟩ K2 J2;refine gC (fun t77=>?_) (fun t77=>?_)
 ·have hjn:=bh t77;obtain ⟨b,hb⟩:=aH hjn;have hbm:=uJ.1 (mem_of_getElem? hb);have hbr:=yI hli hgo b hbm;have hsl:(eK (cQ l g own)).length <= 5:=by rw [EC]; exact hnl
  refine gi (aN hb) ?_;refine gC (fun t81=>?_) (fun t81=>?_)
  ·have hz : fU a b = 0 := by unfold fU; rw [if_pos (by simpa [aa] using t81)]
   refine ga aV ?_;exact aT J2 (j+1) ⟨hjn,fun c hc=>by rw[eD hb]at hc;rcases List.mem_append.1 hc with h9 |h9;exact hjz c h9;(rw[List.mem_singleton.1 h9];exact hz)⟩
  have hb0:0<=b:=by have:=of_decide_eq_false (p:=b<0) t81;omega
  obtain⟨p,hp⟩:=aH (l:=a.bs) (i:=b.toNat) oz;have hpn:=al.nr p (mem_of_getElem? hp);have hnd:fU a b=bb a.rs p.l:=by unfold fU;rw[if_neg oz,aw hp]
  refine gi (fD (n:=b.toNat) oz hp) ?_;refine ge rfl ?_;refine aZ [1,4,6,10,74,75,76,95,96] [4,6] (fun(q:Nat)=>[(97,some (i64 q))]) (fun _=>[]) (fun q=>q<=4/\∀x∈p.l.take q,b7 a.rs.length x=0) (fun q=>4-q) 0 ⟨zero_le _,fun x hx=>by simp at hx⟩ ?_;rintro q ⟨hq,hqz⟩ K3 J3;refine gC (fun t98=>?_) (fun t98=>?_)
  ·have hqn:q<4:=bh (b:=4) t98;obtain⟨x,hx⟩:∃x,p.l[q]?=some x:=aH (show q<p.l.length from hqn);have hxn:=hpn x (mem_of_getElem? hx);have hone:bb a.rs [x]=b7 a.rs.length x:=FI h4;refine gi (aN hx) ?_;refine gc (GZ a.rs 400000000 al.tr x 50000000000 hxn (JD _)) ?_;refine gC (fun t109=>?_) (fun t109=>?_)
   ·have h5:=fc t109;rw [hone] at h5 ⊢;have h6:fU a b = b7 a.rs.length x:=hnd.trans (TH h4 hx hqz h5);have h7:et l (i:Nat) a own = b7 a.rs.length x:=by rw [he5,UW hb hjz (by rw [h6]; exact h5),h6]
    refine gR ?_;rw[h7,pj h5,ow h5];exact kP rfl
   have h5:=eH t109;rw[hone]at h5;refine ga aV ?_;exact aT J3 (q+1) ⟨hqn,fun z hz=>by rw[eD hx]at hz;rcases List.mem_append.1 hz with h9 |h9;exact hqz z h9;(rw[List.mem_singleton.1 h9];exact h5)⟩
  have hqn:q=4:=bD (b:=4) hq t98;subst hqn;have hqz:∀x∈p.l,b7 a.rs.length x=0:=hqz;refine ga aV ?_;exact aT J2 (j+1) ⟨hjn,fun c hc=>by rw[eD hb]at hc;rcases List.mem_append.1 hc with h9 |h9;exact hjz c h9;(rw[List.mem_singleton.1 h9,hnd];exact oK h4 hqz)⟩
 have hjn:=bD hj t77
 have h8:et l (i:Nat) a own=0:=by
  rw[he5];exact oc (fun b hb=>hjz b (by rw[hjn,take_length];exact hb))
 refine gi (aN hg) ?_;refine gD ?_ (77777,0);refine gW (Wk.o (sl:=[(8,some (.ptr 120 0)),(9,some (.v .nilIface))]) (hp:=[(120,some (b8 l g a))])) ?_ (77777,0);refine gW (Wk.rk (k:=120) (d:=900) rfl rfl) ?_;refine gR ?_;rw[h8];exact aJ.keep (br rfl)
theorem xQ{ts:LL}{r e:Nat}(tw:Tw ts r){a b c d:List Rat}(ha:Nm ts.length e a)(hb:Nm ts.length e b)(hc:Nm ts.length e c)(hd:Nm ts.length e d)(he:2*e<=lm ts.length) :
  FP 76 [aO ts,aG a b,aG c d] (.tup [aG (sh ts.length (subT ts (ac ts.length a) (ac ts.length c))) (sh ts.length (subT ts (ac ts.length b) (ac ts.length d))),.v .nilIface]):=by
 refine aj func76 ?_;refine gc (tP (e:=e) tw [(a,b),(c,d)] (by simp only[mem_cons,not_mem_nil,or_false];rintro p (rfl |rfl);exact⟨ha,hb⟩;exact⟨hc,hd⟩) oz (by simp)) ?_;refine gC (fun t16=>?_) (fun t16=>?_) (st1:=(3,0));cases t16;refine gt (aI (Con.rB 21 rfl rfl rfl rfl (It tw ha hb hc hd he)) (aF rfl rfl rfl) aL rfl rfl) ?_;refine gt (aI (Con.rB 21 rfl rfl rfl rfl (wb _ _ _)) (bO rfl rfl) aL rfl rfl) ?_;refine bE ?_;rfl
theorem wC{ts:LL}{r e:Nat}(tw:Tw ts r){a b c d:List Rat}(ha:Nm ts.length e a)(hb:Nm ts.length e b)(hc:Nm ts.length e c)(hd:Nm ts.length e d)(he:2*(e+e+kB r ts.length)<=lm ts.length) :
  FP 77 [aO ts,aG a b,aG c d] (.tup [nA (sh ts.length (me ts (ac ts.length a) (ac ts.length b) (ac ts.length c) (ac ts.length d))),.v .nilIface]):=by
 refine aj func77 ?_;refine gc (Con.sA (.cons (.refl _) (.cons (.refl _) (.cons (.refl _) (.cons (Sub.fn0 _) .nil)))) (Ep tw ha hb hc hd oz _ _ (Qf tw ha hb hc hd he))) ?_;refine bE ?_
 first |rfl |(simp;done)
section
variable{ts:LL}{u k:Nat}{a b a2 b2:List Rat}{x y x2 y2:Et ts}{w v w' v' w2 v2 w3 v3:Nat}
theorem yu [c : Ct ts u k] [ha : Zl ts u k a x w v] [hb : Zl ts u k b y w' v'] [ha2 : Zl ts u k a2 x2 w2 v2] [hb2 : Zl ts u k b2 y2 w3 v3] (h : w + v + (w' + v') + (w2 + v2 + (w3 + v3)) <= 2500 := by decide) :
  FP 76 [aO ts,aG a b,aG a2 b2] (.tup [aG (sX (x-x2)) (sX (y-y2)),.v .nilIface]):=by
 obtain⟨R,tw,hk⟩:=c.ex;have h0:=Af c hk;have h1:=xQ (e:=2500*1000000) tw (ha.up c oz) (hb.up c oz) (ha2.up c oz) (hb2.up c oz) oz;rw[ha.eq,hb.eq,ha2.eq,hb2.eq]at h1;exact h1
theorem Qj [c : Ct ts u k] [ha : Zl ts u k a x w v] [hb : Zl ts u k b y w' v'] [ha2 : Zl ts u k a2 x2 w2 v2] [hb2 : Zl ts u k b2 y2 w3 v3] (h : w + v + (w' + v') + (w2 + v2 + (w3 + v3)) <= 2500 := by decide) :
  FP 77 [aO ts,aG a b,aG a2 b2] (.tup [nA (sX (crsE x y x2 y2)),.v .nilIface]):=by
 obtain⟨R,tw,hk⟩:=c.ex;have h0:=Af c hk;have h1:=wC (e:=2500*1000000) tw (ha.up c oz) (hb.up c oz) (ha2.up c oz) (hb2.up c oz) oz;rw[ha.eq,hb.eq,ha2.eq,hb2.eq]at h1;exact h1
end
variable{P:Program}{N:Nat}{R:Array Oper}{s:AS}{pos:String}{after:Array Edge}
theorem aS{d f k:Nat}{bx:Blk}{args:Array Operand}{ts:Array TypeId}{xs:List AV}{r:AV}{t:TypeId}
  (hcon:Con P f xs [(k,some bx)] r [(k,some bx)]) (ha:EvL s args.toList xs) (hk:s.blk k=some bx) (hok:jG s [(k,some bx)] [(k,some bx)] r=true) (hN:Nat.blt d N=true) :
  Step P N R s ⟨some d,.call ⟨.value (.func f),args,ts⟩,t,pos,after,none⟩ ⟨some r,[],eY args.toList,[k]⟩:=by
 refine Step.weaken (aI (d:=d) hcon ha (fun k' z h=>by
  obtain⟨rfl,h9⟩:=fA h;cases h9;exact hk) hok hN) (fun s' h=>h) (fun s' h k' hk'=>?_) (fun s' h=>?_)
 ·left;simp only[map_append,dP,map_cons,map_nil,mem_append,mem_cons,not_mem_nil,or_false]at hk' ⊢;rcases hk' with h9 |h9 <;> exact h9
 ·intro C m a w hr;refine⟨m,hr.weak (fun t x hx=>⟨x,hx,.refl _⟩) (fun k' x hx=>⟨x,?_,.refl _⟩)⟩;have hb:lk s'.hp k=some bx:=(h.2 k (List.mem_singleton.2 rfl)).trans hk;show lk ([(k,some bx)]++dP [(k,some bx)]++s'.hp) k'=some x;have hx':lk s'.hp k'=some x:=hx;simp only[dP,map_cons,map_nil,List.cons_append,nil_append,aU]
  by_cases e:k'=k
  ·rw[if_pos e];rw[e,hb]at hx';exact hx'
  ·rw[if_neg e,if_neg e];exact hx'
theorem o9{k1 k2 k':Nat}{x y:Option Blk}{z:Blk}(h:lk [(k1,x),(k2,y)] k'=some z):(k'=k1/\x=some z)\/(k'≠k1/\k'=k2/\y=some z):=by
 rw[aU]at h
 by_cases e:k'=k1
 ·rw[if_pos e]at h;exact .inl ⟨e,h⟩
 ·rw[if_neg e]at h;obtain⟨h1,h2⟩:=fA h;exact .inr ⟨e,h1,h2⟩
theorem m7{k1 k2:Nat}{x y:Option Blk}:lk [(k1,x),(k2,y)] k1=x:=by rw[aU,if_pos rfl]
theorem nG{k1 k2:Nat}{x y:Option Blk}(h:k1≠k2):lk [(k1,x),(k2,y)] k2=y:=by rw[aU,if_neg (fun e=>h e.symm),aU,if_pos rfl]
theorem Ft{k1 k2:Nat}(hne:k1≠k2){x y:Blk}{m:Nat->Option Nat}{b:Nat}:a8 [(k1,some x),(k2,some y)] m b↔m k1=some b\/m k2=some b:=by
 constructor
 ·rintro⟨k',z,hz,hb⟩;rcases o9 hz with⟨e,_⟩ |⟨_,e,_⟩
  ·exact .inl (e▸hb)
  ·exact .inr (e▸hb)
 ·rintro(h |h)
  ·exact⟨k1,x,m7,h⟩
  ·exact⟨k2,y,nG hne,h⟩
theorem GD{k1 k2 d1 d2:Nat}(hk:k1≠k2)(hd:d1≠d2){x y x' y':Blk}{m m2:Nat->Option Nat}(h1:m2 d1=m k1)(h2:m2 d2=m k2):a8 [(d1,some x'),(d2,some y')] m2=a8 [(k1,some x),(k2,some y)] m:=by
 funext b;apply propext;rw[Ft hk,Ft hd,h1,h2]
theorem Ba{ext:Nat->Prop}{k1 k2 d1 d2:Nat}(hk:k1≠k2)(hd:d1≠d2){x y x' y':Blk}{m m2:Nat->Option Nat}{w:World}(h1:m2 d1=m k1)(h2:m2 d2=m k2):Im ext [(d1,some x'),(d2,some y')] m2 w=Im ext [(k1,some x),(k2,some y)] m w:=by
 funext b cs;simp only[Im,GD hk hd (x:=x) (y:=y) (x':=x') (y':=y') h1 h2]
theorem GL{ext:Nat->Prop}{k1 k2 d1 d2:Nat}(hk:k1≠k2)(hd:d1≠d2){x y:Blk}{m m2:Nat->Option Nat}{w:World}(hx:x.nm=[])(hy:y.nm=[])(h1:m2 d1=m k1)(h2:m2 d2=m k2)
  (hr:HeapRel ext [(k1,some x),(k2,some y)] m w):HeapRel ext [(d1,some x),(d2,some y)] m2 w:=by
 refine⟨?_,?_,?_⟩
 ·intro k' z hz;rw[Ba hk hd (x:=x) (y:=y) h1 h2];rcases o9 hz with⟨rfl,h9⟩ |⟨_,rfl,h9⟩
  ·cases h9;exact BlkRep.mono (w:=w) (fun _ _ h=>h) (fun _ _ h=>h) (fun _ _ hn=>(Aw hx hn).elim) h1 (fun _ _=>rfl) (hr.blk k1 _ m7)
  ·cases h9;exact BlkRep.mono (w:=w) (fun _ _ h=>h) (fun _ _ h=>h) (fun _ _ hn=>(Aw hy hn).elim) h2 (fun _ _=>rfl) (hr.blk k2 _ (nG hk))
 ·intro k k' z z' b hz hz' hb hb';rcases o9 hz with⟨rfl,_⟩ |⟨_,rfl,_⟩ <;> rcases o9 hz' with⟨rfl,_⟩ |⟨_,rfl,_⟩
  ·rfl
  ·exact absurd (hr.inj k1 k2 _ _ b m7 (nG hk) (h1▸hb) (h2▸hb')) hk
  ·exact absurd (hr.inj k1 k2 _ _ b m7 (nG hk) (h1▸hb') (h2▸hb)) hk
  ·rfl
 ·intro k' z b hz hb;rcases o9 hz with⟨rfl,h9⟩ |⟨_,rfl,h9⟩
  ·exact hr.sep k1 _ b m7 (h1▸hb)
  ·exact hr.sep k2 _ b (nG hk) (h2▸hb)
theorem Con.rekeyBB{P:Program}{f:FuncId}{k1 k2 o1 o2:Nat}{x y x' y':Blk}{xs:List AV}{r:AV}(d1 d2:Nat)(hk:k1≠k2)(hd:d1≠d2)(hx:x.nm=[])(hy:y.nm=[])(hx':x'.nm=[])(hy':y'.nm=[])(hxs:(xs.all fun x=>x.nm.isEmpty)=true)(hr:r.nm=[])
  (h:Con P f (.ptr k1 o1 :: .ptr k2 o2::xs) [(k1,some x),(k2,some y)] r [(k1,some x'),(k2,some y')]):Con P f (.ptr d1 o1 :: .ptr d2 o2::xs) [(d1,some x),(d2,some y)] r [(d1,some x'),(d2,some y')]:=by
 refine⟨h.ok,?_⟩;intro ext m w vs hext hheap hvs hrep;obtain⟨m2,e1,e2⟩:∃m2:Nat->Option Nat,m2 k1=m d1/\m2 k2=m d2:=⟨fun k=>if k=k1 then m d1 else m d2,if_pos rfl,if_neg (fun e=>hk e.symm)⟩
 have h1 := h.ret ext m2 w vs hext (GL hd hk hx hy e1 e2 hheap) (by simpa using hvs) (by
  intro j v z hv hz;rw[Ba hd hk (x:=x) (y:=y) e1 e2]
  match j,hz with
  |0,hz =>
   cases hz;have h2:=hrep 0 v _ hv rfl;cases h2 with
   |ptr hm=>exact .ptr (e1.trans hm)
  |1,hz =>
   cases hz;have h2:=hrep 1 v _ hv rfl;cases h2 with
   |ptr hm=>exact .ptr (e2.trans hm)
  |j+2,hz =>
   have h2:=hrep (j+2) v z hv hz;refine iX ?_ h2;have:=List.all_eq_true.1 hxs z (mem_of_getElem? hz);simpa using this)
 refine Calls.mono h1 ?_;rintro e w' ⟨v,m',rfl,hf,hh,hn,hkp,hrr⟩;have ho:=GD hd hk (x:=x) (y:=y) (x':=x) (y':=y) e1 e2;obtain⟨m3,f1,f2⟩:∃m3:Nat->Option Nat,m3 d1=m' k1/\m3 d2=m' k2:=⟨fun k=>if k=d1 then m' k1 else m' k2,if_pos rfl,if_neg (fun e=>hd e.symm)⟩
 refine⟨v,m3,rfl,ho▸hf,GL hk hd hx' hy' f1 f2 hh,?_,?_,?_⟩
 ·intro k' z b hz hb;rw[<- ho];rcases o9 hz with⟨rfl,_⟩ |⟨_,rfl,_⟩
  ·exact hn k1 _ b m7 (f1▸hb)
  ·exact hn k2 _ b (nG hk) (f2▸hb)
 ·intro k' z z' hz hz';rcases o9 hz with⟨rfl,_⟩ |⟨_,rfl,_⟩
  ·rw[f1,<- e1];exact hkp k1 _ _ m7 m7
  ·rw[f2,<- e2];exact hkp k2 _ _ (nG hk) (nG hk)
 ·rw[Ba hk hd (x:=x') (y:=y') f1 f2];exact iX hr hrr
end Go.Lw
namespace Go.Lw
open Go.Proofs
theorem DN{l:Li}{body pt:Int}{n k:Nat}{bd:Bd}{m:Mk}(h:MkP l body pt n k bd m):qP (aB l body pt)=.agg [bl m.x.neg,ws m.x.num,ws m.x.den,bl m.y.neg,ws m.y.num,ws m.y.den]:=by
 rw[h.ex,h.ey]
theorem oT{p q:Rat×Rat}{e f:Nat}(hp:Sm e p)(hq:Sm f q)(he:e<=1000000)(hf:f<=1000000):FP 156 [qP p,qP q] (qP (bF p q)):=by
 refine aj func156 ?_;refine gc (wQ (hp.x.qs oz) (hq.x.qs oz)) ?_;refine gc (wQ (hp.y.qs oz) (hq.y.qs oz)) ?_;refine gD ?_;refine af ?_
 first |rfl |(simp;done)
theorem EK{p q:Rat×Rat}{e f:Nat}(hp:Sm e p)(hq:Sm f q)(he:e<=1000000)(hf:f<=1000000):FP 261 [qP p,qP q] (qA (bQ p q)):=by
 refine aj func261 ?_;refine gc (tW (hp.x.qs oz) (hq.x.qs oz)) ?_;refine gc (tW (hp.y.qs oz) (hq.y.qs oz)) ?_;refine gc (xM ((hp.x.mul hq.x).qs oz) ((hp.y.mul hq.y).qs oz)) ?_;refine gD ?_;refine af ?_
 first |rfl |(simp;done)
theorem RQ{p q:Rat×Rat}{e f:Nat}(hp:Sm e p)(hq:Sm f q)(he:e<=1000000)(hf:f<=1000000):FP 178 [qP p,qP q] (qA (ry p q)):=by
 refine aj func178 ?_;refine gc (tW (hp.x.qs oz) (hq.y.qs oz)) ?_;refine gc (tW (hp.y.qs oz) (hq.x.qs oz)) ?_;refine gc (wQ ((hp.x.mul hq.y).qs oz) ((hp.y.mul hq.x).qs oz)) ?_;refine gD ?_;refine af ?_
 first |rfl |(simp;done)
theorem BP{p:Rat×Rat}{e:Nat}(hp:Sm e p)(he:e<=1000000):FP 169 [qP p] (nA (sh 0 (bQ p p:Rat))):=by
 refine aj func169 ?_;refine gc (EK hp hp he he) ?_;refine gc (oF ((hp.dot hp).qs oz)) ?_;refine af ?_
 first |rfl |(simp;done)
theorem GH:FP 69 [] (nA (sh 0 ((1:Int):Rat))):=by
 refine aj func69 ?_;refine gc (mV 1 oz) ?_;refine gc (oF (nZ oz)) ?_;refine af ?_
 first |rfl |(simp;done)
theorem mM{l:Li}(hl:l.ok)(hli:aP l=0)(g:Gr)(a:As){body pt:Int}(h1:bA body l.bo.length=true)(h2:bA pt (cF l body).length=true) :
  Con prog 170 [.ptr 1000 0,i64 body,i64 pt] [(1000,some (b8 l g a))] (qP (aB l body pt)) [(1000,some (b8 l g a))]:=by
 obtain⟨n,k,bd,m,mp⟩:=qj hl hli h1 h2;rw[DN mp];have hn:=mp.hn;have hk:=mp.hk;have hlb:=hl.lb;subst hn;subst hk;refine gF func170 (fun k z h=>bH h) ?_;refine gi (aN mp.gbd) ?_;refine gi (aN mp.gm) ?_;refine gR ?_;exact aJ.keep (br rfl)
theorem pu{E:Nat}{l:Li}(hl:l.ok)(hli:aP l=0)(g:Gr){a:As}(al:AB a)(hc:bq a.rs=0){body pt:Int}(h1:bA body l.bo.length=true)(h2:bA pt (cF l body).length=true)(hE:E<=20000000000)(h3:(llq a.rs).length<=2)(hb:Pd E a body) :
  Con prog 91 [.ptr 1000 0,i64 body,i64 pt] [(1000,some (b8 l g a))] (aG (sX (ax l a body pt).1) (sX (ax l a body pt).2)) [(1000,some (b8 l g a))]:=by
 obtain⟨n,k,bd,m,b,hp⟩:=ue hl hli al hc h1 h2 hb;obtain⟨tw,hta⟩:=cA al.tr hc
 have kb:kB 400000000 (llq a.rs).length<=1200000006:=by
  have h9:=gP 400000000 h3;have h8:eB 400000000 2=1200000006:=by decide
  show eB 400000000 _<=_;omega
 have hlm:lm (llq a.rs).length=200000000000:=by unfold lm;rw[if_pos h3]
 have hlb:=hl.lb;have hbl:=al.bl;have hmk:=mM hl hli g a h1 h2;show Con prog _ _ _ (aG (sh (llq a.rs).length (fF l a body pt).1) (sh (llq a.rs).length (fF l a body pt).2)) _;rw[hp.eq];have hn:=hp.mp.hn;rw[DN hp.mp]at hmk
 have hat:FP 89 [cz a.rs,b.av,m.x.av,m.y.av] (.tup [aG (sh (llq a.rs).length (m9 (llq a.rs) b m).1) (sh (llq a.rs).length (m9 (llq a.rs) b m).2),.v .nilIface]):=by
  rw[hta,hp.av,hp.mp.ex,hp.mp.ey];have h9:=HR tw (hp.ok.c.mono (f:=E+1000) oz) (hp.ok.s.mono oz) (hp.ok.x.mono oz) (hp.ok.y.mono oz) (hp.mp.sm.x.mono (f:=E+1000) oz) (hp.mp.sm.y.mono (f:=E+1000) oz) oz;unfold m9;rw[hp.mp.ex,hp.mp.ey,bK,bK];exact h9
 refine gF func91 (fun k z h=>bH h) ?_;refine gt (aI hmk (aF rfl rfl rfl) aL rfl rfl) ?_;refine gi (fD (n:=n) hn hp.gb) ?_;refine gc hat ?_;refine gD ?_;refine gC (fun t39=>?_) (fun t39=>?_) (st2:=(77777,0))
 ·refine gR ?_;exact aJ.keep (br rfl)
 cases t39
theorem tj{E:Nat}(hE:E<=20000000000){l:Li}(hl:l.ok)(hli:aP l=0)(g:Gr)(hg:GrOk l g){a:As}(al:AB a)(hc:bq a.rs=0){k:Nat}{z b:Int}{j:Jt}(hz:g.jo[k]?=some z)(hj:l.jo[z.toNat]?=some j)(h3:(llq a.rs).length<=2)(h:PinP E l a j b) :
  Con prog 150 [.ptr 1000 0,i64 k,i64 b] [(1000,some (b8 l g a))] (.tup [qP (ah l j b),aG (sX (an l a j b).1) (sX (an l a j b).2)]) [(1000,some (b8 l g a))]:=by
 obtain⟨z0,z1⟩:=hg.j z (mem_of_getElem? hz);obtain⟨i1,i2,i3,i4,_⟩:=cH hli hj;have hgj:=hg.lj;have hlj:=hl.lj;refine gF func150 (fun k z h=>bH h) ?_;refine gi (aN hz) ?_;refine gi (fD (n:=z.toNat) oz hj) ?_;refine gD ?_;refine gC (fun t27=>?_) (fun t27=>?_)
 ·have e:j.a = b:=cB t27;have hb:Pd E a j.b:=by rcases h.tie with h9 | h9; exact h9.2; exact absurd e h9.1
  have eq1:ah l j b=aB l b j.point:=if_pos e;have eq2:an l a j b=ax l a j.b j.on:=if_pos e;rw[eq1,eq2];subst e;refine gt (aI (mM hl hli g a i1 i3) (aF rfl rfl rfl) aL rfl rfl) ?_;refine gt (aI (pu hl hli g al hc i2 i4 hE h3 hb) (aF rfl rfl rfl) aL rfl rfl) ?_;refine gD ?_;refine gR ?_;exact aJ.keep (br rfl)
 have e:j.a≠b:=cK t27;have e2:j.b=b/\Pd E a j.a:=by rcases h.tie with h9 |h9;exact absurd h9.1 e;exact h9.2
 have eq1:ah l j b=aB l b j.on:=if_neg e;have eq2:an l a j b=ax l a j.a j.point:=if_neg e;rw[eq1,eq2];obtain⟨e2,hb⟩:=e2;subst e2;refine gt (aI (mM hl hli g a i2 i4) (aF rfl rfl rfl) aL rfl rfl) ?_;refine gt (aI (pu hl hli g al hc i1 i3 hE h3 hb) (aF rfl rfl rfl) aL rfl rfl) ?_;refine gD ?_;refine gR ?_;exact aJ.keep (br rfl)
theorem GS{l:Li}(hl:l.ok)(hli:aP l=0)(g:Gr)(hg:GrOk l g)(a:As){z b:Int}{j:Jt}(hz:g.jo[2]?=some z)(hj:l.jo[z.toNat]?=some j)(h:j.a=b\/j.b=b) :
  Con prog 166 [.ptr 1000 0,i64 b] [(1000,some (b8 l g a))] (qP (ah l j b)) [(1000,some (b8 l g a))]:=by
 obtain⟨z0,z1⟩:=hg.j z (mem_of_getElem? hz);obtain⟨i1,i2,i3,i4,_⟩:=cH hli hj;have hgj:=hg.lj;have hlj:=hl.lj;have h2:=(List.getElem?_eq_some_iff.1 hz).1;refine gF func166 (fun k z h=>bH h) ?_;refine gi (aN hz) ?_;refine gi (fD (n:=z.toNat) oz hj) ?_;refine gD ?_;refine gC (fun t23=>?_) (fun t23=>?_)
 ·have e:j.a=b:=cB t23;have eq1:ah l j b=aB l b j.point:=if_pos e;rw[eq1];subst e;refine gt (aI (mM hl hli g a i1 i3) (aF rfl rfl rfl) aL rfl rfl) ?_;refine gR ?_;exact aJ.keep (br rfl)
 have e:j.a≠b:=cK t23;have e2:j.b=b:=by rcases h with h9 |h9;exact absurd h9 e;exact h9
 have eq1:ah l j b=aB l b j.on:=if_neg e;rw[eq1];subst e2;refine gt (aI (mM hl hli g a i2 i4) (aF rfl rfl rfl) aL rfl rfl) ?_;refine gR ?_;exact aJ.keep (br rfl)
theorem zK{l:Li}(hl:l.ok)(g:Gr)(hg:GrOk l g)(a:As){z:Int}{j:Jt}(hz:g.jo[1]?=some z)(hj:l.jo[z.toNat]?=some j) :
  Con prog 90 [.ptr 1000 0] [(1000,some (b8 l g a))] j.av [(1000,some (b8 l g a))]:=by
 obtain⟨z0,z1⟩:=hg.j z (mem_of_getElem? hz);have hgj:=hg.lj;have hlj:=hl.lj;have h2:=(List.getElem?_eq_some_iff.1 hz).1;refine gF func90 (fun k z h=>bH h) ?_;refine gi (aN hz) ?_;refine gi (fD (n:=z.toNat) oz hj) ?_;refine gD ?_;refine gR ?_;exact aJ.keep (br rfl)
abbrev Ox{ts:LL}(p:Rat×Rat)(at_:Et ts×Et ts)(c:Rat×Rat):List AV :=
  [bl (rt p.1).neg,ws (rt p.1).num,ws (rt p.1).den,bl (rt p.2).neg,ws (rt p.2).num,ws (rt p.2).den,nA (sX at_.1),nA (sX at_.2),bl (rt c.1).neg,ws (rt c.1).num,ws (rt c.1).den,bl (rt c.2).neg,ws (rt c.2).num,ws (rt c.2).den]
abbrev wO{ts:LL}(p:Rat×Rat)(at_:Et ts×Et ts)(c:Rat×Rat):AV:=.agg (Ox p at_ c)
abbrev Ll{ts:LL}(p:Rat×Rat)(at_:Et ts×Et ts)(c:Rat×Rat):AV:=.agg [nA (sX at_.1),nA (sX at_.2),nA (sh 0 (aX c p:Rat))]
theorem pJ{ts:LL}{p c:Rat×Rat}(hp:Sm 1000 p)(hc:Sm 1000 c)(at_:Et ts×Et ts):FP 73 [wO p at_ c] (Ll p at_ c):=by
 refine aj func73 ?_;refine gc (oT hc hp oz oz) ?_;refine gc (BP (hc.sub hp) oz) ?_;refine gD ?_;refine af ?_
 first |rfl |(simp;done)
theorem zI{E:Nat}{l:Li}(hl:l.ok)(hli:aP l=0){a:As}(al:AB a)(hc:bq a.rs=0)(h3:(llq a.rs).length<=2){i k z0 z1 z2:Int}{j0 j1 j2:Jt}(hg:GrOk l ⟨1,[i,k],[z0,z1,z2],0⟩)
  (h0:l.jo[z0.toNat]?=some j0) (h1:l.jo[z1.toNat]?=some j1) (h2:l.jo[z2.toNat]?=some j2) (p0:PinP E l a j0 i) (p1:PinP E l a j1 k) (t1:j2.a=i\/j2.b=i) (t2:j2.a=k\/j2.b=k) (hE:E<=20000000000:=by omega) :
  Con prog 70 [.ptr 1000 0] [(1000,some (b8 l ⟨1,[i,k],[z0,z1,z2],0⟩ a))] (.tup [wO (ah l j0 i) (an l a j0 i) (ah l j2 i),wO (ah l j1 k) (an l a j1 k) (ah l j2 k)]) [(1000,some (b8 l ⟨1,[i,k],[z0,z1,z2],0⟩ a))]:=by
 refine gF func70 (fun k z h=>bH h) ?_;refine gi (rfl) ?_;refine gi (rfl) ?_;refine gD ?_;refine gt (aI (tj oz hl hli _ hg al hc (k:=0) rfl h0 h3 p0) (.cons (.tmp rfl) (.cons (.const _) (cJ rfl))) aL rfl rfl) ?_;refine gt (aI (tj oz hl hli _ hg al hc (k:=1) rfl h1 h3 p1) (.cons (.tmp rfl) (.cons (.const _) (cJ rfl))) aL rfl rfl) ?_;refine gt (aI (GS hl hli _ hg a rfl h2 t1) (bO rfl rfl) aL rfl rfl) ?_;refine gt (aI (GS hl hli _ hg a rfl h2 t2) (bO rfl rfl) aL rfl rfl) ?_;refine gD ?_;refine gR ?_;exact aJ.keep (br rfl)
theorem xS{E:Nat}{l:Li}(hl:l.ok)(hli:aP l=0){a:As}(al:AB a)(hc:bq a.rs=0)(h3:(llq a.rs).length<=2){i z0 z1:Int}{j0 j1:Jt}(hg:GrOk l ⟨2,[i],[z0,z1],0⟩)
  (h0:l.jo[z0.toNat]?=some j0) (h1:l.jo[z1.toNat]?=some j1) (p0:PinP E l a j0 i) (ha:j1.a=i) (hk:j1.kind≠0) (hb:Pd E a j1.b) (hE:E<=20000000000:=by omega) :
  Con prog 74 [.ptr 1000 0] [(1000,some (b8 l ⟨2,[i],[z0,z1],0⟩ a))] (.tup [wO (ah l j0 i) (an l a j0 i) (aB l i j1.point),aG (sX (ax l a j1.b j1.on).1) (sX (ax l a j1.b j1.on).2),aG (sX (ax l a j1.b j1.to).1) (sX (ax l a j1.b j1.to).2)]) [(1000,some (b8 l ⟨2,[i],[z0,z1],0⟩ a))]:=by
 obtain⟨i1,i2,i3,i4,i5⟩:=cH hli h1;rw[ha]at i1 i3;refine gF func74 (fun k z h=>bH h) ?_;refine gi (rfl) ?_;refine gt (aS (zK hl _ hg a rfl h1) (cJ rfl) rfl rfl rfl) ?_;refine gD ?_;refine gt (aI (tj oz hl hli _ hg al hc (k:=0) rfl h0 h3 p0) (.cons (.tmp rfl) (.cons (.const _) (cJ rfl))) aL rfl rfl) ?_;refine gt (aI (mM hl hli _ a i1 i3) (aF rfl rfl rfl) aL rfl rfl) ?_;refine gt (aI (pu hl hli _ al hc i2 i4 oz h3 hb) (aF rfl rfl rfl) aL rfl rfl) ?_;refine gt (aI (pu hl hli _ al hc i2 (i5 hk) oz h3 hb) (aF rfl rfl rfl) aL rfl rfl) ?_;refine gD ?_;refine gR ?_;exact aJ.keep (br rfl)
structure Vr where
  w:List Rt
  x:List Rt
  y:List Rt
instance:Inhabited Vr:=⟨⟨[],[],[]⟩⟩
def Vr.av(v:Vr):AV:=.agg [nR v.w,nR v.x,nR v.y]
def Vr.l(v:Vr):List (List Rt):=[v.w,v.x,v.y]
theorem AL.ct{a:As}(h:AL a)(hc:bq a.rs=0):Ct (llq a.rs) 4000 300000:=by
 obtain⟨tw,_⟩:=cA h.tr hc;exact⟨⟨40000,tw,le_trans (Qp 40000 tw.three) oz⟩,by omega,by omega,by omega,by omega⟩
abbrev df(rs:List (List Rt)):Blk:=.box [.lst 1 (rs.map nR),.v .nilIface]
theorem lN(rs:List (List Rt))(a:List Rat):Con prog 71 [.ptr 1000 0,nA a,.v .nilIface] [(1000,some (df rs))] (nA a) [(1000,some (df rs))]:=by
 refine gF func71 (fun k z h=>bH h) ?_;refine gC (fun t11=>?_) (fun t11=>?_) (st2:=(77777,0))
 ·refine gR ?_;exact aJ.keep (br rfl)
 cases t11
theorem kL(rs:List (List Rt))(a b:List Rat):Con prog 75 [.ptr 1000 0,aG a b,.v .nilIface] [(1000,some (df rs))] (aG a b) [(1000,some (df rs))]:=by
 refine gF func75 (fun k z h=>bH h) ?_;refine gC (fun t11=>?_) (fun t11=>?_) (st2:=(77777,0))
 ·refine gR ?_;exact aJ.keep (br rfl)
 cases t11
section
variable{rs:List (List Rt)}{r u k:Nat}{a b:List Rat}{x y:Et (llq rs)}{w v w' v':Nat}
theorem wM (h : TR rs r) (hc : bq rs = 0) [c0 : Ct (llq rs) u k] [ha : Zl (llq rs) u k a x w v] [hb : Zl (llq rs) u k b y w' v'] (hs : w + v + (w' + v') <= 10000 := by decide) :
  Con prog 79 [.ptr 1000 0,nA a,nA b] [(1000,some (df rs))] (nA (sX (x*y))) [(1000,some (df rs))]:=by
 have hx:=H7 (ha:=ha) (hb:=hb) hs;rw[kH h hc]at hx;refine gF func79 (fun k z h=>bH h) ?_;refine gc hx ?_;refine gt (aI (lN _ _) (aF rfl rfl rfl) aL rfl rfl) ?_;refine gR ?_;exact aJ.keep (br rfl)
theorem Dn (h : TR rs r) (hc : bq rs = 0) [c0 : Ct (llq rs) u k] [ha : Zl (llq rs) u k a x w v] [hb : Zl (llq rs) u k b y w' v'] (hs : w + v + (w' + v') <= 10000 := by decide) :
  Con prog 78 [.ptr 1000 0,nA a,nA b] [(1000,some (df rs))] (nA (sX (x-y))) [(1000,some (df rs))]:=by
 have hx:=DB (ha:=ha) (hb:=hb) hs;rw[kH h hc]at hx;refine gF func78 (fun k z h=>bH h) ?_;refine gc hx ?_;refine gt (aI (lN _ _) (aF rfl rfl rfl) aL rfl rfl) ?_;refine gR ?_;exact aJ.keep (br rfl)
end
structure DyW(l:Li)(a:As):Prop where
  hl:l.ok
  li:aP l=0
  al:AB a
  hc:bq a.rs=0
structure DyR(l:Li)(a:As):Prop extends DyW l a where
  s:DyS a
theorem DyR.two{l:Li}{a:As}(D:DyR l a):(llq a.rs).length<=2:=le_trans (D.s.one D.hc) oz
theorem zj{n:Nat}(hn:n<=1):kB 64990 n<=65000:=by
 have h1:=gP 64990 hn;have h2:eB 64990 1=64992:=by simp only[eB]
 show eB 64990 _<=_;omega
theorem oh{n:Nat}(h3:n<=2):kB 400000000 n<=1200000006:=by
 have h9:=gP 400000000 h3;have h8:eB 400000000 2=1200000006:=by decide
 show eB 400000000 _<=_;omega
abbrev uv(l:Li)(a:As)(i:Int)(j0 j:Jt):List AV :=
  qC (ah l j0 i)++([nA (sX (an l a j0 i).1),nA (sX (an l a j0 i).2)]++(qC (cf l i j)++[nA (sh 0 (bV l i j0 j:Rat)),nA (sh 0 (fJ l i j:Rat)),nA (sX (bZ l a i j0 j)),nA (sX (bR l a i j0 j).1),nA (sX (bR l a i j0 j).2)]))
theorem zE{l:Li}{a:As}(D:DyR l a){n:Nat}{i:Int}{j0 j:Jt}(h0:l.jo[n]?=some j0)(p0:PinP 3900000 l a j0 i){m:Nat}(h1:l.jo[m]?=some j)(hb:Pd 3900000 a j.a) :
  Zu 310000 65000 (bR l a i j0 j).1 80 81/\Zu 310000 65000 (bR l a i j0 j).2 80 81:=by
 obtain⟨i1,i2,i3,i4,_⟩:=cH D.li h1;obtain⟨z1,z2⟩:=kl D.hl D.li D.al D.s D.hc h0 p0;obtain⟨y1,y2⟩:=lG D.hl D.li D.al D.s D.hc i1 i3 hb;haveI c:=D.s.ct D.hc;haveI:=z1;haveI:=z2;haveI:=y1;haveI:=y2
 exact⟨(inferInstance:Zu 310000 65000 ((ax l a j.a j.point).1-(an l a j0 i).1) _ _),(inferInstance:Zu 310000 65000 ((ax l a j.a j.point).2-(an l a j0 i).2) _ _)⟩
theorem H1{E:Nat}(hE:E<=20000000000){l:Li}{a:As}(D:DyW l a)(h3:(llq a.rs).length<=2){i z0 z1:Int}{j0 j:Jt}(hg:GrOk l ⟨3,[i],[z0,z1],0⟩)
  (h0:l.jo[z0.toNat]?=some j0) (h1:l.jo[z1.toNat]?=some j) (p0:PinP E l a j0 i) (hi:j.b=i) (hk:j.kind≠0) (hb:Pd E a j.a)
  (hsub:FP 76 [.agg [.lst 1 (a.rs.map nR)],aG (sX (ax l a j.a j.point).1) (sX (ax l a j.a j.point).2),aG (sX (an l a j0 i).1) (sX (an l a j0 i).2)] (.tup [aG (sX (bR l a i j0 j).1) (sX (bR l a i j0 j).2),.v .nilIface]))
  (hdot:FP 80 [.agg [.lst 1 (a.rs.map nR)],aG (sX (bR l a i j0 j).1) (sX (bR l a i j0 j).2),aG (sX (bR l a i j0 j).1) (sX (bR l a i j0 j).2)] (.tup [nA (sX (bZ l a i j0 j)),.v .nilIface])) :
  Con prog 81 [.ptr 1000 0,.ptr 1001 0] [(1000,some (b8 l ⟨3,[i],[z0,z1],0⟩ a)),(1001,some (df a.rs))] (.agg (uv l a i j0 j)) [(1000,some (b8 l ⟨3,[i],[z0,z1],0⟩ a)),(1001,some (df a.rs))]:=by
 obtain⟨i1,i2,i3,i4,i5⟩:=cH D.li h1;have hs0:Sm 1000 (ah l j0 i):=eT D.hl D.li h0 (by rcases p0.tie with h9 |h9;exact .inl h9.1;exact .inr h9.2.1);subst hi;have hs1:=iM D.hl D.li i2 i4;have hs2:=iM D.hl D.li i2 (i5 hk);have hv:=hs2.sub hs1;refine gF func81 (fun k z h=>OL h) ?_;refine gi (rfl) ?_;refine gt (aS (zK D.hl _ hg a rfl h1) (cJ rfl) rfl rfl rfl) ?_;refine gD ?_;refine gt (aI (tj hE D.hl D.li _ hg D.al D.hc (k:=0) rfl h0 h3 p0) (.cons (.tmp rfl) (.cons (.const _) (cJ rfl))) aL rfl rfl) ?_;refine gt (aS (mM D.hl D.li _ a i2 i4) (aF rfl rfl rfl) rfl rfl rfl) ?_;refine gt (aS (mM D.hl D.li _ a i2 (i5 hk)) (aF rfl rfl rfl) rfl rfl rfl) ?_;refine gc (oT hs2 hs1 oz oz) ?_;refine gD ?_;refine gc (oT hs1 hs0 oz oz) ?_;refine gc (RQ hv (hs1.sub hs0) oz oz) ?_;refine gc (oF ((hv.cross (hs1.sub hs0)).qs oz)) ?_;refine gc (BP hv oz) ?_;refine gD ?_;refine gt (aI (pu D.hl D.li _ D.al D.hc i1 i3 hE h3 hb) (aF rfl rfl rfl) aL rfl rfl) ?_;refine gC (fun t63=>?_) (fun t63=>?_) (st2:=(77777,0))
 ·refine gc hsub ?_;refine gt (aI (Con.rB 1001 rfl rfl rfl rfl (kL _ _ _)) (aF rfl rfl rfl) aL rfl rfl) ?_;refine gD ?_;refine gc hdot ?_;refine gt (aI (Con.rB 1001 rfl rfl rfl rfl (lN _ _)) (aF rfl rfl rfl) aL rfl rfl) ?_;refine gD ?_;refine gR ?_;exact aJ.keep (PI rfl rfl)
 cases t63
theorem Gv{l:Li}{a:As}(D:DyR l a){i z0 z1:Int}{j0 j:Jt}(hg:GrOk l ⟨3,[i],[z0,z1],0⟩)
  (h0:l.jo[z0.toNat]?=some j0) (h1:l.jo[z1.toNat]?=some j) (p0:PinP 3900000 l a j0 i) (hi:j.b=i) (hk:j.kind≠0) (hb:Pd 3900000 a j.a) :
  Con prog 81 [.ptr 1000 0,.ptr 1001 0] [(1000,some (b8 l ⟨3,[i],[z0,z1],0⟩ a)),(1001,some (df a.rs))] (.agg (uv l a i j0 j)) [(1000,some (b8 l ⟨3,[i],[z0,z1],0⟩ a)),(1001,some (df a.rs))]:=by
 obtain⟨i1,i2,i3,i4,i5⟩:=cH D.li h1;obtain⟨z1',z2'⟩:=kl D.hl D.li D.al D.s D.hc h0 p0;obtain⟨y1,y2⟩:=lG D.hl D.li D.al D.s D.hc i1 i3 hb;obtain⟨w1,w2⟩:=zE D h0 p0 h1 hb;haveI c:=D.s.ct D.hc;haveI:=z1';haveI:=z2';haveI:=y1;haveI:=y2;haveI:=w1;haveI:=w2
 have hsub:=yu (ts:=llq a.rs) (u:=310000) (k:=65000) (a:=sX (ax l a j.a j.point).1) (b:=sX (ax l a j.a j.point).2) (a2:=sX (an l a j0 i).1) (b2:=sX (an l a j0 i).2);have hdot:=Fa (ts:=llq a.rs) (u:=310000) (k:=65000) (a:=sX (bR l a i j0 j).1) (b:=sX (bR l a i j0 j).2) (a2:=sX (bR l a i j0 j).1) (b2:=sX (bR l a i j0 j).2);rw[kH D.s.tr D.hc]at hsub hdot;exact H1 oz D.toDyW D.two hg h0 h1 p0 hi hk hb hsub hdot
theorem I9{l:Li}{a:As}(D:DyR l a){i:Int}{j0 j:Jt}{w v:Nat}[z1:Zl (llq a.rs) 310000 65000 (sh 0 (bV l i j0 j:Rat)) (qE (bV l i j0 j)) 3 0][z2:Zl (llq a.rs) 310000 65000 (sh 0 (fJ l i j:Rat)) (qE (fJ l i j)) 3 0][z3:Zu 310000 65000 (bZ l a i j0 j) w v](hw:w+v<=2000) :
  Con prog 82 [.agg (uv l a i j0 j),.ptr 1001 0] [(1001,some (df a.rs))] (nA (sX (qE (fJ l i j)*bZ l a i j0 j-qE (bV l i j0 j)*qE (bV l i j0 j)))) [(1001,some (df a.rs))]:=by
 haveI c:=D.s.ct D.hc;haveI:=z1.zu;haveI:=z2.zu
 have m1:=wM (a:=sh 0 (fJ l i j:Rat)) (b:=sX (bZ l a i j0 j)) D.s.tr D.hc oz;have m2:=wM (a:=sh 0 (bV l i j0 j:Rat)) (b:=sh 0 (bV l i j0 j:Rat)) D.s.tr D.hc oz;have m3:=Dn (a:=sX (qE (fJ l i j)*bZ l a i j0 j)) (b:=sX (qE (bV l i j0 j)*qE (bV l i j0 j):Et (llq a.rs))) D.s.tr D.hc oz;refine gF func82 (fun k z h=>by have:=(fA h).1;omega) ?_;refine gt (aI (Con.rB 1001 rfl rfl rfl rfl m1) (aF rfl rfl rfl) aL rfl rfl) ?_;refine gt (aI (Con.rB 1001 rfl rfl rfl rfl m2) (aF rfl rfl rfl) aL rfl rfl) ?_;refine gt (aI (Con.rB 1001 rfl rfl rfl rfl m3) (aF rfl rfl rfl) aL rfl rfl) ?_;refine gD ?_;refine gR ?_;exact aJ.keep (br rfl)
abbrev Ci:Type:=List Rat×List Rat×List Rat
abbrev Fi(c:Ci):AV:=.agg [nA c.1,nA c.2.1,nA c.2.2]
structure CiZ(rs:List (List Rt))(c:Ci):Prop where
  x:Nm (llq rs).length 2500000000 c.1
  y:Nm (llq rs).length 2500000000 c.2.1
  r:Nm (llq rs).length 2500000000 c.2.2
  sg:0<=am (dE (llq rs) c.2.2)
theorem Ph{ts:LL}(p q:Et ts×Et ts):dotE (q.1-p.1) (q.2-p.2) (q.1-p.1) (q.2-p.2)=az p q:=by
 unfold az cR aK dotE;dsimp only;grind
theorem DA{ts:LL}(c:Ct ts 310000 65000){x y x2 y2:Et ts}(h1:Zu 310000 65000 x 40 40)(h2:Zu 310000 65000 y 40 40)(h3:Zu 310000 65000 x2 40 40)(h4:Zu 310000 65000 y2 40 40):Zu 310000 65000 (az (x,y) (x2,y2)) 320 327:=by
 haveI:=c;haveI:=h1;haveI:=h2;haveI:=h3;haveI:=h4
 exact(inferInstance:Zu 310000 65000 (dotE (x-x2) (y-y2) (x-x2) (y-y2)) _ _)
section
variable{rs:List (List Rt)}{r:Nat}{a b c a2 b2 c2:List Rat}
theorem Fc(h:TR rs r)(hc:bq rs=0){e:Nat}(ha:Nm (llq rs).length e a)(hb:Nm (llq rs).length e b)(he:e<=lm (llq rs).length):FP 273 [cz rs,aG a b] (.v .nilIface):=by
 obtain⟨tw,etw⟩:=cA h hc;have hca:=tP tw [(a,b)] (fun p hp=>by rw[List.mem_singleton.1 hp];exact⟨ha,hb⟩) he (by show 1<=500;omega);rw[<- etw]at hca;refine aj func273 ?_;refine gc hca ?_;refine af ?_;rfl
theorem Ef(h:TR rs r)(hc:bq rs=0){e:Nat}(ha:Nm (llq rs).length e a)(hb:Nm (llq rs).length e b)(hn:Nm (llq rs).length e c)(he:e+1<=lm (llq rs).length):FP 272 [cz rs,.agg [nA a,nA b,nA c]] (.v .nilIface):=by
 obtain⟨tw,etw⟩:=cA h hc;have hneg:=Ar tw hn oz;rw[<- etw]at hneg;refine aj func272 ?_;refine gc (Fc h hc ha hb oz) ?_;refine gC (fun t13=>?_) (fun t13=>?_) (st1:=(3,0));cases t13;refine gc hneg ?_;refine af ?_;rfl
theorem Ie(h:TR rs r)(hc:bq rs=0)(cs:List Ci)(hz:∀c∈cs,CiZ rs c)(hl:cs.length<=100):FP 274 [cz rs,.lst 3 (cs.map Fi)] (.v .nilIface):=by
 obtain⟨tw,etw⟩:=cA h hc;have hlm:=lM (llq rs).length;refine aj func274 ?_;refine gl ?_;refine aZ [2,9,10] [2] (fun(i:Nat)=>[(11,some (i64 i))]) (fun _=>[]) (fun i=>i<=cs.length) (fun i=>cs.length-i) 0 (zero_le _) ?_;rintro i hi K1 J1;refine gC (fun t12=>?_) (fun t12=>?_)
 ·have hin:=bh t12;obtain⟨z,hzi⟩:=aH hin;have hz9:=hz z (mem_of_getElem? hzi);have hs:=GR tw hz9.r oz;rw[<- etw]at hs;refine gi (aN hzi) ?_;refine gc hs ?_;refine gC (fun t23=>?_) (fun t23=>?_) (st1:=(6,0));cases t23;refine gC (fun t26=>?_) (fun t26=>?_) (st1:=(8,0));exact absurd t26 (by have h9:=hz9.sg;unfold am dE at h9;simp only[aa,decide_eq_true_eq];omega);refine ga aV ?_;exact aT J1 (i+1) hin
 refine af ?_;rfl
theorem Ia(h:TR rs r)(hc:bq rs=0)(cs:List Ci)(hz:∀c∈cs,CiZ rs c)(hl:cs.length<=100):FP 167 [cz rs,.lst 3 (cs.map Fi)] (.v .nilIface):=by
 have hlm:=lM (llq rs).length;have hck:=tK rs r h;rw[hc]at hck;refine aj func167 ?_;refine gc hck ?_;refine gC (fun t12=>?_) (fun t12=>?_) (st1:=(3,0));cases t12;refine gl ?_;refine aZ [1,2,14,15] [2] (fun(i:Nat)=>[(16,some (i64 i))]) (fun _=>[]) (fun i=>i<=cs.length) (fun i=>cs.length-i) 0 (zero_le _) ?_;rintro i hi K1 J1;refine gC (fun t17=>?_) (fun t17=>?_)
 ·have hin:=bh t17;obtain⟨z,hzi⟩:=aH hin;have hz9:=hz z (mem_of_getElem? hzi);refine gi (aN hzi) ?_;refine gc (Ef h hc hz9.x hz9.y hz9.r oz) ?_;refine gC (fun t24=>?_) (fun t24=>?_) (st1:=(9,0));cases t24;refine ga aV ?_;exact aT J1 (i+1) hin
 refine gc (Ie h hc cs hz hl) ?_;refine af ?_;rfl
theorem Tp(h:TR rs r)(hc:bq rs=0){x y x2 y2:Et (llq rs)}[c0:Ct (llq rs) 310000 65000][i1:Zl (llq rs) 310000 65000 a x 40 40][i2:Zl (llq rs) 310000 65000 b y 40 40][i4:Zl (llq rs) 310000 65000 a2 x2 40 40][i5:Zl (llq rs) 310000 65000 b2 y2 40 40] :
  FP 282 [cz rs,aG a b,aG a2 b2] (.tup [nA (sX (az (x,y) (x2,y2))),.v .nilIface]):=by
 obtain⟨_,etw⟩:=cA h hc;obtain⟨R,tw,hk⟩:=c0.ex;have kk:=c0.kk hk;obtain⟨K,hK⟩:∃K,40*310000+40*65000=K:=⟨_,rfl⟩
 have hlm:=lM (llq rs).length;have n1:=i1.nm;have n2:=i2.nm;have n4:=i4.nm;have n5:=i5.nm
 have hca:=tP tw [(a,b),(a2,b2)] (e:=40*310000+40*65000) (fun p hp=>by
  simp only[mem_cons,not_mem_nil,or_false]at hp;rcases hp with rfl |rfl
  ·exact⟨n1,n2⟩
  ·exact⟨n4,n5⟩) oz (by show 2<=500;omega)
 rw[<- etw]at hca;have hle:=It tw n4 n5 n1 n2 oz;have m1:=n4.sub n1;have m2:=n5.sub n2;have hdo:=HC tw m1 m2 m1 m2 oz;rw[i1.eq,i2.eq,i4.eq,i5.eq]at hle;rw[i1.eq,i2.eq,i4.eq,i5.eq,a5,a5]at hdo;have hd2:=Ph (x,y) (x2,y2);refine aj func282 ?_;refine gc hca ?_;refine gC (fun t17=>?_) (fun t17=>?_) (st1:=(3,0)) (st2:=(5,0));cases t17;refine gW (Wk.of (sl:=[(4,some (.ptr 4 0)),(5,some (.ptr 5 0)),(9,some (.ptr 21 0))]) (hp:=[(4,some (.box [nA a,nA b])),(5,some (.box [nA a2,nA b2])),(21,some (.box [.lst 1 ((llq rs).map nA),.v .nilIface]))]) bg (.k (.k (.cons rfl (BlkSub.bL (.cons (.of (lU etw)) (.cons (.refl _) .nil)) rfl) .nil)))) ?_;refine gt (aI (Con.rB 21 rfl rfl rfl rfl hle) (aF rfl rfl rfl) aL rfl rfl) ?_;refine gt (aI (Con.rB 21 rfl rfl rfl rfl hdo) (aF rfl rfl rfl) aL rfl rfl) ?_;refine gt (aI (Con.rB 21 rfl rfl rfl rfl (He _ _)) (bO rfl rfl) aL rfl rfl) ?_;refine bE ?_;rw[<- hd2];rfl
theorem tl(rs:List (List Rt))(a:List Rat):Con prog 275 [.ptr 1000 0,nA a,.v .nilIface] [(1000,some (df rs))] (nA a) [(1000,some (df rs))]:=by
 refine gF func275 (fun k z h=>bH h) ?_;refine gC (fun t11=>?_) (fun t11=>?_) (st2:=(77777,0))
 ·refine gR ?_;exact aJ.keep (br rfl)
 cases t11
end
section
variable{rs:List (List Rt)}{r u k:Nat}{a b:List Rat}{x y:Et (llq rs)}{w v w' v':Nat}
theorem KY (h : TR rs r) (hc : bq rs = 0) [c0 : Ct (llq rs) u k] [ha : Zl (llq rs) u k a x w v] [hb : Zl (llq rs) u k b y w' v'] (hs : w + v + (w' + v') <= 10000 := by decide) :
  Con prog 270 [.ptr 1000 0,nA a,nA b] [(1000,some (df rs))] (nA (sX (x+y))) [(1000,some (df rs))]:=by
 have hx:=Vm (ha:=ha) (hb:=hb) hs;rw[kH h hc]at hx;refine gF func270 (fun k z h=>bH h) ?_;refine gc hx ?_;refine gt (aI (tl _ _) (aF rfl rfl rfl) aL rfl rfl) ?_;refine gR ?_;exact aJ.keep (br rfl)
theorem CO (h : TR rs r) (hc : bq rs = 0) [c0 : Ct (llq rs) u k] [ha : Zl (llq rs) u k a x w v] [hb : Zl (llq rs) u k b y w' v'] (hs : w + v + (w' + v') <= 10000 := by decide) :
  Con prog 266 [.ptr 1000 0,nA a,nA b] [(1000,some (df rs))] (nA (sX (x-y))) [(1000,some (df rs))]:=by
 have hx:=DB (ha:=ha) (hb:=hb) hs;rw[kH h hc]at hx;refine gF func266 (fun k z h=>bH h) ?_;refine gc hx ?_;refine gt (aI (tl _ _) (aF rfl rfl rfl) aL rfl rfl) ?_;refine gR ?_;exact aJ.keep (br rfl)
theorem Ag (h : TR rs r) (hc : bq rs = 0) [c0 : Ct (llq rs) u k] [ha : Zl (llq rs) u k a x w v] [hb : Zl (llq rs) u k b y w' v'] (hs : w + v + (w' + v') <= 10000 := by decide) :
  Con prog 276 [.ptr 1000 0,nA a,nA b] [(1000,some (df rs))] (nA (sX (x*y))) [(1000,some (df rs))]:=by
 have hx:=H7 (ha:=ha) (hb:=hb) hs;rw[kH h hc]at hx;refine gF func276 (fun k z h=>bH h) ?_;refine gc hx ?_;refine gt (aI (tl _ _) (aF rfl rfl rfl) aL rfl rfl) ?_;refine gR ?_;exact aJ.keep (br rfl)
theorem M3 (h : TR rs r) (hc : bq rs = 0) [c0 : Ct (llq rs) u k] (n : Int) (hn : -9223372036854775808 <= n /\ n <= 9223372036854775807) [hq : Qz u (n : Rat) w'] [ha : Zl (llq rs) u k a x w v] (hs : w' + 0 + (w + v) <= 10000 := by decide) :
  Con prog 267 [.ptr 1000 0,i64 n,nA a] [(1000,some (df rs))] (nA (sX (qE (n:Rat)*x))) [(1000,some (df rs))]:=by
 have hm:=Ag (a:=sh 0 ((n:Rat):Rat)) (b:=a) h hc hs;refine gF func267 (fun k z h=>bH h) ?_;refine gc (mV n hn) ?_;refine gc (oF (nZ hn)) ?_;refine gt (aI hm (aF rfl rfl rfl) aL rfl rfl) ?_;refine gR ?_;exact aJ.keep (br rfl)
end
section
variable{rs:List (List Rt)}{r:Nat}{a b c a2 b2 c2:List Rat}{x y z x2 y2 z2:Et (llq rs)}
theorem Ij(h:TR rs r)(hc:bq rs=0)[c0:Ct (llq rs) 310000 65000][i1:Zl (llq rs) 310000 65000 a x 40 40][i2:Zl (llq rs) 310000 65000 b y 40 40][i3:Zl (llq rs) 310000 65000 c z 3 0][i4:Zl (llq rs) 310000 65000 a2 x2 40 40][i5:Zl (llq rs) 310000 65000 b2 y2 40 40][i6:Zl (llq rs) 310000 65000 c2 z2 3 0] :
  Con prog 168 [.ptr 1000 0,.agg [nA a,nA b,nA c],.agg [nA a2,nA b2,nA c2]] [(1000,some (df rs))] (.tup [nA (sX (bc (x,y) z (x2,y2) z2)),nA (sX (az (x,y) (x2,y2)))]) [(1000,some (df rs))]:=by
 have hd:=Tp (a:=a) (b:=b) (a2:=a2) (b2:=b2) h hc;haveI:=i3.zu;haveI:=i6.zu;haveI zd:=DA c0 i1.zu i2.zu i4.zu i5.zu;haveI q4:Qz 310000 ((4:Int):Rat) 1:=Qz.int (c:=Ct.cx (c:=c0)) (by decide);have m1:=KY (a:=c) (b:=sX (az (x,y) (x2,y2))) h hc (by decide);have m2:=CO (a:=sX (z+az (x,y) (x2,y2))) (b:=c2) h hc (by decide);have m3:=Ag (a:=c) (b:=sX (az (x,y) (x2,y2))) h hc (by decide);have m4:=M3 (a:=sX (z*az (x,y) (x2,y2))) h hc 4 oz (by decide);have m5:=Ag (a:=sX (z+az (x,y) (x2,y2)-z2)) (b:=sX (z+az (x,y) (x2,y2)-z2)) h hc (by decide);have m6:=CO (a:=sX (qE ((4:Int):Rat)*(z*az (x,y) (x2,y2)))) (b:=sX ((z+az (x,y) (x2,y2)-z2)*(z+az (x,y) (x2,y2)-z2))) h hc (by decide);refine gF func168 (fun k z h=>bH h) ?_;refine gc hd ?_;refine gt (aS (tl _ _) (aF rfl rfl rfl) rfl rfl rfl) ?_;refine gD ?_;refine gt (aS m1 (aF rfl rfl rfl) rfl rfl rfl) ?_;refine gt (aS m2 (aF rfl rfl rfl) rfl rfl rfl) ?_;refine gD ?_;refine gt (aS m3 (aF rfl rfl rfl) rfl rfl rfl) ?_;refine gt (aS m4 (.cons (.tmp rfl) (.cons (.const _) (cJ rfl))) rfl rfl rfl) ?_;refine gt (aS m5 (aF rfl rfl rfl) rfl rfl rfl) ?_;refine gt (aS m6 (aF rfl rfl rfl) rfl rfl rfl) ?_;refine gR ?_;exact aJ.keep (br rfl)
theorem Ny(h:TR rs r)(hc:bq rs=0)[c0:Ct (llq rs) 310000 65000][i1:Zl (llq rs) 310000 65000 a x 40 40][i2:Zl (llq rs) 310000 65000 b y 40 40][i3:Zl (llq rs) 310000 65000 c z 3 0][i4:Zl (llq rs) 310000 65000 a2 x2 40 40][i5:Zl (llq rs) 310000 65000 b2 y2 40 40][i6:Zl (llq rs) 310000 65000 c2 z2 3 0]
  (s1:0<=am z) (s2:0<=am z2):FP 72 [cz rs,.agg [nA a,nA b,nA c],.agg [nA a2,nA b2,nA c2]] (.tup [nA (sX (bc (x,y) z (x2,y2) z2)),.v .nilIface]):=by
 have hz:∀q∈[(a,b,c),(a2,b2,c2)],CiZ rs q:=fun q hq=>by
  simp only[mem_cons,not_mem_nil,or_false]at hq;rcases hq with rfl |rfl
  ·exact⟨i1.nm.mono oz,i2.nm.mono oz,i3.nm.mono oz,by show 0<=am (dE (llq rs) c);rw[show dE (llq rs) c=z from i3.eq];exact s1⟩
  ·exact⟨i4.nm.mono oz,i5.nm.mono oz,i6.nm.mono oz,by show 0<=am (dE (llq rs) c2);rw[show dE (llq rs) c2=z2 from i6.eq];exact s2⟩
 have hck:=Ia h hc [(a,b,c),(a2,b2,c2)] hz (by show 2<=100;omega);refine aj func72 ?_;refine gc hck ?_;refine gC (fun t18=>?_) (fun t18=>?_) (st1:=(3,0)) (st2:=(5,0));cases t18;refine gW (Wk.o (sl:=[(4,some (.ptr 4 0)),(5,some (.ptr 5 0)),(9,some (.ptr 22 0))]) (hp:=[(4,some (.box [nA a,nA b,nA c])),(5,some (.box [nA a2,nA b2,nA c2])),(22,some (df rs))])) ?_;refine gt (aI (Con.rB 22 rfl rfl rfl rfl (Ij h hc)) (aF rfl rfl rfl) aL rfl rfl) ?_;refine gC (fun t34=>?_) (fun t34=>?_) (st1:=(7,0));cases t34;refine gR ?_;exact kP rfl
end
class Cy(ts:LL)(u k:outParam Nat):Prop where
  ex:∃R,Tw ts R/\eB R ts.length<=k
  k1:1<=k
  u3:3<=u
  two:ts.length<=2
instance Cy.cx{ts:LL}{u k:Nat}[c:Cy ts u k]:Cx (ao ts) ts.length u k:=by
  obtain⟨R,tw,h⟩:=c.ex;exact⟨⟨R,DO tw▸tw,h⟩,c.k1,c.u3⟩
theorem Cy.zq{ts:LL}{u k:Nat}[c:Cy ts u k]{q:Rat}{w:Nat}[h:Qz u q w]:Zl ts u k (sh 0 (q:Rat)) (qE q:Et ts) w 0:=⟨gf _ q,by
 obtain⟨R,tw,_⟩:=c.ex;exact(Nm.ofQ tw.five h.cb).eq oz⟩
theorem Cy.lm{ts:LL}{u k:Nat}(c:Cy ts u k):lm ts.length=200000000000:=by unfold Go.Lw.lm;rw[if_pos c.two]
def iE{ts:LL}(y:Et ts):Et ts:=T.inv (ao ts) ts.length y
abbrev bf(ts:LL):Blk:=.box [.lst 1 (ts.map nA),.v .nilIface]
theorem Bx(ts:LL):df (ts.map (List.map rt))=bf ts:=by
 have h:=gL ts;unfold cz aO at h;have h1:=AV.agg.inj h
 injection h1 with h2
 show Blk.box [.lst 1 ((ts.map (List.map rt)).map nR),.v .nilIface]=_;rw[h2]
section
variable{ts:LL}{u k:Nat}{a b:List Rat}{x y:Et ts}{w v w' v':Nat}
theorem PP[c:Cy ts u k][ha:Zl ts u k a x w v][hb:Zl ts u k b y w' v'](hs:w*u+v*k+(w'*u+v'*k)<200000000000):FP 356 [aO ts,nA a,nA b] (.tup [nA (sX (x+y)),.v .nilIface]):=by
 obtain⟨R,tw,hk⟩:=c.ex;have h1:=yz tw ha.nm hb.nm (by rw[c.lm];omega);rw[ha.eq,hb.eq]at h1;exact h1
theorem Oi[c:Cy ts u k][ha:Zl ts u k a x w v][hb:Zl ts u k b y w' v'](hs:w*u+v*k+(w'*u+v'*k)<200000000000):FP 176 [aO ts,nA a,nA b] (.tup [nA (sX (x-y)),.v .nilIface]):=by
 obtain⟨R,tw,hk⟩:=c.ex;have h1:=oy tw ha.nm hb.nm (by rw[c.lm];omega);rw[ha.eq,hb.eq]at h1;exact h1
theorem QP[c:Cy ts u k][ha:Zl ts u k a x w v][hb:Zl ts u k b y w' v'](hs:w*u+v*k+(w'*u+v'*k)<200000000000):FP 127 [aO ts,nA a,nA b] (.tup [nA (sX (x*y)),.v .nilIface]):=by
 obtain⟨R,tw,hk⟩:=c.ex;have h1:=Ad tw ha.nm hb.nm (by rw[c.lm];omega);rw[ha.eq,hb.eq]at h1;exact h1
theorem C7[c:Cy ts u k][ha:Zl ts u k a x w v](hs:w*u+v*k<200000000000):FP 147 [aO ts,nA a] (.tup [nA (sX (-x)),.v .nilIface]):=by
 obtain⟨R,tw,hk⟩:=c.ex;have h1:=Ar tw ha.nm (by rw[c.lm];omega);rw[ha.eq]at h1;exact h1
theorem HV[c:Cy ts u k][ha:Zl ts u k a x w v](hs:w*u+v*k<200000000000):FP 116 [aO ts,nA a] (.tup [i64 (am x),.v .nilIface]):=by
 obtain⟨R,tw,hk⟩:=c.ex;have h1:=GR tw ha.nm (by rw[c.lm];omega);rw[ha.eq]at h1;exact h1
theorem Qd{j m:Nat}[c:Cy ts u k][ha:Zl ts u k a x w v][hb:Zl ts u k b y w' v'](nb:Nl j b)(hj:j<=ts.length)(h0:am y≠0)(hm:∀R,eB R ts.length<=k->iB R j (w'*u+v'*k)<=m)(hf:w'*u+v'*k<200000000000)(hs:w*u+v*k+m+k<=200000000000) :
  FP 281 [aO ts,nA a,nA b] (.tup [nA (sX (x*iE y)),.v .nilIface])/\Nm ts.length (w*u+v*k+m+k) (sX (x*iE y)):=by
 obtain⟨R,tw,hk⟩:=c.ex;have hi:=hm R hk;have he:=hb.eq;have h1:T.sgn (ao ts) ts.length (ac ts.length b)≠0:=by rw[he];exact h0
 have hd:=Bm tw ha.nm hb.nm hj nb h1 (by rw[c.lm];omega) oz;have hn:=yv tw ha.nm hb.nm hj nb h1 (by rw[c.lm];omega) oz;rw[ha.eq,he]at hd hn;exact⟨hd,hn.mono oz⟩
theorem ql{j:Nat}[c:Cy ts u k][ha:Zl ts u k a x w v][hb:Zl ts u k b y w' v'](nb:Nl j b)(hj:j<=ts.length)(hj1:j<=1)(h0:am y≠0)(hs:(w+5*w')*u+(v+5*v'+3)*k<=200000000000) :
  FP 281 [aO ts,nA a,nA b] (.tup [nA (sX (x*iE y)),.v .nilIface])/\Zu u k (x*iE y) (w+5*w') (v+5*v'+3):=by
 have e:(w+5*w')*u+(v+5*v'+3)*k=w*u+v*k+(5*(w'*u+v'*k)+2*k)+k:=by
  simp only[Nat.add_mul,Nat.mul_add,Nat.mul_assoc];omega
 rw[e]at hs
 have h:=Qd (a:=a) (b:=b) (m:=5*(w'*u+v'*k)+2*k) nb hj h0 (fun R hR=>by
  have h2:=PV R (w'*u+v'*k) hj1;have h3:=gP R hj;omega) oz hs
 exact⟨h.1,⟨h.2.eq e.symm⟩⟩
theorem pa(ts:LL)(a:List Rat):Con prog 275 [.ptr 1000 0,nA a,.v .nilIface] [(1000,some (bf ts))] (nA a) [(1000,some (bf ts))]:=by
 have h:=tl (ts.map (List.map rt)) a;rw[Bx]at h;exact h
theorem qF(ts:LL)(a:List Rat):Con prog 71 [.ptr 1000 0,nA a,.v .nilIface] [(1000,some (bf ts))] (nA a) [(1000,some (bf ts))]:=by
 have h:=lN (ts.map (List.map rt)) a;rw[Bx]at h;exact h
theorem km[c:Cy ts u k][ha:Zl ts u k a x w v][hb:Zl ts u k b y w' v'](hs:w*u+v*k+(w'*u+v'*k)<200000000000) :
  Con prog 270 [.ptr 1000 0,nA a,nA b] [(1000,some (bf ts))] (nA (sX (x+y))) [(1000,some (bf ts))]:=by
 refine gF func270 (fun k z h=>bH h) ?_;refine gc (PP hs) ?_;refine gt (aI (pa _ _) (aF rfl rfl rfl) aL rfl rfl) ?_;refine gR ?_;exact aJ.keep (br rfl)
theorem lI[c:Cy ts u k][ha:Zl ts u k a x w v][hb:Zl ts u k b y w' v'](hs:w*u+v*k+(w'*u+v'*k)<200000000000) :
  Con prog 266 [.ptr 1000 0,nA a,nA b] [(1000,some (bf ts))] (nA (sX (x-y))) [(1000,some (bf ts))]:=by
 refine gF func266 (fun k z h=>bH h) ?_;refine gc (Oi hs) ?_;refine gt (aI (pa _ _) (aF rfl rfl rfl) aL rfl rfl) ?_;refine gR ?_;exact aJ.keep (br rfl)
theorem jg[c:Cy ts u k][ha:Zl ts u k a x w v][hb:Zl ts u k b y w' v'](hs:w*u+v*k+(w'*u+v'*k)<200000000000) :
  Con prog 276 [.ptr 1000 0,nA a,nA b] [(1000,some (bf ts))] (nA (sX (x*y))) [(1000,some (bf ts))]:=by
 refine gF func276 (fun k z h=>bH h) ?_;refine gc (QP hs) ?_;refine gt (aI (pa _ _) (aF rfl rfl rfl) aL rfl rfl) ?_;refine gR ?_;exact aJ.keep (br rfl)
theorem tQ{q:List Rat}(hd:FP 281 [aO ts,nA a,nA b] (.tup [nA q,.v .nilIface])) :
  Con prog 269 [.ptr 1000 0,nA a,nA b] [(1000,some (bf ts))] (nA q) [(1000,some (bf ts))]:=by
 refine gF func269 (fun k z h=>bH h) ?_;refine gc hd ?_;refine gt (aI (pa _ _) (aF rfl rfl rfl) aL rfl rfl) ?_;refine gR ?_;exact aJ.keep (br rfl)
theorem qD[c:Cy ts u k][ha:Zl ts u k a x w v](hs:w*u+v*k<200000000000) :
  Con prog 263 [.ptr 1000 0,nA a] [(1000,some (bf ts))] (i64 (am x)) [(1000,some (bf ts))]:=by
 refine gF func263 (fun k z h=>bH h) ?_;refine gC (fun t11=>?_) (fun t11=>?_) (st1:=(2,0));cases t11;refine gc (HV hs) ?_;refine gR ?_;exact aJ.keep (br rfl)
theorem vY{q:List Rat}(hd:FP 281 [aO ts,nA a,nA b] (.tup [nA q,.v .nilIface])) :
  Con prog 163 [.ptr 1000 0,nA a,nA b] [(1000,some (bf ts))] (nA q) [(1000,some (bf ts))]:=by
 refine gF func163 (fun k z h=>bH h) ?_;refine gc hd ?_;refine gt (aI (qF _ _) (aF rfl rfl rfl) aL rfl rfl) ?_;refine gR ?_;exact aJ.keep (br rfl)
theorem yD[c:Cy ts u k][ha:Zl ts u k a x w v](hs:w*u+v*k<200000000000) :
  Con prog 160 [.ptr 1000 0,nA a] [(1000,some (bf ts))] (i64 (am x)) [(1000,some (bf ts))]:=by
 refine gF func160 (fun k z h=>bH h) ?_;refine gC (fun t11=>?_) (fun t11=>?_) (st1:=(2,0));cases t11;refine gc (HV hs) ?_;refine gR ?_;exact aJ.keep (br rfl)
theorem Aa[c:Cy ts u k](n:Int)(hn:-9223372036854775808<=n/\n<=9223372036854775807)[hq:Qz u (n:Rat) w'][ha:Zl ts u k a x w v](hs:w'*u+0*k+(w*u+v*k)<200000000000) :
  Con prog 267 [.ptr 1000 0,i64 n,nA a] [(1000,some (bf ts))] (nA (sX (qE (n:Rat)*x))) [(1000,some (bf ts))]:=by
 haveI:=Cy.zq (ts:=ts) (u:=u) (k:=k) (q:=(n:Rat)) (w:=w');have hm:=jg (ts:=ts) (u:=u) (k:=k) (a:=sh 0 ((n:Rat):Rat)) (b:=a) (x:=qE (n:Rat)) (y:=x) hs;refine gF func267 (fun k z h=>bH h) ?_;refine gc (mV n hn) ?_;refine gc (oF (nZ hn)) ?_;refine gt (aI hm (aF rfl rfl rfl) aL rfl rfl) ?_;refine gR ?_;exact aJ.keep (br rfl)
theorem uy{p1 p2 v1 v2 c m1 m2 q1 q2:List Rat}(h1:Con prog 276 [.ptr 1000 0,nA c,nA v1] [(1000,some (bf ts))] (nA m1) [(1000,some (bf ts))])
  (h2:Con prog 276 [.ptr 1000 0,nA c,nA v2] [(1000,some (bf ts))] (nA m2) [(1000,some (bf ts))])
  (h3:Con prog 270 [.ptr 1000 0,nA p1,nA m1] [(1000,some (bf ts))] (nA q1) [(1000,some (bf ts))])
  (h4:Con prog 270 [.ptr 1000 0,nA p2,nA m2] [(1000,some (bf ts))] (nA q2) [(1000,some (bf ts))]) :
  Con prog 268 [.ptr 1000 0,aG p1 p2,nA c,aG v1 v2] [(1000,some (bf ts))] (aG q1 q2) [(1000,some (bf ts))]:=by
 refine gF func268 (fun k z h=>bH h) ?_;refine gt (aI h1 (aF rfl rfl rfl) aL rfl rfl) ?_;refine gt (aI h3 (aF rfl rfl rfl) aL rfl rfl) ?_;refine gt (aI h2 (aF rfl rfl rfl) aL rfl rfl) ?_;refine gt (aI h4 (aF rfl rfl rfl) aL rfl rfl) ?_;refine gD ?_;refine gR ?_;exact aJ.keep (br rfl)
theorem Dp{r e:Nat}(tw:Tw ts r)(ha:Nm ts.length e a)(he:e<=lm ts.length)(hs:0<=T.sgn (ao ts) ts.length (ac ts.length a)) :
  Con prog 271 [.ptr 1000 0,nA a] [(1000,some (bf ts))] (nA (cw ts.length)) [(1000,some (bf (aQ ts a)))]:=by
 refine gF func271 (fun k z h=>bH h) ?_;refine gC (fun t12=>?_) (fun t12=>?_) (st1:=(2,0));cases t12;refine gc (HP tw ha he hs) ?_;refine gC (fun t24=>?_) (fun t24=>?_) (st1:=(5,0));cases t24;refine gR ?_;exact aJ.keep (br rfl)
abbrev xJ(ts:LL)(ps:List AV):AV:=.agg [.lst 1 (ts.map nA),.lst 2 ps]
theorem Q0{r:Nat}(tw:Tw ts r):Con prog 355 [.ptr 1000 0] [(1000,some (bf ts))] (aO ts) [(1000,some (bf ts))]:=by
 have h3:=tw.three;have hqs:=tw.rb.qs tw.le;refine gF func355 (fun k z h=>bH h) ?_;refine gl ?_;refine gW (Wk.virt 900 1 rfl) ?_;refine aZ [2,3,13,14] [1000,2] (fun(i:Nat)=>[(15,some (i64 i))]) (fun i=>[(3,some (.box [.ms 900 1 0 i])),(900,some (.row 1 ((ts.take i).map nA)))]) (fun i=>i<=ts.length) (fun i=>ts.length-i) 0 (zero_le _) ?_ (h2:=(.cons rfl (BlkSub.bL (.cons (.nM _ _ _) .nil) rfl) (.k .nil)));rintro i hi K1 J1;refine gC (fun t16=>?_) (fun t16=>?_) (st2:=(13,0))
 ·have hin:=bh t16;obtain⟨d,hd⟩:=aH hin
  have hdl:d.length<=32:=by
   have h9:=tw.len i hin;rw[aw hd]at h9;have:2^i<=32:=b9 (b:=5) oz;omega
  have hdq:=hqs d (mem_of_getElem? hd);refine gi (aN hd) ?_;refine gl ?_;refine gW (Wk.virt 901 3 rfl) ?_;refine aZ [2,3,13,14,15,19,20] [1000,2,3,900] (fun(j:Nat)=>[(6,some (.ms 901 3 0 j)),(21,some (i64 j))]) (fun j=>[(901,some (.row 3 ((d.take j).map qA)))]) (fun j=>j<=d.length) (fun j=>d.length-j) 0 (zero_le _) ?_;rintro j hj K2 J2;refine gC (fun t22=>?_) (fun t22=>?_) (st2:=(11,0))
  ·have hjn:=bh t22;obtain ⟨q,hq⟩:=aH hjn;have hadd:=rm (rt q) (rt 0) (hdq q (mem_of_getElem? hq)).ok Qs.zero.ok;rw [vD,bK] at hadd;refine gi (aN hq) ?_;refine gc (Con.sA (.cons (.refl _) (.cons jL .nil)) hadd) ?_;refine gs (de (.tmp rfl) rfl (by rw [length_map,length_take]; omega) (.tmp rfl) T67 rfl T45 rfl rfl (by simp only [length_cons,length_nil]; omega) rfl rfl) ?_ (10,0);refine gW (Wk.of (sl:=[(2,some (.ptr 2 0)),(3,some (.ptr 3 0)),(13,some (.lst 1 (ts.map nA))),(14,some (i64 ts.length)),(15,some (i64 i)),(6,some (.ms 30 3 0 (j + 1))),(19,some (nA d)),(20,some (i64 d.length)),(21,some (i64 j))]) (hp:=[(1000,some (bf ts)),(2,some (.box [nS])),(3,some (.box [.ms 900 1 0 i])),(900,some (.row 1 ((ts.take i).map nA))),(30,some (.row 3 ((d.take (j + 1)).map qA)))]) bg (.k (.k (.k (.k (.cons rfl (BlkSub.of (by rw [eD hq,map_append]; rfl)) .nil)))))) ?_ (10,0)
   refine gW (Wk.rk (k:=30) (d:=901) rfl rfl) ?_;refine ga aV ?_;exact aT J2 (j+1) hjn
  have hjn:=bD hj t22;subst hjn;refine gW ((Wk.freeze (k:=901) rfl).trans<|Wk.of (sl:=[(2,some (.ptr 2 0)),(3,some (.ptr 3 0)),(13,some (.lst 1 (ts.map nA))),(14,some (i64 ts.length)),(15,some (i64 i)),(6,some (nA d))]) (hp:=[(1000,some (bf ts)),(2,some (.box [nS])),(3,some (.box [.ms 900 1 0 i])),(900,some (.row 1 ((ts.take i).map nA)))]) (.k (.k (.k (.k (.k (.cons rfl (Sub.of (by rw[cr (by simp)];simp[nA])) .nil)))))) (.k (.k (.k (.k .nil))))) ?_
  refine gs (de (.tmp rfl) rfl (by rw[length_map,length_take];omega) (.tmp rfl) T35 rfl T67 rfl rfl (by simp only[length_cons,length_nil];omega) rfl rfl) ?_ (12,0);refine gW (Wk.of (sl:=[(2,some (.ptr 2 0)),(3,some (.ptr 3 0)),(13,some (.lst 1 (ts.map nA))),(14,some (i64 ts.length)),(15,some (i64 i))]) (hp:=[(1000,some (bf ts)),(2,some (.box [nS])),(3,some (.box [.ms 36 1 0 (i+1)])),(36,some (.row 1 ((ts.take (i+1)).map nA)))]) bg (.k (.k (.k (.cons rfl (BlkSub.of (by rw[eD hd,map_append];rfl)) .nil))))) ?_ (12,0);refine gW (Wk.rk (k:=36) (d:=900) rfl rfl) ?_;refine ga aV ?_;exact aT J1 (i+1) hin
 have hin:=bD hi t16;subst hin;refine gW ((Wk.freeze (k:=900) rfl).trans<|Wk.of (sl:=[(2,some (.ptr 2 0)),(3,some (.ptr 3 0))]) (hp:=[(1000,some (bf ts)),(2,some (.box [nS])),(3,some (.box [.lst 1 (ts.map nA)]))]) bg (.k (.k (.cons rfl (BlkSub.bL (.cons (Sub.of (by rw[cr (by simp)];simp)) .nil) rfl) .nil)))) ?_;refine gR ?_;exact aJ.keep (br rfl)
theorem nf{r:Nat}(tw:Tw ts r)(ps:List AV):Con prog 265 [.ptr 1000 0,.lst 2 ps] [(1000,some (bf ts))] (.tup [xJ ts ps,.v .nilIface]) [(1000,some (bf ts))]:=by
 refine gF func265 (fun k z h=>bH h) ?_;refine gC (fun t10=>?_) (fun t10=>?_) (st1:=(2,0));cases t10;refine gt (aI (Q0 tw) (cJ rfl) aL rfl rfl) ?_;refine gR ?_;exact aJ.keep (br rfl)
end
theorem dD(ts:LL)(a:List Rat):(aQ ts a).length=ts.length+1:=by simp[aQ]
theorem ID{ts:LL}{a:List Rat}{j:Nat}(h:j<ts.length):(aQ ts a).getD j []=ts.getD j []:=by
 unfold aQ;rw[getD_eq_getElem?_getD,getD_eq_getElem?_getD,getElem?_append_left h]
theorem s6(ts:LL)(a:List Rat):(aQ ts a).getD ts.length []=aY a (2^ts.length):=by
 unfold aQ;rw[getD_eq_getElem?_getD,getElem?_append_right (le_refl _),Nat.sub_self];rfl
theorem vu{ts:LL}{a:List Rat}{j:Nat}(h:j<ts.length):ao (aQ ts a) j=ao ts j:=by
 unfold ao;rw[ID h]
theorem vJ{ts:LL}{a:List Rat}{j:Nat}(h:j<=ts.length)(x:T j):T.sgn (ao (aQ ts a)) j x=T.sgn (ao ts) j x :=
 T.sgn_congr j (fun i hi=>vu oz) x
theorem RB.ext{r e:Nat}{ts:LL}{a:List Rat}(h:RB r ts)(ha:Cb e a):RB (r+e) (aQ ts a):=by
 obtain⟨D,N,h0,h1,h2,h3⟩:=h;obtain⟨D',N',k1,k2,k3⟩:=ha.wide (n:=2^ts.length);have hN:N<=2^r:=h3;refine⟨D*D',max (N*D') (N'*D),Nat.mul_pos h0 k1.1,?_,?_,?_⟩
 ·intro d hd;rcases List.mem_append.1 hd with h9 |h9
  ·exact((h1 d h9).scale k1.1).mono (Nat.le_max_left _ _)
  ·rw[List.mem_singleton.1 h9,Nat.mul_comm D];exact(k1.scale h0).mono (Nat.le_max_right _ _)
 ·rw[pow_add];exact Nat.mul_le_mul h2 k2
 ·rw[pow_add];refine Nat.max_le.2 ⟨Nat.mul_le_mul h3 k2,?_⟩;rw[Nat.mul_comm (2^r)];exact Nat.mul_le_mul k3 h2
theorem yy{r e:Nat}{ts:LL}{a:List Rat}(tw:Tw ts r)(h2:ts.length<=2)(ha:Nm ts.length e a)(he:r+e<=5000000000)(hs:0<=T.sgn (ao ts) ts.length (ac ts.length a)):Tw (aQ ts a) (r+e):=by
 refine⟨by rw[dD];omega,?_,?_,tw.rb.ext ha.cb,he⟩
 ·intro j hj;rw[dD]at hj;rcases lt_or_ge j ts.length with h |h
  ·rw[ID h];exact tw.len j h
  ·have : j = ts.length := by omega
   subst this;rw[s6];exact dG ha.nl.le
 ·intro j hj;rw[dD]at hj;rw[vJ oz];rcases lt_or_ge j ts.length with h |h
  ·rw[vu h];exact tw.pos j h
  ·have : j = ts.length := by omega
   subst this
   have e1:ao (aQ ts a) ts.length=ac ts.length a:=by
    show ac ts.length ((aQ ts a).getD ts.length [])=_;rw[s6,mU]
   rw[e1];exact hs
theorem mr{ts:LL}{a l:List Rat}{e:Nat}(h:Nm ts.length e l)(h4:ts.length<=4):Nm (aQ ts a).length e l:=by
 rw[dD];exact⟨by omega,h.nl.mono oz,h.cb⟩
theorem OW{ts:LL}{a l:List Rat}(h:Nl ts.length l):am (dE (aQ ts a) l)=am (dE ts l):=by
 unfold am dE;rw[dD];show T.sgn (ao (aQ ts a)) (ts.length+1) (ac (ts.length+1) l)=_;rw[tJ (ao (aQ ts a)) h.le (Nat.le_succ _),vJ (le_refl _)]
theorem um{ts:LL}{a:List Rat}(h4:ts.length<=4):Nm (aQ ts a).length 1 (cw ts.length):=by
 rw[dD];refine⟨by omega,.inr ⟨_,le_refl _,A0 _⟩,1,1,⟨by omega,?_⟩,by omega,by omega⟩;intro q hq;unfold cw at hq;rcases List.mem_or_eq_of_mem_set hq with h |h
 ·rw[(List.mem_replicate.1 h).2];exact⟨0,by rw[Rat.zero_mul];rfl,by simp⟩
 ·rw[h];exact⟨1,by rw[Rat.one_mul];rfl,by simp⟩
theorem Ve{r e k:Nat}{ts:LL}{a:List Rat}(tw:Tw ts r)(h1:ts.length<=1)(ha:Nm ts.length e a)(he:r+e<=5000000000)(hs:0<=T.sgn (ao ts) ts.length (ac ts.length a)){u:Nat}(hu:3<=u)(hk:3*(r+e)+6<=k):Cy (aQ ts a) u k :=
 ⟨⟨r+e,yy tw oz ha he hs,by
  rw[dD];have h:=gP (r+e) (show ts.length+1<=2 by omega);have h2:eB (r+e) 2=3*(r+e)+6:=by simp only[eB];omega
  omega⟩,by omega,hu,by rw[dD];omega⟩
structure Mt where
  ts:LL
  ps:List (List Rat×List Rat)
abbrev dp(p:List Rat×List Rat):AV:=aG p.1 p.2
abbrev Mt.av(m:Mt):AV:=xJ m.ts (m.ps.map dp)
abbrev P2(ts:LL):Type:=Et ts×Et ts
abbrev P2.l{ts:LL}(p:P2 ts):List Rat×List Rat:=(sX p.1,sX p.2)
abbrev aM{ts:LL}(X:Et ts)(x:Et ts):Et (aQ ts (sX X)):=dE (aQ ts (sX X)) (sX x)
section
variable{ts:LL}
def eA(d:Et ts):Et ts:=qE ((2:Int):Rat)*d
def fu(p q:P2 ts):P2 ts:=(q.1-p.1,q.2-p.2)
def cG(p:P2 ts)(k:Et ts)(v:P2 ts):P2 ts:=(p.1+k*v.1,p.2+k*v.2)
def cV(p q:P2 ts)(z z2:Et ts):P2 ts:=cG p ((z+az p q-z2)*iE (eA (az p q))) (fu p q)
def dY(X d:Et ts):Et (aQ ts (sX X)):=dE _ (cw ts.length)*iE (aM X (eA d))
def gp(X:Et ts)(f v:P2 ts)(c:Et (aQ ts (sX X))):P2 (aQ ts (sX X)):=cG (aM X f.1,aM X f.2) c (qE ((-1:Int):Rat)*aM X v.2,aM X v.1)
def lA(p:P2 ts)(z z2:Et ts):Mt:=if am (z-z2)≠0 then⟨ts,[]⟩else if 0<am z then⟨[],[]⟩else⟨ts,[(cG p 0 p).l]⟩
def dc(p q:P2 ts)(z z2:Et ts):Mt :=
  if am (az p q)=0 then lA p z z2
  else if am (bc p z q z2)<0 then⟨ts,[]⟩
  else if am (bc p z q z2)=0 then⟨ts,[(cV p q z z2).l]⟩
  else⟨aQ ts (sX (bc p z q z2)),[(gp (bc p z q z2) (cV p q z z2) (fu p q) (dY (bc p z q z2) (az p q))).l,
    (gp (bc p z q z2) (cV p q z z2) (fu p q) (qE ((-1:Int):Rat)*dY (bc p z q z2) (az p q))).l]⟩
def ka(z z2:Et ts):Nat:=if am (z-z2)=0/\0<am z then 15 else 0
def eL(p q:P2 ts)(z z2:Et ts):Nat:=if am (az p q)=0 then ka z z2 else 0
theorem DU:Sub (.agg [nS,nS]) (xJ [] []):=Sub.agg (.cons (.nil _ _ _) (.cons (.nil _ _ _) .nil)) rfl
end
theorem L7 {ts : LL} {u k : Nat} [c : Cy ts u k] : Zl ts u k [] (0 : Et ts) 0 0 := ⟨by rw [ia]; exact E.zero_def.symm, by
 obtain⟨R,tw,_⟩:=c.ex;exact⟨tw.five,.inl rfl,Cb.nil.mono (zero_le _)⟩⟩
section
variable{ts:LL}{a b c a2 b2 c2:List Rat}{x y z x2 y2 z2:Et ts}
theorem QO{r:Nat}(tw:Tw ts r)[c0:Cy ts 310000 65000][i1:Zl ts 310000 65000 a x 40 40][i2:Zl ts 310000 65000 b y 40 40][i3:Zl ts 310000 65000 c z 3 0][i6:Zl ts 310000 65000 c2 z2 3 0] :
  Con prog 264 [.ptr 1000 0,.agg [nA a,nA b,nA c],.agg [nA a2,nA b2,nA c2]] [(1000,some (bf ts))]
   (.tup [(lA (x,y) z z2).av,cq (ka z z2)]) [(1000,some (bf ts))]:=by
 haveI:=i1.zu;haveI:=i2.zu;haveI:=i3.zu;haveI:=i6.zu;have hm0:=Con.sA (.cons (.refl _) (.cons (Sub.nil 2 none 0) .nil)) (nf tw []);have m1:=lI (ts:=ts) (u:=310000) (k:=65000) (a:=c) (b:=c2) (by decide);have m2:=qD (ts:=ts) (u:=310000) (k:=65000) (a:=sX (z-z2)) (by decide);have m3:=qD (ts:=ts) (u:=310000) (k:=65000) (a:=c) (by decide);haveI zn:Zl ts 310000 65000 [] (0:Et ts) 0 0:=L7;have n1:=jg (ts:=ts) (u:=310000) (k:=65000) (a:=[]) (b:=a) (by decide);have n2:=jg (ts:=ts) (u:=310000) (k:=65000) (a:=[]) (b:=b) (by decide);have n3:=km (ts:=ts) (u:=310000) (k:=65000) (a:=a) (b:=sX (0*x)) (by decide);have n4:=km (ts:=ts) (u:=310000) (k:=65000) (a:=b) (b:=sX (0*y)) (by decide);have hal:=Con.sA (.cons (.refl _) (.cons (.refl _) (.cons (Sub.nil 3 none 0) (.cons (.refl _) .nil)))) (uy n1 n2 n3 n4);refine gF func264 (fun k z h=>bH h) ?_;refine gt (aS m1 (aF rfl rfl rfl) rfl rfl rfl) ?_;refine gt (aS m2 (bO rfl rfl) rfl rfl rfl) ?_;refine gC (fun t8=>?_) (fun t8=>?_)
 ·have h1:am (z-z2)≠0:=ut t8;refine gt (aS hm0 (.cons (.tmp rfl) (.cons (.const _) .nil)) rfl rfl rfl) ?_;refine gR ?_;exact(aJ.keep (br rfl)).sub (Sub.of (by unfold lA ka;rw[if_pos h1,if_neg (fun h=>h1 h.1)];rfl))
 have h1:am (z-z2)=0:=vV t8;refine gt (aS m3 (bO rfl rfl) rfl rfl rfl) ?_;refine gC (fun t22=>?_) (fun t22=>?_)
 ·have h2:0<am z:=of_decide_eq_true t22;refine gR ?_;exact(aJ.keep (br rfl)).sub (by unfold lA ka;rw[if_neg oz,if_pos h2,if_pos ⟨h1,h2⟩];exact Sub.tup (.cons DU (.cons (.refl _) .nil)))
 have h2:¬0<am z:=of_decide_eq_false t22;refine gt (aS hal (.cons (.tmp rfl) (.cons (.tmp rfl) (.cons (.const _) (cJ rfl)))) rfl rfl rfl) ?_;refine gt (aS (nf tw [aG (sX (x+0*x)) (sX (y+0*y))]) (bO rfl rfl) rfl rfl rfl) ?_;refine gR ?_;exact(aJ.keep (br rfl)).sub (Sub.of (by unfold lA ka;rw[if_neg oz,if_neg h2,if_neg (fun h=>h2 h.2)];rfl))
end
section
variable{rs:List (List Rt)}{r:Nat}{a b c a2 b2 c2:List Rat}{x y z x2 y2 z2:Et (llq rs)}
structure CirP(ts:LL)(p q:P2 ts)(z z2:Et ts):Prop where
  zd:Zu 310000 65000 (az p q) 320 327
  zX:Zu 310000 65000 (bc p z q z2) 976 989
  zt:Zu 310000 65000 (eA (az p q)) 321 328
  z1:Zu 310000 65000 (fu p q).1 80 81
  z2:Zu 310000 65000 (fu p q).2 80 81
theorem HM{ts:LL}{x y z x2 y2 z2:Et ts}(c:Ct ts 310000 65000)(h1:Zu 310000 65000 x 40 40)(h2:Zu 310000 65000 y 40 40)(h3:Zu 310000 65000 z 3 0)(h4:Zu 310000 65000 x2 40 40)(h5:Zu 310000 65000 y2 40 40)(h6:Zu 310000 65000 z2 3 0) :
  CirP ts (x,y) (x2,y2) z z2:=by
 haveI:=c;haveI:=h1;haveI:=h2;haveI:=h3;haveI:=h4;haveI:=h5;haveI:=h6
 haveI zd:=DA c h1 h2 h4 h5;haveI q4:Qz 310000 ((4:Int):Rat) 1:=Qz.int (c:=Ct.cx (c:=c)) (by decide);haveI q2:Qz 310000 ((2:Int):Rat) 1:=Qz.int (c:=Ct.cx (c:=c)) (by decide)
 exact⟨zd,(inferInstance:Zu 310000 65000 (qE ((4:Int):Rat)*(z*az (x,y) (x2,y2))-(z+az (x,y) (x2,y2)-z2)*(z+az (x,y) (x2,y2)-z2)) _ _),
  (inferInstance:Zu 310000 65000 (qE ((2:Int):Rat)*az (x,y) (x2,y2)) _ _),(inferInstance:Zu 310000 65000 (x2-x) _ _),(inferInstance:Zu 310000 65000 (y2-y) _ _)⟩
theorem EL{ts:LL}{x y z x2 y2 z2:Et ts}[c0:Cy ts 310000 65000](hn:ts.length<=1)(h1:Zu 310000 65000 x 40 40)(h2:Zu 310000 65000 y 40 40)(h3:Zu 310000 65000 z 3 0)(h6:Zu 310000 65000 z2 3 0)(P:CirP ts (x,y) (x2,y2) z z2)
  (h0:am (eA (az (x,y) (x2,y2)))≠0) :
  FP 281 [aO ts,nA (sX (z+az (x,y) (x2,y2)-z2)),nA (sX (eA (az (x,y) (x2,y2))))] (.tup [nA (sX ((z+az (x,y) (x2,y2)-z2)*iE (eA (az (x,y) (x2,y2))))),.v .nilIface]) /\
  Zu 310000 65000 ((z+az (x,y) (x2,y2)-z2)*iE (eA (az (x,y) (x2,y2)))) 1931 1972/\Zu 310000 65000 (cV (x,y) (x2,y2) z z2).1 2051 2095/\Zu 310000 65000 (cV (x,y) (x2,y2) z z2).2 2051 2095:=by
 haveI:=h1;haveI:=h2;haveI:=h3;haveI:=h6;haveI:=P.zd;haveI:=P.zt
 have hd:=ql (ts:=ts) (u:=310000) (k:=65000) (a:=sX (z+az (x,y) (x2,y2)-z2)) (b:=sX (eA (az (x,y) (x2,y2)))) (j:=ts.length) P.zt.nm.nl (le_refl _) hn h0 (by decide);haveI zk:=hd.2;haveI:=P.z1;haveI:=P.z2
 exact⟨hd.1,zk,(inferInstance:Zu 310000 65000 (x+((z+az (x,y) (x2,y2)-z2)*iE (eA (az (x,y) (x2,y2))))*(fu (x,y) (x2,y2)).1) _ _),
  (inferInstance:Zu 310000 65000 (y+((z+az (x,y) (x2,y2)-z2)*iE (eA (az (x,y) (x2,y2))))*(fu (x,y) (x2,y2)).2) _ _)⟩
structure ExtP{ts:LL}(X:Et ts):Prop where
  tw:Tw (aQ ts (sX X)) 366909990
  cy:Cy (aQ ts (sX X)) 773000000 1101400000
theorem uk{ts:LL}{X:Et ts}(tw:Tw ts 64990)(hn:ts.length<=1)(hx:Zu 310000 65000 X 976 989)(hs:0<=am X):ExtP X:=by
 have h9:0<=T.sgn (ao ts) ts.length (ac ts.length (sX X)):=by rw[show ac ts.length (sX X)=X from a5 _ _];exact hs
 have hm:=hx.nm;exact⟨yy tw oz hm (by decide) h9,Ve tw hn hm (by decide) h9 oz (by decide)⟩
theorem ko{ts:LL}{X x:Et ts}{w v:Nat}(hn:ts.length<=1)(h:Zu 310000 65000 x w v)(hs:w*310000+v*65000<=773000000):Zl (aQ ts (sX X)) 773000000 1101400000 (sX x) (aM X x) 1 0:=Zl.at (mr h.nm oz) hs
theorem pg{ts:LL}{X x:Et ts}:am (aM X x)=am x:=by
 show am (dE (aQ ts (sX X)) (sX x))=_;rw[OW (l:=sX x) (di _ _)];show am (dE ts (sX x))=_;rw[show dE ts (sX x)=x from a5 _ _]
theorem uY{ts:LL}{r:Nat}(tw:Tw ts r)(d:Et ts):am (eA d)=am d:=by
 have h:=dz (ao ts) ts.length tw.pos
 have h2:sg (ao ts) ts.length (qE ((2:Int):Rat):Et ts)=1:=by
  show T.sgn (ao ts) ts.length (T.ofQ ts.length ((2:Int):Rat))=1;rw[T.sgn_ofQ];rfl
 have h3:=h.mul (qE ((2:Int):Rat)) d;rw[h2,Int.one_mul]at h3;exact h3
structure SideP{ts:LL}(X d:Et ts)(f v:P2 ts):Prop where
  hd:FP 281 [aO (aQ ts (sX X)),nA (cw ts.length),nA (sX (eA d))] (.tup [nA (sX (dY X d)),.v .nilIface])
  ht:Con prog 267 [.ptr 1000 0,i64 (-1),nA (sX v.2)] [(1000,some (bf (aQ ts (sX X))))] (nA (sX (qE ((-1:Int):Rat)*aM X v.2))) [(1000,some (bf (aQ ts (sX X))))]
  hu:Con prog 267 [.ptr 1000 0,i64 (-1),nA (sX (dY X d))] [(1000,some (bf (aQ ts (sX X))))] (nA (sX (qE ((-1:Int):Rat)*dY X d))) [(1000,some (bf (aQ ts (sX X))))]
  a1:Con prog 268 [.ptr 1000 0,aG (sX f.1) (sX f.2),nA (sX (dY X d)),aG (sX (qE ((-1:Int):Rat)*aM X v.2)) (sX v.1)] [(1000,some (bf (aQ ts (sX X))))] (dp (gp X f v (dY X d)).l) [(1000,some (bf (aQ ts (sX X))))]
  a2:Con prog 268 [.ptr 1000 0,aG (sX f.1) (sX f.2),nA (sX (qE ((-1:Int):Rat)*dY X d)),aG (sX (qE ((-1:Int):Rat)*aM X v.2)) (sX v.1)] [(1000,some (bf (aQ ts (sX X))))] (dp (gp X f v (qE ((-1:Int):Rat)*dY X d)).l) [(1000,some (bf (aQ ts (sX X))))]
  n1:Zu 773000000 1101400000 (gp X f v (dY X d)).1 9 6/\Zu 773000000 1101400000 (gp X f v (dY X d)).2 9 6
  n2:Zu 773000000 1101400000 (gp X f v (qE ((-1:Int):Rat)*dY X d)).1 10 7/\Zu 773000000 1101400000 (gp X f v (qE ((-1:Int):Rat)*dY X d)).2 10 7
theorem D6{ts:LL}{X d:Et ts}{f v:P2 ts}(hn:ts.length<=1)(E:ExtP X)(hd:Zu 310000 65000 (eA d) 321 328)(h0:am (eA d)≠0)(f1:Zu 310000 65000 f.1 2051 2095)(f2:Zu 310000 65000 f.2 2051 2095)
  (v1:Zu 310000 65000 v.1 80 81) (v2:Zu 310000 65000 v.2 80 81):SideP X d f v:=by
 haveI cy:=E.cy;haveI zr:Zl (aQ ts (sX X)) 773000000 1101400000 (cw ts.length) (dE _ (cw ts.length)) 1 0:=Zl.at (um oz) (by decide);haveI zd:=ko (X:=X) hn hd (by decide);haveI zf1:=ko (X:=X) hn f1 (by decide);haveI zf2:=ko (X:=X) hn f2 (by decide);haveI zv1:=ko (X:=X) hn v1 (by decide);haveI zv2:=ko (X:=X) hn v2 (by decide);haveI:=zf1.zu;haveI:=zf2.zu;haveI:=zv1.zu;haveI:=zv2.zu
 have hdiv:=ql (ts:=aQ ts (sX X)) (u:=773000000) (k:=1101400000) (a:=cw ts.length) (b:=sX (eA d)) (j:=ts.length) hd.nm.nl (by rw[dD];omega) hn (by rw[pg];exact h0) (by decide);haveI zs:Zu 773000000 1101400000 (dY X d) 6 3:=hdiv.2;haveI qm:Qz 773000000 ((-1:Int):Rat) 1:=Qz.int (c:=Cy.cx (c:=cy)) (by decide);haveI zm:Zu 773000000 1101400000 (qE ((-1:Int):Rat)*aM X v.2) 2 1:=inferInstance;haveI zu:Zu 773000000 1101400000 (qE ((-1:Int):Rat)*dY X d) 7 4:=inferInstance;have ht:=Aa (ts:=aQ ts (sX X)) (u:=773000000) (k:=1101400000) (a:=sX v.2) (-1) oz (by decide);have hu:=Aa (ts:=aQ ts (sX X)) (u:=773000000) (k:=1101400000) (a:=sX (dY X d)) (-1) oz (by decide)
 have al:∀{c:Et (aQ ts (sX X))}{w k:Nat}(zc:Zu 773000000 1101400000 c w k),w<=7->k<=4 ->
   Con prog 268 [.ptr 1000 0,aG (sX f.1) (sX f.2),nA (sX c),aG (sX (qE ((-1:Int):Rat)*aM X v.2)) (sX v.1)] [(1000,some (bf (aQ ts (sX X))))] (dp (gp X f v c).l) [(1000,some (bf (aQ ts (sX X))))]:=by
  intro c w k zc hw hk;haveI:=zc;have m1:=jg (ts:=aQ ts (sX X)) (u:=773000000) (k:=1101400000) (a:=sX c) (b:=sX (qE ((-1:Int):Rat)*aM X v.2)) oz;have m2:=jg (ts:=aQ ts (sX X)) (u:=773000000) (k:=1101400000) (a:=sX c) (b:=sX v.1) oz;have m3:=km (ts:=aQ ts (sX X)) (u:=773000000) (k:=1101400000) (a:=sX f.1) (b:=sX (c*(qE ((-1:Int):Rat)*aM X v.2))) oz;have m4:=km (ts:=aQ ts (sX X)) (u:=773000000) (k:=1101400000) (a:=sX f.2) (b:=sX (c*aM X v.1)) oz;exact uy m1 m2 m3 m4
 exact⟨hdiv.1,ht,hu,al zs oz oz,al zu oz oz,
  ⟨(inferInstance:Zu 773000000 1101400000 (aM X f.1+dY X d*(qE ((-1:Int):Rat)*aM X v.2)) 9 6),⟨(inferInstance:Zu 773000000 1101400000 (aM X f.2+dY X d*aM X v.1) _ _).nm.mono (by decide)⟩⟩,
  ⟨(inferInstance:Zu 773000000 1101400000 (aM X f.1+qE ((-1:Int):Rat)*dY X d*(qE ((-1:Int):Rat)*aM X v.2)) 10 7),⟨(inferInstance:Zu 773000000 1101400000 (aM X f.2+qE ((-1:Int):Rat)*dY X d*aM X v.1) _ _).nm.mono (by decide)⟩⟩⟩
theorem SR(h:TR rs 64990)(hc:bq rs=0)(hn:(llq rs).length<=1)[c0:Ct (llq rs) 310000 65000][i1:Zl (llq rs) 310000 65000 a x 40 40][i2:Zl (llq rs) 310000 65000 b y 40 40][i3:Zl (llq rs) 310000 65000 c z 3 0][i4:Zl (llq rs) 310000 65000 a2 x2 40 40][i5:Zl (llq rs) 310000 65000 b2 y2 40 40][i6:Zl (llq rs) 310000 65000 c2 z2 3 0]
  (ha:a=sX x) (hb:b=sX y) (s1:0<=am z) (s2:0<=am z2):FP 157 [cz rs,.agg [nA a,nA b,nA c],.agg [nA a2,nA b2,nA c2]] (.tup [(dc (x,y) (x2,y2) z z2).av,cq (eL (x,y) (x2,y2) z z2)]):=by
 have hz:∀q∈[(a,b,c),(a2,b2,c2)],CiZ rs q:=fun q hq=>by
  simp only[mem_cons,not_mem_nil,or_false]at hq;rcases hq with rfl |rfl
  ·exact⟨i1.nm.mono oz,i2.nm.mono oz,i3.nm.mono oz,by show 0<=am (dE (llq rs) c);rw[show dE (llq rs) c=z from i3.eq];exact s1⟩
  ·exact⟨i4.nm.mono oz,i5.nm.mono oz,i6.nm.mono oz,by show 0<=am (dE (llq rs) c2);rw[show dE (llq rs) c2=z2 from i6.eq];exact s2⟩
 have hck:=Ia h hc [(a,b,c),(a2,b2,c2)] hz (by show 2<=100;omega);obtain⟨tw,etw⟩:=cA h hc;haveI cy:Cy (llq rs) 310000 65000:=⟨c0.ex,by omega,by omega,by omega⟩
 have P:=HM c0 i1.zu i2.zu i3.zu i4.zu i5.zu i6.zu;haveI:=P.zd;haveI:=P.zX;haveI:=i3.zu;haveI:=i6.zu;have m1:=qD (ts:=llq rs) (u:=310000) (k:=65000) (a:=sX (az (x,y) (x2,y2))) (by decide);have m2:=qD (ts:=llq rs) (u:=310000) (k:=65000) (a:=sX (bc (x,y) z (x2,y2) z2)) (by decide);have m0:=Con.sA (.cons (.refl _) (.cons (Sub.nil 2 none 0) .nil)) (nf tw []);have w1:=lI (ts:=llq rs) (u:=310000) (k:=65000) (a:=a2) (b:=a) (by decide);have w2:=lI (ts:=llq rs) (u:=310000) (k:=65000) (a:=b2) (b:=b) (by decide);haveI q2:Qz 310000 ((2:Int):Rat) 1:=Qz.int (c:=Cy.cx (c:=cy)) (by decide);have t2:=Aa (ts:=llq rs) (u:=310000) (k:=65000) (a:=sX (az (x,y) (x2,y2))) 2 oz (by decide);have k1:=km (ts:=llq rs) (u:=310000) (k:=65000) (a:=c) (b:=sX (az (x,y) (x2,y2))) (by decide);have k2:=lI (ts:=llq rs) (u:=310000) (k:=65000) (a:=sX (z+az (x,y) (x2,y2))) (b:=c2) (by decide);subst ha;subst hb;refine aj func157 ?_;refine gc hck ?_;refine gC (fun t24=>?_) (fun t24=>?_) (st1:=(3,0)) (st2:=(5,0));cases t24;refine gW (Wk.o (sl:=[(4,some (.ptr 4 0)),(5,some (.ptr 5 0)),(6,some (.ptr 6 0)),(9,some (.ptr 29 0))]) (hp:=[(4,some (.box [nA (sX x),nA (sX y),nA c])),(5,some (.box [nA a2,nA b2,nA c2])),(6,some (.box [nS,nS])),(29,some (df rs))])) ?_;refine gt (aI (Con.rB 29 rfl rfl rfl rfl (Ij h hc)) (aF rfl rfl rfl) aL rfl rfl) ?_ (6,0);refine gW (Wk.of (sl:=[(4,some (.ptr 4 0)),(5,some (.ptr 5 0)),(6,some (.ptr 6 0)),(9,some (.ptr 29 0)),(10,some (nA (sX (bc (x,y) z (x2,y2) z2)))),(11,some (nA (sX (az (x,y) (x2,y2)))))]) (hp:=[(4,some (.box [nA (sX x),nA (sX y),nA c])),(5,some (.box [nA a2,nA b2,nA c2])),(6,some (.box [nS,nS])),(29,some (bf (llq rs)))]) bg (.k (.k (.k (.cons rfl (BlkSub.bL (.cons (.of (lU etw)) (.cons (.refl _) .nil)) rfl) .nil))))) ?_
 refine gt (aS (Con.rB 29 rfl rfl rfl rfl m1) (bO rfl rfl) rfl rfl rfl) ?_;refine gC (fun t40=>?_) (fun t40=>?_)
 ·have hd0:am (az (x,y) (x2,y2))=0:=cB t40;refine gt (aS (Con.rB 29 rfl rfl rfl rfl (QO (a:=sX x) (b:=sX y) (c:=c) (a2:=a2) (b2:=b2) (c2:=c2) tw)) (aF rfl rfl rfl) rfl rfl rfl) ?_;refine bE ?_;unfold dc eL;rw[if_pos hd0,if_pos hd0]
 have hd0:¬am (az (x,y) (x2,y2))=0:=cK t40;refine gt (aS (Con.rB 29 rfl rfl rfl rfl m2) (bO rfl rfl) rfl rfl rfl) ?_;refine gC (fun t51=>?_) (fun t51=>?_)
 ·have hx0:am (bc (x,y) z (x2,y2) z2)<0:=of_decide_eq_true t51;refine gt (aS (Con.rB 29 rfl rfl rfl rfl m0) (.cons (.tmp rfl) (.cons (.const _) .nil)) rfl rfl rfl) ?_;refine bE ?_;unfold dc eL;rw[if_neg hd0,if_neg hd0,if_pos hx0];rfl
 have hx0:¬am (bc (x,y) z (x2,y2) z2)<0:=of_decide_eq_false t51;have ht0:am (eA (az (x,y) (x2,y2)))≠0:=by rw[uY tw];exact hd0
 obtain⟨fd,fk,f1,f2⟩:=EL hn i1.zu i2.zu i3.zu i6.zu P ht0;haveI:=fk;haveI:=P.z1;haveI:=P.z2;have g1:=jg (ts:=llq rs) (u:=310000) (k:=65000) (a:=sX ((z+az (x,y) (x2,y2)-z2)*iE (eA (az (x,y) (x2,y2))))) (b:=sX (fu (x,y) (x2,y2)).1) (by decide);have g2:=jg (ts:=llq rs) (u:=310000) (k:=65000) (a:=sX ((z+az (x,y) (x2,y2)-z2)*iE (eA (az (x,y) (x2,y2))))) (b:=sX (fu (x,y) (x2,y2)).2) (by decide);have g3:=km (ts:=llq rs) (u:=310000) (k:=65000) (a:=sX x) (b:=sX ((z+az (x,y) (x2,y2)-z2)*iE (eA (az (x,y) (x2,y2)))*(fu (x,y) (x2,y2)).1)) (by decide);have g4:=km (ts:=llq rs) (u:=310000) (k:=65000) (a:=sX y) (b:=sX ((z+az (x,y) (x2,y2)-z2)*iE (eA (az (x,y) (x2,y2)))*(fu (x,y) (x2,y2)).2)) (by decide);have gal:=uy g1 g2 g3 g4;refine gt (aS (Con.rB 29 rfl rfl rfl rfl w1) (aF rfl rfl rfl) rfl rfl rfl) ?_;refine gt (aS (Con.rB 29 rfl rfl rfl rfl w2) (aF rfl rfl rfl) rfl rfl rfl) ?_;refine gD ?_;refine gt (aS (Con.rB 29 rfl rfl rfl rfl t2) (.cons (.tmp rfl) (.cons (.const _) (cJ rfl))) rfl rfl rfl) ?_;refine gt (aS (Con.rB 29 rfl rfl rfl rfl k1) (aF rfl rfl rfl) rfl rfl rfl) ?_;refine gt (aS (Con.rB 29 rfl rfl rfl rfl k2) (aF rfl rfl rfl) rfl rfl rfl) ?_;refine gt (aS (Con.rB 29 rfl rfl rfl rfl (tQ fd)) (aF rfl rfl rfl) rfl rfl rfl) ?_;refine gt (aS (Con.rB 29 rfl rfl rfl rfl gal) (.cons (.tmp rfl) (.cons (.tmp rfl) (.cons (.tmp rfl) (.cons (.tmp rfl) .nil)))) rfl rfl rfl) ?_;refine gD ?_;refine gC (fun t94=>?_) (fun t94=>?_)
 ·have hx1:am (bc (x,y) z (x2,y2) z2)=0:=cB t94;refine gt (aS (Con.rB 29 rfl rfl rfl rfl (nf tw [dp (cV (x,y) (x2,y2) z z2).l])) (bO rfl rfl) rfl rfl rfl) ?_;refine bE ?_;unfold dc eL;rw[if_neg hd0,if_neg hd0,if_neg hx0,if_pos hx1];rfl
 have hx1:¬am (bc (x,y) z (x2,y2) z2)=0:=cK t94;have E:ExtP (bc (x,y) z (x2,y2) z2):=uk tw hn P.zX oz;have S:=D6 (X:=bc (x,y) z (x2,y2) z2) (d:=az (x,y) (x2,y2)) (f:=cV (x,y) (x2,y2) z z2) (v:=fu (x,y) (x2,y2)) hn E P.zt ht0 f1 f2 P.z1 P.z2;have hex:=Dp (a:=sX (bc (x,y) z (x2,y2) z2)) tw P.zX.nm (by rw[cy.lm];decide) (by rw[show ac (llq rs).length (sX (bc (x,y) z (x2,y2) z2))=bc (x,y) z (x2,y2) z2 from a5 _ _];show 0<=am (bc (x,y) z (x2,y2) z2);omega);refine gt (aI (Con.rB 29 rfl rfl rfl rfl hex) (bO rfl rfl) aL rfl rfl) ?_;refine gt (aS (Con.rB 29 rfl rfl rfl rfl (tQ S.hd)) (aF rfl rfl rfl) rfl rfl rfl) ?_;refine gt (aS (Con.rB 29 rfl rfl rfl rfl S.ht) (.cons (.tmp rfl) (.cons (.const _) (cJ rfl))) rfl rfl rfl) ?_;refine gD ?_;refine gt (aS (Con.rB 29 rfl rfl rfl rfl S.a1) (.cons (.tmp rfl) (.cons (.tmp rfl) (.cons (.tmp rfl) (.cons (.tmp rfl) .nil)))) rfl rfl rfl) ?_;refine gt (aS (Con.rB 29 rfl rfl rfl rfl S.hu) (.cons (.tmp rfl) (.cons (.const _) (cJ rfl))) rfl rfl rfl) ?_;refine gt (aS (Con.rB 29 rfl rfl rfl rfl S.a2) (.cons (.tmp rfl) (.cons (.tmp rfl) (.cons (.tmp rfl) (.cons (.tmp rfl) .nil)))) rfl rfl rfl) ?_;refine gt (aS (Con.rB 29 rfl rfl rfl rfl (nf E.tw [dp (gp (bc (x,y) z (x2,y2) z2) (cV (x,y) (x2,y2) z z2) (fu (x,y) (x2,y2)) (dY (bc (x,y) z (x2,y2) z2) (az (x,y) (x2,y2)))).l,dp (gp (bc (x,y) z (x2,y2) z2) (cV (x,y) (x2,y2) z z2) (fu (x,y) (x2,y2)) (qE ((-1:Int):Rat)*dY (bc (x,y) z (x2,y2) z2) (az (x,y) (x2,y2)))).l])) (bO rfl rfl) rfl rfl rfl) ?_;refine gD ?_;refine bE ?_;unfold dc eL;rw[if_neg hd0,if_neg hd0,if_neg hx0,if_neg hx1];rfl
end
section
variable{ts:LL}
abbrev ba(p q:P2 ts):Et ts:=cR (aK q p) (aK q p)
abbrev bI(p q c:P2 ts):Et ts:=cR (aK q p) (aK c p)
abbrev gS(p q c:P2 ts):Et ts:=gj (aK q p) (aK c p)
abbrev aR(p q c:P2 ts)(z:Et ts):Et ts:=ba p q*z-gS p q c*gS p q c
def fa(X:Et ts)(S:Et ts)(k:Et (aQ ts (sX X))):Et (aQ ts (sX X)):=k*iE (aM X S)
def ju(X:Et ts)(p v:P2 ts)(k:Et (aQ ts (sX X))):P2 (aQ ts (sX X)):=cG (aM X p.1,aM X p.2) k (aM X v.1,aM X v.2)
abbrev bu(X:Et ts):Et (aQ ts (sX X)):=dE _ (cw ts.length)
def dt(p q c:P2 ts)(z:Et ts):Mt :=
  if am (ba p q)=0 then⟨[],[]⟩else if am (aR p q c z)=-1 then⟨ts,[]⟩else if am (aR p q c z)=0 then⟨ts,[(cG p (bI p q c*iE (ba p q)) (aK q p)).l]⟩
  else⟨aQ ts (sX (aR p q c z)),[(ju (aR p q c z) p (aK q p) (fa (aR p q c z) (ba p q) (aM (aR p q c z) (bI p q c)+bu (aR p q c z)))).l,
    (ju (aR p q c z) p (aK q p) (fa (aR p q c z) (ba p q) (aM (aR p q c z) (bI p q c)-bu (aR p q c z)))).l]⟩
def eU(p q:P2 ts):Nat:=if am (ba p q)=0 then 8 else 0
structure LinP(p q c:P2 ts)(z:Et ts):Prop where
  v1:Zu 310000 65000 (aK q p).1 80 81
  v2:Zu 310000 65000 (aK q p).2 80 81
  w1:Zu 310000 65000 (aK c p).1 80 81
  w2:Zu 310000 65000 (aK c p).2 80 81
  zs:Zu 310000 65000 (ba p q) 320 327
  ze:Zu 310000 65000 (bI p q c) 320 327
  zc:Zu 310000 65000 (gS p q c) 320 327
  zX:Zu 310000 65000 (aR p q c z) 963 984
theorem Hx{p q c:P2 ts}{z:Et ts}(c0:Cy ts 310000 65000)(h1:Zu 310000 65000 p.1 40 40)(h2:Zu 310000 65000 p.2 40 40)(h3:Zu 310000 65000 q.1 40 40)(h4:Zu 310000 65000 q.2 40 40)(h5:Zu 310000 65000 c.1 40 40)(h6:Zu 310000 65000 c.2 40 40)(h7:Zu 310000 65000 z 3 0):LinP p q c z:=by
 haveI:=c0;haveI:=h1;haveI:=h2;haveI:=h3;haveI:=h4;haveI:=h5;haveI:=h6;haveI:=h7
 haveI v1:=(inferInstance:Zu 310000 65000 (q.1-p.1) 80 81)
 haveI v2:=(inferInstance:Zu 310000 65000 (q.2-p.2) 80 81)
 haveI w1:=(inferInstance:Zu 310000 65000 (c.1-p.1) 80 81)
 haveI w2:=(inferInstance:Zu 310000 65000 (c.2-p.2) 80 81)
 haveI zs:Zu 310000 65000 (ba p q) 320 327:=(inferInstance:Zu 310000 65000 ((q.1-p.1)*(q.1-p.1)+(q.2-p.2)*(q.2-p.2)) _ _)
 haveI ze:Zu 310000 65000 (bI p q c) 320 327:=(inferInstance:Zu 310000 65000 ((q.1-p.1)*(c.1-p.1)+(q.2-p.2)*(c.2-p.2)) _ _)
 haveI zc:Zu 310000 65000 (gS p q c) 320 327:=(inferInstance:Zu 310000 65000 ((q.1-p.1)*(c.2-p.2)-(q.2-p.2)*(c.1-p.1)) _ _)
 exact⟨v1,v2,w1,w2,zs,ze,zc,inferInstance⟩
structure LinQ(p q c:P2 ts):Prop where
  hd:FP 281 [aO ts,nA (sX (bI p q c)),nA (sX (ba p q))] (.tup [nA (sX (bI p q c*iE (ba p q))),.v .nilIface])
  al:Con prog 268 [.ptr 1000 0,aG (sX p.1) (sX p.2),nA (sX (bI p q c*iE (ba p q))),aG (sX (aK q p).1) (sX (aK q p).2)] [(1000,some (bf ts))] (dp (cG p (bI p q c*iE (ba p q)) (aK q p)).l) [(1000,some (bf ts))]
  n1:Zu 310000 65000 (cG p (bI p q c*iE (ba p q)) (aK q p)).1 2040 2088
  n2:Zu 310000 65000 (cG p (bI p q c*iE (ba p q)) (aK q p)).2 2040 2088
theorem Gx{p q c:P2 ts}{z:Et ts}(c0:Cy ts 310000 65000)(hn:ts.length<=1)(h1:Zu 310000 65000 p.1 40 40)(h2:Zu 310000 65000 p.2 40 40)(P:LinP p q c z)(h0:am (ba p q)≠0):LinQ p q c:=by
 haveI:=c0;haveI:=h1;haveI:=h2;haveI:=P.v1;haveI:=P.v2;haveI:=P.zs;haveI:=P.ze
 have hd:=ql (ts:=ts) (u:=310000) (k:=65000) (a:=sX (bI p q c)) (b:=sX (ba p q)) (j:=ts.length) P.zs.nm.nl (le_refl _) hn h0 (by decide);haveI:=hd.2;have m1:=jg (ts:=ts) (u:=310000) (k:=65000) (a:=sX (bI p q c*iE (ba p q))) (b:=sX (aK q p).1) (by decide);have m2:=jg (ts:=ts) (u:=310000) (k:=65000) (a:=sX (bI p q c*iE (ba p q))) (b:=sX (aK q p).2) (by decide);have m3:=km (ts:=ts) (u:=310000) (k:=65000) (a:=sX p.1) (b:=sX (bI p q c*iE (ba p q)*(aK q p).1)) (by decide);have m4:=km (ts:=ts) (u:=310000) (k:=65000) (a:=sX p.2) (b:=sX (bI p q c*iE (ba p q)*(aK q p).2)) (by decide);exact⟨hd.1,uy m1 m2 m3 m4,(inferInstance:Zu 310000 65000 (p.1+bI p q c*iE (ba p q)*(aK q p).1) _ _),(inferInstance:Zu 310000 65000 (p.2+bI p q c*iE (ba p q)*(aK q p).2) _ _)⟩
structure LinS(X:Et ts)(S:Et ts)(p v:P2 ts)(k:Et (aQ ts (sX X))):Prop where
  hd:FP 281 [aO (aQ ts (sX X)),nA (sX k),nA (sX S)] (.tup [nA (sX (fa X S k)),.v .nilIface])
  al:Con prog 268 [.ptr 1000 0,aG (sX p.1) (sX p.2),nA (sX (fa X S k)),aG (sX v.1) (sX v.2)] [(1000,some (bf (aQ ts (sX X))))] (dp (ju X p v (fa X S k)).l) [(1000,some (bf (aQ ts (sX X))))]
  n1:Zu 773000000 1101400000 (ju X p v (fa X S k)).1 9 6
  n2:Zu 773000000 1101400000 (ju X p v (fa X S k)).2 9 6
theorem vQ{X S:Et ts}{p v:P2 ts}{k:Et (aQ ts (sX X))}(hn:ts.length<=1)(E:ExtP X)(hs:Zu 310000 65000 S 320 327)(h0:am S≠0)(p1:Zu 310000 65000 p.1 40 40)(p2:Zu 310000 65000 p.2 40 40)(v1:Zu 310000 65000 v.1 80 81)(v2:Zu 310000 65000 v.2 80 81)
  (hk:Zu 773000000 1101400000 k 2 1):LinS X S p v k:=by
 haveI cy:=E.cy;haveI:=hk;haveI zs:=ko (X:=X) hn hs (by decide);haveI zp1:=ko (X:=X) hn p1 (by decide);haveI zp2:=ko (X:=X) hn p2 (by decide);haveI zv1:=ko (X:=X) hn v1 (by decide);haveI zv2:=ko (X:=X) hn v2 (by decide);haveI:=zp1.zu;haveI:=zp2.zu;haveI:=zv1.zu;haveI:=zv2.zu
 have hdiv:=ql (ts:=aQ ts (sX X)) (u:=773000000) (k:=1101400000) (a:=sX k) (b:=sX S) (j:=ts.length) hs.nm.nl (by rw[dD];omega) hn (by rw[pg];exact h0) (by decide);haveI zk:Zu 773000000 1101400000 (fa X S k) 7 4:=hdiv.2;have m1:=jg (ts:=aQ ts (sX X)) (u:=773000000) (k:=1101400000) (a:=sX (fa X S k)) (b:=sX v.1) (by decide);have m2:=jg (ts:=aQ ts (sX X)) (u:=773000000) (k:=1101400000) (a:=sX (fa X S k)) (b:=sX v.2) (by decide);have m3:=km (ts:=aQ ts (sX X)) (u:=773000000) (k:=1101400000) (a:=sX p.1) (b:=sX (fa X S k*aM X v.1)) (by decide);have m4:=km (ts:=aQ ts (sX X)) (u:=773000000) (k:=1101400000) (a:=sX p.2) (b:=sX (fa X S k*aM X v.2)) (by decide);exact⟨hdiv.1,uy m1 m2 m3 m4,(inferInstance:Zu 773000000 1101400000 (aM X p.1+fa X S k*aM X v.1) 9 6),(inferInstance:Zu 773000000 1101400000 (aM X p.2+fa X S k*aM X v.2) 9 6)⟩
theorem Bh{X:Et ts}{w v w' v' u k:Nat}(h:Zu u k X w v)(hw:w<=w')(hv:v<=v'):Zu u k X w' v':=⟨h.nm.mono (Bf hw hv)⟩
theorem JY{x:Int}(h:cond (cond (fC Value.nilIface) (aa .eql x 0) false) (fC Value.nilIface) false=true):x=0:=by
 cases h9:aa .eql x 0
 ·rw[h9]at h;cases h
 ·exact cB h9
theorem JZ{x:Int}(h:cond (cond (fC Value.nilIface) (aa .eql x 0) false) (fC Value.nilIface) false=false):x≠0:=by
 cases h9:aa .eql x 0
 ·exact cK h9
 ·rw[h9]at h;cases h
theorem UD{x y:AV}{i:Nat}{Q:AV->Prop}(hi:i<2)(hx:Q x)(hy:Q y):∃z,[x,y][i]?=some z/\Q z:=by
 have h:i=0\/i=1:=by omega
 rcases h with rfl |rfl
 ·exact⟨x,rfl,hx⟩
 ·exact⟨y,rfl,hy⟩
theorem BR{r e:Nat}{a b c d:Et ts}(tw:Tw ts r)(hl:lm ts.length=200000000000)(h1:Nm ts.length e (sX a))(h2:Nm ts.length e (sX b))(h3:Nm ts.length e (sX c))(h4:Nm ts.length e (sX d))(he:e+e+kB r ts.length<=100000000000) :
  FP 80 [aO ts,aG (sX a) (sX b),aG (sX c) (sX d)] (.tup [nA (sX (a*c+b*d)),.v .nilIface]):=by
 have h:=xg tw h1 h2 h3 h4 (by rw[hl];omega);rw[show ac ts.length (sX a)=a from a5 _ _,show ac ts.length (sX b)=b from a5 _ _,show ac ts.length (sX c)=c from a5 _ _,show ac ts.length (sX d)=d from a5 _ _]at h;exact h
theorem V5{r e:Nat}{a b c d:Et ts}(tw:Tw ts r)(hl:lm ts.length=200000000000)(h1:Nm ts.length e (sX a))(h2:Nm ts.length e (sX b))(h3:Nm ts.length e (sX c))(h4:Nm ts.length e (sX d))(he:e+e+kB r ts.length<=100000000000) :
  FP 77 [aO ts,aG (sX a) (sX b),aG (sX c) (sX d)] (.tup [nA (sX (a*d-b*c)),.v .nilIface]):=by
 have h:=wC tw h1 h2 h3 h4 (by rw[hl];omega);rw[show ac ts.length (sX a)=a from a5 _ _,show ac ts.length (sX b)=b from a5 _ _,show ac ts.length (sX c)=c from a5 _ _,show ac ts.length (sX d)=d from a5 _ _]at h;exact h
end
section
variable{rs:List (List Rt)}{c:List Rat}{o p q:P2 (llq rs)}{z:Et (llq rs)}
theorem Nx(h:TR rs 64990)(hc:bq rs=0)(hn:(llq rs).length<=1)(c0:Ct (llq rs) 310000 65000)(ho1:Zu 310000 65000 o.1 40 40)(ho2:Zu 310000 65000 o.2 40 40)(p1:Zu 310000 65000 p.1 40 40)(p2:Zu 310000 65000 p.2 40 40)(q1:Zu 310000 65000 q.1 40 40)(q2:Zu 310000 65000 q.2 40 40)
  [i3:Zl (llq rs) 310000 65000 c z 3 0] (s1:0<=am z):FP 159 [cz rs,.agg [nA (sX o.1),nA (sX o.2),nA c],dp p.l,dp q.l] (.tup [(dt p q o z).av,cq (eU p q)]):=by
 obtain⟨tw,etw⟩:=cA h hc;haveI cy:Cy (llq rs) 310000 65000:=⟨c0.ex,by obtain⟨_,h9,_⟩:=c0;exact h9,by obtain⟨_,_,h9,_⟩:=c0;exact h9,by omega⟩
 have hlm:=cy.lm;have hck:=tK rs 64990 h;rw[hc]at hck;have P:=Hx cy p1 p2 q1 q2 ho1 ho2 i3.zu;haveI:=ho1;haveI:=ho2;haveI:=p1;haveI:=p2;haveI:=q1;haveI:=q2;haveI:=P.v1;haveI:=P.v2;haveI:=P.w1;haveI:=P.w2;haveI:=P.zs;haveI:=P.ze;haveI:=P.zc;haveI:=P.zX
 have hci:=Ef (e:=40*310000+40*65000) h hc ho1.nm ho2.nm (i3.nm.mono (by decide)) (by rw[hlm];decide)
 have hra:=Ie h hc [(sX o.1,sX o.2,c)] (fun y hy=>by
  rw[List.mem_singleton.1 hy];exact⟨ho1.nm.mono (by decide),ho2.nm.mono (by decide),i3.nm.mono (by decide),by show 0<=am (dE (llq rs) c);rw[show dE (llq rs) c=z from i3.eq];exact s1⟩) (by show 1<=100;omega)
 have a1:=lI (ts:=llq rs) (u:=310000) (k:=65000) (a:=sX q.1) (b:=sX p.1) (by decide);have a2:=lI (ts:=llq rs) (u:=310000) (k:=65000) (a:=sX q.2) (b:=sX p.2) (by decide);have a3:=lI (ts:=llq rs) (u:=310000) (k:=65000) (a:=sX o.1) (b:=sX p.1) (by decide);have a4:=lI (ts:=llq rs) (u:=310000) (k:=65000) (a:=sX o.2) (b:=sX p.2) (by decide);have hkb:80*310000+81*65000+(80*310000+81*65000)+kB 64990 (llq rs).length<=100000000000:=by have:=zj hn;omega
 have b1:=BR tw hlm P.v1.nm P.v2.nm P.v1.nm P.v2.nm hkb;have b2:=BR tw hlm P.v1.nm P.v2.nm P.w1.nm P.w2.nm hkb;have b3:=V5 tw hlm P.v1.nm P.v2.nm P.w1.nm P.w2.nm hkb;rw[<- etw]at b1 b2 b3;have m1:=qD (ts:=llq rs) (u:=310000) (k:=65000) (a:=sX (ba p q)) (by decide);have m2:=jg (ts:=llq rs) (u:=310000) (k:=65000) (a:=sX (ba p q)) (b:=c) (by decide);have m3:=jg (ts:=llq rs) (u:=310000) (k:=65000) (a:=sX (gS p q o)) (b:=sX (gS p q o)) (by decide);haveI zz:=i3.zu;have m4:=lI (ts:=llq rs) (u:=310000) (k:=65000) (a:=sX (ba p q*z)) (b:=sX (gS p q o*gS p q o)) (by decide);have m5:=qD (ts:=llq rs) (u:=310000) (k:=65000) (a:=sX (aR p q o z)) (by decide);have m0:=Con.sA (.cons (.refl _) (.cons (Sub.nil 2 none 0) .nil)) (nf tw []);refine aj func159 ?_;refine gc hck ?_;refine gC (fun t27=>?_) (fun t27=>?_) (st1:=(3,0));cases t27;refine gc hci ?_;refine gC (fun t34=>?_) (fun t34=>?_) (st1:=(6,0));cases t34;refine ge rfl ?_;refine aZ [4,5,6,7,8,39,40] [4,5,6,7,8] (fun(i:Nat)=>[(41,some (i64 i))]) (fun _=>[]) (fun i=>i<=2) (fun i=>2-i) 0 (zero_le _) ?_;rintro i hi K1 J1;refine gC (fun t42=>?_) (fun t42=>?_)
 ·have hin:i<2:=bh (b:=2) t42;obtain⟨zz2,hz2,u,v,hu,hv,rfl⟩:=UD (x:=dp p.l) (y:=dp q.l) (Q:=fun w=>∃u v,Nm (llq rs).length (40*310000+40*65000) u/\Nm (llq rs).length (40*310000+40*65000) v/\w=aG u v) hin ⟨_,_,p1.nm,p2.nm,rfl⟩ ⟨_,_,q1.nm,q2.nm,rfl⟩;refine gi hz2 ?_;refine gc (Fc h hc hu hv (by rw[hlm];decide)) ?_;refine gC (fun t49=>?_) (fun t49=>?_) (st1:=(12,0));cases t49;refine ga aV ?_;exact aT J1 (i+1) hin
 refine gc hra ?_;refine gC (fun t58=>?_) (fun t58=>?_) (st1:=(16,0)) (st2:=(18,0));cases t58;refine gW (Wk.of (sl:=[(4,some (.ptr 4 0)),(5,some (.ptr 5 0)),(6,some (.ptr 6 0)),(7,some (.ptr 7 0)),(8,some (.ptr 8 0)),(16,some (.ptr 63 0))]) (hp:=[(4,some (.box [.lst 1 (rs.map nR)])),(5,some (.box [nA (sX o.1),nA (sX o.2),nA c])),(6,some (.box [nA (sX p.1),nA (sX p.2)])),(7,some (.box [nA (sX q.1),nA (sX q.2)])),(8,some (.box [nS,nS])),(63,some (bf (llq rs)))]) bg (.k (.k (.k (.k (.k (.cons rfl (BlkSub.bL (.cons (.of (lU etw)) (.cons (.refl _) .nil)) rfl) .nil))))))) ?_
 refine gt (aS (Con.rB 63 rfl rfl rfl rfl a1) (aF rfl rfl rfl) rfl rfl rfl) ?_;refine gt (aS (Con.rB 63 rfl rfl rfl rfl a2) (aF rfl rfl rfl) rfl rfl rfl) ?_;refine gD ?_;refine gt (aS (Con.rB 63 rfl rfl rfl rfl a3) (aF rfl rfl rfl) rfl rfl rfl) ?_;refine gt (aS (Con.rB 63 rfl rfl rfl rfl a4) (aF rfl rfl rfl) rfl rfl rfl) ?_;refine gD ?_;refine gc b1 ?_;refine gt (aS (Con.rB 63 rfl rfl rfl rfl (pa _ _)) (aF rfl rfl rfl) rfl rfl rfl) ?_;refine gu (eJ rfl rfl rfl (fun h=>aS (Con.rB 63 rfl rfl rfl rfl m1) (.cons (.opt rfl (o1 h)) (.cons (.opt rfl (o1 h)) .nil)) rfl rfl rfl)) ?_;refine gC (fun t117=>?_) (fun t117=>?_)
 ·have h0:am (ba p q)=0:=JY t117;refine gR ?_;exact d7 (by unfold dt eU;rw[if_pos h0,if_pos h0];exact Sub.tup (.cons DU (.cons (.refl _) .nil)))
 have h0:am (ba p q)≠0:=JZ t117;have Q:=Gx cy hn p1 p2 P h0;refine gc b2 ?_;refine gt (aS (Con.rB 63 rfl rfl rfl rfl (pa _ _)) (aF rfl rfl rfl) rfl rfl rfl) ?_;refine gc b3 ?_;refine gt (aS (Con.rB 63 rfl rfl rfl rfl (pa _ _)) (aF rfl rfl rfl) rfl rfl rfl) ?_;refine gt (aS (Con.rB 63 rfl rfl rfl rfl m2) (aF rfl rfl rfl) rfl rfl rfl) ?_;refine gt (aS (Con.rB 63 rfl rfl rfl rfl m3) (aF rfl rfl rfl) rfl rfl rfl) ?_;refine gt (aS (Con.rB 63 rfl rfl rfl rfl m4) (aF rfl rfl rfl) rfl rfl rfl) ?_;refine gt (aS (Con.rB 63 rfl rfl rfl rfl m5) (bO rfl rfl) rfl rfl rfl) ?_;refine gC (fun t150=>?_) (fun t150=>?_)
 ·have h1:am (aR p q o z)=-1:=cB t150;refine gt (aS (Con.rB 63 rfl rfl rfl rfl m0) (.cons (.tmp rfl) (.cons (.const _) .nil)) rfl rfl rfl) ?_;refine bE ?_;unfold dt eU;rw[if_neg h0,if_neg h0,if_pos h1];rfl
 have h1:¬am (aR p q o z)=-1:=cK t150;refine gC (fun t156=>?_) (fun t156=>?_)
 ·have h2:am (aR p q o z)=0:=cB t156;refine gt (aS (Con.rB 63 rfl rfl rfl rfl (tQ Q.hd)) (aF rfl rfl rfl) rfl rfl rfl) ?_;refine gt (aS (Con.rB 63 rfl rfl rfl rfl Q.al) (.cons (.tmp rfl) (.cons (.tmp rfl) (.cons (.tmp rfl) (.cons (.tmp rfl) .nil)))) rfl rfl rfl) ?_;refine gt (aS (Con.rB 63 rfl rfl rfl rfl (nf tw [dp (cG p (bI p q o*iE (ba p q)) (aK q p)).l])) (bO rfl rfl) rfl rfl rfl) ?_;refine gD ?_;refine bE ?_;unfold dt eU;rw[if_neg h0,if_neg h0,if_neg h1,if_pos h2];rfl
 have h2:¬am (aR p q o z)=0:=cK t156
 have hpos:0<=am (aR p q o z):=by
  have:=T.sgn_cases (ao (llq rs)) (llq rs).length (aR p q o z);have e:am (aR p q o z)=T.sgn (ao (llq rs)) (llq rs).length (aR p q o z):=rfl;omega
 have E:ExtP (aR p q o z):=uk tw hn (Bh P.zX oz oz) hpos;haveI ce:=E.cy;haveI zr:Zl (aQ (llq rs) (sX (aR p q o z))) 773000000 1101400000 (cw (llq rs).length) (dE _ (cw (llq rs).length)) 1 0:=Zl.at (um oz) (by decide);haveI ze':=ko (X:=aR p q o z) hn P.ze (by decide);haveI:=zr.zu;haveI:=ze'.zu
 have e1:=km (ts:=aQ (llq rs) (sX (aR p q o z))) (u:=773000000) (k:=1101400000) (a:=sX (bI p q o)) (b:=cw (llq rs).length) (by decide);have e2:=lI (ts:=aQ (llq rs) (sX (aR p q o z))) (u:=773000000) (k:=1101400000) (a:=sX (bI p q o)) (b:=cw (llq rs).length) (by decide);have S1:=vQ (p:=p) (v:=aK q p) hn E P.zs h0 p1 p2 P.v1 P.v2 (k:=aM (aR p q o z) (bI p q o)+bu (aR p q o z)) inferInstance;have S2:=vQ (p:=p) (v:=aK q p) hn E P.zs h0 p1 p2 P.v1 P.v2 (k:=aM (aR p q o z) (bI p q o)-bu (aR p q o z)) inferInstance;have hex:=Dp (a:=sX (aR p q o z)) tw P.zX.nm (by rw[hlm];decide) (by rw[show ac (llq rs).length (sX (aR p q o z))=aR p q o z from a5 _ _];exact hpos);refine gt (aI (Con.rB 63 rfl rfl rfl rfl hex) (bO rfl rfl) aL rfl rfl) ?_;refine gt (aS (Con.rB 63 rfl rfl rfl rfl e1) (aF rfl rfl rfl) rfl rfl rfl) ?_;refine gt (aS (Con.rB 63 rfl rfl rfl rfl (tQ S1.hd)) (aF rfl rfl rfl) rfl rfl rfl) ?_;refine gt (aS (Con.rB 63 rfl rfl rfl rfl S1.al) (.cons (.tmp rfl) (.cons (.tmp rfl) (.cons (.tmp rfl) (.cons (.tmp rfl) .nil)))) rfl rfl rfl) ?_;refine gt (aS (Con.rB 63 rfl rfl rfl rfl e2) (aF rfl rfl rfl) rfl rfl rfl) ?_;refine gt (aS (Con.rB 63 rfl rfl rfl rfl (tQ S2.hd)) (aF rfl rfl rfl) rfl rfl rfl) ?_;refine gt (aS (Con.rB 63 rfl rfl rfl rfl S2.al) (.cons (.tmp rfl) (.cons (.tmp rfl) (.cons (.tmp rfl) (.cons (.tmp rfl) .nil)))) rfl rfl rfl) ?_;refine gt (aS (Con.rB 63 rfl rfl rfl rfl (nf E.tw [dp (ju (aR p q o z) p (aK q p) (fa (aR p q o z) (ba p q) (aM (aR p q o z) (bI p q o)+bu (aR p q o z)))).l,dp (ju (aR p q o z) p (aK q p) (fa (aR p q o z) (ba p q) (aM (aR p q o z) (bI p q o)-bu (aR p q o z)))).l])) (bO rfl rfl) rfl rfl rfl) ?_;refine gD ?_;refine bE ?_;unfold dt eU;rw[if_neg h0,if_neg h0,if_neg h1,if_neg h2];rfl
end
theorem T.inv_congr{r r':(k:Nat)->T k}:∀(k:Nat),(∀j,j<k->r j=r' j)->∀x,T.inv r k x=T.inv r' k x
 |0,_,x=>rfl
 |k+1,h,x=>by
  have ih:=T.inv_congr k (fun j hj=>h j oz);have hm:=T.mul_congr k (fun j hj=>h j oz);have hs:=T.sgn_congr k (fun j hj=>h j oz)
  have hn:T.norm r k x=T.norm r' k x:=by
   unfold T.norm;rw[h k oz];simp only[hm]
  conv=>lhs;unfold T.inv
  conv=>rhs;unfold T.inv
  simp only[ih,hm,hs,hn]
def iS{n N:Nat}(x:T n):T N:=ac N (sh n x)
section
variable{n N:Nat}{r r':(k:Nat)->T k}
theorem j8(x:T n):(iS x:T (n+1))=(x,T.zero n):=by
 unfold iS;rw[fY (di n x).le,a5]
theorem Nd(hN:N=n+1)(h:∀j,j<n->r j=r' j)(x y:T n):(iS (T.mul r n x y):T N)=T.mul r' N (iS x) (iS y):=by
 subst hN;rw[j8,j8,j8,mul_low,T.zero_mul,T.mul_congr n h]
theorem VC(hN:N=n+1)(x y:T n):(iS (T.add n x y):T N)=T.add N (iS x) (iS y):=by
 subst hN;rw[j8,j8,j8];show(T.add n x y,T.zero n)=(T.add n x y,T.add n (T.zero n) (T.zero n));rw[T.zero_add]
theorem Vg(hN:N=n+1)(x:T n):(iS (T.neg n x):T N)=T.neg N (iS x):=by
 subst hN;rw[j8,j8];show(T.neg n x,T.zero n)=(T.neg n x,T.neg n (T.zero n));rw[T.neg_zero]
theorem Km(hN:N=n+1)(q:Rat):(iS (T.ofQ n q):T N)=T.ofQ N q:=by
 subst hN;rw[j8];rfl
theorem UF(hN:N=n+1)(h:∀j,j<n->r j=r' j)(x:T n):(iS (T.inv r n x):T N)=T.inv r' N (iS x):=by
 subst hN;rw[j8,j8,T.inv_low,T.inv_congr n h]
end
section
variable{ts:LL}(X:Et ts)
theorem IL{l:List Rat}(j:Nat)(hj:j<ts.length):ao ts j=ao (aQ ts l) j:=(vu hj).symm
theorem fj(x y:Et ts):aM X (x*y)=aM X x*aM X y:=Nd (dD _ _) IL x y
theorem pN(x y:Et ts):aM X (x+y)=aM X x+aM X y:=VC (dD _ _) x y
theorem GI(x:Et ts):aM X (-x)=-aM X x:=Vg (dD _ _) x
theorem nV(q:Rat):aM X (qE q)=qE q:=Km (dD _ _) q
theorem oQ(x:Et ts):aM X (iE x)=iE (aM X x):=UF (dD _ _) IL x
end
theorem lc{ts:LL}:(qE ((1:Int):Rat):Et ts)=1:=rfl
theorem G2{ts:LL}:(qE ((-1:Int):Rat):Et ts)=-1:=by
 have h:=(T.ofQ_neg ts.length ((1:Nat):Rat))
 rw[show(((-1:Int):Rat))=-((1:Nat):Rat) by rfl];exact h
theorem Ap{ts:LL}(d:Et ts):eA d=d+d:=by
 have h:(qE ((2:Int):Rat):Et ts)=1+1:=by
  have h:=T.ofQ_add ts.length ((1:Nat):Rat) ((1:Nat):Rat);rw[show(((2:Int):Rat))=((1:Nat):Rat)+((1:Nat):Rat) by decide +kernel];exact h
 unfold eA;rw[h];grind
theorem AY{ts:LL}:(qE 0:Et ts)=0:=rfl
section
variable{ts:LL}
theorem xr(p q:P2 ts)(z z2:Et ts):cV p q z z2=cG p ((qE ((1:Int):Rat)*iE (az p q+az p q))*(z+az p q-z2)) (aK q p):=by
 unfold cV fu cG;rw[Ap,lc];refine Prod.ext ?_ ?_
 ·show p.1+(z+az p q-z2)*iE (az p q+az p q)*(q.1-p.1)=p.1+1*iE (az p q+az p q)*(z+az p q-z2)*(q.1-p.1);grind
 ·show p.2+(z+az p q-z2)*iE (az p q+az p q)*(q.2-p.2)=p.2+1*iE (az p q+az p q)*(z+az p q-z2)*(q.2-p.2);grind
def gh(p q:P2 ts):P2 ts:=(qE ((1:Int):Rat)*iE (az p q+az p q)*(0-(aK q p).2),qE ((1:Int):Rat)*iE (az p q+az p q)*(aK q p).1)
theorem tI(X:Et ts)(f p q:P2 ts):gp X f (fu p q) (dY X (az p q))=(aM X f.1+bu X*aM X (gh p q).1,aM X f.2+bu X*aM X (gh p q).2):=by
 unfold gp cG dY gh;rw[Ap,G2];refine Prod.ext ?_ ?_
 ·show aM X f.1+bu X*iE (aM X (az p q+az p q))*(-1*aM X (q.2-p.2))=aM X f.1+bu X*aM X (qE ((1:Int):Rat)*iE (az p q+az p q)*(0-(q.2-p.2)));rw[fj,fj,nV,oQ,show(0:Et ts)-(q.2-p.2)=-(q.2-p.2) by grind,GI,lc];grind
 ·show aM X f.2+bu X*iE (aM X (az p q+az p q))*aM X (q.1-p.1)=aM X f.2+bu X*aM X (qE ((1:Int):Rat)*iE (az p q+az p q)*(q.1-p.1));rw[fj,fj,nV,oQ,lc];grind
theorem u6(X:Et ts)(f p q:P2 ts):gp X f (fu p q) (qE ((-1:Int):Rat)*dY X (az p q))=(aM X f.1-bu X*aM X (gh p q).1,aM X f.2-bu X*aM X (gh p q).2):=by
 have h:=tI X f p q;have h1:=congrArg Prod.fst h;have h2:=congrArg Prod.snd h;unfold gp cG at h1 h2 ⊢;rw[G2]at h1 h2 ⊢;dsimp only at h1 h2;refine Prod.ext ?_ ?_
 ·dsimp only;grind
 ·dsimp only;grind
def f0(p q:P2 ts):P2 ts:=(qE ((1:Int):Rat)*iE (ba p q)*(aK q p).1,qE ((1:Int):Rat)*iE (ba p q)*(aK q p).2)
theorem uR(X:Et ts)(p q c:P2 ts):ju X p (aK q p) (fa X (ba p q) (aM X (bI p q c)+bu X)) =
  (aM X (cG p (bI p q c*iE (ba p q)) (aK q p)).1+bu X*aM X (f0 p q).1,aM X (cG p (bI p q c*iE (ba p q)) (aK q p)).2+bu X*aM X (f0 p q).2):=by
 unfold ju fa f0 cG;refine Prod.ext ?_ ?_
 ·dsimp only;rw[pN,fj,fj,fj,fj,oQ,nV,lc];grind
 ·dsimp only;rw[pN,fj,fj,fj,fj,oQ,nV,lc];grind
theorem vk(X:Et ts)(p q c:P2 ts):ju X p (aK q p) (fa X (ba p q) (aM X (bI p q c)-bu X)) =
  (aM X (cG p (bI p q c*iE (ba p q)) (aK q p)).1-bu X*aM X (f0 p q).1,aM X (cG p (bI p q c*iE (ba p q)) (aK q p)).2-bu X*aM X (f0 p q).2):=by
 unfold ju fa f0 cG;refine Prod.ext ?_ ?_
 ·dsimp only;rw[pN,fj,fj,fj,fj,oQ,nV,lc];grind
 ·dsimp only;rw[pN,fj,fj,fj,fj,oQ,nV,lc];grind
theorem uK(r:(k:Nat)->T k):∀(n:Nat)(q:Rat),T.inv r n (T.ofQ n q)=T.ofQ n (1/q)
 |0,q=>rfl
 |n+1,q=>by
  show T.inv r (n+1) (T.ofQ n q,T.zero n)=(T.ofQ n (1/q),T.zero n);rw[T.inv_low,uK r n q]
theorem x3:(iE (qE 1):Et ts)=1:=by
 show T.inv (ao ts) ts.length (T.ofQ ts.length 1)=_;rw[uK,show(1:Rat)/1=((1:Nat):Rat) by decide +kernel];rfl
end
open Lean.Grind (CommRing)
section
variable{r:(k:Nat)->T k}
def fy{n:Nat}(x:E r n):E r n:=T.inv r n x
theorem ui{n:Nat}(u:E r n)(h:Sg (E r n) (sg r n)):sg r (n+1) (bM u 0)=sg r n u:=by
 rw[kI,h.zero];unfold T.sgn3;split
 ·rfl
 ·rw[if_pos (.inr rfl)]
theorem Ko{n:Nat}{x y:E r n}(hz:T.isZ n y=true):fy (bM x y:E r (n+1))=bM (fy x) 0:=by
 have e:y=T.zero n:=(T.isZ_iff n y).1 hz;subst e;have h:=T.inv_low r n x;show T.inv r (n+1) (x,T.zero n)=_;rw[h,E.zero_def];rfl
theorem SE{n:Nat}{x y:E r n}(hz:T.isZ n y=false)(h0:sg r n (aW x y)=0):fy (bM x y:E r (n+1))=bM (fy (x+x)) 0:=by
 have h:=HD r (i:=n) (x:=((x,y):T n×T n)) hz h0;show T.inv r (n+1) (x,y)=_;rw[h,E.zero_def];rfl
theorem JL{n:Nat}{x y:E r n}(hz:T.isZ n y=false)(h0:sg r n (aW x y)≠0):fy (bM x y:E r (n+1))=bM (x*fy (aW x y)) (-y*fy (aW x y)):=by
 have h:=DR r (i:=n) (x:=((x,y):T n×T n)) hz h0;exact h
theorem Ja{q:Rat}(hq:bP q≠0):bP ((1:Rat)/q*q+-(((1:Nat):Rat)))=0:=by
 have hq:q≠0:=by
  rintro rfl;exact hq (by decide +kernel)
 have e:(1:Rat)/q*q+-(((1:Nat):Rat))=0:=by
  rw[show(((1:Nat):Rat))=1 from rfl];grind
 rw[e];decide +kernel
theorem Hs(r:(k:Nat)->T k):∀(n:Nat),fh r n->∀x:E r n,sg r n x≠0->sg r n (fy x*x-1)=0
 |0,hp,x,hx=>Ja (q:=x) hx
 |n+1,hp,z,hz=>by
  have hp':fh r n:=fun j hj=>hp j oz
  have h:=dz r n hp';have H:=dz r (n+1) hp;have ih:=Hs r n hp';obtain⟨x,y,rfl⟩:=j6 z;cases hzy:T.isZ n y
  ·by_cases h0:sg r n (aW x y)=0
   ·rw[SE hzy h0];have h2:=E7 h (hp n oz) hz h0;have e1:=ih _ h2
    have c:sg r (n+1) (bM x (-y))=0:=by
     have m:=H.mul (bM x y) (bM x (-y))
     have e:(bM x y:E r (n+1))*bM x (-y)=bM (aW x y) 0:=by
      rw[kC];unfold aW;congr 1 <;> grind
     rw[e,ui _ h,h0]at m;rcases Int.mul_eq_zero.1 m.symm with g |g
     ·exact absurd g hz
     ·exact g
    have e2:bM (fy (x+x)) 0*bM x y-(1:E r (n+1))=-(bM (fy (x+x)) 0*bM x (-y))+bM (fy (x+x)*(x+x)-1) 0:=by
     rw[xp,show ∀a b:E r (n+1),a-b=a+-b from fun a b=>by grind,kC,kC,s7,s7,o7,o7];congr 1 <;> grind
    rw[e2];have e3:sg r (n+1) (-(bM (fy (x+x)) 0*bM x (-y)))=0:=by rw[H.neg,H.mul,c];simp
    rw[H.zadd e3,ui _ h];exact e1
   ·rw[JL hzy h0];have e1:=ih _ h0
    have e2:bM (x*fy (aW x y)) (-y*fy (aW x y))*bM x y-(1:E r (n+1))=bM (fy (aW x y)*aW x y-1) 0:=by
     rw[xp,show ∀a b:E r (n+1),a-b=a+-b from fun a b=>by grind,kC,s7,o7];generalize fy (aW x y)=i;unfold aW;congr 1 <;> grind
    rw[e2,ui _ h];exact e1
  ·rw [Ko hzy];have e:y = 0:=by rw [(T.isZ_iff n y).1 hzy,E.zero_def]
   subst e;rw[ui _ h]at hz;have e1:=ih _ hz
   have e2:bM (fy x) 0*bM x 0-(1:E r (n+1))=bM (fy x*x-1) 0:=by
    rw[xp,show ∀a b:E r (n+1),a-b=a+-b from fun a b=>by grind,kC,s7,o7];congr 1 <;> grind
   rw[e2,ui _ h];exact e1
end
section
variable{r:(k:Nat)->T k}{n:Nat}
def zS(h:fh r n):Setoid (E r n) where
  r x y:=sg r n (x-y)=0
  iseqv:=by
    have H:=dz r n h;refine⟨fun x=>?_,fun {x y} e=>?_,fun {x y z} e f=>?_⟩
    · rw[show x-x=0 by grind];exact H.zero
    · rw[show y-x=-(x-y) by grind,H.neg,e];rfl
    · rw[show x-z=(x-y)+(y-z) by grind,H.zadd e];exact f
def Zq(h:fh r n):Type:=Quotient (zS h)
def ae(h:fh r n)(x:E r n):Zq h:=Quotient.mk (zS h) x
theorem fQ(h:fh r n){x y:E r n}:ae h x=ae h y↔sg r n (x-y)=0 :=
 ⟨fun e=>Quotient.exact (s:=zS h) e,fun e=>Quotient.sound (s:=zS h) e⟩
instance (h:fh r n):Add (Zq h):=⟨Quotient.lift₂ (fun x y=>ae h (x+y)) (by
  intro a b c d e f;have H:=dz r n h;refine(fQ h).2 ?_;rw[show a+b-(c+d)=(a-c)+(b-d) by grind,H.zadd (show sg r n (a-c)=0 from e)];exact f)⟩
instance (h:fh r n):Mul (Zq h):=⟨Quotient.lift₂ (fun x y=>ae h (x*y)) (by
  intro a b c d e f;have H:=dz r n h;refine(fQ h).2 ?_;have e':sg r n (a-c)=0:=e;have f':sg r n (b-d)=0:=f;rw[show a*b-c*d=(a-c)*b+c*(b-d) by grind,H.zadd (by rw[H.mul,e'];simp),H.mul,f'];simp)⟩
instance (h:fh r n):Neg (Zq h):=⟨Quotient.lift (fun x=>ae h (-x)) (by
  intro a c e;have H:=dz r n h;refine(fQ h).2 ?_;have e':sg r n (a-c)=0:=e;rw[show -a - -c=-(a-c) by grind,H.neg,e'];rfl)⟩
instance (h:fh r n):_root_.Sub (Zq h):=⟨fun x y=>x+-y⟩
instance (h:fh r n)(c:Nat):OfNat (Zq h) c:=⟨ae h (OfNat.ofNat c)⟩
instance (h:fh r n):NatCast (Zq h):=⟨fun c=>ae h (c:E r n)⟩
instance (h:fh r n):IntCast (Zq h):=⟨fun c=>ae h (c:E r n)⟩
instance (h:fh r n):SMul Nat (Zq h):=⟨fun c x=>ae h (c:E r n)*x⟩
instance (h:fh r n):SMul Int (Zq h):=⟨fun c x=>ae h (c:E r n)*x⟩
def Zq.pow{h:fh r n}(x:Zq h):Nat->Zq h
  |0=>ae h 1
  |c+1=>Zq.pow x c*x
instance (h:fh r n):HPow (Zq h) Nat (Zq h):=⟨Zq.pow⟩
variable(h:fh r n)
theorem ee(x y:E r n):ae h (x+y)=ae h x+ae h y:=rfl
theorem bm(x y:E r n):ae h (x*y)=ae h x*ae h y:=rfl
theorem Ca(x:E r n):ae h (-x)=-ae h x:=rfl
theorem bC(x y:E r n):ae h (x-y)=ae h x-ae h y:=by
 rw[show x-y=x+-y by grind];rfl
theorem eP(a:Zq h):∃x,a=ae h x:=Quotient.ind (motive:=fun a=>∃x,a=ae h x) (fun x=>⟨x,rfl⟩) a
instance zRing:CommRing (Zq h) where
  add_zero a:=by
    obtain⟨x,rfl⟩:=eP h a;exact congrArg (ae h) (show x+0=x by grind)
  add_comm a b:=by
    obtain⟨x,rfl⟩:=eP h a;obtain⟨y,rfl⟩:=eP h b;exact congrArg (ae h) (show x+y=y+x by grind)
  add_assoc a b c:=by
    obtain⟨x,rfl⟩:=eP h a;obtain⟨y,rfl⟩:=eP h b;obtain⟨z,rfl⟩:=eP h c;exact congrArg (ae h) (show x+y+z=x+(y+z) by grind)
  mul_assoc a b c:=by
    obtain⟨x,rfl⟩:=eP h a;obtain⟨y,rfl⟩:=eP h b;obtain⟨z,rfl⟩:=eP h c;exact congrArg (ae h) (show x*y*z=x*(y*z) by grind)
  mul_one a:=by
    obtain⟨x,rfl⟩:=eP h a;exact congrArg (ae h) (show x*1=x by grind)
  one_mul a:=by
    obtain⟨x,rfl⟩:=eP h a;exact congrArg (ae h) (show 1*x=x by grind)
  left_distrib a b c:=by
    obtain⟨x,rfl⟩:=eP h a;obtain⟨y,rfl⟩:=eP h b;obtain⟨z,rfl⟩:=eP h c;exact congrArg (ae h) (show x*(y+z)=x*y+x*z by grind)
  right_distrib a b c:=by
    obtain⟨x,rfl⟩:=eP h a;obtain⟨y,rfl⟩:=eP h b;obtain⟨z,rfl⟩:=eP h c;exact congrArg (ae h) (show(x+y)*z=x*z+y*z by grind)
  zero_mul a:=by
    obtain⟨x,rfl⟩:=eP h a;exact congrArg (ae h) (show 0*x=0 by grind)
  mul_zero a:=by
    obtain⟨x,rfl⟩:=eP h a;exact congrArg (ae h) (show x*0=0 by grind)
  pow_zero a:=rfl
  pow_succ a c:=rfl
  ofNat_succ c:=congrArg (ae h) (Lean.Grind.Semiring.ofNat_succ (α:=E r n) c)
  ofNat_eq_natCast c:=congrArg (ae h) (Lean.Grind.Semiring.ofNat_eq_natCast (α:=E r n) c)
  nsmul_eq_natCast_mul c a:=rfl
  neg_add_cancel a:=by
    obtain⟨x,rfl⟩:=eP h a;exact congrArg (ae h) (show -x+x=0 by grind)
  sub_eq_add_neg a b:=rfl
  neg_zsmul i a:=by
    obtain⟨x,rfl⟩:=eP h a
    exact congrArg (ae h) (show((-i:Int):E r n)*x=-((i:E r n)*x) by
      rw[Lean.Grind.Ring.intCast_neg];grind)
  zsmul_natCast_eq_nsmul c a:=rfl
  intCast_ofNat c:=congrArg (ae h) (Lean.Grind.Ring.intCast_ofNat (α:=E r n) c)
  intCast_neg i:=congrArg (ae h) (Lean.Grind.Ring.intCast_neg (α:=E r n) i)
  mul_comm a b:=by
    obtain⟨x,rfl⟩:=eP h a;obtain⟨y,rfl⟩:=eP h b;exact congrArg (ae h) (show x*y=y*x by grind)
theorem eI{x:E r n}:ae h x=0↔sg r n x=0:=by
 have e:=fQ h (x:=x) (y:=0);rw[show x-0=x by grind]at e;exact e
theorem wt{x:E r n}(hx:sg r n x≠0):ae h (fy x)*ae h x=1:=by
 have e:=(fQ h (x:=fy x*x) (y:=1)).2 (Hs r n h x hx);exact e
theorem CP:ae h (1:E r n)=1:=rfl
end
example {r:(k:Nat)->T k} {n:Nat} (h:fh r n) (a b c:Zq h) (e:a*b=1) (f:c*a=2):c=2*b:=by grind
end Go.Lw
namespace Go.Lw
open Go.Proofs
theorem KI(o:Option Nat):aa .geq (ni o) 0=o.isSome:=by
 cases o with
 |none=>rfl
 |some i=>exact decide_eq_true (by show(i:Int)>=0;omega)
theorem N6(bs:List (Rat×Rat))(hl:bs.length<=281474976710656)(f:FuncId)(pre caps:List AV)(ok:Nat->Bool)
  (hf:∀(i:Nat)(b:Rat×Rat),bs[i]?=some b->(∀j,j<i->ok j=true)->FP f (pre++[qP b]++caps) (bl (!ok i))) :
  FP 354 [.lst 6 (bs.map qP),.cl f pre caps] (i64 (ni (dB bs.length ok))):=by
 refine aj func354 ?_;refine gl ?_;refine aZ [0,1,7] [] (fun(i:Nat)=>[(8,some (i64 i))]) (fun _=>[]) (fun i=>i<=bs.length/\∀j,j<i->ok j=true) (fun i=>bs.length-i) 0 ⟨zero_le _,fun j h=>by omega⟩ ?_;rintro i ⟨hi,hj⟩ K1 J1;refine gC (fun t9=>?_) (fun t9=>?_)
 ·have hin:=bh t9;obtain⟨b,hb⟩:=aH hin;refine gi (aN hb) ?_;refine gc (hf i b hb hj) ?_;refine gC (fun t16=>?_) (fun t16=>?_)
  ·have h2:=dF t16;refine af ?_;rw[iW hin hj h2];rfl
  have h2:=dw t16;refine ga aV ?_;exact aT J1 (i+1) ⟨hin,fun j h9=>by rcases lt_or_ge j i with g |g;exact hj j g;(have:j=i:=by omega);subst this;exact h2⟩
 have hin:=bD hi t9;subst hin;refine af ?_;rw[jB hj];rfl
theorem Ju(bs:List (Rat×Rat))(hl:bs.length<=281474976710656)(f:FuncId)(pre caps:List AV)(ok:Nat->Bool)
  (hf:∀(i:Nat)(b:Rat×Rat),bs[i]?=some b->(∀j,j<i->ok j=true)->FP f (pre++[qP b]++caps) (bl (!ok i))) :
  FP 259 [.lst 6 (bs.map qP),.cl f pre caps] (bl (dB bs.length ok).isSome):=by
 refine aj func259 ?_;refine gc (N6 bs hl f pre caps ok hf) ?_;refine af ?_;rw[<- KI];rfl
theorem Pk{v:Rat×Rat}(hv:Sm 3000 v):FP 260 [qP v] (bl (decide (bQ v v=0))):=by
 refine aj func260 ?_;refine gc (EK hv hv oz oz) ?_;refine gc (UE ((hv.dot hv).qs oz)) ?_;refine af ?_;rw[<- Fb];rfl
def fR(vs:List (Rat×Rat)):Bool:=(dB vs.length fun i=>!decide (bQ (vs.getD i (0,0)) (vs.getD i (0,0))=0)).isSome
theorem HQ(vs:List (Rat×Rat))(hl:vs.length<=281474976710656)(hv:∀v∈vs,Sm 3000 v):FP 155 [.lst 6 (vs.map qP)] (bl (fR vs)):=by
 refine aj func155 ?_;refine gc (Con.sA (.cons (.refl _) (.cons ((Sub.fn0 _).trans (AC rfl)) .nil)) (Ju vs hl 260 [] [] (fun i=>!decide (bQ (vs.getD i (0,0)) (vs.getD i (0,0))=0)) (fun i b hb _=>by rw[Bool.not_not,aw hb];exact Pk (hv b (mem_of_getElem? hb))))) ?_;refine af ?_;rfl
theorem rc{v:Rat×Rat}(h:fR [v]=false):bQ v v≠0:=by
 intro h0;have h1:dB 1 (fun i=>!decide (bQ ([v].getD i (0,0)) ([v].getD i (0,0))=0))=some 0:=iW oz (fun j hj=>by omega) (by show(!decide (bQ v v=0))=false;rw[h0];rfl);unfold fR at h;rw[show[v].length=1 from rfl,h1]at h;cases h
theorem pZ{v w:Rat×Rat}(h:fR [v,w]=false):bQ v v≠0/\bQ w w≠0:=by
 unfold fR at h;rw[Option.isSome_eq_false_iff,Option.isNone_iff_eq_none]at h;have h2:=QM h;have h3:=h2 0 (by show 0<2;omega);have h4:=h2 1 (by show 1<2;omega);have h5:(!decide (bQ v v=0))=true:=h3;have h6:(!decide (bQ w w=0))=true:=h4;simp only[Bool.not_eq_true',decide_eq_false_iff_not]at h5 h6;exact⟨h5,h6⟩
theorem HW(i n:Nat)(hi:i<=100):FP 164 [i64 i,i64 n] (i64 (if n=1 then 0 else 1-2*(i:Int))):=by
 refine aj func164 ?_;refine gC (fun t6=>?_) (fun t6=>?_)
 ·have h1 : n = 1 := by have := cB t6; omega
  refine af ?_;rw[if_pos h1];rfl
 have h1:¬n=1:=by have:=cK t6;omega
 refine ga (show _=2*(i:Int) by exact Bo oz) ?_;refine ga (show _=1-2*(i:Int) by exact dL oz) ?_;refine af ?_;rw[if_neg h1];rfl
section
variable{ts:LL}
abbrev kp(u:Rat×Rat):Et ts:=qE (bQ u u)
def dm(u:Rat×Rat)(w:P2 ts):Et ts:=(qE u.1*w.1+qE u.2*w.2)*iE (kp u)
def da(u:Rat×Rat)(w:P2 ts):Et ts:=(qE u.1*w.2-qE u.2*w.1)*iE (kp u)
def pH(u:Rat×Rat)(w:P2 ts)(p:Rat×Rat)(o:P2 ts):Et ts:=o.1-(dm u w*qE p.1-da u w*qE p.2)
def qH(u:Rat×Rat)(w:P2 ts)(p:Rat×Rat)(o:P2 ts):Et ts:=o.2-(da u w*qE p.1+dm u w*qE p.2)
def gK(u:Rat×Rat)(w:P2 ts)(p:Rat×Rat)(o:P2 ts):Pq:=⟨sX (dm u w),sX (da u w),sX (pH u w p o),sX (qH u w p o)⟩
theorem v5(ts:LL)(a b:List Rat):Con prog 75 [.ptr 1000 0,aG a b,.v .nilIface] [(1000,some (bf ts))] (aG a b) [(1000,some (bf ts))]:=by
 have h:=kL (ts.map (List.map rt)) a b;rw[Bx]at h;exact h
theorem qd(q:Rat):ac ts.length (sh 0 (q:Rat))=(qE q:Et ts):=gf _ q
theorem oW{e:Nat}{q:Rat}(h5:ts.length<=5)(h:Qb e q):Nm ts.length e (sh 0 (q:Rat)):=Nm.ofQ h5 (Cb.one h)
structure BdP(ts:LL)(u:Rat×Rat)(w:P2 ts)(p:Rat×Rat)(o:P2 ts):Prop where
  dot:FP 80 [aO ts,aG (sh 0 (u.1:Rat)) (sh 0 (u.2:Rat)),aG (sX w.1) (sX w.2)] (.tup [nA (sX (qE u.1*w.1+qE u.2*w.2)),.v .nilIface])
  crs:FP 77 [aO ts,aG (sh 0 (u.1:Rat)) (sh 0 (u.2:Rat)),aG (sX w.1) (sX w.2)] (.tup [nA (sX (qE u.1*w.2-qE u.2*w.1)),.v .nilIface])
  d1:FP 281 [aO ts,nA (sX (qE u.1*w.1+qE u.2*w.2)),nA (sh 0 (bQ u u:Rat))] (.tup [nA (sX (dm u w)),.v .nilIface])
  d2:FP 281 [aO ts,nA (sX (qE u.1*w.2-qE u.2*w.1)),nA (sh 0 (bQ u u:Rat))] (.tup [nA (sX (da u w)),.v .nilIface])
  tn:FP 191 [aO ts,nA (sX (dm u w)),nA (sX (da u w)),aG (sh 0 (p.1:Rat)) (sh 0 (p.2:Rat))] (.tup [aG (sX (dm u w*qE p.1-da u w*qE p.2)) (sX (da u w*qE p.1+dm u w*qE p.2)),.v .nilIface])
  s1:FP 176 [aO ts,nA (sX o.1),nA (sX (dm u w*qE p.1-da u w*qE p.2))] (.tup [nA (sX (pH u w p o)),.v .nilIface])
  s2:FP 176 [aO ts,nA (sX o.2),nA (sX (da u w*qE p.1+dm u w*qE p.2))] (.tup [nA (sX (qH u w p o)),.v .nilIface])
  ok:Pq.ok ts.length 80000000000 (gK u w p o)
theorem Gb{r W A K F:Nat}{u p:Rat×Rat}{w o:P2 ts}(tw:Tw ts r)(h2:ts.length<=2)(hk:kB r ts.length<=K)(hu:Sm 3000 u)(hp:Sm 3000 p)(h0:bQ u u≠0)
  (w1:Nm ts.length W (sX w.1)) (w2:Nm ts.length W (sX w.2)) (a1:Nm ts.length A (sX o.1)) (a2:Nm ts.length A (sX o.2)) (hW:3000<=W) (hF:4*W+10*K+A+100000<=F) (hF2:F<=80000000000):BdP ts u w p o:=by
 have hl:lm ts.length=200000000000:=by unfold lm;rw[if_pos h2]
 have h5:=tw.five;have hu1:=oW (ts:=ts) h5 hu.x;have hu2:=oW (ts:=ts) h5 hu.y;have hp1:=oW (ts:=ts) h5 hp.x;have hp2:=oW (ts:=ts) h5 hp.y;have hnn:=oW (ts:=ts) h5 (hu.dot hu);have hkE:eB r ts.length<=K:=hk;have ew:∀x:Et ts,ac ts.length (sX x)=x:=fun x=>a5 _ _
 have c1:=xg tw (hu1.mono (f:=W) oz) (hu2.mono oz) w1 w2 (by rw[hl];omega);have c2:=wC tw (hu1.mono (f:=W) oz) (hu2.mono oz) w1 w2 (by rw[hl];omega);have n1:=xO tw hu1 hu2 w1 w2;have n2:=Bk tw hu1 hu2 w1 w2;rw[qd,qd,ew,ew]at c1 c2 n1 n2
 have hs:T.sgn (ao ts) ts.length (ac ts.length (sh 0 (bQ u u:Rat)))≠0:=by
  rw[gf,T.sgn_ofQ];intro h9;exact h0 (mn h9)
 have nb:Nl 0 (sh 0 (bQ u u:Rat)):=di 0 _;have d1:=Bm tw n1 hnn (zero_le _) nb hs (by rw[hl];omega) (by simp only[iB];omega);have d2:=Bm tw n2 hnn (zero_le _) nb hs (by rw[hl];omega) (by simp only[iB];omega);have m1:=yv tw n1 hnn (zero_le _) nb hs (by rw[hl];omega) (by simp only[iB];omega);have m2:=yv tw n2 hnn (zero_le _) nb hs (by rw[hl];omega) (by simp only[iB];omega);have e1:∀x:Et ts,ac ts.length (sh ts.length x)=x:=fun x=>a5 _ _
 have f1:ac ts.length (sh ts.length (mS ts (qE u.1:Et ts) (qE u.2:Et ts) w.1 w.2))=(qE u.1*w.1+qE u.2*w.2:Et ts):=a5 _ _;have f2:ac ts.length (sh ts.length (me ts (qE u.1:Et ts) (qE u.2:Et ts) w.1 w.2))=(qE u.1*w.2-qE u.2*w.1:Et ts):=a5 _ _;rw[f1,qd]at d1 m1;rw[f2,qd]at d2 m2;have k1:Nm ts.length (2*W+3*K+30000) (sX (dm u w)):=Nm.mono m1 (by simp only[iB];omega);have k2:Nm ts.length (2*W+3*K+30000) (sX (da u w)):=Nm.mono m2 (by simp only[iB];omega);have c3:=DE tw k1 k2 (hp1.mono (f:=(2*W+3*K+30000)) oz) (hp2.mono oz) (by rw[hl];omega);have n3:=tM tw k1 k2 hp1 hp2;have n4:=uG tw k1 k2 hp1 hp2;rw[qd,qd,ew,ew]at c3 n3 n4;have s1:=oy tw a1 n3 (by rw[hl];omega);have s2:=oy tw a2 n4 (by rw[hl];omega);have m3:=a1.sub n3;have m4:=a2.sub n4;have f3:ac ts.length (sh ts.length (rW ts (dm u w) (da u w) (qE p.1:Et ts) (qE p.2:Et ts)))=(dm u w*qE p.1-da u w*qE p.2:Et ts):=a5 _ _;have f4:ac ts.length (sh ts.length (pI ts (dm u w) (da u w) (qE p.1:Et ts) (qE p.2:Et ts)))=(da u w*qE p.1+dm u w*qE p.2:Et ts):=a5 _ _;rw[ew,f3]at s1 m3;rw[ew,f4]at s2 m4;exact⟨c1,c2,d1,d2,c3,s1,s2,k1.mono oz,k2.mono oz,Nm.mono m3 oz,Nm.mono m4 oz⟩
theorem D7{r:Nat}{u p:Rat×Rat}{w o:P2 ts}(tw:Tw ts r)(h2:ts.length<=2)(hk:kB r ts.length<=1101400000)(hu:Sm 3000 u)(hp:Sm 3000 p)(h0:bQ u u≠0)
  (w1:Nm ts.length 17000000000 (sX w.1)) (w2:Nm ts.length 17000000000 (sX w.2)) (a1:Nm ts.length 773000000 (sX o.1)) (a2:Nm ts.length 773000000 (sX o.2)):BdP ts u w p o :=
 Gb (F:=80000000000) tw h2 hk hu hp h0 w1 w2 a1 a2 oz oz oz
theorem vK{a b c:List Rat}(h:FP 176 [aO ts,nA a,nA b] (.tup [nA c,.v .nilIface])):Con prog 78 [.ptr 1000 0,nA a,nA b] [(1000,some (bf ts))] (nA c) [(1000,some (bf ts))]:=by
 refine gF func78 (fun k z h=>bH h) ?_;refine gc h ?_;refine gt (aI (qF _ _) (aF rfl rfl rfl) aL rfl rfl) ?_;refine gR ?_;exact aJ.keep (br rfl)
theorem xC{u p:Rat×Rat}{w o:P2 ts}(hu:Sm 3000 u)(hp:Sm 3000 p)(B:BdP ts u w p o) :
  Con prog 152 [.ptr 1000 0,qP u,dp w.l,qP p,dp o.l] [(1000,some (bf ts))] (gK u w p o).av [(1000,some (bf ts))]:=by
 refine gF func152 (fun k z h=>bH h) ?_;refine gc (vO (hu.x.qs oz) (hu.y.qs oz)) ?_;refine gc (BP hu oz) ?_;refine gD ?_;refine gc B.dot ?_;refine gt (aS (qF _ _) (aF rfl rfl rfl) rfl rfl rfl) ?_;refine gt (aS (vY B.d1) (aF rfl rfl rfl) rfl rfl rfl) ?_;refine gc B.crs ?_;refine gt (aS (qF _ _) (aF rfl rfl rfl) rfl rfl rfl) ?_;refine gt (aS (vY B.d2) (aF rfl rfl rfl) rfl rfl rfl) ?_;refine gD ?_;refine gc (vO (hp.x.qs oz) (hp.y.qs oz)) ?_;refine gc B.tn ?_;refine gt (aS (v5 _ _ _) (aF rfl rfl rfl) rfl rfl rfl) ?_;refine gD ?_;refine gt (aS (vK B.s1) (aF rfl rfl rfl) rfl rfl rfl) ?_;refine gt (aS (vK B.s2) (aF rfl rfl rfl) rfl rfl rfl) ?_;refine gD ?_;refine gR ?_;exact aJ.keep (br rfl)
end
structure Sv where
  ts:LL
  ps:List Pq
  mode:Int
abbrev Sv.av(s:Sv):AV:=.agg [.lst 1 (s.ts.map nA),.lst 4 (s.ps.map Pq.av),i64 s.mode]
structure Hd where
  p:Rat×Rat
  a:List Rat×List Rat
  c:Rat×Rat
abbrev Hd.av(h:Hd):AV:=.agg [bl (rt h.p.1).neg,ws (rt h.p.1).num,ws (rt h.p.1).den,bl (rt h.p.2).neg,ws (rt h.p.2).num,ws (rt h.p.2).den,nA h.a.1,nA h.a.2,bl (rt h.c.1).neg,ws (rt h.c.1).num,ws (rt h.c.1).den,bl (rt h.c.2).neg,ws (rt h.c.2).num,ws (rt h.c.2).den]
def ji(ts:LL)(h:Hd)(x:List Rat×List Rat):P2 ts:=(dE ts x.1-dE ts h.a.1,dE ts x.2-dE ts h.a.2)
def kR(ts:LL)(h:Hd):P2 ts:=(dE ts h.a.1,dE ts h.a.2)
def f7(ts:LL)(x:List Rat×List Rat)(h:Hd):Pq:=gK (bF h.c h.p) (ji ts h x) h.p (kR ts h)
structure HdP(ts:LL)(x:List Rat×List Rat)(h:Hd):Prop where
  hp:Sm 1000 h.p
  hc:Sm 1000 h.c
  s1:FP 176 [aO ts,nA x.1,nA h.a.1] (.tup [nA (sX (ji ts h x).1),.v .nilIface])
  s2:FP 176 [aO ts,nA x.2,nA h.a.2] (.tup [nA (sX (ji ts h x).2),.v .nilIface])
  e1:sX (dE ts h.a.1)=h.a.1
  e2:sX (dE ts h.a.2)=h.a.2
  b:BdP ts (bF h.c h.p) (ji ts h x) h.p (kR ts h)
theorem HdP.body{ts:LL}{x:List Rat×List Rat}{h:Hd}(H:HdP ts x h) :
  Con prog 152 [.ptr 1000 0,qP (bF h.c h.p),dp (ji ts h x).l,qP h.p,aG h.a.1 h.a.2] [(1000,some (bf ts))] (f7 ts x h).av [(1000,some (bf ts))]:=by
 have hb:=xC (Sm.mono (H.hc.sub H.hp) oz) (Sm.mono H.hp oz) H.b
 have e:dp (kR ts h).l=aG h.a.1 h.a.2:=by
  show aG (sX (dE ts h.a.1)) (sX (dE ts h.a.2))=_;rw[H.e1,H.e2]
 rw[e]at hb;exact hb
def io(m:Mt)(hs:List Hd)(i:Nat):Sv:=⟨m.ts,hs.map (f7 m.ts (m.ps.getD i ([],[]))),if m.ps.length=1 then 0 else 1-2*(i:Int)⟩
def iz(m:Mt)(hs:List Hd)(n:Nat):List AV:=(List.range n).map fun i=>(io m hs i).av
theorem A4(m:Mt)(hs:List Hd)(n:Nat):(iz m hs n).length=n:=by simp[iz]
theorem Ub(m:Mt)(hs:List Hd)(n:Nat):iz m hs (n+1)=iz m hs n++[(io m hs n).av]:=by unfold iz;rw[List.range_succ];simp
theorem Gy{m:Mt}{r:Nat}(tw:Tw m.ts r)(hs:List Hd)(hl:hs.length<=2)(ml:m.ps.length<=2)(H:∀x∈m.ps,∀h∈hs,HdP m.ts x h) :
  FP 158 [m.av,.lst 14 (hs.map Hd.av)] (.tup [.lst 3 (iz m hs m.ps.length),.v .nilIface]):=by
 refine aj func158 ?_;refine gl ?_;refine gW (Wk.virt 900 3 rfl) ?_;refine aZ [1,2,15,16] [2] (fun(i:Nat)=>[(6,some (.ms 900 3 0 i)),(17,some (i64 i))]) (fun i=>[(900,some (.row 3 (iz m hs i)))]) (fun i=>i<=m.ps.length) (fun i=>m.ps.length-i) 0 (zero_le _) ?_;rintro i hi K1 J1;refine gC (fun t18=>?_) (fun t18=>?_) (st2:=(17,0))
 ·have hin:=bh t18;obtain⟨x,hx⟩:=aH hin;have hx9:m.ps.getD i ([],[])=x:=aw hx;have hxm:=mem_of_getElem? hx;refine gi (aN hx) ?_;refine gc (zw tw) ?_;refine gl ?_;refine gc (HW i m.ps.length oz) ?_;refine gD ?_ (7,0);refine gW (Wk.o (sl:=[(1,some (.lst 14 (hs.map Hd.av))),(2,some (.ptr 2 0)),(6,some (.ms 900 3 0 i)),(8,some (.ptr 8 0)),(9,some (.ptr 25 0)),(10,some (.ptr 10 0)),(15,some (.lst 2 (m.ps.map dp))),(16,some (i64 m.ps.length)),(17,some (i64 i))]) (hp:=[(2,some (.box [.lst 1 (m.ts.map nA),.lst 2 (m.ps.map dp)])),(8,some (.box [nA x.1,nA x.2])),(10,some (.box [.lst 1 (m.ts.map nA),nS,i64 (if m.ps.length=1 then 0 else 1-2*(i:Int))])),(25,some (bf m.ts)),(900,some (.row 3 (iz m hs i)))])) ?_
  refine gl ?_;refine gW (Wk.virt 901 4 rfl) ?_;refine aZ [1,2,8,9,10,15,16,17,35,36] [2,8,25,900] (fun(k:Nat)=>[(6,some (.ms 900 3 0 i)),(37,some (i64 k))]) (fun k=>[(10,some (.box [.lst 1 (m.ts.map nA),.ms 901 4 0 k,i64 (if m.ps.length=1 then 0 else 1-2*(i:Int))])),(901,some (.row 4 (((hs.take k).map (f7 m.ts x)).map Pq.av)))]) (fun k=>k<=hs.length) (fun k=>hs.length-k) 0 (zero_le _) ?_ (h2:=(.cons rfl (BlkSub.bL (.cons (.refl _) (.cons (.nM _ _ _) (.cons (.refl _) .nil))) rfl) (.k .nil)))
  rintro k hk K2 J2;refine gC (fun t38=>?_) (fun t38=>?_) (st2:=(13,0))
  ·have hkn:=bh t38;obtain ⟨h,hh⟩:=aH hkn;have Hh:=H x hxm h (mem_of_getElem? hh);refine gi (aN hh) ?_;refine gt (aS (Con.rB 25 rfl rfl rfl rfl (vK Hh.s1)) (aF rfl rfl rfl) rfl rfl rfl) ?_;refine gt (aS (Con.rB 25 rfl rfl rfl rfl (vK Hh.s2)) (aF rfl rfl rfl) rfl rfl rfl) ?_;refine gD ?_;refine gc (oT Hh.hc Hh.hp oz oz) ?_;refine gt (aS (Con.rB 25 rfl rfl rfl rfl Hh.body) (.cons (.tmp rfl) (.cons (.tmp rfl) (.cons (.tmp rfl) (.cons (.tmp rfl) (.cons (.tmp rfl) .nil))))) rfl rfl rfl) ?_;refine gs (de (.tmp rfl) rfl (by rw [length_map,length_map,length_take]; omega) (.tmp rfl) T38 rfl T69 rfl rfl (by dsimp only; simp only [length_cons,length_nil]; omega) rfl rfl) ?_;refine gD ?_ (12,0);refine gW (Wk.of (sl:=[(1,some (.lst 14 (hs.map Hd.av))),(2,some (.ptr 2 0)),(6,some (.ms 900 3 0 i)),(8,some (.ptr 8 0)),(9,some (.ptr 25 0)),(10,some (.ptr 10 0)),(15,some (.lst 2 (m.ps.map dp))),(16,some (i64 m.ps.length)),(17,some (i64 i)),(35,some (.lst 14 (hs.map Hd.av))),(36,some (i64 hs.length)),(37,some (i64 k))]) (hp:=[(2,some (.box [.lst 1 (m.ts.map nA),.lst 2 (m.ps.map dp)])),(8,some (.box [nA x.1,nA x.2])),(25,some (bf m.ts)),(10,some (.box [.lst 1 (m.ts.map nA),.ms 71 4 0 (k + 1),i64 (if m.ps.length = 1 then 0 else 1 - 2 * (i:Int))])),(900,some (.row 3 (iz m hs i))),(71,some (.row 4 (((hs.take (k + 1)).map (f7 m.ts x)).map Pq.av)))]) bg (.k (.k (.k (.k (.k (.cons rfl (BlkSub.of (by rw [eD hh,map_append,map_append]; rfl)) .nil))))))) ?_ (12,0)
   refine gW (Wk.rk (k:=71) (d:=901) rfl rfl) ?_;refine ga aV ?_;exact aT J2 (k+1) hkn
  have hkn:=bD hk t38;subst hkn;refine gW ((Wk.freeze (k:=901) rfl).trans<|Wk.of (sl:=[(1,some (.lst 14 (hs.map Hd.av))),(2,some (.ptr 2 0)),(6,some (.ms 900 3 0 i)),(9,some (.ptr 25 0)),(10,some (.ptr 10 0)),(15,some (.lst 2 (m.ps.map dp))),(16,some (i64 m.ps.length)),(17,some (i64 i))]) (hp:=[(2,some (.box [.lst 1 (m.ts.map nA),.lst 2 (m.ps.map dp)])),(25,some (bf m.ts)),(10,some (.box [.lst 1 (m.ts.map nA),.lst 4 ((hs.map (f7 m.ts x)).map Pq.av),i64 (if m.ps.length=1 then 0 else 1-2*(i:Int))])),(900,some (.row 3 (iz m hs i)))]) bg (.k (.k (.cons rfl (BlkSub.bL (.cons (.refl _) (.cons (Sub.of (by rw[cr (by rw[length_map,length_map,length_take];omega),take_length])) (.cons (.refl _) .nil))) rfl) (.k .nil))))) ?_
  refine gC (fun t78=>?_) (fun t78=>?_) (st1:=(14,0));cases t78;refine gs (de (.tmp rfl) rfl (A4 _ _ _).symm (.tmp rfl) T54 rfl T62 rfl rfl (by dsimp only;simp only[length_cons,length_nil];omega) rfl rfl) ?_ (16,0);refine gW (Wk.of (sl:=[(1,some (.lst 14 (hs.map Hd.av))),(2,some (.ptr 2 0)),(6,some (.ms 86 3 0 (i+1))),(15,some (.lst 2 (m.ps.map dp))),(16,some (i64 m.ps.length)),(17,some (i64 i))]) (hp:=[(2,some (.box [.lst 1 (m.ts.map nA),.lst 2 (m.ps.map dp)])),(86,some (.row 3 (iz m hs (i+1))))]) bg (.k (.cons rfl (BlkSub.of (by rw[Ub];unfold io;rw[hx9])) .nil))) ?_ (16,0);refine gW (Wk.rk (k:=86) (d:=900) rfl rfl) ?_;refine ga aV ?_;exact aT J1 (i+1) hin
 have hin:=bD hi t18;subst hin;refine gW ((Wk.freeze (k:=900) rfl).trans<|Wk.of (sl:=[(6,some (.lst 3 (iz m hs m.ps.length)))]) (hp:=[]) (.cons rfl (Sub.of (by rw[cr (A4 _ _ _).symm])) .nil) .nil) ?_;refine bE ?_;rfl
variable{P:Program}{N:Nat}{R:Array Oper}{s:AS}{pos:String}{after:Array Edge}
def EX(P:Program)(T:TypeId)(f o:Nat):Bool:=match P.underlying T with
  |some (.struct fs)=>(match fs[f]? with
    |some fl=>Nat.beq fl.offset o&&(match P.underlying fl.type with
      |some (.struct _)=>false
      |some (.array _ _)=>false
      |some _=>true
      |none=>false)
    |none=>false)
  |_=>false
theorem L9{d f o:Nat}{x:Operand}{cs:List AV}{c:AV}{T t:TypeId}(hx:Ev s x (.agg cs))(hc:cs[o]?=some c)(hF:EX P T f o=true)(hN:Nat.blt d N=true) :
  Step P N R s ⟨some d,.field T x f,t,pos,after,none⟩ ⟨some c,[],ay x,[]⟩ :=
 dX rfl rfl hN fun s' hag C m a w hr=>by
  have h:=(hx.agree hag (fun _ h=>h)).rep hr;generalize hu:a.eval x=y at h;cases h with
  | @agg _ vs _ hn h1 hrr =>
   have ho:=(List.getElem?_eq_some_iff.1 hc).1;have hv:vs[o]?=some vs[o]:=by simp[hn,ho]
   refine⟨vs[o],?_,hrr o _ c hv hc⟩;unfold EX at hF;split at hF
   ·rename_i fs hu2;split at hF
    ·rename_i fl hfl;rw[and_eq_true]at hF;obtain⟨h2,h3⟩:=hF;have h2:=eq_of_beq_eq_true h2
     have h4:∃u,P.underlying fl.type=some u/\(∀g,u≠.struct g)/\(∀n e,u≠.array n e):=by
      split at h3
      ·cases h3
      ·cases h3
      ·rename_i u n1 n2 e;exact⟨_,e,fun g h=>n1 g h,fun n e2 h=>n2 n e2 h⟩
      ·cases h3
     obtain⟨u,e1,e2,e3⟩:=h4;subst h2;simp[execOp,hu,Instr.field,run_underlying hu2,hfl,part,isAgg,run_underlying e1,asAgg,hv]
    ·cases hF
   ·cases hF
end Go.Lw
namespace Go.Lw
theorem Con.rekeyB1{P:Program}{f:FuncId}{k off:Nat}{x x':Blk}{y0:AV}{xs:List AV}{r:AV}(d:Nat)(hx:x.nm=[])(hx':x'.nm=[])(hy0:y0.nm=[])(hxs:(xs.all fun x=>x.nm.isEmpty)=true)(hr:r.nm=[])
  (h:Con P f (y0 :: .ptr k off::xs) [(k,some x)] r [(k,some x')]):Con P f (y0 :: .ptr d off::xs) [(d,some x)] r [(d,some x')]:=by
 refine⟨h.ok,?_⟩;intro ext m w vs hext hheap hvs hrep
 have h1 := h.ret ext (fun _ => m d) w vs hext (xm (k := d) hx rfl hheap) (by simpa using hvs) (by
  intro j v y hv hy;rw[ke (d:=k) (k:=d) (y:=x) (x:=x) (m2:=fun _=>m d) (m:=m) rfl]
  match j,hy with
  |0,hy =>
   cases hy;exact iX hy0 (hrep 0 v _ hv rfl)
  |1,hy =>
   cases hy;have h2:=hrep 1 v _ hv rfl;cases h2 with
   |ptr hm=>exact .ptr hm
  |j+2,hy =>
   have h2:=hrep (j+2) v y hv hy;refine iX ?_ h2;have:=List.all_eq_true.1 hxs y (mem_of_getElem? hy);simpa using this)
 refine Calls.mono h1 ?_;rintro e w' ⟨v,m',rfl,hf,hh,hn,hk,hrr⟩
 have ho:a8 [(k,some x)] (fun _=>m d)=a8 [(d,some x)] m:=by
  funext b;apply propext;rw[jZ,jZ]
 refine⟨v,fun _=>m' k,rfl,ho▸hf,xm (k:=k) hx' rfl hh,?_,?_,?_⟩
 ·intro k' x b hx hb;rw[<- ho];exact hn k _ b (by rw[aU,if_pos rfl]) hb
 ·intro k' x y hx hy;obtain⟨rfl,_⟩:=fA hx;exact hk k _ _ (by rw[aU,if_pos rfl]) (by rw[aU,if_pos rfl])
 ·rw[ke (d:=d) (k:=k) (y:=x') (x:=x') (m2:=fun _=>m' k) (m:=m') rfl];exact iX hr hrr
end Go.Lw
