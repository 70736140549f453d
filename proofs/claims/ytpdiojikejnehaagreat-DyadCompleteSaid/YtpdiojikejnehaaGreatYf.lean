/- DyadComplete: for anything drawn and any group the law returns true and leaves its arguments as they were. No other condition. Part 6 of 8: what the later parts need -/
import Derived.Test.YtpdiojikejnehaaGreatYe
import Derived.Laws.Cover3
set_option linter.unusedVariables false
open List (mem_of_getElem? mem_append map_cons mem_cons length_cons length_append length_nil getD_eq_getElem?_getD getElem?_append_left getElem?_eq_none all_eq_true getElem?_take getElem?_drop getElem?_map getElem?_append_right getElem?_eq_getElem nil_append map_append length_take take_of_length_le drop_zero take_length not_mem_nil length_map map_map length_replicate map_replicate map_set length_set)
open Nat (eq_of_beq_eq_true le_refl lt_of_lt_of_le lt_or_ge le_trans zero_le pow_add)
open Option (map_eq_some_iff)
open Bool (and_eq_true)
open Array (getD_eq_getD_getElem?)
open Int (toNat_natCast)
open Go.Proofs.Tryz
namespace Go.Lw
open Go.Proofs
theorem sS{l:Li}{kw:List Bool}(hl:l.ok)(hli:aO l=0)(kind body:Int)(hk:kw.length=l.bo.length) :
  Con prog 245 [l.av,i64 kind,i64 body,.ms 1000 1 0 kw.length] [(1000,some (.row 1 (kw.map bl)))] (i64 (jointI l kind body kw)) [(1000,some (.row 1 (kw.map bl)))]:=by
 refine Con.borrow (args:=[l.av,i64 kind,i64 body,.lst 1 (kw.map bl)]) 1000 1 (kw.map bl) rfl rfl rfl ?_ rfl (fun k' x h=>by cases h) (Dp l hl hli kind body kw hk);intro j x' hj
 match j,hj with
 |0,hj=>cases hj;exact .inl rfl
 |1,hj=>cases hj;exact .inl rfl
 |2,hj=>cases hj;exact .inl rfl
 |3,hj=>cases hj;exact .inr ⟨0,kw.length,rfl,by simp,by rw[drop_zero,take_of_length_le (by simp)];rfl⟩
theorem AI{l:Li}{kw:List Bool}(hl:l.ok)(b:Nat)(hb:b<kw.length) :
  Con prog 246 [l.av,.ms 1000 1 0 kw.length,i64 b] [(1000,some (.row 1 (kw.map bl)))] (bl (freeB l kw b)) [(1000,some (.row 1 (kw.map bl)))]:=by
 refine Con.borrow (args:=[l.av,.lst 1 (kw.map bl),i64 b]) 1000 1 (kw.map bl) rfl rfl rfl ?_ rfl (fun k' x h=>by cases h) (Up l hl kw b hb);intro j x' hj
 match j,hj with
 |0,hj=>cases hj;exact .inl rfl
 |1,hj=>cases hj;exact .inr ⟨0,kw.length,rfl,by simp,by rw[drop_zero,take_of_length_le (by simp)];rfl⟩
 |2,hj=>cases hj;exact .inl rfl
theorem JP(l:Li)(hl:l.ok)(hli:aO l=0)(kw:List Bool)(hk:kw.length=l.bo.length):Con prog 136 [l.av,.ms 1000 1 0 kw.length] [(1000,some (.row 1 (kw.map bl)))] (.tup [((driverG l kw).getD default).av,bl (driverG l kw).isSome]) [(1000,some (.row 1 (kw.map bl)))]:=by
 have hld:=hl.ld;refine gF func136 (fun k z h=>bG h) ?_;refine gl ?_;refine a5 [2,4,10,11] [2,4,1000] (fun(i:Nat)=>[(1,some (.ms 1000 1 0 kw.length)),(12,some (i64 i))]) (fun _=>[]) (fun i=>i<=l.dv.length/\∀j,j<i->(!drHit l kw j)=true) (fun i=>l.dv.length-i) 0 ⟨zero_le _,fun j h=>by omega⟩ ?_;rintro i ⟨hi,hj⟩ K1 J1;refine gC (fun t13=>?_) (fun t13=>?_)
 ·have hin:=bn t13;obtain ⟨d,hd⟩:=aG hin;have hdd:l.dv.getD i default = d:=ao hd;have hb:=dz (lQ hli hd);obtain ⟨v,hv⟩:∃ v,kw[d.body.toNat]? = some v:=aG oz;have ev:kn kw d.body = v:=ao hv;refine gi (aN hd) ?_;refine gs (lP (.tmp rfl) (.tmp rfl) T219 rfl T4 rfl oz oz rfl) ?_;refine gs (d8 (.tmp rfl) rfl (by rw [Nat.zero_add,getElem?_map,hv]; rfl) T4 rfl rfl rfl) ?_;refine gC (fun t21=>?_) (fun t21=>?_)
  ·have h2 : drHit l kw i = false := by unfold drHit; rw [hdd, ev, t21]; rfl
   refine ga aW ?_;exact aT J1 (i+1) ⟨hin,fun k h9=>by rcases lt_or_ge k i with g |g;exact hj k g;(have:k=i:=by omega);subst this;rw[h2];rfl⟩
  have hv0:v=false:=t21;refine gt (m9 (sS hl hli 0 d.body hk) (.cons (.tmp rfl) (.cons (.const _) (bO rfl rfl))) rfl rfl rfl) ?_;refine gC (fun t28=>?_) (fun t28=>?_)
  ·have h2 : drHit l kw i = true := by unfold drHit; rw [hdd, ev, hv0, decide_eq_true (IL t28)]; rfl
   have hg:driverG l kw=some ⟨0,[d.body],[jointI l 0 d.body kw],i⟩:=by unfold driverG;rw[ja hin hj (by rw[h2];rfl),<- hdd];rfl
   refine gR ?_;rw[hg];exact aH.keep (bu rfl)
  have h2:drHit l kw i=false:=by unfold drHit;rw[hdd,decide_eq_false (Cn t28),Bool.and_false]
  refine ga aW ?_;exact aT J1 (i+1) ⟨hin,fun k h9=>by rcases lt_or_ge k i with g |g;exact hj k g;(have:k=i:=by omega);subst this;rw[h2];rfl⟩
 have hin:=bE hi t13;subst hin;have hg:driverG l kw=none:=by unfold driverG;rw[jc hj];rfl
 refine gR ?_;exact aH.sub (aH.keep (bu rfl)) (by rw[hg];exact Sub.tup (.cons qK (.cons (.refl _) .nil)))
theorem N7(l:Li)(hl:l.ok)(hli:aO l=0)(kw:List Bool)(hk:kw.length=l.bo.length):Con prog 137 [l.av,.ms 1000 1 0 kw.length] [(1000,some (.row 1 (kw.map bl)))] (.tup [((pairG l kw).getD default).av,bl (pairG l kw).isSome]) [(1000,some (.row 1 (kw.map bl)))]:=by
 have h8:=(dY hli).2.2.2.1;refine gF func137 (fun k z h=>bG h) ?_;refine gl ?_;refine a5 [2,4,12,13] [2,4,1000] (fun(i:Nat)=>[(1,some (.ms 1000 1 0 kw.length)),(14,some (i64 i))]) (fun _=>[]) (fun i=>i<=l.bo.length/\∀j,j<i->(prAt l kw j).isNone=true) (fun i=>l.bo.length-i) 0 ⟨zero_le _,fun j h=>by omega⟩ ?_;rintro i ⟨hi,hj⟩ K1 J1;refine gC (fun t15=>?_) (fun t15=>?_)
 ·have hin:=bn t15;refine ga aW ?_;refine a5 [2,4,6,12,13,14] [2,4,1000] (fun (k:Nat)=>[(1,some (.ms 1000 1 0 kw.length)),(7,some (i64 (i + 1 + k:Nat)))]) (fun _=>[]) (fun k=>i + 1 + k <= l.bo.length /\ ∀ j,j < k -> (!prHit l kw i (i + 1 + j)) = true) (fun k=>l.bo.length - k) 0 ⟨by omega,fun j h=>by omega⟩ ?_;rintro k ⟨hkl,hkj⟩ K2 J2;refine gl ?_;refine gC (fun t23=>?_) (fun t23=>?_)
  ·have hkn:i+1+k<l.bo.length:=bn t23;refine gt (m9 (AI hl i oz) (aL rfl rfl rfl) rfl rfl rfl) ?_;refine gu (eK rfl rfl rfl (fun h=>m9 (AI hl (i+1+k) oz) (.cons (.opt rfl (o1 h)) (.cons (.opt rfl (o1 h)) (.cons (.opt rfl (o1 h)) .nil))) rfl rfl rfl)) ?_;refine gC (fun t37=>?_) (fun t37=>?_)
   ·have h2 : prHit l kw i (i + 1 + k) = false := by unfold prHit; rw [show (freeB l kw i && freeB l kw ((i + 1 + k : Nat) : Int)) = false from by rcases oR t37 with g | g; (rw [g]; rfl); (rw [g, Bool.and_false])]; rfl
    refine ga aW ?_;exact aT J2 (k+1) ⟨by omega,fun j h9=>by rcases lt_or_ge j k with g |g;exact hkj j g;(have:j=k:=by omega);subst this;rw[h2];rfl⟩
   have hff:=nH t37;refine gt (m9 (sS hl hli 0 i hk) (.cons (.tmp rfl) (.cons (.const _) (bO rfl rfl))) rfl rfl rfl) ?_;refine gt (m9 (sS hl hli 0 (i+1+k:Nat) hk) (.cons (.tmp rfl) (.cons (.const _) (bO rfl rfl))) rfl rfl rfl) ?_;refine gc (Qh l oz (i+1+k) hkn) ?_;refine gc (Dp l hl hli 0 i (dg l.bo.length ((i+1+k:Nat):Int)) (jl _ _)) ?_;refine gD ?_;refine gC (fun t61=>?_) (fun t61=>?_)
   ·have h2 : prHit l kw i (i + 1 + k) = true := by unfold prHit; rw [hff.1, hff.2]; exact (wz.symm.trans t61)
    have hat:prAt l kw i=some (i+1+k):=by unfold prAt;rw[ja oz hkj (by rw[h2];rfl),Option.map_some];congr 1;omega
    have hg:pairG l kw=some (prG l kw i (i+1+k)):=by unfold pairG;rw[ja hin hj (by rw[hat];rfl),Option.map_some,hat]
    refine gR ?_;rw[hg];exact aH.keep (bu rfl)
   have h2:prHit l kw i (i+1+k)=false:=by unfold prHit;rw[show(decide (0<=jointI l 0 i kw)&&decide (0<=jointI l 0 ((i+1+k:Nat):Int) kw)&&decide (0<=jointI l 0 i (dg l.bo.length ((i+1+k:Nat):Int))))=false from wz.symm.trans t61,Bool.and_false]
   refine ga aW ?_;exact aT J2 (k+1) ⟨by omega,fun j h9=>by rcases lt_or_ge j k with g |g;exact hkj j g;(have:j=k:=by omega);subst this;rw[h2];rfl⟩
  have hkn:¬i+1+k<l.bo.length:=fun h=>by have h1:=q7 t23;omega
  have hat:prAt l kw i=none:=by unfold prAt;rw[show l.bo.length-(i+1)=k by omega,jc hkj];rfl
  refine ga aW ?_;exact aT J1 (i+1) ⟨hin,fun j h9=>by rcases lt_or_ge j i with g |g;exact hj j g;(have:j=i:=by omega);subst this;rw[hat];rfl⟩
 have hin:=bE hi t15;have hg:pairG l kw=none:=by unfold pairG;rw[<- hin,jc hj];rfl
 refine gR ?_;exact aH.sub (aH.keep (bu rfl)) (by rw[hg];exact Sub.tup (.cons qK (.cons (.refl _) .nil)))
theorem TN(l:Li)(hl:l.ok)(hli:aO l=0)(kw:List Bool)(hk:kw.length=l.bo.length):Con prog 138 [l.av,.ms 1000 1 0 kw.length] [(1000,some (.row 1 (kw.map bl)))] (.tup [((singleG l kw).getD default).av,bl (singleG l kw).isSome]) [(1000,some (.row 1 (kw.map bl)))]:=by
 have h8:=(dY hli).2.2.2.1;refine gF func138 (fun k z h=>bG h) ?_;refine gl ?_;refine a5 [2,4,11,12] [2,4,1000] (fun(i:Nat)=>[(1,some (.ms 1000 1 0 kw.length)),(13,some (i64 i))]) (fun _=>[]) (fun i=>i<=l.bo.length/\∀j,j<i->(!sgHit l kw j)=true) (fun i=>l.bo.length-i) 0 ⟨zero_le _,fun j h=>by omega⟩ ?_;rintro i ⟨hi,hj⟩ K1 J1;refine gC (fun t14=>?_) (fun t14=>?_)
 ·have hin:=bn t14;refine gt (m9 (AI hl i oz) (aL rfl rfl rfl) rfl rfl rfl) ?_;refine gC (fun t20=>?_) (fun t20=>?_)
  ·have h2 : sgHit l kw i = false := by unfold sgHit; rw [dH t20]; rfl
   refine ga aW ?_;exact aT J1 (i+1) ⟨hin,fun k h9=>by rcases lt_or_ge k i with g |g;exact hj k g;(have:k=i:=by omega);subst this;rw[h2];rfl⟩
  have hf:=dC t20;refine gt (m9 (sS hl hli 0 i hk) (.cons (.tmp rfl) (.cons (.const _) (bO rfl rfl))) rfl rfl rfl) ?_;refine gt (m9 (sS hl hli 1 i hk) (.cons (.tmp rfl) (.cons (.const _) (bO rfl rfl))) rfl rfl rfl) ?_;refine gD ?_;refine gC (fun t34=>?_) (fun t34=>?_)
  ·have h2 : sgHit l kw i = false := by unfold sgHit; rw [Fs t34, Bool.and_false]
   refine ga aW ?_;exact aT J1 (i+1) ⟨hin,fun k h9=>by rcases lt_or_ge k i with g |g;exact hj k g;(have:k=i:=by omega);subst this;rw[h2];rfl⟩
  obtain⟨p0,s0⟩:=Dg t34;have s1:=(mv (l:=l) (kind:=1) (body:=i) (oth:=kw)).2;have h2:sgHit l kw i=true:=by unfold sgHit;rw[hf,decide_eq_true p0,decide_eq_true s0];rfl
  obtain⟨j,hjt⟩:∃j,l.jo[(jointI l 1 i kw).toNat]?=some j:=aG oz;have hjd:l.jo.getD (jointI l 1 i kw).toNat default=j:=ao hjt;have hg:singleG l kw=some (sgG l kw i):=by unfold singleG;rw[ja hin hj (by rw[h2];rfl),Option.map_some]
  refine gi (f9 (n:=(jointI l 1 i kw).toNat) oz hjt) ?_;refine gC (fun t42=>?_) (fun t42=>?_)
  ·have hji:j.a=i:=cK t42;refine gR ?_;rw[hg];unfold sgG;rw[hjd];simp only[Option.getD_some,if_pos hji]
   exact aH.keep (bu rfl)
  have hji:j.a≠i:=dj t42;refine gR ?_;rw[hg];unfold sgG;rw[hjd];simp only[Option.getD_some,if_neg hji]
  exact aH.keep (bu rfl)
 have hin:=bE hi t14;have hg:singleG l kw=none:=by unfold singleG;rw[<- hin,jc hj];rfl
 refine gR ?_;exact aH.sub (aH.keep (bu rfl)) (by rw[hg];exact Sub.tup (.cons qK (.cons (.refl _) .nil)))
theorem Bx{k:List Bool}{bs:List Int}{q:Nat}{x:Int}(h:bs[q]?=some x):bU k (bs.drop q)=bU (k.set x.toNat true) (bs.drop (q+1)):=by
 have hi:=(List.getElem?_eq_some_iff.1 h).1;rw[List.drop_eq_getElem_cons hi,(List.getElem?_eq_some_iff.1 h).2];rfl
theorem Jd{l:Li}{n:Nat}{kw:List Bool}{out:List Gr}{g:Gr}(h:nextG l kw=some g):findFrom l (n+1) kw out=findFrom l n (bU kw g.bo) (out++[g]):=by
 show(match nextG l kw with |none=>_ |some g=>_)=_;rw[h]
theorem NE{l:Li}{n:Nat}{kw:List Bool}{out:List Gr}(h:nextG l kw=none):findFrom l n kw out=(kw,out):=by
 cases n with
 |zero=>rfl
 |succ n=>show(match nextG l kw with |none=>_ |some g=>_)=_;rw[h]
theorem zK{α:Type}{o:Option α}(h:o.isSome=false):o=none:=by cases o <;> simp_all
theorem Ho{α:Type}{a b:Option α}(h:a.isSome=true):a=a.or b:=by cases a <;> simp_all
theorem NX{l:Li}{kw:List Bool}(h:(driverG l kw).or (pairG l kw)=none):nextG l kw=singleG l kw:=by
 unfold nextG;rw[<- Option.or_assoc,h];rfl
theorem JY{l:Li}{kw:List Bool}(h:((driverG l kw).or (pairG l kw)).isSome=true):nextG l kw=(driverG l kw).or (pairG l kw):=by
 unfold nextG;rw[<- Option.or_assoc];exact(Ho h).symm
theorem Ib(l:Li)(hl:l.ok)(hli:aO l=0):FP 59 [l.av] (.lst 4 ((findG l).map Gr.av)):=by
 have h8:=(dY hli).2.2.2.1;have h0:=(dY hli).2.2.2.2;refine aj func59 ?_;refine gt (aJ (yp 900 rfl l oz 0 oz) (.cons (.tmp rfl) (.cons (.const _) .nil)) aM rfl rfl) ?_;refine gl ?_;refine gW (Wk.virt 901 4 rfl) ?_;refine i9 [1,13] [1] (fun(i:Nat)(kw:List Bool)(out:List Gr)=>[(3,some (.ms 900 1 0 kw.length)),(4,some (.ms 901 4 0 out.length)),(14,some (i64 i))]) (fun _ kw out=>[(900,some (.row 1 (kw.map bl))),(901,some (.row 4 (out.map Gr.av)))]) (fun i kw out=>i<=l.bo.length/\kw.length=l.bo.length/\out.length<=i/\findFrom l (l.bo.length-i) kw out=findFrom l l.bo.length (dg l.bo.length 0) []) (fun i _ _=>l.bo.length-i) 0 (dg l.bo.length 0) ([]) ⟨zero_le _,jl _ _,le_refl _,rfl⟩ ?_ (h1:=(.cons rfl (Sub.of (by rw[jl])) (.k (.k .nil))))
 rintro i kw out ⟨hi,hk,hol,hff⟩ K1 J1;refine gC (fun t15=>?_) (fun t15=>?_) (st2:=(18,0))
 ·have hin:=bn t15;have hd1:=Con.rekey1 900 rfl rfl rfl (JP l hl hli kw hk);have hp1:=Con.rekey1 900 rfl rfl rfl (N7 l hl hli kw hk);have hs1:=Con.rekey1 900 rfl rfl rfl (TN l hl hli kw hk);refine gt (aJ hd1 (bO rfl rfl) aM rfl rfl) ?_;refine Bi [1,5,13,14] [1,900,901] (fun(o:Option Gr)=>[(3,some (.ms 900 1 0 kw.length)),(4,some (.ms 901 4 0 out.length)),(6,some (bl o.isSome))]) (fun o=>[(5,some (.box (o.getD default).av.cells))]) (fun o=>o=(driverG l kw).or (pairG l kw)) ?_ ?_
  ·intro K2 J2;refine gC (fun t23=>?_) (fun t23=>?_)
   ·refine gt (aJ hp1 (bO rfl rfl) aM rfl rfl) ?_;exact pZ J2 (pairG l kw) (by rw[zK (dH t23)];rfl)
   exact pZ J2 (driverG l kw) (Ho (dC t23))
  rintro o ho;refine Bi [1,5,13,14] [1,900,901] (fun(og:Option Gr)=>[(3,some (.ms 900 1 0 kw.length)),(4,some (.ms 901 4 0 out.length)),(6,some (bl og.isSome))]) (fun og=>[(5,some (.box (og.getD default).av.cells))]) (fun og=>og=nextG l kw) ?_ ?_
  ·intro K3 J3;refine gC (fun t31=>?_) (fun t31=>?_)
   ·refine gt (aJ hs1 (bO rfl rfl) aM rfl rfl) ?_;exact pZ J3 (singleG l kw) (by have:=zK (dH t31);rw[ho]at this;exact(NX this).symm)
   exact pZ J3 o (by rw[ho];exact(JY (by rw[<- ho];exact dC t31)).symm)
  rintro og hog;refine gC (fun t39=>?_) (fun t39=>?_) (st1:=(18,0))
  ·have hn : nextG l kw = none := by rw [<- hog]; exact zK (dH t39)
   have hfin:findG l=out:=by unfold findG;rw[<- hff,NE hn]
   refine gW ((Wk.freeze (k:=901) rfl).trans<|Wk.of (sl:=[(4,some (.lst 4 ((findG l).map Gr.av)))]) (hp:=[]) (.cons rfl (Sub.of (by rw[hfin,cw (by rw[length_map])])) .nil) .nil) ?_;refine af ?_;rfl
  obtain⟨g,hg⟩:∃g,og=some g:=Option.isSome_iff_exists.1 (dC t39);have hng:nextG l kw=some g:=by rw[<- hog,hg]
  have hgo:=Bp hli hng;subst hg;refine gs (da (.tmp rfl) rfl (by rw[length_map]) (.tmp rfl) T32 rfl T53 rfl rfl (by dsimp only;simp only[length_cons,length_nil];omega) rfl rfl) ?_ (12,0);refine gW (Wk.of (sl:=[(1,some (.ptr 1 0)),(3,some (.ms 900 1 0 kw.length)),(4,some (.ms 43 4 0 (out++[g]).length)),(5,some (.ptr 5 0)),(13,some (i64 l.bo.length)),(14,some (i64 i))]) (hp:=[(1,some (.box l.av.cells)),(5,some (.box g.av.cells)),(900,some (.row 1 (kw.map bl))),(43,some (.row 4 ((out++[g]).map Gr.av)))]) (.k (.k (.cons rfl (Sub.of (by rw[length_append];rfl)) (.k (.k (.k .nil)))))) (.k (.k (.k (.cons rfl (BlkSub.of (by rw[map_append];rfl)) .nil))))) ?_ (12,0)
  refine gW (Wk.rk (k:=43) (d:=901) rfl rfl) ?_;refine gl ?_;refine hO [1,13,14,45,46] [1,901] (fun(q:Nat)(kk:List Bool)=>[(3,some (.ms 900 1 0 kk.length)),(4,some (.ms 901 4 0 (out++[g]).length)),(47,some (i64 q))]) (fun _ kk=>[(900,some (.row 1 (kk.map bl)))]) (fun q kk=>q<=g.bo.length/\kk.length=l.bo.length/\bU kk (g.bo.drop q)=bU kw g.bo) (fun q _=>g.bo.length-q) 0 kw ⟨zero_le _,hk,rfl⟩ ?_;rintro q kk ⟨hq,hkk,hmk⟩ K4 J4;refine gC (fun t48=>?_) (fun t48=>?_)
  ·have hqn:=bn t48;obtain⟨x,hx⟩:=aG hqn;have hxb:=hgo.b x (mem_of_getElem? hx);obtain⟨v,hv⟩:∃v,kk[x.toNat]?=some v:=aG oz;refine gi (aN hx) ?_;refine gs (lP (.tmp rfl) (.tmp rfl) T219 rfl T4 rfl oz oz rfl) ?_;refine gs (dF (.tmp rfl) rfl (by rw[Nat.zero_add,getElem?_map,hv];rfl) rfl (.const _) rfl rfl T4 rfl rfl) ?_;refine ga (Dy (by have:=hgo.lb;unfold a9;omega)) ?_;exact gT J4 (q+1) (kk.set x.toNat true) ⟨hqn,by rw[length_set];exact hkk,by rw[<- Bx hx];exact hmk⟩ (hw:=Wk.of (.cons rfl (Sub.of (by rw[length_set])) (.k (.k (.k (.k (.k (.k (.k .nil)))))))) (.cons rfl (BlkSub.of (by rw[map_set,Nat.zero_add];rfl)) (.k (.k .nil))))
  have hqn:=bE hq t48;have hmk2:kk=bU kw g.bo:=by rw[hqn,List.drop_length]at hmk;exact hmk
  refine ga aW ?_;exact ia J1 (i+1) kk (out++[g]) ⟨hin,hkk,by rw[length_append];simp only[length_cons,length_nil];omega,by rw[hmk2,<- Jd hng,<- hff];congr 1;omega⟩
 have hin:=bE hi t15;have hfin:findG l=out:=by unfold findG;rw[<- hff,show l.bo.length-i=0 by omega];rfl
 refine gW ((Wk.freeze (k:=901) rfl).trans<|Wk.of (sl:=[(4,some (.lst 4 ((findG l).map Gr.av)))]) (hp:=[]) (.cons rfl (Sub.of (by rw[hfin,cw (by rw[length_map])])) .nil) .nil) ?_;refine af ?_;rfl
theorem DC{α:Type}{f:List Bool->α->List Bool}{k:List Bool}{l:List α}{i:Nat}{x:α}(h:l[i]?=some x):(l.drop i).foldl f k=(l.drop (i+1)).foldl f (f k x):=by
 have hi:=(List.getElem?_eq_some_iff.1 h).1;rw[List.drop_eq_getElem_cons hi,(List.getElem?_eq_some_iff.1 h).2];rfl
def gN(k:List Bool)(i:Nat):List Int:=((List.range i).filter (fun j=>!k.getD j false)).map (fun j:Nat=>((j:Nat):Int))
theorem G3{k:List Bool}{i:Nat}(h:k.getD i false=false):gN k (i+1)=gN k i++[(i:Int)]:=by
 unfold gN;rw[List.range_succ,List.filter_append,map_append,List.filter_cons,h];rfl
theorem DE{k:List Bool}{i:Nat}(h:k.getD i false=true):gN k (i+1)=gN k i:=by
 unfold gN;rw[List.range_succ,List.filter_append,map_append,List.filter_cons,h];simp
theorem vS(k:List Bool)(i:Nat):(gN k i).length<=i:=by
 unfold gN;rw[length_map];exact le_trans (List.length_filter_le _ _) (by simp)
theorem qk{α:Type}{f:α->List Int}:∀(gs:List α)(k:List Bool),(gs.foldl (fun k g=>bU k (f g)) k).length=k.length
 |[],k=>rfl
 |g::gs,k=>by rw[List.foldl_cons,qk gs,kQ]
theorem Qp(l:Li):(fU (cJ l)).length<=l.bo.length:=by
 have h:=vS (cJ l) (cJ l).length;have e:(cJ l).length=l.bo.length:=by unfold cJ;rw[qk,jl]
 rw[e]at h;unfold fU;rw[e];exact h
theorem Qk(l:Li):(fU (fg l)).length<=l.jo.length:=by
 have h:=vS (fg l) (fg l).length;have e:(fg l).length=l.jo.length:=by unfold fg;rw[qk,length_replicate]
 rw[e]at h;unfold fU;rw[e];exact h
theorem Nw(l:Li)(hl:l.ok)(hli:aO l=0):FP 58 [l.av] (.tup [.lst 1 ((fU (cJ l)).map i64),.lst 1 ((fU (fg l)).map i64)]):=by
 have h8:=(dY hli).2.2.2.1;have h0:=(dY hli).2.2.2.2;have hj16:l.jo.length<=16:=by have:=(dY hli).2.1;unfold eU at this;split at this;cases this;omega
 obtain⟨hgo,hgl⟩:=tc hli;refine aj func58 ?_;refine gt (aJ (yp 900 rfl l oz 0 oz) (.cons (.tmp rfl) (.cons (.const _) .nil)) aM rfl rfl) ?_;refine gl ?_;refine gs (it (.tmp rfl) T219 rfl T4 rfl rfl oz (by dsimp only;omega) rfl) ?_;refine gD ?_ (2,0);refine gW (Wk.of (sl:=[(1,some (.ptr 1 0)),(2,some (nS)),(3,some (nS)),(4,some (.ms 900 1 0 (dg l.bo.length 0).length)),(5,some (.ms 21 1 0 (List.replicate l.jo.length false).length))]) (hp:=[(1,some (.box l.av.cells)),(900,some (.row 1 ((dg l.bo.length 0).map bl))),(21,some (.row 1 ((List.replicate l.jo.length false).map bl)))]) (.k (.k (.k (.cons rfl (Sub.of (by rw[jl])) (.cons rfl (Sub.of (by rw[length_replicate,toNat_natCast])) .nil))))) (.k (.k (.cons rfl (BlkSub.of (by rw[map_replicate,toNat_natCast];rfl)) .nil)))) ?_ (2,0)
 refine gW (Wk.rk (k:=21) (d:=901) rfl rfl) ?_;refine gc (Ib l hl hli) ?_;refine gl ?_;refine i9 [1,2,3,23,24] [1] (fun(i:Nat)(k1 k2:List Bool)=>[(4,some (.ms 900 1 0 k1.length)),(5,some (.ms 901 1 0 k2.length)),(25,some (i64 i))]) (fun _ k1 k2=>[(900,some (.row 1 (k1.map bl))),(901,some (.row 1 (k2.map bl)))]) (fun i k1 k2=>i<=(findG l).length/\k1.length=l.bo.length/\k2.length=l.jo.length/\((findG l).drop i).foldl (fun k g=>bU k g.bo) k1=cJ l/\((findG l).drop i).foldl (fun k g=>bU k g.jo) k2=fg l) (fun i _ _=>(findG l).length-i) 0 (dg l.bo.length 0) (List.replicate l.jo.length false) ⟨zero_le _,jl _ _,length_replicate,rfl,rfl⟩ ?_
 rintro i k1 k2 ⟨hi,hk1,hk2,hf1,hf2⟩ K1 J1;refine gC (fun t26=>?_) (fun t26=>?_)
 ·have hin:=bn t26;obtain⟨g,hg⟩:=aG hin;have hgk:=hgo g (mem_of_getElem? hg);have hlb:=hgk.lb;have hlj:=hgk.lj;refine gi (aN hg) ?_;refine gl ?_;refine hO [1,2,3,7,23,24,25,30,31] [1,7,901] (fun(q:Nat)(kk:List Bool)=>[(4,some (.ms 900 1 0 kk.length)),(5,some (.ms 901 1 0 k2.length)),(32,some (i64 q))]) (fun _ kk=>[(900,some (.row 1 (kk.map bl)))]) (fun q kk=>q<=g.bo.length/\kk.length=l.bo.length/\bU kk (g.bo.drop q)=bU k1 g.bo) (fun q _=>g.bo.length-q) 0 k1 ⟨zero_le _,hk1,rfl⟩ ?_;rintro q kk ⟨hq,hkk,hmk⟩ K2 J2;refine gC (fun t33=>?_) (fun t33=>?_)
  ·have hqn:=bn t33;obtain⟨x,hx⟩:=aG hqn;have hxb:=hgk.b x (mem_of_getElem? hx);obtain⟨v,hv⟩:∃v,kk[x.toNat]?=some v:=aG oz;refine gi (aN hx) ?_;refine gs (lP (.tmp rfl) (.tmp rfl) T219 rfl T4 rfl oz oz rfl) ?_;refine gs (dF (.tmp rfl) rfl (by rw[Nat.zero_add,getElem?_map,hv];rfl) rfl (.const _) rfl rfl T4 rfl rfl) ?_;refine ga aW ?_;exact gT J2 (q+1) (kk.set x.toNat true) ⟨hqn,by rw[length_set];exact hkk,by rw[<- Bx hx];exact hmk⟩ (hw:=Wk.of (.cons rfl (Sub.of (by rw[length_set])) (.k (.k (.k (.k (.k (.k (.k (.k (.k (.k (.k .nil)))))))))))) (.cons rfl (BlkSub.of (by rw[map_set,Nat.zero_add];rfl)) (.k (.k (.k .nil)))))
  have hqn:=bE hq t33;have hmk2:kk=bU k1 g.bo:=by rw[hqn,List.drop_length]at hmk;exact hmk
  refine gl ?_;refine hO [1,2,3,23,24,25,41,42] [1,900] (fun(p:Nat)(jj:List Bool)=>[(4,some (.ms 900 1 0 kk.length)),(5,some (.ms 901 1 0 jj.length)),(43,some (i64 p))]) (fun _ jj=>[(901,some (.row 1 (jj.map bl)))]) (fun p jj=>p<=g.jo.length/\jj.length=l.jo.length/\bU jj (g.jo.drop p)=bU k2 g.jo) (fun p _=>g.jo.length-p) 0 k2 ⟨zero_le _,hk2,rfl⟩ ?_;rintro p jj ⟨hp,hjj,hmj⟩ K3 J3;refine gC (fun t44=>?_) (fun t44=>?_)
  ·have hpn:=bn t44;obtain⟨x,hx⟩:=aG hpn;have hxb:=hgk.j x (mem_of_getElem? hx);obtain⟨v,hv⟩:∃v,jj[x.toNat]?=some v:=aG oz;refine gi (aN hx) ?_;refine gs (lP (.tmp rfl) (.tmp rfl) T219 rfl T4 rfl oz oz rfl) ?_;refine gs (dF (.tmp rfl) rfl (by rw[Nat.zero_add,getElem?_map,hv];rfl) rfl (.const _) rfl rfl T4 rfl rfl) ?_;refine ga aW ?_;exact gT J3 (p+1) (jj.set x.toNat true) ⟨hpn,by rw[length_set];exact hjj,by rw[<- Bx hx];exact hmj⟩ (hw:=Wk.of (.k (.cons rfl (Sub.of (by rw[length_set])) (.k (.k (.k (.k (.k (.k (.k (.k (.k .nil))))))))))) (.cons rfl (BlkSub.of (by rw[map_set,Nat.zero_add];rfl)) (.k (.k .nil))))
  have hpn:=bE hp t44;have hmj2:jj=bU k2 g.jo:=by rw[hpn,List.drop_length]at hmj;exact hmj
  refine ga aW ?_;exact ia J1 (i+1) kk jj ⟨hin,hkk,hjj,by rw[hmk2,<- hf1,DC hg],by rw[hmj2,<- hf2,DC hg]⟩
 have hin:=bE hi t26;have e1:k1=cJ l:=by rw[hin,List.drop_length]at hf1;exact hf1
 have e2:k2=fg l:=by rw[hin,List.drop_length]at hf2;exact hf2
 refine gW (Wk.virt 902 1 rfl) ?_;refine a5 [3,53] [900,901] (fun(i:Nat)=>[(2,some (.ms 902 1 0 (gN k1 i).length)),(5,some (.ms 901 1 0 k2.length)),(52,some (.ms 900 1 0 k1.length)),(54,some (i64 i))]) (fun i=>[(902,some (.row 1 ((gN k1 i).map i64)))]) (fun i=>i<=k1.length) (fun i=>k1.length-i) 0 (zero_le _) ?_;rintro i ha K4 J4;refine gC (fun t55=>?_) (fun t55=>?_) (st2:=(22,0))
 ·have hin6:=bn t55;obtain ⟨v,hv⟩:=aG hin6;have hvd:k1.getD i false = v:=ao hv;have hul:=vS k1 i;refine gs (lP (.tmp rfl) (.tmp rfl) T219 rfl T4 rfl oz oz rfl) ?_;refine gs (d8 (.tmp rfl) rfl (by rw [Nat.zero_add,toNat_natCast,getElem?_map,hv]; rfl) T4 rfl rfl rfl) ?_;refine gC (fun t60=>?_) (fun t60=>?_)
  ·have hu := G3 (k := k1) (i := i) (by rw [hvd]; exact dH t60);refine gs (da (.tmp rfl) rfl (by rw [length_map]) (.tmp rfl) T39 rfl T3 rfl rfl (by dsimp only; simp only [length_cons,length_nil]; omega) rfl rfl) ?_ (21,0);refine gW (Wk.of (sl:=[(2,some (.ms 64 1 0 (gN k1 (i + 1)).length)),(3,some (nS)),(5,some (.ms 901 1 0 k2.length)),(52,some (.ms 900 1 0 k1.length)),(53,some (i64 k1.length)),(54,some (i64 i))]) (hp:=[(900,some (.row 1 (k1.map bl))),(901,some (.row 1 (k2.map bl))),(64,some (.row 1 ((gN k1 (i + 1)).map i64)))]) (.cons rfl (Sub.of (by rw [hu,length_append]; rfl)) (.k (.k (.k (.k (.k .nil)))))) (.k (.k (.cons rfl (BlkSub.of (by rw [hu,map_append]; rfl)) .nil)))) ?_ (21,0)
   refine gW (Wk.rk (k:=64) (d:=902) rfl rfl) ?_;refine ga aW ?_;exact aT J4 (i+1) hin6 (hw:=Wk.of (.cons rfl (Sub.of (by first |rw[hu];done |rfl)) (.k (.k (.k (.k (.k .nil)))))) (.cons rfl (BlkSub.of (by first |rw[hu];done |rfl)) (.k (.k .nil))))
  have hu:=DE (k:=k1) (i:=i) (by rw[hvd];exact dC t60);refine ga aW ?_;exact aT J4 (i+1) hin6 (hw:=Wk.of (.cons rfl (Sub.of (by first |rw[hu];done |rfl)) (.k (.k (.k (.k (.k .nil)))))) (.cons rfl (BlkSub.of (by first |rw[hu];done |rfl)) (.k (.k .nil))))
 have hin6:=bE ha t55;refine gW ((Wk.freeze (k:=902) rfl).trans<|Wk.of (sl:=[(2,some (.lst 1 ((fU (cJ l)).map i64))),(3,some (nS)),(5,some (.ms 901 1 0 k2.length))]) (hp:=[(901,some (.row 1 (k2.map bl)))]) (.cons rfl (Sub.of (by rw[cw (by rw[length_map]),hin6,e1];rfl)) (.k (.k .nil))) (.k .nil)) ?_;refine gW (Wk.virt 902 1 rfl) ?_;refine a5 [2,67] [901] (fun(i:Nat)=>[(3,some (.ms 902 1 0 (gN k2 i).length)),(66,some (.ms 901 1 0 k2.length)),(68,some (i64 i))]) (fun i=>[(902,some (.row 1 ((gN k2 i).map i64)))]) (fun i=>i<=k2.length) (fun i=>k2.length-i) 0 (zero_le _) ?_;rintro i hb K5 J5;refine gC (fun t69=>?_) (fun t69=>?_) (st2:=(28,0))
 ·have hin8:=bn t69;obtain ⟨v,hv⟩:=aG hin8;have hvd:k2.getD i false = v:=ao hv;have hul:=vS k2 i;refine gs (lP (.tmp rfl) (.tmp rfl) T219 rfl T4 rfl oz oz rfl) ?_;refine gs (d8 (.tmp rfl) rfl (by rw [Nat.zero_add,toNat_natCast,getElem?_map,hv]; rfl) T4 rfl rfl rfl) ?_;refine gC (fun t74=>?_) (fun t74=>?_)
  ·have hu := G3 (k := k2) (i := i) (by rw [hvd]; exact dH t74);refine gs (da (.tmp rfl) rfl (by rw [length_map]) (.tmp rfl) T39 rfl T3 rfl rfl (by dsimp only; simp only [length_cons,length_nil]; omega) rfl rfl) ?_ (27,0);refine gW (Wk.of (sl:=[(2,some (.lst 1 ((fU (cJ l)).map i64))),(3,some (.ms 78 1 0 (gN k2 (i + 1)).length)),(66,some (.ms 901 1 0 k2.length)),(67,some (i64 k2.length)),(68,some (i64 i))]) (hp:=[(901,some (.row 1 (k2.map bl))),(78,some (.row 1 ((gN k2 (i + 1)).map i64)))]) (.k (.cons rfl (Sub.of (by rw [hu,length_append]; rfl)) (.k (.k (.k .nil))))) (.k (.cons rfl (BlkSub.of (by rw [hu,map_append]; rfl)) .nil))) ?_ (27,0)
   refine gW (Wk.rk (k:=78) (d:=902) rfl rfl) ?_;refine ga aW ?_;exact aT J5 (i+1) hin8 (hw:=Wk.of (.cons rfl (Sub.of (by first |rw[hu];done |rfl)) (.k (.k (.k (.k .nil))))) (.cons rfl (BlkSub.of (by first |rw[hu];done |rfl)) (.k .nil)))
  have hu:=DE (k:=k2) (i:=i) (by rw[hvd];exact dC t74);refine ga aW ?_;exact aT J5 (i+1) hin8 (hw:=Wk.of (.cons rfl (Sub.of (by first |rw[hu];done |rfl)) (.k (.k (.k (.k .nil))))) (.cons rfl (BlkSub.of (by first |rw[hu];done |rfl)) (.k .nil)))
 have hin8:=bE hb t69;refine gW ((Wk.freeze (k:=902) rfl).trans<|Wk.of (sl:=[(2,some (.lst 1 ((fU (cJ l)).map i64))),(3,some (.lst 1 ((fU (fg l)).map i64)))]) (hp:=[]) (.k (.cons rfl (Sub.of (by rw[cw (by rw[length_map]),hin8,e2];rfl)) .nil)) .nil) ?_;refine bF ?_;rfl
theorem Bb(l:Li)(hl:l.ok)(hli:aO l=0):FP 16 [l.av] (.tup [.lst 4 ((splitG l).map Gr.av),i64 (splitE l)]):=by
 have h8:=(dY hli).2.2.2.1;have hj16:l.jo.length<=16:=by have:=(dY hli).2.1;unfold eU at this;split at this;cases this;omega
 have u1:=Qp l;have u2:=Qk l;refine aj func16 ?_;refine gc (Nw l hl hli) ?_;refine gl ?_;refine gl ?_;refine ga (c9 oz) ?_;refine gC (fun t16=>?_) (fun t16=>?_)
 ·have h1:0 < (fU (cJ l)).length + (fU (fg l)).length:=jy t16;have hE:splitE l = 7:=by unfold splitE; rw [if_neg oz]
  refine gR ?_;exact ef (by unfold splitG;rw[if_neg (by rw[hE];decide),hE];exact Sub.tup (.cons (.nil _ _ _) (.cons (.refl _) .nil)))
 have h1:(fU (cJ l)).length+(fU (fg l)).length<=0:=j9 t16;have hE:splitE l=0:=by unfold splitE;rw[if_pos oz]
 refine gc (Ib l hl hli) ?_;refine bF ?_;unfold splitG;rw[if_pos hE,hE];rfl
variable{P:Program}{N:Nat}{R:Array Oper}{s:AS}{pos:String}{after:Array Edge}
theorem AU{d:Nat}{x:Operand}{n:Nat}{z:Value}{T E t:TypeId}{ti te:TI}(hx:Ev s x (.v (.int .i64 n)))
    (hT:aF P T=some ti) (hk:ti.k=.slice E) (hE:aF P E=some te) (hz:te.zero=[z]) (hz1:z.oneCell'=true) (hs:Nat.beq te.size 1=true) (hbb:Nat.blt 0 te.bytes=true)
    (hb:(n:Int)*te.bytes<=281474976710656) (hN:Nat.blt d N=true) :
    Step P N R s ⟨some d,.makeSlice T x x,t,pos,after,none⟩
      ⟨some (.ms d 1 0 n),[(d,some (.vec (List.replicate n z)))],ay x,[]⟩ :=
  tU rfl rfl hN (by simp) fun s' hag hfr C m a w hr => by
    have hxv:=oc hr (hx.agree hag (fun _ h=>h));have hs:=eq_of_beq_eq_true hs;rw[Nat.blt_eq]at hbb;obtain⟨d2,h3,h4,-,-⟩:=dX hT w;obtain rfl:=iP (h4.trans hk);obtain⟨zv,h5,h6⟩:=tD hE w;obtain⟨ie,h7,h8,-⟩:=HP hE w;have h6':zv.cells.toList=[z]:=h6.trans hz;have hzc:zv.cells=#[z]:=by rw[<- Array.toArray_toList (xs:=zv.cells),h6']
    have hnb:(n:Int)<=281474976710656:=by
      have:(n:Int)*1<=n*te.bytes:=Int.mul_le_mul_of_nonneg_left oz oz;omega
    have hw1:IntKind.i64.wrap (n:Int)=n:=IntWalk.i64_in n oz;obtain⟨zero,hzero⟩:∃zero:Array Value,zero=(if n*te.size=0 then #[]else zv.cells):=⟨_,rfl⟩
    refine⟨.slice (some ⟨w.heap.size,0,none⟩) n n,(Array.range (n*te.size)).map (zero[· % zero.size]!),E,w.drawn,?_,?_,?_,?_⟩
    · have hmk:(Instr.makeSlice T (.int .i64 n) (.int .i64 n)).run P w =
          .ok (.slice (some ⟨w.heap.size,0,none⟩) n n) { w with heap:=w.heap.push (.cells ((Array.range (n*te.size)).map (zero[· % zero.size]!)) E) }:=by
        have hc:¬(((n:Int)<0\/281474976710656<(ie.bytes:Int)*n)\/(n:Int)<0):=by
          rw[h8,Int.mul_comm];omega
        simp only[Instr.makeSlice,Sem.run_bind,h3,Result.andThen_ok,asInt,asIntOf,Sem.run_pure,h7,hw1];rw[if_neg (by simpa using hc)];simp only[Sem.run_bind,run_askRoom,Result.andThen_ok,gE hE,toNat_natCast]
        by_cases h0:n*te.size=0
        · rw[if_pos h0]at hzero ⊢
          subst hzero;simp only[Sem.run_bind,Sem.run_pure,Result.andThen_ok,newRow,run_newObj]
        · rw[if_neg h0]at hzero ⊢
          subst hzero;simp only[Sem.run_bind,Sem.run_pure,Result.andThen_ok,h5,newRow,run_newObj]
      simp only[execOp,hxv,Sem.run_bind,hmk,Result.andThen_ok,Sem.run_pure]
    · exact fun h=>h
    · intro g S m' w' hg hS hm hw
      refine .vec hw ?_ (fun v hv=>by rw[List.eq_of_mem_replicate hv];exact hz1);apply List.ext_getElem?;intro j;rw[Array.getElem?_toList,List.getElem?_replicate]
      by_cases hj:j<n
      · have hpos : ¬ n * te.size = 0 := by rw [hs]; omega
        rw[if_neg hpos,hzc]at hzero;subst hzero;rw[if_pos hj];simp only[Array.getElem?_map,Array.getElem?_range,show j<n*te.size by rw[hs];omega,if_true,Option.map_some,Option.some.injEq];simp[Nat.mod_one]
      · rw[if_neg hj,Array.getElem?_eq_none (by simp[hs];omega)]
    · intro g S m' hm hS
      have:=Rep.ms (g:=g) (S:=S) (m:=m') (k:=d) (sz:=1) (off:=0) (len:=n) (cap:=n) hm (le_refl _) (by simpa[hs]using hS);simpa using this
theorem u6{x y:Operand}{k i:Nat}{vs:List Value}{v:Value}{T t:TypeId}{ti:TI}
  (hx:Ev s x (.eptr k 1 i 0)) (hk:s.blk k=some (.vec vs)) (hi:i<vs.length) (hy:Ev s y (.v v)) (hv:v.oneCell'=true) (hT:aF P T=some ti) (hsz:Nat.beq ti.size 1=true) :
  Step P N R s ⟨none,.store T x y,t,pos,after,none⟩ ⟨none,[(k,some (.vec (vs.set i v)))],ay x++ay y,[k]⟩ :=
 Bf rfl rfl (by simp) hk fun s' hag C m a w hr => by
  have hsz:=eq_of_beq_eq_true hsz;obtain⟨b,hm,hxv⟩:=wm hr (hx.agree hag (fun _ h=>List.mem_append.2 (.inl h)));have hyv:=oc hr (hy.agree hag (fun _ h=>List.mem_append.2 (.inr h)));have hb:=hr.heap.blk k _ ((hag.2 k (by simp)).trans hk);rw[hm]at hb;cases hb with
  | @vec _ _ c t2 hw hc h1 =>
   have hcs:c.size=vs.length:=by rw[<- hc];simp
   have hvc:v.cells=#[v]:=by cases v <;> simp_all [Value.cells,Value.oneCell']
   refine⟨b,c,(over c.toList i v.cells.toList).toArray,t2,hm,hw,?_,?_,?_⟩
   ·simp[over,hvc];omega
   ·have hrun := A4 (P := P) (off := i) (v := v) hT hw (by rw[hvc,hsz];rfl) oz (by rw[hvc];simpa using hv);simp[execOp,Instr.storeAt,hxv,Instr.sureAddr,hyv,hrun]
   ·intro g S w' hg hS hw';refine .vec hw' ?_ (fun u hu=>?_)
    ·rw[hc,hvc];unfold over;rw[List.set_eq_take_append_cons_drop,if_pos hi];simp
    ·rcases List.mem_or_eq_of_mem_set hu with h9 |h9
     ·exact h1 u h9
     ·rw[h9];exact hv
inductive Lent(H:Hp)(hid:List Nat):AV->AV->Prop
  |same {x:AV} (h:x.nm=[]):Lent H hid x x
  |ms {k off len:Nat} {vs:List Value} (hk:lk H k=some (.vec vs)) (hh:k∉hid) (hl:off+len<=vs.length) (hm:vs.length<=a9):Lent H hid (.ms k 1 off len) (.lst 1 (((vs.drop off).take len).map .v))
theorem EZ{g:Nat->Array Value->Prop}{S:Nat->Nat->Prop}{m:Nat->Option Nat}{u y:Value}(h:Rep g S m u (.v y)):u=y:=by cases h;rfl
theorem wY{m:Nat->Option Nat}{b:Nat}:¬bb [] m b:=by rintro⟨k,x,h,_⟩;cases h
def pu(ext:Nat->Prop)(H:Hp)(hid:List Nat)(m:Nat->Option Nat)(b:Nat):Prop:=ext b\/∃k z,k∈hid/\lk H k=some z/\m k=some b
theorem MW{ext:Nat->Prop}{H:Hp}{hid:List Nat}{m m2:Nat->Option Nat}{w:World}{b:Nat}{cs:Array Value}(h:Im ext H m w b cs):Im (pu ext H hid m) [] m2 w b cs :=
 ⟨fun h'=>h'.elim h.1 (fun⟨k,z,_,hz,hb⟩=>h.2.1 ⟨k,z,hz,hb⟩),wY,h.2.2⟩
theorem Dx{ext:Nat->Prop}{H:Hp}{hid:List Nat}{m:Nat->Option Nat}{w:World}(hh:HeapRel ext H m w){k b:Nat}{z:Blk}(hk:lk H k=some z)(hb:m k=some b)(hn:k∉hid):¬pu ext H hid m b:=by
 rintro(h |⟨k',z',h1,h2,h3⟩)
 ·exact(hh.sep k z b hk hb).1 h
 ·have:=hh.inj k k' z z' b hk h2 hb h3;subst this;exact hn h1
theorem Lent.rep{ext:Nat->Prop}{H:Hp}{hid:List Nat}{m:Nat->Option Nat}{w:World}(hh:HeapRel ext H m w){x x':AV}(h:Lent H hid x x') :
  ∀{v:Value},Rep (Im ext H m w) (Sz w) m v x->∀m2:Nat->Option Nat,Rep (Im (pu ext H hid m) [] m w) (Sz w) m2 v x':=by
 cases h with
 |same hn=>intro v hv m2;exact(iQ hn hv).mono (fun _ _ h=>MW h) (fun _ _ h=>h) (fun _ _ _ h=>h)
 | @ms k off len vs hk hnh hl hm =>
  intro v hr m2;have hb:=hh.blk k _ hk;cases hr with
  |ms0 a=>simp only[List.take_zero];exact .lst0 _ _ _
  | @ms _ _ _ _ _ cap b hmk hc hS =>
   rw[hmk]at hb;cases hb with
   | @vec _ _ c t hw hcv h1 =>
    have hcs:c.size=vs.length:=by rw[<- hcv];simp
    have hlen:(((vs.drop off).take len).map AV.v).length=len:=by rw[length_map,length_take,List.length_drop];omega
    have he':∀(i:Nat)(e:AV),(((vs.drop off).take len).map AV.v)[i]?=some e->∃u,e=.v u/\c[off+i]?=some u/\u∈vs:=by
     intro i e he;rw[getElem?_map,map_eq_some_iff]at he;obtain⟨u,he,rfl⟩:=he;rw[getElem?_take]at he;split at he
     ·rw[getElem?_drop]at he;exact⟨u,rfl,by rw[<- Array.getElem?_toList,hcv];exact he,mem_of_getElem? he⟩
     ·cases he
    have:=Rep.lst (g:=Im (pu ext H hid m) [] m w) (S:=Sz w) (m:=m2) (b:=b) (off:=off) (cap:=cap) (sz:=1) (es:=((vs.drop off).take len).map AV.v) (cs:=c) (fun i j=>c.getD (off+i) undef)
     ⟨Dx hh hk hmk hnh,wY,t,(0,0),hw⟩ oz oz ?_ ?_ ?_ ?_
    ·rw[hlen]at this;simpa using this
    ·intro i e he;obtain⟨u,rfl,_⟩:=he' i e he;rfl
    ·intro i j e x he hx;obtain⟨u,rfl,_,hm⟩:=he' i e he;cases j with
     |zero=>cases hx;exact h1 u hm
     |succ j=>cases hx
    ·intro i j e x he hx;obtain⟨u,rfl,hu,_⟩:=he' i e he;cases j with
     |zero=>rw[Nat.mul_one,Nat.add_zero,getD_eq_getD_getElem?,hu];rfl
     |succ j=>cases hx
    ·intro i j e x he hx;obtain⟨u,rfl,hu,_⟩:=he' i e he;cases j with
     |zero=>cases hx;rw[getD_eq_getD_getElem?,hu];exact .v _
     |succ j=>cases hx
def II:AV->Bool
  | .v (.int _ _)=>true
  |_=>false
def H2:AV->Bool
  | .v (.int _ _)=>false
  | .v _=>true
  | .lst _ _=>true
  | .ms _ _ _ _=>true
  |_=>false
mutual
def AV.li:AV->Bool
  | .v _=>true
  | .agg cs=>AV.lis cs
  | .tup cs=>AV.lis cs
  | .lst sz es=>Nat.beq sz 1&&es.all II
  |_=>false
def AV.lis:List AV->Bool
  |[]=>true
  |x::l=>x.li&&AV.lis l
end
theorem AV.lis_mem:∀{l:List AV}{c:AV},AV.lis l=true->c∈l->c.li=true
 |x::l,c,h,hc=>by
  simp only[AV.lis,and_eq_true]at h;rcases List.mem_cons.1 hc with rfl |hc
  ·exact h.1
  ·exact AV.lis_mem h.2 hc
theorem OV{g:Nat->Array Value->Prop}{S:Nat->Nat->Prop}{m:Nat->Option Nat}{u:Value}{x:AV}(hx:H2 x=true)(h:Rep g S m u x)(kk:IntKind)(z:Int):u≠.int kk z:=by
 rintro rfl;cases h <;> cases hx
theorem L6{g g':Nat->Array Value->Prop}{S S':Nat->Nat->Prop}{m m':Nat->Option Nat}{v:Value}{x:AV}(hx:x.li=true)
  (hg:∀b cs (o:Nat)(kk:IntKind)(z:Int),cs[o]?=some (.int kk z)->g b cs->g' b cs) (h:Rep g S m v x):Rep g' S' m' v x:=by
 induction h with
 |v=>exact .v _
 |agg hn h1 hr ih=>exact .agg hn h1 (fun j u c hu hc=>ih j u c hu hc (AV.lis_mem hx (mem_of_getElem? hc)))
 |tup hn hr ih=>exact .tup hn (fun j u c hu hc=>ih j u c hu hc (AV.lis_mem hx (mem_of_getElem? hc)))
 |lst0 a cap sz=>exact .lst0 _ _ _
 | @lst _ b off cap sz es cs u hb hc hl hs h1 hu hr _ =>
  simp only[AV.li,and_eq_true]at hx;have hsz:=eq_of_beq_eq_true hx.1;subst hsz
  match es,hx,hc,hl,hs,h1,hu,hr with
  |[],_,_,_,_,_,_,_=>exact .lst0 _ _ _
  |e::es,hx,hc,hl,hs,h1,hu,hr =>
   have hcell:∀(i j:Nat)(e' c:AV),(e::es)[i]?=some e'->e'.cells[j]?=some c->∃kk z,c=.v (.int kk z):=by
    intro i j e' c he hc';have h9:=List.all_eq_true.1 hx.2 e' (mem_of_getElem? he);cases e' with
    |v y=>cases y with
     |int kk z =>
      cases j with
      |zero=>cases hc';exact⟨_,_,rfl⟩
      |succ j=>cases hc'
     |_=>cases h9
    |_=>cases h9
   have he0:∃kk z,e=.v (.int kk z):=by
    have h9:=List.all_eq_true.1 hx.2 e (by simp);cases e with
    |v y=>cases y with
     |int kk z=>exact⟨_,_,rfl⟩
     |_=>cases h9
    |_=>cases h9
   obtain⟨kk,z,rfl⟩:=he0;have h8:=hu 0 0 _ _ rfl rfl;have h7:=hr 0 0 _ _ rfl rfl;have h6:u 0 0=.int kk z:=EZ h7;rw[h6]at h8;refine .lst u (hg b cs _ kk z h8 hb) hc hl hs h1 hu (fun i j e' c he hc'=>?_);obtain⟨k2,z2,rfl⟩:=hcell i j e' c he hc';rw[EZ (hr i j _ _ he hc')];exact .v _
 |_=>cases hx
theorem Con.lend{f:FuncId}{k:Nat}{cs:List AV}{cs':Value->List AV}{H:Hp}{r:AV}(hid:List Nat)(j0:Nat)(hk:lk H k=some (.box cs))(hkh:k∉hid)
  (hc:∀v:Value,v.oneCell'=true->(cs' v).length=cs.length/\(∀(j:Nat)(x:AV),(cs' v)[j]?=some x->x.one=true) /\
   ∀(j:Nat)(x x':AV),cs[j]?=some x->(cs' v)[j]?=some x'->(j=j0/\x'=.v v)\/Lent H hid x x')
  (hj:j0<cs.length)
  (hH:∀k z,lk H k=some z->k∈hid\/(∃cs,z=.box cs/\cs.all H2=true)\/∃vs,z=.vec vs/\∀v∈vs,∀kk z,v≠.int kk z) (hr:r.li=true) (h:∀v:Value,iM P f [.iptr (cs' v)] r):Con P f [.ptr k 0] H r H:=by
 refine⟨(h undef).ok,?_⟩;intro ext m w vs hext hheap hvs hrep;have hsz:0<vs.size:=by rw[hvs];exact Nat.one_pos
 have hr0:=hrep 0 vs[0] _ (Array.getElem?_eq_getElem hsz) rfl;have hb:=hheap.blk k _ hk;generalize hv0:vs[0]=v0 at hr0;cases hr0 with
 | @ptr _ _ _ b hmk =>
  rw[hmk]at hb;cases hb with
  | @box _ _ c t hw hn h1 hrr =>
   have hj0:j0<c.size:=by omega
   have hx0:=getElem?_eq_getElem (l:=cs) (i:=j0) oz;have hone:(c[j0]).oneCell'=true:=(hrr j0 _ _ (Array.getElem?_eq_getElem hj0) hx0).one (h1 j0 _ hx0);obtain⟨g1,g2,g3⟩:=hc c[j0] hone
   have hext':∀b,pu ext H hid m b->b<w.heap.size:=by
    rintro b (h9 |⟨k',z',_,h2,h3⟩)
    ·exact hext b h9
    ·exact(hheap.sep k' z' b h2 h3).2
   have hcall := (h c[j0]).ret (pu ext H hid m) m w vs hext' ⟨fun k z hz => by (cases hz), fun k k' x x' b hx => by (cases hx), fun k x b hx => by (cases hx)⟩ (by rw [hvs]; rfl) (by
    intro j v x hv hx
    match j,hx with
    |0,hx =>
     cases hx;rw[Array.getElem?_eq_getElem hsz,hv0]at hv;cases hv;refine .iptr (cs:=c) (fun j=>c.getD j undef) ⟨Dx hheap hk hmk hkh,wY,t,(0,0),hw⟩ g2 ?_ ?_
     ·intro j x hx;have hlt:j < c.size:=by rw [hn,<- g1]; exact (List.getElem?_eq_some_iff.1 hx).1
      rw[Nat.zero_add,getD_eq_getD_getElem?,Array.getElem?_eq_getElem hlt];rfl
     ·intro j x hx;have hlt:j < c.size:=by rw [hn,<- g1]; exact (List.getElem?_eq_some_iff.1 hx).1
      obtain⟨y,hy⟩:=iW g1 hx;have hcv:c[j]?=some (c.getD j undef):=by rw[getD_eq_getD_getElem?,Array.getElem?_eq_getElem hlt];rfl
      rcases g3 j y x hy hx with⟨rfl,rfl⟩ |hl
      ·have : c.getD j undef = c[j] := by rw [Array.getElem?_eq_getElem hlt] at hcv; exact (Option.some.inj hcv).symm
       rw[this];exact .v _
      ·exact hl.rep hheap (hrr j _ y hcv hy) dh)
   refine Calls.mono hcall ?_;rintro e w' ⟨v,m',rfl,hf,hh,hnew,hkeep,hres⟩;have hkeepB:∀b,b<w.heap.size->w'.heap[b]?=w.heap[b]? := fun b hb=>hf.keep b hb wY
   have hframe:Frame (bb H m) w w':=⟨hf.os,hf.tape,hf.output,hf.size,hf.sz,fun b hb _=>hkeepB b hb⟩
   have him:=fa (ext:=ext) hframe (hp':=H) (m':=m) (fun k x b hk hb=>.inl ⟨k,x,hk,hb⟩);refine⟨v,m,rfl,hframe,⟨?_,hheap.inj,?_⟩,fun k x b hk hb=>.inl ⟨k,x,hk,hb⟩,fun _ _ _ _ _=>rfl,?_⟩
   ·intro k z hz;exact BlkRep.mono (w:=w) him hf.sz (fun _ _ _ h=>h) rfl (fun b hb=>hkeepB b (hheap.sep k z b hz hb).2) (hheap.blk k z hz)
   ·intro k z b hz hb;have:=hheap.sep k z b hz hb;exact⟨this.1,lt_of_lt_of_le this.2 hf.size⟩
   ·refine L6 hr ?_ hres;rintro b2 cs2 o kk z ho ⟨g1,g2,t2,fl,g3⟩;refine⟨fun h9=>g1 (.inl h9),?_,t2,fl,g3⟩;rintro⟨k2,y,hk2,hb2⟩;have hlt:=fun b hb=>(hheap.sep k2 _ b hk2 hb).2
    have h3:=hheap.blk k2 _ hk2;rw[hb2]at h3;rcases hH k2 y hk2 with h9 |⟨cl,rfl,hcl⟩ |⟨vs2,rfl,hvl⟩
    ·exact g1 (.inr ⟨k2,y,h9,hk2,hb2⟩)
    ·cases h3 with
     | @box _ _ c2 t' hw2 hn2 h12 hrr2 =>
      have hcc:c2=cs2:=by
       rw[hkeepB b2 (hlt b2 hb2),hw2]at g3
       injection g3 with g3
       injection g3
      subst hcc;have ho':o<c2.size:=(Array.getElem?_eq_some_iff.1 ho).1;have hx:=getElem?_eq_getElem (l:=cl) (i:=o) oz;exact OV (List.all_eq_true.1 hcl _ (mem_of_getElem? hx)) (hrr2 o _ _ ho hx) kk z rfl
    ·cases h3 with
     | @vec _ _ c2 t' hw2 hc2 h12 =>
      have hcc:c2=cs2:=by
       rw[hkeepB b2 (hlt b2 hb2),hw2]at g3
       injection g3 with g3
       injection g3
      subst hcc;have:Value.int kk z∈vs2:=by rw[<- hc2];exact Array.mem_toList_iff.2 (Array.mem_of_getElem? ho)
      exact hvl _ this kk z rfl
end Go.Lw
namespace Go.Lw
open Go.Proofs
def bv(xs:List Bool):List Value:=xs.map .bool
theorem gz(xs:List Bool):(bv xs).length=xs.length:=length_map _
theorem xn(xs:List Bool)(n:Nat):(bv xs).set n (.bool true)=bv (xs.set n true):=by unfold bv;rw[map_set]
theorem x5(xs:List Bool):∀v∈bv xs,∀kk z,v≠.int kk z:=by
 intro v hv kk z;obtain⟨b,_,rfl⟩:=List.mem_map.1 hv;exact fun h=>by cases h
theorem wV(xs:List Bool):(bv xs).map AV.v=xs.map bl:=by unfold bv;rw[map_map];rfl
theorem By(n:Nat):List.replicate n (Value.bool false)=bv (List.replicate n false):=by unfold bv;rw[map_replicate]
theorem Tq(xs:List Int):(xs.map i64).all II=true:=by
 rw[all_eq_true];intro x hx;obtain⟨b,_,rfl⟩:=List.mem_map.1 hx;rfl
theorem U4(g:Gr)(b:Bool):(AV.tup [g.av,bl b]).li=true:=by
 simp only[AV.li,AV.lis,Gr.av,Tq];rfl
def oD(l:Li)(n:Nat):Blk:=.box (l.av.cells++[.ms 23 1 0 l.bo.length,.ms 27 1 0 l.bo.length,.ms 31 1 0 l.jo.length,.ms 900 4 0 n])
def nf(l:Li)(kw used:List Bool)(out:List Gr):Hp :=
  [(33,some (oD l out.length)),(23,some (.vec (bv kw))),(27,some (.vec (bv (b7 l)))),(31,some (.vec (bv used))),(900,some (.row 4 (out.map Gr.av)))]
theorem ym{xs:List Bool}{n:Nat}(h:xs.length=n):AV.lst 1 ((((bv xs).drop 0).take n).map .v)=.lst 1 (xs.map bl):=by
 rw[drop_zero,take_of_length_le (by rw[gz];omega),wV]
theorem HB(l:Li)(hl:l.ok)(hli:aO l=0)(kw used:List Bool)(hk:kw.length=l.bo.length)(hu:used.length=l.jo.length)(hm:l.bo.length<=a9/\l.jo.length<=a9)(out:List Gr) :
  Con prog 339 [.ptr 33 0] (nf l kw used out) (.tup [((nextG l kw).getD default).av,bl (nextG l kw).isSome]) (nf l kw used out):=by
 refine Con.lend (cs:=l.av.cells++[.ms 23 1 0 l.bo.length,.ms 27 1 0 l.bo.length,.ms 31 1 0 l.jo.length,.ms 900 4 0 out.length])
  (cs':=fun v=>dO l kw (b7 l) [.lst 1 (used.map bl),.v v]) [900] 7 rfl (by decide) ?_ (by simp[Li.av,AV.cells]) ?_ (U4 _ _) (fun v=>U1 l hl hli kw hk _)
 ·intro v hv;refine⟨rfl,?_,?_⟩
  ·intro j x hx
   match j,hx with
   |0,hx=>cases hx;rfl
   |1,hx=>cases hx;rfl
   |2,hx=>cases hx;rfl
   |3,hx=>cases hx;rfl
   |4,hx=>cases hx;rfl
   |5,hx=>cases hx;rfl
   |6,hx=>cases hx;rfl
   |7,hx=>cases hx;exact hv
   |j+8,hx=>cases hx
  ·intro j x x' hx hx'
   match j,hx,hx' with
   |0,hx,hx'=>cases hx;cases hx';exact .inr (.same rfl)
   |1,hx,hx'=>cases hx;cases hx';exact .inr (.same rfl)
   |2,hx,hx'=>cases hx;cases hx';exact .inr (.same rfl)
   |3,hx,hx'=>cases hx;cases hx';exact .inr (.same rfl)
   |4,hx,hx' =>
    cases hx;cases hx'
    have h:=Lent.ms (H:=nf l kw used out) (hid:=[900]) (k:=23) (off:=0) (len:=l.bo.length) (vs:=bv kw) rfl (by decide) (by rw[gz];omega) (by rw[gz];omega);rw[ym hk]at h;exact .inr h
   |5,hx,hx' =>
    cases hx;cases hx'
    have h:=Lent.ms (H:=nf l kw used out) (hid:=[900]) (k:=27) (off:=0) (len:=l.bo.length) (vs:=bv (b7 l)) rfl (by decide) (by rw[gz,ul];omega) (by rw[gz,ul];omega);rw[ym (ul l)]at h;exact .inr h
   |6,hx,hx' =>
    cases hx;cases hx'
    have h:=Lent.ms (H:=nf l kw used out) (hid:=[900]) (k:=31) (off:=0) (len:=l.jo.length) (vs:=bv used) rfl (by decide) (by rw[gz];omega) (by rw[gz];omega);rw[ym hu]at h;exact .inr h
   |7,hx,hx'=>cases hx;cases hx';exact .inl ⟨rfl,rfl⟩
   |j+8,hx,hx'=>cases hx
 ·intro k z hz;simp only[nf,aU]at hz;split at hz
  ·cases hz;exact .inr (.inl ⟨_,rfl,rfl⟩)
  split at hz
  ·cases hz;exact .inr (.inr ⟨_,rfl,x5 _⟩)
  split at hz
  ·cases hz;exact .inr (.inr ⟨_,rfl,x5 _⟩)
  split at hz
  ·cases hz;exact .inr (.inr ⟨_,rfl,x5 _⟩)
  split at hz
  ·subst_vars;exact .inl (by decide)
  ·cases hz
def pS(l:Li):AV:=if aO l=0 then .iptr (dO l (cJ l) (b7 l) [.lst 1 ((fg l).map bl),.lst 4 ((findG l).map Gr.av)])else .v (.pointer none)
def jq(l:Li)(out:List Gr):List Bool:=out.foldl (fun k g=>bU k g.jo) (List.replicate l.jo.length false)
theorem xY(l:Li)(out:List Gr):(jq l out).length=l.jo.length:=by unfold jq;rw[qk,length_replicate]
theorem Re(l:Li)(out:List Gr)(g:Gr):jq l (out++[g])=bU (jq l out) g.jo:=by unfold jq;rw[List.foldl_append];rfl
theorem xM{k:List Bool}{bs:List Int}{i:Nat}{b:Int}(h:bs[i]?=some b):bU k (bs.take (i+1))=(bU k (bs.take i)).set b.toNat true:=by
 unfold bU;rw[d9 h,List.foldl_append];rfl
theorem Um{l:Li}(hli:aO l=0){kw:List Bool}{out:List Gr}{g:Gr}(hk:kw.length=l.bo.length)(h:findFrom l (dL kw) kw out=(cJ l,findG l))(hg:nextG l kw=some g) :
  findFrom l (dL (bU kw g.bo)) (bU kw g.bo) (out++[g])=(cJ l,findG l):=by
 have hlt:=tJ hli hk hg;obtain⟨n,hn⟩:∃n,dL kw=n+1:=⟨dL kw-1,by omega⟩
 rw[hn]at h;unfold findFrom at h;rw[hg]at h;rw[<- h];exact Al hli _ _ _ _ (by rw[kQ];exact hk) (le_refl _) oz
theorem Og{l:Li}{kw:List Bool}{out:List Gr}(h:findFrom l (dL kw) kw out=(cJ l,findG l))(hg:nextG l kw=none):kw=cJ l/\out=findG l:=by
 cases hn:dL kw with
 |zero=>rw[hn]at h;exact⟨(Prod.mk.inj h).1,(Prod.mk.inj h).2⟩
 |succ n=>rw[hn]at h;unfold findFrom at h;rw[hg]at h;exact⟨(Prod.mk.inj h).1,(Prod.mk.inj h).2⟩
theorem L2{n:Nat}:dL (dg n 0)<=n:=by
 unfold dL;exact le_trans List.countP_le_length (Nat.le_of_eq (jl _ _))
theorem I4{l:Li}(hli:aO l=0):findFrom l (dL (dg l.bo.length 0)) (dg l.bo.length 0) []=(cJ l,findG l):=by
 rw[<- Ni];exact Al hli _ _ _ _ (jl _ _) (le_refl _) L2
theorem Pv{l:Li}(hli:aO l=0){kw:List Bool}{out:List Gr}(hk:kw.length=l.bo.length)(h:findFrom l (dL kw) kw out=(cJ l,findG l)):out.length<=8:=by
 obtain⟨gs,e⟩:=xB (l:=l) (dL kw) kw out;rw[e]at h;have h1:=(tc hli).2;have h2:out++gs=findG l:=(Prod.mk.inj h).2;rw[<- h2,length_append]at h1;omega
theorem SB(l:Li)(kw used:List Bool)(out:List Gr)(hk:kw.length=l.bo.length)(hu:used.length=l.jo.length)(hm:l.bo.length<=a9/\l.jo.length<=a9) :
  Wk ⟨[(5,some (.ptr 33 0))],nf l kw used out⟩ ⟨[(5,some (.iptr (dO l kw (b7 l) [.lst 1 (used.map bl),.lst 4 (out.map Gr.av)])))],[]⟩:=by
 have hd:=ul l;have q1:.ms 23 1 0 l.bo.length=AV.ms 23 1 0 ((bv kw).map AV.v).length:=by rw[length_map,gz,hk]
 refine(Wk.of (sl:=[(5,some (.ptr 33 0))]) (hp:=[(33,some (oD l out.length)),(23,some (.row 1 ((bv kw).map .v))),(27,some (.row 1 ((bv (b7 l)).map .v))),(31,some (.row 1 ((bv used).map .v))),(900,some (.row 4 (out.map Gr.av)))])
  (.k .nil) (.k (.cons rfl (.vecRow (by rw[gz];omega)) (.cons rfl (.vecRow (by rw[gz];omega)) (.cons rfl (.vecRow (by rw[gz];omega)) (.k .nil)))))).trans ?_
 refine(Wk.freeze (k:=23) rfl).trans ?_
 refine(Wk.of (sl:=[(5,some (.ptr 33 0))]) (hp:=[(33,some (.box (l.av.cells++[.lst 1 (kw.map bl),.ms 27 1 0 l.bo.length,.ms 31 1 0 l.jo.length,.ms 900 4 0 out.length]))),(27,some (.row 1 ((bv (b7 l)).map .v))),(31,some (.row 1 ((bv used).map .v))),(900,some (.row 4 (out.map Gr.av)))])
  (.k .nil) (.cons rfl (BlkSub.bL (.cons (.refl _) (.cons (.refl _) (.cons (.refl _) (.cons (.refl _) (.cons (.of ((cw (by rw[length_map,gz,hk])).trans (by rw[wV]))) (.cons (.refl _) (.cons (.refl _) (.cons (.refl _) .nil)))))))) rfl) (.k (.k (.k .nil))))).trans ?_
 refine(Wk.freeze (k:=27) rfl).trans ?_
 refine(Wk.of (sl:=[(5,some (.ptr 33 0))]) (hp:=[(33,some (.box (l.av.cells++[.lst 1 (kw.map bl),.lst 1 ((b7 l).map bl),.ms 31 1 0 l.jo.length,.ms 900 4 0 out.length]))),(31,some (.row 1 ((bv used).map .v))),(900,some (.row 4 (out.map Gr.av)))])
  (.k .nil) (.cons rfl (BlkSub.bL (.cons (.refl _) (.cons (.refl _) (.cons (.refl _) (.cons (.refl _) (.cons (.refl _) (.cons (.of ((cw (by rw[length_map,gz,hd])).trans (by rw[wV]))) (.cons (.refl _) (.cons (.refl _) .nil)))))))) rfl) (.k (.k .nil)))).trans ?_
 refine(Wk.freeze (k:=31) rfl).trans ?_
 refine(Wk.of (sl:=[(5,some (.ptr 33 0))]) (hp:=[(33,some (.box (l.av.cells++[.lst 1 (kw.map bl),.lst 1 ((b7 l).map bl),.lst 1 (used.map bl),.ms 900 4 0 out.length]))),(900,some (.row 4 (out.map Gr.av)))])
  (.k .nil) (.cons rfl (BlkSub.bL (.cons (.refl _) (.cons (.refl _) (.cons (.refl _) (.cons (.refl _) (.cons (.refl _) (.cons (.refl _) (.cons (.of ((cw (by rw[length_map,gz,hu])).trans (by rw[wV]))) (.cons (.refl _) .nil)))))))) rfl) (.k .nil))).trans ?_
 refine(Wk.freeze (k:=900) rfl).trans ?_
 refine(Wk.of (sl:=[(5,some (.ptr 33 0))]) (hp:=[(33,some (.box (dO l kw (b7 l) [.lst 1 (used.map bl),.lst 4 (out.map Gr.av)])))])
  (.k .nil) (.cons rfl (BlkSub.bL (.cons (.refl _) (.cons (.refl _) (.cons (.refl _) (.cons (.refl _) (.cons (.refl _) (.cons (.refl _) (.cons (.refl _) (.cons (.of (cw (by rw[length_map]))) .nil)))))))) rfl) .nil)).trans ?_
 refine(Wk.freezeB (k:=33) rfl rfl).trans ?_;exact Wk.of (.k .nil) .nil
theorem JO(l:Li)(hl:l.ok):FP 250 [l.av] (.tup [pS l,cg (aO l)]):=by
 refine aj func250 ?_;refine gc (FV l hl) ?_;refine gC (fun t17=>?_) (fun t17=>?_)
 ·have h1:=fp t17;refine bF ?_;unfold pS;rw[if_neg h1]
 have hli:=eM t17;have h8:=(dY hli).2.2.2.1;have h0:=(dY hli).2.2.2.2;have hj16:l.jo.length<=16:=by have:=(dY hli).2.1;unfold eU at this;split at this;cases this;omega
 have hld:=hl.ld;have hm:l.bo.length<=a9/\l.jo.length<=a9:=by unfold a9;omega
 refine gl ?_;refine gs (AU (.tmp rfl) T219 rfl T4 rfl rfl rfl rfl (by dsimp only;omega) rfl) ?_;refine gl ?_;refine gs (AU (.tmp rfl) T219 rfl T4 rfl rfl rfl rfl (by dsimp only;omega) rfl) ?_;refine gl ?_;refine gs (AU (.tmp rfl) T219 rfl T4 rfl rfl rfl rfl (by dsimp only;omega) rfl) ?_;refine gD ?_;refine gs (b8 (n:=0) (.tmp rfl) (.const _) T219 rfl T4 rfl rfl oz rfl) ?_;refine gs (u6 (.tmp rfl) rfl (by rw[length_replicate];omega) (.const _) rfl T4 rfl) ?_ (6,0);refine gW (Wk.of (sl:=[(1,some (.ptr 1 0)),(5,some (.ptr 33 0))]) (hp:=[(1,some (.box l.av.cells)),(33,some (.box (l.av.cells++[.ms 23 1 0 l.bo.length,.ms 27 1 0 l.bo.length,.ms 31 1 0 l.jo.length,nS]))),(23,some (.vec (bv (dg l.bo.length 0)))),(27,some (.vec (bv (List.replicate l.bo.length false)))),(31,some (.vec (bv (List.replicate l.jo.length false))))]) bj (.k (.k (.cons rfl (BlkSub.of (by rw[By,xn];rfl)) (.cons rfl (BlkSub.of (by rw[By])) (.cons rfl (BlkSub.of (by rw[By])) .nil)))))) ?_
 refine gl ?_;refine a5 [1,5,40,41] [1,23,31] (fun(i:Nat)=>[(42,some (i64 i))]) (fun i=>[(33,some (.box (l.av.cells++[.ms 23 1 0 l.bo.length,.ms 27 1 0 l.bo.length,.ms 31 1 0 l.jo.length,nS]))),(27,some (.vec (bv (bU (List.replicate l.bo.length false) ((l.dv.map Dr.body).take i)))))]) (fun i=>i<=l.dv.length) (fun i=>l.dv.length-i) 0 (zero_le _) ?_;rintro i hi K1 J1;refine gC (fun t43=>?_) (fun t43=>?_) (st2:=(11,0))
 ·have hin:=bn t43;obtain⟨d,hd⟩:=aG hin;have hb:=dz (lQ hli hd);have hmt:=xM (k:=List.replicate l.bo.length false) (bs:=l.dv.map Dr.body) (i:=i) (b:=d.body) (by rw[getElem?_map,hd];rfl);refine gi (aN hd) ?_;refine gs (b8 (n:=d.body.toNat) (.tmp rfl) (.tmp rfl) T219 rfl T4 rfl oz oz rfl) ?_;refine gs (u6 (.tmp rfl) rfl (by rw[gz,kQ,length_replicate];omega) (.const _) rfl T4 rfl) ?_;refine gD ?_;refine ga aW ?_;exact aT J1 (i+1) hin (hw:=Wk.of bj (.k (.cons rfl (BlkSub.of (by rw[xn,hmt])) (.k (.k (.k .nil))))))
 have hin:=bE hi t43;have hall:bU (List.replicate l.bo.length false) ((l.dv.map Dr.body).take i)=b7 l:=by rw[hin];unfold b7;rw[take_of_length_le (by rw[length_map];omega)]
 refine gW ((Wk.virt 900 4 rfl).trans<|Wk.of (sl:=[(1,some (.ptr 1 0)),(5,some (.ptr 33 0))]) (hp:=[(33,some (oD l 0)),(23,some (.vec (bv (dg l.bo.length 0)))),(27,some (.vec (bv (b7 l)))),(31,some (.vec (bv (List.replicate l.jo.length false)))),(900,some (.row 4 []))]) bj (.cons rfl (BlkSub.bL (.cons (.refl _) (.cons (.refl _) (.cons (.refl _) (.cons (.refl _) (.cons (.refl _) (.cons (.refl _) (.cons (.refl _) (.cons (Sub.nM _ _ _) .nil)))))))) rfl) (.k (.cons rfl (BlkSub.of (by rw[hall])) (.k (.k .nil)))))) ?_
 refine gt (aJ (HB l hl hli (dg l.bo.length 0) (List.replicate l.jo.length false) (jl _ _) length_replicate hm []) (cZ rfl) (fun k z h=>h) rfl rfl) ?_;refine hO [5,8] [] (fun(kw:List Bool)(out:List Gr)=>[(9,some (bl (nextG l kw).isSome))]) (fun kw out=>[(8,some (.box ((nextG l kw).getD default).av.cells)),(33,some (oD l out.length)),(23,some (.vec (bv kw))),(27,some (.vec (bv (b7 l)))),(31,some (.vec (bv (jq l out)))),(900,some (.row 4 (out.map Gr.av)))]) (fun kw out=>kw.length=l.bo.length/\findFrom l (dL kw) kw out=(cJ l,findG l)) (fun kw _=>dL kw) (dg l.bo.length 0) ([]) ⟨jl _ _,I4 hli⟩ ?_
 rintro kw out ⟨hk,hf⟩ K2 J2;refine gC (fun t59=>?_) (fun t59=>?_) (st1:=(77777,0)) (st2:=(27,0))
 ·obtain ⟨g, hg⟩:=Bq t59;have hgo:=Bp hli hg;have hout:=Pv hli hk hf;refine gW (Wk.of (sl:=[(5,some (.ptr 33 0)),(8,some (.ptr 8 0))]) (hp:=[(8,some (.box g.av.cells)),(33,some (oD l out.length)),(23,some (.vec (bv kw))),(27,some (.vec (bv (b7 l)))),(31,some (.vec (bv (jq l out)))),(900,some (.row 4 (out.map Gr.av)))]) bj (.cons rfl (BlkSub.of (by rw [hg]; rfl)) (.k (.k (.k (.k (.k .nil))))))) ?_;refine gl ?_;refine a5 [5,8,66,67] [8,33,27,31,900] (fun (j:Nat)=>[(68,some (i64 j))]) (fun j=>[(23,some (.vec (bv (bU kw (g.bo.take j)))))]) (fun j=>j <= g.bo.length) (fun j=>g.bo.length - j) 0 (zero_le _) ?_;rintro j hj K3 J3;refine gC (fun t69=>?_) (fun t69=>?_)
  ·have hin:=bn t69;obtain⟨b,hb⟩:=aG hin;have hbb:=hgo.b b (mem_of_getElem? hb);have hlb:=hgo.lb;refine gi (aN hb) ?_;refine gs (b8 (n:=b.toNat) (.tmp rfl) (.tmp rfl) T219 rfl T4 rfl oz oz rfl) ?_;refine gs (u6 (.tmp rfl) rfl (by rw[gz,kQ];omega) (.const _) rfl T4 rfl) ?_;refine ga aW ?_;exact aT J3 (j+1) hin (hw:=Wk.of bj (.cons rfl (BlkSub.of (by rw[xn,xM hb])) (.k (.k (.k (.k (.k .nil)))))))
  have hin:=bE hj t69;subst hin;refine gl ?_;refine a5 [5,8,80,81] [8,33,27,900] (fun(q:Nat)=>[(82,some (i64 q))]) (fun q=>[(23,some (.vec (bv (bU kw g.bo)))),(31,some (.vec (bv (bU (jq l out) (g.jo.take q)))))]) (fun q=>q<=g.jo.length) (fun q=>g.jo.length-q) 0 (zero_le _) ?_ (h2:=(.cons rfl (BlkSub.of (by rw[take_length])) (.k .nil)));rintro q hq K4 J4;refine gC (fun t83=>?_) (fun t83=>?_)
  ·have hin:=bn t83;obtain⟨b,hb⟩:=aG hin;have hbb:=hgo.j b (mem_of_getElem? hb);have hlj:=hgo.lj;refine gi (aN hb) ?_;refine gs (b8 (n:=b.toNat) (.tmp rfl) (.tmp rfl) T219 rfl T4 rfl oz oz rfl) ?_;refine gs (u6 (.tmp rfl) rfl (by rw[gz,kQ,xY];omega) (.const _) rfl T4 rfl) ?_;refine ga aW ?_;exact aT J4 (q+1) hin (hw:=Wk.of bj (.k (.cons rfl (BlkSub.of (by rw[xn,xM hb])) (.k (.k (.k (.k .nil)))))))
  have hin:=bE hq t83;subst hin;refine gs (da (.tmp rfl) rfl (by rw[length_map]) (.tmp rfl) T32 rfl T53 rfl rfl (by simp only[length_cons,length_nil];omega) rfl rfl) ?_;refine gD ?_ (25,0);refine gW (Wk.of (sl:=[(5,some (.ptr 33 0)),(8,some (.ptr 8 0))]) (hp:=[(8,some (.box g.av.cells)),(33,some (.box (l.av.cells++[.ms 23 1 0 l.bo.length,.ms 27 1 0 l.bo.length,.ms 31 1 0 l.jo.length,.ms 100 4 0 (out++[g]).length]))),(100,some (.row 4 ((out++[g]).map Gr.av))),(23,some (.vec (bv (bU kw g.bo)))),(27,some (.vec (bv (b7 l)))),(31,some (.vec (bv (jq l (out++[g])))))]) bj (.k (.cons rfl (BlkSub.of (by rw[length_append];rfl)) (.cons rfl (BlkSub.of (by rw[map_append];rfl)) (.k (.k (.cons rfl (BlkSub.of (by rw[Re,take_length])) .nil))))))) ?_ (25,0)
  refine gW (Wk.rk (k:=100) (d:=900) rfl rfl) ?_ (26,0);refine gW (Wk.o (sl:=[(5,some (.ptr 33 0)),(103,some (g.av))]) (hp:=[(33,some (oD l (out++[g]).length)),(23,some (.vec (bv (bU kw g.bo)))),(27,some (.vec (bv (b7 l)))),(31,some (.vec (bv (jq l (out++[g]))))),(900,some (.row 4 ((out++[g]).map Gr.av)))])) ?_;refine gt (aJ (HB l hl hli (bU kw g.bo) (jq l (out++[g])) (by rw[kQ];exact hk) (xY _ _) hm (out++[g])) (cZ rfl) (by intro k z h;simp only[nf,aU]at h;split at h;(subst_vars;exact h);split at h;(subst_vars;exact h);split at h;(subst_vars;exact h);split at h;(subst_vars;exact h);split at h;(subst_vars;exact h);cases h) rfl rfl) ?_;exact gT J2 (bU kw g.bo) (out++[g]) ⟨by rw[kQ];exact hk,Um hli hk hf hg⟩ (tJ hli hk hg)
 have hg:=x6 t59;obtain⟨e1,e2⟩:=Og hf hg;subst e1 e2;refine gW (Wk.o (sl:=[(5,some (.ptr 33 0))]) (hp:=[(33,some (oD l (findG l).length)),(23,some (.vec (bv (cJ l)))),(27,some (.vec (bv (b7 l)))),(31,some (.vec (bv (jq l (findG l))))),(900,some (.row 4 ((findG l).map Gr.av)))])) ?_ (27,0);refine gW (SB l (cJ l) (jq l (findG l)) (findG l) hk (xY _ _) hm) ?_;refine bF ?_;unfold pS;rw[if_pos hli,hli];rfl
theorem BE{α:Type}[BEq α][LawfulBEq α]{xs:List α}{b:α}{ok:Nat->Bool}(h:∀i x,xs[i]?=some x->ok i=!(b==x)):decide (0<=mW (dI xs.length ok))=xs.contains b:=by
 cases hf:dI xs.length ok with
 |some i =>
  obtain⟨h1,h2⟩:=iu hf;obtain⟨x,hx⟩:=aG h1;rw[h i x hx]at h2;have:b=x:=by simpa using h2
  subst this;rw[List.contains_iff_mem.2 (mem_of_getElem? hx)];exact decide_eq_true (by show(0:Int)<=(i:Int);omega)
 |none =>
  rw[decide_eq_false (by show ¬(0:Int) <= -1;decide)]
  symm
  rw[<- Bool.not_eq_true,List.contains_iff_mem];intro hm;obtain⟨i,hi⟩:=List.mem_iff_getElem?.1 hm;have hlt:=(List.getElem?_eq_some_iff.1 hi).1;unfold dI at hf;rw[List.find?_eq_none]at hf;have:=hf i (List.mem_range.2 hlt);rw[h i b hi]at this;simp at this
theorem Tu(xs:List Bool)(b:Bool)(hl:xs.length<=281474976710656):FP 340 [.lst 1 (xs.map bl),bl b] (i64 (mW (dI xs.length (fun i=>!(b==xs.getD i false))))):=by
 refine aj func340 ?_;refine gl ?_;refine a5 [0,1,7] [] (fun(i:Nat)=>[(8,some (i64 i))]) (fun _=>[]) (fun i=>i<=xs.length/\∀j,j<i->(!(b==xs.getD j false))=true) (fun i=>xs.length-i) 0 ⟨zero_le _,fun j h=>by omega⟩ ?_;rintro i ⟨hi,hj⟩ K1 J1;refine gC (fun t9=>?_) (fun t9=>?_)
 ·have hin:=bn t9;obtain⟨x,hx⟩:=aG hin;have hg:xs.getD i false=x:=ao hx;refine gi (aN hx) ?_;refine gC (fun t16=>?_) (fun t16=>?_)
  ·have h2:(b==x)=true:=t16;refine af ?_;rw[ja hin hj (by rw[hg,h2];rfl)];rfl
  have h2:(b==x)=false:=t16;refine ga aW ?_;exact aT J1 (i+1) ⟨hin,fun j h9=>by rcases lt_or_ge j i with g |g;exact hj j g;(have:j=i:=by omega);subst this;rw[hg,h2];rfl⟩
 have hin:=bE hi t9;subst hin;refine af ?_;rw[jc hj];rfl
theorem CA(xs:List Bool)(b:Bool)(hl:xs.length<=281474976710656):FP 251 [.lst 1 (xs.map bl),bl b] (bl (xs.contains b)):=by
 refine aj func251 ?_;refine gc (Tu xs b hl) ?_;refine af ?_;rw[<- BE (xs:=xs) (b:=b) (ok:=fun i=>!(b==xs.getD i false)) (fun i x hx=>by rw[ao hx])];rfl
theorem Q5(xs:List Int)(b:Int)(hl:xs.length<=281474976710656):FP 341 [.lst 1 (xs.map i64),i64 b] (i64 (mW (dI xs.length (fun i=>!(b==xs.getD i 0))))):=by
 refine aj func341 ?_;refine gl ?_;refine a5 [0,1,7] [] (fun(i:Nat)=>[(8,some (i64 i))]) (fun _=>[]) (fun i=>i<=xs.length/\∀j,j<i->(!(b==xs.getD j 0))=true) (fun i=>xs.length-i) 0 ⟨zero_le _,fun j h=>by omega⟩ ?_;rintro i ⟨hi,hj⟩ K1 J1;refine gC (fun t9=>?_) (fun t9=>?_)
 ·have hin:=bn t9;obtain⟨x,hx⟩:=aG hin;have hg:xs.getD i 0=x:=ao hx;refine gi (aN hx) ?_;refine gC (fun t16=>?_) (fun t16=>?_)
  ·have h2:(b==x)=true:=t16;refine af ?_;rw[ja hin hj (by rw[hg,h2];rfl)];rfl
  have h2:(b==x)=false:=t16;refine ga aW ?_;exact aT J1 (i+1) ⟨hin,fun j h9=>by rcases lt_or_ge j i with g |g;exact hj j g;(have:j=i:=by omega);subst this;rw[hg,h2];rfl⟩
 have hin:=bE hi t9;subst hin;refine af ?_;rw[jc hj];rfl
theorem IQ(xs:List Int)(b:Int)(hl:xs.length<=281474976710656):FP 253 [.lst 1 (xs.map i64),i64 b] (bl (xs.contains b)):=by
 refine aj func253 ?_;refine gc (Q5 xs b hl) ?_;refine af ?_;rw[<- BE (xs:=xs) (b:=b) (ok:=fun i=>!(b==xs.getD i 0)) (fun i x hx=>by rw[ao hx])];rfl
theorem Sc(l:Li)(hl:l.ok):FP 143 [l.av] (.tup [.lst 4 (((if aO l=0 then splitG l else[])).map Gr.av),cg (if aO l=0 then splitE l else aO l)]):=by
 refine aj func143 ?_;refine gc (JO l hl) (hnm:=(by unfold pS;split <;> rfl)) ?_;refine gC (fun t12=>?_) (fun t12=>?_) (st2:=(77777,0))
 ·have h1:=fp t12;refine gR ?_;exact ef (by rw[if_neg h1,if_neg h1];exact Sub.tup (.cons (.nil _ _ _) (.cons (.refl _) .nil)))
 have hli:=eM t12;have h8:=(dY hli).2.2.2.1;have hj16:l.jo.length<=16:=by have:=(dY hli).2.1;unfold eU at this;split at this;cases this;omega
 have lk1:(cJ l).length=l.bo.length:=by unfold cJ;rw[qk,jl]
 have lk2:(fg l).length=l.jo.length:=by unfold fg;rw[qk,length_replicate]
 have e1:pS l=.iptr (dO l (cJ l) (b7 l) [.lst 1 ((fg l).map bl),.lst 4 ((findG l).map Gr.av)]):=by unfold pS;rw[if_pos hli]
 have c1:=H4 (k:=cJ l);have c2:=H4 (k:=fg l);refine gW (Wk.of (sl:=[(4,some (.iptr (dO l (cJ l) (b7 l) [.lst 1 ((fg l).map bl),.lst 4 ((findG l).map Gr.av)]))),(5,some (cg (aO l)))]) (hp:=[]) (.cons rfl (Sub.of e1) (.k .nil)) .nil) ?_;refine gc (CA (cJ l) false oz) ?_;refine bT (fun _=>(CA (fg l) false oz)) ?_;refine gC (fun t25=>?_) (fun t25=>?_)
 ·have h2:splitE l=7:=by
   unfold splitE;rw[if_neg];intro h;have h3:(cJ l).contains false=false:=c1.1 oz;have h4:(fg l).contains false=false:=c2.1 oz;rw[h3,h4]at t25;cases t25
  refine gR ?_;exact ef (by rw[if_pos hli,if_pos hli];unfold splitG;rw[if_neg (by rw[h2];simp),h2];exact Sub.tup (.cons (.nil _ _ _) (.cons (.refl _) .nil)))
 have h2:splitE l=0:=by
  unfold splitE;rw[if_pos];cases h3:(cJ l).contains false <;> cases h4:(fg l).contains false <;> rw[h3,h4]at t25 <;> first |(cases t25;done) |(have g1:=c1.2 h3;have g2:=c2.2 h4;omega)
 refine bF ?_;rw[if_pos hli,if_pos hli,h2];unfold splitG;rw[if_pos h2];rfl
def SO(ys:List Int)(i:Nat):Prop:=∀p q,p<q->q<i->ys.getD p 0<=ys.getD q 0
def SI(ys:List Int)(i j:Nat):Prop:=∀p q,p<q->q<=i->q≠j->ys.getD p 0<=ys.getD q 0
theorem Pr{xs ys:List Int}{i:Nat}(hp:ys.Perm xs)(hi:ys.length<=i)(h:SO ys i):ys=eI xs:=by
 refine SU hp (List.pairwise_iff_getElem.2 fun p q hp hq hpq=>?_);have h1:=h p q hpq oz;rw[ao (getElem?_eq_getElem hp),ao (getElem?_eq_getElem hq)]at h1;exact h1
theorem UW{ys:List Int}{i:Nat}(h:SO ys i):SI ys i i:=fun p q h1 h2 h3=>h p q h1 oz
theorem QI{ys:List Int}{i j:Nat}(h:SI ys i j)(hj:j=0\/ys.getD (j-1) 0<=ys.getD j 0):SO ys (i+1):=by
 intro p q h1 h2
 by_cases hq:q=j
 ·subst hq;rcases hj with hj |hj
  ·omega
  ·by_cases hp:p=q-1
   ·subst hp;exact hj
   ·exact Int.le_trans (h p (q-1) oz oz oz) hj
 ·exact h p q h1 oz hq
theorem Ex(ys:List Int)(i:Nat)(x:Int)(p:Nat)(hi:i<ys.length):(ys.set i x).getD p 0=if p=i then x else ys.getD p 0:=by
 rw[getD_eq_getElem?_getD,getD_eq_getElem?_getD,List.getElem?_set]
 by_cases h:i=p
 ·subst h;simp[hi]
 ·rw[if_neg h,if_neg (fun e=>h e.symm)]
theorem Ob{ys:List Int}{i j:Nat}(h:SI ys i j)(hj:0<j)(hi:j<=i)(hl:i<ys.length)(hlt:ys.getD j 0<ys.getD (j-1) 0):SI ((ys.set j (ys.getD (j-1) 0)).set (j-1) (ys.getD j 0)) i (j-1):=by
 intro p q h1 h2 h3
 have e:∀r,((ys.set j (ys.getD (j-1) 0)).set (j-1) (ys.getD j 0)).getD r 0=if r=j-1 then ys.getD j 0 else if r=j then ys.getD (j-1) 0 else ys.getD r 0:=fun r=>by
  rw[Ex _ _ _ _ (by rw[length_set];omega),Ex _ _ _ _ oz]
 rw[e,e,if_neg h3]
 by_cases hq:q=j
 ·rw[if_pos hq]
  by_cases hp:p=j-1
  ·rw[if_pos hp];omega
  ·rw[if_neg hp,if_neg oz];exact h p (j-1) oz oz oz
 ·rw[if_neg hq]
  by_cases hp:p=j-1
  ·rw[if_pos hp];exact h j q oz h2 hq
  ·rw[if_neg hp]
   by_cases hp2:p=j
   ·rw[if_pos hp2];exact h (j-1) q oz h2 hq
   ·rw[if_neg hp2];exact h p q h1 h2 hq
theorem OM{ys:List Int}{j:Nat}{a b:Int}(ha:ys[j]?=some a)(hb:ys[j-1]?=some b):((ys.set j b).set (j-1) a).Perm ys:=by
 obtain⟨h1,rfl⟩:=List.getElem?_eq_some_iff.1 ha;obtain⟨h2,rfl⟩:=List.getElem?_eq_some_iff.1 hb;exact List.set_set_perm h1 h2
theorem TM{j:Nat}{a b:Int}(h:cond (ac .gtr (j:Int) 0) (decide (a<b)) false=true):0<j/\a<b:=by
 cases h1:ac .gtr (j:Int) 0 <;> rw[h1]at h
 ·cases h
 ·exact⟨jy (b:=0) h1,of_decide_eq_true h⟩
theorem OT{j:Nat}{a b:Int}(h:cond (ac .gtr (j:Int) 0) (decide (a<b)) false=false):j=0\/b<=a:=by
 cases h1:ac .gtr (j:Int) 0 <;> rw[h1]at h
 ·have:=j9 (b:=0) h1;omega
 ·have h2:decide (a<b)=false:=h;have:=of_decide_eq_false h2;omega
theorem SN(ys:List Int)(j:Nat)(a b:Int):((ys.map i64).set j (i64 b)).set (j-1) (i64 a)=((ys.set j b).set (j-1) a).map i64:=by rw[map_set,map_set]
theorem FE(a:Int):FP 384 [i64 a] (bl false):=by
 refine aj func384 ?_;refine af ?_;simp[ac];rfl
theorem Rb(a b:Int):FP 348 [i64 a,i64 b] (bl (decide (a<b))):=by
 refine aj func348 ?_;refine gc (FE a) ?_;refine bT (fun _=>(FE b)) ?_;refine af ?_
 first |rfl |(simp;done)
theorem LV(xs:List Int)(hl:xs.length<=12):Con prog 342 [.ms 1000 1 0 xs.length,i64 0,i64 xs.length] [(1000,some (.row 1 (xs.map i64)))] (.tup []) [(1000,some (.row 1 ((eI xs).map i64)))]:=by
 refine gF func342 (fun k z h=>bG h) ?_;refine ga (show _=((1:Nat):Int)from rfl) ?_;refine hO [1,2] [] (fun(ys:List Int)(i:Nat)=>[(0,some (.ms 1000 1 0 xs.length)),(6,some (i64 i))]) (fun ys _=>[(1000,some (.row 1 (ys.map i64)))]) (fun ys i=>ys.length=xs.length/\ys.Perm xs/\1<=i/\SO ys i) (fun _ i=>xs.length+1-i) xs 1 ⟨rfl,.refl _,le_refl _,fun p q h1 h2=>by omega⟩ ?_;rintro ys i ⟨hyl,hyp,hi1,hso⟩ K1 J1;refine gC (fun t12=>?_) (fun t12=>?_)
 ·have hin:=bn t12;refine hO [1,2,6] [] (fun (zs:List Int) (j:Nat)=>[(0,some (.ms 1000 1 0 xs.length)),(7,some (i64 j))]) (fun zs _=>[(1000,some (.row 1 (zs.map i64)))]) (fun zs j=>zs.length = xs.length /\ zs.Perm xs /\ j <= i /\ SI zs i j) (fun _ j=>j) ys i ⟨hyl,hyp,le_refl _,UW hso⟩ ?_;rintro zs j ⟨hzl,hzp,hji,hsi⟩ K2 J2;obtain ⟨a,ha⟩:=aG (show j < zs.length by omega);obtain ⟨b,hb⟩:=aG (show j - 1 < zs.length by omega);refine gs (eK rfl rfl rfl (fun h=>b8 (n:=j) (.opt rfl (o1 h)) (.opt rfl (o1 h)) T39 rfl T3 rfl oz oz rfl)) ?_;refine gs (eK rfl rfl rfl (fun h=>d8 (.opt rfl (o1 h)) rfl (aN ha) T3 rfl rfl rfl)) ?_;refine oa (fun h=>(jH (jy (b:=0) h) (by unfold a9; omega))) ?_;refine gs (eK rfl rfl rfl (fun h=>b8 (n:=(j - 1)) (.opt rfl (o1 h)) (.opt rfl (o1 h)) T39 rfl T3 rfl oz oz rfl)) ?_;refine gs (eK rfl rfl rfl (fun h=>d8 (.opt rfl (o1 h)) rfl (aN hb) T3 rfl rfl rfl)) ?_;refine bT (fun _=>(Rb a b)) ?_;refine gD ?_;refine gC (fun t30=>?_) (fun t30=>?_)
  ·obtain⟨hj0,hab⟩:=TM t30;refine ga (jH hj0 (by unfold a9;omega)) ?_;refine ga (jH hj0 (by unfold a9;omega)) ?_;refine gs (b8 (n:=(j-1)) (.tmp rfl) (.tmp rfl) T39 rfl T3 rfl oz oz rfl) ?_;refine gs (d8 (.tmp rfl) rfl (aN hb) T3 rfl rfl rfl) ?_;refine gs (b8 (n:=j) (.tmp rfl) (.tmp rfl) T39 rfl T3 rfl oz oz rfl) ?_;refine gs (d8 (.tmp rfl) rfl (aN ha) T3 rfl rfl rfl) ?_;refine gs (b8 (n:=j) (.tmp rfl) (.tmp rfl) T39 rfl T3 rfl oz oz rfl) ?_;refine gs (dF (.tmp rfl) rfl (aN ha) rfl (.tmp rfl) rfl rfl T3 rfl rfl) ?_;refine gs (b8 (n:=(j-1)) (.tmp rfl) (.tmp rfl) T39 rfl T3 rfl oz oz rfl) ?_;refine gs (dF (.tmp rfl) rfl ((List.getElem?_set_ne oz).trans (aN hb)) rfl (.tmp rfl) rfl rfl T3 rfl rfl) ?_;refine gD ?_;refine ga (jH hj0 (by unfold a9;omega)) ?_;exact gT J2 ((zs.set j b).set (j-1) a) (j-1) ⟨by rw[length_set,length_set];exact hzl,(OM ha hb).trans hzp,by omega,by have h9:=Ob hsi hj0 hji oz (by rw[ao ha,ao hb];exact hab);rw[ao ha,ao hb]at h9;exact h9⟩ (hw:=Wk.of bj (.cons rfl (BlkSub.of (congrArg (Blk.row 1) (SN zs j a b))) .nil))
  have hs:=OT t30;refine ga aW ?_;exact gT J1 zs (i+1) ⟨hzl,hzp,by omega,QI hsi (by rw[ao ha,ao hb];exact hs)⟩
 have hin:=q7 t12;refine gR ?_;exact aH.own2 rfl (by rw[<- Pr hyp oz hso]) rfl
theorem KY(xs:List Int)(hl:xs.length<=12)(m:Int):Con prog 254 [.ms 1000 1 0 xs.length,i64 0,i64 xs.length,i64 m] [(1000,some (.row 1 (xs.map i64)))] (.tup []) [(1000,some (.row 1 ((eI xs).map i64)))]:=by
 refine gF func254 (fun k z h=>bG h) ?_;refine LR [1,2,3,8,9] [1000] [(0,some (.ms 1000 1 0 xs.length))] [] (True) (0) trivial ?_;rintro-K1 J1;refine ga (dT oz) ?_;refine gC (fun t23=>?_) (fun t23=>?_) (st2:=(77777,0))
 ·refine gt (aJ (LV xs hl) (aL rfl rfl rfl) aM rfl rfl) ?_;refine gR ?_;exact aH.own2 rfl rfl rfl
 (rw[show ac .leq ((xs.length:Int)-0) 12=true from decide_eq_true oz]at t23;cases t23)
theorem Kl(x:Nat)(hx:x<256):FP 352 [u64 x] (i64 (bf x)):=by
 refine aj func352 ?_;refine gC (fun t4=>?_) (fun t4=>?_) (st1:=(2,0))
 ·(have:=t4;simp[ac]at this;omega)
 refine gC (fun t8=>?_) (fun t8=>?_) (st1:=(5,0))
 ·(have:=t8;simp[ac]at this;omega)
 refine gC (fun t14=>?_) (fun t14=>?_) (st1:=(8,0))
 ·(have:=t14;simp[ac]at this;omega)
 refine gv (jP hx) ?_;refine gs (sE (y:=x) (.const _) (.tmp rfl) T9 rfl (by kernel_rfl) (by first |rfl |omega) oz rfl) ?_;refine gv (i64_in (by have:=iV hx;omega)) ?_;refine ga (c9 (by have:=iV hx;omega)) ?_;refine af ?_;simp only[i64];congr 2;omega
theorem UM(x:Nat)(hx:x<256):FP 255 [u64 x] (i64 (bf x)):=by
 refine aj func255 ?_;refine gC (fun hcfalse=>?_) (fun hcfalse=>?_) (st1:=(1,0));cases hcfalse;refine gc (Kl x hx) ?_;refine af ?_
 first |rfl |(simp;done)
theorem Kp(xs:List Int)(hl:xs.length<=12):Con prog 146 [.ms 1000 1 0 xs.length] [(1000,some (.row 1 (xs.map i64)))] (.tup []) [(1000,some (.row 1 ((eI xs).map i64)))]:=by
 refine gF func146 (fun k z h=>bG h) ?_;refine gv (show IntKind.u64.wrap _=((xs.length:Nat):Int)from u64_in oz) ?_;refine gc (UM xs.length oz) ?_;refine gt (aJ (KY xs hl _) (.cons (.tmp rfl) (.cons (.const _) (bO rfl rfl))) aM rfl rfl) ?_;refine gR ?_;exact aH.own2 rfl rfl rfl
theorem OZ{l:Li}{g:Gr}{i:Nat}{z:Int}{j:Jt}(hz:g.jo[i]?=some z)(hj:l.jo[z.toNat]?=some j):(fJ l g)[i]?=some (jd g j):=by
 unfold fJ;rw[getElem?_map,hz,Option.map_some,ao hj]
theorem zZ{l:Li}{g:Gr}{i:Nat}{z:Int}{j:Jt}{a:Int}(hz:g.jo[i]?=some z)(hj:l.jo[z.toNat]?=some j)(ha:jd g j=a):((fJ l g).take i).map i64++[i64 a]=((fJ l g).take (i+1)).map i64:=by
 rw[d9 (OZ hz hj),ha,map_append];rfl
theorem S0{z:Int}{n:Nat}(h0:0<=z)(h1:z<n):cond (ac .lss z 0) true (ac .geq z (n:Int))=false:=by
 rw[show ac .lss z 0=false from decide_eq_false oz];exact decide_eq_false oz
theorem NM(l:Li)(hl:l.ok)(hli:aO l=0)(g:Gr)(hg:GrOk l g):Con prog 145 [l.av,g.av] [] (.tup [.ms 900 1 0 g.jo.length,.v .nilIface]) [(900,some (.row 1 ((fJ l g).map i64)))]:=by
 have hlb:=hg.lb;have hlj:=hg.lj;refine gF func145 (fun k z h=>by cases h) ?_;refine gc (FV l hl) ?_;refine gC (fun t16=>?_) (fun t16=>?_) (st1:=(3,0))
 ·(rw[hli]at t16;cases t16)
 refine gl ?_;refine gW ((Wk.virt 900 1 rfl).trans<|Wk.of (sl:=[(2,some (.ptr 2 0)),(3,some (.ptr 3 0)),(7,some (.ms 900 1 0 0)),(19,some (.lst 1 (g.jo.map i64))),(20,some (i64 g.jo.length)),(21,some (i64 0))]) (hp:=[(2,some (.box l.av.cells)),(3,some (.box g.av.cells)),(900,some (.row 1 []))]) (.k (.k (.cons rfl (Sub.nM _ _ _) (.k (.k (.k .nil)))))) (.k (.k (.k .nil)))) ?_;refine a5 [2,3,19,20] [2,3] (fun(i:Nat)=>[(7,some (.ms 900 1 0 i)),(21,some (i64 i))]) (fun i=>[(900,some (.row 1 (((fJ l g).take i).map i64)))]) (fun i=>i<=g.jo.length) (fun i=>g.jo.length-i) 0 (zero_le _) ?_;rintro i hi K1 J1;refine gC (fun t22=>?_) (fun t22=>?_) (st2:=(18,0))
 ·have hin:=bn t22;obtain ⟨z,hz⟩:=aG hin;obtain ⟨z0,z1⟩:=hg.j z (mem_of_getElem? hz);obtain ⟨j,hj⟩:∃ j,l.jo[z.toNat]? = some j:=aG oz;have hlt:(((fJ l g).take i).map i64).length = i:=by rw [length_map,length_take,re]; omega
  refine gi (aN hz) ?_;refine cO ?_;refine gC (fun t33=>?_) (fun t33=>?_) (st1:=(9,0))
  ·(rw[S0 z0 z1]at t33;cases t33)
  refine gi (f9 (n:=z.toNat) oz hj) ?_;refine gc (IQ g.bo j.a oz) ?_;refine gc (IQ g.bo j.b oz) ?_;refine gD ?_;refine gC (fun t55=>?_) (fun t55=>?_)
  ·have ha : jd g j = -1 := by unfold jd; cases h1 : g.bo.contains j.a <;> cases h2 : g.bo.contains j.b <;> rw [h1, h2] at t55 <;> first | (cases t55; done) | rfl
   refine gs (da (.tmp rfl) rfl hlt.symm (.tmp rfl) T39 rfl T3 rfl rfl (by simp only[length_cons,length_nil];omega) rfl rfl) ?_ (17,0);refine gW (Wk.of (sl:=[(2,some (.ptr 2 0)),(3,some (.ptr 3 0)),(7,some (.ms 62 1 0 (i+1))),(19,some (.lst 1 (g.jo.map i64))),(20,some (i64 g.jo.length)),(21,some (i64 i))]) (hp:=[(2,some (.box l.av.cells)),(3,some (.box g.av.cells)),(62,some (.row 1 (((fJ l g).take (i+1)).map i64)))]) bj (.k (.k (.cons rfl (BlkSub.of (congrArg (Blk.row 1) (zZ hz hj ha))) .nil)))) ?_ (17,0);refine gW (Wk.rk (k:=62) (d:=900) rfl rfl) ?_;refine ga aW ?_;exact aT J1 (i+1) hin
  refine gC (fun t63=>?_) (fun t63=>?_)
  ·have ha : jd g j = j.b := by unfold jd; cases h1 : g.bo.contains j.a <;> cases h2 : g.bo.contains j.b <;> rw [h1] at t63 <;> rw [h1, h2] at t55 <;> first | (cases t55; done) | (cases t63; done) | rfl
   refine gs (da (.tmp rfl) rfl hlt.symm (.tmp rfl) T39 rfl T3 rfl rfl (by simp only[length_cons,length_nil];omega) rfl rfl) ?_ (17,0);refine gW (Wk.of (sl:=[(2,some (.ptr 2 0)),(3,some (.ptr 3 0)),(7,some (.ms 69 1 0 (i+1))),(19,some (.lst 1 (g.jo.map i64))),(20,some (i64 g.jo.length)),(21,some (i64 i))]) (hp:=[(2,some (.box l.av.cells)),(3,some (.box g.av.cells)),(69,some (.row 1 (((fJ l g).take (i+1)).map i64)))]) bj (.k (.k (.cons rfl (BlkSub.of (congrArg (Blk.row 1) (zZ hz hj ha))) .nil)))) ?_ (17,0);refine gW (Wk.rk (k:=69) (d:=900) rfl rfl) ?_;refine ga aW ?_;exact aT J1 (i+1) hin
  have ha:jd g j=j.a:=by unfold jd;rw[if_neg (by rw[show g.bo.contains j.a=false from t63];simp)]
  refine gs (da (.tmp rfl) rfl hlt.symm (.tmp rfl) T39 rfl T3 rfl rfl (by simp only[length_cons,length_nil];omega) rfl rfl) ?_ (17,0);refine gW (Wk.of (sl:=[(2,some (.ptr 2 0)),(3,some (.ptr 3 0)),(7,some (.ms 54 1 0 (i+1))),(19,some (.lst 1 (g.jo.map i64))),(20,some (i64 g.jo.length)),(21,some (i64 i))]) (hp:=[(2,some (.box l.av.cells)),(3,some (.box g.av.cells)),(54,some (.row 1 (((fJ l g).take (i+1)).map i64)))]) bj (.k (.k (.cons rfl (BlkSub.of (congrArg (Blk.row 1) (zZ hz hj ha))) .nil)))) ?_ (17,0);refine gW (Wk.rk (k:=54) (d:=900) rfl rfl) ?_;refine ga aW ?_;exact aT J1 (i+1) hin
 have hin:=bE hi t22;subst hin;refine gW (Wk.of (sl:=[(7,some (.ms 900 1 0 g.jo.length))]) (hp:=[(900,some (.row 1 ((fJ l g).map i64)))]) bj (.cons rfl (BlkSub.of (by rw[take_of_length_le (by rw[re];exact le_refl _)])) .nil)) ?_;refine gR ?_;exact aH.keep (bu rfl)
section
variable{ts:LL}{u k:Nat}{a b a2 b2:List Rat}{x y x2 y2:Et ts}{w v w' v' w2 v2 w3 v3:Nat}
theorem xK(c:Ct ts u k)(h:w+v+(w'+v')<=10000):w*u+v*k+(w'*u+v'*k)+1<=lm ts.length:=by
 have h1:=G1 c (w:=w+w') (v:=v+v') (m:=10000) oz;have h2:=kZ ts.length;rw[wU];omega
theorem yr(c:Ct ts u k){R:Nat}(h:eB R ts.length<=k):2*(2500*1000000+2500*1000000+kB R ts.length)<=lm ts.length:=by
 have h1:=c.kk h;have h2:=kZ ts.length;omega
theorem ML [c : Ct ts u k] [ha : Zl ts u k a x w v] [hb : Zl ts u k b y w' v'] (h : w + v + (w' + v') <= 10000 := by decide) : FP 356 [aR ts, nA a, nA b] (.tup [nA (sX (x + y)), .v .nilIface]) := by
 obtain⟨R,tw,hk⟩:=c.ex;have h0:=xK c h;have h1:=yS tw ha.nm hb.nm oz;rw[ha.eq,hb.eq]at h1;exact h1
theorem B9 [c : Ct ts u k] [ha : Zl ts u k a x w v] [hb : Zl ts u k b y w' v'] (h : w + v + (w' + v') <= 10000 := by decide) : FP 176 [aR ts, nA a, nA b] (.tup [nA (sX (x - y)), .v .nilIface]) := by
 obtain⟨R,tw,hk⟩:=c.ex;have h0:=xK c h;have h1:=nP tw ha.nm hb.nm oz;rw[ha.eq,hb.eq]at h1;exact h1
theorem CR [c : Ct ts u k] [ha : Zl ts u k a x w v] [hb : Zl ts u k b y w' v'] (h : w + v + (w' + v') <= 10000 := by decide) : FP 127 [aR ts, nA a, nA b] (.tup [nA (sX (x * y)), .v .nilIface]) := by
 obtain⟨R,tw,hk⟩:=c.ex;have h0:=xK c h;have h1:=Be tw ha.nm hb.nm oz;rw[ha.eq,hb.eq]at h1;exact h1
theorem Fi [c : Ct ts u k] [ha : Zl ts u k a x w v] [hb : Zl ts u k b y w' v'] [ha2 : Zl ts u k a2 x2 w2 v2] [hb2 : Zl ts u k b2 y2 w3 v3] (h : w + v + (w' + v') + (w2 + v2 + (w3 + v3)) <= 2500 := by decide) :
  FP 80 [aR ts,aK a b,aK a2 b2] (.tup [nA (sX (dotE x y x2 y2)),.v .nilIface]):=by
 obtain⟨R,tw,hk⟩:=c.ex;have h0:=yr c hk;have h1:=Au (e:=2500*1000000) tw (ha.up c oz) (hb.up c oz) (ha2.up c oz) (hb2.up c oz) oz;rw[ha.eq,hb.eq,ha2.eq,hb2.eq]at h1;exact h1
def atXE(c s X:Et ts)(p q:Rat):Et ts:=(c*qE p-s*qE q)+X
def atYE(c s Y:Et ts)(p q:Rat):Et ts:=(s*qE p+c*qE q)+Y
instance Zu.atXE[c:Ct ts u k]{x y z:Et ts}{p q:Rat}{w1 v1 w2 v2 w3 v3 w4 w5:Nat}[Zu u k x w1 v1][Zu u k y w2 v2][Zu u k z w3 v3][Qz u p w4][Qz u q w5]:Zu u k (atXE x y z p q) (w1+w4+(w2+w5)+w3) (v1+0+1+(v2+0+1)+1+v3+1) :=
  (inferInstance:Zu u k ((x*Lw.qE p-y*Lw.qE q)+z) _ _)
instance Zu.atYE[c:Ct ts u k]{x y z:Et ts}{p q:Rat}{w1 v1 w2 v2 w3 v3 w4 w5:Nat}[Zu u k x w1 v1][Zu u k y w2 v2][Zu u k z w3 v3][Qz u p w4][Qz u q w5]:Zu u k (atYE x y z p q) (w2+w4+(w1+w5)+w3) (v2+0+1+(v1+0+1)+1+v3+1) :=
  (inferInstance:Zu u k ((y*Lw.qE p+x*Lw.qE q)+z) _ _)
end
abbrev Ul(l:Li)(g:Gr)(a:As):List AV:=[.v (.string l.name),.lst 2 (l.bo.map Bd.av),.lst 7 (l.jo.map Jt.av),.lst 2 (l.dv.map Dr.av),i64 g.kind,.lst 1 (g.bo.map i64),.lst 1 (g.jo.map i64),i64 g.driver,
  .lst 1 (a.rs.map nR),.lst 4 (a.bs.map Pl.av),.lst 1 (a.ms.map i64),.v .nilIface]
abbrev cm(l:Li)(g:Gr)(a:As):Blk:=.box (Ul l g a)
def GC(e:Nat):AV:=if e=0 then .ptr 900 0 else .v (.pointer none)
def FO(e:Nat)(l:Li)(g:Gr)(a:As):Hp:=if e=0 then[(900,some (cm l g a))]else[]
theorem oX{e:Nat}(h:e≠0):GC e=.v (.pointer none):=if_neg h
theorem oB{e:Nat}{l:Li}{g:Gr}{a:As}(h:e≠0):FO e l g a=[]:=if_neg h
theorem Ce(l:Li)(g:Gr):cM l g true=fJ l g++g.bo:=rfl
theorem Ch(l:Li)(g:Gr):cM l g false=fJ l g:=by unfold cM;simp
theorem Jz{rs:List (List Rt)}{b:Pl}{i:Nat}{x:List Rt}(h:bt rs=0)(hx:b.l[i]?=some x)(hb:∀y∈b.l.take i,bZ rs.length y=0)(hn:bZ rs.length x≠0):bi rs b.l=bZ rs.length x:=xg h hx hb hn
theorem LY{l:Li}{g:Gr}{a:As}{own:Bool}{j:Nat}{b:Int}(hb:(eI (cM l g own))[j]?=some b)(hj:∀c∈(eI (cM l g own)).take j,fZ a c=0)(hn:fZ a b≠0):fK ((eI (cM l g own)).map (fZ a))=fZ a b:=by
 have h1:eI (cM l g own)=(eI (cM l g own)).take j++b::(eI (cM l g own)).drop (j+1):=by
  obtain⟨hi,e⟩:=List.getElem?_eq_some_iff.1 hb;rw[<- e,<- List.drop_eq_getElem_cons hi,List.take_append_drop]
 generalize eI (cM l g own)=xs at *;rw[h1,map_append,vG _ _ (qi hj),map_cons,CJ,if_pos hn]
theorem D7(l:Li)(hl:l.ok)(k:Int)(a:As)(al:AB a)(own:Bool) :
  Con prog 63 [l.av,i64 k,a.av,bl own] [] (.tup [GC (eJ l k a own),cg (eJ l k a own)]) (FO (eJ l k a own) l (eH l k) a):=by
 have hbl:=al.bl;refine gF func63 (fun k z h=>by cases h) ?_;refine gc (Sc l hl) ?_;refine gC (fun t27=>?_) (fun t27=>?_)
 ·have h1:=fp t27;refine gR ?_;rw[Jq rfl h1,oX h1,oB h1];exact lM rfl
 have h1:=eM t27;obtain⟨hli,hsp⟩:=R9 h1;rw[show(if aO l=0 then splitG l else[])=splitG l from if_pos hli];have hbs:=(dY hli).2.2.2.1;have hgl:=(tc hli).2;have hsg:splitG l=findG l:=by unfold splitG;rw[if_pos hsp]
 refine cO ?_;refine gC (fun t36=>?_) (fun t36=>?_)
 ·have h2:=Vt t36;have he:eJ l k a own=9:=(ra hli).trans (K8 hsp h2);refine gR ?_;rw[he,oX (by decide),oB (by decide)];exact lM rfl
 have h2:=UZ t36;refine gl ?_;refine gl ?_;refine gC (fun t44=>?_) (fun t44=>?_)
 ·have h3:=S8 t44;have he:eJ l k a own=10:=(ra hli).trans (Mv hsp h2 h3);refine gR ?_;rw[he,oX (by decide),oB (by decide)];exact lM rfl
 have h3:=Pu t44;refine gc (r5 a.rs 400000000 al.tr) ?_;refine gC (fun t50=>?_) (fun t50=>?_)
 ·have h4:=fp t50;refine gR ?_;rw[(ra hli).trans (ND hsp h2 h3 h4),oX h4,oB h4];exact lM rfl
 have h4:=eM t50;obtain⟨i,rfl,hi⟩:=UB h2;obtain⟨g,hg⟩:=aG hi;obtain⟨hgd,hgo⟩:=nV hli (mem_of_getElem? hg);have hgA:eH l (i:Nat)=g:=ao hg;rw[hgA];have he5:eJ l (i:Nat) a own=fK ((eI (cM l g own)).map (fZ a)):=by rw[<- hgA];exact(ra hli).trans (FU hsp h2 h3 h4)
 have hnl:(cM l g own).length<=5:=I3 hgo;have hgb:=hgo.lb;have hgj:=hgo.lj;refine gi (aN hg) ?_;refine gt (aJ (NM l hl hli g hgo) (bO rfl rfl) aM rfl rfl) ?_;refine gD ?_;refine gC (fun t62=>?_) (fun t62=>?_) (st1:=(13,0));cases t62;refine Am [1,4,6,10] [4,6] [(13,some (.ms 900 1 0 (cM l g own).length))] [(900,some (.row 1 ((cM l g own).map i64)))] (True) ?_ ?_
 ·intro K1 J1;refine gC (fun t64=>?_) (fun t64=>?_)
  ·have ho:own=true:=t64;subst ho;refine gi (aN hg) ?_;refine gs (da (.tmp rfl) rfl (by rw[length_map,re]) (.tmp rfl) T39 rfl T3 rfl rfl (by simp only[length_map];omega) rfl rfl) ?_;exact o6 J1 trivial (hw:=(Wk.of (sl:=[(1,some (i64 i)),(4,some (.ptr 4 0)),(6,some (.ptr 6 0)),(10,some (.lst 4 ((splitG l).map Gr.av))),(13,some (.ms 71 1 0 (cM l g true).length))]) (hp:=[(4,some (.box l.av.cells)),(6,some (.box a.av.cells)),(71,some (.row 1 ((cM l g true).map i64)))]) (.k (.k (.k (.k (.cons rfl (Sub.of (by rw[Ce,length_append,re,length_map])) .nil))))) (.k (.k (.cons rfl (BlkSub.of (by rw[Ce,map_append])) .nil)))).trans<|(Wk.rk (k:=71) (d:=900) rfl rfl).trans<|Wk.o)
  have ho:own=false:=t64;subst ho;exact o6 J1 trivial (hw:=Wk.of (.cons rfl (Sub.of (by rw[Ch,re])) (.k (.k (.k (.k .nil))))) (.cons rfl (BlkSub.of (by rw[Ch])) (.k (.k .nil))))
 rintro -;refine gt (aJ (Con.rk 900 rfl rfl (Kp (cM l g own) oz)) (cZ rfl) aM rfl rfl) ?_ (17,0);refine gW ((Wk.freeze (k:=900) rfl).trans<|Wk.of (sl:=[(1,some (i64 i)),(4,some (.ptr 4 0)),(6,some (.ptr 6 0)),(10,some (.lst 4 ((splitG l).map Gr.av))),(13,some (.lst 1 ((eI (cM l g own)).map i64)))]) (hp:=[(4,some (.box l.av.cells)),(6,some (.box a.av.cells))]) (.k (.k (.k (.k (.cons rfl (Sub.of (cw (by rw[length_map,GF]))) .nil))))) (.k (.k .nil))) ?_;refine gl ?_;refine a5 [1,4,6,10,74,75] [4,6] (fun(j:Nat)=>[(76,some (i64 j))]) (fun _=>[]) (fun j=>j<=(eI (cM l g own)).length/\∀b∈(eI (cM l g own)).take j,fZ a b=0) (fun j=>(eI (cM l g own)).length-j) 0 ⟨zero_le _,fun b hb=>by simp at hb⟩ ?_;rintro j ⟨hj,hjz⟩ K2 J2;refine gC (fun t77=>?_) (fun t77=>?_)
 ·have hjn:=bn t77;obtain ⟨b,hb⟩:=aG hjn;have hbm:=wG.1 (mem_of_getElem? hb);have hbr:=yz hli hgo b hbm;have hsl:(eI (cM l g own)).length <= 5:=by rw [GF]; exact hnl
  refine gi (aN hb) ?_;refine gC (fun t81=>?_) (fun t81=>?_)
  ·have hz : fZ a b = 0 := by unfold fZ; rw [if_pos (by simpa [ac] using t81)]
   refine ga aW ?_;exact aT J2 (j+1) ⟨hjn,fun c hc=>by rw[d9 hb]at hc;rcases List.mem_append.1 hc with h9 |h9;exact hjz c h9;(rw[List.mem_singleton.1 h9];exact hz)⟩
  have hb0:0<=b:=by have:=of_decide_eq_false (p:=b<0) t81;omega
  obtain⟨p,hp⟩:=aG (l:=a.bs) (i:=b.toNat) oz;have hpn:=al.nr p (mem_of_getElem? hp);have hnd:fZ a b=bi a.rs p.l:=by unfold fZ;rw[if_neg oz,ao hp]
  refine gi (f9 (n:=b.toNat) oz hp) ?_;refine ge rfl ?_;refine a5 [1,4,6,10,74,75,76,95,96] [4,6] (fun(q:Nat)=>[(97,some (i64 q))]) (fun _=>[]) (fun q=>q<=4/\∀x∈p.l.take q,bZ a.rs.length x=0) (fun q=>4-q) 0 ⟨zero_le _,fun x hx=>by simp at hx⟩ ?_;rintro q ⟨hq,hqz⟩ K3 J3;refine gC (fun t98=>?_) (fun t98=>?_)
  ·have hqn:q<4:=bn (b:=4) t98;obtain⟨x,hx⟩:∃x,p.l[q]?=some x:=aG (show q<p.l.length from hqn);have hxn:=hpn x (mem_of_getElem? hx);have hone:bi a.rs [x]=bZ a.rs.length x:=CD h4;refine gi (aN hx) ?_;refine gc (CC a.rs 400000000 al.tr x 50000000000 hxn (Jv _)) ?_;refine gC (fun t109=>?_) (fun t109=>?_)
   ·have h5:=fp t109;rw [hone] at h5 ⊢;have h6:fZ a b = bZ a.rs.length x:=hnd.trans (Jz h4 hx hqz h5);have h7:eJ l (i:Nat) a own = bZ a.rs.length x:=by rw [he5,LY hb hjz (by rw [h6]; exact h5),h6]
    refine gR ?_;rw[h7,oX h5,oB h5];exact lM rfl
   have h5:=eM t109;rw[hone]at h5;refine ga aW ?_;exact aT J3 (q+1) ⟨hqn,fun z hz=>by rw[d9 hx]at hz;rcases List.mem_append.1 hz with h9 |h9;exact hqz z h9;(rw[List.mem_singleton.1 h9];exact h5)⟩
  have hqn:q=4:=bE (b:=4) hq t98;subst hqn;have hqz:∀x∈p.l,bZ a.rs.length x=0:=hqz;refine ga aW ?_;exact aT J2 (j+1) ⟨hjn,fun c hc=>by rw[d9 hb]at hc;rcases List.mem_append.1 hc with h9 |h9;exact hjz c h9;(rw[List.mem_singleton.1 h9,hnd];exact nU h4 hqz)⟩
 have hjn:=bE hj t77
 have h8:eJ l (i:Nat) a own=0:=by
  rw[he5];exact qi (fun b hb=>hjz b (by rw[hjn,take_length];exact hb))
 refine gi (aN hg) ?_;refine gD ?_ (77777,0);refine gW (Wk.o (sl:=[(8,some (.ptr 120 0)),(9,some (.v .nilIface))]) (hp:=[(120,some (cm l g a))])) ?_ (77777,0);refine gW (Wk.rk (k:=120) (d:=900) rfl rfl) ?_;refine gR ?_;rw[h8];exact aH.keep (bu rfl)
theorem HW{ts:LL}{r e:Nat}(tw:Tw ts r){a b c d:List Rat}(ha:Nm ts.length e a)(hb:Nm ts.length e b)(hc:Nm ts.length e c)(hd:Nm ts.length e d)(he:2*e<=lm ts.length) :
  FP 76 [aR ts,aK a b,aK c d] (.tup [aK (sh ts.length (subT ts (ae ts.length a) (ae ts.length c))) (sh ts.length (subT ts (ae ts.length b) (ae ts.length d))),.v .nilIface]):=by
 refine aj func76 ?_;refine gc (rO (e:=e) tw [(a,b),(c,d)] (by simp only[mem_cons,not_mem_nil,or_false];rintro p (rfl |rfl);exact⟨ha,hb⟩;exact⟨hc,hd⟩) oz (by simp)) ?_;refine gC (fun t16=>?_) (fun t16=>?_) (st1:=(3,0));cases t16;refine gt (aJ (Con.rB 21 rfl rfl rfl rfl (Di tw ha hb hc hd he)) (aL rfl rfl rfl) aM rfl rfl) ?_;refine gt (aJ (Con.rB 21 rfl rfl rfl rfl (vz _ _ _)) (bO rfl rfl) aM rfl rfl) ?_;refine bF ?_;rfl
theorem x4{ts:LL}{r e:Nat}(tw:Tw ts r){a b c d:List Rat}(ha:Nm ts.length e a)(hb:Nm ts.length e b)(hc:Nm ts.length e c)(hd:Nm ts.length e d)(he:2*(e+e+kB r ts.length)<=lm ts.length) :
  FP 77 [aR ts,aK a b,aK c d] (.tup [nA (sh ts.length (mb ts (ae ts.length a) (ae ts.length b) (ae ts.length c) (ae ts.length d))),.v .nilIface]):=by
 refine aj func77 ?_;refine gc (Con.sA (.cons (.refl _) (.cons (.refl _) (.cons (.refl _) (.cons (Sub.fn0 _) .nil)))) (GH tw ha hb hc hd oz _ _ (Qy tw ha hb hc hd he))) ?_;refine bF ?_
 first |rfl |(simp;done)
section
variable{ts:LL}{u k:Nat}{a b a2 b2:List Rat}{x y x2 y2:Et ts}{w v w' v' w2 v2 w3 v3:Nat}
theorem zV [c : Ct ts u k] [ha : Zl ts u k a x w v] [hb : Zl ts u k b y w' v'] [ha2 : Zl ts u k a2 x2 w2 v2] [hb2 : Zl ts u k b2 y2 w3 v3] (h : w + v + (w' + v') + (w2 + v2 + (w3 + v3)) <= 2500 := by decide) :
  FP 76 [aR ts,aK a b,aK a2 b2] (.tup [aK (sX (x-x2)) (sX (y-y2)),.v .nilIface]):=by
 obtain⟨R,tw,hk⟩:=c.ex;have h0:=yr c hk;have h1:=HW (e:=2500*1000000) tw (ha.up c oz) (hb.up c oz) (ha2.up c oz) (hb2.up c oz) oz;rw[ha.eq,hb.eq,ha2.eq,hb2.eq]at h1;exact h1
theorem KZ [c : Ct ts u k] [ha : Zl ts u k a x w v] [hb : Zl ts u k b y w' v'] [ha2 : Zl ts u k a2 x2 w2 v2] [hb2 : Zl ts u k b2 y2 w3 v3] (h : w + v + (w' + v') + (w2 + v2 + (w3 + v3)) <= 2500 := by decide) :
  FP 77 [aR ts,aK a b,aK a2 b2] (.tup [nA (sX (crsE x y x2 y2)),.v .nilIface]):=by
 obtain⟨R,tw,hk⟩:=c.ex;have h0:=yr c hk;have h1:=x4 (e:=2500*1000000) tw (ha.up c oz) (hb.up c oz) (ha2.up c oz) (hb2.up c oz) oz;rw[ha.eq,hb.eq,ha2.eq,hb2.eq]at h1;exact h1
end
variable{P:Program}{N:Nat}{R:Array Oper}{s:AS}{pos:String}{after:Array Edge}
theorem aX{d f k:Nat}{bx:Blk}{args:Array Operand}{ts:Array TypeId}{xs:List AV}{r:AV}{t:TypeId}
  (hcon:Con P f xs [(k,some bx)] r [(k,some bx)]) (ha:EvL s args.toList xs) (hk:s.blk k=some bx) (hok:jC s [(k,some bx)] [(k,some bx)] r=true) (hN:Nat.blt d N=true) :
  Step P N R s ⟨some d,.call ⟨.value (.func f),args,ts⟩,t,pos,after,none⟩ ⟨some r,[],eV args.toList,[k]⟩:=by
 refine Step.weaken (aJ (d:=d) hcon ha (fun k' z h=>by
  obtain⟨rfl,h9⟩:=fw h;cases h9;exact hk) hok hN) (fun s' h=>h) (fun s' h k' hk'=>?_) (fun s' h=>?_)
 ·left;simp only[map_append,dQ,map_cons,List.map_nil,mem_append,mem_cons,not_mem_nil,or_false]at hk' ⊢;rcases hk' with h9 |h9 <;> exact h9
 ·intro C m a w hr;refine⟨m,hr.weak (fun t x hx=>⟨x,hx,.refl _⟩) (fun k' x hx=>⟨x,?_,.refl _⟩)⟩;have hb:lk s'.hp k=some bx:=(h.2 k (List.mem_singleton.2 rfl)).trans hk;show lk ([(k,some bx)]++dQ [(k,some bx)]++s'.hp) k'=some x;have hx':lk s'.hp k'=some x:=hx;simp only[dQ,map_cons,List.map_nil,List.cons_append,nil_append,aU]
  by_cases e:k'=k
  ·rw[if_pos e];rw[e,hb]at hx';exact hx'
  ·rw[if_neg e,if_neg e];exact hx'
theorem oN{k1 k2 k':Nat}{x y:Option Blk}{z:Blk}(h:lk [(k1,x),(k2,y)] k'=some z):(k'=k1/\x=some z)\/(k'≠k1/\k'=k2/\y=some z):=by
 rw[aU]at h
 by_cases e:k'=k1
 ·rw[if_pos e]at h;exact .inl ⟨e,h⟩
 ·rw[if_neg e]at h;obtain⟨h1,h2⟩:=fw h;exact .inr ⟨e,h1,h2⟩
theorem ni{k1 k2:Nat}{x y:Option Blk}:lk [(k1,x),(k2,y)] k1=x:=by rw[aU,if_pos rfl]
theorem nB{k1 k2:Nat}{x y:Option Blk}(h:k1≠k2):lk [(k1,x),(k2,y)] k2=y:=by rw[aU,if_neg (fun e=>h e.symm),aU,if_pos rfl]
theorem DP{k1 k2:Nat}(hne:k1≠k2){x y:Blk}{m:Nat->Option Nat}{b:Nat}:bb [(k1,some x),(k2,some y)] m b↔m k1=some b\/m k2=some b:=by
 constructor
 ·rintro⟨k',z,hz,hb⟩;rcases oN hz with⟨e,_⟩ |⟨_,e,_⟩
  ·exact .inl (e▸hb)
  ·exact .inr (e▸hb)
 ·rintro(h |h)
  ·exact⟨k1,x,ni,h⟩
  ·exact⟨k2,y,nB hne,h⟩
theorem Hr{k1 k2 d1 d2:Nat}(hk:k1≠k2)(hd:d1≠d2){x y x' y':Blk}{m m2:Nat->Option Nat}(h1:m2 d1=m k1)(h2:m2 d2=m k2):bb [(d1,some x'),(d2,some y')] m2=bb [(k1,some x),(k2,some y)] m:=by
 funext b;apply propext;rw[DP hk,DP hd,h1,h2]
theorem yu{ext:Nat->Prop}{k1 k2 d1 d2:Nat}(hk:k1≠k2)(hd:d1≠d2){x y x' y':Blk}{m m2:Nat->Option Nat}{w:World}(h1:m2 d1=m k1)(h2:m2 d2=m k2):Im ext [(d1,some x'),(d2,some y')] m2 w=Im ext [(k1,some x),(k2,some y)] m w:=by
 funext b cs;simp only[Im,Hr hk hd (x:=x) (y:=y) (x':=x') (y':=y') h1 h2]
theorem Iv{ext:Nat->Prop}{k1 k2 d1 d2:Nat}(hk:k1≠k2)(hd:d1≠d2){x y:Blk}{m m2:Nat->Option Nat}{w:World}(hx:x.nm=[])(hy:y.nm=[])(h1:m2 d1=m k1)(h2:m2 d2=m k2)
  (hr:HeapRel ext [(k1,some x),(k2,some y)] m w):HeapRel ext [(d1,some x),(d2,some y)] m2 w:=by
 refine⟨?_,?_,?_⟩
 ·intro k' z hz;rw[yu hk hd (x:=x) (y:=y) h1 h2];rcases oN hz with⟨rfl,h9⟩ |⟨_,rfl,h9⟩
  ·cases h9;exact BlkRep.mono (w:=w) (fun _ _ h=>h) (fun _ _ h=>h) (fun _ _ hn=>(yv hx hn).elim) h1 (fun _ _=>rfl) (hr.blk k1 _ ni)
  ·cases h9;exact BlkRep.mono (w:=w) (fun _ _ h=>h) (fun _ _ h=>h) (fun _ _ hn=>(yv hy hn).elim) h2 (fun _ _=>rfl) (hr.blk k2 _ (nB hk))
 ·intro k k' z z' b hz hz' hb hb';rcases oN hz with⟨rfl,_⟩ |⟨_,rfl,_⟩ <;> rcases oN hz' with⟨rfl,_⟩ |⟨_,rfl,_⟩
  ·rfl
  ·exact absurd (hr.inj k1 k2 _ _ b ni (nB hk) (h1▸hb) (h2▸hb')) hk
  ·exact absurd (hr.inj k1 k2 _ _ b ni (nB hk) (h1▸hb') (h2▸hb)) hk
  ·rfl
 ·intro k' z b hz hb;rcases oN hz with⟨rfl,h9⟩ |⟨_,rfl,h9⟩
  ·exact hr.sep k1 _ b ni (h1▸hb)
  ·exact hr.sep k2 _ b (nB hk) (h2▸hb)
theorem Con.rekeyBB{P:Program}{f:FuncId}{k1 k2 o1 o2:Nat}{x y x' y':Blk}{xs:List AV}{r:AV}(d1 d2:Nat)(hk:k1≠k2)(hd:d1≠d2)(hx:x.nm=[])(hy:y.nm=[])(hx':x'.nm=[])(hy':y'.nm=[])(hxs:(xs.all fun x=>x.nm.isEmpty)=true)(hr:r.nm=[])
  (h:Con P f (.ptr k1 o1 :: .ptr k2 o2::xs) [(k1,some x),(k2,some y)] r [(k1,some x'),(k2,some y')]):Con P f (.ptr d1 o1 :: .ptr d2 o2::xs) [(d1,some x),(d2,some y)] r [(d1,some x'),(d2,some y')]:=by
 refine⟨h.ok,?_⟩;intro ext m w vs hext hheap hvs hrep;obtain⟨m2,e1,e2⟩:∃m2:Nat->Option Nat,m2 k1=m d1/\m2 k2=m d2:=⟨fun k=>if k=k1 then m d1 else m d2,if_pos rfl,if_neg (fun e=>hk e.symm)⟩
 have h1 := h.ret ext m2 w vs hext (Iv hd hk hx hy e1 e2 hheap) (by simpa using hvs) (by
  intro j v z hv hz;rw[yu hd hk (x:=x) (y:=y) e1 e2]
  match j,hz with
  |0,hz =>
   cases hz;have h2:=hrep 0 v _ hv rfl;cases h2 with
   |ptr hm=>exact .ptr (e1.trans hm)
  |1,hz =>
   cases hz;have h2:=hrep 1 v _ hv rfl;cases h2 with
   |ptr hm=>exact .ptr (e2.trans hm)
  |j+2,hz =>
   have h2:=hrep (j+2) v z hv hz;refine iQ ?_ h2;have:=List.all_eq_true.1 hxs z (mem_of_getElem? hz);simpa using this)
 refine Calls.mono h1 ?_;rintro e w' ⟨v,m',rfl,hf,hh,hn,hkp,hrr⟩;have ho:=Hr hd hk (x:=x) (y:=y) (x':=x) (y':=y) e1 e2;obtain⟨m3,f1,f2⟩:∃m3:Nat->Option Nat,m3 d1=m' k1/\m3 d2=m' k2:=⟨fun k=>if k=d1 then m' k1 else m' k2,if_pos rfl,if_neg (fun e=>hd e.symm)⟩
 refine⟨v,m3,rfl,ho▸hf,Iv hk hd hx' hy' f1 f2 hh,?_,?_,?_⟩
 ·intro k' z b hz hb;rw[<- ho];rcases oN hz with⟨rfl,_⟩ |⟨_,rfl,_⟩
  ·exact hn k1 _ b ni (f1▸hb)
  ·exact hn k2 _ b (nB hk) (f2▸hb)
 ·intro k' z z' hz hz';rcases oN hz with⟨rfl,_⟩ |⟨_,rfl,_⟩
  ·rw[f1,<- e1];exact hkp k1 _ _ ni ni
  ·rw[f2,<- e2];exact hkp k2 _ _ (nB hk) (nB hk)
 ·rw[yu hk hd (x:=x') (y:=y') f1 f2];exact iQ hr hrr
end Go.Lw
namespace Go.Lw
open Go.Proofs
theorem CZ{l:Li}{body pt:Int}{n k:Nat}{bd:Bd}{m:Mk}(h:MkP l body pt n k bd m):qP (aB l body pt)=.agg [bl m.x.neg,ws m.x.num,ws m.x.den,bl m.y.neg,ws m.y.num,ws m.y.den]:=by
 rw[h.ex,h.ey]
theorem oC{p q:Rat×Rat}{e f:Nat}(hp:Sm e p)(hq:Sm f q)(he:e<=1000000)(hf:f<=1000000):FP 156 [qP p,qP q] (qP (bw p q)):=by
 refine aj func156 ?_;refine gc (u9 (hp.x.qs oz) (hq.x.qs oz)) ?_;refine gc (u9 (hp.y.qs oz) (hq.y.qs oz)) ?_;refine gD ?_;refine af ?_
 first |rfl |(simp;done)
theorem Hs{p q:Rat×Rat}{e f:Nat}(hp:Sm e p)(hq:Sm f q)(he:e<=1000000)(hf:f<=1000000):FP 261 [qP p,qP q] (qA (bJ p q)):=by
 refine aj func261 ?_;refine gc (tH (hp.x.qs oz) (hq.x.qs oz)) ?_;refine gc (tH (hp.y.qs oz) (hq.y.qs oz)) ?_;refine gc (BB ((hp.x.mul hq.x).qs oz) ((hp.y.mul hq.y).qs oz)) ?_;refine gD ?_;refine af ?_
 first |rfl |(simp;done)
theorem K6{p q:Rat×Rat}{e f:Nat}(hp:Sm e p)(hq:Sm f q)(he:e<=1000000)(hf:f<=1000000):FP 178 [qP p,qP q] (qA (p4 p q)):=by
 refine aj func178 ?_;refine gc (tH (hp.x.qs oz) (hq.y.qs oz)) ?_;refine gc (tH (hp.y.qs oz) (hq.x.qs oz)) ?_;refine gc (u9 ((hp.x.mul hq.y).qs oz) ((hp.y.mul hq.x).qs oz)) ?_;refine gD ?_;refine af ?_
 first |rfl |(simp;done)
theorem zY{p:Rat×Rat}{e:Nat}(hp:Sm e p)(he:e<=1000000):FP 169 [qP p] (nA (sh 0 (bJ p p:Rat))):=by
 refine aj func169 ?_;refine gc (Hs hp hp he he) ?_;refine gc (oE ((hp.dot hp).qs oz)) ?_;refine af ?_
 first |rfl |(simp;done)
theorem Tt:FP 69 [] (nA (sh 0 ((1:Int):Rat))):=by
 refine aj func69 ?_;refine gc (mY 1 oz) ?_;refine gc (oE (mG oz)) ?_;refine af ?_
 first |rfl |(simp;done)
theorem mN{l:Li}(hl:l.ok)(hli:aO l=0)(g:Gr)(a:As){body pt:Int}(h1:bD body l.bo.length=true)(h2:bD pt (cE l body).length=true) :
  Con prog 170 [.ptr 1000 0,i64 body,i64 pt] [(1000,some (cm l g a))] (qP (aB l body pt)) [(1000,some (cm l g a))]:=by
 obtain⟨n,k,bd,m,mp⟩:=qD hl hli h1 h2;rw[CZ mp];have hn:=mp.hn;have hk:=mp.hk;have hlb:=hl.lb;subst hn;subst hk;refine gF func170 (fun k z h=>bG h) ?_;refine gi (aN mp.gbd) ?_;refine gi (aN mp.gm) ?_;refine gR ?_;exact aH.keep (bu rfl)
theorem tP{E:Nat}{l:Li}(hl:l.ok)(hli:aO l=0)(g:Gr){a:As}(al:AB a)(hc:bt a.rs=0){body pt:Int}(h1:bD body l.bo.length=true)(h2:bD pt (cE l body).length=true)(hE:E<=20000000000)(h3:(llq a.rs).length<=2)(hb:Pd E a body) :
  Con prog 91 [.ptr 1000 0,i64 body,i64 pt] [(1000,some (cm l g a))] (aK (sX (aA l a body pt).1) (sX (aA l a body pt).2)) [(1000,some (cm l g a))]:=by
 obtain⟨n,k,bd,m,b,hp⟩:=wl hl hli al hc h1 h2 hb;obtain⟨tw,hta⟩:=cI al.tr hc
 have kb:kB 400000000 (llq a.rs).length<=1200000006:=by
  have h9:=g9 400000000 h3;have h8:eB 400000000 2=1200000006:=by decide
  show eB 400000000 _<=_;omega
 have hlm:lm (llq a.rs).length=200000000000:=by unfold lm;rw[if_pos h3]
 have hlb:=hl.lb;have hbl:=al.bl;have hmk:=mN hl hli g a h1 h2;show Con prog _ _ _ (aK (sh (llq a.rs).length (fD l a body pt).1) (sh (llq a.rs).length (fD l a body pt).2)) _;rw[hp.eq];have hn:=hp.mp.hn;rw[CZ hp.mp]at hmk
 have hat:FP 89 [cq a.rs,b.av,m.x.av,m.y.av] (.tup [aK (sh (llq a.rs).length (mH (llq a.rs) b m).1) (sh (llq a.rs).length (mH (llq a.rs) b m).2),.v .nilIface]):=by
  rw[hta,hp.av,hp.mp.ex,hp.mp.ey];have h9:=P9 tw (hp.ok.c.mono (f:=E+1000) oz) (hp.ok.s.mono oz) (hp.ok.x.mono oz) (hp.ok.y.mono oz) (hp.mp.sm.x.mono (f:=E+1000) oz) (hp.mp.sm.y.mono (f:=E+1000) oz) oz;unfold mH;rw[hp.mp.ex,hp.mp.ey,bP,bP];exact h9
 refine gF func91 (fun k z h=>bG h) ?_;refine gt (aJ hmk (aL rfl rfl rfl) aM rfl rfl) ?_;refine gi (f9 (n:=n) hn hp.gb) ?_;refine gc hat ?_;refine gD ?_;refine gC (fun t39=>?_) (fun t39=>?_) (st2:=(77777,0))
 ·refine gR ?_;exact aH.keep (bu rfl)
 cases t39
theorem uf{E:Nat}(hE:E<=20000000000){l:Li}(hl:l.ok)(hli:aO l=0)(g:Gr)(hg:GrOk l g){a:As}(al:AB a)(hc:bt a.rs=0){k:Nat}{z b:Int}{j:Jt}(hz:g.jo[k]?=some z)(hj:l.jo[z.toNat]?=some j)(h3:(llq a.rs).length<=2)(h:PinP E l a j b) :
  Con prog 150 [.ptr 1000 0,i64 k,i64 b] [(1000,some (cm l g a))] (.tup [qP (ai l j b),aK (sX (ax l a j b).1) (sX (ax l a j b).2)]) [(1000,some (cm l g a))]:=by
 obtain⟨z0,z1⟩:=hg.j z (mem_of_getElem? hz);obtain⟨i1,i2,i3,i4,_⟩:=dw hli hj;have hgj:=hg.lj;have hlj:=hl.lj;refine gF func150 (fun k z h=>bG h) ?_;refine gi (aN hz) ?_;refine gi (f9 (n:=z.toNat) oz hj) ?_;refine gD ?_;refine gC (fun t27=>?_) (fun t27=>?_)
 ·have e:j.a = b:=cK t27;have hb:Pd E a j.b:=by rcases h.tie with h9 | h9; exact h9.2; exact absurd e h9.1
  have eq1:ai l j b=aB l b j.point:=if_pos e;have eq2:ax l a j b=aA l a j.b j.on:=if_pos e;rw[eq1,eq2];subst e;refine gt (aJ (mN hl hli g a i1 i3) (aL rfl rfl rfl) aM rfl rfl) ?_;refine gt (aJ (tP hl hli g al hc i2 i4 hE h3 hb) (aL rfl rfl rfl) aM rfl rfl) ?_;refine gD ?_;refine gR ?_;exact aH.keep (bu rfl)
 have e:j.a≠b:=dj t27;have e2:j.b=b/\Pd E a j.a:=by rcases h.tie with h9 |h9;exact absurd h9.1 e;exact h9.2
 have eq1:ai l j b=aB l b j.on:=if_neg e;have eq2:ax l a j b=aA l a j.a j.point:=if_neg e;rw[eq1,eq2];obtain⟨e2,hb⟩:=e2;subst e2;refine gt (aJ (mN hl hli g a i2 i4) (aL rfl rfl rfl) aM rfl rfl) ?_;refine gt (aJ (tP hl hli g al hc i1 i3 hE h3 hb) (aL rfl rfl rfl) aM rfl rfl) ?_;refine gD ?_;refine gR ?_;exact aH.keep (bu rfl)
theorem El{l:Li}(hl:l.ok)(hli:aO l=0)(g:Gr)(hg:GrOk l g)(a:As){z b:Int}{j:Jt}(hz:g.jo[2]?=some z)(hj:l.jo[z.toNat]?=some j)(h:j.a=b\/j.b=b) :
  Con prog 166 [.ptr 1000 0,i64 b] [(1000,some (cm l g a))] (qP (ai l j b)) [(1000,some (cm l g a))]:=by
 obtain⟨z0,z1⟩:=hg.j z (mem_of_getElem? hz);obtain⟨i1,i2,i3,i4,_⟩:=dw hli hj;have hgj:=hg.lj;have hlj:=hl.lj;have h2:=(List.getElem?_eq_some_iff.1 hz).1;refine gF func166 (fun k z h=>bG h) ?_;refine gi (aN hz) ?_;refine gi (f9 (n:=z.toNat) oz hj) ?_;refine gD ?_;refine gC (fun t23=>?_) (fun t23=>?_)
 ·have e:j.a=b:=cK t23;have eq1:ai l j b=aB l b j.point:=if_pos e;rw[eq1];subst e;refine gt (aJ (mN hl hli g a i1 i3) (aL rfl rfl rfl) aM rfl rfl) ?_;refine gR ?_;exact aH.keep (bu rfl)
 have e:j.a≠b:=dj t23;have e2:j.b=b:=by rcases h with h9 |h9;exact absurd h9 e;exact h9
 have eq1:ai l j b=aB l b j.on:=if_neg e;rw[eq1];subst e2;refine gt (aJ (mN hl hli g a i2 i4) (aL rfl rfl rfl) aM rfl rfl) ?_;refine gR ?_;exact aH.keep (bu rfl)
theorem BY{l:Li}(hl:l.ok)(g:Gr)(hg:GrOk l g)(a:As){z:Int}{j:Jt}(hz:g.jo[1]?=some z)(hj:l.jo[z.toNat]?=some j) :
  Con prog 90 [.ptr 1000 0] [(1000,some (cm l g a))] j.av [(1000,some (cm l g a))]:=by
 obtain⟨z0,z1⟩:=hg.j z (mem_of_getElem? hz);have hgj:=hg.lj;have hlj:=hl.lj;have h2:=(List.getElem?_eq_some_iff.1 hz).1;refine gF func90 (fun k z h=>bG h) ?_;refine gi (aN hz) ?_;refine gi (f9 (n:=z.toNat) oz hj) ?_;refine gD ?_;refine gR ?_;exact aH.keep (bu rfl)
abbrev Km{ts:LL}(p:Rat×Rat)(at_:Et ts×Et ts)(c:Rat×Rat):List AV :=
  [bl (rt p.1).neg,ws (rt p.1).num,ws (rt p.1).den,bl (rt p.2).neg,ws (rt p.2).num,ws (rt p.2).den,nA (sX at_.1),nA (sX at_.2),bl (rt c.1).neg,ws (rt c.1).num,ws (rt c.1).den,bl (rt c.2).neg,ws (rt c.2).num,ws (rt c.2).den]
abbrev vQ{ts:LL}(p:Rat×Rat)(at_:Et ts×Et ts)(c:Rat×Rat):AV:=.agg (Km p at_ c)
abbrev Rv{ts:LL}(p:Rat×Rat)(at_:Et ts×Et ts)(c:Rat×Rat):AV:=.agg [nA (sX at_.1),nA (sX at_.2),nA (sh 0 (aZ c p:Rat))]
theorem pv{ts:LL}{p c:Rat×Rat}(hp:Sm 1000 p)(hc:Sm 1000 c)(at_:Et ts×Et ts):FP 73 [vQ p at_ c] (Rv p at_ c):=by
 refine aj func73 ?_;refine gc (oC hc hp oz oz) ?_;refine gc (zY (hc.sub hp) oz) ?_;refine gD ?_;refine af ?_
 first |rfl |(simp;done)
theorem Ia{E:Nat}{l:Li}(hl:l.ok)(hli:aO l=0){a:As}(al:AB a)(hc:bt a.rs=0)(h3:(llq a.rs).length<=2){i k z0 z1 z2:Int}{j0 j1 j2:Jt}(hg:GrOk l ⟨1,[i,k],[z0,z1,z2],0⟩)
  (h0:l.jo[z0.toNat]?=some j0) (h1:l.jo[z1.toNat]?=some j1) (h2:l.jo[z2.toNat]?=some j2) (p0:PinP E l a j0 i) (p1:PinP E l a j1 k) (t1:j2.a=i\/j2.b=i) (t2:j2.a=k\/j2.b=k) (hE:E<=20000000000:=by omega) :
  Con prog 70 [.ptr 1000 0] [(1000,some (cm l ⟨1,[i,k],[z0,z1,z2],0⟩ a))] (.tup [vQ (ai l j0 i) (ax l a j0 i) (ai l j2 i),vQ (ai l j1 k) (ax l a j1 k) (ai l j2 k)]) [(1000,some (cm l ⟨1,[i,k],[z0,z1,z2],0⟩ a))]:=by
 refine gF func70 (fun k z h=>bG h) ?_;refine gi (rfl) ?_;refine gi (rfl) ?_;refine gD ?_;refine gt (aJ (uf oz hl hli _ hg al hc (k:=0) rfl h0 h3 p0) (.cons (.tmp rfl) (.cons (.const _) (cZ rfl))) aM rfl rfl) ?_;refine gt (aJ (uf oz hl hli _ hg al hc (k:=1) rfl h1 h3 p1) (.cons (.tmp rfl) (.cons (.const _) (cZ rfl))) aM rfl rfl) ?_;refine gt (aJ (El hl hli _ hg a rfl h2 t1) (bO rfl rfl) aM rfl rfl) ?_;refine gt (aJ (El hl hli _ hg a rfl h2 t2) (bO rfl rfl) aM rfl rfl) ?_;refine gD ?_;refine gR ?_;exact aH.keep (bu rfl)
theorem Cu{E:Nat}{l:Li}(hl:l.ok)(hli:aO l=0){a:As}(al:AB a)(hc:bt a.rs=0)(h3:(llq a.rs).length<=2){i z0 z1:Int}{j0 j1:Jt}(hg:GrOk l ⟨2,[i],[z0,z1],0⟩)
  (h0:l.jo[z0.toNat]?=some j0) (h1:l.jo[z1.toNat]?=some j1) (p0:PinP E l a j0 i) (ha:j1.a=i) (hk:j1.kind≠0) (hb:Pd E a j1.b) (hE:E<=20000000000:=by omega) :
  Con prog 74 [.ptr 1000 0] [(1000,some (cm l ⟨2,[i],[z0,z1],0⟩ a))] (.tup [vQ (ai l j0 i) (ax l a j0 i) (aB l i j1.point),aK (sX (aA l a j1.b j1.on).1) (sX (aA l a j1.b j1.on).2),aK (sX (aA l a j1.b j1.to).1) (sX (aA l a j1.b j1.to).2)]) [(1000,some (cm l ⟨2,[i],[z0,z1],0⟩ a))]:=by
 obtain⟨i1,i2,i3,i4,i5⟩:=dw hli h1;rw[ha]at i1 i3;refine gF func74 (fun k z h=>bG h) ?_;refine gi (rfl) ?_;refine gt (aX (BY hl _ hg a rfl h1) (cZ rfl) rfl rfl rfl) ?_;refine gD ?_;refine gt (aJ (uf oz hl hli _ hg al hc (k:=0) rfl h0 h3 p0) (.cons (.tmp rfl) (.cons (.const _) (cZ rfl))) aM rfl rfl) ?_;refine gt (aJ (mN hl hli _ a i1 i3) (aL rfl rfl rfl) aM rfl rfl) ?_;refine gt (aJ (tP hl hli _ al hc i2 i4 oz h3 hb) (aL rfl rfl rfl) aM rfl rfl) ?_;refine gt (aJ (tP hl hli _ al hc i2 (i5 hk) oz h3 hb) (aL rfl rfl rfl) aM rfl rfl) ?_;refine gD ?_;refine gR ?_;exact aH.keep (bu rfl)
structure Vr where
  w:List Rt
  x:List Rt
  y:List Rt
instance:Inhabited Vr:=⟨⟨[],[],[]⟩⟩
def Vr.av(v:Vr):AV:=.agg [nR v.w,nR v.x,nR v.y]
def Vr.l(v:Vr):List (List Rt):=[v.w,v.x,v.y]
theorem AL.ct{a:As}(h:AL a)(hc:bt a.rs=0):Ct (llq a.rs) 4000 300000:=by
 obtain⟨tw,_⟩:=cI h.tr hc;exact⟨⟨40000,tw,le_trans (KX 40000 tw.three) oz⟩,by omega,by omega,by omega,by omega⟩
abbrev df(rs:List (List Rt)):Blk:=.box [.lst 1 (rs.map nR),.v .nilIface]
theorem oo(rs:List (List Rt))(a:List Rat):Con prog 71 [.ptr 1000 0,nA a,.v .nilIface] [(1000,some (df rs))] (nA a) [(1000,some (df rs))]:=by
 refine gF func71 (fun k z h=>bG h) ?_;refine gC (fun t11=>?_) (fun t11=>?_) (st2:=(77777,0))
 ·refine gR ?_;exact aH.keep (bu rfl)
 cases t11
theorem vR(rs:List (List Rt))(a b:List Rat):Con prog 75 [.ptr 1000 0,aK a b,.v .nilIface] [(1000,some (df rs))] (aK a b) [(1000,some (df rs))]:=by
 refine gF func75 (fun k z h=>bG h) ?_;refine gC (fun t11=>?_) (fun t11=>?_) (st2:=(77777,0))
 ·refine gR ?_;exact aH.keep (bu rfl)
 cases t11
section
variable{rs:List (List Rt)}{r u k:Nat}{a b:List Rat}{x y:Et (llq rs)}{w v w' v':Nat}
theorem uL (h : TR rs r) (hc : bt rs = 0) [c0 : Ct (llq rs) u k] [ha : Zl (llq rs) u k a x w v] [hb : Zl (llq rs) u k b y w' v'] (hs : w + v + (w' + v') <= 10000 := by decide) :
  Con prog 79 [.ptr 1000 0,nA a,nA b] [(1000,some (df rs))] (nA (sX (x*y))) [(1000,some (df rs))]:=by
 have hx:=CR (ha:=ha) (hb:=hb) hs;rw[oV h hc]at hx;refine gF func79 (fun k z h=>bG h) ?_;refine gc hx ?_;refine gt (aJ (oo _ _) (aL rfl rfl rfl) aM rfl rfl) ?_;refine gR ?_;exact aH.keep (bu rfl)
theorem CU (h : TR rs r) (hc : bt rs = 0) [c0 : Ct (llq rs) u k] [ha : Zl (llq rs) u k a x w v] [hb : Zl (llq rs) u k b y w' v'] (hs : w + v + (w' + v') <= 10000 := by decide) :
  Con prog 78 [.ptr 1000 0,nA a,nA b] [(1000,some (df rs))] (nA (sX (x-y))) [(1000,some (df rs))]:=by
 have hx:=B9 (ha:=ha) (hb:=hb) hs;rw[oV h hc]at hx;refine gF func78 (fun k z h=>bG h) ?_;refine gc hx ?_;refine gt (aJ (oo _ _) (aL rfl rfl rfl) aM rfl rfl) ?_;refine gR ?_;exact aH.keep (bu rfl)
end
structure DyW(l:Li)(a:As):Prop where
  hl:l.ok
  li:aO l=0
  al:AB a
  hc:bt a.rs=0
structure DyR(l:Li)(a:As):Prop extends DyW l a where
  s:DyS a
theorem DyR.two{l:Li}{a:As}(D:DyR l a):(llq a.rs).length<=2:=le_trans (D.s.one D.hc) oz
theorem Bt{n:Nat}(hn:n<=1):kB 64990 n<=65000:=by
 have h1:=g9 64990 hn;have h2:eB 64990 1=64992:=by simp only[eB]
 show eB 64990 _<=_;omega
theorem Dl{n:Nat}(h3:n<=2):kB 400000000 n<=1200000006:=by
 have h9:=g9 400000000 h3;have h8:eB 400000000 2=1200000006:=by decide
 show eB 400000000 _<=_;omega
abbrev uo(l:Li)(a:As)(i:Int)(j0 j:Jt):List AV :=
  qC (ai l j0 i)++([nA (sX (ax l a j0 i).1),nA (sX (ax l a j0 i).2)]++(qC (b9 l i j)++[nA (sh 0 (bV l i j0 j:Rat)),nA (sh 0 (fV l i j:Rat)),nA (sX (bX l a i j0 j)),nA (sX (bS l a i j0 j).1),nA (sX (bS l a i j0 j).2)]))
theorem x7{l:Li}{a:As}(D:DyR l a){n:Nat}{i:Int}{j0 j:Jt}(h0:l.jo[n]?=some j0)(p0:PinP 3900000 l a j0 i){m:Nat}(h1:l.jo[m]?=some j)(hb:Pd 3900000 a j.a) :
  Zu 310000 65000 (bS l a i j0 j).1 80 81/\Zu 310000 65000 (bS l a i j0 j).2 80 81:=by
 obtain⟨i1,i2,i3,i4,_⟩:=dw D.li h1;obtain⟨z1,z2⟩:=jU D.hl D.li D.al D.s D.hc h0 p0;obtain⟨y1,y2⟩:=lF D.hl D.li D.al D.s D.hc i1 i3 hb;haveI c:=D.s.ct D.hc;haveI:=z1;haveI:=z2;haveI:=y1;haveI:=y2
 exact⟨(inferInstance:Zu 310000 65000 ((aA l a j.a j.point).1-(ax l a j0 i).1) _ _),(inferInstance:Zu 310000 65000 ((aA l a j.a j.point).2-(ax l a j0 i).2) _ _)⟩
theorem RD{E:Nat}(hE:E<=20000000000){l:Li}{a:As}(D:DyW l a)(h3:(llq a.rs).length<=2){i z0 z1:Int}{j0 j:Jt}(hg:GrOk l ⟨3,[i],[z0,z1],0⟩)
  (h0:l.jo[z0.toNat]?=some j0) (h1:l.jo[z1.toNat]?=some j) (p0:PinP E l a j0 i) (hi:j.b=i) (hk:j.kind≠0) (hb:Pd E a j.a)
  (hsub:FP 76 [.agg [.lst 1 (a.rs.map nR)],aK (sX (aA l a j.a j.point).1) (sX (aA l a j.a j.point).2),aK (sX (ax l a j0 i).1) (sX (ax l a j0 i).2)] (.tup [aK (sX (bS l a i j0 j).1) (sX (bS l a i j0 j).2),.v .nilIface]))
  (hdot:FP 80 [.agg [.lst 1 (a.rs.map nR)],aK (sX (bS l a i j0 j).1) (sX (bS l a i j0 j).2),aK (sX (bS l a i j0 j).1) (sX (bS l a i j0 j).2)] (.tup [nA (sX (bX l a i j0 j)),.v .nilIface])) :
  Con prog 81 [.ptr 1000 0,.ptr 1001 0] [(1000,some (cm l ⟨3,[i],[z0,z1],0⟩ a)),(1001,some (df a.rs))] (.agg (uo l a i j0 j)) [(1000,some (cm l ⟨3,[i],[z0,z1],0⟩ a)),(1001,some (df a.rs))]:=by
 obtain⟨i1,i2,i3,i4,i5⟩:=dw D.li h1;have hs0:Sm 1000 (ai l j0 i):=ft D.hl D.li h0 (by rcases p0.tie with h9 |h9;exact .inl h9.1;exact .inr h9.2.1);subst hi;have hs1:=jQ D.hl D.li i2 i4;have hs2:=jQ D.hl D.li i2 (i5 hk);have hv:=hs2.sub hs1;refine gF func81 (fun k z h=>U3 h) ?_;refine gi (rfl) ?_;refine gt (aX (BY D.hl _ hg a rfl h1) (cZ rfl) rfl rfl rfl) ?_;refine gD ?_;refine gt (aJ (uf hE D.hl D.li _ hg D.al D.hc (k:=0) rfl h0 h3 p0) (.cons (.tmp rfl) (.cons (.const _) (cZ rfl))) aM rfl rfl) ?_;refine gt (aX (mN D.hl D.li _ a i2 i4) (aL rfl rfl rfl) rfl rfl rfl) ?_;refine gt (aX (mN D.hl D.li _ a i2 (i5 hk)) (aL rfl rfl rfl) rfl rfl rfl) ?_;refine gc (oC hs2 hs1 oz oz) ?_;refine gD ?_;refine gc (oC hs1 hs0 oz oz) ?_;refine gc (K6 hv (hs1.sub hs0) oz oz) ?_;refine gc (oE ((hv.cross (hs1.sub hs0)).qs oz)) ?_;refine gc (zY hv oz) ?_;refine gD ?_;refine gt (aJ (tP D.hl D.li _ D.al D.hc i1 i3 hE h3 hb) (aL rfl rfl rfl) aM rfl rfl) ?_;refine gC (fun t63=>?_) (fun t63=>?_) (st2:=(77777,0))
 ·refine gc hsub ?_;refine gt (aJ (Con.rB 1001 rfl rfl rfl rfl (vR _ _ _)) (aL rfl rfl rfl) aM rfl rfl) ?_;refine gD ?_;refine gc hdot ?_;refine gt (aJ (Con.rB 1001 rfl rfl rfl rfl (oo _ _)) (aL rfl rfl rfl) aM rfl rfl) ?_;refine gD ?_;refine gR ?_;exact aH.keep (Jb rfl rfl)
 cases t63
theorem DV{l:Li}{a:As}(D:DyR l a){i z0 z1:Int}{j0 j:Jt}(hg:GrOk l ⟨3,[i],[z0,z1],0⟩)
  (h0:l.jo[z0.toNat]?=some j0) (h1:l.jo[z1.toNat]?=some j) (p0:PinP 3900000 l a j0 i) (hi:j.b=i) (hk:j.kind≠0) (hb:Pd 3900000 a j.a) :
  Con prog 81 [.ptr 1000 0,.ptr 1001 0] [(1000,some (cm l ⟨3,[i],[z0,z1],0⟩ a)),(1001,some (df a.rs))] (.agg (uo l a i j0 j)) [(1000,some (cm l ⟨3,[i],[z0,z1],0⟩ a)),(1001,some (df a.rs))]:=by
 obtain⟨i1,i2,i3,i4,i5⟩:=dw D.li h1;obtain⟨z1',z2'⟩:=jU D.hl D.li D.al D.s D.hc h0 p0;obtain⟨y1,y2⟩:=lF D.hl D.li D.al D.s D.hc i1 i3 hb;obtain⟨w1,w2⟩:=x7 D h0 p0 h1 hb;haveI c:=D.s.ct D.hc;haveI:=z1';haveI:=z2';haveI:=y1;haveI:=y2;haveI:=w1;haveI:=w2
 have hsub:=zV (ts:=llq a.rs) (u:=310000) (k:=65000) (a:=sX (aA l a j.a j.point).1) (b:=sX (aA l a j.a j.point).2) (a2:=sX (ax l a j0 i).1) (b2:=sX (ax l a j0 i).2);have hdot:=Fi (ts:=llq a.rs) (u:=310000) (k:=65000) (a:=sX (bS l a i j0 j).1) (b:=sX (bS l a i j0 j).2) (a2:=sX (bS l a i j0 j).1) (b2:=sX (bS l a i j0 j).2);rw[oV D.s.tr D.hc]at hsub hdot;exact RD oz D.toDyW D.two hg h0 h1 p0 hi hk hb hsub hdot
theorem BD{l:Li}{a:As}(D:DyR l a){i:Int}{j0 j:Jt}{w v:Nat}[z1:Zl (llq a.rs) 310000 65000 (sh 0 (bV l i j0 j:Rat)) (qE (bV l i j0 j)) 3 0][z2:Zl (llq a.rs) 310000 65000 (sh 0 (fV l i j:Rat)) (qE (fV l i j)) 3 0][z3:Zu 310000 65000 (bX l a i j0 j) w v](hw:w+v<=2000) :
  Con prog 82 [.agg (uo l a i j0 j),.ptr 1001 0] [(1001,some (df a.rs))] (nA (sX (qE (fV l i j)*bX l a i j0 j-qE (bV l i j0 j)*qE (bV l i j0 j)))) [(1001,some (df a.rs))]:=by
 haveI c:=D.s.ct D.hc;haveI:=z1.zu;haveI:=z2.zu
 have m1:=uL (a:=sh 0 (fV l i j:Rat)) (b:=sX (bX l a i j0 j)) D.s.tr D.hc oz;have m2:=uL (a:=sh 0 (bV l i j0 j:Rat)) (b:=sh 0 (bV l i j0 j:Rat)) D.s.tr D.hc oz;have m3:=CU (a:=sX (qE (fV l i j)*bX l a i j0 j)) (b:=sX (qE (bV l i j0 j)*qE (bV l i j0 j):Et (llq a.rs))) D.s.tr D.hc oz;refine gF func82 (fun k z h=>by have:=(fw h).1;omega) ?_;refine gt (aJ (Con.rB 1001 rfl rfl rfl rfl m1) (aL rfl rfl rfl) aM rfl rfl) ?_;refine gt (aJ (Con.rB 1001 rfl rfl rfl rfl m2) (aL rfl rfl rfl) aM rfl rfl) ?_;refine gt (aJ (Con.rB 1001 rfl rfl rfl rfl m3) (aL rfl rfl rfl) aM rfl rfl) ?_;refine gD ?_;refine gR ?_;exact aH.keep (bu rfl)
abbrev Ci:Type:=List Rat×List Rat×List Rat
abbrev Gy(c:Ci):AV:=.agg [nA c.1,nA c.2.1,nA c.2.2]
structure CiZ(rs:List (List Rt))(c:Ci):Prop where
  x:Nm (llq rs).length 2500000000 c.1
  y:Nm (llq rs).length 2500000000 c.2.1
  r:Nm (llq rs).length 2500000000 c.2.2
  sg:0<=ak (dE (llq rs) c.2.2)
theorem Ty{ts:LL}(p q:Et ts×Et ts):dotE (q.1-p.1) (q.2-p.2) (q.1-p.1) (q.2-p.2)=az p q:=by
 unfold az co aE dotE;dsimp only;grind
theorem B5{ts:LL}(c:Ct ts 310000 65000){x y x2 y2:Et ts}(h1:Zu 310000 65000 x 40 40)(h2:Zu 310000 65000 y 40 40)(h3:Zu 310000 65000 x2 40 40)(h4:Zu 310000 65000 y2 40 40):Zu 310000 65000 (az (x,y) (x2,y2)) 320 327:=by
 haveI:=c;haveI:=h1;haveI:=h2;haveI:=h3;haveI:=h4
 exact(inferInstance:Zu 310000 65000 (dotE (x-x2) (y-y2) (x-x2) (y-y2)) _ _)
section
variable{rs:List (List Rt)}{r:Nat}{a b c a2 b2 c2:List Rat}
theorem GU(h:TR rs r)(hc:bt rs=0){e:Nat}(ha:Nm (llq rs).length e a)(hb:Nm (llq rs).length e b)(he:e<=lm (llq rs).length):FP 273 [cq rs,aK a b] (.v .nilIface):=by
 obtain⟨tw,etw⟩:=cI h hc;have hca:=rO tw [(a,b)] (fun p hp=>by rw[List.mem_singleton.1 hp];exact⟨ha,hb⟩) he (by show 1<=500;omega);rw[<- etw]at hca;refine aj func273 ?_;refine gc hca ?_;refine af ?_;rfl
theorem FM(h:TR rs r)(hc:bt rs=0){e:Nat}(ha:Nm (llq rs).length e a)(hb:Nm (llq rs).length e b)(hn:Nm (llq rs).length e c)(he:e+1<=lm (llq rs).length):FP 272 [cq rs,.agg [nA a,nA b,nA c]] (.v .nilIface):=by
 obtain⟨tw,etw⟩:=cI h hc;have hneg:=zF tw hn oz;rw[<- etw]at hneg;refine aj func272 ?_;refine gc (GU h hc ha hb oz) ?_;refine gC (fun t13=>?_) (fun t13=>?_) (st1:=(3,0));cases t13;refine gc hneg ?_;refine af ?_;rfl
theorem Hy(h:TR rs r)(hc:bt rs=0)(cs:List Ci)(hz:∀c∈cs,CiZ rs c)(hl:cs.length<=100):FP 274 [cq rs,.lst 3 (cs.map Gy)] (.v .nilIface):=by
 obtain⟨tw,etw⟩:=cI h hc;have hlm:=kZ (llq rs).length;refine aj func274 ?_;refine gl ?_;refine a5 [2,9,10] [2] (fun(i:Nat)=>[(11,some (i64 i))]) (fun _=>[]) (fun i=>i<=cs.length) (fun i=>cs.length-i) 0 (zero_le _) ?_;rintro i hi K1 J1;refine gC (fun t12=>?_) (fun t12=>?_)
 ·have hin:=bn t12;obtain⟨z,hzi⟩:=aG hin;have hz9:=hz z (mem_of_getElem? hzi);have hs:=IP tw hz9.r oz;rw[<- etw]at hs;refine gi (aN hzi) ?_;refine gc hs ?_;refine gC (fun t23=>?_) (fun t23=>?_) (st1:=(6,0));cases t23;refine gC (fun t26=>?_) (fun t26=>?_) (st1:=(8,0));exact absurd t26 (by have h9:=hz9.sg;unfold ak dE at h9;simp only[ac,decide_eq_true_eq];omega);refine ga aW ?_;exact aT J1 (i+1) hin
 refine af ?_;rfl
theorem Gm(h:TR rs r)(hc:bt rs=0)(cs:List Ci)(hz:∀c∈cs,CiZ rs c)(hl:cs.length<=100):FP 167 [cq rs,.lst 3 (cs.map Gy)] (.v .nilIface):=by
 have hlm:=kZ (llq rs).length;have hck:=r5 rs r h;rw[hc]at hck;refine aj func167 ?_;refine gc hck ?_;refine gC (fun t12=>?_) (fun t12=>?_) (st1:=(3,0));cases t12;refine gl ?_;refine a5 [1,2,14,15] [2] (fun(i:Nat)=>[(16,some (i64 i))]) (fun _=>[]) (fun i=>i<=cs.length) (fun i=>cs.length-i) 0 (zero_le _) ?_;rintro i hi K1 J1;refine gC (fun t17=>?_) (fun t17=>?_)
 ·have hin:=bn t17;obtain⟨z,hzi⟩:=aG hin;have hz9:=hz z (mem_of_getElem? hzi);refine gi (aN hzi) ?_;refine gc (FM h hc hz9.x hz9.y hz9.r oz) ?_;refine gC (fun t24=>?_) (fun t24=>?_) (st1:=(9,0));cases t24;refine ga aW ?_;exact aT J1 (i+1) hin
 refine gc (Hy h hc cs hz hl) ?_;refine af ?_;rfl
theorem PS(h:TR rs r)(hc:bt rs=0){x y x2 y2:Et (llq rs)}[c0:Ct (llq rs) 310000 65000][i1:Zl (llq rs) 310000 65000 a x 40 40][i2:Zl (llq rs) 310000 65000 b y 40 40][i4:Zl (llq rs) 310000 65000 a2 x2 40 40][i5:Zl (llq rs) 310000 65000 b2 y2 40 40] :
  FP 282 [cq rs,aK a b,aK a2 b2] (.tup [nA (sX (az (x,y) (x2,y2))),.v .nilIface]):=by
 obtain⟨_,etw⟩:=cI h hc;obtain⟨R,tw,hk⟩:=c0.ex;have kk:=c0.kk hk;obtain⟨K,hK⟩:∃K,40*310000+40*65000=K:=⟨_,rfl⟩
 have hlm:=kZ (llq rs).length;have n1:=i1.nm;have n2:=i2.nm;have n4:=i4.nm;have n5:=i5.nm
 have hca:=rO tw [(a,b),(a2,b2)] (e:=40*310000+40*65000) (fun p hp=>by
  simp only[mem_cons,not_mem_nil,or_false]at hp;rcases hp with rfl |rfl
  ·exact⟨n1,n2⟩
  ·exact⟨n4,n5⟩) oz (by show 2<=500;omega)
 rw[<- etw]at hca;have hle:=Di tw n4 n5 n1 n2 oz;have m1:=n4.sub n1;have m2:=n5.sub n2;have hdo:=DZ tw m1 m2 m1 m2 oz;rw[i1.eq,i2.eq,i4.eq,i5.eq]at hle;rw[i1.eq,i2.eq,i4.eq,i5.eq,bc,bc]at hdo;have hd2:=Ty (x,y) (x2,y2);refine aj func282 ?_;refine gc hca ?_;refine gC (fun t17=>?_) (fun t17=>?_) (st1:=(3,0)) (st2:=(5,0));cases t17;refine gW (Wk.of (sl:=[(4,some (.ptr 4 0)),(5,some (.ptr 5 0)),(9,some (.ptr 21 0))]) (hp:=[(4,some (.box [nA a,nA b])),(5,some (.box [nA a2,nA b2])),(21,some (.box [.lst 1 ((llq rs).map nA),.v .nilIface]))]) bj (.k (.k (.cons rfl (BlkSub.bL (.cons (.of (lJ etw)) (.cons (.refl _) .nil)) rfl) .nil)))) ?_;refine gt (aJ (Con.rB 21 rfl rfl rfl rfl hle) (aL rfl rfl rfl) aM rfl rfl) ?_;refine gt (aJ (Con.rB 21 rfl rfl rfl rfl hdo) (aL rfl rfl rfl) aM rfl rfl) ?_;refine gt (aJ (Con.rB 21 rfl rfl rfl rfl (G8 _ _)) (bO rfl rfl) aM rfl rfl) ?_;refine bF ?_;rw[<- hd2];rfl
theorem sF(rs:List (List Rt))(a:List Rat):Con prog 275 [.ptr 1000 0,nA a,.v .nilIface] [(1000,some (df rs))] (nA a) [(1000,some (df rs))]:=by
 refine gF func275 (fun k z h=>bG h) ?_;refine gC (fun t11=>?_) (fun t11=>?_) (st2:=(77777,0))
 ·refine gR ?_;exact aH.keep (bu rfl)
 cases t11
end
section
variable{rs:List (List Rt)}{r u k:Nat}{a b:List Rat}{x y:Et (llq rs)}{w v w' v':Nat}
theorem Mo (h : TR rs r) (hc : bt rs = 0) [c0 : Ct (llq rs) u k] [ha : Zl (llq rs) u k a x w v] [hb : Zl (llq rs) u k b y w' v'] (hs : w + v + (w' + v') <= 10000 := by decide) :
  Con prog 270 [.ptr 1000 0,nA a,nA b] [(1000,some (df rs))] (nA (sX (x+y))) [(1000,some (df rs))]:=by
 have hx:=ML (ha:=ha) (hb:=hb) hs;rw[oV h hc]at hx;refine gF func270 (fun k z h=>bG h) ?_;refine gc hx ?_;refine gt (aJ (sF _ _) (aL rfl rfl rfl) aM rfl rfl) ?_;refine gR ?_;exact aH.keep (bu rfl)
theorem Fy (h : TR rs r) (hc : bt rs = 0) [c0 : Ct (llq rs) u k] [ha : Zl (llq rs) u k a x w v] [hb : Zl (llq rs) u k b y w' v'] (hs : w + v + (w' + v') <= 10000 := by decide) :
  Con prog 266 [.ptr 1000 0,nA a,nA b] [(1000,some (df rs))] (nA (sX (x-y))) [(1000,some (df rs))]:=by
 have hx:=B9 (ha:=ha) (hb:=hb) hs;rw[oV h hc]at hx;refine gF func266 (fun k z h=>bG h) ?_;refine gc hx ?_;refine gt (aJ (sF _ _) (aL rfl rfl rfl) aM rfl rfl) ?_;refine gR ?_;exact aH.keep (bu rfl)
theorem yg (h : TR rs r) (hc : bt rs = 0) [c0 : Ct (llq rs) u k] [ha : Zl (llq rs) u k a x w v] [hb : Zl (llq rs) u k b y w' v'] (hs : w + v + (w' + v') <= 10000 := by decide) :
  Con prog 276 [.ptr 1000 0,nA a,nA b] [(1000,some (df rs))] (nA (sX (x*y))) [(1000,some (df rs))]:=by
 have hx:=CR (ha:=ha) (hb:=hb) hs;rw[oV h hc]at hx;refine gF func276 (fun k z h=>bG h) ?_;refine gc hx ?_;refine gt (aJ (sF _ _) (aL rfl rfl rfl) aM rfl rfl) ?_;refine gR ?_;exact aH.keep (bu rfl)
theorem Ju (h : TR rs r) (hc : bt rs = 0) [c0 : Ct (llq rs) u k] (n : Int) (hn : -9223372036854775808 <= n /\ n <= 9223372036854775807) [hq : Qz u (n : Rat) w'] [ha : Zl (llq rs) u k a x w v] (hs : w' + 0 + (w + v) <= 10000 := by decide) :
  Con prog 267 [.ptr 1000 0,i64 n,nA a] [(1000,some (df rs))] (nA (sX (qE (n:Rat)*x))) [(1000,some (df rs))]:=by
 have hm:=yg (a:=sh 0 ((n:Rat):Rat)) (b:=a) h hc hs;refine gF func267 (fun k z h=>bG h) ?_;refine gc (mY n hn) ?_;refine gc (oE (mG hn)) ?_;refine gt (aJ hm (aL rfl rfl rfl) aM rfl rfl) ?_;refine gR ?_;exact aH.keep (bu rfl)
end
section
variable{rs:List (List Rt)}{r:Nat}{a b c a2 b2 c2:List Rat}{x y z x2 y2 z2:Et (llq rs)}
theorem GV(h:TR rs r)(hc:bt rs=0)[c0:Ct (llq rs) 310000 65000][i1:Zl (llq rs) 310000 65000 a x 40 40][i2:Zl (llq rs) 310000 65000 b y 40 40][i3:Zl (llq rs) 310000 65000 c z 3 0][i4:Zl (llq rs) 310000 65000 a2 x2 40 40][i5:Zl (llq rs) 310000 65000 b2 y2 40 40][i6:Zl (llq rs) 310000 65000 c2 z2 3 0] :
  Con prog 168 [.ptr 1000 0,.agg [nA a,nA b,nA c],.agg [nA a2,nA b2,nA c2]] [(1000,some (df rs))] (.tup [nA (sX (bg (x,y) z (x2,y2) z2)),nA (sX (az (x,y) (x2,y2)))]) [(1000,some (df rs))]:=by
 have hd:=PS (a:=a) (b:=b) (a2:=a2) (b2:=b2) h hc;haveI:=i3.zu;haveI:=i6.zu;haveI zd:=B5 c0 i1.zu i2.zu i4.zu i5.zu;haveI q4:Qz 310000 ((4:Int):Rat) 1:=Qz.int (c:=Ct.cx (c:=c0)) (by decide);have m1:=Mo (a:=c) (b:=sX (az (x,y) (x2,y2))) h hc (by decide);have m2:=Fy (a:=sX (z+az (x,y) (x2,y2))) (b:=c2) h hc (by decide);have m3:=yg (a:=c) (b:=sX (az (x,y) (x2,y2))) h hc (by decide);have m4:=Ju (a:=sX (z*az (x,y) (x2,y2))) h hc 4 oz (by decide);have m5:=yg (a:=sX (z+az (x,y) (x2,y2)-z2)) (b:=sX (z+az (x,y) (x2,y2)-z2)) h hc (by decide);have m6:=Fy (a:=sX (qE ((4:Int):Rat)*(z*az (x,y) (x2,y2)))) (b:=sX ((z+az (x,y) (x2,y2)-z2)*(z+az (x,y) (x2,y2)-z2))) h hc (by decide);refine gF func168 (fun k z h=>bG h) ?_;refine gc hd ?_;refine gt (aX (sF _ _) (aL rfl rfl rfl) rfl rfl rfl) ?_;refine gD ?_;refine gt (aX m1 (aL rfl rfl rfl) rfl rfl rfl) ?_;refine gt (aX m2 (aL rfl rfl rfl) rfl rfl rfl) ?_;refine gD ?_;refine gt (aX m3 (aL rfl rfl rfl) rfl rfl rfl) ?_;refine gt (aX m4 (.cons (.tmp rfl) (.cons (.const _) (cZ rfl))) rfl rfl rfl) ?_;refine gt (aX m5 (aL rfl rfl rfl) rfl rfl rfl) ?_;refine gt (aX m6 (aL rfl rfl rfl) rfl rfl rfl) ?_;refine gR ?_;exact aH.keep (bu rfl)
theorem Lh(h:TR rs r)(hc:bt rs=0)[c0:Ct (llq rs) 310000 65000][i1:Zl (llq rs) 310000 65000 a x 40 40][i2:Zl (llq rs) 310000 65000 b y 40 40][i3:Zl (llq rs) 310000 65000 c z 3 0][i4:Zl (llq rs) 310000 65000 a2 x2 40 40][i5:Zl (llq rs) 310000 65000 b2 y2 40 40][i6:Zl (llq rs) 310000 65000 c2 z2 3 0]
  (s1:0<=ak z) (s2:0<=ak z2):FP 72 [cq rs,.agg [nA a,nA b,nA c],.agg [nA a2,nA b2,nA c2]] (.tup [nA (sX (bg (x,y) z (x2,y2) z2)),.v .nilIface]):=by
 have hz:∀q∈[(a,b,c),(a2,b2,c2)],CiZ rs q:=fun q hq=>by
  simp only[mem_cons,not_mem_nil,or_false]at hq;rcases hq with rfl |rfl
  ·exact⟨i1.nm.mono oz,i2.nm.mono oz,i3.nm.mono oz,by show 0<=ak (dE (llq rs) c);rw[show dE (llq rs) c=z from i3.eq];exact s1⟩
  ·exact⟨i4.nm.mono oz,i5.nm.mono oz,i6.nm.mono oz,by show 0<=ak (dE (llq rs) c2);rw[show dE (llq rs) c2=z2 from i6.eq];exact s2⟩
 have hck:=Gm h hc [(a,b,c),(a2,b2,c2)] hz (by show 2<=100;omega);refine aj func72 ?_;refine gc hck ?_;refine gC (fun t18=>?_) (fun t18=>?_) (st1:=(3,0)) (st2:=(5,0));cases t18;refine gW (Wk.o (sl:=[(4,some (.ptr 4 0)),(5,some (.ptr 5 0)),(9,some (.ptr 22 0))]) (hp:=[(4,some (.box [nA a,nA b,nA c])),(5,some (.box [nA a2,nA b2,nA c2])),(22,some (df rs))])) ?_;refine gt (aJ (Con.rB 22 rfl rfl rfl rfl (GV h hc)) (aL rfl rfl rfl) aM rfl rfl) ?_;refine gC (fun t34=>?_) (fun t34=>?_) (st1:=(7,0));cases t34;refine gR ?_;exact lM rfl
end
class Cy(ts:LL)(u k:outParam Nat):Prop where
  ex:∃R,Tw ts R/\eB R ts.length<=k
  k1:1<=k
  u3:3<=u
  two:ts.length<=2
instance Cy.cx{ts:LL}{u k:Nat}[c:Cy ts u k]:Cx (aw ts) ts.length u k:=by
  obtain⟨R,tw,h⟩:=c.ex;exact⟨⟨R,DG tw▸tw,h⟩,c.k1,c.u3⟩
theorem Cy.zq{ts:LL}{u k:Nat}[c:Cy ts u k]{q:Rat}{w:Nat}[h:Qz u q w]:Zl ts u k (sh 0 (q:Rat)) (qE q:Et ts) w 0:=⟨ik _ q,by
 obtain⟨R,tw,_⟩:=c.ex;exact(Nm.ofQ tw.five h.cb).eq oz⟩
theorem Cy.lm{ts:LL}{u k:Nat}(c:Cy ts u k):lm ts.length=200000000000:=by unfold Go.Lw.lm;rw[if_pos c.two]
def iE{ts:LL}(y:Et ts):Et ts:=T.inv (aw ts) ts.length y
abbrev bh(ts:LL):Blk:=.box [.lst 1 (ts.map nA),.v .nilIface]
theorem AC(ts:LL):df (ts.map (List.map rt))=bh ts:=by
 have h:=gO ts;unfold cq aR at h;have h1:=AV.agg.inj h
 injection h1 with h2
 show Blk.box [.lst 1 ((ts.map (List.map rt)).map nR),.v .nilIface]=_;rw[h2]
section
variable{ts:LL}{u k:Nat}{a b:List Rat}{x y:Et ts}{w v w' v':Nat}
theorem Rc[c:Cy ts u k][ha:Zl ts u k a x w v][hb:Zl ts u k b y w' v'](hs:w*u+v*k+(w'*u+v'*k)<200000000000):FP 356 [aR ts,nA a,nA b] (.tup [nA (sX (x+y)),.v .nilIface]):=by
 obtain⟨R,tw,hk⟩:=c.ex;have h1:=yS tw ha.nm hb.nm (by rw[c.lm];omega);rw[ha.eq,hb.eq]at h1;exact h1
theorem Qf[c:Cy ts u k][ha:Zl ts u k a x w v][hb:Zl ts u k b y w' v'](hs:w*u+v*k+(w'*u+v'*k)<200000000000):FP 176 [aR ts,nA a,nA b] (.tup [nA (sX (x-y)),.v .nilIface]):=by
 obtain⟨R,tw,hk⟩:=c.ex;have h1:=nP tw ha.nm hb.nm (by rw[c.lm];omega);rw[ha.eq,hb.eq]at h1;exact h1
theorem U7[c:Cy ts u k][ha:Zl ts u k a x w v][hb:Zl ts u k b y w' v'](hs:w*u+v*k+(w'*u+v'*k)<200000000000):FP 127 [aR ts,nA a,nA b] (.tup [nA (sX (x*y)),.v .nilIface]):=by
 obtain⟨R,tw,hk⟩:=c.ex;have h1:=Be tw ha.nm hb.nm (by rw[c.lm];omega);rw[ha.eq,hb.eq]at h1;exact h1
theorem Gn[c:Cy ts u k][ha:Zl ts u k a x w v](hs:w*u+v*k<200000000000):FP 147 [aR ts,nA a] (.tup [nA (sX (-x)),.v .nilIface]):=by
 obtain⟨R,tw,hk⟩:=c.ex;have h1:=zF tw ha.nm (by rw[c.lm];omega);rw[ha.eq]at h1;exact h1
theorem HG[c:Cy ts u k][ha:Zl ts u k a x w v](hs:w*u+v*k<200000000000):FP 116 [aR ts,nA a] (.tup [i64 (ak x),.v .nilIface]):=by
 obtain⟨R,tw,hk⟩:=c.ex;have h1:=IP tw ha.nm (by rw[c.lm];omega);rw[ha.eq]at h1;exact h1
theorem Rz{j m:Nat}[c:Cy ts u k][ha:Zl ts u k a x w v][hb:Zl ts u k b y w' v'](nb:Nl j b)(hj:j<=ts.length)(h0:ak y≠0)(hm:∀R,eB R ts.length<=k->iB R j (w'*u+v'*k)<=m)(hf:w'*u+v'*k<200000000000)(hs:w*u+v*k+m+k<=200000000000) :
  FP 281 [aR ts,nA a,nA b] (.tup [nA (sX (x*iE y)),.v .nilIface])/\Nm ts.length (w*u+v*k+m+k) (sX (x*iE y)):=by
 obtain⟨R,tw,hk⟩:=c.ex;have hi:=hm R hk;have he:=hb.eq;have h1:T.sgn (aw ts) ts.length (ae ts.length b)≠0:=by rw[he];exact h0
 have hd:=zG tw ha.nm hb.nm hj nb h1 (by rw[c.lm];omega) oz;have hn:=yb tw ha.nm hb.nm hj nb h1 (by rw[c.lm];omega) oz;rw[ha.eq,he]at hd hn;exact⟨hd,hn.mono oz⟩
theorem rx{j:Nat}[c:Cy ts u k][ha:Zl ts u k a x w v][hb:Zl ts u k b y w' v'](nb:Nl j b)(hj:j<=ts.length)(hj1:j<=1)(h0:ak y≠0)(hs:(w+5*w')*u+(v+5*v'+3)*k<=200000000000) :
  FP 281 [aR ts,nA a,nA b] (.tup [nA (sX (x*iE y)),.v .nilIface])/\Zu u k (x*iE y) (w+5*w') (v+5*v'+3):=by
 have e:(w+5*w')*u+(v+5*v'+3)*k=w*u+v*k+(5*(w'*u+v'*k)+2*k)+k:=by
  simp only[Nat.add_mul,Nat.mul_add,Nat.mul_assoc];omega
 rw[e]at hs
 have h:=Rz (a:=a) (b:=b) (m:=5*(w'*u+v'*k)+2*k) nb hj h0 (fun R hR=>by
  have h2:=OB R (w'*u+v'*k) hj1;have h3:=g9 R hj;omega) oz hs
 exact⟨h.1,⟨h.2.eq e.symm⟩⟩
theorem oQ(ts:LL)(a:List Rat):Con prog 275 [.ptr 1000 0,nA a,.v .nilIface] [(1000,some (bh ts))] (nA a) [(1000,some (bh ts))]:=by
 have h:=sF (ts.map (List.map rt)) a;rw[AC]at h;exact h
theorem pL(ts:LL)(a:List Rat):Con prog 71 [.ptr 1000 0,nA a,.v .nilIface] [(1000,some (bh ts))] (nA a) [(1000,some (bh ts))]:=by
 have h:=oo (ts.map (List.map rt)) a;rw[AC]at h;exact h
theorem jV[c:Cy ts u k][ha:Zl ts u k a x w v][hb:Zl ts u k b y w' v'](hs:w*u+v*k+(w'*u+v'*k)<200000000000) :
  Con prog 270 [.ptr 1000 0,nA a,nA b] [(1000,some (bh ts))] (nA (sX (x+y))) [(1000,some (bh ts))]:=by
 refine gF func270 (fun k z h=>bG h) ?_;refine gc (Rc hs) ?_;refine gt (aJ (oQ _ _) (aL rfl rfl rfl) aM rfl rfl) ?_;refine gR ?_;exact aH.keep (bu rfl)
theorem kX[c:Cy ts u k][ha:Zl ts u k a x w v][hb:Zl ts u k b y w' v'](hs:w*u+v*k+(w'*u+v'*k)<200000000000) :
  Con prog 266 [.ptr 1000 0,nA a,nA b] [(1000,some (bh ts))] (nA (sX (x-y))) [(1000,some (bh ts))]:=by
 refine gF func266 (fun k z h=>bG h) ?_;refine gc (Qf hs) ?_;refine gt (aJ (oQ _ _) (aL rfl rfl rfl) aM rfl rfl) ?_;refine gR ?_;exact aH.keep (bu rfl)
theorem jp[c:Cy ts u k][ha:Zl ts u k a x w v][hb:Zl ts u k b y w' v'](hs:w*u+v*k+(w'*u+v'*k)<200000000000) :
  Con prog 276 [.ptr 1000 0,nA a,nA b] [(1000,some (bh ts))] (nA (sX (x*y))) [(1000,some (bh ts))]:=by
 refine gF func276 (fun k z h=>bG h) ?_;refine gc (U7 hs) ?_;refine gt (aJ (oQ _ _) (aL rfl rfl rfl) aM rfl rfl) ?_;refine gR ?_;exact aH.keep (bu rfl)
theorem tl{q:List Rat}(hd:FP 281 [aR ts,nA a,nA b] (.tup [nA q,.v .nilIface])) :
  Con prog 269 [.ptr 1000 0,nA a,nA b] [(1000,some (bh ts))] (nA q) [(1000,some (bh ts))]:=by
 refine gF func269 (fun k z h=>bG h) ?_;refine gc hd ?_;refine gt (aJ (oQ _ _) (aL rfl rfl rfl) aM rfl rfl) ?_;refine gR ?_;exact aH.keep (bu rfl)
theorem pR[c:Cy ts u k][ha:Zl ts u k a x w v](hs:w*u+v*k<200000000000) :
  Con prog 263 [.ptr 1000 0,nA a] [(1000,some (bh ts))] (i64 (ak x)) [(1000,some (bh ts))]:=by
 refine gF func263 (fun k z h=>bG h) ?_;refine gC (fun t11=>?_) (fun t11=>?_) (st1:=(2,0));cases t11;refine gc (HG hs) ?_;refine gR ?_;exact aH.keep (bu rfl)
theorem vp{q:List Rat}(hd:FP 281 [aR ts,nA a,nA b] (.tup [nA q,.v .nilIface])) :
  Con prog 163 [.ptr 1000 0,nA a,nA b] [(1000,some (bh ts))] (nA q) [(1000,some (bh ts))]:=by
 refine gF func163 (fun k z h=>bG h) ?_;refine gc hd ?_;refine gt (aJ (pL _ _) (aL rfl rfl rfl) aM rfl rfl) ?_;refine gR ?_;exact aH.keep (bu rfl)
theorem yi[c:Cy ts u k][ha:Zl ts u k a x w v](hs:w*u+v*k<200000000000) :
  Con prog 160 [.ptr 1000 0,nA a] [(1000,some (bh ts))] (i64 (ak x)) [(1000,some (bh ts))]:=by
 refine gF func160 (fun k z h=>bG h) ?_;refine gC (fun t11=>?_) (fun t11=>?_) (st1:=(2,0));cases t11;refine gc (HG hs) ?_;refine gR ?_;exact aH.keep (bu rfl)
theorem xU[c:Cy ts u k](n:Int)(hn:-9223372036854775808<=n/\n<=9223372036854775807)[hq:Qz u (n:Rat) w'][ha:Zl ts u k a x w v](hs:w'*u+0*k+(w*u+v*k)<200000000000) :
  Con prog 267 [.ptr 1000 0,i64 n,nA a] [(1000,some (bh ts))] (nA (sX (qE (n:Rat)*x))) [(1000,some (bh ts))]:=by
 haveI:=Cy.zq (ts:=ts) (u:=u) (k:=k) (q:=(n:Rat)) (w:=w');have hm:=jp (ts:=ts) (u:=u) (k:=k) (a:=sh 0 ((n:Rat):Rat)) (b:=a) (x:=qE (n:Rat)) (y:=x) hs;refine gF func267 (fun k z h=>bG h) ?_;refine gc (mY n hn) ?_;refine gc (oE (mG hn)) ?_;refine gt (aJ hm (aL rfl rfl rfl) aM rfl rfl) ?_;refine gR ?_;exact aH.keep (bu rfl)
theorem sU{p1 p2 v1 v2 c m1 m2 q1 q2:List Rat}(h1:Con prog 276 [.ptr 1000 0,nA c,nA v1] [(1000,some (bh ts))] (nA m1) [(1000,some (bh ts))])
  (h2:Con prog 276 [.ptr 1000 0,nA c,nA v2] [(1000,some (bh ts))] (nA m2) [(1000,some (bh ts))])
  (h3:Con prog 270 [.ptr 1000 0,nA p1,nA m1] [(1000,some (bh ts))] (nA q1) [(1000,some (bh ts))])
  (h4:Con prog 270 [.ptr 1000 0,nA p2,nA m2] [(1000,some (bh ts))] (nA q2) [(1000,some (bh ts))]) :
  Con prog 268 [.ptr 1000 0,aK p1 p2,nA c,aK v1 v2] [(1000,some (bh ts))] (aK q1 q2) [(1000,some (bh ts))]:=by
 refine gF func268 (fun k z h=>bG h) ?_;refine gt (aJ h1 (aL rfl rfl rfl) aM rfl rfl) ?_;refine gt (aJ h3 (aL rfl rfl rfl) aM rfl rfl) ?_;refine gt (aJ h2 (aL rfl rfl rfl) aM rfl rfl) ?_;refine gt (aJ h4 (aL rfl rfl rfl) aM rfl rfl) ?_;refine gD ?_;refine gR ?_;exact aH.keep (bu rfl)
theorem C5{r e:Nat}(tw:Tw ts r)(ha:Nm ts.length e a)(he:e<=lm ts.length)(hs:0<=T.sgn (aw ts) ts.length (ae ts.length a)) :
  Con prog 271 [.ptr 1000 0,nA a] [(1000,some (bh ts))] (nA (cr ts.length)) [(1000,some (bh (aQ ts a)))]:=by
 refine gF func271 (fun k z h=>bG h) ?_;refine gC (fun t12=>?_) (fun t12=>?_) (st1:=(2,0));cases t12;refine gc (GI tw ha he hs) ?_;refine gC (fun t24=>?_) (fun t24=>?_) (st1:=(5,0));cases t24;refine gR ?_;exact aH.keep (bu rfl)
abbrev Ar(ts:LL)(ps:List AV):AV:=.agg [.lst 1 (ts.map nA),.lst 2 ps]
theorem LN{r:Nat}(tw:Tw ts r):Con prog 355 [.ptr 1000 0] [(1000,some (bh ts))] (aR ts) [(1000,some (bh ts))]:=by
 have h3:=tw.three;have hqs:=tw.rb.qs tw.le;refine gF func355 (fun k z h=>bG h) ?_;refine gl ?_;refine gW (Wk.virt 900 1 rfl) ?_;refine a5 [2,3,13,14] [1000,2] (fun(i:Nat)=>[(15,some (i64 i))]) (fun i=>[(3,some (.box [.ms 900 1 0 i])),(900,some (.row 1 ((ts.take i).map nA)))]) (fun i=>i<=ts.length) (fun i=>ts.length-i) 0 (zero_le _) ?_ (h2:=(.cons rfl (BlkSub.bL (.cons (.nM _ _ _) .nil) rfl) (.k .nil)));rintro i hi K1 J1;refine gC (fun t16=>?_) (fun t16=>?_) (st2:=(13,0))
 ·have hin:=bn t16;obtain⟨d,hd⟩:=aG hin
  have hdl:d.length<=32:=by
   have h9:=tw.len i hin;rw[ao hd]at h9;have:2^i<=32:=bY (b:=5) oz;omega
  have hdq:=hqs d (mem_of_getElem? hd);refine gi (aN hd) ?_;refine gl ?_;refine gW (Wk.virt 901 3 rfl) ?_;refine a5 [2,3,13,14,15,19,20] [1000,2,3,900] (fun(j:Nat)=>[(6,some (.ms 901 3 0 j)),(21,some (i64 j))]) (fun j=>[(901,some (.row 3 ((d.take j).map qA)))]) (fun j=>j<=d.length) (fun j=>d.length-j) 0 (zero_le _) ?_;rintro j hj K2 J2;refine gC (fun t22=>?_) (fun t22=>?_) (st2:=(11,0))
  ·have hjn:=bn t22;obtain ⟨q,hq⟩:=aG hjn;have hadd:=rv (rt q) (rt 0) (hdq q (mem_of_getElem? hq)).ok Qs.zero.ok;rw [vD,bP] at hadd;refine gi (aN hq) ?_;refine gc (Con.sA (.cons (.refl _) (.cons jz .nil)) hadd) ?_;refine gs (da (.tmp rfl) rfl (by rw [length_map,length_take]; omega) (.tmp rfl) T67 rfl T45 rfl rfl (by simp only [length_cons,length_nil]; omega) rfl rfl) ?_ (10,0);refine gW (Wk.of (sl:=[(2,some (.ptr 2 0)),(3,some (.ptr 3 0)),(13,some (.lst 1 (ts.map nA))),(14,some (i64 ts.length)),(15,some (i64 i)),(6,some (.ms 30 3 0 (j + 1))),(19,some (nA d)),(20,some (i64 d.length)),(21,some (i64 j))]) (hp:=[(1000,some (bh ts)),(2,some (.box [nS])),(3,some (.box [.ms 900 1 0 i])),(900,some (.row 1 ((ts.take i).map nA))),(30,some (.row 3 ((d.take (j + 1)).map qA)))]) bj (.k (.k (.k (.k (.cons rfl (BlkSub.of (by rw [d9 hq,map_append]; rfl)) .nil)))))) ?_ (10,0)
   refine gW (Wk.rk (k:=30) (d:=901) rfl rfl) ?_;refine ga aW ?_;exact aT J2 (j+1) hjn
  have hjn:=bE hj t22;subst hjn;refine gW ((Wk.freeze (k:=901) rfl).trans<|Wk.of (sl:=[(2,some (.ptr 2 0)),(3,some (.ptr 3 0)),(13,some (.lst 1 (ts.map nA))),(14,some (i64 ts.length)),(15,some (i64 i)),(6,some (nA d))]) (hp:=[(1000,some (bh ts)),(2,some (.box [nS])),(3,some (.box [.ms 900 1 0 i])),(900,some (.row 1 ((ts.take i).map nA)))]) (.k (.k (.k (.k (.k (.cons rfl (Sub.of (by rw[cw (by simp)];simp[nA])) .nil)))))) (.k (.k (.k (.k .nil))))) ?_
  refine gs (da (.tmp rfl) rfl (by rw[length_map,length_take];omega) (.tmp rfl) T35 rfl T67 rfl rfl (by simp only[length_cons,length_nil];omega) rfl rfl) ?_ (12,0);refine gW (Wk.of (sl:=[(2,some (.ptr 2 0)),(3,some (.ptr 3 0)),(13,some (.lst 1 (ts.map nA))),(14,some (i64 ts.length)),(15,some (i64 i))]) (hp:=[(1000,some (bh ts)),(2,some (.box [nS])),(3,some (.box [.ms 36 1 0 (i+1)])),(36,some (.row 1 ((ts.take (i+1)).map nA)))]) bj (.k (.k (.k (.cons rfl (BlkSub.of (by rw[d9 hd,map_append];rfl)) .nil))))) ?_ (12,0);refine gW (Wk.rk (k:=36) (d:=900) rfl rfl) ?_;refine ga aW ?_;exact aT J1 (i+1) hin
 have hin:=bE hi t16;subst hin;refine gW ((Wk.freeze (k:=900) rfl).trans<|Wk.of (sl:=[(2,some (.ptr 2 0)),(3,some (.ptr 3 0))]) (hp:=[(1000,some (bh ts)),(2,some (.box [nS])),(3,some (.box [.lst 1 (ts.map nA)]))]) bj (.k (.k (.cons rfl (BlkSub.bL (.cons (Sub.of (by rw[cw (by simp)];simp)) .nil) rfl) .nil)))) ?_;refine gR ?_;exact aH.keep (bu rfl)
theorem nG{r:Nat}(tw:Tw ts r)(ps:List AV):Con prog 265 [.ptr 1000 0,.lst 2 ps] [(1000,some (bh ts))] (.tup [Ar ts ps,.v .nilIface]) [(1000,some (bh ts))]:=by
 refine gF func265 (fun k z h=>bG h) ?_;refine gC (fun t10=>?_) (fun t10=>?_) (st1:=(2,0));cases t10;refine gt (aJ (LN tw) (cZ rfl) aM rfl rfl) ?_;refine gR ?_;exact aH.keep (bu rfl)
end
theorem dD(ts:LL)(a:List Rat):(aQ ts a).length=ts.length+1:=by simp[aQ]
theorem H3{ts:LL}{a:List Rat}{j:Nat}(h:j<ts.length):(aQ ts a).getD j []=ts.getD j []:=by
 unfold aQ;rw[getD_eq_getElem?_getD,getD_eq_getElem?_getD,getElem?_append_left h]
theorem un(ts:LL)(a:List Rat):(aQ ts a).getD ts.length []=aY a (2^ts.length):=by
 unfold aQ;rw[getD_eq_getElem?_getD,getElem?_append_right (le_refl _),Nat.sub_self];rfl
theorem wj{ts:LL}{a:List Rat}{j:Nat}(h:j<ts.length):aw (aQ ts a) j=aw ts j:=by
 unfold aw;rw[H3 h]
theorem xc{ts:LL}{a:List Rat}{j:Nat}(h:j<=ts.length)(x:T j):T.sgn (aw (aQ ts a)) j x=T.sgn (aw ts) j x :=
 T.sgn_congr j (fun i hi=>wj oz) x
theorem RB.ext{r e:Nat}{ts:LL}{a:List Rat}(h:RB r ts)(ha:Cb e a):RB (r+e) (aQ ts a):=by
 obtain⟨D,N,h0,h1,h2,h3⟩:=h;obtain⟨D',N',k1,k2,k3⟩:=ha.wide (n:=2^ts.length);have hN:N<=2^r:=h3;refine⟨D*D',max (N*D') (N'*D),Nat.mul_pos h0 k1.1,?_,?_,?_⟩
 ·intro d hd;rcases List.mem_append.1 hd with h9 |h9
  ·exact((h1 d h9).scale k1.1).mono (Nat.le_max_left _ _)
  ·rw[List.mem_singleton.1 h9,Nat.mul_comm D];exact(k1.scale h0).mono (Nat.le_max_right _ _)
 ·rw[pow_add];exact Nat.mul_le_mul h2 k2
 ·rw[pow_add];refine Nat.max_le.2 ⟨Nat.mul_le_mul h3 k2,?_⟩;rw[Nat.mul_comm (2^r)];exact Nat.mul_le_mul k3 h2
theorem zB{r e:Nat}{ts:LL}{a:List Rat}(tw:Tw ts r)(h2:ts.length<=2)(ha:Nm ts.length e a)(he:r+e<=5000000000)(hs:0<=T.sgn (aw ts) ts.length (ae ts.length a)):Tw (aQ ts a) (r+e):=by
 refine⟨by rw[dD];omega,?_,?_,tw.rb.ext ha.cb,he⟩
 ·intro j hj;rw[dD]at hj;rcases lt_or_ge j ts.length with h |h
  ·rw[H3 h];exact tw.len j h
  ·have : j = ts.length := by omega
   subst this;rw[un];exact dG ha.nl.le
 ·intro j hj;rw[dD]at hj;rw[xc oz];rcases lt_or_ge j ts.length with h |h
  ·rw[wj h];exact tw.pos j h
  ·have : j = ts.length := by omega
   subst this
   have e1:aw (aQ ts a) ts.length=ae ts.length a:=by
    show ae ts.length ((aQ ts a).getD ts.length [])=_;rw[un,no]
   rw[e1];exact hs
theorem lX{ts:LL}{a l:List Rat}{e:Nat}(h:Nm ts.length e l)(h4:ts.length<=4):Nm (aQ ts a).length e l:=by
 rw[dD];exact⟨by omega,h.nl.mono oz,h.cb⟩
theorem JU{ts:LL}{a l:List Rat}(h:Nl ts.length l):ak (dE (aQ ts a) l)=ak (dE ts l):=by
 unfold ak dE;rw[dD];show T.sgn (aw (aQ ts a)) (ts.length+1) (ae (ts.length+1) l)=_;rw[sG (aw (aQ ts a)) h.le (Nat.le_succ _),xc (le_refl _)]
theorem sY{ts:LL}{a:List Rat}(h4:ts.length<=4):Nm (aQ ts a).length 1 (cr ts.length):=by
 rw[dD];refine⟨by omega,.inr ⟨_,le_refl _,zx _⟩,1,1,⟨by omega,?_⟩,by omega,by omega⟩;intro q hq;unfold cr at hq;rcases List.mem_or_eq_of_mem_set hq with h |h
 ·rw[(List.mem_replicate.1 h).2];exact⟨0,by rw[Rat.zero_mul];rfl,by simp⟩
 ·rw[h];exact⟨1,by rw[Rat.one_mul];rfl,by simp⟩
theorem VJ{r e k:Nat}{ts:LL}{a:List Rat}(tw:Tw ts r)(h1:ts.length<=1)(ha:Nm ts.length e a)(he:r+e<=5000000000)(hs:0<=T.sgn (aw ts) ts.length (ae ts.length a)){u:Nat}(hu:3<=u)(hk:3*(r+e)+6<=k):Cy (aQ ts a) u k :=
 ⟨⟨r+e,zB tw oz ha he hs,by
  rw[dD];have h:=g9 (r+e) (show ts.length+1<=2 by omega);have h2:eB (r+e) 2=3*(r+e)+6:=by simp only[eB];omega
  omega⟩,by omega,hu,by rw[dD];omega⟩
structure Mt where
  ts:LL
  ps:List (List Rat×List Rat)
abbrev dm(p:List Rat×List Rat):AV:=aK p.1 p.2
abbrev Mt.av(m:Mt):AV:=Ar m.ts (m.ps.map dm)
abbrev P2(ts:LL):Type:=Et ts×Et ts
abbrev P2.l{ts:LL}(p:P2 ts):List Rat×List Rat:=(sX p.1,sX p.2)
abbrev aI{ts:LL}(X:Et ts)(x:Et ts):Et (aQ ts (sX X)):=dE (aQ ts (sX X)) (sX x)
section
variable{ts:LL}
def eG(d:Et ts):Et ts:=qE ((2:Int):Rat)*d
def fy(p q:P2 ts):P2 ts:=(q.1-p.1,q.2-p.2)
def cD(p:P2 ts)(k:Et ts)(v:P2 ts):P2 ts:=(p.1+k*v.1,p.2+k*v.2)
def cS(p q:P2 ts)(z z2:Et ts):P2 ts:=cD p ((z+az p q-z2)*iE (eG (az p q))) (fy p q)
def dZ(X d:Et ts):Et (aQ ts (sX X)):=dE _ (cr ts.length)*iE (aI X (eG d))
def gw(X:Et ts)(f v:P2 ts)(c:Et (aQ ts (sX X))):P2 (aQ ts (sX X)):=cD (aI X f.1,aI X f.2) c (qE ((-1:Int):Rat)*aI X v.2,aI X v.1)
def lh(p:P2 ts)(z z2:Et ts):Mt:=if ak (z-z2)≠0 then⟨ts,[]⟩else if 0<ak z then⟨[],[]⟩else⟨ts,[(cD p 0 p).l]⟩
def dc(p q:P2 ts)(z z2:Et ts):Mt :=
  if ak (az p q)=0 then lh p z z2
  else if ak (bg p z q z2)<0 then⟨ts,[]⟩
  else if ak (bg p z q z2)=0 then⟨ts,[(cS p q z z2).l]⟩
  else⟨aQ ts (sX (bg p z q z2)),[(gw (bg p z q z2) (cS p q z z2) (fy p q) (dZ (bg p z q z2) (az p q))).l,
    (gw (bg p z q z2) (cS p q z z2) (fy p q) (qE ((-1:Int):Rat)*dZ (bg p z q z2) (az p q))).l]⟩
def kc(z z2:Et ts):Nat:=if ak (z-z2)=0/\0<ak z then 15 else 0
def eL(p q:P2 ts)(z z2:Et ts):Nat:=if ak (az p q)=0 then kc z z2 else 0
theorem E6:Sub (.agg [nS,nS]) (Ar [] []):=Sub.agg (.cons (.nil _ _ _) (.cons (.nil _ _ _) .nil)) rfl
end
theorem TB {ts : LL} {u k : Nat} [c : Cy ts u k] : Zl ts u k [] (0 : Et ts) 0 0 := ⟨by rw [gQ]; exact E.zero_def.symm, by
 obtain⟨R,tw,_⟩:=c.ex;exact⟨tw.five,.inl rfl,Cb.nil.mono (zero_le _)⟩⟩
section
variable{ts:LL}{a b c a2 b2 c2:List Rat}{x y z x2 y2 z2:Et ts}
theorem JA{r:Nat}(tw:Tw ts r)[c0:Cy ts 310000 65000][i1:Zl ts 310000 65000 a x 40 40][i2:Zl ts 310000 65000 b y 40 40][i3:Zl ts 310000 65000 c z 3 0][i6:Zl ts 310000 65000 c2 z2 3 0] :
  Con prog 264 [.ptr 1000 0,.agg [nA a,nA b,nA c],.agg [nA a2,nA b2,nA c2]] [(1000,some (bh ts))]
   (.tup [(lh (x,y) z z2).av,cg (kc z z2)]) [(1000,some (bh ts))]:=by
 haveI:=i1.zu;haveI:=i2.zu;haveI:=i3.zu;haveI:=i6.zu;have hm0:=Con.sA (.cons (.refl _) (.cons (Sub.nil 2 none 0) .nil)) (nG tw []);have m1:=kX (ts:=ts) (u:=310000) (k:=65000) (a:=c) (b:=c2) (by decide);have m2:=pR (ts:=ts) (u:=310000) (k:=65000) (a:=sX (z-z2)) (by decide);have m3:=pR (ts:=ts) (u:=310000) (k:=65000) (a:=c) (by decide);haveI zn:Zl ts 310000 65000 [] (0:Et ts) 0 0:=TB;have n1:=jp (ts:=ts) (u:=310000) (k:=65000) (a:=[]) (b:=a) (by decide);have n2:=jp (ts:=ts) (u:=310000) (k:=65000) (a:=[]) (b:=b) (by decide);have n3:=jV (ts:=ts) (u:=310000) (k:=65000) (a:=a) (b:=sX (0*x)) (by decide);have n4:=jV (ts:=ts) (u:=310000) (k:=65000) (a:=b) (b:=sX (0*y)) (by decide);have hal:=Con.sA (.cons (.refl _) (.cons (.refl _) (.cons (Sub.nil 3 none 0) (.cons (.refl _) .nil)))) (sU n1 n2 n3 n4);refine gF func264 (fun k z h=>bG h) ?_;refine gt (aX m1 (aL rfl rfl rfl) rfl rfl rfl) ?_;refine gt (aX m2 (bO rfl rfl) rfl rfl rfl) ?_;refine gC (fun t8=>?_) (fun t8=>?_)
 ·have h1:ak (z-z2)≠0:=tk t8;refine gt (aX hm0 (.cons (.tmp rfl) (.cons (.const _) .nil)) rfl rfl rfl) ?_;refine gR ?_;exact(aH.keep (bu rfl)).sub (Sub.of (by unfold lh kc;rw[if_pos h1,if_neg (fun h=>h1 h.1)];rfl))
 have h1:ak (z-z2)=0:=wB t8;refine gt (aX m3 (bO rfl rfl) rfl rfl rfl) ?_;refine gC (fun t22=>?_) (fun t22=>?_)
 ·have h2:0<ak z:=of_decide_eq_true t22;refine gR ?_;exact(aH.keep (bu rfl)).sub (by unfold lh kc;rw[if_neg oz,if_pos h2,if_pos ⟨h1,h2⟩];exact Sub.tup (.cons E6 (.cons (.refl _) .nil)))
 have h2:¬0<ak z:=of_decide_eq_false t22;refine gt (aX hal (.cons (.tmp rfl) (.cons (.tmp rfl) (.cons (.const _) (cZ rfl)))) rfl rfl rfl) ?_;refine gt (aX (nG tw [aK (sX (x+0*x)) (sX (y+0*y))]) (bO rfl rfl) rfl rfl rfl) ?_;refine gR ?_;exact(aH.keep (bu rfl)).sub (Sub.of (by unfold lh kc;rw[if_neg oz,if_neg h2,if_neg (fun h=>h2 h.2)];rfl))
end
section
variable{rs:List (List Rt)}{r:Nat}{a b c a2 b2 c2:List Rat}{x y z x2 y2 z2:Et (llq rs)}
structure CirP(ts:LL)(p q:P2 ts)(z z2:Et ts):Prop where
  zd:Zu 310000 65000 (az p q) 320 327
  zX:Zu 310000 65000 (bg p z q z2) 976 989
  zt:Zu 310000 65000 (eG (az p q)) 321 328
  z1:Zu 310000 65000 (fy p q).1 80 81
  z2:Zu 310000 65000 (fy p q).2 80 81
theorem BT{ts:LL}{x y z x2 y2 z2:Et ts}(c:Ct ts 310000 65000)(h1:Zu 310000 65000 x 40 40)(h2:Zu 310000 65000 y 40 40)(h3:Zu 310000 65000 z 3 0)(h4:Zu 310000 65000 x2 40 40)(h5:Zu 310000 65000 y2 40 40)(h6:Zu 310000 65000 z2 3 0) :
  CirP ts (x,y) (x2,y2) z z2:=by
 haveI:=c;haveI:=h1;haveI:=h2;haveI:=h3;haveI:=h4;haveI:=h5;haveI:=h6
 haveI zd:=B5 c h1 h2 h4 h5;haveI q4:Qz 310000 ((4:Int):Rat) 1:=Qz.int (c:=Ct.cx (c:=c)) (by decide);haveI q2:Qz 310000 ((2:Int):Rat) 1:=Qz.int (c:=Ct.cx (c:=c)) (by decide)
 exact⟨zd,(inferInstance:Zu 310000 65000 (qE ((4:Int):Rat)*(z*az (x,y) (x2,y2))-(z+az (x,y) (x2,y2)-z2)*(z+az (x,y) (x2,y2)-z2)) _ _),
  (inferInstance:Zu 310000 65000 (qE ((2:Int):Rat)*az (x,y) (x2,y2)) _ _),(inferInstance:Zu 310000 65000 (x2-x) _ _),(inferInstance:Zu 310000 65000 (y2-y) _ _)⟩
theorem Co{ts:LL}{x y z x2 y2 z2:Et ts}[c0:Cy ts 310000 65000](hn:ts.length<=1)(h1:Zu 310000 65000 x 40 40)(h2:Zu 310000 65000 y 40 40)(h3:Zu 310000 65000 z 3 0)(h6:Zu 310000 65000 z2 3 0)(P:CirP ts (x,y) (x2,y2) z z2)
  (h0:ak (eG (az (x,y) (x2,y2)))≠0) :
  FP 281 [aR ts,nA (sX (z+az (x,y) (x2,y2)-z2)),nA (sX (eG (az (x,y) (x2,y2))))] (.tup [nA (sX ((z+az (x,y) (x2,y2)-z2)*iE (eG (az (x,y) (x2,y2))))),.v .nilIface]) /\
  Zu 310000 65000 ((z+az (x,y) (x2,y2)-z2)*iE (eG (az (x,y) (x2,y2)))) 1931 1972/\Zu 310000 65000 (cS (x,y) (x2,y2) z z2).1 2051 2095/\Zu 310000 65000 (cS (x,y) (x2,y2) z z2).2 2051 2095:=by
 haveI:=h1;haveI:=h2;haveI:=h3;haveI:=h6;haveI:=P.zd;haveI:=P.zt
 have hd:=rx (ts:=ts) (u:=310000) (k:=65000) (a:=sX (z+az (x,y) (x2,y2)-z2)) (b:=sX (eG (az (x,y) (x2,y2)))) (j:=ts.length) P.zt.nm.nl (le_refl _) hn h0 (by decide);haveI zk:=hd.2;haveI:=P.z1;haveI:=P.z2
 exact⟨hd.1,zk,(inferInstance:Zu 310000 65000 (x+((z+az (x,y) (x2,y2)-z2)*iE (eG (az (x,y) (x2,y2))))*(fy (x,y) (x2,y2)).1) _ _),
  (inferInstance:Zu 310000 65000 (y+((z+az (x,y) (x2,y2)-z2)*iE (eG (az (x,y) (x2,y2))))*(fy (x,y) (x2,y2)).2) _ _)⟩
structure ExtP{ts:LL}(X:Et ts):Prop where
  tw:Tw (aQ ts (sX X)) 366909990
  cy:Cy (aQ ts (sX X)) 773000000 1101400000
theorem sa{ts:LL}{X:Et ts}(tw:Tw ts 64990)(hn:ts.length<=1)(hx:Zu 310000 65000 X 976 989)(hs:0<=ak X):ExtP X:=by
 have h9:0<=T.sgn (aw ts) ts.length (ae ts.length (sX X)):=by rw[show ae ts.length (sX X)=X from bc _ _];exact hs
 have hm:=hx.nm;exact⟨zB tw oz hm (by decide) h9,VJ tw hn hm (by decide) h9 oz (by decide)⟩
theorem j8{ts:LL}{X x:Et ts}{w v:Nat}(hn:ts.length<=1)(h:Zu 310000 65000 x w v)(hs:w*310000+v*65000<=773000000):Zl (aQ ts (sX X)) 773000000 1101400000 (sX x) (aI X x) 1 0:=Zl.at (lX h.nm oz) hs
theorem od{ts:LL}{X x:Et ts}:ak (aI X x)=ak x:=by
 show ak (dE (aQ ts (sX X)) (sX x))=_;rw[JU (l:=sX x) (di _ _)];show ak (dE ts (sX x))=_;rw[show dE ts (sX x)=x from bc _ _]
theorem uZ{ts:LL}{r:Nat}(tw:Tw ts r)(d:Et ts):ak (eG d)=ak d:=by
 have h:=du (aw ts) ts.length tw.pos
 have h2:sg (aw ts) ts.length (qE ((2:Int):Rat):Et ts)=1:=by
  show T.sgn (aw ts) ts.length (T.ofQ ts.length ((2:Int):Rat))=1;rw[T.sgn_ofQ];rfl
 have h3:=h.mul (qE ((2:Int):Rat)) d;rw[h2,Int.one_mul]at h3;exact h3
structure SideP{ts:LL}(X d:Et ts)(f v:P2 ts):Prop where
  hd:FP 281 [aR (aQ ts (sX X)),nA (cr ts.length),nA (sX (eG d))] (.tup [nA (sX (dZ X d)),.v .nilIface])
  ht:Con prog 267 [.ptr 1000 0,i64 (-1),nA (sX v.2)] [(1000,some (bh (aQ ts (sX X))))] (nA (sX (qE ((-1:Int):Rat)*aI X v.2))) [(1000,some (bh (aQ ts (sX X))))]
  hu:Con prog 267 [.ptr 1000 0,i64 (-1),nA (sX (dZ X d))] [(1000,some (bh (aQ ts (sX X))))] (nA (sX (qE ((-1:Int):Rat)*dZ X d))) [(1000,some (bh (aQ ts (sX X))))]
  a1:Con prog 268 [.ptr 1000 0,aK (sX f.1) (sX f.2),nA (sX (dZ X d)),aK (sX (qE ((-1:Int):Rat)*aI X v.2)) (sX v.1)] [(1000,some (bh (aQ ts (sX X))))] (dm (gw X f v (dZ X d)).l) [(1000,some (bh (aQ ts (sX X))))]
  a2:Con prog 268 [.ptr 1000 0,aK (sX f.1) (sX f.2),nA (sX (qE ((-1:Int):Rat)*dZ X d)),aK (sX (qE ((-1:Int):Rat)*aI X v.2)) (sX v.1)] [(1000,some (bh (aQ ts (sX X))))] (dm (gw X f v (qE ((-1:Int):Rat)*dZ X d)).l) [(1000,some (bh (aQ ts (sX X))))]
  n1:Zu 773000000 1101400000 (gw X f v (dZ X d)).1 9 6/\Zu 773000000 1101400000 (gw X f v (dZ X d)).2 9 6
  n2:Zu 773000000 1101400000 (gw X f v (qE ((-1:Int):Rat)*dZ X d)).1 10 7/\Zu 773000000 1101400000 (gw X f v (qE ((-1:Int):Rat)*dZ X d)).2 10 7
theorem Cm{ts:LL}{X d:Et ts}{f v:P2 ts}(hn:ts.length<=1)(E:ExtP X)(hd:Zu 310000 65000 (eG d) 321 328)(h0:ak (eG d)≠0)(f1:Zu 310000 65000 f.1 2051 2095)(f2:Zu 310000 65000 f.2 2051 2095)
  (v1:Zu 310000 65000 v.1 80 81) (v2:Zu 310000 65000 v.2 80 81):SideP X d f v:=by
 haveI cy:=E.cy;haveI zr:Zl (aQ ts (sX X)) 773000000 1101400000 (cr ts.length) (dE _ (cr ts.length)) 1 0:=Zl.at (sY oz) (by decide);haveI zd:=j8 (X:=X) hn hd (by decide);haveI zf1:=j8 (X:=X) hn f1 (by decide);haveI zf2:=j8 (X:=X) hn f2 (by decide);haveI zv1:=j8 (X:=X) hn v1 (by decide);haveI zv2:=j8 (X:=X) hn v2 (by decide);haveI:=zf1.zu;haveI:=zf2.zu;haveI:=zv1.zu;haveI:=zv2.zu
 have hdiv:=rx (ts:=aQ ts (sX X)) (u:=773000000) (k:=1101400000) (a:=cr ts.length) (b:=sX (eG d)) (j:=ts.length) hd.nm.nl (by rw[dD];omega) hn (by rw[od];exact h0) (by decide);haveI zs:Zu 773000000 1101400000 (dZ X d) 6 3:=hdiv.2;haveI qm:Qz 773000000 ((-1:Int):Rat) 1:=Qz.int (c:=Cy.cx (c:=cy)) (by decide);haveI zm:Zu 773000000 1101400000 (qE ((-1:Int):Rat)*aI X v.2) 2 1:=inferInstance;haveI zu:Zu 773000000 1101400000 (qE ((-1:Int):Rat)*dZ X d) 7 4:=inferInstance;have ht:=xU (ts:=aQ ts (sX X)) (u:=773000000) (k:=1101400000) (a:=sX v.2) (-1) oz (by decide);have hu:=xU (ts:=aQ ts (sX X)) (u:=773000000) (k:=1101400000) (a:=sX (dZ X d)) (-1) oz (by decide)
 have al:∀{c:Et (aQ ts (sX X))}{w k:Nat}(zc:Zu 773000000 1101400000 c w k),w<=7->k<=4 ->
   Con prog 268 [.ptr 1000 0,aK (sX f.1) (sX f.2),nA (sX c),aK (sX (qE ((-1:Int):Rat)*aI X v.2)) (sX v.1)] [(1000,some (bh (aQ ts (sX X))))] (dm (gw X f v c).l) [(1000,some (bh (aQ ts (sX X))))]:=by
  intro c w k zc hw hk;haveI:=zc;have m1:=jp (ts:=aQ ts (sX X)) (u:=773000000) (k:=1101400000) (a:=sX c) (b:=sX (qE ((-1:Int):Rat)*aI X v.2)) oz;have m2:=jp (ts:=aQ ts (sX X)) (u:=773000000) (k:=1101400000) (a:=sX c) (b:=sX v.1) oz;have m3:=jV (ts:=aQ ts (sX X)) (u:=773000000) (k:=1101400000) (a:=sX f.1) (b:=sX (c*(qE ((-1:Int):Rat)*aI X v.2))) oz;have m4:=jV (ts:=aQ ts (sX X)) (u:=773000000) (k:=1101400000) (a:=sX f.2) (b:=sX (c*aI X v.1)) oz;exact sU m1 m2 m3 m4
 exact⟨hdiv.1,ht,hu,al zs oz oz,al zu oz oz,
  ⟨(inferInstance:Zu 773000000 1101400000 (aI X f.1+dZ X d*(qE ((-1:Int):Rat)*aI X v.2)) 9 6),⟨(inferInstance:Zu 773000000 1101400000 (aI X f.2+dZ X d*aI X v.1) _ _).nm.mono (by decide)⟩⟩,
  ⟨(inferInstance:Zu 773000000 1101400000 (aI X f.1+qE ((-1:Int):Rat)*dZ X d*(qE ((-1:Int):Rat)*aI X v.2)) 10 7),⟨(inferInstance:Zu 773000000 1101400000 (aI X f.2+qE ((-1:Int):Rat)*dZ X d*aI X v.1) _ _).nm.mono (by decide)⟩⟩⟩
theorem QT(h:TR rs 64990)(hc:bt rs=0)(hn:(llq rs).length<=1)[c0:Ct (llq rs) 310000 65000][i1:Zl (llq rs) 310000 65000 a x 40 40][i2:Zl (llq rs) 310000 65000 b y 40 40][i3:Zl (llq rs) 310000 65000 c z 3 0][i4:Zl (llq rs) 310000 65000 a2 x2 40 40][i5:Zl (llq rs) 310000 65000 b2 y2 40 40][i6:Zl (llq rs) 310000 65000 c2 z2 3 0]
  (ha:a=sX x) (hb:b=sX y) (s1:0<=ak z) (s2:0<=ak z2):FP 157 [cq rs,.agg [nA a,nA b,nA c],.agg [nA a2,nA b2,nA c2]] (.tup [(dc (x,y) (x2,y2) z z2).av,cg (eL (x,y) (x2,y2) z z2)]):=by
 have hz:∀q∈[(a,b,c),(a2,b2,c2)],CiZ rs q:=fun q hq=>by
  simp only[mem_cons,not_mem_nil,or_false]at hq;rcases hq with rfl |rfl
  ·exact⟨i1.nm.mono oz,i2.nm.mono oz,i3.nm.mono oz,by show 0<=ak (dE (llq rs) c);rw[show dE (llq rs) c=z from i3.eq];exact s1⟩
  ·exact⟨i4.nm.mono oz,i5.nm.mono oz,i6.nm.mono oz,by show 0<=ak (dE (llq rs) c2);rw[show dE (llq rs) c2=z2 from i6.eq];exact s2⟩
 have hck:=Gm h hc [(a,b,c),(a2,b2,c2)] hz (by show 2<=100;omega);obtain⟨tw,etw⟩:=cI h hc;haveI cy:Cy (llq rs) 310000 65000:=⟨c0.ex,by omega,by omega,by omega⟩
 have P:=BT c0 i1.zu i2.zu i3.zu i4.zu i5.zu i6.zu;haveI:=P.zd;haveI:=P.zX;haveI:=i3.zu;haveI:=i6.zu;have m1:=pR (ts:=llq rs) (u:=310000) (k:=65000) (a:=sX (az (x,y) (x2,y2))) (by decide);have m2:=pR (ts:=llq rs) (u:=310000) (k:=65000) (a:=sX (bg (x,y) z (x2,y2) z2)) (by decide);have m0:=Con.sA (.cons (.refl _) (.cons (Sub.nil 2 none 0) .nil)) (nG tw []);have w1:=kX (ts:=llq rs) (u:=310000) (k:=65000) (a:=a2) (b:=a) (by decide);have w2:=kX (ts:=llq rs) (u:=310000) (k:=65000) (a:=b2) (b:=b) (by decide);haveI q2:Qz 310000 ((2:Int):Rat) 1:=Qz.int (c:=Cy.cx (c:=cy)) (by decide);have t2:=xU (ts:=llq rs) (u:=310000) (k:=65000) (a:=sX (az (x,y) (x2,y2))) 2 oz (by decide);have k1:=jV (ts:=llq rs) (u:=310000) (k:=65000) (a:=c) (b:=sX (az (x,y) (x2,y2))) (by decide);have k2:=kX (ts:=llq rs) (u:=310000) (k:=65000) (a:=sX (z+az (x,y) (x2,y2))) (b:=c2) (by decide);subst ha;subst hb;refine aj func157 ?_;refine gc hck ?_;refine gC (fun t24=>?_) (fun t24=>?_) (st1:=(3,0)) (st2:=(5,0));cases t24;refine gW (Wk.o (sl:=[(4,some (.ptr 4 0)),(5,some (.ptr 5 0)),(6,some (.ptr 6 0)),(9,some (.ptr 29 0))]) (hp:=[(4,some (.box [nA (sX x),nA (sX y),nA c])),(5,some (.box [nA a2,nA b2,nA c2])),(6,some (.box [nS,nS])),(29,some (df rs))])) ?_;refine gt (aJ (Con.rB 29 rfl rfl rfl rfl (GV h hc)) (aL rfl rfl rfl) aM rfl rfl) ?_ (6,0);refine gW (Wk.of (sl:=[(4,some (.ptr 4 0)),(5,some (.ptr 5 0)),(6,some (.ptr 6 0)),(9,some (.ptr 29 0)),(10,some (nA (sX (bg (x,y) z (x2,y2) z2)))),(11,some (nA (sX (az (x,y) (x2,y2)))))]) (hp:=[(4,some (.box [nA (sX x),nA (sX y),nA c])),(5,some (.box [nA a2,nA b2,nA c2])),(6,some (.box [nS,nS])),(29,some (bh (llq rs)))]) bj (.k (.k (.k (.cons rfl (BlkSub.bL (.cons (.of (lJ etw)) (.cons (.refl _) .nil)) rfl) .nil))))) ?_
 refine gt (aX (Con.rB 29 rfl rfl rfl rfl m1) (bO rfl rfl) rfl rfl rfl) ?_;refine gC (fun t40=>?_) (fun t40=>?_)
 ·have hd0:ak (az (x,y) (x2,y2))=0:=cK t40;refine gt (aX (Con.rB 29 rfl rfl rfl rfl (JA (a:=sX x) (b:=sX y) (c:=c) (a2:=a2) (b2:=b2) (c2:=c2) tw)) (aL rfl rfl rfl) rfl rfl rfl) ?_;refine bF ?_;unfold dc eL;rw[if_pos hd0,if_pos hd0]
 have hd0:¬ak (az (x,y) (x2,y2))=0:=dj t40;refine gt (aX (Con.rB 29 rfl rfl rfl rfl m2) (bO rfl rfl) rfl rfl rfl) ?_;refine gC (fun t51=>?_) (fun t51=>?_)
 ·have hx0:ak (bg (x,y) z (x2,y2) z2)<0:=of_decide_eq_true t51;refine gt (aX (Con.rB 29 rfl rfl rfl rfl m0) (.cons (.tmp rfl) (.cons (.const _) .nil)) rfl rfl rfl) ?_;refine bF ?_;unfold dc eL;rw[if_neg hd0,if_neg hd0,if_pos hx0];rfl
 have hx0:¬ak (bg (x,y) z (x2,y2) z2)<0:=of_decide_eq_false t51;have ht0:ak (eG (az (x,y) (x2,y2)))≠0:=by rw[uZ tw];exact hd0
 obtain⟨fd,fk,f1,f2⟩:=Co hn i1.zu i2.zu i3.zu i6.zu P ht0;haveI:=fk;haveI:=P.z1;haveI:=P.z2;have g1:=jp (ts:=llq rs) (u:=310000) (k:=65000) (a:=sX ((z+az (x,y) (x2,y2)-z2)*iE (eG (az (x,y) (x2,y2))))) (b:=sX (fy (x,y) (x2,y2)).1) (by decide);have g2:=jp (ts:=llq rs) (u:=310000) (k:=65000) (a:=sX ((z+az (x,y) (x2,y2)-z2)*iE (eG (az (x,y) (x2,y2))))) (b:=sX (fy (x,y) (x2,y2)).2) (by decide);have g3:=jV (ts:=llq rs) (u:=310000) (k:=65000) (a:=sX x) (b:=sX ((z+az (x,y) (x2,y2)-z2)*iE (eG (az (x,y) (x2,y2)))*(fy (x,y) (x2,y2)).1)) (by decide);have g4:=jV (ts:=llq rs) (u:=310000) (k:=65000) (a:=sX y) (b:=sX ((z+az (x,y) (x2,y2)-z2)*iE (eG (az (x,y) (x2,y2)))*(fy (x,y) (x2,y2)).2)) (by decide);have gal:=sU g1 g2 g3 g4;refine gt (aX (Con.rB 29 rfl rfl rfl rfl w1) (aL rfl rfl rfl) rfl rfl rfl) ?_;refine gt (aX (Con.rB 29 rfl rfl rfl rfl w2) (aL rfl rfl rfl) rfl rfl rfl) ?_;refine gD ?_;refine gt (aX (Con.rB 29 rfl rfl rfl rfl t2) (.cons (.tmp rfl) (.cons (.const _) (cZ rfl))) rfl rfl rfl) ?_;refine gt (aX (Con.rB 29 rfl rfl rfl rfl k1) (aL rfl rfl rfl) rfl rfl rfl) ?_;refine gt (aX (Con.rB 29 rfl rfl rfl rfl k2) (aL rfl rfl rfl) rfl rfl rfl) ?_;refine gt (aX (Con.rB 29 rfl rfl rfl rfl (tl fd)) (aL rfl rfl rfl) rfl rfl rfl) ?_;refine gt (aX (Con.rB 29 rfl rfl rfl rfl gal) (.cons (.tmp rfl) (.cons (.tmp rfl) (.cons (.tmp rfl) (.cons (.tmp rfl) .nil)))) rfl rfl rfl) ?_;refine gD ?_;refine gC (fun t94=>?_) (fun t94=>?_)
 ·have hx1:ak (bg (x,y) z (x2,y2) z2)=0:=cK t94;refine gt (aX (Con.rB 29 rfl rfl rfl rfl (nG tw [dm (cS (x,y) (x2,y2) z z2).l])) (bO rfl rfl) rfl rfl rfl) ?_;refine bF ?_;unfold dc eL;rw[if_neg hd0,if_neg hd0,if_neg hx0,if_pos hx1];rfl
 have hx1:¬ak (bg (x,y) z (x2,y2) z2)=0:=dj t94;have E:ExtP (bg (x,y) z (x2,y2) z2):=sa tw hn P.zX oz;have S:=Cm (X:=bg (x,y) z (x2,y2) z2) (d:=az (x,y) (x2,y2)) (f:=cS (x,y) (x2,y2) z z2) (v:=fy (x,y) (x2,y2)) hn E P.zt ht0 f1 f2 P.z1 P.z2;have hex:=C5 (a:=sX (bg (x,y) z (x2,y2) z2)) tw P.zX.nm (by rw[cy.lm];decide) (by rw[show ae (llq rs).length (sX (bg (x,y) z (x2,y2) z2))=bg (x,y) z (x2,y2) z2 from bc _ _];show 0<=ak (bg (x,y) z (x2,y2) z2);omega);refine gt (aJ (Con.rB 29 rfl rfl rfl rfl hex) (bO rfl rfl) aM rfl rfl) ?_;refine gt (aX (Con.rB 29 rfl rfl rfl rfl (tl S.hd)) (aL rfl rfl rfl) rfl rfl rfl) ?_;refine gt (aX (Con.rB 29 rfl rfl rfl rfl S.ht) (.cons (.tmp rfl) (.cons (.const _) (cZ rfl))) rfl rfl rfl) ?_;refine gD ?_;refine gt (aX (Con.rB 29 rfl rfl rfl rfl S.a1) (.cons (.tmp rfl) (.cons (.tmp rfl) (.cons (.tmp rfl) (.cons (.tmp rfl) .nil)))) rfl rfl rfl) ?_;refine gt (aX (Con.rB 29 rfl rfl rfl rfl S.hu) (.cons (.tmp rfl) (.cons (.const _) (cZ rfl))) rfl rfl rfl) ?_;refine gt (aX (Con.rB 29 rfl rfl rfl rfl S.a2) (.cons (.tmp rfl) (.cons (.tmp rfl) (.cons (.tmp rfl) (.cons (.tmp rfl) .nil)))) rfl rfl rfl) ?_;refine gt (aX (Con.rB 29 rfl rfl rfl rfl (nG E.tw [dm (gw (bg (x,y) z (x2,y2) z2) (cS (x,y) (x2,y2) z z2) (fy (x,y) (x2,y2)) (dZ (bg (x,y) z (x2,y2) z2) (az (x,y) (x2,y2)))).l,dm (gw (bg (x,y) z (x2,y2) z2) (cS (x,y) (x2,y2) z z2) (fy (x,y) (x2,y2)) (qE ((-1:Int):Rat)*dZ (bg (x,y) z (x2,y2) z2) (az (x,y) (x2,y2)))).l])) (bO rfl rfl) rfl rfl rfl) ?_;refine gD ?_;refine bF ?_;unfold dc eL;rw[if_neg hd0,if_neg hd0,if_neg hx0,if_neg hx1];rfl
end
section
variable{ts:LL}
abbrev a7(p q:P2 ts):Et ts:=co (aE q p) (aE q p)
abbrev bH(p q c:P2 ts):Et ts:=co (aE q p) (aE c p)
abbrev gU(p q c:P2 ts):Et ts:=f7 (aE q p) (aE c p)
abbrev aP(p q c:P2 ts)(z:Et ts):Et ts:=a7 p q*z-gU p q c*gU p q c
def fi(X:Et ts)(S:Et ts)(k:Et (aQ ts (sX X))):Et (aQ ts (sX X)):=k*iE (aI X S)
def jI(X:Et ts)(p v:P2 ts)(k:Et (aQ ts (sX X))):P2 (aQ ts (sX X)):=cD (aI X p.1,aI X p.2) k (aI X v.1,aI X v.2)
abbrev bA(X:Et ts):Et (aQ ts (sX X)):=dE _ (cr ts.length)
def dq(p q c:P2 ts)(z:Et ts):Mt :=
  if ak (a7 p q)=0 then⟨[],[]⟩else if ak (aP p q c z)=-1 then⟨ts,[]⟩else if ak (aP p q c z)=0 then⟨ts,[(cD p (bH p q c*iE (a7 p q)) (aE q p)).l]⟩
  else⟨aQ ts (sX (aP p q c z)),[(jI (aP p q c z) p (aE q p) (fi (aP p q c z) (a7 p q) (aI (aP p q c z) (bH p q c)+bA (aP p q c z)))).l,
    (jI (aP p q c z) p (aE q p) (fi (aP p q c z) (a7 p q) (aI (aP p q c z) (bH p q c)-bA (aP p q c z)))).l]⟩
def eP(p q:P2 ts):Nat:=if ak (a7 p q)=0 then 8 else 0
structure LinP(p q c:P2 ts)(z:Et ts):Prop where
  v1:Zu 310000 65000 (aE q p).1 80 81
  v2:Zu 310000 65000 (aE q p).2 80 81
  w1:Zu 310000 65000 (aE c p).1 80 81
  w2:Zu 310000 65000 (aE c p).2 80 81
  zs:Zu 310000 65000 (a7 p q) 320 327
  ze:Zu 310000 65000 (bH p q c) 320 327
  zc:Zu 310000 65000 (gU p q c) 320 327
  zX:Zu 310000 65000 (aP p q c z) 963 984
theorem Hw{p q c:P2 ts}{z:Et ts}(c0:Cy ts 310000 65000)(h1:Zu 310000 65000 p.1 40 40)(h2:Zu 310000 65000 p.2 40 40)(h3:Zu 310000 65000 q.1 40 40)(h4:Zu 310000 65000 q.2 40 40)(h5:Zu 310000 65000 c.1 40 40)(h6:Zu 310000 65000 c.2 40 40)(h7:Zu 310000 65000 z 3 0):LinP p q c z:=by
 haveI:=c0;haveI:=h1;haveI:=h2;haveI:=h3;haveI:=h4;haveI:=h5;haveI:=h6;haveI:=h7
 haveI v1:=(inferInstance:Zu 310000 65000 (q.1-p.1) 80 81)
 haveI v2:=(inferInstance:Zu 310000 65000 (q.2-p.2) 80 81)
 haveI w1:=(inferInstance:Zu 310000 65000 (c.1-p.1) 80 81)
 haveI w2:=(inferInstance:Zu 310000 65000 (c.2-p.2) 80 81)
 haveI zs:Zu 310000 65000 (a7 p q) 320 327:=(inferInstance:Zu 310000 65000 ((q.1-p.1)*(q.1-p.1)+(q.2-p.2)*(q.2-p.2)) _ _)
 haveI ze:Zu 310000 65000 (bH p q c) 320 327:=(inferInstance:Zu 310000 65000 ((q.1-p.1)*(c.1-p.1)+(q.2-p.2)*(c.2-p.2)) _ _)
 haveI zc:Zu 310000 65000 (gU p q c) 320 327:=(inferInstance:Zu 310000 65000 ((q.1-p.1)*(c.2-p.2)-(q.2-p.2)*(c.1-p.1)) _ _)
 exact⟨v1,v2,w1,w2,zs,ze,zc,inferInstance⟩
structure LinQ(p q c:P2 ts):Prop where
  hd:FP 281 [aR ts,nA (sX (bH p q c)),nA (sX (a7 p q))] (.tup [nA (sX (bH p q c*iE (a7 p q))),.v .nilIface])
  al:Con prog 268 [.ptr 1000 0,aK (sX p.1) (sX p.2),nA (sX (bH p q c*iE (a7 p q))),aK (sX (aE q p).1) (sX (aE q p).2)] [(1000,some (bh ts))] (dm (cD p (bH p q c*iE (a7 p q)) (aE q p)).l) [(1000,some (bh ts))]
  n1:Zu 310000 65000 (cD p (bH p q c*iE (a7 p q)) (aE q p)).1 2040 2088
  n2:Zu 310000 65000 (cD p (bH p q c*iE (a7 p q)) (aE q p)).2 2040 2088
theorem E0{p q c:P2 ts}{z:Et ts}(c0:Cy ts 310000 65000)(hn:ts.length<=1)(h1:Zu 310000 65000 p.1 40 40)(h2:Zu 310000 65000 p.2 40 40)(P:LinP p q c z)(h0:ak (a7 p q)≠0):LinQ p q c:=by
 haveI:=c0;haveI:=h1;haveI:=h2;haveI:=P.v1;haveI:=P.v2;haveI:=P.zs;haveI:=P.ze
 have hd:=rx (ts:=ts) (u:=310000) (k:=65000) (a:=sX (bH p q c)) (b:=sX (a7 p q)) (j:=ts.length) P.zs.nm.nl (le_refl _) hn h0 (by decide);haveI:=hd.2;have m1:=jp (ts:=ts) (u:=310000) (k:=65000) (a:=sX (bH p q c*iE (a7 p q))) (b:=sX (aE q p).1) (by decide);have m2:=jp (ts:=ts) (u:=310000) (k:=65000) (a:=sX (bH p q c*iE (a7 p q))) (b:=sX (aE q p).2) (by decide);have m3:=jV (ts:=ts) (u:=310000) (k:=65000) (a:=sX p.1) (b:=sX (bH p q c*iE (a7 p q)*(aE q p).1)) (by decide);have m4:=jV (ts:=ts) (u:=310000) (k:=65000) (a:=sX p.2) (b:=sX (bH p q c*iE (a7 p q)*(aE q p).2)) (by decide);exact⟨hd.1,sU m1 m2 m3 m4,(inferInstance:Zu 310000 65000 (p.1+bH p q c*iE (a7 p q)*(aE q p).1) _ _),(inferInstance:Zu 310000 65000 (p.2+bH p q c*iE (a7 p q)*(aE q p).2) _ _)⟩
structure LinS(X:Et ts)(S:Et ts)(p v:P2 ts)(k:Et (aQ ts (sX X))):Prop where
  hd:FP 281 [aR (aQ ts (sX X)),nA (sX k),nA (sX S)] (.tup [nA (sX (fi X S k)),.v .nilIface])
  al:Con prog 268 [.ptr 1000 0,aK (sX p.1) (sX p.2),nA (sX (fi X S k)),aK (sX v.1) (sX v.2)] [(1000,some (bh (aQ ts (sX X))))] (dm (jI X p v (fi X S k)).l) [(1000,some (bh (aQ ts (sX X))))]
  n1:Zu 773000000 1101400000 (jI X p v (fi X S k)).1 9 6
  n2:Zu 773000000 1101400000 (jI X p v (fi X S k)).2 9 6
theorem ve{X S:Et ts}{p v:P2 ts}{k:Et (aQ ts (sX X))}(hn:ts.length<=1)(E:ExtP X)(hs:Zu 310000 65000 S 320 327)(h0:ak S≠0)(p1:Zu 310000 65000 p.1 40 40)(p2:Zu 310000 65000 p.2 40 40)(v1:Zu 310000 65000 v.1 80 81)(v2:Zu 310000 65000 v.2 80 81)
  (hk:Zu 773000000 1101400000 k 2 1):LinS X S p v k:=by
 haveI cy:=E.cy;haveI:=hk;haveI zs:=j8 (X:=X) hn hs (by decide);haveI zp1:=j8 (X:=X) hn p1 (by decide);haveI zp2:=j8 (X:=X) hn p2 (by decide);haveI zv1:=j8 (X:=X) hn v1 (by decide);haveI zv2:=j8 (X:=X) hn v2 (by decide);haveI:=zp1.zu;haveI:=zp2.zu;haveI:=zv1.zu;haveI:=zv2.zu
 have hdiv:=rx (ts:=aQ ts (sX X)) (u:=773000000) (k:=1101400000) (a:=sX k) (b:=sX S) (j:=ts.length) hs.nm.nl (by rw[dD];omega) hn (by rw[od];exact h0) (by decide);haveI zk:Zu 773000000 1101400000 (fi X S k) 7 4:=hdiv.2;have m1:=jp (ts:=aQ ts (sX X)) (u:=773000000) (k:=1101400000) (a:=sX (fi X S k)) (b:=sX v.1) (by decide);have m2:=jp (ts:=aQ ts (sX X)) (u:=773000000) (k:=1101400000) (a:=sX (fi X S k)) (b:=sX v.2) (by decide);have m3:=jV (ts:=aQ ts (sX X)) (u:=773000000) (k:=1101400000) (a:=sX p.1) (b:=sX (fi X S k*aI X v.1)) (by decide);have m4:=jV (ts:=aQ ts (sX X)) (u:=773000000) (k:=1101400000) (a:=sX p.2) (b:=sX (fi X S k*aI X v.2)) (by decide);exact⟨hdiv.1,sU m1 m2 m3 m4,(inferInstance:Zu 773000000 1101400000 (aI X p.1+fi X S k*aI X v.1) 9 6),(inferInstance:Zu 773000000 1101400000 (aI X p.2+fi X S k*aI X v.2) 9 6)⟩
theorem Br{X:Et ts}{w v w' v' u k:Nat}(h:Zu u k X w v)(hw:w<=w')(hv:v<=v'):Zu u k X w' v':=⟨h.nm.mono (Ba hw hv)⟩
theorem PJ{x:Int}(h:cond (cond (fA Value.nilIface) (ac .eql x 0) false) (fA Value.nilIface) false=true):x=0:=by
 cases h9:ac .eql x 0
 ·rw[h9]at h;cases h
 ·exact cK h9
theorem N8{x:Int}(h:cond (cond (fA Value.nilIface) (ac .eql x 0) false) (fA Value.nilIface) false=false):x≠0:=by
 cases h9:ac .eql x 0
 ·exact dj h9
 ·rw[h9]at h;cases h
theorem LB{x y:AV}{i:Nat}{Q:AV->Prop}(hi:i<2)(hx:Q x)(hy:Q y):∃z,[x,y][i]?=some z/\Q z:=by
 have h:i=0\/i=1:=by omega
 rcases h with rfl |rfl
 ·exact⟨x,rfl,hx⟩
 ·exact⟨y,rfl,hy⟩
theorem FX{r e:Nat}{a b c d:Et ts}(tw:Tw ts r)(hl:lm ts.length=200000000000)(h1:Nm ts.length e (sX a))(h2:Nm ts.length e (sX b))(h3:Nm ts.length e (sX c))(h4:Nm ts.length e (sX d))(he:e+e+kB r ts.length<=100000000000) :
  FP 80 [aR ts,aK (sX a) (sX b),aK (sX c) (sX d)] (.tup [nA (sX (a*c+b*d)),.v .nilIface]):=by
 have h:=Au tw h1 h2 h3 h4 (by rw[hl];omega);rw[show ae ts.length (sX a)=a from bc _ _,show ae ts.length (sX b)=b from bc _ _,show ae ts.length (sX c)=c from bc _ _,show ae ts.length (sX d)=d from bc _ _]at h;exact h
theorem Md{r e:Nat}{a b c d:Et ts}(tw:Tw ts r)(hl:lm ts.length=200000000000)(h1:Nm ts.length e (sX a))(h2:Nm ts.length e (sX b))(h3:Nm ts.length e (sX c))(h4:Nm ts.length e (sX d))(he:e+e+kB r ts.length<=100000000000) :
  FP 77 [aR ts,aK (sX a) (sX b),aK (sX c) (sX d)] (.tup [nA (sX (a*d-b*c)),.v .nilIface]):=by
 have h:=x4 tw h1 h2 h3 h4 (by rw[hl];omega);rw[show ae ts.length (sX a)=a from bc _ _,show ae ts.length (sX b)=b from bc _ _,show ae ts.length (sX c)=c from bc _ _,show ae ts.length (sX d)=d from bc _ _]at h;exact h
end
section
variable{rs:List (List Rt)}{c:List Rat}{o p q:P2 (llq rs)}{z:Et (llq rs)}
theorem TV(h:TR rs 64990)(hc:bt rs=0)(hn:(llq rs).length<=1)(c0:Ct (llq rs) 310000 65000)(ho1:Zu 310000 65000 o.1 40 40)(ho2:Zu 310000 65000 o.2 40 40)(p1:Zu 310000 65000 p.1 40 40)(p2:Zu 310000 65000 p.2 40 40)(q1:Zu 310000 65000 q.1 40 40)(q2:Zu 310000 65000 q.2 40 40)
  [i3:Zl (llq rs) 310000 65000 c z 3 0] (s1:0<=ak z):FP 159 [cq rs,.agg [nA (sX o.1),nA (sX o.2),nA c],dm p.l,dm q.l] (.tup [(dq p q o z).av,cg (eP p q)]):=by
 obtain⟨tw,etw⟩:=cI h hc;haveI cy:Cy (llq rs) 310000 65000:=⟨c0.ex,by obtain⟨_,h9,_⟩:=c0;exact h9,by obtain⟨_,_,h9,_⟩:=c0;exact h9,by omega⟩
 have hlm:=cy.lm;have hck:=r5 rs 64990 h;rw[hc]at hck;have P:=Hw cy p1 p2 q1 q2 ho1 ho2 i3.zu;haveI:=ho1;haveI:=ho2;haveI:=p1;haveI:=p2;haveI:=q1;haveI:=q2;haveI:=P.v1;haveI:=P.v2;haveI:=P.w1;haveI:=P.w2;haveI:=P.zs;haveI:=P.ze;haveI:=P.zc;haveI:=P.zX
 have hci:=FM (e:=40*310000+40*65000) h hc ho1.nm ho2.nm (i3.nm.mono (by decide)) (by rw[hlm];decide)
 have hra:=Hy h hc [(sX o.1,sX o.2,c)] (fun y hy=>by
  rw[List.mem_singleton.1 hy];exact⟨ho1.nm.mono (by decide),ho2.nm.mono (by decide),i3.nm.mono (by decide),by show 0<=ak (dE (llq rs) c);rw[show dE (llq rs) c=z from i3.eq];exact s1⟩) (by show 1<=100;omega)
 have a1:=kX (ts:=llq rs) (u:=310000) (k:=65000) (a:=sX q.1) (b:=sX p.1) (by decide);have a2:=kX (ts:=llq rs) (u:=310000) (k:=65000) (a:=sX q.2) (b:=sX p.2) (by decide);have a3:=kX (ts:=llq rs) (u:=310000) (k:=65000) (a:=sX o.1) (b:=sX p.1) (by decide);have a4:=kX (ts:=llq rs) (u:=310000) (k:=65000) (a:=sX o.2) (b:=sX p.2) (by decide);have hkb:80*310000+81*65000+(80*310000+81*65000)+kB 64990 (llq rs).length<=100000000000:=by have:=Bt hn;omega
 have b1:=FX tw hlm P.v1.nm P.v2.nm P.v1.nm P.v2.nm hkb;have b2:=FX tw hlm P.v1.nm P.v2.nm P.w1.nm P.w2.nm hkb;have b3:=Md tw hlm P.v1.nm P.v2.nm P.w1.nm P.w2.nm hkb;rw[<- etw]at b1 b2 b3;have m1:=pR (ts:=llq rs) (u:=310000) (k:=65000) (a:=sX (a7 p q)) (by decide);have m2:=jp (ts:=llq rs) (u:=310000) (k:=65000) (a:=sX (a7 p q)) (b:=c) (by decide);have m3:=jp (ts:=llq rs) (u:=310000) (k:=65000) (a:=sX (gU p q o)) (b:=sX (gU p q o)) (by decide);haveI zz:=i3.zu;have m4:=kX (ts:=llq rs) (u:=310000) (k:=65000) (a:=sX (a7 p q*z)) (b:=sX (gU p q o*gU p q o)) (by decide);have m5:=pR (ts:=llq rs) (u:=310000) (k:=65000) (a:=sX (aP p q o z)) (by decide);have m0:=Con.sA (.cons (.refl _) (.cons (Sub.nil 2 none 0) .nil)) (nG tw []);refine aj func159 ?_;refine gc hck ?_;refine gC (fun t27=>?_) (fun t27=>?_) (st1:=(3,0));cases t27;refine gc hci ?_;refine gC (fun t34=>?_) (fun t34=>?_) (st1:=(6,0));cases t34;refine ge rfl ?_;refine a5 [4,5,6,7,8,39,40] [4,5,6,7,8] (fun(i:Nat)=>[(41,some (i64 i))]) (fun _=>[]) (fun i=>i<=2) (fun i=>2-i) 0 (zero_le _) ?_;rintro i hi K1 J1;refine gC (fun t42=>?_) (fun t42=>?_)
 ·have hin:i<2:=bn (b:=2) t42;obtain⟨zz2,hz2,u,v,hu,hv,rfl⟩:=LB (x:=dm p.l) (y:=dm q.l) (Q:=fun w=>∃u v,Nm (llq rs).length (40*310000+40*65000) u/\Nm (llq rs).length (40*310000+40*65000) v/\w=aK u v) hin ⟨_,_,p1.nm,p2.nm,rfl⟩ ⟨_,_,q1.nm,q2.nm,rfl⟩;refine gi hz2 ?_;refine gc (GU h hc hu hv (by rw[hlm];decide)) ?_;refine gC (fun t49=>?_) (fun t49=>?_) (st1:=(12,0));cases t49;refine ga aW ?_;exact aT J1 (i+1) hin
 refine gc hra ?_;refine gC (fun t58=>?_) (fun t58=>?_) (st1:=(16,0)) (st2:=(18,0));cases t58;refine gW (Wk.of (sl:=[(4,some (.ptr 4 0)),(5,some (.ptr 5 0)),(6,some (.ptr 6 0)),(7,some (.ptr 7 0)),(8,some (.ptr 8 0)),(16,some (.ptr 63 0))]) (hp:=[(4,some (.box [.lst 1 (rs.map nR)])),(5,some (.box [nA (sX o.1),nA (sX o.2),nA c])),(6,some (.box [nA (sX p.1),nA (sX p.2)])),(7,some (.box [nA (sX q.1),nA (sX q.2)])),(8,some (.box [nS,nS])),(63,some (bh (llq rs)))]) bj (.k (.k (.k (.k (.k (.cons rfl (BlkSub.bL (.cons (.of (lJ etw)) (.cons (.refl _) .nil)) rfl) .nil))))))) ?_
 refine gt (aX (Con.rB 63 rfl rfl rfl rfl a1) (aL rfl rfl rfl) rfl rfl rfl) ?_;refine gt (aX (Con.rB 63 rfl rfl rfl rfl a2) (aL rfl rfl rfl) rfl rfl rfl) ?_;refine gD ?_;refine gt (aX (Con.rB 63 rfl rfl rfl rfl a3) (aL rfl rfl rfl) rfl rfl rfl) ?_;refine gt (aX (Con.rB 63 rfl rfl rfl rfl a4) (aL rfl rfl rfl) rfl rfl rfl) ?_;refine gD ?_;refine gc b1 ?_;refine gt (aX (Con.rB 63 rfl rfl rfl rfl (oQ _ _)) (aL rfl rfl rfl) rfl rfl rfl) ?_;refine gu (eK rfl rfl rfl (fun h=>aX (Con.rB 63 rfl rfl rfl rfl m1) (.cons (.opt rfl (o1 h)) (.cons (.opt rfl (o1 h)) .nil)) rfl rfl rfl)) ?_;refine gC (fun t117=>?_) (fun t117=>?_)
 ·have h0:ak (a7 p q)=0:=PJ t117;refine gR ?_;exact ef (by unfold dq eP;rw[if_pos h0,if_pos h0];exact Sub.tup (.cons E6 (.cons (.refl _) .nil)))
 have h0:ak (a7 p q)≠0:=N8 t117;have Q:=E0 cy hn p1 p2 P h0;refine gc b2 ?_;refine gt (aX (Con.rB 63 rfl rfl rfl rfl (oQ _ _)) (aL rfl rfl rfl) rfl rfl rfl) ?_;refine gc b3 ?_;refine gt (aX (Con.rB 63 rfl rfl rfl rfl (oQ _ _)) (aL rfl rfl rfl) rfl rfl rfl) ?_;refine gt (aX (Con.rB 63 rfl rfl rfl rfl m2) (aL rfl rfl rfl) rfl rfl rfl) ?_;refine gt (aX (Con.rB 63 rfl rfl rfl rfl m3) (aL rfl rfl rfl) rfl rfl rfl) ?_;refine gt (aX (Con.rB 63 rfl rfl rfl rfl m4) (aL rfl rfl rfl) rfl rfl rfl) ?_;refine gt (aX (Con.rB 63 rfl rfl rfl rfl m5) (bO rfl rfl) rfl rfl rfl) ?_;refine gC (fun t150=>?_) (fun t150=>?_)
 ·have h1:ak (aP p q o z)=-1:=cK t150;refine gt (aX (Con.rB 63 rfl rfl rfl rfl m0) (.cons (.tmp rfl) (.cons (.const _) .nil)) rfl rfl rfl) ?_;refine bF ?_;unfold dq eP;rw[if_neg h0,if_neg h0,if_pos h1];rfl
 have h1:¬ak (aP p q o z)=-1:=dj t150;refine gC (fun t156=>?_) (fun t156=>?_)
 ·have h2:ak (aP p q o z)=0:=cK t156;refine gt (aX (Con.rB 63 rfl rfl rfl rfl (tl Q.hd)) (aL rfl rfl rfl) rfl rfl rfl) ?_;refine gt (aX (Con.rB 63 rfl rfl rfl rfl Q.al) (.cons (.tmp rfl) (.cons (.tmp rfl) (.cons (.tmp rfl) (.cons (.tmp rfl) .nil)))) rfl rfl rfl) ?_;refine gt (aX (Con.rB 63 rfl rfl rfl rfl (nG tw [dm (cD p (bH p q o*iE (a7 p q)) (aE q p)).l])) (bO rfl rfl) rfl rfl rfl) ?_;refine gD ?_;refine bF ?_;unfold dq eP;rw[if_neg h0,if_neg h0,if_neg h1,if_pos h2];rfl
 have h2:¬ak (aP p q o z)=0:=dj t156
 have hpos:0<=ak (aP p q o z):=by
  have:=T.sgn_cases (aw (llq rs)) (llq rs).length (aP p q o z);have e:ak (aP p q o z)=T.sgn (aw (llq rs)) (llq rs).length (aP p q o z):=rfl;omega
 have E:ExtP (aP p q o z):=sa tw hn (Br P.zX oz oz) hpos;haveI ce:=E.cy;haveI zr:Zl (aQ (llq rs) (sX (aP p q o z))) 773000000 1101400000 (cr (llq rs).length) (dE _ (cr (llq rs).length)) 1 0:=Zl.at (sY oz) (by decide);haveI ze':=j8 (X:=aP p q o z) hn P.ze (by decide);haveI:=zr.zu;haveI:=ze'.zu
 have e1:=jV (ts:=aQ (llq rs) (sX (aP p q o z))) (u:=773000000) (k:=1101400000) (a:=sX (bH p q o)) (b:=cr (llq rs).length) (by decide);have e2:=kX (ts:=aQ (llq rs) (sX (aP p q o z))) (u:=773000000) (k:=1101400000) (a:=sX (bH p q o)) (b:=cr (llq rs).length) (by decide);have S1:=ve (p:=p) (v:=aE q p) hn E P.zs h0 p1 p2 P.v1 P.v2 (k:=aI (aP p q o z) (bH p q o)+bA (aP p q o z)) inferInstance;have S2:=ve (p:=p) (v:=aE q p) hn E P.zs h0 p1 p2 P.v1 P.v2 (k:=aI (aP p q o z) (bH p q o)-bA (aP p q o z)) inferInstance;have hex:=C5 (a:=sX (aP p q o z)) tw P.zX.nm (by rw[hlm];decide) (by rw[show ae (llq rs).length (sX (aP p q o z))=aP p q o z from bc _ _];exact hpos);refine gt (aJ (Con.rB 63 rfl rfl rfl rfl hex) (bO rfl rfl) aM rfl rfl) ?_;refine gt (aX (Con.rB 63 rfl rfl rfl rfl e1) (aL rfl rfl rfl) rfl rfl rfl) ?_;refine gt (aX (Con.rB 63 rfl rfl rfl rfl (tl S1.hd)) (aL rfl rfl rfl) rfl rfl rfl) ?_;refine gt (aX (Con.rB 63 rfl rfl rfl rfl S1.al) (.cons (.tmp rfl) (.cons (.tmp rfl) (.cons (.tmp rfl) (.cons (.tmp rfl) .nil)))) rfl rfl rfl) ?_;refine gt (aX (Con.rB 63 rfl rfl rfl rfl e2) (aL rfl rfl rfl) rfl rfl rfl) ?_;refine gt (aX (Con.rB 63 rfl rfl rfl rfl (tl S2.hd)) (aL rfl rfl rfl) rfl rfl rfl) ?_;refine gt (aX (Con.rB 63 rfl rfl rfl rfl S2.al) (.cons (.tmp rfl) (.cons (.tmp rfl) (.cons (.tmp rfl) (.cons (.tmp rfl) .nil)))) rfl rfl rfl) ?_;refine gt (aX (Con.rB 63 rfl rfl rfl rfl (nG E.tw [dm (jI (aP p q o z) p (aE q p) (fi (aP p q o z) (a7 p q) (aI (aP p q o z) (bH p q o)+bA (aP p q o z)))).l,dm (jI (aP p q o z) p (aE q p) (fi (aP p q o z) (a7 p q) (aI (aP p q o z) (bH p q o)-bA (aP p q o z)))).l])) (bO rfl rfl) rfl rfl rfl) ?_;refine gD ?_;refine bF ?_;unfold dq eP;rw[if_neg h0,if_neg h0,if_neg h1,if_neg h2];rfl
end
theorem T.inv_congr{r r':(k:Nat)->T k}:∀(k:Nat),(∀j,j<k->r j=r' j)->∀x,T.inv r k x=T.inv r' k x
 |0,_,x=>rfl
 |k+1,h,x=>by
  have ih:=T.inv_congr k (fun j hj=>h j oz);have hm:=T.mul_congr k (fun j hj=>h j oz);have hs:=T.sgn_congr k (fun j hj=>h j oz)
  have hn:T.norm r k x=T.norm r' k x:=by
   unfold T.norm;rw[h k oz];simp only[hm]
  conv=>lhs;unfold T.inv
  conv=>rhs;unfold T.inv
  simp only[ih,hm,hs,hn]
def jb{n N:Nat}(x:T n):T N:=ae N (sh n x)
section
variable{n N:Nat}{r r':(k:Nat)->T k}
theorem jX(x:T n):(jb x:T (n+1))=(x,T.zero n):=by
 unfold jb;rw[fW (di n x).le,bc]
theorem MJ(hN:N=n+1)(h:∀j,j<n->r j=r' j)(x y:T n):(jb (T.mul r n x y):T N)=T.mul r' N (jb x) (jb y):=by
 subst hN;rw[jX,jX,jX,mul_low,T.zero_mul,T.mul_congr n h]
theorem Jk(hN:N=n+1)(x y:T n):(jb (T.add n x y):T N)=T.add N (jb x) (jb y):=by
 subst hN;rw[jX,jX,jX];show(T.add n x y,T.zero n)=(T.add n x y,T.add n (T.zero n) (T.zero n));rw[T.zero_add]
theorem JN(hN:N=n+1)(x:T n):(jb (T.neg n x):T N)=T.neg N (jb x):=by
 subst hN;rw[jX,jX];show(T.neg n x,T.zero n)=(T.neg n x,T.neg n (T.zero n));rw[T.neg_zero]
theorem Sj(hN:N=n+1)(q:Rat):(jb (T.ofQ n q):T N)=T.ofQ N q:=by
 subst hN;rw[jX];rfl
theorem La(hN:N=n+1)(h:∀j,j<n->r j=r' j)(x:T n):(jb (T.inv r n x):T N)=T.inv r' N (jb x):=by
 subst hN;rw[jX,jX,T.inv_low,T.inv_congr n h]
end
section
variable{ts:LL}(X:Et ts)
theorem DW{l:List Rat}(j:Nat)(hj:j<ts.length):aw ts j=aw (aQ ts l) j:=(wj hj).symm
theorem fe(x y:Et ts):aI X (x*y)=aI X x*aI X y:=MJ (dD _ _) DW x y
theorem pN(x y:Et ts):aI X (x+y)=aI X x+aI X y:=Jk (dD _ _) x y
theorem FY(x:Et ts):aI X (-x)=-aI X x:=JN (dD _ _) x
theorem mM(q:Rat):aI X (qE q)=qE q:=Sj (dD _ _) q
theorem nT(x:Et ts):aI X (iE x)=iE (aI X x):=La (dD _ _) DW x
end
theorem lH{ts:LL}:(qE ((1:Int):Rat):Et ts)=1:=rfl
theorem H0{ts:LL}:(qE ((-1:Int):Rat):Et ts)=-1:=by
 have h:=(T.ofQ_neg ts.length ((1:Nat):Rat))
 rw[show(((-1:Int):Rat))=-((1:Nat):Rat) by rfl];exact h
theorem A9{ts:LL}(d:Et ts):eG d=d+d:=by
 have h:(qE ((2:Int):Rat):Et ts)=1+1:=by
  have h:=T.ofQ_add ts.length ((1:Nat):Rat) ((1:Nat):Rat);rw[show(((2:Int):Rat))=((1:Nat):Rat)+((1:Nat):Rat) by decide +kernel];exact h
 unfold eG;rw[h];grind
theorem xJ{ts:LL}:(qE 0:Et ts)=0:=rfl
section
variable{ts:LL}
theorem vP(p q:P2 ts)(z z2:Et ts):cS p q z z2=cD p ((qE ((1:Int):Rat)*iE (az p q+az p q))*(z+az p q-z2)) (aE q p):=by
 unfold cS fy cD;rw[A9,lH];refine Prod.ext ?_ ?_
 ·show p.1+(z+az p q-z2)*iE (az p q+az p q)*(q.1-p.1)=p.1+1*iE (az p q+az p q)*(z+az p q-z2)*(q.1-p.1);grind
 ·show p.2+(z+az p q-z2)*iE (az p q+az p q)*(q.2-p.2)=p.2+1*iE (az p q+az p q)*(z+az p q-z2)*(q.2-p.2);grind
def gk(p q:P2 ts):P2 ts:=(qE ((1:Int):Rat)*iE (az p q+az p q)*(0-(aE q p).2),qE ((1:Int):Rat)*iE (az p q+az p q)*(aE q p).1)
theorem sN(X:Et ts)(f p q:P2 ts):gw X f (fy p q) (dZ X (az p q))=(aI X f.1+bA X*aI X (gk p q).1,aI X f.2+bA X*aI X (gk p q).2):=by
 unfold gw cD dZ gk;rw[A9,H0];refine Prod.ext ?_ ?_
 ·show aI X f.1+bA X*iE (aI X (az p q+az p q))*(-1*aI X (q.2-p.2))=aI X f.1+bA X*aI X (qE ((1:Int):Rat)*iE (az p q+az p q)*(0-(q.2-p.2)));rw[fe,fe,mM,nT,show(0:Et ts)-(q.2-p.2)=-(q.2-p.2) by grind,FY,lH];grind
 ·show aI X f.2+bA X*iE (aI X (az p q+az p q))*aI X (q.1-p.1)=aI X f.2+bA X*aI X (qE ((1:Int):Rat)*iE (az p q+az p q)*(q.1-p.1));rw[fe,fe,mM,nT,lH];grind
theorem uI(X:Et ts)(f p q:P2 ts):gw X f (fy p q) (qE ((-1:Int):Rat)*dZ X (az p q))=(aI X f.1-bA X*aI X (gk p q).1,aI X f.2-bA X*aI X (gk p q).2):=by
 have h:=sN X f p q;have h1:=congrArg Prod.fst h;have h2:=congrArg Prod.snd h;unfold gw cD at h1 h2 ⊢;rw[H0]at h1 h2 ⊢;dsimp only at h1 h2;refine Prod.ext ?_ ?_
 ·dsimp only;grind
 ·dsimp only;grind
def fP(p q:P2 ts):P2 ts:=(qE ((1:Int):Rat)*iE (a7 p q)*(aE q p).1,qE ((1:Int):Rat)*iE (a7 p q)*(aE q p).2)
theorem uz(X:Et ts)(p q c:P2 ts):jI X p (aE q p) (fi X (a7 p q) (aI X (bH p q c)+bA X)) =
  (aI X (cD p (bH p q c*iE (a7 p q)) (aE q p)).1+bA X*aI X (fP p q).1,aI X (cD p (bH p q c*iE (a7 p q)) (aE q p)).2+bA X*aI X (fP p q).2):=by
 unfold jI fi fP cD;refine Prod.ext ?_ ?_
 ·dsimp only;rw[pN,fe,fe,fe,fe,nT,mM,lH];grind
 ·dsimp only;rw[pN,fe,fe,fe,fe,nT,mM,lH];grind
theorem wS(X:Et ts)(p q c:P2 ts):jI X p (aE q p) (fi X (a7 p q) (aI X (bH p q c)-bA X)) =
  (aI X (cD p (bH p q c*iE (a7 p q)) (aE q p)).1-bA X*aI X (fP p q).1,aI X (cD p (bH p q c*iE (a7 p q)) (aE q p)).2-bA X*aI X (fP p q).2):=by
 unfold jI fi fP cD;refine Prod.ext ?_ ?_
 ·dsimp only;rw[pN,fe,fe,fe,fe,nT,mM,lH];grind
 ·dsimp only;rw[pN,fe,fe,fe,fe,nT,mM,lH];grind
theorem wM(r:(k:Nat)->T k):∀(n:Nat)(q:Rat),T.inv r n (T.ofQ n q)=T.ofQ n (1/q)
 |0,q=>rfl
 |n+1,q=>by
  show T.inv r (n+1) (T.ofQ n q,T.zero n)=(T.ofQ n (1/q),T.zero n);rw[T.inv_low,wM r n q]
theorem AD:(iE (qE 1):Et ts)=1:=by
 show T.inv (aw ts) ts.length (T.ofQ ts.length 1)=_;rw[wM,show(1:Rat)/1=((1:Nat):Rat) by decide +kernel];rfl
end
open Lean.Grind (CommRing)
section
variable{r:(k:Nat)->T k}
def eY{n:Nat}(x:E r n):E r n:=T.inv r n x
theorem uk{n:Nat}(u:E r n)(h:Sg (E r n) (sg r n)):sg r (n+1) (bM u 0)=sg r n u:=by
 rw[kz,h.zero];unfold T.sgn3;split
 ·rfl
 ·rw[if_pos (.inr rfl)]
theorem Jj{n:Nat}{x y:E r n}(hz:T.isZ n y=true):eY (bM x y:E r (n+1))=bM (eY x) 0:=by
 have e:y=T.zero n:=(T.isZ_iff n y).1 hz;subst e;have h:=T.inv_low r n x;show T.inv r (n+1) (x,T.zero n)=_;rw[h,E.zero_def];rfl
theorem PG{n:Nat}{x y:E r n}(hz:T.isZ n y=false)(h0:sg r n (aV x y)=0):eY (bM x y:E r (n+1))=bM (eY (x+x)) 0:=by
 have h:=Eo r (i:=n) (x:=((x,y):T n×T n)) hz h0;show T.inv r (n+1) (x,y)=_;rw[h,E.zero_def];rfl
theorem OL{n:Nat}{x y:E r n}(hz:T.isZ n y=false)(h0:sg r n (aV x y)≠0):eY (bM x y:E r (n+1))=bM (x*eY (aV x y)) (-y*eY (aV x y)):=by
 have h:=CO r (i:=n) (x:=((x,y):T n×T n)) hz h0;exact h
theorem Pj{q:Rat}(hq:bN q≠0):bN ((1:Rat)/q*q+-(((1:Nat):Rat)))=0:=by
 have hq:q≠0:=by
  rintro rfl;exact hq (by decide +kernel)
 have e:(1:Rat)/q*q+-(((1:Nat):Rat))=0:=by
  rw[show(((1:Nat):Rat))=1 from rfl];grind
 rw[e];decide +kernel
theorem E4(r:(k:Nat)->T k):∀(n:Nat),ff r n->∀x:E r n,sg r n x≠0->sg r n (eY x*x-1)=0
 |0,hp,x,hx=>Pj (q:=x) hx
 |n+1,hp,z,hz=>by
  have hp':ff r n:=fun j hj=>hp j oz
  have h:=du r n hp';have H:=du r (n+1) hp;have ih:=E4 r n hp';obtain⟨x,y,rfl⟩:=ka z;cases hzy:T.isZ n y
  ·by_cases h0:sg r n (aV x y)=0
   ·rw[PG hzy h0];have h2:=F3 h (hp n oz) hz h0;have e1:=ih _ h2
    have c:sg r (n+1) (bM x (-y))=0:=by
     have m:=H.mul (bM x y) (bM x (-y))
     have e:(bM x y:E r (n+1))*bM x (-y)=bM (aV x y) 0:=by
      rw[kt];unfold aV;congr 1 <;> grind
     rw[e,uk _ h,h0]at m;rcases Int.mul_eq_zero.1 m.symm with g |g
     ·exact absurd g hz
     ·exact g
    have e2:bM (eY (x+x)) 0*bM x y-(1:E r (n+1))=-(bM (eY (x+x)) 0*bM x (-y))+bM (eY (x+x)*(x+x)-1) 0:=by
     rw[uV,show ∀a b:E r (n+1),a-b=a+-b from fun a b=>by grind,kt,kt,rV,rV,oG,oG];congr 1 <;> grind
    rw[e2];have e3:sg r (n+1) (-(bM (eY (x+x)) 0*bM x (-y)))=0:=by rw[H.neg,H.mul,c];simp
    rw[H.zadd e3,uk _ h];exact e1
   ·rw[OL hzy h0];have e1:=ih _ h0
    have e2:bM (x*eY (aV x y)) (-y*eY (aV x y))*bM x y-(1:E r (n+1))=bM (eY (aV x y)*aV x y-1) 0:=by
     rw[uV,show ∀a b:E r (n+1),a-b=a+-b from fun a b=>by grind,kt,rV,oG];generalize eY (aV x y)=i;unfold aV;congr 1 <;> grind
    rw[e2,uk _ h];exact e1
  ·rw [Jj hzy];have e:y = 0:=by rw [(T.isZ_iff n y).1 hzy,E.zero_def]
   subst e;rw[uk _ h]at hz;have e1:=ih _ hz
   have e2:bM (eY x) 0*bM x 0-(1:E r (n+1))=bM (eY x*x-1) 0:=by
    rw[uV,show ∀a b:E r (n+1),a-b=a+-b from fun a b=>by grind,kt,rV,oG];congr 1 <;> grind
   rw[e2,uk _ h];exact e1
end
section
variable{r:(k:Nat)->T k}{n:Nat}
def zS(h:ff r n):Setoid (E r n) where
  r x y:=sg r n (x-y)=0
  iseqv:=by
    have H:=du r n h;refine⟨fun x=>?_,fun {x y} e=>?_,fun {x y z} e f=>?_⟩
    · rw[show x-x=0 by grind];exact H.zero
    · rw[show y-x=-(x-y) by grind,H.neg,e];rfl
    · rw[show x-z=(x-y)+(y-z) by grind,H.zadd e];exact f
def Zq(h:ff r n):Type:=Quotient (zS h)
def aa(h:ff r n)(x:E r n):Zq h:=Quotient.mk (zS h) x
theorem fh(h:ff r n){x y:E r n}:aa h x=aa h y↔sg r n (x-y)=0 :=
 ⟨fun e=>Quotient.exact (s:=zS h) e,fun e=>Quotient.sound (s:=zS h) e⟩
instance (h:ff r n):Add (Zq h):=⟨Quotient.lift₂ (fun x y=>aa h (x+y)) (by
  intro a b c d e f;have H:=du r n h;refine(fh h).2 ?_;rw[show a+b-(c+d)=(a-c)+(b-d) by grind,H.zadd (show sg r n (a-c)=0 from e)];exact f)⟩
instance (h:ff r n):Mul (Zq h):=⟨Quotient.lift₂ (fun x y=>aa h (x*y)) (by
  intro a b c d e f;have H:=du r n h;refine(fh h).2 ?_;have e':sg r n (a-c)=0:=e;have f':sg r n (b-d)=0:=f;rw[show a*b-c*d=(a-c)*b+c*(b-d) by grind,H.zadd (by rw[H.mul,e'];simp),H.mul,f'];simp)⟩
instance (h:ff r n):Neg (Zq h):=⟨Quotient.lift (fun x=>aa h (-x)) (by
  intro a c e;have H:=du r n h;refine(fh h).2 ?_;have e':sg r n (a-c)=0:=e;rw[show -a - -c=-(a-c) by grind,H.neg,e'];rfl)⟩
instance (h:ff r n):_root_.Sub (Zq h):=⟨fun x y=>x+-y⟩
instance (h:ff r n)(c:Nat):OfNat (Zq h) c:=⟨aa h (OfNat.ofNat c)⟩
instance (h:ff r n):NatCast (Zq h):=⟨fun c=>aa h (c:E r n)⟩
instance (h:ff r n):IntCast (Zq h):=⟨fun c=>aa h (c:E r n)⟩
instance (h:ff r n):SMul Nat (Zq h):=⟨fun c x=>aa h (c:E r n)*x⟩
instance (h:ff r n):SMul Int (Zq h):=⟨fun c x=>aa h (c:E r n)*x⟩
def Zq.pow{h:ff r n}(x:Zq h):Nat->Zq h
  |0=>aa h 1
  |c+1=>Zq.pow x c*x
instance (h:ff r n):HPow (Zq h) Nat (Zq h):=⟨Zq.pow⟩
variable(h:ff r n)
theorem cC(x y:E r n):aa h (x+y)=aa h x+aa h y:=rfl
theorem ba(x y:E r n):aa h (x*y)=aa h x*aa h y:=rfl
theorem Gh(x:E r n):aa h (-x)=-aa h x:=rfl
theorem bp(x y:E r n):aa h (x-y)=aa h x-aa h y:=by
 rw[show x-y=x+-y by grind];rfl
theorem eD(a:Zq h):∃x,a=aa h x:=Quotient.ind (motive:=fun a=>∃x,a=aa h x) (fun x=>⟨x,rfl⟩) a
instance zRing:CommRing (Zq h) where
  add_zero a:=by
    obtain⟨x,rfl⟩:=eD h a;exact congrArg (aa h) (show x+0=x by grind)
  add_comm a b:=by
    obtain⟨x,rfl⟩:=eD h a;obtain⟨y,rfl⟩:=eD h b;exact congrArg (aa h) (show x+y=y+x by grind)
  add_assoc a b c:=by
    obtain⟨x,rfl⟩:=eD h a;obtain⟨y,rfl⟩:=eD h b;obtain⟨z,rfl⟩:=eD h c;exact congrArg (aa h) (show x+y+z=x+(y+z) by grind)
  mul_assoc a b c:=by
    obtain⟨x,rfl⟩:=eD h a;obtain⟨y,rfl⟩:=eD h b;obtain⟨z,rfl⟩:=eD h c;exact congrArg (aa h) (show x*y*z=x*(y*z) by grind)
  mul_one a:=by
    obtain⟨x,rfl⟩:=eD h a;exact congrArg (aa h) (show x*1=x by grind)
  one_mul a:=by
    obtain⟨x,rfl⟩:=eD h a;exact congrArg (aa h) (show 1*x=x by grind)
  left_distrib a b c:=by
    obtain⟨x,rfl⟩:=eD h a;obtain⟨y,rfl⟩:=eD h b;obtain⟨z,rfl⟩:=eD h c;exact congrArg (aa h) (show x*(y+z)=x*y+x*z by grind)
  right_distrib a b c:=by
    obtain⟨x,rfl⟩:=eD h a;obtain⟨y,rfl⟩:=eD h b;obtain⟨z,rfl⟩:=eD h c;exact congrArg (aa h) (show(x+y)*z=x*z+y*z by grind)
  zero_mul a:=by
    obtain⟨x,rfl⟩:=eD h a;exact congrArg (aa h) (show 0*x=0 by grind)
  mul_zero a:=by
    obtain⟨x,rfl⟩:=eD h a;exact congrArg (aa h) (show x*0=0 by grind)
  pow_zero a:=rfl
  pow_succ a c:=rfl
  ofNat_succ c:=congrArg (aa h) (Lean.Grind.Semiring.ofNat_succ (α:=E r n) c)
  ofNat_eq_natCast c:=congrArg (aa h) (Lean.Grind.Semiring.ofNat_eq_natCast (α:=E r n) c)
  nsmul_eq_natCast_mul c a:=rfl
  neg_add_cancel a:=by
    obtain⟨x,rfl⟩:=eD h a;exact congrArg (aa h) (show -x+x=0 by grind)
  sub_eq_add_neg a b:=rfl
  neg_zsmul i a:=by
    obtain⟨x,rfl⟩:=eD h a
    exact congrArg (aa h) (show((-i:Int):E r n)*x=-((i:E r n)*x) by
      rw[Lean.Grind.Ring.intCast_neg];grind)
  zsmul_natCast_eq_nsmul c a:=rfl
  intCast_ofNat c:=congrArg (aa h) (Lean.Grind.Ring.intCast_ofNat (α:=E r n) c)
  intCast_neg i:=congrArg (aa h) (Lean.Grind.Ring.intCast_neg (α:=E r n) i)
  mul_comm a b:=by
    obtain⟨x,rfl⟩:=eD h a;obtain⟨y,rfl⟩:=eD h b;exact congrArg (aa h) (show x*y=y*x by grind)
theorem et{x:E r n}:aa h x=0↔sg r n x=0:=by
 have e:=fh h (x:=x) (y:=0);rw[show x-0=x by grind]at e;exact e
theorem n6{x:E r n}(hx:sg r n x≠0):aa h (eY x)*aa h x=1:=by
 have e:=(fh h (x:=eY x*x) (y:=1)).2 (E4 r n h x hx);exact e
theorem Ck:aa h (1:E r n)=1:=rfl
end
example {r:(k:Nat)->T k} {n:Nat} (h:ff r n) (a b c:Zq h) (e:a*b=1) (f:c*a=2):c=2*b:=by grind
end Go.Lw
namespace Go.Lw
open Go.Proofs
theorem Tz(o:Option Nat):ac .geq (mW o) 0=o.isSome:=by
 cases o with
 |none=>rfl
 |some i=>exact decide_eq_true (by show(i:Int)>=0;omega)
theorem PY(bs:List (Rat×Rat))(hl:bs.length<=281474976710656)(f:FuncId)(pre caps:List AV)(ok:Nat->Bool)
  (hf:∀(i:Nat)(b:Rat×Rat),bs[i]?=some b->(∀j,j<i->ok j=true)->FP f (pre++[qP b]++caps) (bl (!ok i))) :
  FP 354 [.lst 6 (bs.map qP),.cl f pre caps] (i64 (mW (dI bs.length ok))):=by
 refine aj func354 ?_;refine gl ?_;refine a5 [0,1,7] [] (fun(i:Nat)=>[(8,some (i64 i))]) (fun _=>[]) (fun i=>i<=bs.length/\∀j,j<i->ok j=true) (fun i=>bs.length-i) 0 ⟨zero_le _,fun j h=>by omega⟩ ?_;rintro i ⟨hi,hj⟩ K1 J1;refine gC (fun t9=>?_) (fun t9=>?_)
 ·have hin:=bn t9;obtain⟨b,hb⟩:=aG hin;refine gi (aN hb) ?_;refine gc (hf i b hb hj) ?_;refine gC (fun t16=>?_) (fun t16=>?_)
  ·have h2:=dH t16;refine af ?_;rw[ja hin hj h2];rfl
  have h2:=dC t16;refine ga aW ?_;exact aT J1 (i+1) ⟨hin,fun j h9=>by rcases lt_or_ge j i with g |g;exact hj j g;(have:j=i:=by omega);subst this;exact h2⟩
 have hin:=bE hi t9;subst hin;refine af ?_;rw[jc hj];rfl
theorem Qj(bs:List (Rat×Rat))(hl:bs.length<=281474976710656)(f:FuncId)(pre caps:List AV)(ok:Nat->Bool)
  (hf:∀(i:Nat)(b:Rat×Rat),bs[i]?=some b->(∀j,j<i->ok j=true)->FP f (pre++[qP b]++caps) (bl (!ok i))) :
  FP 259 [.lst 6 (bs.map qP),.cl f pre caps] (bl (dI bs.length ok).isSome):=by
 refine aj func259 ?_;refine gc (PY bs hl f pre caps ok hf) ?_;refine af ?_;rw[<- Tz];rfl
theorem TJ{v:Rat×Rat}(hv:Sm 3000 v):FP 260 [qP v] (bl (decide (bJ v v=0))):=by
 refine aj func260 ?_;refine gc (Hs hv hv oz oz) ?_;refine gc (Mi ((hv.dot hv).qs oz)) ?_;refine af ?_;rw[<- FB];rfl
def fX(vs:List (Rat×Rat)):Bool:=(dI vs.length fun i=>!decide (bJ (vs.getD i (0,0)) (vs.getD i (0,0))=0)).isSome
theorem FC(vs:List (Rat×Rat))(hl:vs.length<=281474976710656)(hv:∀v∈vs,Sm 3000 v):FP 155 [.lst 6 (vs.map qP)] (bl (fX vs)):=by
 refine aj func155 ?_;refine gc (Con.sA (.cons (.refl _) (.cons ((Sub.fn0 _).trans (zQ rfl)) .nil)) (Qj vs hl 260 [] [] (fun i=>!decide (bJ (vs.getD i (0,0)) (vs.getD i (0,0))=0)) (fun i b hb _=>by rw[Bool.not_not,ao hb];exact TJ (hv b (mem_of_getElem? hb))))) ?_;refine af ?_;rfl
theorem ru{v:Rat×Rat}(h:fX [v]=false):bJ v v≠0:=by
 intro h0;have h1:dI 1 (fun i=>!decide (bJ ([v].getD i (0,0)) ([v].getD i (0,0))=0))=some 0:=ja oz (fun j hj=>by omega) (by show(!decide (bJ v v=0))=false;rw[h0];rfl);unfold fX at h;rw[show[v].length=1 from rfl,h1]at h;cases h
theorem rj{v w:Rat×Rat}(h:fX [v,w]=false):bJ v v≠0/\bJ w w≠0:=by
 unfold fX at h;rw[Option.isSome_eq_false_iff,Option.isNone_iff_eq_none]at h;have h2:=TP h;have h3:=h2 0 (by show 0<2;omega);have h4:=h2 1 (by show 1<2;omega);have h5:(!decide (bJ v v=0))=true:=h3;have h6:(!decide (bJ w w=0))=true:=h4;simp only[Bool.not_eq_true',decide_eq_false_iff_not]at h5 h6;exact⟨h5,h6⟩
theorem Hc(i n:Nat)(hi:i<=100):FP 164 [i64 i,i64 n] (i64 (if n=1 then 0 else 1-2*(i:Int))):=by
 refine aj func164 ?_;refine gC (fun t6=>?_) (fun t6=>?_)
 ·have h1 : n = 1 := by have := cK t6; omega
  refine af ?_;rw[if_pos h1];rfl
 have h1:¬n=1:=by have:=dj t6;omega
 refine ga (show _=2*(i:Int) by exact AT oz) ?_;refine ga (show _=1-2*(i:Int) by exact dT oz) ?_;refine af ?_;rw[if_neg h1];rfl
section
variable{ts:LL}
abbrev j7(u:Rat×Rat):Et ts:=qE (bJ u u)
def de(u:Rat×Rat)(w:P2 ts):Et ts:=(qE u.1*w.1+qE u.2*w.2)*iE (j7 u)
def db(u:Rat×Rat)(w:P2 ts):Et ts:=(qE u.1*w.2-qE u.2*w.1)*iE (j7 u)
def rq(u:Rat×Rat)(w:P2 ts)(p:Rat×Rat)(o:P2 ts):Et ts:=o.1-(de u w*qE p.1-db u w*qE p.2)
def qR(u:Rat×Rat)(w:P2 ts)(p:Rat×Rat)(o:P2 ts):Et ts:=o.2-(db u w*qE p.1+de u w*qE p.2)
def gp(u:Rat×Rat)(w:P2 ts)(p:Rat×Rat)(o:P2 ts):Pq:=⟨sX (de u w),sX (db u w),sX (rq u w p o),sX (qR u w p o)⟩
theorem vm(ts:LL)(a b:List Rat):Con prog 75 [.ptr 1000 0,aK a b,.v .nilIface] [(1000,some (bh ts))] (aK a b) [(1000,some (bh ts))]:=by
 have h:=vR (ts.map (List.map rt)) a b;rw[AC]at h;exact h
theorem pj(q:Rat):ae ts.length (sh 0 (q:Rat))=(qE q:Et ts):=ik _ q
theorem oT{e:Nat}{q:Rat}(h5:ts.length<=5)(h:Qb e q):Nm ts.length e (sh 0 (q:Rat)):=Nm.ofQ h5 (Cb.one h)
structure BdP(ts:LL)(u:Rat×Rat)(w:P2 ts)(p:Rat×Rat)(o:P2 ts):Prop where
  dot:FP 80 [aR ts,aK (sh 0 (u.1:Rat)) (sh 0 (u.2:Rat)),aK (sX w.1) (sX w.2)] (.tup [nA (sX (qE u.1*w.1+qE u.2*w.2)),.v .nilIface])
  crs:FP 77 [aR ts,aK (sh 0 (u.1:Rat)) (sh 0 (u.2:Rat)),aK (sX w.1) (sX w.2)] (.tup [nA (sX (qE u.1*w.2-qE u.2*w.1)),.v .nilIface])
  d1:FP 281 [aR ts,nA (sX (qE u.1*w.1+qE u.2*w.2)),nA (sh 0 (bJ u u:Rat))] (.tup [nA (sX (de u w)),.v .nilIface])
  d2:FP 281 [aR ts,nA (sX (qE u.1*w.2-qE u.2*w.1)),nA (sh 0 (bJ u u:Rat))] (.tup [nA (sX (db u w)),.v .nilIface])
  tn:FP 191 [aR ts,nA (sX (de u w)),nA (sX (db u w)),aK (sh 0 (p.1:Rat)) (sh 0 (p.2:Rat))] (.tup [aK (sX (de u w*qE p.1-db u w*qE p.2)) (sX (db u w*qE p.1+de u w*qE p.2)),.v .nilIface])
  s1:FP 176 [aR ts,nA (sX o.1),nA (sX (de u w*qE p.1-db u w*qE p.2))] (.tup [nA (sX (rq u w p o)),.v .nilIface])
  s2:FP 176 [aR ts,nA (sX o.2),nA (sX (db u w*qE p.1+de u w*qE p.2))] (.tup [nA (sX (qR u w p o)),.v .nilIface])
  ok:Pq.ok ts.length 80000000000 (gp u w p o)
theorem De{r W A K F:Nat}{u p:Rat×Rat}{w o:P2 ts}(tw:Tw ts r)(h2:ts.length<=2)(hk:kB r ts.length<=K)(hu:Sm 3000 u)(hp:Sm 3000 p)(h0:bJ u u≠0)
  (w1:Nm ts.length W (sX w.1)) (w2:Nm ts.length W (sX w.2)) (a1:Nm ts.length A (sX o.1)) (a2:Nm ts.length A (sX o.2)) (hW:3000<=W) (hF:4*W+10*K+A+100000<=F) (hF2:F<=80000000000):BdP ts u w p o:=by
 have hl:lm ts.length=200000000000:=by unfold lm;rw[if_pos h2]
 have h5:=tw.five;have hu1:=oT (ts:=ts) h5 hu.x;have hu2:=oT (ts:=ts) h5 hu.y;have hp1:=oT (ts:=ts) h5 hp.x;have hp2:=oT (ts:=ts) h5 hp.y;have hnn:=oT (ts:=ts) h5 (hu.dot hu);have hkE:eB r ts.length<=K:=hk;have ew:∀x:Et ts,ae ts.length (sX x)=x:=fun x=>bc _ _
 have c1:=Au tw (hu1.mono (f:=W) oz) (hu2.mono oz) w1 w2 (by rw[hl];omega);have c2:=x4 tw (hu1.mono (f:=W) oz) (hu2.mono oz) w1 w2 (by rw[hl];omega);have n1:=Ek tw hu1 hu2 w1 w2;have n2:=xL tw hu1 hu2 w1 w2;rw[pj,pj,ew,ew]at c1 c2 n1 n2
 have hs:T.sgn (aw ts) ts.length (ae ts.length (sh 0 (bJ u u:Rat)))≠0:=by
  rw[ik,T.sgn_ofQ];intro h9;exact h0 (lY h9)
 have nb:Nl 0 (sh 0 (bJ u u:Rat)):=di 0 _;have d1:=zG tw n1 hnn (zero_le _) nb hs (by rw[hl];omega) (by simp only[iB];omega);have d2:=zG tw n2 hnn (zero_le _) nb hs (by rw[hl];omega) (by simp only[iB];omega);have m1:=yb tw n1 hnn (zero_le _) nb hs (by rw[hl];omega) (by simp only[iB];omega);have m2:=yb tw n2 hnn (zero_le _) nb hs (by rw[hl];omega) (by simp only[iB];omega);have e1:∀x:Et ts,ae ts.length (sh ts.length x)=x:=fun x=>bc _ _
 have f1:ae ts.length (sh ts.length (pU ts (qE u.1:Et ts) (qE u.2:Et ts) w.1 w.2))=(qE u.1*w.1+qE u.2*w.2:Et ts):=bc _ _;have f2:ae ts.length (sh ts.length (mb ts (qE u.1:Et ts) (qE u.2:Et ts) w.1 w.2))=(qE u.1*w.2-qE u.2*w.1:Et ts):=bc _ _;rw[f1,pj]at d1 m1;rw[f2,pj]at d2 m2;have k1:Nm ts.length (2*W+3*K+30000) (sX (de u w)):=Nm.mono m1 (by simp only[iB];omega);have k2:Nm ts.length (2*W+3*K+30000) (sX (db u w)):=Nm.mono m2 (by simp only[iB];omega);have c3:=Ik tw k1 k2 (hp1.mono (f:=(2*W+3*K+30000)) oz) (hp2.mono oz) (by rw[hl];omega);have n3:=rI tw k1 k2 hp1 hp2;have n4:=ud tw k1 k2 hp1 hp2;rw[pj,pj,ew,ew]at c3 n3 n4;have s1:=nP tw a1 n3 (by rw[hl];omega);have s2:=nP tw a2 n4 (by rw[hl];omega);have m3:=a1.sub n3;have m4:=a2.sub n4;have f3:ae ts.length (sh ts.length (pX ts (de u w) (db u w) (qE p.1:Et ts) (qE p.2:Et ts)))=(de u w*qE p.1-db u w*qE p.2:Et ts):=bc _ _;have f4:ae ts.length (sh ts.length (qG ts (de u w) (db u w) (qE p.1:Et ts) (qE p.2:Et ts)))=(db u w*qE p.1+de u w*qE p.2:Et ts):=bc _ _;rw[ew,f3]at s1 m3;rw[ew,f4]at s2 m4;exact⟨c1,c2,d1,d2,c3,s1,s2,k1.mono oz,k2.mono oz,Nm.mono m3 oz,Nm.mono m4 oz⟩
theorem B6{r:Nat}{u p:Rat×Rat}{w o:P2 ts}(tw:Tw ts r)(h2:ts.length<=2)(hk:kB r ts.length<=1101400000)(hu:Sm 3000 u)(hp:Sm 3000 p)(h0:bJ u u≠0)
  (w1:Nm ts.length 17000000000 (sX w.1)) (w2:Nm ts.length 17000000000 (sX w.2)) (a1:Nm ts.length 773000000 (sX o.1)) (a2:Nm ts.length 773000000 (sX o.2)):BdP ts u w p o :=
 De (F:=80000000000) tw h2 hk hu hp h0 w1 w2 a1 a2 oz oz oz
theorem wd{a b c:List Rat}(h:FP 176 [aR ts,nA a,nA b] (.tup [nA c,.v .nilIface])):Con prog 78 [.ptr 1000 0,nA a,nA b] [(1000,some (bh ts))] (nA c) [(1000,some (bh ts))]:=by
 refine gF func78 (fun k z h=>bG h) ?_;refine gc h ?_;refine gt (aJ (pL _ _) (aL rfl rfl rfl) aM rfl rfl) ?_;refine gR ?_;exact aH.keep (bu rfl)
theorem xT{u p:Rat×Rat}{w o:P2 ts}(hu:Sm 3000 u)(hp:Sm 3000 p)(B:BdP ts u w p o) :
  Con prog 152 [.ptr 1000 0,qP u,dm w.l,qP p,dm o.l] [(1000,some (bh ts))] (gp u w p o).av [(1000,some (bh ts))]:=by
 refine gF func152 (fun k z h=>bG h) ?_;refine gc (vr (hu.x.qs oz) (hu.y.qs oz)) ?_;refine gc (zY hu oz) ?_;refine gD ?_;refine gc B.dot ?_;refine gt (aX (pL _ _) (aL rfl rfl rfl) rfl rfl rfl) ?_;refine gt (aX (vp B.d1) (aL rfl rfl rfl) rfl rfl rfl) ?_;refine gc B.crs ?_;refine gt (aX (pL _ _) (aL rfl rfl rfl) rfl rfl rfl) ?_;refine gt (aX (vp B.d2) (aL rfl rfl rfl) rfl rfl rfl) ?_;refine gD ?_;refine gc (vr (hp.x.qs oz) (hp.y.qs oz)) ?_;refine gc B.tn ?_;refine gt (aX (vm _ _ _) (aL rfl rfl rfl) rfl rfl rfl) ?_;refine gD ?_;refine gt (aX (wd B.s1) (aL rfl rfl rfl) rfl rfl rfl) ?_;refine gt (aX (wd B.s2) (aL rfl rfl rfl) rfl rfl rfl) ?_;refine gD ?_;refine gR ?_;exact aH.keep (bu rfl)
end
structure Sv where
  ts:LL
  ps:List Pq
  mode:Int
abbrev Sv.av(s:Sv):AV:=.agg [.lst 1 (s.ts.map nA),.lst 4 (s.ps.map Pq.av),i64 s.mode]
structure Hd where
  p:Rat×Rat
  a:List Rat×List Rat
  c:Rat×Rat
abbrev Hd.av(h:Hd):AV:=.agg [bl (rt h.p.1).neg,ws (rt h.p.1).num,ws (rt h.p.1).den,bl (rt h.p.2).neg,ws (rt h.p.2).num,ws (rt h.p.2).den,nA h.a.1,nA h.a.2,bl (rt h.c.1).neg,ws (rt h.c.1).num,ws (rt h.c.1).den,bl (rt h.c.2).neg,ws (rt h.c.2).num,ws (rt h.c.2).den]
def je(ts:LL)(h:Hd)(x:List Rat×List Rat):P2 ts:=(dE ts x.1-dE ts h.a.1,dE ts x.2-dE ts h.a.2)
def kq(ts:LL)(h:Hd):P2 ts:=(dE ts h.a.1,dE ts h.a.2)
def fS(ts:LL)(x:List Rat×List Rat)(h:Hd):Pq:=gp (bw h.c h.p) (je ts h x) h.p (kq ts h)
structure HdP(ts:LL)(x:List Rat×List Rat)(h:Hd):Prop where
  hp:Sm 1000 h.p
  hc:Sm 1000 h.c
  s1:FP 176 [aR ts,nA x.1,nA h.a.1] (.tup [nA (sX (je ts h x).1),.v .nilIface])
  s2:FP 176 [aR ts,nA x.2,nA h.a.2] (.tup [nA (sX (je ts h x).2),.v .nilIface])
  e1:sX (dE ts h.a.1)=h.a.1
  e2:sX (dE ts h.a.2)=h.a.2
  b:BdP ts (bw h.c h.p) (je ts h x) h.p (kq ts h)
theorem HdP.body{ts:LL}{x:List Rat×List Rat}{h:Hd}(H:HdP ts x h) :
  Con prog 152 [.ptr 1000 0,qP (bw h.c h.p),dm (je ts h x).l,qP h.p,aK h.a.1 h.a.2] [(1000,some (bh ts))] (fS ts x h).av [(1000,some (bh ts))]:=by
 have hb:=xT (Sm.mono (H.hc.sub H.hp) oz) (Sm.mono H.hp oz) H.b
 have e:dm (kq ts h).l=aK h.a.1 h.a.2:=by
  show aK (sX (dE ts h.a.1)) (sX (dE ts h.a.2))=_;rw[H.e1,H.e2]
 rw[e]at hb;exact hb
def iy(m:Mt)(hs:List Hd)(i:Nat):Sv:=⟨m.ts,hs.map (fS m.ts (m.ps.getD i ([],[]))),if m.ps.length=1 then 0 else 1-2*(i:Int)⟩
def ig(m:Mt)(hs:List Hd)(n:Nat):List AV:=(List.range n).map fun i=>(iy m hs i).av
theorem xP(m:Mt)(hs:List Hd)(n:Nat):(ig m hs n).length=n:=by simp[ig]
theorem Rk(m:Mt)(hs:List Hd)(n:Nat):ig m hs (n+1)=ig m hs n++[(iy m hs n).av]:=by unfold ig;rw[List.range_succ];simp
theorem IM{m:Mt}{r:Nat}(tw:Tw m.ts r)(hs:List Hd)(hl:hs.length<=2)(ml:m.ps.length<=2)(H:∀x∈m.ps,∀h∈hs,HdP m.ts x h) :
  FP 158 [m.av,.lst 14 (hs.map Hd.av)] (.tup [.lst 3 (ig m hs m.ps.length),.v .nilIface]):=by
 refine aj func158 ?_;refine gl ?_;refine gW (Wk.virt 900 3 rfl) ?_;refine a5 [1,2,15,16] [2] (fun(i:Nat)=>[(6,some (.ms 900 3 0 i)),(17,some (i64 i))]) (fun i=>[(900,some (.row 3 (ig m hs i)))]) (fun i=>i<=m.ps.length) (fun i=>m.ps.length-i) 0 (zero_le _) ?_;rintro i hi K1 J1;refine gC (fun t18=>?_) (fun t18=>?_) (st2:=(17,0))
 ·have hin:=bn t18;obtain⟨x,hx⟩:=aG hin;have hx9:m.ps.getD i ([],[])=x:=ao hx;have hxm:=mem_of_getElem? hx;refine gi (aN hx) ?_;refine gc (Ay tw) ?_;refine gl ?_;refine gc (Hc i m.ps.length oz) ?_;refine gD ?_ (7,0);refine gW (Wk.o (sl:=[(1,some (.lst 14 (hs.map Hd.av))),(2,some (.ptr 2 0)),(6,some (.ms 900 3 0 i)),(8,some (.ptr 8 0)),(9,some (.ptr 25 0)),(10,some (.ptr 10 0)),(15,some (.lst 2 (m.ps.map dm))),(16,some (i64 m.ps.length)),(17,some (i64 i))]) (hp:=[(2,some (.box [.lst 1 (m.ts.map nA),.lst 2 (m.ps.map dm)])),(8,some (.box [nA x.1,nA x.2])),(10,some (.box [.lst 1 (m.ts.map nA),nS,i64 (if m.ps.length=1 then 0 else 1-2*(i:Int))])),(25,some (bh m.ts)),(900,some (.row 3 (ig m hs i)))])) ?_
  refine gl ?_;refine gW (Wk.virt 901 4 rfl) ?_;refine a5 [1,2,8,9,10,15,16,17,35,36] [2,8,25,900] (fun(k:Nat)=>[(6,some (.ms 900 3 0 i)),(37,some (i64 k))]) (fun k=>[(10,some (.box [.lst 1 (m.ts.map nA),.ms 901 4 0 k,i64 (if m.ps.length=1 then 0 else 1-2*(i:Int))])),(901,some (.row 4 (((hs.take k).map (fS m.ts x)).map Pq.av)))]) (fun k=>k<=hs.length) (fun k=>hs.length-k) 0 (zero_le _) ?_ (h2:=(.cons rfl (BlkSub.bL (.cons (.refl _) (.cons (.nM _ _ _) (.cons (.refl _) .nil))) rfl) (.k .nil)))
  rintro k hk K2 J2;refine gC (fun t38=>?_) (fun t38=>?_) (st2:=(13,0))
  ·have hkn:=bn t38;obtain ⟨h,hh⟩:=aG hkn;have Hh:=H x hxm h (mem_of_getElem? hh);refine gi (aN hh) ?_;refine gt (aX (Con.rB 25 rfl rfl rfl rfl (wd Hh.s1)) (aL rfl rfl rfl) rfl rfl rfl) ?_;refine gt (aX (Con.rB 25 rfl rfl rfl rfl (wd Hh.s2)) (aL rfl rfl rfl) rfl rfl rfl) ?_;refine gD ?_;refine gc (oC Hh.hc Hh.hp oz oz) ?_;refine gt (aX (Con.rB 25 rfl rfl rfl rfl Hh.body) (.cons (.tmp rfl) (.cons (.tmp rfl) (.cons (.tmp rfl) (.cons (.tmp rfl) (.cons (.tmp rfl) .nil))))) rfl rfl rfl) ?_;refine gs (da (.tmp rfl) rfl (by rw [length_map,length_map,length_take]; omega) (.tmp rfl) T38 rfl T69 rfl rfl (by dsimp only; simp only [length_cons,length_nil]; omega) rfl rfl) ?_;refine gD ?_ (12,0);refine gW (Wk.of (sl:=[(1,some (.lst 14 (hs.map Hd.av))),(2,some (.ptr 2 0)),(6,some (.ms 900 3 0 i)),(8,some (.ptr 8 0)),(9,some (.ptr 25 0)),(10,some (.ptr 10 0)),(15,some (.lst 2 (m.ps.map dm))),(16,some (i64 m.ps.length)),(17,some (i64 i)),(35,some (.lst 14 (hs.map Hd.av))),(36,some (i64 hs.length)),(37,some (i64 k))]) (hp:=[(2,some (.box [.lst 1 (m.ts.map nA),.lst 2 (m.ps.map dm)])),(8,some (.box [nA x.1,nA x.2])),(25,some (bh m.ts)),(10,some (.box [.lst 1 (m.ts.map nA),.ms 71 4 0 (k + 1),i64 (if m.ps.length = 1 then 0 else 1 - 2 * (i:Int))])),(900,some (.row 3 (ig m hs i))),(71,some (.row 4 (((hs.take (k + 1)).map (fS m.ts x)).map Pq.av)))]) bj (.k (.k (.k (.k (.k (.cons rfl (BlkSub.of (by rw [d9 hh,map_append,map_append]; rfl)) .nil))))))) ?_ (12,0)
   refine gW (Wk.rk (k:=71) (d:=901) rfl rfl) ?_;refine ga aW ?_;exact aT J2 (k+1) hkn
  have hkn:=bE hk t38;subst hkn;refine gW ((Wk.freeze (k:=901) rfl).trans<|Wk.of (sl:=[(1,some (.lst 14 (hs.map Hd.av))),(2,some (.ptr 2 0)),(6,some (.ms 900 3 0 i)),(9,some (.ptr 25 0)),(10,some (.ptr 10 0)),(15,some (.lst 2 (m.ps.map dm))),(16,some (i64 m.ps.length)),(17,some (i64 i))]) (hp:=[(2,some (.box [.lst 1 (m.ts.map nA),.lst 2 (m.ps.map dm)])),(25,some (bh m.ts)),(10,some (.box [.lst 1 (m.ts.map nA),.lst 4 ((hs.map (fS m.ts x)).map Pq.av),i64 (if m.ps.length=1 then 0 else 1-2*(i:Int))])),(900,some (.row 3 (ig m hs i)))]) bj (.k (.k (.cons rfl (BlkSub.bL (.cons (.refl _) (.cons (Sub.of (by rw[cw (by rw[length_map,length_map,length_take];omega),take_length])) (.cons (.refl _) .nil))) rfl) (.k .nil))))) ?_
  refine gC (fun t78=>?_) (fun t78=>?_) (st1:=(14,0));cases t78;refine gs (da (.tmp rfl) rfl (xP _ _ _).symm (.tmp rfl) T54 rfl T62 rfl rfl (by dsimp only;simp only[length_cons,length_nil];omega) rfl rfl) ?_ (16,0);refine gW (Wk.of (sl:=[(1,some (.lst 14 (hs.map Hd.av))),(2,some (.ptr 2 0)),(6,some (.ms 86 3 0 (i+1))),(15,some (.lst 2 (m.ps.map dm))),(16,some (i64 m.ps.length)),(17,some (i64 i))]) (hp:=[(2,some (.box [.lst 1 (m.ts.map nA),.lst 2 (m.ps.map dm)])),(86,some (.row 3 (ig m hs (i+1))))]) bj (.k (.cons rfl (BlkSub.of (by rw[Rk];unfold iy;rw[hx9])) .nil))) ?_ (16,0);refine gW (Wk.rk (k:=86) (d:=900) rfl rfl) ?_;refine ga aW ?_;exact aT J1 (i+1) hin
 have hin:=bE hi t18;subst hin;refine gW ((Wk.freeze (k:=900) rfl).trans<|Wk.of (sl:=[(6,some (.lst 3 (ig m hs m.ps.length)))]) (hp:=[]) (.cons rfl (Sub.of (by rw[cw (xP _ _ _).symm])) .nil) .nil) ?_;refine bF ?_;rfl
variable{P:Program}{N:Nat}{R:Array Oper}{s:AS}{pos:String}{after:Array Edge}
def Dj(P:Program)(T:TypeId)(f o:Nat):Bool:=match P.underlying T with
  |some (.struct fs)=>(match fs[f]? with
    |some fl=>Nat.beq fl.offset o&&(match P.underlying fl.type with
      |some (.struct _)=>false
      |some (.array _ _)=>false
      |some _=>true
      |none=>false)
    |none=>false)
  |_=>false
theorem Sq{d f o:Nat}{x:Operand}{cs:List AV}{c:AV}{T t:TypeId}(hx:Ev s x (.agg cs))(hc:cs[o]?=some c)(hF:Dj P T f o=true)(hN:Nat.blt d N=true) :
  Step P N R s ⟨some d,.field T x f,t,pos,after,none⟩ ⟨some c,[],ay x,[]⟩ :=
 dU rfl rfl hN fun s' hag C m a w hr=>by
  have h:=(hx.agree hag (fun _ h=>h)).rep hr;generalize hu:a.eval x=y at h;cases h with
  | @agg _ vs _ hn h1 hrr =>
   have ho:=(List.getElem?_eq_some_iff.1 hc).1;have hv:vs[o]?=some vs[o]:=by simp[hn,ho]
   refine⟨vs[o],?_,hrr o _ c hv hc⟩;unfold Dj at hF;split at hF
   ·rename_i fs hu2;split at hF
    ·rename_i fl hfl;rw[and_eq_true]at hF;obtain⟨h2,h3⟩:=hF;have h2:=eq_of_beq_eq_true h2
     have h4:∃u,P.underlying fl.type=some u/\(∀g,u≠.struct g)/\(∀n e,u≠.array n e):=by
      split at h3
      ·cases h3
      ·cases h3
      ·rename_i u n1 n2 e;exact⟨_,e,fun g h=>n1 g h,fun n e2 h=>n2 n e2 h⟩
      ·cases h3
     obtain⟨u,e1,e2,e3⟩:=h4;subst h2;simp[execOp,hu,Instr.field,run_underlying hu2,hfl,part,isAgg,run_underlying e1,asAgg,hv]
    ·cases hF
   ·cases hF
end Go.Lw
namespace Go.Lw
theorem Con.rekeyB1{P:Program}{f:FuncId}{k off:Nat}{x x':Blk}{y0:AV}{xs:List AV}{r:AV}(d:Nat)(hx:x.nm=[])(hx':x'.nm=[])(hy0:y0.nm=[])(hxs:(xs.all fun x=>x.nm.isEmpty)=true)(hr:r.nm=[])
  (h:Con P f (y0 :: .ptr k off::xs) [(k,some x)] r [(k,some x')]):Con P f (y0 :: .ptr d off::xs) [(d,some x)] r [(d,some x')]:=by
 refine⟨h.ok,?_⟩;intro ext m w vs hext hheap hvs hrep
 have h1 := h.ret ext (fun _ => m d) w vs hext (uX (k := d) hx rfl hheap) (by simpa using hvs) (by
  intro j v y hv hy;rw[j5 (d:=k) (k:=d) (y:=x) (x:=x) (m2:=fun _=>m d) (m:=m) rfl]
  match j,hy with
  |0,hy =>
   cases hy;exact iQ hy0 (hrep 0 v _ hv rfl)
  |1,hy =>
   cases hy;have h2:=hrep 1 v _ hv rfl;cases h2 with
   |ptr hm=>exact .ptr hm
  |j+2,hy =>
   have h2:=hrep (j+2) v y hv hy;refine iQ ?_ h2;have:=List.all_eq_true.1 hxs y (mem_of_getElem? hy);simpa using this)
 refine Calls.mono h1 ?_;rintro e w' ⟨v,m',rfl,hf,hh,hn,hk,hrr⟩
 have ho:bb [(k,some x)] (fun _=>m d)=bb [(d,some x)] m:=by
  funext b;apply propext;rw[ki,ki]
 refine⟨v,fun _=>m' k,rfl,ho▸hf,uX (k:=k) hx' rfl hh,?_,?_,?_⟩
 ·intro k' x b hx hb;rw[<- ho];exact hn k _ b (by rw[aU,if_pos rfl]) hb
 ·intro k' x y hx hy;obtain⟨rfl,_⟩:=fw hx;exact hk k _ _ (by rw[aU,if_pos rfl]) (by rw[aU,if_pos rfl])
 ·rw[j5 (d:=d) (k:=k) (y:=x') (x:=x') (m2:=fun _=>m' k) (m:=m') rfl];exact iQ hr hrr
end Go.Lw
