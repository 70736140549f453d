/- DyadSolves: for any linkage, any group and turn, any assembly the law returns true and leaves its arguments as they were. No other condition. Part 6 of 8: what the later parts need -/
import Derived.Test.YtnhbhlcebbmdoaaGreatYe
import Derived.Laws.Cover3
set_option linter.unusedVariables false
open List (mem_of_getElem? mem_append map_cons mem_cons length_cons length_append length_nil getD_eq_getElem?_getD getElem?_append_left getElem?_eq_none all_eq_true getElem?_take getElem?_drop getElem?_map getElem?_append_right getElem?_eq_getElem nil_append map_append length_take take_of_length_le drop_zero take_length not_mem_nil length_map map_map length_replicate map_replicate map_set length_set)
open Nat (eq_of_beq_eq_true le_refl lt_of_lt_of_le lt_or_ge le_trans zero_le pow_add)
open Option (map_eq_some_iff)
open Bool (and_eq_true)
open Array (getD_eq_getD_getElem?)
open Int (toNat_natCast)
open Go.Proofs.Tryz
namespace Go.Lw
open Go.Proofs
theorem bo7 {l:Li} {known:List Bool} (hl:l.ok) (hli:liE l = 0) (kind body:Int) (hk:known.length = l.bodies.length) :
  Con prog 220 [l.av,i64 kind,i64 body,.ms 1000 1 0 known.length] [(1000,some (.row 1 (known.map bl)))] (i64 (abu l kind body known)) [(1000,some (.row 1 (known.map bl)))]:=by
 refine Con.borrow (args:=[l.av,i64 kind,i64 body,.lst 1 (known.map bl)]) 1000 1 (known.map bl) rfl rfl rfl ?_ rfl (fun k' x h=>by cases h) (ar6 l hl hli kind body known hk);intro j x' hj
 match j,hj with
 | 0,hj=>cases hj; exact .inl rfl
 | 1,hj=>cases hj; exact .inl rfl
 | 2,hj=>cases hj; exact .inl rfl
 | 3,hj=>cases hj; exact .inr ⟨0,known.length,rfl,by simp,by rw [drop_zero,take_of_length_le (by simp)]; rfl⟩
theorem bqw {l:Li} {known:List Bool} (hl:l.ok) (b:Nat) (hb:b < known.length) :
  Con prog 221 [l.av,.ms 1000 1 0 known.length,i64 b] [(1000,some (.row 1 (known.map bl)))] (bl (ah2 l known b)) [(1000,some (.row 1 (known.map bl)))]:=by
 refine Con.borrow (args:=[l.av,.lst 1 (known.map bl),i64 b]) 1000 1 (known.map bl) rfl rfl rfl ?_ rfl (fun k' x h=>by cases h) (a4y l hl known b hb);intro j x' hj
 match j,hj with
 | 0,hj=>cases hj; exact .inl rfl
 | 1,hj=>cases hj; exact .inr ⟨0,known.length,rfl,by simp,by rw [drop_zero,take_of_length_le (by simp)]; rfl⟩
 | 2,hj=>cases hj; exact .inl rfl
theorem ayf (l:Li) (hl:l.ok) (hli:liE l = 0) (known:List Bool) (hk:known.length = l.bodies.length):Con prog 125 [l.av, .ms 1000 1 0 known.length] [(1000, some (.row 1 (known.map bl)))] (.tup [((ace l known).getD default).av, bl (ace l known).isSome]) [(1000, some (.row 1 (known.map bl)))]:=by
 have hld:=hl.ld;refine gF func125 (fun k z h=>aa3 h) ?_;refine gl ?_;refine gL1 [2,4,10,11] [2,4,1000] (fun (i:Nat)=>[(1,some (.ms 1000 1 0 known.length)),(12,some (i64 i))]) (fun _=>[]) (fun i=>i <= l.drivers.length /\ ∀ j,j < i -> (!ajz l known j) = true) (fun i=>l.drivers.length - i) 0 ⟨zero_le _,fun j h=>by omega⟩ ?_;rintro i ⟨hi,hj⟩ K1 hK1;refine gC (fun ht13=>?_) (fun ht13=>?_)
 ·have hin:=aa9 ht13;obtain ⟨d,hd⟩:=ab5 hin;have hdd:l.drivers.getD i default = d:=aah hd;have hb:=aiz (a4n hli hd);obtain ⟨v,hv⟩:∃ v,known[d.body.toNat]? = some v:=ab5 oz;have ev:kn known d.body = v:=aah hv;refine gi (aag hd) ?_;refine gs (ahi (.tmp rfl) (.tmp rfl) T185 rfl T4 rfl oz oz rfl) ?_;refine gs (aaw (.tmp rfl) rfl (by rw [Nat.zero_add,getElem?_map,hv]; rfl) T4 rfl rfl rfl) ?_;refine gC (fun ht21=>?_) (fun ht21=>?_)
  ·have h2 : ajz l known i = false := by unfold ajz; rw [hdd, ev, ht21]; rfl
   refine ga aat ?_;exact gK1 hK1 (i + 1) ⟨hin,fun k h9=>by rcases lt_or_ge k i with g | g; exact hj k g; (have:k = i:=by omega); subst this; rw [h2]; rfl⟩
  ·have hv0:v = false:=ht21;refine gt (aj4 (bo7 hl hli 0 d.body hk) (.cons (.tmp rfl) (.cons (.const _) (ev2 rfl rfl))) rfl rfl rfl) ?_;refine gC (fun ht28=>?_) (fun ht28=>?_)
   ·have h2 : ajz l known i = true := by unfold ajz; rw [hdd, ev, hv0, decide_eq_true (boq ht28)]; rfl
    have hg:ace l known = some ⟨0,[d.body],[abu l 0 d.body known],i⟩:=by unfold ace; rw [ac2 hin hj (by rw [h2]; rfl),<- hdd]; rfl
    refine gR ?_;rw [hg];exact Fin.keep (abt rfl)
   ·have h2 : ajz l known i = false := by unfold ajz; rw [hdd, decide_eq_false (blh ht28), Bool.and_false]
    refine ga aat ?_;exact gK1 hK1 (i + 1) ⟨hin,fun k h9=>by rcases lt_or_ge k i with g | g; exact hj k g; (have:k = i:=by omega); subst this; rw [h2]; rfl⟩
 ·have hin:=aan hi ht13;subst hin;have hg:ace l known = none:=by unfold ace; rw [acg hj]; rfl
  refine gR ?_;exact Fin.sub (Fin.keep (abt rfl)) (by rw [hg]; exact Sub.tup (.cons an8 (.cons (.refl _) .nil)))
theorem a5p (l:Li) (hl:l.ok) (hli:liE l = 0) (known:List Bool) (hk:known.length = l.bodies.length):Con prog 126 [l.av, .ms 1000 1 0 known.length] [(1000, some (.row 1 (known.map bl)))] (.tup [((afh l known).getD default).av, bl (afh l known).isSome]) [(1000, some (.row 1 (known.map bl)))]:=by
 have h8:=(ab8 hli).2.2.2.1;refine gF func126 (fun k z h=>aa3 h) ?_;refine gl ?_;refine gL1 [2,4,12,13] [2,4,1000] (fun (i:Nat)=>[(1,some (.ms 1000 1 0 known.length)),(14,some (i64 i))]) (fun _=>[]) (fun i=>i <= l.bodies.length /\ ∀ j,j < i -> (a0i l known j).isNone = true) (fun i=>l.bodies.length - i) 0 ⟨zero_le _,fun j h=>by omega⟩ ?_;rintro i ⟨hi,hj⟩ K1 hK1;refine gC (fun ht15=>?_) (fun ht15=>?_)
 ·have hin:=aa9 ht15;refine ga aat ?_;refine gL1 [2,4,6,12,13,14] [2,4,1000] (fun (k:Nat)=>[(1,some (.ms 1000 1 0 known.length)),(7,some (i64 (i + 1 + k:Nat)))]) (fun _=>[]) (fun k=>i + 1 + k <= l.bodies.length /\ ∀ j,j < k -> (!af2 l known i (i + 1 + j)) = true) (fun k=>l.bodies.length - k) 0 ⟨by omega,fun j h=>by omega⟩ ?_;rintro k ⟨hkl,hkj⟩ K2 hK2;refine gl ?_;refine gC (fun ht23=>?_) (fun ht23=>?_)
  ·have hkn:i + 1 + k < l.bodies.length:=aa9 ht23;refine gt (aj4 (bqw hl i oz) (ev3 rfl rfl rfl) rfl rfl rfl) ?_;refine gu (acj rfl rfl rfl (fun h=>aj4 (bqw hl (i + 1 + k) oz) (.cons (.opt rfl (o1 h)) (.cons (.opt rfl (o1 h)) (.cons (.opt rfl (o1 h)) .nil))) rfl rfl rfl)) ?_;refine gC (fun ht37=>?_) (fun ht37=>?_)
   ·have h2 : af2 l known i (i + 1 + k) = false := by unfold af2; rw [show (ah2 l known i && ah2 l known ((i + 1 + k : Nat) : Int)) = false from by rcases bim ht37 with g | g; (rw [g]; rfl); (rw [g, Bool.and_false])]; rfl
    refine ga aat ?_;exact gK1 hK2 (k + 1) ⟨by omega,fun j h9=>by rcases lt_or_ge j k with g | g; exact hkj j g; (have:j = k:=by omega); subst this; rw [h2]; rfl⟩
   ·have hff:=bil ht37;refine gt (aj4 (bo7 hl hli 0 i hk) (.cons (.tmp rfl) (.cons (.const _) (ev2 rfl rfl))) rfl rfl rfl) ?_;refine gt (aj4 (bo7 hl hli 0 (i + 1 + k:Nat) hk) (.cons (.tmp rfl) (.cons (.const _) (ev2 rfl rfl))) rfl rfl rfl) ?_;refine gc (a53 l oz (i + 1 + k) hkn) ?_;refine gc (ar6 l hl hli 0 i (aeu l.bodies.length ((i + 1 + k:Nat):Int)) (aed _ _)) ?_;refine gD ?_;refine gC (fun ht61=>?_) (fun ht61=>?_)
    ·have h2 : af2 l known i (i + 1 + k) = true := by unfold af2; rw [hff.1, hff.2]; exact (auv.symm.trans ht61)
     have hat:a0i l known i = some (i + 1 + k):=by unfold a0i; rw [ac2 oz hkj (by rw [h2]; rfl),Option.map_some]; congr 1; omega
     have hg:afh l known = some (prG l known i (i + 1 + k)):=by unfold afh; rw [ac2 hin hj (by rw [hat]; rfl),Option.map_some,hat]
     refine gR ?_;rw [hg];exact Fin.keep (abt rfl)
    ·have h2 : af2 l known i (i + 1 + k) = false := by unfold af2; rw [show (decide (0 <= abu l 0 i known) && decide (0 <= abu l 0 ((i + 1 + k : Nat) : Int) known) && decide (0 <= abu l 0 i (aeu l.bodies.length ((i + 1 + k : Nat) : Int)))) = false from auv.symm.trans ht61, Bool.and_false]
     refine ga aat ?_;exact gK1 hK2 (k + 1) ⟨by omega,fun j h9=>by rcases lt_or_ge j k with g | g; exact hkj j g; (have:j = k:=by omega); subst this; rw [h2]; rfl⟩
  ·have hkn : ¬ i + 1 + k < l.bodies.length := fun h => by have h1 := a7j ht23; omega
   have hat:a0i l known i = none:=by unfold a0i; rw [show l.bodies.length - (i + 1) = k by omega,acg hkj]; rfl
   refine ga aat ?_;exact gK1 hK1 (i + 1) ⟨hin,fun j h9=>by rcases lt_or_ge j i with g | g; exact hj j g; (have:j = i:=by omega); subst this; rw [hat]; rfl⟩
 ·have hin:=aan hi ht15;have hg:afh l known = none:=by unfold afh; rw [<- hin,acg hj]; rfl
  refine gR ?_;exact Fin.sub (Fin.keep (abt rfl)) (by rw [hg]; exact Sub.tup (.cons an8 (.cons (.refl _) .nil)))
theorem axb (l:Li) (hl:l.ok) (hli:liE l = 0) (known:List Bool) (hk:known.length = l.bodies.length):Con prog 127 [l.av, .ms 1000 1 0 known.length] [(1000, some (.row 1 (known.map bl)))] (.tup [((ada l known).getD default).av, bl (ada l known).isSome]) [(1000, some (.row 1 (known.map bl)))]:=by
 have h8:=(ab8 hli).2.2.2.1;refine gF func127 (fun k z h=>aa3 h) ?_;refine gl ?_;refine gL1 [2,4,11,12] [2,4,1000] (fun (i:Nat)=>[(1,some (.ms 1000 1 0 known.length)),(13,some (i64 i))]) (fun _=>[]) (fun i=>i <= l.bodies.length /\ ∀ j,j < i -> (!aj0 l known j) = true) (fun i=>l.bodies.length - i) 0 ⟨zero_le _,fun j h=>by omega⟩ ?_;rintro i ⟨hi,hj⟩ K1 hK1;refine gC (fun ht14=>?_) (fun ht14=>?_)
 ·have hin:=aa9 ht14;refine gt (aj4 (bqw hl i oz) (ev3 rfl rfl rfl) rfl rfl rfl) ?_;refine gC (fun ht20=>?_) (fun ht20=>?_)
  ·have h2 : aj0 l known i = false := by unfold aj0; rw [af8 ht20]; rfl
   refine ga aat ?_;exact gK1 hK1 (i + 1) ⟨hin,fun k h9=>by rcases lt_or_ge k i with g | g; exact hj k g; (have:k = i:=by omega); subst this; rw [h2]; rfl⟩
  ·have hf:=af1 ht20;refine gt (aj4 (bo7 hl hli 0 i hk) (.cons (.tmp rfl) (.cons (.const _) (ev2 rfl rfl))) rfl rfl rfl) ?_;refine gt (aj4 (bo7 hl hli 1 i hk) (.cons (.tmp rfl) (.cons (.const _) (ev2 rfl rfl))) rfl rfl rfl) ?_;refine gD ?_;refine gC (fun ht34=>?_) (fun ht34=>?_)
   ·have h2 : aj0 l known i = false := by unfold aj0; rw [bnw ht34, Bool.and_false]
    refine ga aat ?_;exact gK1 hK1 (i + 1) ⟨hin,fun k h9=>by rcases lt_or_ge k i with g | g; exact hj k g; (have:k = i:=by omega); subst this; rw [h2]; rfl⟩
   ·obtain ⟨p0, s0⟩:=bm8 ht34;have s1:=(agn (l:=l) (kind:=1) (body:=i) (oth:=known)).2;have h2:aj0 l known i = true:=by unfold aj0; rw [hf,decide_eq_true p0,decide_eq_true s0]; rfl
    obtain ⟨j,hjt⟩:∃ j,l.joints[(abu l 1 i known).toNat]? = some j:=ab5 oz;have hjd:l.joints.getD (abu l 1 i known).toNat default = j:=aah hjt;have hg:ada l known = some (sgG l known i):=by unfold ada; rw [ac2 hin hj (by rw [h2]; rfl),Option.map_some]
    refine gi (afj (n:=(abu l 1 i known).toNat) oz hjt) ?_;refine gC (fun ht42=>?_) (fun ht42=>?_)
    ·have hji:j.a = i:=aco ht42;refine gR ?_;rw [hg]; unfold sgG; rw [hjd]; simp only [Option.getD_some,if_pos hji]
     exact Fin.keep (abt rfl)
    ·have hji:j.a ≠ i:=ac5 ht42;refine gR ?_;rw [hg]; unfold sgG; rw [hjd]; simp only [Option.getD_some,if_neg hji]
     exact Fin.keep (abt rfl)
 ·have hin:=aan hi ht14;have hg:ada l known = none:=by unfold ada; rw [<- hin,acg hj]; rfl
  refine gR ?_;exact Fin.sub (Fin.keep (abt rfl)) (by rw [hg]; exact Sub.tup (.cons an8 (.cons (.refl _) .nil)))
end Go.Lw
namespace Go.Lw
open Go.Proofs
theorem arn {k:List Bool} {bs:List Int} {q:Nat} {x:Int} (h:bs[q]? = some x):aav k (bs.drop q) = aav (k.set x.toNat true) (bs.drop (q + 1)):=by
 have hi:=(List.getElem?_eq_some_iff.1 h).1;rw [List.drop_eq_getElem_cons hi,(List.getElem?_eq_some_iff.1 h).2]; rfl
theorem ba7 {l:Li} {n:Nat} {known:List Bool} {out:List Gr} {g:Gr} (h:adx l known = some g):aa8 l (n + 1) known out = aa8 l n (aav known g.bodies) (out ++ [g]):=by
 show (match adx l known with | none=>_ | some g=>_) = _;rw [h]
theorem a8w {l:Li} {n:Nat} {known:List Bool} {out:List Gr} (h:adx l known = none):aa8 l n known out = (known, out):=by
 cases n with
 | zero=>rfl
 | succ n=>show (match adx l known with | none=>_ | some g=>_) = _; rw [h]
theorem aqq {α:Type} {o:Option α} (h:o.isSome = false):o = none:=by cases o <;> simp_all
theorem a6k {α:Type} {a b:Option α} (h:a.isSome = true):a = a.or b:=by cases a <;> simp_all
theorem ay6 {l:Li} {known:List Bool} (h:(ace l known).or (afh l known) = none):adx l known = ada l known:=by
 unfold adx;rw [<- Option.or_assoc,h]; rfl
theorem a0z {l:Li} {known:List Bool} (h:((ace l known).or (afh l known)).isSome = true):adx l known = (ace l known).or (afh l known):=by
 unfold adx;rw [<- Option.or_assoc]; exact (a6k h).symm
theorem atj (l:Li) (hl:l.ok) (hli:liE l = 0):FnC prog 48 [l.av] (.lst 4 ((ady l).map Gr.av)):=by
 have h8:=(ab8 hli).2.2.2.1;have h0:=(ab8 hli).2.2.2.2;refine gF0 func48 ?_;refine gt (aab (al3 900 rfl l oz 0 oz) (.cons (.tmp rfl) (.cons (.const _) .nil)) hHa rfl rfl) ?_;refine gl ?_;refine gW (Wk.virt 901 4 rfl) ?_;refine gL3 [1,13] [1] (fun (i:Nat) (known:List Bool) (out:List Gr)=>[(3,some (.ms 900 1 0 known.length)),(4,some (.ms 901 4 0 out.length)),(14,some (i64 i))]) (fun _ known out=>[(900,some (.row 1 (known.map bl))),(901,some (.row 4 (out.map Gr.av)))]) (fun i known out=>i <= l.bodies.length /\ known.length = l.bodies.length /\ out.length <= i /\ aa8 l (l.bodies.length - i) known out = aa8 l l.bodies.length (aeu l.bodies.length 0) []) (fun i _ _=>l.bodies.length - i) 0 (aeu l.bodies.length 0) ([]) ⟨zero_le _,aed _ _,le_refl _,rfl⟩ ?_ (h1:=(.cons rfl (Sub.of (by rw [aed])) (.k (.k .nil))))
 rintro i known out ⟨hi,hk,hol,hff⟩ K1 hK1;refine gC (fun ht15=>?_) (fun ht15=>?_) (st2:=(18,0))
 ·have hin:=aa9 ht15;have hd1:=Con.rekey1 900 rfl rfl rfl (ayf l hl hli known hk);have hp1:=Con.rekey1 900 rfl rfl rfl (a5p l hl hli known hk);have hs1:=Con.rekey1 900 rfl rfl rfl (axb l hl hli known hk);refine gt (aab hd1 (ev2 rfl rfl) hHa rfl rfl) ?_;refine gJ1 [1,5,13,14] [1,900,901] (fun (o:Option Gr)=>[(3,some (.ms 900 1 0 known.length)),(4,some (.ms 901 4 0 out.length)),(6,some (bl o.isSome))]) (fun o=>[(5,some (.box (o.getD default).av.cells))]) (fun o=>o = (ace l known).or (afh l known)) ?_ ?_
  ·intro K2 hK2;refine gC (fun ht23=>?_) (fun ht23=>?_)
   ·refine gt (aab hp1 (ev2 rfl rfl) hHa rfl rfl) ?_;exact jK1 hK2 (afh l known) (by rw [aqq (af8 ht23)]; rfl)
   ·exact jK1 hK2 (ace l known) (a6k (af1 ht23))
  ·rintro o ho;refine gJ1 [1,5,13,14] [1,900,901] (fun (og:Option Gr)=>[(3,some (.ms 900 1 0 known.length)),(4,some (.ms 901 4 0 out.length)),(6,some (bl og.isSome))]) (fun og=>[(5,some (.box (og.getD default).av.cells))]) (fun og=>og = adx l known) ?_ ?_
   ·intro K3 hK3;refine gC (fun ht31=>?_) (fun ht31=>?_)
    ·refine gt (aab hs1 (ev2 rfl rfl) hHa rfl rfl) ?_;exact jK1 hK3 (ada l known) (by have:=aqq (af8 ht31); rw [ho] at this; exact (ay6 this).symm)
    ·exact jK1 hK3 o (by rw [ho]; exact (a0z (by rw [<- ho]; exact af1 ht31)).symm)
   ·rintro og hog;refine gC (fun ht39=>?_) (fun ht39=>?_) (st1:=(18,0))
    ·have hn : adx l known = none := by rw [<- hog]; exact aqq (af8 ht39)
     have hfin:ady l = out:=by unfold ady; rw [<- hff,a8w hn]
     refine gW ((Wk.freeze (k:=901) rfl).trans <| Wk.of (sl:=[(4,some (.lst 4 ((ady l).map Gr.av)))]) (hp:=[]) (.cons rfl (Sub.of (by rw [hfin,abq (by rw [length_map])])) .nil) .nil) ?_;refine gE1 ?_;rfl
    ·obtain ⟨g, hg⟩:∃ g, og = some g:=Option.isSome_iff_exists.1 (af1 ht39);have hng:adx l known = some g:=by rw [<- hog,hg]
     have hgo:=av3 hli hng;subst hg;refine gs (aa0 (.tmp rfl) rfl (by rw [length_map]) (.tmp rfl) T58 rfl T64 rfl rfl (by dsimp only; simp only [length_cons,length_nil]; omega) rfl rfl) ?_ (12,0);refine gW (Wk.of (sl:=[(1,some (.ptr 1 0)),(3,some (.ms 900 1 0 known.length)),(4,some (.ms 43 4 0 (out ++ [g]).length)),(5,some (.ptr 5 0)),(13,some (i64 l.bodies.length)),(14,some (i64 i))]) (hp:=[(1,some (.box l.av.cells)),(5,some (.box g.av.cells)),(900,some (.row 1 (known.map bl))),(43,some (.row 4 ((out ++ [g]).map Gr.av)))]) (.k (.k (.cons rfl (Sub.of (by rw [length_append]; rfl)) (.k (.k (.k .nil)))))) (.k (.k (.k (.cons rfl (BlkSub.of (by rw [map_append]; rfl)) .nil))))) ?_ (12,0)
     refine gW (Wk.rekey (k:=43) (d:=901) rfl rfl) ?_;refine gl ?_;refine gL2 [1,13,14,45,46] [1,901] (fun (q:Nat) (kk:List Bool)=>[(3,some (.ms 900 1 0 kk.length)),(4,some (.ms 901 4 0 (out ++ [g]).length)),(47,some (i64 q))]) (fun _ kk=>[(900,some (.row 1 (kk.map bl)))]) (fun q kk=>q <= g.bodies.length /\ kk.length = l.bodies.length /\ aav kk (g.bodies.drop q) = aav known g.bodies) (fun q _=>g.bodies.length - q) 0 known ⟨zero_le _,hk,rfl⟩ ?_;rintro q kk ⟨hq,hkk,hmk⟩ K4 hK4;refine gC (fun ht48=>?_) (fun ht48=>?_)
     ·have hqn:=aa9 ht48;obtain ⟨x,hx⟩:=ab5 hqn;have hxb:=hgo.b x (mem_of_getElem? hx);obtain ⟨v,hv⟩:∃ v,kk[x.toNat]? = some v:=ab5 oz;refine gi (aag hx) ?_;refine gs (ahi (.tmp rfl) (.tmp rfl) T185 rfl T4 rfl oz oz rfl) ?_;refine gs (abb (.tmp rfl) rfl (by rw [Nat.zero_add,getElem?_map,hv]; rfl) rfl (.const _) rfl rfl T4 rfl rfl) ?_;refine ga (a3b (by have:=hgo.lb; unfold ac8; omega)) ?_;exact gK2 hK4 (q + 1) (kk.set x.toNat true) ⟨hqn,by rw [length_set]; exact hkk,by rw [<- arn hx]; exact hmk⟩ (hw:=Wk.of (.cons rfl (Sub.of (by rw [length_set])) (.k (.k (.k (.k (.k (.k (.k .nil)))))))) (.cons rfl (BlkSub.of (by rw [map_set,Nat.zero_add]; rfl)) (.k (.k .nil))))
     ·have hqn:=aan hq ht48;have hmk2:kk = aav known g.bodies:=by rw [hqn,List.drop_length] at hmk; exact hmk
      refine ga aat ?_;exact gK3 hK1 (i + 1) kk (out ++ [g]) ⟨hin,hkk,by rw [length_append]; simp only [length_cons,length_nil]; omega,by rw [hmk2,<- ba7 hng,<- hff]; congr 1; omega⟩
 ·have hin:=aan hi ht15;have hfin:ady l = out:=by unfold ady; rw [<- hff,show l.bodies.length - i = 0 by omega]; rfl
  refine gW ((Wk.freeze (k:=901) rfl).trans <| Wk.of (sl:=[(4,some (.lst 4 ((ady l).map Gr.av)))]) (hp:=[]) (.cons rfl (Sub.of (by rw [hfin,abq (by rw [length_map])])) .nil) .nil) ?_;refine gE1 ?_;rfl
end Go.Lw
namespace Go.Lw
open Go.Proofs
theorem aw2 {α:Type} {f:List Bool -> α -> List Bool} {k:List Bool} {l:List α} {i:Nat} {x:α} (h:l[i]? = some x):(l.drop i).foldl f k = (l.drop (i + 1)).foldl f (f k x):=by
 have hi:=(List.getElem?_eq_some_iff.1 h).1;rw [List.drop_eq_getElem_cons hi,(List.getElem?_eq_some_iff.1 h).2]; rfl
def unm (k:List Bool) (i:Nat):List Int:=((List.range i).filter (fun j=>!k.getD j false)).map (fun j:Nat=>((j:Nat):Int))
theorem bak {k:List Bool} {i:Nat} (h:k.getD i false = false):unm k (i + 1) = unm k i ++ [(i:Int)]:=by
 unfold unm;rw [List.range_succ,List.filter_append,map_append,List.filter_cons,h]; rfl
theorem a2j {k:List Bool} {i:Nat} (h:k.getD i false = true):unm k (i + 1) = unm k i:=by
 unfold unm;rw [List.range_succ,List.filter_append,map_append,List.filter_cons,h]; simp
theorem awf (k:List Bool) (i:Nat):(unm k i).length <= i:=by
 unfold unm;rw [length_map];exact le_trans (List.length_filter_le _ _) (by simp)
theorem ale {α:Type} {f:α -> List Int}:∀ (gs:List α) (k:List Bool), (gs.foldl (fun k g=>aav k (f g)) k).length = k.length
 | [],k=>rfl
 | g :: gs,k=>by rw [List.foldl_cons,ale gs,agf]
theorem bh1 (l:Li):(acw (aei l)).length <= l.bodies.length:=by
 have h:=awf (aei l) (aei l).length;have e:(aei l).length = l.bodies.length:=by unfold aei; rw [ale,aed]
 rw [e] at h;unfold acw; rw [e]; exact h
theorem bjr (l:Li):(acw (ah1 l)).length <= l.joints.length:=by
 have h:=awf (ah1 l) (ah1 l).length;have e:(ah1 l).length = l.joints.length:=by unfold ah1; rw [ale,length_replicate]
 rw [e] at h;unfold acw; rw [e]; exact h
theorem a4j (l:Li) (hl:l.ok) (hli:liE l = 0):FnC prog 47 [l.av] (.tup [.lst 1 ((acw (aei l)).map i64), .lst 1 ((acw (ah1 l)).map i64)]):=by
 have h8:=(ab8 hli).2.2.2.1;have h0:=(ab8 hli).2.2.2.2;have hj16:l.joints.length <= 16:=by have:=(ab8 hli).2.1; unfold ase at this; split at this; cases this; omega
 obtain ⟨hgo,hgl⟩:=am2 hli;refine gF0 func47 ?_;refine gt (aab (al3 900 rfl l oz 0 oz) (.cons (.tmp rfl) (.cons (.const _) .nil)) hHa rfl rfl) ?_;refine gl ?_;refine gs (agr (.tmp rfl) T185 rfl T4 rfl rfl oz (by dsimp only; omega) rfl) ?_;refine gD ?_ (2,0);refine gW (Wk.of (sl:=[(1,some (.ptr 1 0)),(2,some (.v (.slice none 0 0))),(3,some (.v (.slice none 0 0))),(4,some (.ms 900 1 0 (aeu l.bodies.length 0).length)),(5,some (.ms 21 1 0 (List.replicate l.joints.length false).length))]) (hp:=[(1,some (.box l.av.cells)),(900,some (.row 1 ((aeu l.bodies.length 0).map bl))),(21,some (.row 1 ((List.replicate l.joints.length false).map bl)))]) (.k (.k (.k (.cons rfl (Sub.of (by rw [aed])) (.cons rfl (Sub.of (by rw [length_replicate,toNat_natCast])) .nil))))) (.k (.k (.cons rfl (BlkSub.of (by rw [map_replicate,toNat_natCast]; rfl)) .nil)))) ?_ (2,0)
 refine gW (Wk.rekey (k:=21) (d:=901) rfl rfl) ?_;refine gc (atj l hl hli) ?_;refine gl ?_;refine gL3 [1,2,3,23,24] [1] (fun (i:Nat) (k1 k2:List Bool)=>[(4,some (.ms 900 1 0 k1.length)),(5,some (.ms 901 1 0 k2.length)),(25,some (i64 i))]) (fun _ k1 k2=>[(900,some (.row 1 (k1.map bl))),(901,some (.row 1 (k2.map bl)))]) (fun i k1 k2=>i <= (ady l).length /\ k1.length = l.bodies.length /\ k2.length = l.joints.length /\ ((ady l).drop i).foldl (fun k g=>aav k g.bodies) k1 = aei l /\ ((ady l).drop i).foldl (fun k g=>aav k g.joints) k2 = ah1 l) (fun i _ _=>(ady l).length - i) 0 (aeu l.bodies.length 0) (List.replicate l.joints.length false) ⟨zero_le _,aed _ _,length_replicate,rfl,rfl⟩ ?_
 rintro i k1 k2 ⟨hi,hk1,hk2,hf1,hf2⟩ K1 hK1;refine gC (fun ht26=>?_) (fun ht26=>?_)
 ·have hin:=aa9 ht26;obtain ⟨g,hg⟩:=ab5 hin;have hgk:=hgo g (mem_of_getElem? hg);have hlb:=hgk.lb;have hlj:=hgk.lj;refine gi (aag hg) ?_;refine gl ?_;refine gL2 [1,2,3,7,23,24,25,30,31] [1,7,901] (fun (q:Nat) (kk:List Bool)=>[(4,some (.ms 900 1 0 kk.length)),(5,some (.ms 901 1 0 k2.length)),(32,some (i64 q))]) (fun _ kk=>[(900,some (.row 1 (kk.map bl)))]) (fun q kk=>q <= g.bodies.length /\ kk.length = l.bodies.length /\ aav kk (g.bodies.drop q) = aav k1 g.bodies) (fun q _=>g.bodies.length - q) 0 k1 ⟨zero_le _,hk1,rfl⟩ ?_;rintro q kk ⟨hq,hkk,hmk⟩ K2 hK2;refine gC (fun ht33=>?_) (fun ht33=>?_)
  ·have hqn:=aa9 ht33;obtain ⟨x,hx⟩:=ab5 hqn;have hxb:=hgk.b x (mem_of_getElem? hx);obtain ⟨v,hv⟩:∃ v,kk[x.toNat]? = some v:=ab5 oz;refine gi (aag hx) ?_;refine gs (ahi (.tmp rfl) (.tmp rfl) T185 rfl T4 rfl oz oz rfl) ?_;refine gs (abb (.tmp rfl) rfl (by rw [Nat.zero_add,getElem?_map,hv]; rfl) rfl (.const _) rfl rfl T4 rfl rfl) ?_;refine ga aat ?_;exact gK2 hK2 (q + 1) (kk.set x.toNat true) ⟨hqn,by rw [length_set]; exact hkk,by rw [<- arn hx]; exact hmk⟩ (hw:=Wk.of (.cons rfl (Sub.of (by rw [length_set])) (.k (.k (.k (.k (.k (.k (.k (.k (.k (.k (.k .nil)))))))))))) (.cons rfl (BlkSub.of (by rw [map_set,Nat.zero_add]; rfl)) (.k (.k (.k .nil)))))
  ·have hqn:=aan hq ht33;have hmk2:kk = aav k1 g.bodies:=by rw [hqn,List.drop_length] at hmk; exact hmk
   refine gl ?_;refine gL2 [1,2,3,23,24,25,41,42] [1,900] (fun (p:Nat) (jj:List Bool)=>[(4,some (.ms 900 1 0 kk.length)),(5,some (.ms 901 1 0 jj.length)),(43,some (i64 p))]) (fun _ jj=>[(901,some (.row 1 (jj.map bl)))]) (fun p jj=>p <= g.joints.length /\ jj.length = l.joints.length /\ aav jj (g.joints.drop p) = aav k2 g.joints) (fun p _=>g.joints.length - p) 0 k2 ⟨zero_le _,hk2,rfl⟩ ?_;rintro p jj ⟨hp,hjj,hmj⟩ K3 hK3;refine gC (fun ht44=>?_) (fun ht44=>?_)
   ·have hpn:=aa9 ht44;obtain ⟨x,hx⟩:=ab5 hpn;have hxb:=hgk.j x (mem_of_getElem? hx);obtain ⟨v,hv⟩:∃ v,jj[x.toNat]? = some v:=ab5 oz;refine gi (aag hx) ?_;refine gs (ahi (.tmp rfl) (.tmp rfl) T185 rfl T4 rfl oz oz rfl) ?_;refine gs (abb (.tmp rfl) rfl (by rw [Nat.zero_add,getElem?_map,hv]; rfl) rfl (.const _) rfl rfl T4 rfl rfl) ?_;refine ga aat ?_;exact gK2 hK3 (p + 1) (jj.set x.toNat true) ⟨hpn,by rw [length_set]; exact hjj,by rw [<- arn hx]; exact hmj⟩ (hw:=Wk.of (.k (.cons rfl (Sub.of (by rw [length_set])) (.k (.k (.k (.k (.k (.k (.k (.k (.k .nil))))))))))) (.cons rfl (BlkSub.of (by rw [map_set,Nat.zero_add]; rfl)) (.k (.k .nil))))
   ·have hpn:=aan hp ht44;have hmj2:jj = aav k2 g.joints:=by rw [hpn,List.drop_length] at hmj; exact hmj
    refine ga aat ?_;exact gK3 hK1 (i + 1) kk jj ⟨hin,hkk,hjj,by rw [hmk2,<- hf1,aw2 hg],by rw [hmj2,<- hf2,aw2 hg]⟩
 ·have hin:=aan hi ht26;have e1:k1 = aei l:=by rw [hin,List.drop_length] at hf1; exact hf1
  have e2:k2 = ah1 l:=by rw [hin,List.drop_length] at hf2; exact hf2
  refine gW (Wk.virt 902 1 rfl) ?_;refine gL1 [3,53] [900,901] (fun (i:Nat)=>[(2,some (.ms 902 1 0 (unm k1 i).length)),(5,some (.ms 901 1 0 k2.length)),(52,some (.ms 900 1 0 k1.length)),(54,some (i64 i))]) (fun i=>[(902,some (.row 1 ((unm k1 i).map i64)))]) (fun i=>i <= k1.length) (fun i=>k1.length - i) 0 (zero_le _) ?_;rintro i ha K4 hK4;refine gC (fun ht55=>?_) (fun ht55=>?_) (st2:=(22,0))
  ·have hin6:=aa9 ht55;obtain ⟨v,hv⟩:=ab5 hin6;have hvd:k1.getD i false = v:=aah hv;have hul:=awf k1 i;refine gs (ahi (.tmp rfl) (.tmp rfl) T185 rfl T4 rfl oz oz rfl) ?_;refine gs (aaw (.tmp rfl) rfl (by rw [Nat.zero_add,toNat_natCast,getElem?_map,hv]; rfl) T4 rfl rfl rfl) ?_;refine gC (fun ht60=>?_) (fun ht60=>?_)
   ·have hu := bak (k := k1) (i := i) (by rw [hvd]; exact af8 ht60);refine gs (aa0 (.tmp rfl) rfl (by rw [length_map]) (.tmp rfl) T38 rfl T3 rfl rfl (by dsimp only; simp only [length_cons,length_nil]; omega) rfl rfl) ?_ (21,0);refine gW (Wk.of (sl:=[(2,some (.ms 64 1 0 (unm k1 (i + 1)).length)),(3,some (.v (.slice none 0 0))),(5,some (.ms 901 1 0 k2.length)),(52,some (.ms 900 1 0 k1.length)),(53,some (i64 k1.length)),(54,some (i64 i))]) (hp:=[(900,some (.row 1 (k1.map bl))),(901,some (.row 1 (k2.map bl))),(64,some (.row 1 ((unm k1 (i + 1)).map i64)))]) (.cons rfl (Sub.of (by rw [hu,length_append]; rfl)) (.k (.k (.k (.k (.k .nil)))))) (.k (.k (.cons rfl (BlkSub.of (by rw [hu,map_append]; rfl)) .nil)))) ?_ (21,0)
    refine gW (Wk.rekey (k:=64) (d:=902) rfl rfl) ?_;refine ga aat ?_;exact gK1 hK4 (i + 1) hin6 (hw:=Wk.of (.cons rfl (Sub.of (by first | rw [hu]; done | rfl)) (.k (.k (.k (.k (.k .nil)))))) (.cons rfl (BlkSub.of (by first | rw [hu]; done | rfl)) (.k (.k .nil))))
   ·have hu := a2j (k := k1) (i := i) (by rw [hvd]; exact af1 ht60);refine ga aat ?_;exact gK1 hK4 (i + 1) hin6 (hw:=Wk.of (.cons rfl (Sub.of (by first | rw [hu]; done | rfl)) (.k (.k (.k (.k (.k .nil)))))) (.cons rfl (BlkSub.of (by first | rw [hu]; done | rfl)) (.k (.k .nil))))
  ·have hin6:=aan ha ht55;refine gW ((Wk.freeze (k:=902) rfl).trans <| Wk.of (sl:=[(2,some (.lst 1 ((acw (aei l)).map i64))),(3,some (.v (.slice none 0 0))),(5,some (.ms 901 1 0 k2.length))]) (hp:=[(901,some (.row 1 (k2.map bl)))]) (.cons rfl (Sub.of (by rw [abq (by rw [length_map]),hin6,e1]; rfl)) (.k (.k .nil))) (.k .nil)) ?_;refine gW (Wk.virt 902 1 rfl) ?_;refine gL1 [2,67] [901] (fun (i:Nat)=>[(3,some (.ms 902 1 0 (unm k2 i).length)),(66,some (.ms 901 1 0 k2.length)),(68,some (i64 i))]) (fun i=>[(902,some (.row 1 ((unm k2 i).map i64)))]) (fun i=>i <= k2.length) (fun i=>k2.length - i) 0 (zero_le _) ?_;rintro i hb K5 hK5;refine gC (fun ht69=>?_) (fun ht69=>?_) (st2:=(28,0))
   ·have hin8:=aa9 ht69;obtain ⟨v,hv⟩:=ab5 hin8;have hvd:k2.getD i false = v:=aah hv;have hul:=awf k2 i;refine gs (ahi (.tmp rfl) (.tmp rfl) T185 rfl T4 rfl oz oz rfl) ?_;refine gs (aaw (.tmp rfl) rfl (by rw [Nat.zero_add,toNat_natCast,getElem?_map,hv]; rfl) T4 rfl rfl rfl) ?_;refine gC (fun ht74=>?_) (fun ht74=>?_)
    ·have hu := bak (k := k2) (i := i) (by rw [hvd]; exact af8 ht74);refine gs (aa0 (.tmp rfl) rfl (by rw [length_map]) (.tmp rfl) T38 rfl T3 rfl rfl (by dsimp only; simp only [length_cons,length_nil]; omega) rfl rfl) ?_ (27,0);refine gW (Wk.of (sl:=[(2,some (.lst 1 ((acw (aei l)).map i64))),(3,some (.ms 78 1 0 (unm k2 (i + 1)).length)),(66,some (.ms 901 1 0 k2.length)),(67,some (i64 k2.length)),(68,some (i64 i))]) (hp:=[(901,some (.row 1 (k2.map bl))),(78,some (.row 1 ((unm k2 (i + 1)).map i64)))]) (.k (.cons rfl (Sub.of (by rw [hu,length_append]; rfl)) (.k (.k (.k .nil))))) (.k (.cons rfl (BlkSub.of (by rw [hu,map_append]; rfl)) .nil))) ?_ (27,0)
     refine gW (Wk.rekey (k:=78) (d:=902) rfl rfl) ?_;refine ga aat ?_;exact gK1 hK5 (i + 1) hin8 (hw:=Wk.of (.cons rfl (Sub.of (by first | rw [hu]; done | rfl)) (.k (.k (.k (.k .nil))))) (.cons rfl (BlkSub.of (by first | rw [hu]; done | rfl)) (.k .nil)))
    ·have hu := a2j (k := k2) (i := i) (by rw [hvd]; exact af1 ht74);refine ga aat ?_;exact gK1 hK5 (i + 1) hin8 (hw:=Wk.of (.cons rfl (Sub.of (by first | rw [hu]; done | rfl)) (.k (.k (.k (.k .nil))))) (.cons rfl (BlkSub.of (by first | rw [hu]; done | rfl)) (.k .nil)))
   ·have hin8:=aan hb ht69;refine gW ((Wk.freeze (k:=902) rfl).trans <| Wk.of (sl:=[(2,some (.lst 1 ((acw (aei l)).map i64))),(3,some (.lst 1 ((acw (ah1 l)).map i64)))]) (hp:=[]) (.k (.cons rfl (Sub.of (by rw [abq (by rw [length_map]),hin8,e2]; rfl)) .nil)) .nil) ?_;refine gE2 ?_;rfl
theorem ahn (l:Li) (hl:l.ok) (hli:liE l = 0):FnC prog 14 [l.av] (.tup [.lst 4 ((ack l).map Gr.av), i64 (ado l)]):=by
 have h8:=(ab8 hli).2.2.2.1;have hj16:l.joints.length <= 16:=by have:=(ab8 hli).2.1; unfold ase at this; split at this; cases this; omega
 have u1:=bh1 l;have u2:=bjr l;refine gF0 func14 ?_;refine gc (a4j l hl hli) ?_;refine gl ?_;refine gl ?_;refine ga (aa7 oz) ?_;refine gC (fun ht16=>?_) (fun ht16=>?_)
 ·have h1:0 < (acw (aei l)).length + (acw (ah1 l)).length:=an2 ht16;have hE:ado l = 7:=by unfold ado; rw [if_neg oz]
  refine gR ?_;exact abc (by unfold ack; rw [if_neg (by rw [hE]; decide),hE]; exact Sub.tup (.cons (.nil _ _ _) (.cons (.refl _) .nil)))
 ·have h1:(acw (aei l)).length + (acw (ah1 l)).length <= 0:=apu ht16;have hE:ado l = 0:=by unfold ado; rw [if_pos oz]
  refine gc (atj l hl hli) ?_;refine gE2 ?_;unfold ack; rw [if_pos hE,hE]; rfl
end Go.Lw
namespace Go.Lw
variable {P:Program} {N:Nat} {R:Array Oper} {s:AS}
theorem a0y {d:Nat} {x:Operand} {n:Nat} {z:Value} {T E t:TypeId} {ti te:TI} {pos:String} {after:Array Edge} (hx:Ev s x (.v (.int .i64 n)))
    (hT:aao P T = some ti) (hk:ti.k = .slice E) (hE:aao P E = some te) (hz:te.zero = [z]) (hz1:z.oneCell' = true) (hs:Nat.beq te.size 1 = true) (hbb:Nat.blt 0 te.bytes = true)
    (hb:(n:Int) * te.bytes <= 281474976710656) (hN:Nat.blt d N = true) :
    Step P N R s ⟨some d, .makeSlice T x x, t, pos, after, none⟩
      ⟨some (.ms d 1 0 n),[(d,some (.vec (List.replicate n z)))],abg x,[]⟩ :=
  ak9 rfl rfl hN (by simp) fun s' hag hfr C m a w hr => by
    have hxv:=asv hr (hx.agree hag (fun _ h=>h));have hs:=eq_of_beq_eq_true hs;rw [Nat.blt_eq] at hbb;obtain ⟨d2,h3,h4,-,-⟩:=aca hT w;obtain rfl:=adw (h4.trans hk);obtain ⟨zv,h5,h6⟩:=amz hE w;obtain ⟨ie,h7,h8,-⟩:=apj hE w;have h6':zv.cells.toList = [z]:=h6.trans hz;have hzc:zv.cells = #[z]:=by rw [<- Array.toArray_toList (xs:=zv.cells),h6']
    have hnb:(n:Int) <= 281474976710656:=by
      have:(n:Int) * 1 <= n * te.bytes:=Int.mul_le_mul_of_nonneg_left oz oz;omega
    have hw1:IntKind.i64.wrap (n:Int) = n:=IntWalk.i64_in n oz;obtain ⟨zero,hzero⟩:∃ zero:Array Value,zero = (if n * te.size = 0 then #[] else zv.cells):=⟨_,rfl⟩
    refine ⟨.slice (some ⟨w.heap.size,0,none⟩) n n,(Array.range (n * te.size)).map (zero[· % zero.size]!),E,w.drawn,?_,?_,?_,?_⟩
    · have hmk:(Instr.makeSlice T (.int .i64 n) (.int .i64 n)).run P w =
          .ok (.slice (some ⟨w.heap.size,0,none⟩) n n) { w with heap:=w.heap.push (.cells ((Array.range (n * te.size)).map (zero[· % zero.size]!)) E) }:=by
        have hc:¬ (((n:Int) < 0 \/ 281474976710656 < (ie.bytes:Int) * n) \/ (n:Int) < 0):=by
          rw [h8,Int.mul_comm]; omega
        simp only [Instr.makeSlice,Sem.run_bind,h3,Result.andThen_ok,asInt,asIntOf,Sem.run_pure,h7,hw1];rw [if_neg (by simpa using hc)];simp only [Sem.run_bind,run_askRoom,Result.andThen_ok,ab0 hE,toNat_natCast]
        by_cases h0:n * te.size = 0
        · rw [if_pos h0] at hzero ⊢
          subst hzero;simp only [Sem.run_bind,Sem.run_pure,Result.andThen_ok,newRow,run_newObj]
        · rw [if_neg h0] at hzero ⊢
          subst hzero;simp only [Sem.run_bind,Sem.run_pure,Result.andThen_ok,h5,newRow,run_newObj]
      simp only [execOp,hxv,Sem.run_bind,hmk,Result.andThen_ok,Sem.run_pure]
    · exact fun h=>h
    · intro g S m' w' hg hS hm hw
      refine .vec hw ?_ (fun v hv=>by rw [List.eq_of_mem_replicate hv]; exact hz1);apply List.ext_getElem?;intro j;rw [Array.getElem?_toList,List.getElem?_replicate]
      by_cases hj:j < n
      · have hpos : ¬ n * te.size = 0 := by rw [hs]; omega
        rw [if_neg hpos,hzc] at hzero;subst hzero;rw [if_pos hj];simp only [Array.getElem?_map,Array.getElem?_range,show j < n * te.size by rw [hs]; omega,if_true,Option.map_some,Option.some.injEq];simp [Nat.mod_one]
      · rw [if_neg hj,Array.getElem?_eq_none (by simp [hs]; omega)]
    · intro g S m' hm hS
      have:=Rep.ms (g:=g) (S:=S) (m:=m') (k:=d) (sz:=1) (off:=0) (len:=n) (cap:=n) hm (le_refl _) (by simpa [hs] using hS);simpa using this
theorem awp {x y:Operand} {k i:Nat} {vs:List Value} {v:Value} {T t:TypeId} {ti:TI} {pos:String} {after:Array Edge}
  (hx:Ev s x (.eptr k 1 i 0)) (hk:s.blk k = some (.vec vs)) (hi:i < vs.length) (hy:Ev s y (.v v)) (hv:v.oneCell' = true) (hT:aao P T = some ti) (hsz:Nat.beq ti.size 1 = true) :
  Step P N R s ⟨none,.store T x y,t,pos,after,none⟩ ⟨none,[(k,some (.vec (vs.set i v)))],abg x ++ abg y,[k]⟩ :=
 aoz rfl rfl (by simp) hk fun s' hag C m a w hr => by
  have hsz:=eq_of_beq_eq_true hsz;obtain ⟨b,hm,hxv⟩:=amw hr (hx.agree hag (fun _ h=>List.mem_append.2 (.inl h)));have hyv:=asv hr (hy.agree hag (fun _ h=>List.mem_append.2 (.inr h)));have hb:=hr.heap.blk k _ ((hag.2 k (by simp)).trans hk);rw [hm] at hb;cases hb with
  | @vec _ _ c t2 hw hc h1 =>
   have hcs:c.size = vs.length:=by rw [<- hc]; simp
   have hvc:v.cells = #[v]:=by cases v <;> simp_all [Value.cells,Value.oneCell']
   refine ⟨b,c,(over c.toList i v.cells.toList).toArray,t2,hm,hw,?_,?_,?_⟩
   ·simp [over,hvc]; omega
   ·have hrun := ake (P := P) (off := i) (v := v) hT hw (by rw [hvc, hsz]; rfl) oz (by rw [hvc]; simpa using hv);simp [execOp,Instr.storeAt,hxv,Instr.sureAddr,hyv,hrun]
   ·intro g S w' hg hS hw';refine .vec hw' ?_ (fun u hu=>?_)
    ·rw [hc, hvc];unfold over;rw [List.set_eq_take_append_cons_drop,if_pos hi];simp
    ·rcases List.mem_or_eq_of_mem_set hu with h9 | h9
     ·exact h1 u h9
     ·rw [h9]; exact hv
inductive Lent (H:Hp) (hid:List Nat):AV -> AV -> Prop
  | same {x:AV} (h:x.nm = []):Lent H hid x x
  | ms {k off len:Nat} {vs:List Value} (hk:lk H k = some (.vec vs)) (hh:k ∉ hid) (hl:off + len <= vs.length) (hm:vs.length <= ac8):Lent H hid (.ms k 1 off len) (.lst 1 (((vs.drop off).take len).map .v))
theorem bmh {g:Nat -> Array Value -> Prop} {S:Nat -> Nat -> Prop} {m:Nat -> Option Nat} {u y:Value} (h:Rep g S m u (.v y)):u = y:=by cases h; rfl
theorem au1 {m:Nat -> Option Nat} {b:Nat}:¬ Own [] m b:=by rintro ⟨k,x,h,_⟩; cases h
def bk7 (ext:Nat -> Prop) (H:Hp) (hid:List Nat) (m:Nat -> Option Nat) (b:Nat):Prop:=ext b \/ ∃ k z,k ∈ hid /\ lk H k = some z /\ m k = some b
theorem bhc {ext:Nat -> Prop} {H:Hp} {hid:List Nat} {m m2:Nat -> Option Nat} {w:World} {b:Nat} {cs:Array Value} (h:Im ext H m w b cs):Im (bk7 ext H hid m) [] m2 w b cs :=
 ⟨fun h'=>h'.elim h.1 (fun ⟨k,z,_,hz,hb⟩=>h.2.1 ⟨k,z,hz,hb⟩),au1,h.2.2⟩
theorem a87 {ext:Nat -> Prop} {H:Hp} {hid:List Nat} {m:Nat -> Option Nat} {w:World} (hh:HeapRel ext H m w) {k b:Nat} {z:Blk} (hk:lk H k = some z) (hb:m k = some b) (hn:k ∉ hid):¬ bk7 ext H hid m b:=by
 rintro (h | ⟨k',z',h1,h2,h3⟩)
 ·exact (hh.sep k z b hk hb).1 h
 ·have:=hh.inj k k' z z' b hk h2 hb h3;subst this; exact hn h1
theorem Lent.rep {ext:Nat -> Prop} {H:Hp} {hid:List Nat} {m:Nat -> Option Nat} {w:World} (hh:HeapRel ext H m w) {x x':AV} (h:Lent H hid x x') :
  ∀ {v:Value},Rep (Im ext H m w) (Sz w) m v x -> ∀ m2:Nat -> Option Nat,Rep (Im (bk7 ext H hid m) [] m w) (Sz w) m2 v x':=by
 cases h with
 | same hn=>intro v hv m2; exact (ac3 hn hv).mono (fun _ _ h=>bhc h) (fun _ _ h=>h) (fun _ _ _ h=>h)
 | @ms k off len vs hk hnh hl hm =>
  intro v hr m2;have hb:=hh.blk k _ hk;cases hr with
  | ms0 a=>simp only [List.take_zero]; exact .lst0 _ _ _
  | @ms _ _ _ _ _ cap b hmk hc hS =>
   rw [hmk] at hb;cases hb with
   | @vec _ _ c t hw hcv h1 =>
    have hcs:c.size = vs.length:=by rw [<- hcv]; simp
    have hlen:(((vs.drop off).take len).map AV.v).length = len:=by rw [length_map,length_take,List.length_drop]; omega
    have he':∀ (i:Nat) (e:AV), (((vs.drop off).take len).map AV.v)[i]? = some e -> ∃ u, e = .v u /\ c[off + i]? = some u /\ u ∈ vs:=by
     intro i e he;rw [getElem?_map,map_eq_some_iff] at he;obtain ⟨u,he,rfl⟩:=he;rw [getElem?_take] at he;split at he
     ·rw [getElem?_drop] at he;exact ⟨u,rfl,by rw [<- Array.getElem?_toList,hcv]; exact he,mem_of_getElem? he⟩
     ·cases he
    have:=Rep.lst (g:=Im (bk7 ext H hid m) [] m w) (S:=Sz w) (m:=m2) (b:=b) (off:=off) (cap:=cap) (sz:=1) (es:=((vs.drop off).take len).map AV.v) (cs:=c) (fun i j=>c.getD (off + i) undef)
     ⟨a87 hh hk hmk hnh,au1,t,(0,0),hw⟩ oz oz ?_ ?_ ?_ ?_
    ·rw [hlen] at this; simpa using this
    ·intro i e he;obtain ⟨u,rfl,_⟩:=he' i e he; rfl
    ·intro i j e x he hx;obtain ⟨u,rfl,_,hm⟩:=he' i e he;cases j with
     | zero=>cases hx; exact h1 u hm
     | succ j=>cases hx
    ·intro i j e x he hx;obtain ⟨u,rfl,hu,_⟩:=he' i e he;cases j with
     | zero=>rw [Nat.mul_one,Nat.add_zero,getD_eq_getD_getElem?,hu]; rfl
     | succ j=>cases hx
    ·intro i j e x he hx;obtain ⟨u,rfl,hu,_⟩:=he' i e he;cases j with
     | zero=>cases hx; rw [getD_eq_getD_getElem?,hu]; exact .v _
     | succ j=>cases hx
def bnt:AV -> Bool
  | .v (.int _ _)=>true
  | _=>false
def bo0:AV -> Bool
  | .v (.int _ _)=>false
  | .v _=>true
  | .lst _ _=>true
  | .ms _ _ _ _=>true
  | _=>false
mutual
def AV.li:AV -> Bool
  | .v _=>true
  | .agg cs=>AV.lis cs
  | .tup cs=>AV.lis cs
  | .lst sz es=>Nat.beq sz 1 && es.all bnt
  | _=>false
def AV.lis:List AV -> Bool
  | []=>true
  | x :: l=>x.li && AV.lis l
end
theorem AV.lis_mem:∀ {l:List AV} {c:AV}, AV.lis l = true -> c ∈ l -> c.li = true
 | x :: l, c, h, hc=>by
  simp only [AV.lis,and_eq_true] at h;rcases List.mem_cons.1 hc with rfl | hc
  ·exact h.1
  ·exact AV.lis_mem h.2 hc
theorem a73 {g:Nat -> Array Value -> Prop} {S:Nat -> Nat -> Prop} {m:Nat -> Option Nat} {u:Value} {x:AV} (hx:bo0 x = true) (h:Rep g S m u x) (kk:IntKind) (z:Int):u ≠ .int kk z:=by
 rintro rfl;cases h <;> cases hx
theorem bmk {g g':Nat -> Array Value -> Prop} {S S':Nat -> Nat -> Prop} {m m':Nat -> Option Nat} {v:Value} {x:AV} (hx:x.li = true)
  (hg:∀ b cs (o:Nat) (kk:IntKind) (z:Int),cs[o]? = some (.int kk z) -> g b cs -> g' b cs) (h:Rep g S m v x):Rep g' S' m' v x:=by
 induction h with
 | v=>exact .v _
 | agg hn h1 hr ih=>exact .agg hn h1 (fun j u c hu hc=>ih j u c hu hc (AV.lis_mem hx (mem_of_getElem? hc)))
 | tup hn hr ih=>exact .tup hn (fun j u c hu hc=>ih j u c hu hc (AV.lis_mem hx (mem_of_getElem? hc)))
 | lst0 a cap sz=>exact .lst0 _ _ _
 | @lst _ b off cap sz es cs u hb hc hl hs h1 hu hr _ =>
  simp only [AV.li,and_eq_true] at hx;have hsz:=eq_of_beq_eq_true hx.1;subst hsz
  match es,hx,hc,hl,hs,h1,hu,hr with
  | [],_,_,_,_,_,_,_=>exact .lst0 _ _ _
  | e :: es, hx, hc, hl, hs, h1, hu, hr =>
   have hcell:∀ (i j:Nat) (e' c:AV), (e :: es)[i]? = some e' -> e'.cells[j]? = some c -> ∃ kk z, c = .v (.int kk z):=by
    intro i j e' c he hc';have h9:=List.all_eq_true.1 hx.2 e' (mem_of_getElem? he);cases e' with
    | v y=>cases y with
     | int kk z =>
      cases j with
      | zero=>cases hc'; exact ⟨_,_,rfl⟩
      | succ j=>cases hc'
     | _=>cases h9
    | _=>cases h9
   have he0:∃ kk z, e = .v (.int kk z):=by
    have h9:=List.all_eq_true.1 hx.2 e (by simp);cases e with
    | v y=>cases y with
     | int kk z=>exact ⟨_,_,rfl⟩
     | _=>cases h9
    | _=>cases h9
   obtain ⟨kk,z,rfl⟩:=he0;have h8:=hu 0 0 _ _ rfl rfl;have h7:=hr 0 0 _ _ rfl rfl;have h6:u 0 0 = .int kk z:=bmh h7;rw [h6] at h8;refine .lst u (hg b cs _ kk z h8 hb) hc hl hs h1 hu (fun i j e' c he hc'=>?_);obtain ⟨k2,z2,rfl⟩:=hcell i j e' c he hc';rw [bmh (hr i j _ _ he hc')]; exact .v _
 | _=>cases hx
theorem Con.lend {f:FuncId} {k:Nat} {cs:List AV} {cs':Value -> List AV} {H:Hp} {r:AV} (hid:List Nat) (j0:Nat) (hk:lk H k = some (.box cs)) (hkh:k ∉ hid)
  (hc:∀ v:Value, v.oneCell' = true -> (cs' v).length = cs.length /\ (∀ (j:Nat) (x:AV), (cs' v)[j]? = some x -> x.one = true) /\
   ∀ (j:Nat) (x x':AV),cs[j]? = some x -> (cs' v)[j]? = some x' -> (j = j0 /\ x' = .v v) \/ Lent H hid x x')
  (hj:j0 < cs.length)
  (hH:∀ k z,lk H k = some z -> k ∈ hid \/ (∃ cs,z = .box cs /\ cs.all bo0 = true) \/ ∃ vs,z = .vec vs /\ ∀ v ∈ vs,∀ kk z,v ≠ .int kk z) (hr:r.li = true) (h:∀ v:Value,FnC P f [.iptr (cs' v)] r):Con P f [.ptr k 0] H r H:=by
 refine ⟨(h undef).ok,?_⟩;intro ext m w vs hext hheap hvs hrep;have hsz:0 < vs.size:=by rw [hvs]; exact Nat.one_pos
 have hr0:=hrep 0 vs[0] _ (Array.getElem?_eq_getElem hsz) rfl;have hb:=hheap.blk k _ hk;generalize hv0:vs[0] = v0 at hr0;cases hr0 with
 | @ptr _ _ _ b hmk =>
  rw [hmk] at hb;cases hb with
  | @box _ _ c t hw hn h1 hrr =>
   have hj0:j0 < c.size:=by omega
   have hx0:=getElem?_eq_getElem (l:=cs) (i:=j0) oz;have hone:(c[j0]).oneCell' = true:=(hrr j0 _ _ (Array.getElem?_eq_getElem hj0) hx0).one (h1 j0 _ hx0);obtain ⟨g1,g2,g3⟩:=hc c[j0] hone
   have hext':∀ b, bk7 ext H hid m b -> b < w.heap.size:=by
    rintro b (h9 | ⟨k',z',_,h2,h3⟩)
    ·exact hext b h9
    ·exact (hheap.sep k' z' b h2 h3).2
   have hcall := (h c[j0]).ret (bk7 ext H hid m) m w vs hext' ⟨fun k z hz => by (cases hz), fun k k' x x' b hx => by (cases hx), fun k x b hx => by (cases hx)⟩ (by rw [hvs]; rfl) (by
    intro j v x hv hx
    match j,hx with
    | 0, hx =>
     cases hx;rw [Array.getElem?_eq_getElem hsz,hv0] at hv;cases hv;refine .iptr (cs:=c) (fun j=>c.getD j undef) ⟨a87 hheap hk hmk hkh,au1,t,(0,0),hw⟩ g2 ?_ ?_
     ·intro j x hx;have hlt:j < c.size:=by rw [hn,<- g1]; exact (List.getElem?_eq_some_iff.1 hx).1
      rw [Nat.zero_add,getD_eq_getD_getElem?,Array.getElem?_eq_getElem hlt]; rfl
     ·intro j x hx;have hlt:j < c.size:=by rw [hn,<- g1]; exact (List.getElem?_eq_some_iff.1 hx).1
      obtain ⟨y,hy⟩:=abl g1 hx;have hcv:c[j]? = some (c.getD j undef):=by rw [getD_eq_getD_getElem?,Array.getElem?_eq_getElem hlt]; rfl
      rcases g3 j y x hy hx with ⟨rfl,rfl⟩ | hl
      ·have : c.getD j undef = c[j] := by rw [Array.getElem?_eq_getElem hlt] at hcv; exact (Option.some.inj hcv).symm
       rw [this]; exact .v _
      ·exact hl.rep hheap (hrr j _ y hcv hy) acm)
   refine Calls.mono hcall ?_;rintro e w' ⟨v,m',rfl,hf,hh,hnew,hkeep,hres⟩;have hkeepB:∀ b,b < w.heap.size -> w'.heap[b]? = w.heap[b]? := fun b hb=>hf.keep b hb au1
   have hframe:Frame (Own H m) w w':=⟨hf.os,hf.tape,hf.output,hf.size,hf.sz,fun b hb _=>hkeepB b hb⟩
   have him:=acq (ext:=ext) hframe (hp':=H) (m':=m) (fun k x b hk hb=>.inl ⟨k,x,hk,hb⟩);refine ⟨v,m,rfl,hframe,⟨?_,hheap.inj,?_⟩,fun k x b hk hb=>.inl ⟨k,x,hk,hb⟩,fun _ _ _ _ _=>rfl,?_⟩
   ·intro k z hz;exact BlkRep.mono (w:=w) him hf.sz (fun _ _ _ h=>h) rfl (fun b hb=>hkeepB b (hheap.sep k z b hz hb).2) (hheap.blk k z hz)
   ·intro k z b hz hb;have:=hheap.sep k z b hz hb;exact ⟨this.1,lt_of_lt_of_le this.2 hf.size⟩
   ·refine bmk hr ?_ hres;rintro b2 cs2 o kk z ho ⟨g1,g2,t2,fl,g3⟩;refine ⟨fun h9=>g1 (.inl h9),?_,t2,fl,g3⟩;rintro ⟨k2,y,hk2,hb2⟩;have hlt:=fun b hb=>(hheap.sep k2 _ b hk2 hb).2
    have h3:=hheap.blk k2 _ hk2;rw [hb2] at h3;rcases hH k2 y hk2 with h9 | ⟨cl,rfl,hcl⟩ | ⟨vs2,rfl,hvl⟩
    ·exact g1 (.inr ⟨k2,y,h9,hk2,hb2⟩)
    ·cases h3 with
     | @box _ _ c2 t' hw2 hn2 h12 hrr2 =>
      have hcc:c2 = cs2:=by
       rw [hkeepB b2 (hlt b2 hb2),hw2] at g3
       injection g3 with g3
       injection g3
      subst hcc;have ho':o < c2.size:=(Array.getElem?_eq_some_iff.1 ho).1;have hx:=getElem?_eq_getElem (l:=cl) (i:=o) oz;exact a73 (List.all_eq_true.1 hcl _ (mem_of_getElem? hx)) (hrr2 o _ _ ho hx) kk z rfl
    ·cases h3 with
     | @vec _ _ c2 t' hw2 hc2 h12 =>
      have hcc:c2 = cs2:=by
       rw [hkeepB b2 (hlt b2 hb2),hw2] at g3
       injection g3 with g3
       injection g3
      subst hcc;have:Value.int kk z ∈ vs2:=by rw [<- hc2]; exact Array.mem_toList_iff.2 (Array.mem_of_getElem? ho)
      exact hvl _ this kk z rfl
end Go.Lw
namespace Go.Lw
open Go.Proofs
def bv (xs:List Bool):List Value:=xs.map .bool
theorem agq (xs:List Bool):(bv xs).length = xs.length:=length_map _
theorem a2b (xs:List Bool) (n:Nat):(bv xs).set n (.bool true) = bv (xs.set n true):=by unfold bv; rw [map_set]
theorem bhs (xs:List Bool):∀ v ∈ bv xs, ∀ kk z, v ≠ .int kk z:=by
 intro v hv kk z;obtain ⟨b,_,rfl⟩:=List.mem_map.1 hv;exact fun h=>by cases h
theorem bek (xs:List Bool):(bv xs).map AV.v = xs.map bl:=by unfold bv; rw [map_map]; rfl
theorem a7z (n:Nat):List.replicate n (Value.bool false) = bv (List.replicate n false):=by unfold bv; rw [map_replicate]
theorem bh5 (xs:List Int):(xs.map i64).all bnt = true:=by
 rw [all_eq_true];intro x hx;obtain ⟨b,_,rfl⟩:=List.mem_map.1 hx;rfl
theorem bq8 (g:Gr) (b:Bool):(AV.tup [g.av, bl b]).li = true:=by
 simp only [AV.li,AV.lis,Gr.av,bh5];rfl
def fdB (l:Li) (n:Nat):Blk:=.box (l.av.cells ++ [.ms 23 1 0 l.bodies.length,.ms 27 1 0 l.bodies.length,.ms 31 1 0 l.joints.length,.ms 900 4 0 n])
def fdH (l:Li) (known used:List Bool) (out:List Gr):Hp :=
  [(33,some (fdB l out.length)),(23,some (.vec (bv known))),(27,some (.vec (bv (aa2 l)))),(31,some (.vec (bv used))),(900,some (.row 4 (out.map Gr.av)))]
theorem bbn {xs:List Bool} {n:Nat} (h:xs.length = n):AV.lst 1 ((((bv xs).drop 0).take n).map .v) = .lst 1 (xs.map bl):=by
 rw [drop_zero,take_of_length_le (by rw [agq]; omega),bek]
theorem as1 (l:Li) (hl:l.ok) (hli:liE l = 0) (known used:List Bool) (hk:known.length = l.bodies.length) (hu:used.length = l.joints.length) (hm:l.bodies.length <= ac8 /\ l.joints.length <= ac8) (out:List Gr) :
  Con prog 240 [.ptr 33 0] (fdH l known used out) (.tup [((adx l known).getD default).av,bl (adx l known).isSome]) (fdH l known used out):=by
 refine Con.lend (cs:=l.av.cells ++ [.ms 23 1 0 l.bodies.length, .ms 27 1 0 l.bodies.length, .ms 31 1 0 l.joints.length, .ms 900 4 0 out.length])
  (cs':=fun v=>fdC l known (aa2 l) [.lst 1 (used.map bl),.v v]) [900] 7 rfl (by decide) ?_ (by simp [Li.av,AV.cells]) ?_ (bq8 _ _) (fun v=>bci l hl hli known hk _)
 ·intro v hv;refine ⟨rfl,?_,?_⟩
  ·intro j x hx
   match j,hx with
   | 0,hx=>cases hx; rfl
   | 1,hx=>cases hx; rfl
   | 2,hx=>cases hx; rfl
   | 3,hx=>cases hx; rfl
   | 4,hx=>cases hx; rfl
   | 5,hx=>cases hx; rfl
   | 6,hx=>cases hx; rfl
   | 7,hx=>cases hx; exact hv
   | j + 8,hx=>cases hx
  ·intro j x x' hx hx'
   match j,hx,hx' with
   | 0,hx,hx'=>cases hx; cases hx'; exact .inr (.same rfl)
   | 1,hx,hx'=>cases hx; cases hx'; exact .inr (.same rfl)
   | 2,hx,hx'=>cases hx; cases hx'; exact .inr (.same rfl)
   | 3,hx,hx'=>cases hx; cases hx'; exact .inr (.same rfl)
   | 4, hx, hx' =>
    cases hx; cases hx'
    have h:=Lent.ms (H:=fdH l known used out) (hid:=[900]) (k:=23) (off:=0) (len:=l.bodies.length) (vs:=bv known) rfl (by decide) (by rw [agq]; omega) (by rw [agq]; omega);rw [bbn hk] at h;exact .inr h
   | 5, hx, hx' =>
    cases hx; cases hx'
    have h:=Lent.ms (H:=fdH l known used out) (hid:=[900]) (k:=27) (off:=0) (len:=l.bodies.length) (vs:=bv (aa2 l)) rfl (by decide) (by rw [agq,aij]; omega) (by rw [agq,aij]; omega);rw [bbn (aij l)] at h;exact .inr h
   | 6, hx, hx' =>
    cases hx; cases hx'
    have h:=Lent.ms (H:=fdH l known used out) (hid:=[900]) (k:=31) (off:=0) (len:=l.joints.length) (vs:=bv used) rfl (by decide) (by rw [agq]; omega) (by rw [agq]; omega);rw [bbn hu] at h;exact .inr h
   | 7,hx,hx'=>cases hx; cases hx'; exact .inl ⟨rfl,rfl⟩
   | j + 8,hx,hx'=>cases hx
 ·intro k z hz;simp only [fdH,aad] at hz;split at hz
  ·cases hz; exact .inr (.inl ⟨_,rfl,rfl⟩)
  split at hz
  ·cases hz; exact .inr (.inr ⟨_,rfl,bhs _⟩)
  split at hz
  ·cases hz; exact .inr (.inr ⟨_,rfl,bhs _⟩)
  split at hz
  ·cases hz; exact .inr (.inr ⟨_,rfl,bhs _⟩)
  split at hz
  ·subst_vars; exact .inl (by decide)
  ·cases hz
def fdR (l:Li):AV:=if liE l = 0 then .iptr (fdC l (aei l) (aa2 l) [.lst 1 ((ah1 l).map bl),.lst 4 ((ady l).map Gr.av)]) else .v (.pointer none)
def ao0 (l:Li) (out:List Gr):List Bool:=out.foldl (fun k g=>aav k g.joints) (List.replicate l.joints.length false)
theorem aux (l:Li) (out:List Gr):(ao0 l out).length = l.joints.length:=by unfold ao0; rw [ale,length_replicate]
theorem bdp (l:Li) (out:List Gr) (g:Gr):ao0 l (out ++ [g]) = aav (ao0 l out) g.joints:=by unfold ao0; rw [List.foldl_append]; rfl
theorem asl {k:List Bool} {bs:List Int} {i:Nat} {b:Int} (h:bs[i]? = some b):aav k (bs.take (i + 1)) = (aav k (bs.take i)).set b.toNat true:=by
 unfold aav;rw [aaj h,List.foldl_append]; rfl
theorem a60 {l:Li} (hli:liE l = 0) {known:List Bool} {out:List Gr} {g:Gr} (hk:known.length = l.bodies.length) (h:aa8 l (unk known) known out = (aei l, ady l)) (hg:adx l known = some g) :
  aa8 l (unk (aav known g.bodies)) (aav known g.bodies) (out ++ [g]) = (aei l,ady l):=by
 have hlt:=ai0 hli hk hg;obtain ⟨n,hn⟩:∃ n,unk known = n + 1:=⟨unk known - 1,by omega⟩
 rw [hn] at h;unfold aa8 at h;rw [hg] at h;rw [<- h];exact aja hli _ _ _ _ (by rw [agf]; exact hk) (le_refl _) oz
theorem bei {l:Li} {known:List Bool} {out:List Gr} (h:aa8 l (unk known) known out = (aei l, ady l)) (hg:adx l known = none):known = aei l /\ out = ady l:=by
 cases hn:unk known with
 | zero=>rw [hn] at h; exact ⟨(Prod.mk.inj h).1,(Prod.mk.inj h).2⟩
 | succ n=>rw [hn] at h; unfold aa8 at h; rw [hg] at h; exact ⟨(Prod.mk.inj h).1,(Prod.mk.inj h).2⟩
theorem bfh {n:Nat}:unk (aeu n 0) <= n:=by
 unfold unk;exact le_trans List.countP_le_length (Nat.le_of_eq (aed _ _))
theorem a4d {l:Li} (hli:liE l = 0):aa8 l (unk (aeu l.bodies.length 0)) (aeu l.bodies.length 0) [] = (aei l, ady l):=by
 rw [<- a4w];exact aja hli _ _ _ _ (aed _ _) (le_refl _) bfh
theorem bnz {l:Li} (hli:liE l = 0) {known:List Bool} {out:List Gr} (hk:known.length = l.bodies.length) (h:aa8 l (unk known) known out = (aei l, ady l)):out.length <= 8:=by
 obtain ⟨gs,e⟩:=ah5 (l:=l) (unk known) known out;rw [e] at h;have h1:=(am2 hli).2;have h2:out ++ gs = ady l:=(Prod.mk.inj h).2;rw [<- h2,length_append] at h1; omega
theorem a9j (l:Li) (known used:List Bool) (out:List Gr) (hk:known.length = l.bodies.length) (hu:used.length = l.joints.length) (hm:l.bodies.length <= ac8 /\ l.joints.length <= ac8) :
  Wk ⟨[(5,some (.ptr 33 0))],fdH l known used out⟩ ⟨[(5,some (.iptr (fdC l known (aa2 l) [.lst 1 (used.map bl),.lst 4 (out.map Gr.av)])))],[]⟩:=by
 have hd:=aij l;have q1:.ms 23 1 0 l.bodies.length = AV.ms 23 1 0 ((bv known).map AV.v).length:=by rw [length_map,agq,hk]
 refine (Wk.of (sl:=[(5, some (.ptr 33 0))]) (hp:=[(33, some (fdB l out.length)), (23, some (.row 1 ((bv known).map .v))), (27, some (.row 1 ((bv (aa2 l)).map .v))), (31, some (.row 1 ((bv used).map .v))), (900, some (.row 4 (out.map Gr.av)))])
  (.k .nil) (.k (.cons rfl (.vecRow (by rw [agq]; omega)) (.cons rfl (.vecRow (by rw [agq]; omega)) (.cons rfl (.vecRow (by rw [agq]; omega)) (.k .nil)))))).trans ?_
 refine (Wk.freeze (k:=23) rfl).trans ?_
 refine (Wk.of (sl:=[(5, some (.ptr 33 0))]) (hp:=[(33, some (.box (l.av.cells ++ [.lst 1 (known.map bl), .ms 27 1 0 l.bodies.length, .ms 31 1 0 l.joints.length, .ms 900 4 0 out.length]))), (27, some (.row 1 ((bv (aa2 l)).map .v))), (31, some (.row 1 ((bv used).map .v))), (900, some (.row 4 (out.map Gr.av)))])
  (.k .nil) (.cons rfl (BlkSub.boxL (.cons (.refl _) (.cons (.refl _) (.cons (.refl _) (.cons (.refl _) (.cons (.of ((abq (by rw [length_map,agq,hk])).trans (by rw [bek]))) (.cons (.refl _) (.cons (.refl _) (.cons (.refl _) .nil)))))))) rfl) (.k (.k (.k .nil))))).trans ?_
 refine (Wk.freeze (k:=27) rfl).trans ?_
 refine (Wk.of (sl:=[(5, some (.ptr 33 0))]) (hp:=[(33, some (.box (l.av.cells ++ [.lst 1 (known.map bl), .lst 1 ((aa2 l).map bl), .ms 31 1 0 l.joints.length, .ms 900 4 0 out.length]))), (31, some (.row 1 ((bv used).map .v))), (900, some (.row 4 (out.map Gr.av)))])
  (.k .nil) (.cons rfl (BlkSub.boxL (.cons (.refl _) (.cons (.refl _) (.cons (.refl _) (.cons (.refl _) (.cons (.refl _) (.cons (.of ((abq (by rw [length_map,agq,hd])).trans (by rw [bek]))) (.cons (.refl _) (.cons (.refl _) .nil)))))))) rfl) (.k (.k .nil)))).trans ?_
 refine (Wk.freeze (k:=31) rfl).trans ?_
 refine (Wk.of (sl:=[(5, some (.ptr 33 0))]) (hp:=[(33, some (.box (l.av.cells ++ [.lst 1 (known.map bl), .lst 1 ((aa2 l).map bl), .lst 1 (used.map bl), .ms 900 4 0 out.length]))), (900, some (.row 4 (out.map Gr.av)))])
  (.k .nil) (.cons rfl (BlkSub.boxL (.cons (.refl _) (.cons (.refl _) (.cons (.refl _) (.cons (.refl _) (.cons (.refl _) (.cons (.refl _) (.cons (.of ((abq (by rw [length_map,agq,hu])).trans (by rw [bek]))) (.cons (.refl _) .nil)))))))) rfl) (.k .nil))).trans ?_
 refine (Wk.freeze (k:=900) rfl).trans ?_
 refine (Wk.of (sl:=[(5, some (.ptr 33 0))]) (hp:=[(33, some (.box (fdC l known (aa2 l) [.lst 1 (used.map bl), .lst 4 (out.map Gr.av)])))])
  (.k .nil) (.cons rfl (BlkSub.boxL (.cons (.refl _) (.cons (.refl _) (.cons (.refl _) (.cons (.refl _) (.cons (.refl _) (.cons (.refl _) (.cons (.refl _) (.cons (.of (abq (by rw [length_map]))) .nil)))))))) rfl) .nil)).trans ?_
 refine (Wk.freezeB (k:=33) rfl rfl).trans ?_;exact Wk.of (.k .nil) .nil
theorem bfj (l:Li) (hl:l.ok):FnC prog 155 [l.av] (.tup [fdR l, ai2 (liE l)]):=by
 refine gF0 func155 ?_;refine gc (am4 l hl) ?_;refine gC (fun ht17=>?_) (fun ht17=>?_)
 ·have h1:=aeq ht17;refine gE2 ?_;unfold fdR; rw [if_neg h1]
 ·have hli:=ad1 ht17;have h8:=(ab8 hli).2.2.2.1;have h0:=(ab8 hli).2.2.2.2;have hj16:l.joints.length <= 16:=by have:=(ab8 hli).2.1; unfold ase at this; split at this; cases this; omega
  have hld:=hl.ld;have hm:l.bodies.length <= ac8 /\ l.joints.length <= ac8:=by unfold ac8; omega
  refine gl ?_;refine gs (a0y (.tmp rfl) T185 rfl T4 rfl rfl rfl rfl (by dsimp only; omega) rfl) ?_;refine gl ?_;refine gs (a0y (.tmp rfl) T185 rfl T4 rfl rfl rfl rfl (by dsimp only; omega) rfl) ?_;refine gl ?_;refine gs (a0y (.tmp rfl) T185 rfl T4 rfl rfl rfl rfl (by dsimp only; omega) rfl) ?_;refine gD ?_;refine gs (aas (n:=0) (.tmp rfl) (.const _) T185 rfl T4 rfl rfl oz rfl) ?_;refine gs (awp (.tmp rfl) rfl (by rw [length_replicate]; omega) (.const _) rfl T4 rfl) ?_ (6,0);refine gW (Wk.of (sl:=[(1,some (.ptr 1 0)),(5,some (.ptr 33 0))]) (hp:=[(1,some (.box l.av.cells)),(33,some (.box (l.av.cells ++ [.ms 23 1 0 l.bodies.length,.ms 27 1 0 l.bodies.length,.ms 31 1 0 l.joints.length,.v (.slice none 0 0)]))),(23,some (.vec (bv (aeu l.bodies.length 0)))),(27,some (.vec (bv (List.replicate l.bodies.length false)))),(31,some (.vec (bv (List.replicate l.joints.length false))))]) aa6 (.k (.k (.cons rfl (BlkSub.of (by rw [a7z,a2b]; rfl)) (.cons rfl (BlkSub.of (by rw [a7z])) (.cons rfl (BlkSub.of (by rw [a7z])) .nil)))))) ?_
  refine gl ?_;refine gL1 [1,5,40,41] [1,23,31] (fun (i:Nat)=>[(42,some (i64 i))]) (fun i=>[(33,some (.box (l.av.cells ++ [.ms 23 1 0 l.bodies.length,.ms 27 1 0 l.bodies.length,.ms 31 1 0 l.joints.length,.v (.slice none 0 0)]))),(27,some (.vec (bv (aav (List.replicate l.bodies.length false) ((l.drivers.map Dr.body).take i)))))]) (fun i=>i <= l.drivers.length) (fun i=>l.drivers.length - i) 0 (zero_le _) ?_;rintro i hi K1 hK1;refine gC (fun ht43=>?_) (fun ht43=>?_) (st2:=(11,0))
  ·have hin:=aa9 ht43;obtain ⟨d,hd⟩:=ab5 hin;have hb:=aiz (a4n hli hd);have hmt:=asl (k:=List.replicate l.bodies.length false) (bs:=l.drivers.map Dr.body) (i:=i) (b:=d.body) (by rw [getElem?_map,hd]; rfl);refine gi (aag hd) ?_;refine gs (aas (n:=d.body.toNat) (.tmp rfl) (.tmp rfl) T185 rfl T4 rfl oz oz rfl) ?_;refine gs (awp (.tmp rfl) rfl (by rw [agq,agf,length_replicate]; omega) (.const _) rfl T4 rfl) ?_;refine gD ?_;refine ga aat ?_;exact gK1 hK1 (i + 1) hin (hw:=Wk.of aa6 (.k (.cons rfl (BlkSub.of (by rw [a2b,hmt])) (.k (.k (.k .nil))))))
  ·have hin:=aan hi ht43;have hall:aav (List.replicate l.bodies.length false) ((l.drivers.map Dr.body).take i) = aa2 l:=by rw [hin]; unfold aa2; rw [take_of_length_le (by rw [length_map]; omega)]
   refine gW ((Wk.virt 900 4 rfl).trans <| Wk.of (sl:=[(1,some (.ptr 1 0)),(5,some (.ptr 33 0))]) (hp:=[(33,some (fdB l 0)),(23,some (.vec (bv (aeu l.bodies.length 0)))),(27,some (.vec (bv (aa2 l)))),(31,some (.vec (bv (List.replicate l.joints.length false)))),(900,some (.row 4 []))]) aa6 (.cons rfl (BlkSub.boxL (.cons (.refl _) (.cons (.refl _) (.cons (.refl _) (.cons (.refl _) (.cons (.refl _) (.cons (.refl _) (.cons (.refl _) (.cons (Sub.nilMs _ _ _) .nil)))))))) rfl) (.k (.cons rfl (BlkSub.of (by rw [hall])) (.k (.k .nil)))))) ?_
   refine gt (aab (as1 l hl hli (aeu l.bodies.length 0) (List.replicate l.joints.length false) (aed _ _) length_replicate hm []) (ev1 rfl) (fun k z h=>h) rfl rfl) ?_;refine gL2 [5,8] [] (fun (known:List Bool) (out:List Gr)=>[(9,some (bl (adx l known).isSome))]) (fun known out=>[(8,some (.box ((adx l known).getD default).av.cells)),(33,some (fdB l out.length)),(23,some (.vec (bv known))),(27,some (.vec (bv (aa2 l)))),(31,some (.vec (bv (ao0 l out)))),(900,some (.row 4 (out.map Gr.av)))]) (fun known out=>known.length = l.bodies.length /\ aa8 l (unk known) known out = (aei l,ady l)) (fun known _=>unk known) (aeu l.bodies.length 0) ([]) ⟨aed _ _,a4d hli⟩ ?_
   rintro known out ⟨hk,hf⟩ K2 hK2;refine gC (fun ht59=>?_) (fun ht59=>?_) (st1:=(77777,0)) (st2:=(27,0))
   ·obtain ⟨g, hg⟩:=a0x ht59;have hgo:=av3 hli hg;have hout:=bnz hli hk hf;refine gW (Wk.of (sl:=[(5,some (.ptr 33 0)),(8,some (.ptr 8 0))]) (hp:=[(8,some (.box g.av.cells)),(33,some (fdB l out.length)),(23,some (.vec (bv known))),(27,some (.vec (bv (aa2 l)))),(31,some (.vec (bv (ao0 l out)))),(900,some (.row 4 (out.map Gr.av)))]) aa6 (.cons rfl (BlkSub.of (by rw [hg]; rfl)) (.k (.k (.k (.k (.k .nil))))))) ?_;refine gl ?_;refine gL1 [5,8,66,67] [8,33,27,31,900] (fun (j:Nat)=>[(68,some (i64 j))]) (fun j=>[(23,some (.vec (bv (aav known (g.bodies.take j)))))]) (fun j=>j <= g.bodies.length) (fun j=>g.bodies.length - j) 0 (zero_le _) ?_;rintro j hj K3 hK3;refine gC (fun ht69=>?_) (fun ht69=>?_)
    ·have hin:=aa9 ht69;obtain ⟨b,hb⟩:=ab5 hin;have hbb:=hgo.b b (mem_of_getElem? hb);have hlb:=hgo.lb;refine gi (aag hb) ?_;refine gs (aas (n:=b.toNat) (.tmp rfl) (.tmp rfl) T185 rfl T4 rfl oz oz rfl) ?_;refine gs (awp (.tmp rfl) rfl (by rw [agq,agf]; omega) (.const _) rfl T4 rfl) ?_;refine ga aat ?_;exact gK1 hK3 (j + 1) hin (hw:=Wk.of aa6 (.cons rfl (BlkSub.of (by rw [a2b,asl hb])) (.k (.k (.k (.k (.k .nil)))))))
    ·have hin:=aan hj ht69;subst hin;refine gl ?_;refine gL1 [5,8,80,81] [8,33,27,900] (fun (q:Nat)=>[(82,some (i64 q))]) (fun q=>[(23,some (.vec (bv (aav known g.bodies)))),(31,some (.vec (bv (aav (ao0 l out) (g.joints.take q)))))]) (fun q=>q <= g.joints.length) (fun q=>g.joints.length - q) 0 (zero_le _) ?_ (h2:=(.cons rfl (BlkSub.of (by rw [take_length])) (.k .nil)));rintro q hq K4 hK4;refine gC (fun ht83=>?_) (fun ht83=>?_)
     ·have hin:=aa9 ht83;obtain ⟨b,hb⟩:=ab5 hin;have hbb:=hgo.j b (mem_of_getElem? hb);have hlj:=hgo.lj;refine gi (aag hb) ?_;refine gs (aas (n:=b.toNat) (.tmp rfl) (.tmp rfl) T185 rfl T4 rfl oz oz rfl) ?_;refine gs (awp (.tmp rfl) rfl (by rw [agq,agf,aux]; omega) (.const _) rfl T4 rfl) ?_;refine ga aat ?_;exact gK1 hK4 (q + 1) hin (hw:=Wk.of aa6 (.k (.cons rfl (BlkSub.of (by rw [a2b,asl hb])) (.k (.k (.k (.k .nil)))))))
     ·have hin:=aan hq ht83;subst hin;refine gs (aa0 (.tmp rfl) rfl (by rw [length_map]) (.tmp rfl) T58 rfl T64 rfl rfl (by simp only [length_cons,length_nil]; omega) rfl rfl) ?_;refine gD ?_ (25,0);refine gW (Wk.of (sl:=[(5,some (.ptr 33 0)),(8,some (.ptr 8 0))]) (hp:=[(8,some (.box g.av.cells)),(33,some (.box (l.av.cells ++ [.ms 23 1 0 l.bodies.length,.ms 27 1 0 l.bodies.length,.ms 31 1 0 l.joints.length,.ms 100 4 0 (out ++ [g]).length]))),(100,some (.row 4 ((out ++ [g]).map Gr.av))),(23,some (.vec (bv (aav known g.bodies)))),(27,some (.vec (bv (aa2 l)))),(31,some (.vec (bv (ao0 l (out ++ [g])))))]) aa6 (.k (.cons rfl (BlkSub.of (by rw [length_append]; rfl)) (.cons rfl (BlkSub.of (by rw [map_append]; rfl)) (.k (.k (.cons rfl (BlkSub.of (by rw [bdp,take_length])) .nil))))))) ?_ (25,0)
      refine gW (Wk.rekey (k:=100) (d:=900) rfl rfl) ?_ (26,0);refine gW (Wk.o (sl:=[(5,some (.ptr 33 0)),(103,some (g.av))]) (hp:=[(33,some (fdB l (out ++ [g]).length)),(23,some (.vec (bv (aav known g.bodies)))),(27,some (.vec (bv (aa2 l)))),(31,some (.vec (bv (ao0 l (out ++ [g]))))),(900,some (.row 4 ((out ++ [g]).map Gr.av)))])) ?_;refine gt (aab (as1 l hl hli (aav known g.bodies) (ao0 l (out ++ [g])) (by rw [agf]; exact hk) (aux _ _) hm (out ++ [g])) (ev1 rfl) (by intro k z h; simp only [fdH,aad] at h; split at h; (subst_vars; exact h); split at h; (subst_vars; exact h); split at h; (subst_vars; exact h); split at h; (subst_vars; exact h); split at h; (subst_vars; exact h); cases h) rfl rfl) ?_;exact gK2 hK2 (aav known g.bodies) (out ++ [g]) ⟨by rw [agf]; exact hk,a60 hli hk hf hg⟩ (ai0 hli hk hg)
   ·have hg:=a1p ht59;obtain ⟨e1,e2⟩:=bei hf hg;subst e1 e2;refine gW (Wk.o (sl:=[(5,some (.ptr 33 0))]) (hp:=[(33,some (fdB l (ady l).length)),(23,some (.vec (bv (aei l)))),(27,some (.vec (bv (aa2 l)))),(31,some (.vec (bv (ao0 l (ady l))))),(900,some (.row 4 ((ady l).map Gr.av)))])) ?_ (27,0);refine gW (a9j l (aei l) (ao0 l (ady l)) (ady l) hk (aux _ _) hm) ?_;refine gE2 ?_;unfold fdR; rw [if_pos hli,hli]; rfl
end Go.Lw
namespace Go.Lw
open Go.Proofs
theorem bg3 {α:Type} [BEq α] [LawfulBEq α] {xs:List α} {b:α} {ok:Nat -> Bool} (h:∀ i x, xs[i]? = some x -> ok i = !(b == x)):decide (0 <= ixI (act xs.length ok)) = xs.contains b:=by
 cases hf:act xs.length ok with
 | some i =>
  obtain ⟨h1,h2⟩:=aby hf;obtain ⟨x,hx⟩:=ab5 h1;rw [h i x hx] at h2;have:b = x:=by simpa using h2
  subst this;rw [List.contains_iff_mem.2 (mem_of_getElem? hx)];exact decide_eq_true (by show (0:Int) <= (i:Int); omega)
 | none =>
  rw [decide_eq_false (by show ¬ (0:Int) <= -1; decide)]
  symm
  rw [<- Bool.not_eq_true,List.contains_iff_mem];intro hm;obtain ⟨i,hi⟩:=List.mem_iff_getElem?.1 hm;have hlt:=(List.getElem?_eq_some_iff.1 hi).1;unfold act at hf;rw [List.find?_eq_none] at hf;have:=hf i (List.mem_range.2 hlt);rw [h i b hi] at this;simp at this
theorem awv (xs:List Bool) (b:Bool) (hl:xs.length <= 281474976710656):FnC prog 241 [.lst 1 (xs.map bl), bl b] (i64 (ixI (act xs.length (fun i=>!(b == xs.getD i false))))):=by
 refine gF0 func241 ?_;refine gl ?_;refine gL1 [0,1,7] [] (fun (i:Nat)=>[(8,some (i64 i))]) (fun _=>[]) (fun i=>i <= xs.length /\ ∀ j,j < i -> (!(b == xs.getD j false)) = true) (fun i=>xs.length - i) 0 ⟨zero_le _,fun j h=>by omega⟩ ?_;rintro i ⟨hi,hj⟩ K1 hK1;refine gC (fun ht9=>?_) (fun ht9=>?_)
 ·have hin:=aa9 ht9;obtain ⟨x,hx⟩:=ab5 hin;have hg:xs.getD i false = x:=aah hx;refine gi (aag hx) ?_;refine gC (fun ht16=>?_) (fun ht16=>?_)
  ·have h2:(b == x) = true:=ht16;refine gE1 ?_;rw [ac2 hin hj (by rw [hg,h2]; rfl)]; rfl
  ·have h2:(b == x) = false:=ht16;refine ga aat ?_;exact gK1 hK1 (i + 1) ⟨hin,fun j h9=>by rcases lt_or_ge j i with g | g; exact hj j g; (have:j = i:=by omega); subst this; rw [hg,h2]; rfl⟩
 ·have hin:=aan hi ht9;subst hin;refine gE1 ?_;rw [acg hj]; rfl
theorem akl (xs:List Bool) (b:Bool) (hl:xs.length <= 281474976710656):FnC prog 156 [.lst 1 (xs.map bl), bl b] (bl (xs.contains b)):=by
 refine gF0 func156 ?_;refine gc (awv xs b hl) ?_;refine gE1 ?_;rw [<- bg3 (xs:=xs) (b:=b) (ok:=fun i=>!(b == xs.getD i false)) (fun i x hx=>by rw [aah hx])]; rfl
theorem az8 (xs:List Int) (b:Int) (hl:xs.length <= 281474976710656):FnC prog 249 [.lst 1 (xs.map i64), i64 b] (i64 (ixI (act xs.length (fun i=>!(b == xs.getD i 0))))):=by
 refine gF0 func249 ?_;refine gl ?_;refine gL1 [0,1,7] [] (fun (i:Nat)=>[(8,some (i64 i))]) (fun _=>[]) (fun i=>i <= xs.length /\ ∀ j,j < i -> (!(b == xs.getD j 0)) = true) (fun i=>xs.length - i) 0 ⟨zero_le _,fun j h=>by omega⟩ ?_;rintro i ⟨hi,hj⟩ K1 hK1;refine gC (fun ht9=>?_) (fun ht9=>?_)
 ·have hin:=aa9 ht9;obtain ⟨x,hx⟩:=ab5 hin;have hg:xs.getD i 0 = x:=aah hx;refine gi (aag hx) ?_;refine gC (fun ht16=>?_) (fun ht16=>?_)
  ·have h2:(b == x) = true:=ht16;refine gE1 ?_;rw [ac2 hin hj (by rw [hg,h2]; rfl)]; rfl
  ·have h2:(b == x) = false:=ht16;refine ga aat ?_;exact gK1 hK1 (i + 1) ⟨hin,fun j h9=>by rcases lt_or_ge j i with g | g; exact hj j g; (have:j = i:=by omega); subst this; rw [hg,h2]; rfl⟩
 ·have hin:=aan hi ht9;subst hin;refine gE1 ?_;rw [acg hj]; rfl
theorem alz (xs:List Int) (b:Int) (hl:xs.length <= 281474976710656):FnC prog 160 [.lst 1 (xs.map i64), i64 b] (bl (xs.contains b)):=by
 refine gF0 func160 ?_;refine gc (az8 xs b hl) ?_;refine gE1 ?_;rw [<- bg3 (xs:=xs) (b:=b) (ok:=fun i=>!(b == xs.getD i 0)) (fun i x hx=>by rw [aah hx])]; rfl
theorem a79 (l:Li) (hl:l.ok):FnC prog 69 [l.av] (.tup [.lst 4 (((if liE l = 0 then ack l else [])).map Gr.av), ai2 (if liE l = 0 then ado l else liE l)]):=by
 refine gF0 func69 ?_;refine gc (bfj l hl) (hnm:=(by unfold fdR; split <;> rfl)) ?_;refine gC (fun ht12=>?_) (fun ht12=>?_) (st2:=(77777,0))
 ·have h1:=aeq ht12;refine gR ?_;exact abc (by rw [if_neg h1,if_neg h1]; exact Sub.tup (.cons (.nil _ _ _) (.cons (.refl _) .nil)))
 ·have hli:=ad1 ht12;have h8:=(ab8 hli).2.2.2.1;have hj16:l.joints.length <= 16:=by have:=(ab8 hli).2.1; unfold ase at this; split at this; cases this; omega
  have lk1:(aei l).length = l.bodies.length:=by unfold aei; rw [ale,aed]
  have lk2:(ah1 l).length = l.joints.length:=by unfold ah1; rw [ale,length_replicate]
  have e1:fdR l = .iptr (fdC l (aei l) (aa2 l) [.lst 1 ((ah1 l).map bl),.lst 4 ((ady l).map Gr.av)]):=by unfold fdR; rw [if_pos hli]
  have c1:=a3w (k:=aei l);have c2:=a3w (k:=ah1 l);refine gW (Wk.of (sl:=[(4,some (.iptr (fdC l (aei l) (aa2 l) [.lst 1 ((ah1 l).map bl),.lst 4 ((ady l).map Gr.av)]))),(5,some (ai2 (liE l)))]) (hp:=[]) (.cons rfl (Sub.of e1) (.k .nil)) .nil) ?_;refine gc (akl (aei l) false oz) ?_;refine gcG (fun _=>(akl (ah1 l) false oz)) ?_;refine gC (fun ht25=>?_) (fun ht25=>?_)
  ·have h2:ado l = 7:=by
    unfold ado;rw [if_neg];intro h;have h3:(aei l).contains false = false:=c1.1 oz;have h4:(ah1 l).contains false = false:=c2.1 oz;rw [h3,h4] at ht25; cases ht25
   refine gR ?_;exact abc (by rw [if_pos hli,if_pos hli]; unfold ack; rw [if_neg (by rw [h2]; simp),h2]; exact Sub.tup (.cons (.nil _ _ _) (.cons (.refl _) .nil)))
  ·have h2:ado l = 0:=by
    unfold ado;rw [if_pos];cases h3:(aei l).contains false <;> cases h4:(ah1 l).contains false <;> rw [h3,h4] at ht25 <;> first | (cases ht25; done) | (have g1:=c1.2 h3; have g2:=c2.2 h4; omega)
   refine gE2 ?_;rw [if_pos hli,if_pos hli,h2]; unfold ack; rw [if_pos h2]; rfl
end Go.Lw
namespace Go.Lw
open Go.Proofs
def SO (ys:List Int) (i:Nat):Prop:=∀ p q,p < q -> q < i -> ys.getD p 0 <= ys.getD q 0
def SI (ys:List Int) (i j:Nat):Prop:=∀ p q,p < q -> q <= i -> q ≠ j -> ys.getD p 0 <= ys.getD q 0
theorem bmn {xs ys:List Int} {i:Nat} (hp:ys.Perm xs) (hi:ys.length <= i) (h:SO ys i):ys = apr xs:=by
 refine bc7 hp (List.pairwise_iff_getElem.2 fun p q hp hq hpq=>?_);have h1:=h p q hpq oz;rw [aah (getElem?_eq_getElem hp),aah (getElem?_eq_getElem hq)] at h1;exact h1
theorem bps {ys:List Int} {i:Nat} (h:SO ys i):SI ys i i:=fun p q h1 h2 h3=>h p q h1 oz
theorem bpt {ys:List Int} {i j:Nat} (h:SI ys i j) (hj:j = 0 \/ ys.getD (j - 1) 0 <= ys.getD j 0):SO ys (i + 1):=by
 intro p q h1 h2
 by_cases hq:q = j
 ·subst hq;rcases hj with hj | hj
  ·omega
  ·by_cases hp:p = q - 1
   ·subst hp; exact hj
   ·exact Int.le_trans (h p (q - 1) oz oz oz) hj
 ·exact h p q h1 oz hq
theorem ay9 (ys:List Int) (i:Nat) (x:Int) (p:Nat) (hi:i < ys.length):(ys.set i x).getD p 0 = if p = i then x else ys.getD p 0:=by
 rw [getD_eq_getElem?_getD,getD_eq_getElem?_getD,List.getElem?_set]
 by_cases h:i = p
 ·subst h; simp [hi]
 ·rw [if_neg h,if_neg (fun e=>h e.symm)]
theorem bkk {ys:List Int} {i j:Nat} (h:SI ys i j) (hj:0 < j) (hi:j <= i) (hl:i < ys.length) (hlt:ys.getD j 0 < ys.getD (j - 1) 0):SI ((ys.set j (ys.getD (j - 1) 0)).set (j - 1) (ys.getD j 0)) i (j - 1):=by
 intro p q h1 h2 h3
 have e:∀ r, ((ys.set j (ys.getD (j - 1) 0)).set (j - 1) (ys.getD j 0)).getD r 0 = if r = j - 1 then ys.getD j 0 else if r = j then ys.getD (j - 1) 0 else ys.getD r 0:=fun r=>by
  rw [ay9 _ _ _ _ (by rw [length_set]; omega),ay9 _ _ _ _ oz]
 rw [e,e,if_neg h3]
 by_cases hq:q = j
 ·rw [if_pos hq]
  by_cases hp:p = j - 1
  ·rw [if_pos hp]; omega
  ·rw [if_neg hp,if_neg oz]; exact h p (j - 1) oz oz oz
 ·rw [if_neg hq]
  by_cases hp:p = j - 1
  ·rw [if_pos hp];exact h j q oz h2 hq
  ·rw [if_neg hp]
   by_cases hp2:p = j
   ·rw [if_pos hp2]; exact h (j - 1) q oz h2 hq
   ·rw [if_neg hp2]; exact h p q h1 h2 hq
theorem bbl {ys:List Int} {j:Nat} {a b:Int} (ha:ys[j]? = some a) (hb:ys[j - 1]? = some b):((ys.set j b).set (j - 1) a).Perm ys:=by
 obtain ⟨h1,rfl⟩:=List.getElem?_eq_some_iff.1 ha;obtain ⟨h2,rfl⟩:=List.getElem?_eq_some_iff.1 hb;exact List.set_set_perm h1 h2
theorem bq0 {j:Nat} {a b:Int} (h:cond (aaa .gtr (j:Int) 0) (decide (a < b)) false = true):0 < j /\ a < b:=by
 cases h1:aaa .gtr (j:Int) 0 <;> rw [h1] at h
 ·cases h
 ·exact ⟨an2 (b:=0) h1,of_decide_eq_true h⟩
theorem bqq {j:Nat} {a b:Int} (h:cond (aaa .gtr (j:Int) 0) (decide (a < b)) false = false):j = 0 \/ b <= a:=by
 cases h1:aaa .gtr (j:Int) 0 <;> rw [h1] at h
 ·have:=apu (b:=0) h1; omega
 ·have h2:decide (a < b) = false:=h;have:=of_decide_eq_false h2; omega
theorem bct (ys:List Int) (j:Nat) (a b:Int):((ys.map i64).set j (i64 b)).set (j - 1) (i64 a) = ((ys.set j b).set (j - 1) a).map i64:=by rw [map_set,map_set]
theorem aqm (a:Int):FnC prog 308 [i64 a] (bl false):=by
 refine gF0 func308 ?_;refine gE1 ?_;simp [aaa]; rfl
theorem a5f (a b:Int):FnC prog 256 [i64 a, i64 b] (bl (decide (a < b))):=by
 refine gF0 func256 ?_;refine gc (aqm a) ?_;refine gcG (fun _=>(aqm b)) ?_;refine gE1 ?_
 first | rfl | (simp; done)
theorem asg (xs:List Int) (hl:xs.length <= 12):Con prog 250 [.ms 1000 1 0 xs.length, i64 0, i64 xs.length] [(1000, some (.row 1 (xs.map i64)))] (.tup []) [(1000, some (.row 1 ((apr xs).map i64)))]:=by
 refine gF func250 (fun k z h=>aa3 h) ?_;refine ga (show _ = ((1:Nat):Int) from rfl) ?_;refine gL2 [1,2] [] (fun (ys:List Int) (i:Nat)=>[(0,some (.ms 1000 1 0 xs.length)),(6,some (i64 i))]) (fun ys _=>[(1000,some (.row 1 (ys.map i64)))]) (fun ys i=>ys.length = xs.length /\ ys.Perm xs /\ 1 <= i /\ SO ys i) (fun _ i=>xs.length + 1 - i) xs 1 ⟨rfl,.refl _,le_refl _,fun p q h1 h2=>by omega⟩ ?_;rintro ys i ⟨hyl,hyp,hi1,hso⟩ K1 hK1;refine gC (fun ht12=>?_) (fun ht12=>?_)
 ·have hin:=aa9 ht12;refine gL2 [1,2,6] [] (fun (zs:List Int) (j:Nat)=>[(0,some (.ms 1000 1 0 xs.length)),(7,some (i64 j))]) (fun zs _=>[(1000,some (.row 1 (zs.map i64)))]) (fun zs j=>zs.length = xs.length /\ zs.Perm xs /\ j <= i /\ SI zs i j) (fun _ j=>j) ys i ⟨hyl,hyp,le_refl _,bps hso⟩ ?_;rintro zs j ⟨hzl,hzp,hji,hsi⟩ K2 hK2;obtain ⟨a,ha⟩:=ab5 (show j < zs.length by omega);obtain ⟨b,hb⟩:=ab5 (show j - 1 < zs.length by omega);refine gs (acj rfl rfl rfl (fun h=>aas (n:=j) (.opt rfl (o1 h)) (.opt rfl (o1 h)) T38 rfl T3 rfl oz oz rfl)) ?_;refine gs (acj rfl rfl rfl (fun h=>aaw (.opt rfl (o1 h)) rfl (aag ha) T3 rfl rfl rfl)) ?_;refine gaG (fun h=>(ad9 (an2 (b:=0) h) (by unfold ac8; omega))) ?_;refine gs (acj rfl rfl rfl (fun h=>aas (n:=(j - 1)) (.opt rfl (o1 h)) (.opt rfl (o1 h)) T38 rfl T3 rfl oz oz rfl)) ?_;refine gs (acj rfl rfl rfl (fun h=>aaw (.opt rfl (o1 h)) rfl (aag hb) T3 rfl rfl rfl)) ?_;refine gcG (fun _=>(a5f a b)) ?_;refine gD ?_;refine gC (fun ht30=>?_) (fun ht30=>?_)
  ·obtain ⟨hj0, hab⟩:=bq0 ht30;refine ga (ad9 hj0 (by unfold ac8; omega)) ?_;refine ga (ad9 hj0 (by unfold ac8; omega)) ?_;refine gs (aas (n:=(j - 1)) (.tmp rfl) (.tmp rfl) T38 rfl T3 rfl oz oz rfl) ?_;refine gs (aaw (.tmp rfl) rfl (aag hb) T3 rfl rfl rfl) ?_;refine gs (aas (n:=j) (.tmp rfl) (.tmp rfl) T38 rfl T3 rfl oz oz rfl) ?_;refine gs (aaw (.tmp rfl) rfl (aag ha) T3 rfl rfl rfl) ?_;refine gs (aas (n:=j) (.tmp rfl) (.tmp rfl) T38 rfl T3 rfl oz oz rfl) ?_;refine gs (abb (.tmp rfl) rfl (aag ha) rfl (.tmp rfl) rfl rfl T3 rfl rfl) ?_;refine gs (aas (n:=(j - 1)) (.tmp rfl) (.tmp rfl) T38 rfl T3 rfl oz oz rfl) ?_;refine gs (abb (.tmp rfl) rfl ((List.getElem?_set_ne oz).trans (aag hb)) rfl (.tmp rfl) rfl rfl T3 rfl rfl) ?_;refine gD ?_;refine ga (ad9 hj0 (by unfold ac8; omega)) ?_;exact gK2 hK2 ((zs.set j b).set (j - 1) a) (j - 1) ⟨by rw [length_set,length_set]; exact hzl,(bbl ha hb).trans hzp,by omega,by have h9:=bkk hsi hj0 hji oz (by rw [aah ha,aah hb]; exact hab); rw [aah ha,aah hb] at h9; exact h9⟩ (hw:=Wk.of aa6 (.cons rfl (BlkSub.of (congrArg (Blk.row 1) (bct zs j a b))) .nil))
  ·have hs:=bqq ht30;refine ga aat ?_;exact gK2 hK1 zs (i + 1) ⟨hzl,hzp,by omega,bpt hsi (by rw [aah ha,aah hb]; exact hs)⟩
 ·have hin:=a7j ht12;refine gR ?_;exact Fin.own2 rfl (by rw [<- bmn hyp oz hso]) rfl
theorem a8u (xs:List Int) (hl:xs.length <= 12) (m:Int):Con prog 161 [.ms 1000 1 0 xs.length, i64 0, i64 xs.length, i64 m] [(1000, some (.row 1 (xs.map i64)))] (.tup []) [(1000, some (.row 1 ((apr xs).map i64)))]:=by
 refine gF func161 (fun k z h=>aa3 h) ?_;refine gL0 [1,2,3,8,9] [1000] [(0,some (.ms 1000 1 0 xs.length))] [] (True) (0) trivial ?_;rintro - K1 hK1;refine ga (abi oz) ?_;refine gC (fun ht23=>?_) (fun ht23=>?_) (st2:=(77777,0))
 ·refine gt (aab (asg xs hl) (ev3 rfl rfl rfl) hHa rfl rfl) ?_;refine gR ?_;exact Fin.own2 rfl rfl rfl
 ·(rw [show aaa .leq ((xs.length:Int) - 0) 12 = true from decide_eq_true oz] at ht23; cases ht23)
theorem bds (x:Nat) (hx:x < 256):FnC prog 260 [u64 x] (i64 (adh x)):=by
 refine gF0 func260 ?_;refine gC (fun ht4=>?_) (fun ht4=>?_) (st1:=(2,0))
 ·(have:=ht4; simp [aaa] at this; omega)
 ·refine gC (fun ht8=>?_) (fun ht8=>?_) (st1:=(5, 0))
  ·(have:=ht8; simp [aaa] at this; omega)
  ·refine gC (fun ht14=>?_) (fun ht14=>?_) (st1:=(8, 0))
   ·(have:=ht14; simp [aaa] at this; omega)
   ·refine gv (aoq hx) ?_;refine gs (amu (y:=x) (.const _) (.tmp rfl) T9 rfl (by kernel_rfl) (by first | rfl | omega) oz rfl) ?_;refine gv (i64_in (by have:=adu hx; omega)) ?_;refine ga (aa7 (by have:=adu hx; omega)) ?_;refine gE1 ?_;simp only [i64]; congr 2; omega
theorem a5i (x:Nat) (hx:x < 256):FnC prog 162 [u64 x] (i64 (adh x)):=by
 refine gF0 func162 ?_;refine gC (fun hcfalse=>?_) (fun hcfalse=>?_) (st1:=(1,0))
 ·cases hcfalse
 ·refine gc (bds x hx) ?_;refine gE1 ?_
  first | rfl | (simp; done)
theorem avf (xs:List Int) (hl:xs.length <= 12):Con prog 72 [.ms 1000 1 0 xs.length] [(1000, some (.row 1 (xs.map i64)))] (.tup []) [(1000, some (.row 1 ((apr xs).map i64)))]:=by
 refine gF func72 (fun k z h=>aa3 h) ?_;refine gv (show IntKind.u64.wrap _ = ((xs.length:Nat):Int) from u64_in oz) ?_;refine gc (a5i xs.length oz) ?_;refine gt (aab (a8u xs hl _) (.cons (.tmp rfl) (.cons (.const _) (ev2 rfl rfl))) hHa rfl rfl) ?_;refine gR ?_;exact Fin.own2 rfl rfl rfl
end Go.Lw
namespace Go.Lw
open Go.Proofs
theorem bld {l:Li} {g:Gr} {i:Nat} {z:Int} {j:Jt} (hz:g.joints[i]? = some z) (hj:l.joints[z.toNat]? = some j):(ajx l g)[i]? = some (anc g j):=by
 unfold ajx; rw [getElem?_map,hz,Option.map_some,aah hj]
theorem ap6 {l:Li} {g:Gr} {i:Nat} {z:Int} {j:Jt} {a:Int} (hz:g.joints[i]? = some z) (hj:l.joints[z.toNat]? = some j) (ha:anc g j = a):((ajx l g).take i).map i64 ++ [i64 a] = ((ajx l g).take (i + 1)).map i64:=by
 rw [aaj (bld hz hj),ha,map_append]; rfl
theorem bf8 {z:Int} {n:Nat} (h0:0 <= z) (h1:z < n):cond (aaa .lss z 0) true (aaa .geq z (n:Int)) = false:=by
 rw [show aaa .lss z 0 = false from decide_eq_false oz];exact decide_eq_false oz
theorem a0g (l:Li) (hl:l.ok) (hli:liE l = 0) (g:Gr) (hg:GrOk l g):Con prog 71 [l.av, g.av] [] (.tup [.ms 900 1 0 g.joints.length, .v .nilIface]) [(900, some (.row 1 ((ajx l g).map i64)))]:=by
 have hlb:=hg.lb;have hlj:=hg.lj;refine gF func71 (fun k z h=>by cases h) ?_;refine gc (am4 l hl) ?_;refine gC (fun ht16=>?_) (fun ht16=>?_) (st1:=(3,0))
 ·(rw [hli] at ht16; cases ht16)
 ·refine gl ?_;refine gW ((Wk.virt 900 1 rfl).trans <| Wk.of (sl:=[(2,some (.ptr 2 0)),(3,some (.ptr 3 0)),(7,some (.ms 900 1 0 0)),(19,some (.lst 1 (g.joints.map i64))),(20,some (i64 g.joints.length)),(21,some (i64 0))]) (hp:=[(2,some (.box l.av.cells)),(3,some (.box g.av.cells)),(900,some (.row 1 []))]) (.k (.k (.cons rfl (Sub.nilMs _ _ _) (.k (.k (.k .nil)))))) (.k (.k (.k .nil)))) ?_;refine gL1 [2,3,19,20] [2,3] (fun (i:Nat)=>[(7,some (.ms 900 1 0 i)),(21,some (i64 i))]) (fun i=>[(900,some (.row 1 (((ajx l g).take i).map i64)))]) (fun i=>i <= g.joints.length) (fun i=>g.joints.length - i) 0 (zero_le _) ?_;rintro i hi K1 hK1;refine gC (fun ht22=>?_) (fun ht22=>?_) (st2:=(18,0))
  ·have hin:=aa9 ht22;obtain ⟨z,hz⟩:=ab5 hin;obtain ⟨z0,z1⟩:=hg.j z (mem_of_getElem? hz);obtain ⟨j,hj⟩:∃ j,l.joints[z.toNat]? = some j:=ab5 oz;have hlt:(((ajx l g).take i).map i64).length = i:=by rw [length_map,length_take,ah8]; omega
   refine gi (aag hz) ?_;refine glG ?_;refine gC (fun ht33=>?_) (fun ht33=>?_) (st1:=(9,0))
   ·(rw [bf8 z0 z1] at ht33; cases ht33)
   ·refine gi (afj (n:=z.toNat) oz hj) ?_;refine gc (alz g.bodies j.a oz) ?_;refine gc (alz g.bodies j.b oz) ?_;refine gD ?_;refine gC (fun ht55=>?_) (fun ht55=>?_)
    ·have ha : anc g j = -1 := by unfold anc; cases h1 : g.bodies.contains j.a <;> cases h2 : g.bodies.contains j.b <;> rw [h1, h2] at ht55 <;> first | (cases ht55; done) | rfl
     refine gs (aa0 (.tmp rfl) rfl hlt.symm (.tmp rfl) T38 rfl T3 rfl rfl (by simp only [length_cons,length_nil]; omega) rfl rfl) ?_ (17,0);refine gW (Wk.of (sl:=[(2,some (.ptr 2 0)),(3,some (.ptr 3 0)),(7,some (.ms 62 1 0 (i + 1))),(19,some (.lst 1 (g.joints.map i64))),(20,some (i64 g.joints.length)),(21,some (i64 i))]) (hp:=[(2,some (.box l.av.cells)),(3,some (.box g.av.cells)),(62,some (.row 1 (((ajx l g).take (i + 1)).map i64)))]) aa6 (.k (.k (.cons rfl (BlkSub.of (congrArg (Blk.row 1) (ap6 hz hj ha))) .nil)))) ?_ (17,0);refine gW (Wk.rekey (k:=62) (d:=900) rfl rfl) ?_;refine ga aat ?_;exact gK1 hK1 (i + 1) hin
    ·refine gC (fun ht63=>?_) (fun ht63=>?_)
     ·have ha : anc g j = j.b := by unfold anc; cases h1 : g.bodies.contains j.a <;> cases h2 : g.bodies.contains j.b <;> rw [h1] at ht63 <;> rw [h1, h2] at ht55 <;> first | (cases ht55; done) | (cases ht63; done) | rfl
      refine gs (aa0 (.tmp rfl) rfl hlt.symm (.tmp rfl) T38 rfl T3 rfl rfl (by simp only [length_cons,length_nil]; omega) rfl rfl) ?_ (17,0);refine gW (Wk.of (sl:=[(2,some (.ptr 2 0)),(3,some (.ptr 3 0)),(7,some (.ms 69 1 0 (i + 1))),(19,some (.lst 1 (g.joints.map i64))),(20,some (i64 g.joints.length)),(21,some (i64 i))]) (hp:=[(2,some (.box l.av.cells)),(3,some (.box g.av.cells)),(69,some (.row 1 (((ajx l g).take (i + 1)).map i64)))]) aa6 (.k (.k (.cons rfl (BlkSub.of (congrArg (Blk.row 1) (ap6 hz hj ha))) .nil)))) ?_ (17,0);refine gW (Wk.rekey (k:=69) (d:=900) rfl rfl) ?_;refine ga aat ?_;exact gK1 hK1 (i + 1) hin
     ·have ha : anc g j = j.a := by unfold anc; rw [if_neg (by rw [show g.bodies.contains j.a = false from ht63]; simp)]
      refine gs (aa0 (.tmp rfl) rfl hlt.symm (.tmp rfl) T38 rfl T3 rfl rfl (by simp only [length_cons,length_nil]; omega) rfl rfl) ?_ (17,0);refine gW (Wk.of (sl:=[(2,some (.ptr 2 0)),(3,some (.ptr 3 0)),(7,some (.ms 54 1 0 (i + 1))),(19,some (.lst 1 (g.joints.map i64))),(20,some (i64 g.joints.length)),(21,some (i64 i))]) (hp:=[(2,some (.box l.av.cells)),(3,some (.box g.av.cells)),(54,some (.row 1 (((ajx l g).take (i + 1)).map i64)))]) aa6 (.k (.k (.cons rfl (BlkSub.of (congrArg (Blk.row 1) (ap6 hz hj ha))) .nil)))) ?_ (17,0);refine gW (Wk.rekey (k:=54) (d:=900) rfl rfl) ?_;refine ga aat ?_;exact gK1 hK1 (i + 1) hin
  ·have hin:=aan hi ht22;subst hin;refine gW (Wk.of (sl:=[(7,some (.ms 900 1 0 g.joints.length))]) (hp:=[(900,some (.row 1 ((ajx l g).map i64)))]) aa6 (.cons rfl (BlkSub.of (by rw [take_of_length_le (by rw [ah8]; exact le_refl _)])) .nil)) ?_;refine gR ?_;exact Fin.keep (abt rfl)
end Go.Lw
namespace Go.Lw
open Go.Proofs
end Go.Lw
namespace Go.Lw
open Go.Proofs
section
variable {ts:LL} {u k:Nat} {a b a2 b2:List Rat} {x y x2 y2:Et ts} {w v w' v' w2 v2 w3 v3:Nat}
theorem ass (c:Ct ts u k) (h:w + v + (w' + v') <= 10000):w * u + v * k + (w' * u + v' * k) + 1 <= lm ts.length:=by
 have h1:=bhh c (w:=w + w') (v:=v + v') (m:=10000) oz;have h2:=apw ts.length;rw [a3h]; omega
theorem blm (c:Ct ts u k) (h:w + v <= 10000):w * u + v * k <= lm ts.length:=bq5 c h
theorem a5b (c:Ct ts u k) {R:Nat} (h:eB R ts.length <= k):2 * (2500 * 1000000 + 2500 * 1000000 + kB R ts.length) <= lm ts.length:=by
 have h1:=c.kk h;have h2:=apw ts.length;omega
theorem bph [c : Ct ts u k] [ha : Zl ts u k a x w v] [hb : Zl ts u k b y w' v'] (h : w + v + (w' + v') <= 10000 := by decide) : FnC prog 274 [aa5 ts, nA a, nA b] (.tup [nA (sX (x + y)), .v .nilIface]) := by
 obtain ⟨R,tw,hk⟩:=c.ex;have h0:=ass c h;have h1:=a8i tw ha.nm hb.nm oz;rw [ha.eq,hb.eq] at h1;exact h1
theorem bnk [c : Ct ts u k] [ha : Zl ts u k a x w v] [hb : Zl ts u k b y w' v'] (h : w + v + (w' + v') <= 10000 := by decide) : FnC prog 147 [aa5 ts, nA a, nA b] (.tup [nA (sX (x - y)), .v .nilIface]) := by
 obtain ⟨R,tw,hk⟩:=c.ex;have h0:=ass c h;have h1:=ar1 tw ha.nm hb.nm oz;rw [ha.eq,hb.eq] at h1;exact h1
theorem bnb [c : Ct ts u k] [ha : Zl ts u k a x w v] [hb : Zl ts u k b y w' v'] (h : w + v + (w' + v') <= 10000 := by decide) : FnC prog 148 [aa5 ts, nA a, nA b] (.tup [nA (sX (x * y)), .v .nilIface]) := by
 obtain ⟨R,tw,hk⟩:=c.ex;have h0:=ass c h;have h1:=baq tw ha.nm hb.nm oz;rw [ha.eq,hb.eq] at h1;exact h1
theorem a0a [c : Ct ts u k] [ha : Zl ts u k a x w v] [hb : Zl ts u k b y w' v'] (h : w + v + (w' + v') <= 10000 := by decide) : FnC prog 112 [aa5 ts, nA a, nA b] (nA (sX (x + y))) := by
 obtain ⟨R,tw,hk⟩:=c.ex;have h0:=ass c h;have h1:=air tw ha.nm hb.nm oz;rw [ha.eq,hb.eq] at h1;exact h1
theorem amy [c : Ct ts u k] [ha : Zl ts u k a x w v] [hb : Zl ts u k b y w' v'] (h : w + v + (w' + v') <= 10000 := by decide) : FnC prog 110 [aa5 ts, nA a, nA b] (nA (sX (x - y))) := by
 obtain ⟨R,tw,hk⟩:=c.ex;have h0:=ass c h;have h1:=af0 tw ha.nm hb.nm oz;rw [ha.eq,hb.eq] at h1;exact h1
theorem ahx [c : Ct ts u k] [ha : Zl ts u k a x w v] [hb : Zl ts u k b y w' v'] (h : w + v + (w' + v') <= 10000 := by decide) : FnC prog 111 [aa5 ts, nA a, nA b] (nA (sX (x * y))) := by
 obtain ⟨R,tw,hk⟩:=c.ex;have h0:=ass c h;have h1:=acr tw ha.nm hb.nm oz;rw [ha.eq,hb.eq] at h1;exact h1
theorem bcr [c : Ct ts u k] [ha : Zl ts u k a x w v] [hb : Zl ts u k b y w' v'] (h : w + v + (w' + v') <= 10000 := by decide) : FnC prog 20 [aa5 ts, nA a, nA b] (bl (eqE x y)) := by
 obtain ⟨R,tw,hk⟩:=c.ex;have h0:=ass c h;have h1:=aet tw ha.nm hb.nm oz;rw [ha.eq,hb.eq] at h1;exact h1
theorem agy [c : Ct ts u k] [ha : Zl ts u k a x w v] (h : w + v <= 10000 := by decide) : FnC prog 19 [aa5 ts, nA a] (i64 (sgE x)) := by
 obtain ⟨R,tw,hk⟩:=c.ex;have h0:=blm c h;have h1:=atp tw ha.nm oz;rw [ha.eq] at h1;exact h1
theorem apd [c : Ct ts u k] [ha : Zl ts u k a x w v] [hb : Zl ts u k b y w' v'] [ha2 : Zl ts u k a2 x2 w2 v2] [hb2 : Zl ts u k b2 y2 w3 v3] (h : w + v + (w' + v') + (w2 + v2 + (w3 + v3)) <= 2500 := by decide) :
  FnC prog 38 [aa5 ts,ptA a b,ptA a2 b2] (ptA (sX (x - x2)) (sX (y - y2))):=by
 obtain ⟨R,tw,hk⟩:=c.ex;have h0:=a5b c hk;have h1:=aka (e:=2500 * 1000000) tw (ha.up c oz) (hb.up c oz) (ha2.up c oz) (hb2.up c oz) oz;rw [ha.eq,hb.eq,ha2.eq,hb2.eq] at h1;exact h1
theorem a34 [c : Ct ts u k] [ha : Zl ts u k a x w v] [hb : Zl ts u k b y w' v'] [ha2 : Zl ts u k a2 x2 w2 v2] [hb2 : Zl ts u k b2 y2 w3 v3] (h : w + v + (w' + v') + (w2 + v2 + (w3 + v3)) <= 2500 := by decide) :
  FnC prog 101 [aa5 ts,ptA a b,ptA a2 b2] (nA (sX (dotE x y x2 y2))):=by
 obtain ⟨R,tw,hk⟩:=c.ex;have h0:=a5b c hk;have h1:=asa (e:=2500 * 1000000) tw (ha.up c oz) (hb.up c oz) (ha2.up c oz) (hb2.up c oz) oz;rw [ha.eq,hb.eq,ha2.eq,hb2.eq] at h1;exact h1
theorem a12 [c : Ct ts u k] [ha : Zl ts u k a x w v] [hb : Zl ts u k b y w' v'] [ha2 : Zl ts u k a2 x2 w2 v2] [hb2 : Zl ts u k b2 y2 w3 v3] (h : w + v + (w' + v') + (w2 + v2 + (w3 + v3)) <= 2500 := by decide) :
  FnC prog 102 [aa5 ts,ptA a b,ptA a2 b2] (nA (sX (crsE x y x2 y2))):=by
 obtain ⟨R,tw,hk⟩:=c.ex;have h0:=a5b c hk;have h1:=aqi (e:=2500 * 1000000) tw (ha.up c oz) (hb.up c oz) (ha2.up c oz) (hb2.up c oz) oz;rw [ha.eq,hb.eq,ha2.eq,hb2.eq] at h1;exact h1
theorem bgr [c : Ct ts u k] [ha : Zl ts u k a x w v] [hb : Zl ts u k b y w' v'] [ha2 : Zl ts u k a2 x2 w2 v2] [hb2 : Zl ts u k b2 y2 w3 v3] (h : w + v + (w' + v') + (w2 + v2 + (w3 + v3)) <= 2500 := by decide) :
  FnC prog 64 [aa5 ts,ptA a b,ptA a2 b2] (.tup [nA (sX (dotE x y x2 y2)),.v .nilIface]):=by
 obtain ⟨R,tw,hk⟩:=c.ex;have h0:=a5b c hk;have h1:=al7 (e:=2500 * 1000000) tw (ha.up c oz) (hb.up c oz) (ha2.up c oz) (hb2.up c oz) oz;rw [ha.eq,hb.eq,ha2.eq,hb2.eq] at h1;exact h1
def atXE (c s X:Et ts) (p q:Rat):Et ts:=(c * qE p - s * qE q) + X
def atYE (c s Y:Et ts) (p q:Rat):Et ts:=(s * qE p + c * qE q) + Y
instance Zu.atXE [c:Ct ts u k] {x y z:Et ts} {p q:Rat} {w1 v1 w2 v2 w3 v3 w4 w5:Nat} [Zu u k x w1 v1] [Zu u k y w2 v2] [Zu u k z w3 v3] [Qz u p w4] [Qz u q w5]:Zu u k (atXE x y z p q) (w1 + w4 + (w2 + w5) + w3) (v1 + 0 + 1 + (v2 + 0 + 1) + 1 + v3 + 1) :=
  (inferInstance:Zu u k ((x * Lw.qE p - y * Lw.qE q) + z) _ _)
instance Zu.atYE [c:Ct ts u k] {x y z:Et ts} {p q:Rat} {w1 v1 w2 v2 w3 v3 w4 w5:Nat} [Zu u k x w1 v1] [Zu u k y w2 v2] [Zu u k z w3 v3] [Qz u p w4] [Qz u q w5]:Zu u k (atYE x y z p q) (w2 + w4 + (w1 + w5) + w3) (v2 + 0 + 1 + (v1 + 0 + 1) + 1 + v3 + 1) :=
  (inferInstance:Zu u k ((y * Lw.qE p + x * Lw.qE q) + z) _ _)
end
end Go.Lw
namespace Go.Lw
open Go.Proofs
abbrev svC (l:Li) (g:Gr) (a:As):List AV:=[.v (.string l.name), .lst 2 (l.bodies.map Bd.av), .lst 7 (l.joints.map Jt.av), .lst 2 (l.drivers.map Dr.av), i64 g.kind, .lst 1 (g.bodies.map i64), .lst 1 (g.joints.map i64), i64 g.driver,
  .lst 1 (a.rs.map nR),.lst 4 (a.bs.map Pl.av),.lst 1 (a.ms.map i64),.v .nilIface]
abbrev svB (l:Li) (g:Gr) (a:As):Blk:=.box (svC l g a)
def dyR (e:Nat):AV:=if e = 0 then .ptr 900 0 else .v (.pointer none)
def dyH (e:Nat) (l:Li) (g:Gr) (a:As):Hp:=if e = 0 then [(900,some (svB l g a))] else []
theorem a0v {e:Nat} (h:e ≠ 0):dyR e = .v (.pointer none):=if_neg h
theorem az3 {e:Nat} {l:Li} {g:Gr} {a:As} (h:e ≠ 0):dyH e l g a = []:=if_neg h
theorem bf1 (l:Li) (g:Gr):ndL l g true = ajx l g ++ g.bodies:=rfl
theorem bao (l:Li) (g:Gr):ndL l g false = ajx l g:=by unfold ndL; simp
theorem bh7 {rs:List (List Rt)} {b:Pl} {i:Nat} {x:List Rt} (h:aer rs = 0) (hx:b.l[i]? = some x) (hb:∀ y ∈ b.l.take i,aic rs.length y = 0) (hn:aic rs.length x ≠ 0):abh rs b.l = aic rs.length x:=ava h hx hb hn
theorem bnv {l:Li} {g:Gr} {a:As} {own:Bool} {j:Nat} {b:Int} (hb:(apr (ndL l g own))[j]? = some b) (hj:∀ c ∈ (apr (ndL l g own)).take j, ndE a c = 0) (hn:ndE a b ≠ 0):adi ((apr (ndL l g own)).map (ndE a)) = ndE a b:=by
 have h1:apr (ndL l g own) = (apr (ndL l g own)).take j ++ b :: (apr (ndL l g own)).drop (j + 1):=by
  obtain ⟨hi,e⟩:=List.getElem?_eq_some_iff.1 hb;rw [<- e,<- List.drop_eq_getElem_cons hi,List.take_append_drop]
 generalize apr (ndL l g own) = xs at *;rw [h1,map_append,ain _ _ (af7 hj),map_cons,amd,if_pos hn]
theorem ayx (l:Li) (hl:l.ok) (k:Int) (a:As) (al:AL a) (own:Bool) :
  Con prog 23 [l.av,i64 k,a.av,bl own] [] (.tup [dyR (dyE l k a own),ai2 (dyE l k a own)]) (dyH (dyE l k a own) l (gAt l k) a):=by
 have hbl:=al.bl;refine gF func23 (fun k z h=>by cases h) ?_;refine gc (a79 l hl) ?_;refine gC (fun ht27=>?_) (fun ht27=>?_)
 ·have h1:=aeq ht27;refine gR ?_;rw [brn rfl h1,a0v h1,az3 h1];exact ajj rfl
 ·have h1:=ad1 ht27;obtain ⟨hli,hsp⟩:=bpu h1;rw [show (if liE l = 0 then ack l else []) = ack l from if_pos hli];have hbs:=(ab8 hli).2.2.2.1;have hgl:=(am2 hli).2;have hsg:ack l = ady l:=by unfold ack; rw [if_pos hsp]
  refine glG ?_;refine gC (fun ht36=>?_) (fun ht36=>?_)
  ·have h2:=bl5 ht36;have he:dyE l k a own = 9:=(bk3 hli).trans (brf hsp h2);refine gR ?_;rw [he,a0v (by decide),az3 (by decide)];exact ajj rfl
  ·have h2:=bov ht36;refine gl ?_;refine gl ?_;refine gC (fun ht44=>?_) (fun ht44=>?_)
   ·have h3:=bgh ht44;have he:dyE l k a own = 10:=(bk3 hli).trans (brd hsp h2 h3);refine gR ?_;rw [he,a0v (by decide),az3 (by decide)];exact ajj rfl
   ·have h3:=bgi ht44;refine gc (afe a.rs 40000 al.tr) ?_;refine gC (fun ht50=>?_) (fun ht50=>?_)
    ·have h4:=aeq ht50;refine gR ?_;rw [(bk3 hli).trans (bre hsp h2 h3 h4),a0v h4,az3 h4];exact ajj rfl
    ·have h4:=ad1 ht50;obtain ⟨i,rfl,hi⟩:=bgv h2;obtain ⟨g,hg⟩:=ab5 hi;obtain ⟨hgd,hgo⟩:=aso hli (mem_of_getElem? hg);have hgA:gAt l (i:Nat) = g:=aah hg;rw [hgA];have he5:dyE l (i:Nat) a own = adi ((apr (ndL l g own)).map (ndE a)):=by rw [<- hgA]; exact (bk3 hli).trans (bra hsp h2 h3 h4)
     have hnl:(ndL l g own).length <= 5:=bo8 hgo;have hgb:=hgo.lb;have hgj:=hgo.lj;refine gi (aag hg) ?_;refine gt (aab (a0g l hl hli g hgo) (ev2 rfl rfl) hHa rfl rfl) ?_;refine gD ?_;refine gC (fun ht62=>?_) (fun ht62=>?_) (st1:=(13,0))
     ·cases ht62
     ·refine gJ0 [1, 4, 6, 10] [4, 6] [(13, some (.ms 900 1 0 (ndL l g own).length))] [(900, some (.row 1 ((ndL l g own).map i64)))] (True) ?_ ?_
      ·intro K1 hK1;refine gC (fun ht64=>?_) (fun ht64=>?_)
       ·have ho:own = true:=ht64;subst ho;refine gi (aag hg) ?_;refine gs (aa0 (.tmp rfl) rfl (by rw [length_map,ah8]) (.tmp rfl) T38 rfl T3 rfl rfl (by simp only [length_map]; omega) rfl rfl) ?_;exact jK0 hK1 trivial (hw:=(Wk.of (sl:=[(1,some (i64 i)),(4,some (.ptr 4 0)),(6,some (.ptr 6 0)),(10,some (.lst 4 ((ack l).map Gr.av))),(13,some (.ms 71 1 0 (ndL l g true).length))]) (hp:=[(4,some (.box l.av.cells)),(6,some (.box a.av.cells)),(71,some (.row 1 ((ndL l g true).map i64)))]) (.k (.k (.k (.k (.cons rfl (Sub.of (by rw [bf1,length_append,ah8,length_map])) .nil))))) (.k (.k (.cons rfl (BlkSub.of (by rw [bf1,map_append])) .nil)))).trans <| (Wk.rekey (k:=71) (d:=900) rfl rfl).trans <| Wk.o)
       ·have ho:own = false:=ht64;subst ho;exact jK0 hK1 trivial (hw:=Wk.of (.cons rfl (Sub.of (by rw [bao,ah8])) (.k (.k (.k (.k .nil))))) (.cons rfl (BlkSub.of (by rw [bao])) (.k (.k .nil))))
      ·rintro -;refine gt (aab (Con.rekey 900 rfl rfl (avf (ndL l g own) oz)) (ev1 rfl) hHa rfl rfl) ?_ (17,0);refine gW ((Wk.freeze (k:=900) rfl).trans <| Wk.of (sl:=[(1,some (i64 i)),(4,some (.ptr 4 0)),(6,some (.ptr 6 0)),(10,some (.lst 4 ((ack l).map Gr.av))),(13,some (.lst 1 ((apr (ndL l g own)).map i64)))]) (hp:=[(4,some (.box l.av.cells)),(6,some (.box a.av.cells))]) (.k (.k (.k (.k (.cons rfl (Sub.of (abq (by rw [length_map,a9t]))) .nil))))) (.k (.k .nil))) ?_;refine gl ?_;refine gL1 [1,4,6,10,74,75] [4,6] (fun (j:Nat)=>[(76,some (i64 j))]) (fun _=>[]) (fun j=>j <= (apr (ndL l g own)).length /\ ∀ b ∈ (apr (ndL l g own)).take j,ndE a b = 0) (fun j=>(apr (ndL l g own)).length - j) 0 ⟨zero_le _,fun b hb=>by simp at hb⟩ ?_;rintro j ⟨hj,hjz⟩ K2 hK2;refine gC (fun ht77=>?_) (fun ht77=>?_)
       ·have hjn:=aa9 ht77;obtain ⟨b,hb⟩:=ab5 hjn;have hbm:=aol.1 (mem_of_getElem? hb);have hbr:=a8o hli hgo b hbm;have hsl:(apr (ndL l g own)).length <= 5:=by rw [a9t]; exact hnl
        refine gi (aag hb) ?_;refine gC (fun ht81=>?_) (fun ht81=>?_)
        ·have hz : ndE a b = 0 := by unfold ndE; rw [if_pos (by simpa [aaa] using ht81)]
         refine ga aat ?_;exact gK1 hK2 (j + 1) ⟨hjn,fun c hc=>by rw [aaj hb] at hc; rcases List.mem_append.1 hc with h9 | h9; exact hjz c h9; (rw [List.mem_singleton.1 h9]; exact hz)⟩
        ·have hb0 : 0 <= b := by have := of_decide_eq_false (p := b < 0) ht81; omega
         obtain ⟨p,hp⟩:=ab5 (l:=a.bs) (i:=b.toNat) oz;have hpn:=al.nr p (mem_of_getElem? hp);have hnd:ndE a b = abh a.rs p.l:=by unfold ndE; rw [if_neg oz,aah hp]
         refine gi (afj (n:=b.toNat) oz hp) ?_;refine ge rfl ?_;refine gL1 [1,4,6,10,74,75,76,95,96] [4,6] (fun (q:Nat)=>[(97,some (i64 q))]) (fun _=>[]) (fun q=>q <= 4 /\ ∀ x ∈ p.l.take q,aic a.rs.length x = 0) (fun q=>4 - q) 0 ⟨zero_le _,fun x hx=>by simp at hx⟩ ?_;rintro q ⟨hq,hqz⟩ K3 hK3;refine gC (fun ht98=>?_) (fun ht98=>?_)
         ·have hqn:q < 4:=aa9 (b:=4) ht98;obtain ⟨x,hx⟩:∃ x,p.l[q]? = some x:=ab5 (show q < p.l.length from hqn);have hxn:=hpn x (mem_of_getElem? hx);have hone:abh a.rs [x] = aic a.rs.length x:=a17 h4;refine gi (aag hx) ?_;refine gc (ar9 a.rs 40000 al.tr x 4000 hxn (bly _)) ?_;refine gC (fun ht109=>?_) (fun ht109=>?_)
          ·have h5:=aeq ht109;rw [hone] at h5 ⊢;have h6:ndE a b = aic a.rs.length x:=hnd.trans (bh7 h4 hx hqz h5);have h7:dyE l (i:Nat) a own = aic a.rs.length x:=by rw [he5,bnv hb hjz (by rw [h6]; exact h5),h6]
           refine gR ?_;rw [h7,a0v h5,az3 h5];exact ajj rfl
          ·have h5:=ad1 ht109;rw [hone] at h5;refine ga aat ?_;exact gK1 hK3 (q + 1) ⟨hqn,fun z hz=>by rw [aaj hx] at hz; rcases List.mem_append.1 hz with h9 | h9; exact hqz z h9; (rw [List.mem_singleton.1 h9]; exact h5)⟩
         ·have hqn:q = 4:=aan (b:=4) hq ht98;subst hqn;have hqz:∀ x ∈ p.l,aic a.rs.length x = 0:=hqz;refine ga aat ?_;exact gK1 hK2 (j + 1) ⟨hjn,fun c hc=>by rw [aaj hb] at hc; rcases List.mem_append.1 hc with h9 | h9; exact hjz c h9; (rw [List.mem_singleton.1 h9,hnd]; exact aog h4 hqz)⟩
       ·have hjn:=aan hj ht77
        have h8:dyE l (i:Nat) a own = 0:=by
         rw [he5];exact af7 (fun b hb=>hjz b (by rw [hjn,take_length]; exact hb))
        refine gi (aag hg) ?_;refine gD ?_ (77777,0);refine gW (Wk.o (sl:=[(8,some (.ptr 120 0)),(9,some (.v .nilIface))]) (hp:=[(120,some (svB l g a))])) ?_ (77777,0);refine gW (Wk.rekey (k:=120) (d:=900) rfl rfl) ?_;refine gR ?_;rw [h8];exact Fin.keep (abt rfl)
end Go.Lw
namespace Go.Lw
open Go.Proofs
theorem aq2 {ts:LL} {r e:Nat} (tw:Tw ts r) {a b c d:List Rat} (ha:Nm ts.length e a) (hb:Nm ts.length e b) (hc:Nm ts.length e c) (hd:Nm ts.length e d) (he:2 * e <= lm ts.length) :
  FnC prog 60 [aa5 ts,ptA a b,ptA c d] (.tup [ptA (sh ts.length (subT ts (dec ts.length a) (dec ts.length c))) (sh ts.length (subT ts (dec ts.length b) (dec ts.length d))),.v .nilIface]):=by
 refine gF0 func60 ?_;refine gc (adp (e:=e) tw [(a,b),(c,d)] (by simp only [mem_cons,not_mem_nil,or_false]; rintro p (rfl | rfl); exact ⟨ha,hb⟩; exact ⟨hc,hd⟩) oz (by simp)) ?_;refine gC (fun ht16=>?_) (fun ht16=>?_) (st1:=(3,0))
 ·cases ht16
 ·refine gt (aab (Con.rekeyB 21 rfl rfl rfl rfl (at3 tw ha hb hc hd he)) (ev3 rfl rfl rfl) hHa rfl rfl) ?_;refine gt (aab (Con.rekeyB 21 rfl rfl rfl rfl (ajc _ _ _)) (ev2 rfl rfl) hHa rfl rfl) ?_;refine gE2 ?_;rfl
theorem aje {ts:LL} {r e:Nat} (tw:Tw ts r) {a b c d:List Rat} (ha:Nm ts.length e a) (hb:Nm ts.length e b) (hc:Nm ts.length e c) (hd:Nm ts.length e d) (he:2 * (e + e + kB r ts.length) <= lm ts.length) :
  FnC prog 61 [aa5 ts,ptA a b,ptA c d] (.tup [nA (sh ts.length (ao8 ts (dec ts.length a) (dec ts.length b) (dec ts.length c) (dec ts.length d))),.v .nilIface]):=by
 refine gF0 func61 ?_;refine gc (Con.subA (.cons (.refl _) (.cons (.refl _) (.cons (.refl _) (.cons (Sub.fn0 _) .nil)))) (aj6 tw ha hb hc hd oz _ _ (a00 tw ha hb hc hd he))) ?_;refine gE2 ?_
 first | rfl | (simp; done)
section
variable {ts:LL} {u k:Nat} {a b a2 b2:List Rat} {x y x2 y2:Et ts} {w v w' v' w2 v2 w3 v3:Nat}
theorem a72 [c : Ct ts u k] [ha : Zl ts u k a x w v] [hb : Zl ts u k b y w' v'] [ha2 : Zl ts u k a2 x2 w2 v2] [hb2 : Zl ts u k b2 y2 w3 v3] (h : w + v + (w' + v') + (w2 + v2 + (w3 + v3)) <= 2500 := by decide) :
  FnC prog 60 [aa5 ts,ptA a b,ptA a2 b2] (.tup [ptA (sX (x - x2)) (sX (y - y2)),.v .nilIface]):=by
 obtain ⟨R,tw,hk⟩:=c.ex;have h0:=a5b c hk;have h1:=aq2 (e:=2500 * 1000000) tw (ha.up c oz) (hb.up c oz) (ha2.up c oz) (hb2.up c oz) oz;rw [ha.eq,hb.eq,ha2.eq,hb2.eq] at h1;exact h1
theorem bcq [c : Ct ts u k] [ha : Zl ts u k a x w v] [hb : Zl ts u k b y w' v'] [ha2 : Zl ts u k a2 x2 w2 v2] [hb2 : Zl ts u k b2 y2 w3 v3] (h : w + v + (w' + v') + (w2 + v2 + (w3 + v3)) <= 2500 := by decide) :
  FnC prog 61 [aa5 ts,ptA a b,ptA a2 b2] (.tup [nA (sX (crsE x y x2 y2)),.v .nilIface]):=by
 obtain ⟨R,tw,hk⟩:=c.ex;have h0:=a5b c hk;have h1:=aje (e:=2500 * 1000000) tw (ha.up c oz) (hb.up c oz) (ha2.up c oz) (hb2.up c oz) oz;rw [ha.eq,hb.eq,ha2.eq,hb2.eq] at h1;exact h1
end
end Go.Lw
namespace Go.Lw
variable {P:Program} {N:Nat} {R:Array Oper} {s:AS}
theorem aaf {d f k:Nat} {bx:Blk} {args:Array Operand} {ts:Array TypeId} {xs:List AV} {r:AV} {t:TypeId} {pos:String} {after:Array Edge}
  (hcon:Con P f xs [(k,some bx)] r [(k,some bx)]) (ha:EvL s args.toList xs) (hk:s.blk k = some bx) (hok:aga s [(k,some bx)] [(k,some bx)] r = true) (hN:Nat.blt d N = true) :
  Step P N R s ⟨some d,.call ⟨.value (.func f),args,ts⟩,t,pos,after,none⟩ ⟨some r,[],rtL args.toList,[k]⟩:=by
 refine Step.weaken (aab (d:=d) hcon ha (fun k' z h=>by
  obtain ⟨rfl,h9⟩:=aez h;cases h9; exact hk) hok hN) (fun s' h=>h) (fun s' h k' hk'=>?_) (fun s' h=>?_)
 ·left;simp only [map_append,an0,map_cons,List.map_nil,mem_append,mem_cons,not_mem_nil,or_false] at hk' ⊢;rcases hk' with h9 | h9 <;> exact h9
 ·intro C m a w hr;refine ⟨m,hr.weak (fun t x hx=>⟨x,hx,.refl _⟩) (fun k' x hx=>⟨x,?_,.refl _⟩)⟩;have hb:lk s'.hp k = some bx:=(h.2 k (List.mem_singleton.2 rfl)).trans hk;show lk ([(k,some bx)] ++ an0 [(k,some bx)] ++ s'.hp) k' = some x;have hx':lk s'.hp k' = some x:=hx;simp only [an0,map_cons,List.map_nil,List.cons_append,nil_append,aad]
  by_cases e:k' = k
  ·rw [if_pos e]; rw [e,hb] at hx'; exact hx'
  ·rw [if_neg e,if_neg e]; exact hx'
theorem as2 {k1 k2 k':Nat} {x y:Option Blk} {z:Blk} (h:lk [(k1, x), (k2, y)] k' = some z):(k' = k1 /\ x = some z) \/ (k' ≠ k1 /\ k' = k2 /\ y = some z):=by
 rw [aad] at h
 by_cases e:k' = k1
 ·rw [if_pos e] at h; exact .inl ⟨e,h⟩
 ·rw [if_neg e] at h;obtain ⟨h1,h2⟩:=aez h;exact .inr ⟨e,h1,h2⟩
theorem azj {k1 k2:Nat} {x y:Option Blk}:lk [(k1,x),(k2,y)] k1 = x:=by rw [aad,if_pos rfl]
theorem azd {k1 k2:Nat} {x y:Option Blk} (h:k1 ≠ k2):lk [(k1,x),(k2,y)] k2 = y:=by rw [aad,if_neg (fun e=>h e.symm),aad,if_pos rfl]
theorem a92 {k1 k2:Nat} (hne:k1 ≠ k2) {x y:Blk} {m:Nat -> Option Nat} {b:Nat}:Own [(k1, some x), (k2, some y)] m b ↔ m k1 = some b \/ m k2 = some b:=by
 constructor
 ·rintro ⟨k', z, hz, hb⟩;rcases as2 hz with ⟨e,_⟩ | ⟨_,e,_⟩
  ·exact .inl (e ▸ hb)
  ·exact .inr (e ▸ hb)
 ·rintro (h | h)
  ·exact ⟨k1,x,azj,h⟩
  ·exact ⟨k2,y,azd hne,h⟩
theorem a2g {k1 k2 d1 d2:Nat} (hk:k1 ≠ k2) (hd:d1 ≠ d2) {x y x' y':Blk} {m m2:Nat -> Option Nat} (h1:m2 d1 = m k1) (h2:m2 d2 = m k2):Own [(d1, some x'), (d2, some y')] m2 = Own [(k1, some x), (k2, some y)] m:=by
 funext b; apply propext; rw [a92 hk,a92 hd,h1,h2]
theorem a7k {ext:Nat -> Prop} {k1 k2 d1 d2:Nat} (hk:k1 ≠ k2) (hd:d1 ≠ d2) {x y x' y':Blk} {m m2:Nat -> Option Nat} {w:World} (h1:m2 d1 = m k1) (h2:m2 d2 = m k2):Im ext [(d1, some x'), (d2, some y')] m2 w = Im ext [(k1, some x), (k2, some y)] m w:=by
 funext b cs;simp only [Im,a2g hk hd (x:=x) (y:=y) (x':=x') (y':=y') h1 h2]
theorem ax5 {ext:Nat -> Prop} {k1 k2 d1 d2:Nat} (hk:k1 ≠ k2) (hd:d1 ≠ d2) {x y:Blk} {m m2:Nat -> Option Nat} {w:World} (hx:x.nm = []) (hy:y.nm = []) (h1:m2 d1 = m k1) (h2:m2 d2 = m k2)
  (hr:HeapRel ext [(k1,some x),(k2,some y)] m w):HeapRel ext [(d1,some x),(d2,some y)] m2 w:=by
 refine ⟨?_,?_,?_⟩
 ·intro k' z hz;rw [a7k hk hd (x:=x) (y:=y) h1 h2];rcases as2 hz with ⟨rfl,h9⟩ | ⟨_,rfl,h9⟩
  ·cases h9;exact BlkRep.mono (w:=w) (fun _ _ h=>h) (fun _ _ h=>h) (fun _ _ hn=>(al9 hx hn).elim) h1 (fun _ _=>rfl) (hr.blk k1 _ azj)
  ·cases h9;exact BlkRep.mono (w:=w) (fun _ _ h=>h) (fun _ _ h=>h) (fun _ _ hn=>(al9 hy hn).elim) h2 (fun _ _=>rfl) (hr.blk k2 _ (azd hk))
 ·intro k k' z z' b hz hz' hb hb';rcases as2 hz with ⟨rfl,_⟩ | ⟨_,rfl,_⟩ <;> rcases as2 hz' with ⟨rfl,_⟩ | ⟨_,rfl,_⟩
  ·rfl
  ·exact absurd (hr.inj k1 k2 _ _ b azj (azd hk) (h1 ▸ hb) (h2 ▸ hb')) hk
  ·exact absurd (hr.inj k1 k2 _ _ b azj (azd hk) (h1 ▸ hb') (h2 ▸ hb)) hk
  ·rfl
 ·intro k' z b hz hb;rcases as2 hz with ⟨rfl,h9⟩ | ⟨_,rfl,h9⟩
  ·exact hr.sep k1 _ b azj (h1 ▸ hb)
  ·exact hr.sep k2 _ b (azd hk) (h2 ▸ hb)
theorem Con.rekeyBB {P:Program} {f:FuncId} {k1 k2 o1 o2:Nat} {x y x' y':Blk} {xs:List AV} {r:AV} (d1 d2:Nat) (hk:k1 ≠ k2) (hd:d1 ≠ d2) (hx:x.nm = []) (hy:y.nm = []) (hx':x'.nm = []) (hy':y'.nm = []) (hxs:(xs.all fun x=>x.nm.isEmpty) = true) (hr:r.nm = [])
  (h:Con P f (.ptr k1 o1 :: .ptr k2 o2 :: xs) [(k1,some x),(k2,some y)] r [(k1,some x'),(k2,some y')]):Con P f (.ptr d1 o1 :: .ptr d2 o2 :: xs) [(d1,some x),(d2,some y)] r [(d1,some x'),(d2,some y')]:=by
 refine ⟨h.ok,?_⟩;intro ext m w vs hext hheap hvs hrep;obtain ⟨m2,e1,e2⟩:∃ m2:Nat -> Option Nat,m2 k1 = m d1 /\ m2 k2 = m d2:=⟨fun k=>if k = k1 then m d1 else m d2,if_pos rfl,if_neg (fun e=>hk e.symm)⟩
 have h1 := h.ret ext m2 w vs hext (ax5 hd hk hx hy e1 e2 hheap) (by simpa using hvs) (by
  intro j v z hv hz;rw [a7k hd hk (x:=x) (y:=y) e1 e2]
  match j,hz with
  | 0, hz =>
   cases hz;have h2:=hrep 0 v _ hv rfl;cases h2 with
   | ptr hm=>exact .ptr (e1.trans hm)
  | 1, hz =>
   cases hz;have h2:=hrep 1 v _ hv rfl;cases h2 with
   | ptr hm=>exact .ptr (e2.trans hm)
  | j + 2, hz =>
   have h2:=hrep (j + 2) v z hv hz;refine ac3 ?_ h2;have:=List.all_eq_true.1 hxs z (mem_of_getElem? hz);simpa using this)
 refine Calls.mono h1 ?_;rintro e w' ⟨v,m',rfl,hf,hh,hn,hkp,hrr⟩;have ho:=a2g hd hk (x:=x) (y:=y) (x':=x) (y':=y) e1 e2;obtain ⟨m3,f1,f2⟩:∃ m3:Nat -> Option Nat,m3 d1 = m' k1 /\ m3 d2 = m' k2:=⟨fun k=>if k = d1 then m' k1 else m' k2,if_pos rfl,if_neg (fun e=>hd e.symm)⟩
 refine ⟨v,m3,rfl,ho ▸ hf,ax5 hk hd hx' hy' f1 f2 hh,?_,?_,?_⟩
 ·intro k' z b hz hb;rw [<- ho];rcases as2 hz with ⟨rfl,_⟩ | ⟨_,rfl,_⟩
  ·exact hn k1 _ b azj (f1 ▸ hb)
  ·exact hn k2 _ b (azd hk) (f2 ▸ hb)
 ·intro k' z z' hz hz';rcases as2 hz with ⟨rfl,_⟩ | ⟨_,rfl,_⟩
  ·rw [f1,<- e1]; exact hkp k1 _ _ azj azj
  ·rw [f2,<- e2]; exact hkp k2 _ _ (azd hk) (azd hk)
 ·rw [a7k hk hd (x:=x') (y:=y') f1 f2];exact ac3 hr hrr
end Go.Lw
namespace Go.Lw
open Go.Proofs
theorem bor {l:Li} {body pt:Int} {n k:Nat} {bd:Bd} {m:Mk} (h:MkP l body pt n k bd m):qP (mkQ l body pt) = .agg [bl m.x.neg, ws m.x.num, ws m.x.den, bl m.y.neg, ws m.y.num, ws m.y.den]:=by
 rw [h.ex,h.ey]
theorem ahp {p q:Rat × Rat} {e f:Nat} (hp:Sm e p) (hq:Sm f q) (he:e <= 1000000) (hf:f <= 1000000):FnC prog 82 [qP p, qP q] (qP (afp p q)):=by
 refine gF0 func82 ?_;refine gc (bc3 (hp.x.qs oz) (hq.x.qs oz)) ?_;refine gc (bc3 (hp.y.qs oz) (hq.y.qs oz)) ?_;refine gD ?_;refine gE1 ?_
 first | rfl | (simp; done)
theorem a10 {p q:Rat × Rat} {e f:Nat} (hp:Sm e p) (hq:Sm f q) (he:e <= 1000000) (hf:f <= 1000000):FnC prog 176 [qP p, qP q] (qA (aht p q)):=by
 refine gF0 func176 ?_;refine gc (a8l (hp.x.qs oz) (hq.x.qs oz)) ?_;refine gc (a8l (hp.y.qs oz) (hq.y.qs oz)) ?_;refine gc (bhf ((hp.x.mul hq.x).qs oz) ((hp.y.mul hq.y).qs oz)) ?_;refine gD ?_;refine gE1 ?_
 first | rfl | (simp; done)
theorem a57 {p q:Rat × Rat} {e f:Nat} (hp:Sm e p) (hq:Sm f q) (he:e <= 1000000) (hf:f <= 1000000):FnC prog 150 [qP p, qP q] (qA (aty p q)):=by
 refine gF0 func150 ?_;refine gc (a8l (hp.x.qs oz) (hq.y.qs oz)) ?_;refine gc (a8l (hp.y.qs oz) (hq.x.qs oz)) ?_;refine gc (bc3 ((hp.x.mul hq.y).qs oz) ((hp.y.mul hq.x).qs oz)) ?_;refine gD ?_;refine gE1 ?_
 first | rfl | (simp; done)
theorem amk {p:Rat × Rat} {e:Nat} (hp:Sm e p) (he:e <= 1000000):FnC prog 138 [qP p] (nA (sh 0 (aht p p:Rat))):=by
 refine gF0 func138 ?_;refine gc (a10 hp hp he he) ?_;refine gc (a09 ((hp.dot hp).qs oz)) ?_;refine gE1 ?_
 first | rfl | (simp; done)
theorem bc0:FnC prog 53 [] (nA (sh 0 ((1:Int):Rat))):=by
 refine gF0 func53 ?_;refine gc (ac1 1 oz) ?_;refine gc (a09 (apf oz)) ?_;refine gE1 ?_
 first | rfl | (simp; done)
theorem ags {l:Li} (hl:l.ok) (hli:liE l = 0) (g:Gr) (a:As) {body pt:Int} (h1:inB body l.bodies.length = true) (h2:inB pt (aen l body).length = true) :
  Con prog 140 [.ptr 1000 0,i64 body,i64 pt] [(1000,some (svB l g a))] (qP (mkQ l body pt)) [(1000,some (svB l g a))]:=by
 obtain ⟨n,k,bd,m,mp⟩:=bd3 hl hli h1 h2;rw [bor mp];have hn:=mp.hn;have hk:=mp.hk;have hlb:=hl.lb;subst hn;subst hk;refine gF func140 (fun k z h=>aa3 h) ?_;refine gi (aag mp.gbd) ?_;refine gi (aag mp.gm) ?_;refine gR ?_;exact Fin.keep (abt rfl)
theorem aix {l:Li} (hl:l.ok) (hli:liE l = 0) (g:Gr) {a:As} (al:AL a) (hc:aer a.rs = 0) {body pt:Int} (h1:inB body l.bodies.length = true) (h2:inB pt (aen l body).length = true) (hb:Pd a body) :
  Con prog 141 [.ptr 1000 0,i64 body,i64 pt] [(1000,some (svB l g a))] (ptA (sX (plE l a body pt).1) (sX (plE l a body pt).2)) [(1000,some (svB l g a))]:=by
 obtain ⟨n,k,bd,m,b,hp⟩:=bhg hl hli al hc h1 h2 hb;obtain ⟨tw,hta⟩:=abr al.tr hc;have kb:=kb4 tw.three;have hlm:=apw (llq a.rs).length;have hlb:=hl.lb;have hbl:=al.bl;have hmk:=ags hl hli g a h1 h2;show Con prog _ _ _ (ptA (sh (llq a.rs).length (bjq l a body pt).1) (sh (llq a.rs).length (bjq l a body pt).2)) _;rw [hp.eq];have hn:=hp.mp.hn;rw [bor hp.mp] at hmk
 have hat:FnC prog 230 [ahu a.rs, b.av, m.x.av, m.y.av] (.tup [ptA (sh (llq a.rs).length (atP (llq a.rs) b m).1) (sh (llq a.rs).length (atP (llq a.rs) b m).2), .v .nilIface]):=by
  rw [hta,hp.av,hp.mp.ex,hp.mp.ey];have h9:=a4r tw hp.ok.c hp.ok.s hp.ok.x hp.ok.y (hp.mp.sm.x.mono (f:=4000) oz) (hp.mp.sm.y.mono (f:=4000) oz) oz;unfold atP;rw [hp.mp.ex,hp.mp.ey,agm,agm];exact h9
 refine gF func141 (fun k z h=>aa3 h) ?_;refine gt (aab hmk (ev3 rfl rfl rfl) hHa rfl rfl) ?_;refine gi (afj (n:=n) hn hp.gb) ?_;refine gc hat ?_;refine gD ?_;refine gC (fun ht39=>?_) (fun ht39=>?_) (st2:=(77777,0))
 ·refine gR ?_;exact Fin.keep (abt rfl)
 ·cases ht39
theorem am9 {l:Li} (hl:l.ok) (hli:liE l = 0) (g:Gr) (hg:GrOk l g) {a:As} (al:AL a) (hc:aer a.rs = 0) {k:Nat} {z b:Int} {j:Jt} (hz:g.joints[k]? = some z) (hj:l.joints[z.toNat]? = some j) (h:PinP l a j b) :
  Con prog 76 [.ptr 1000 0,i64 k,i64 b] [(1000,some (svB l g a))] (.tup [qP (aak l j b),ptA (sX (aa1 l a j b).1) (sX (aa1 l a j b).2)]) [(1000,some (svB l g a))]:=by
 obtain ⟨z0,z1⟩:=hg.j z (mem_of_getElem? hz);obtain ⟨i1,i2,i3,i4,_⟩:=afv hli hj;have hgj:=hg.lj;have hlj:=hl.lj;refine gF func76 (fun k z h=>aa3 h) ?_;refine gi (aag hz) ?_;refine gi (afj (n:=z.toNat) oz hj) ?_;refine gD ?_;refine gC (fun ht27=>?_) (fun ht27=>?_)
 ·have e:j.a = b:=aco ht27;have hb:Pd a j.b:=by rcases h.tie with h9 | h9; exact h9.2; exact absurd e h9.1
  have eq1:aak l j b = mkQ l b j.point:=if_pos e;have eq2:aa1 l a j b = plE l a j.b j.on:=if_pos e;rw [eq1,eq2];subst e;refine gt (aab (ags hl hli g a i1 i3) (ev3 rfl rfl rfl) hHa rfl rfl) ?_;refine gt (aab (aix hl hli g al hc i2 i4 hb) (ev3 rfl rfl rfl) hHa rfl rfl) ?_;refine gD ?_;refine gR ?_;exact Fin.keep (abt rfl)
 ·have e:j.a ≠ b:=ac5 ht27;have e2:j.b = b /\ Pd a j.a:=by rcases h.tie with h9 | h9; exact absurd h9.1 e; exact h9.2
  have eq1:aak l j b = mkQ l b j.on:=if_neg e;have eq2:aa1 l a j b = plE l a j.a j.point:=if_neg e;rw [eq1,eq2];obtain ⟨e2,hb⟩:=e2;subst e2;refine gt (aab (ags hl hli g a i2 i4) (ev3 rfl rfl rfl) hHa rfl rfl) ?_;refine gt (aab (aix hl hli g al hc i1 i3 hb) (ev3 rfl rfl rfl) hHa rfl rfl) ?_;refine gD ?_;refine gR ?_;exact Fin.keep (abt rfl)
theorem a26 {l:Li} (hl:l.ok) (hli:liE l = 0) (g:Gr) (hg:GrOk l g) (a:As) {z b:Int} {j:Jt} (hz:g.joints[2]? = some z) (hj:l.joints[z.toNat]? = some j) (h:j.a = b \/ j.b = b) :
  Con prog 135 [.ptr 1000 0,i64 b] [(1000,some (svB l g a))] (qP (aak l j b)) [(1000,some (svB l g a))]:=by
 obtain ⟨z0,z1⟩:=hg.j z (mem_of_getElem? hz);obtain ⟨i1,i2,i3,i4,_⟩:=afv hli hj;have hgj:=hg.lj;have hlj:=hl.lj;have h2:=(List.getElem?_eq_some_iff.1 hz).1;refine gF func135 (fun k z h=>aa3 h) ?_;refine gi (aag hz) ?_;refine gi (afj (n:=z.toNat) oz hj) ?_;refine gD ?_;refine gC (fun ht23=>?_) (fun ht23=>?_)
 ·have e:j.a = b:=aco ht23;have eq1:aak l j b = mkQ l b j.point:=if_pos e;rw [eq1];subst e;refine gt (aab (ags hl hli g a i1 i3) (ev3 rfl rfl rfl) hHa rfl rfl) ?_;refine gR ?_;exact Fin.keep (abt rfl)
 ·have e:j.a ≠ b:=ac5 ht23;have e2:j.b = b:=by rcases h with h9 | h9; exact absurd h9 e; exact h9
  have eq1:aak l j b = mkQ l b j.on:=if_neg e;rw [eq1];subst e2;refine gt (aab (ags hl hli g a i2 i4) (ev3 rfl rfl rfl) hHa rfl rfl) ?_;refine gR ?_;exact Fin.keep (abt rfl)
theorem atx {l:Li} (hl:l.ok) (g:Gr) (hg:GrOk l g) (a:As) {z:Int} {j:Jt} (hz:g.joints[1]? = some z) (hj:l.joints[z.toNat]? = some j) :
  Con prog 139 [.ptr 1000 0] [(1000,some (svB l g a))] j.av [(1000,some (svB l g a))]:=by
 obtain ⟨z0,z1⟩:=hg.j z (mem_of_getElem? hz);have hgj:=hg.lj;have hlj:=hl.lj;have h2:=(List.getElem?_eq_some_iff.1 hz).1;refine gF func139 (fun k z h=>aa3 h) ?_;refine gi (aag hz) ?_;refine gi (afj (n:=z.toNat) oz hj) ?_;refine gD ?_;refine gR ?_;exact Fin.keep (abt rfl)
abbrev hdC {ts:LL} (p:Rat × Rat) (at_:Et ts × Et ts) (c:Rat × Rat):List AV :=
  [bl (rt p.1).neg,ws (rt p.1).num,ws (rt p.1).den,bl (rt p.2).neg,ws (rt p.2).num,ws (rt p.2).den,nA (sX at_.1),nA (sX at_.2),bl (rt c.1).neg,ws (rt c.1).num,ws (rt c.1).den,bl (rt c.2).neg,ws (rt c.2).num,ws (rt c.2).den]
abbrev hdA {ts:LL} (p:Rat × Rat) (at_:Et ts × Et ts) (c:Rat × Rat):AV:=.agg (hdC p at_ c)
abbrev crA {ts:LL} (p:Rat × Rat) (at_:Et ts × Et ts) (c:Rat × Rat):AV:=.agg [nA (sX at_.1),nA (sX at_.2),nA (sh 0 (sqQ c p:Rat))]
theorem afy {ts:LL} {p c:Rat × Rat} (hp:Sm 1000 p) (hc:Sm 1000 c) (at_:Et ts × Et ts):FnC prog 57 [hdA p at_ c] (crA p at_ c):=by
 refine gF0 func57 ?_;refine gc (ahp hc hp oz oz) ?_;refine gc (amk (hc.sub hp) oz) ?_;refine gD ?_;refine gE1 ?_
 first | rfl | (simp; done)
theorem a21 {l:Li} (hl:l.ok) (hli:liE l = 0) {a:As} (al:AL a) (hc:aer a.rs = 0) {i k z0 z1 z2:Int} {j0 j1 j2:Jt} (hg:GrOk l ⟨1, [i, k], [z0, z1, z2], 0⟩)
  (h0:l.joints[z0.toNat]? = some j0) (h1:l.joints[z1.toNat]? = some j1) (h2:l.joints[z2.toNat]? = some j2) (p0:PinP l a j0 i) (p1:PinP l a j1 k) (t1:j2.a = i \/ j2.b = i) (t2:j2.a = k \/ j2.b = k) :
  Con prog 54 [.ptr 1000 0] [(1000,some (svB l ⟨1,[i,k],[z0,z1,z2],0⟩ a))] (.tup [hdA (aak l j0 i) (aa1 l a j0 i) (aak l j2 i),hdA (aak l j1 k) (aa1 l a j1 k) (aak l j2 k)]) [(1000,some (svB l ⟨1,[i,k],[z0,z1,z2],0⟩ a))]:=by
 refine gF func54 (fun k z h=>aa3 h) ?_;refine gi (rfl) ?_;refine gi (rfl) ?_;refine gD ?_;refine gt (aab (am9 hl hli _ hg al hc (k:=0) rfl h0 p0) (.cons (.tmp rfl) (.cons (.const _) (ev1 rfl))) hHa rfl rfl) ?_;refine gt (aab (am9 hl hli _ hg al hc (k:=1) rfl h1 p1) (.cons (.tmp rfl) (.cons (.const _) (ev1 rfl))) hHa rfl rfl) ?_;refine gt (aab (a26 hl hli _ hg a rfl h2 t1) (ev2 rfl rfl) hHa rfl rfl) ?_;refine gt (aab (a26 hl hli _ hg a rfl h2 t2) (ev2 rfl rfl) hHa rfl rfl) ?_;refine gD ?_;refine gR ?_;exact Fin.keep (abt rfl)
theorem a7f {l:Li} (hl:l.ok) (hli:liE l = 0) {a:As} (al:AL a) (hc:aer a.rs = 0) {i z0 z1:Int} {j0 j1:Jt} (hg:GrOk l ⟨2, [i], [z0, z1], 0⟩)
  (h0:l.joints[z0.toNat]? = some j0) (h1:l.joints[z1.toNat]? = some j1) (p0:PinP l a j0 i) (ha:j1.a = i) (hk:j1.kind ≠ 0) (hb:Pd a j1.b) :
  Con prog 58 [.ptr 1000 0] [(1000,some (svB l ⟨2,[i],[z0,z1],0⟩ a))] (.tup [hdA (aak l j0 i) (aa1 l a j0 i) (mkQ l i j1.point),ptA (sX (plE l a j1.b j1.on).1) (sX (plE l a j1.b j1.on).2),ptA (sX (plE l a j1.b j1.to).1) (sX (plE l a j1.b j1.to).2)]) [(1000,some (svB l ⟨2,[i],[z0,z1],0⟩ a))]:=by
 obtain ⟨i1,i2,i3,i4,i5⟩:=afv hli h1;rw [ha] at i1 i3;refine gF func58 (fun k z h=>aa3 h) ?_;refine gi (rfl) ?_;refine gt (aaf (atx hl _ hg a rfl h1) (ev1 rfl) rfl rfl rfl) ?_;refine gD ?_;refine gt (aab (am9 hl hli _ hg al hc (k:=0) rfl h0 p0) (.cons (.tmp rfl) (.cons (.const _) (ev1 rfl))) hHa rfl rfl) ?_;refine gt (aab (ags hl hli _ a i1 i3) (ev3 rfl rfl rfl) hHa rfl rfl) ?_;refine gt (aab (aix hl hli _ al hc i2 i4 hb) (ev3 rfl rfl rfl) hHa rfl rfl) ?_;refine gt (aab (aix hl hli _ al hc i2 (i5 hk) hb) (ev3 rfl rfl rfl) hHa rfl rfl) ?_;refine gD ?_;refine gR ?_;exact Fin.keep (abt rfl)
end Go.Lw
namespace Go.Lw
structure Vr where
  w:List Rt
  x:List Rt
  y:List Rt
instance:Inhabited Vr:=⟨⟨[],[],[]⟩⟩
def Vr.av (v:Vr):AV:=.agg [nR v.w,nR v.x,nR v.y]
def Vr.l (v:Vr):List (List Rt):=[v.w,v.x,v.y]
theorem AL.ct {a:As} (h:AL a) (hc:aer a.rs = 0):Ct (llq a.rs) 4000 300000:=by
 obtain ⟨tw,_⟩:=abr h.tr hc;exact ⟨⟨40000,tw,le_trans (a3j 40000 tw.three) oz⟩,by omega,by omega,by omega,by omega⟩
end Go.Lw
namespace Go.Lw
open Go.Proofs
abbrev mdB (rs:List (List Rt)):Blk:=.box [.lst 1 (rs.map nR),.v .nilIface]
theorem ahe (rs:List (List Rt)) (a:List Rat):Con prog 55 [.ptr 1000 0, nA a, .v .nilIface] [(1000, some (mdB rs))] (nA a) [(1000, some (mdB rs))]:=by
 refine gF func55 (fun k z h=>aa3 h) ?_;refine gC (fun ht11=>?_) (fun ht11=>?_) (st2:=(77777,0))
 ·refine gR ?_;exact Fin.keep (abt rfl)
 ·cases ht11
theorem akv (rs:List (List Rt)) (a b:List Rat):Con prog 59 [.ptr 1000 0, ptA a b, .v .nilIface] [(1000, some (mdB rs))] (ptA a b) [(1000, some (mdB rs))]:=by
 refine gF func59 (fun k z h=>aa3 h) ?_;refine gC (fun ht11=>?_) (fun ht11=>?_) (st2:=(77777,0))
 ·refine gR ?_;exact Fin.keep (abt rfl)
 ·cases ht11
section
variable {rs:List (List Rt)} {r u k:Nat} {a b:List Rat} {x y:Et (llq rs)} {w v w' v':Nat}
theorem ap9 (h : TR rs r) (hc : aer rs = 0) [c0 : Ct (llq rs) u k] [ha : Zl (llq rs) u k a x w v] [hb : Zl (llq rs) u k b y w' v'] (hs : w + v + (w' + v') <= 10000 := by decide) :
  Con prog 63 [.ptr 1000 0,nA a,nA b] [(1000,some (mdB rs))] (nA (sX (x * y))) [(1000,some (mdB rs))]:=by
 have hx:=bnb (ha:=ha) (hb:=hb) hs;rw [ar4 h hc] at hx;refine gF func63 (fun k z h=>aa3 h) ?_;refine gc hx ?_;refine gt (aab (ahe _ _) (ev3 rfl rfl rfl) hHa rfl rfl) ?_;refine gR ?_;exact Fin.keep (abt rfl)
theorem a3t (h : TR rs r) (hc : aer rs = 0) [c0 : Ct (llq rs) u k] [ha : Zl (llq rs) u k a x w v] [hb : Zl (llq rs) u k b y w' v'] (hs : w + v + (w' + v') <= 10000 := by decide) :
  Con prog 62 [.ptr 1000 0,nA a,nA b] [(1000,some (mdB rs))] (nA (sX (x - y))) [(1000,some (mdB rs))]:=by
 have hx:=bnk (ha:=ha) (hb:=hb) hs;rw [ar4 h hc] at hx;refine gF func62 (fun k z h=>aa3 h) ?_;refine gc hx ?_;refine gt (aab (ahe _ _) (ev3 rfl rfl rfl) hHa rfl rfl) ?_;refine gR ?_;exact Fin.keep (abt rfl)
end
structure DyR (l:Li) (a:As):Prop where
  hl:l.ok
  li:liE l = 0
  al:AL a
  hc:aer a.rs = 0
abbrev rpC (l:Li) (a:As) (i:Int) (j0 j:Jt):List AV :=
  qC (aak l j0 i) ++ ([nA (sX (aa1 l a j0 i).1),nA (sX (aa1 l a j0 i).2)] ++ (qC (rpV l i j) ++ [nA (sh 0 (rpH l i j0 j:Rat)),nA (sh 0 (rpN l i j:Rat)),nA (sX (rpD l a i j0 j)),nA (sX (rpW l a i j0 j).1),nA (sX (rpW l a i j0 j).2)]))
theorem a6p {l:Li} {a:As} (D:DyR l a) {n:Nat} {i:Int} {j0 j:Jt} (h0:l.joints[n]? = some j0) (p0:PinP l a j0 i) {m:Nat} (h1:l.joints[m]? = some j) (hb:Pd a j.a) :
  Zu 4000 300000 (rpW l a i j0 j).1 80 81 /\ Zu 4000 300000 (rpW l a i j0 j).2 80 81:=by
 obtain ⟨i1,i2,i3,i4,_⟩:=afv D.li h1;obtain ⟨z1,z2⟩:=aek D.hl D.li D.al D.hc h0 p0;obtain ⟨y1,y2⟩:=agu D.hl D.li D.al D.hc i1 i3 hb;haveI c:=D.al.ct D.hc;haveI:=z1; haveI:=z2; haveI:=y1; haveI:=y2
 exact ⟨(inferInstance:Zu 4000 300000 ((plE l a j.a j.point).1 - (aa1 l a j0 i).1) _ _),(inferInstance:Zu 4000 300000 ((plE l a j.a j.point).2 - (aa1 l a j0 i).2) _ _)⟩
theorem ba8 {l:Li} {a:As} (D:DyR l a) {i z0 z1:Int} {j0 j:Jt} (hg:GrOk l ⟨3, [i], [z0, z1], 0⟩)
  (h0:l.joints[z0.toNat]? = some j0) (h1:l.joints[z1.toNat]? = some j) (p0:PinP l a j0 i) (hi:j.b = i) (hk:j.kind ≠ 0) (hb:Pd a j.a) :
  Con prog 65 [.ptr 1000 0,.ptr 1001 0] [(1000,some (svB l ⟨3,[i],[z0,z1],0⟩ a)),(1001,some (mdB a.rs))] (.agg (rpC l a i j0 j)) [(1000,some (svB l ⟨3,[i],[z0,z1],0⟩ a)),(1001,some (mdB a.rs))]:=by
 obtain ⟨i1,i2,i3,i4,i5⟩:=afv D.li h1;have hs0:Sm 1000 (aak l j0 i):=ach D.hl D.li h0 (by rcases p0.tie with h9 | h9; exact .inl h9.1; exact .inr h9.2.1);subst hi;have hs1:=ajg D.hl D.li i2 i4;have hs2:=ajg D.hl D.li i2 (i5 hk);have hv:=hs2.sub hs1;obtain ⟨z1',z2'⟩:=aek D.hl D.li D.al D.hc h0 p0;obtain ⟨y1,y2⟩:=agu D.hl D.li D.al D.hc i1 i3 hb;obtain ⟨w1,w2⟩:=a6p D h0 p0 h1 hb;haveI c:=D.al.ct D.hc;haveI:=z1'; haveI:=z2'; haveI:=y1; haveI:=y2; haveI:=w1; haveI:=w2
 have hsub:=a72 (ts:=llq a.rs) (u:=4000) (k:=300000) (a:=sX (plE l a j.a j.point).1) (b:=sX (plE l a j.a j.point).2) (a2:=sX (aa1 l a j0 j.b).1) (b2:=sX (aa1 l a j0 j.b).2);have hdot:=bgr (ts:=llq a.rs) (u:=4000) (k:=300000) (a:=sX (rpW l a j.b j0 j).1) (b:=sX (rpW l a j.b j0 j).2) (a2:=sX (rpW l a j.b j0 j).1) (b2:=sX (rpW l a j.b j0 j).2);rw [ar4 D.al.tr D.hc] at hsub hdot;refine gF func65 (fun k z h=>bm6 h) ?_;refine gi (rfl) ?_;refine gt (aaf (atx D.hl _ hg a rfl h1) (ev1 rfl) rfl rfl rfl) ?_;refine gD ?_;refine gt (aab (am9 D.hl D.li _ hg D.al D.hc (k:=0) rfl h0 p0) (.cons (.tmp rfl) (.cons (.const _) (ev1 rfl))) hHa rfl rfl) ?_;refine gt (aaf (ags D.hl D.li _ a i2 i4) (ev3 rfl rfl rfl) rfl rfl rfl) ?_;refine gt (aaf (ags D.hl D.li _ a i2 (i5 hk)) (ev3 rfl rfl rfl) rfl rfl rfl) ?_;refine gc (ahp hs2 hs1 oz oz) ?_;refine gD ?_;refine gc (ahp hs1 hs0 oz oz) ?_;refine gc (a57 hv (hs1.sub hs0) oz oz) ?_;refine gc (a09 ((hv.cross (hs1.sub hs0)).qs oz)) ?_;refine gc (amk hv oz) ?_;refine gD ?_;refine gt (aab (aix D.hl D.li _ D.al D.hc i1 i3 hb) (ev3 rfl rfl rfl) hHa rfl rfl) ?_;refine gC (fun ht63=>?_) (fun ht63=>?_) (st2:=(77777,0))
 ·refine gc hsub ?_;refine gt (aab (Con.rekeyB 1001 rfl rfl rfl rfl (akv _ _ _)) (ev3 rfl rfl rfl) hHa rfl rfl) ?_;refine gD ?_;refine gc hdot ?_;refine gt (aab (Con.rekeyB 1001 rfl rfl rfl rfl (ahe _ _)) (ev3 rfl rfl rfl) hHa rfl rfl) ?_;refine gD ?_;refine gR ?_;exact Fin.keep (bqc rfl rfl)
 ·cases ht63
theorem amo {l:Li} {a:As} (D:DyR l a) {i:Int} {j0 j:Jt} {w v:Nat} [z1:Zl (llq a.rs) 4000 300000 (sh 0 (rpH l i j0 j:Rat)) (qE (rpH l i j0 j)) 3 0] [z2:Zl (llq a.rs) 4000 300000 (sh 0 (rpN l i j:Rat)) (qE (rpN l i j)) 3 0] [z3:Zu 4000 300000 (rpD l a i j0 j) w v] (hw:w + v <= 2000) :
  Con prog 66 [.agg (rpC l a i j0 j),.ptr 1001 0] [(1001,some (mdB a.rs))] (nA (sX (qE (rpN l i j) * rpD l a i j0 j - qE (rpH l i j0 j) * qE (rpH l i j0 j)))) [(1001,some (mdB a.rs))]:=by
 haveI c:=D.al.ct D.hc;haveI:=z1.zu; haveI:=z2.zu
 have m1:=ap9 (a:=sh 0 (rpN l i j:Rat)) (b:=sX (rpD l a i j0 j)) D.al.tr D.hc oz;have m2:=ap9 (a:=sh 0 (rpH l i j0 j:Rat)) (b:=sh 0 (rpH l i j0 j:Rat)) D.al.tr D.hc oz;have m3:=a3t (a:=sX (qE (rpN l i j) * rpD l a i j0 j)) (b:=sX (qE (rpH l i j0 j) * qE (rpH l i j0 j):Et (llq a.rs))) D.al.tr D.hc oz;refine gF func66 (fun k z h=>by have:=(aez h).1; omega) ?_;refine gt (aab (Con.rekeyB 1001 rfl rfl rfl rfl m1) (ev3 rfl rfl rfl) hHa rfl rfl) ?_;refine gt (aab (Con.rekeyB 1001 rfl rfl rfl rfl m2) (ev3 rfl rfl rfl) hHa rfl rfl) ?_;refine gt (aab (Con.rekeyB 1001 rfl rfl rfl rfl m3) (ev3 rfl rfl rfl) hHa rfl rfl) ?_;refine gD ?_;refine gR ?_;exact Fin.keep (abt rfl)
end Go.Lw
namespace Go.Lw
open Go.Proofs
abbrev Ci:Type:=List Rat × List Rat × List Rat
abbrev ciA (c:Ci):AV:=.agg [nA c.1,nA c.2.1,nA c.2.2]
structure CiZ (rs:List (List Rt)) (c:Ci):Prop where
  x:Nm (llq rs).length 2500000000 c.1
  y:Nm (llq rs).length 2500000000 c.2.1
  r:Nm (llq rs).length 2500000000 c.2.2
  sg:0 <= sgE (dE (llq rs) c.2.2)
theorem bp7 {ts:LL} (p q:Et ts × Et ts):dotE (q.1 - p.1) (q.2 - p.2) (q.1 - p.1) (q.2 - p.2) = d2E p q:=by
 unfold d2E azw sbE dotE;dsimp only;grind
theorem bdy {ts:LL} (c:Ct ts 4000 300000) {x y x2 y2:Et ts} (h1:Zu 4000 300000 x 40 40) (h2:Zu 4000 300000 y 40 40) (h3:Zu 4000 300000 x2 40 40) (h4:Zu 4000 300000 y2 40 40):Zu 4000 300000 (d2E (x, y) (x2, y2)) 320 327:=by
 haveI:=c; haveI:=h1; haveI:=h2; haveI:=h3; haveI:=h4
 exact (inferInstance:Zu 4000 300000 (dotE (x - x2) (y - y2) (x - x2) (y - y2)) _ _)
section
variable {rs:List (List Rt)} {r:Nat} {a b c a2 b2 c2:List Rat}
theorem alv (h:TR rs r) (hc:aer rs = 0) {e:Nat} (ha:Nm (llq rs).length e a) (hb:Nm (llq rs).length e b) (he:e <= lm (llq rs).length):FnC prog 188 [ahu rs, ptA a b] (.v .nilIface):=by
 obtain ⟨tw,etw⟩:=abr h hc;have hca:=adp tw [(a,b)] (fun p hp=>by rw [List.mem_singleton.1 hp]; exact ⟨ha,hb⟩) he (by show 1 <= 500; omega);rw [<- etw] at hca;refine gF0 func188 ?_;refine gc hca ?_;refine gE1 ?_;rfl
theorem aq5 (h:TR rs r) (hc:aer rs = 0) {e:Nat} (ha:Nm (llq rs).length e a) (hb:Nm (llq rs).length e b) (hn:Nm (llq rs).length e c) (he:e + 1 <= lm (llq rs).length):FnC prog 187 [ahu rs, .agg [nA a, nA b, nA c]] (.v .nilIface):=by
 obtain ⟨tw,etw⟩:=abr h hc;have hneg:=a7l tw hn oz;rw [<- etw] at hneg;refine gF0 func187 ?_;refine gc (alv h hc ha hb oz) ?_;refine gC (fun ht13=>?_) (fun ht13=>?_) (st1:=(3,0))
 ·cases ht13
 ·refine gc hneg ?_;refine gE1 ?_;rfl
theorem asy (h:TR rs r) (hc:aer rs = 0) (cs:List Ci) (hz:∀ c ∈ cs, CiZ rs c) (hl:cs.length <= 100):FnC prog 189 [ahu rs, .lst 3 (cs.map ciA)] (.v .nilIface):=by
 obtain ⟨tw,etw⟩:=abr h hc;have hlm:=apw (llq rs).length;refine gF0 func189 ?_;refine gl ?_;refine gL1 [2,9,10] [2] (fun (i:Nat)=>[(11,some (i64 i))]) (fun _=>[]) (fun i=>i <= cs.length) (fun i=>cs.length - i) 0 (zero_le _) ?_;rintro i hi K1 hK1;refine gC (fun ht12=>?_) (fun ht12=>?_)
 ·have hin:=aa9 ht12;obtain ⟨z,hzi⟩:=ab5 hin;have hz9:=hz z (mem_of_getElem? hzi);have hs:=a9f tw hz9.r oz;rw [<- etw] at hs;refine gi (aag hzi) ?_;refine gc hs ?_;refine gC (fun ht23=>?_) (fun ht23=>?_) (st1:=(6,0))
  ·cases ht23
  ·refine gC (fun ht26=>?_) (fun ht26=>?_) (st1:=(8, 0))
   ·exact absurd ht26 (by have h9:=hz9.sg; unfold sgE dE at h9; simp only [aaa,decide_eq_true_eq]; omega)
   ·refine ga aat ?_;exact gK1 hK1 (i + 1) hin
 ·refine gE1 ?_;rfl
theorem ato (h:TR rs r) (hc:aer rs = 0) (cs:List Ci) (hz:∀ c ∈ cs, CiZ rs c) (hl:cs.length <= 100):FnC prog 136 [ahu rs, .lst 3 (cs.map ciA)] (.v .nilIface):=by
 have hlm:=apw (llq rs).length;have hck:=afe rs r h;rw [hc] at hck;refine gF0 func136 ?_;refine gc hck ?_;refine gC (fun ht12=>?_) (fun ht12=>?_) (st1:=(3,0))
 ·cases ht12
 ·refine gl ?_;refine gL1 [1,2,14,15] [2] (fun (i:Nat)=>[(16,some (i64 i))]) (fun _=>[]) (fun i=>i <= cs.length) (fun i=>cs.length - i) 0 (zero_le _) ?_;rintro i hi K1 hK1;refine gC (fun ht17=>?_) (fun ht17=>?_)
  ·have hin:=aa9 ht17;obtain ⟨z,hzi⟩:=ab5 hin;have hz9:=hz z (mem_of_getElem? hzi);refine gi (aag hzi) ?_;refine gc (aq5 h hc hz9.x hz9.y hz9.r oz) ?_;refine gC (fun ht24=>?_) (fun ht24=>?_) (st1:=(9,0))
   ·cases ht24
   ·refine ga aat ?_;exact gK1 hK1 (i + 1) hin
  ·refine gc (asy h hc cs hz hl) ?_;refine gE1 ?_;rfl
theorem avc (h:TR rs r) (hc:aer rs = 0) {x y x2 y2:Et (llq rs)} [c0:Ct (llq rs) 4000 300000] [i1:Zl (llq rs) 4000 300000 a x 40 40] [i2:Zl (llq rs) 4000 300000 b y 40 40] [i4:Zl (llq rs) 4000 300000 a2 x2 40 40] [i5:Zl (llq rs) 4000 300000 b2 y2 40 40] :
  FnC prog 229 [ahu rs,ptA a b,ptA a2 b2] (.tup [nA (sX (d2E (x,y) (x2,y2))),.v .nilIface]):=by
 obtain ⟨_,etw⟩:=abr h hc;obtain ⟨R,tw,hk⟩:=c0.ex;have kk:=c0.kk hk;obtain ⟨K,hK⟩:∃ K,40 * 4000 + 40 * 300000 = K:=⟨_,rfl⟩
 have hlm:=apw (llq rs).length;have n1:=i1.nm;have n2:=i2.nm;have n4:=i4.nm;have n5:=i5.nm
 have hca:=adp tw [(a, b), (a2, b2)] (e:=40 * 4000 + 40 * 300000) (fun p hp=>by
  simp only [mem_cons,not_mem_nil,or_false] at hp;rcases hp with rfl | rfl
  ·exact ⟨n1,n2⟩
  ·exact ⟨n4,n5⟩) oz (by show 2 <= 500; omega)
 rw [<- etw] at hca;have hle:=at3 tw n4 n5 n1 n2 oz;have m1:=n4.sub n1;have m2:=n5.sub n2;have hdo:=aw5 tw m1 m2 m1 m2 oz;rw [i1.eq,i2.eq,i4.eq,i5.eq] at hle;rw [i1.eq,i2.eq,i4.eq,i5.eq,aa4,aa4] at hdo;have hd2:=bp7 (x,y) (x2,y2);refine gF0 func229 ?_;refine gc hca ?_;refine gC (fun ht17=>?_) (fun ht17=>?_) (st1:=(3,0)) (st2:=(5,0))
 ·cases ht17
 ·refine gW (Wk.of (sl:=[(4, some (.ptr 4 0)), (5, some (.ptr 5 0)), (9, some (.ptr 21 0))]) (hp:=[(4, some (.box [nA a, nA b])), (5, some (.box [nA a2, nA b2])), (21, some (.box [.lst 1 ((llq rs).map nA), .v .nilIface]))]) aa6 (.k (.k (.cons rfl (BlkSub.boxL (.cons (.of (aff etw)) (.cons (.refl _) .nil)) rfl) .nil)))) ?_;refine gt (aab (Con.rekeyB 21 rfl rfl rfl rfl hle) (ev3 rfl rfl rfl) hHa rfl rfl) ?_;refine gt (aab (Con.rekeyB 21 rfl rfl rfl rfl hdo) (ev3 rfl rfl rfl) hHa rfl rfl) ?_;refine gt (aab (Con.rekeyB 21 rfl rfl rfl rfl (aw1 _ _)) (ev2 rfl rfl) hHa rfl rfl) ?_;refine gE2 ?_;rw [<- hd2]; rfl
theorem aj5 (rs:List (List Rt)) (a:List Rat):Con prog 190 [.ptr 1000 0, nA a, .v .nilIface] [(1000, some (mdB rs))] (nA a) [(1000, some (mdB rs))]:=by
 refine gF func190 (fun k z h=>aa3 h) ?_;refine gC (fun ht11=>?_) (fun ht11=>?_) (st2:=(77777,0))
 ·refine gR ?_;exact Fin.keep (abt rfl)
 ·cases ht11
end
section
variable {rs:List (List Rt)} {r u k:Nat} {a b:List Rat} {x y:Et (llq rs)} {w v w' v':Nat}
theorem beh (h : TR rs r) (hc : aer rs = 0) [c0 : Ct (llq rs) u k] [ha : Zl (llq rs) u k a x w v] [hb : Zl (llq rs) u k b y w' v'] (hs : w + v + (w' + v') <= 10000 := by decide) :
  Con prog 185 [.ptr 1000 0,nA a,nA b] [(1000,some (mdB rs))] (nA (sX (x + y))) [(1000,some (mdB rs))]:=by
 have hx:=bph (ha:=ha) (hb:=hb) hs;rw [ar4 h hc] at hx;refine gF func185 (fun k z h=>aa3 h) ?_;refine gc hx ?_;refine gt (aab (aj5 _ _) (ev3 rfl rfl rfl) hHa rfl rfl) ?_;refine gR ?_;exact Fin.keep (abt rfl)
theorem a33 (h : TR rs r) (hc : aer rs = 0) [c0 : Ct (llq rs) u k] [ha : Zl (llq rs) u k a x w v] [hb : Zl (llq rs) u k b y w' v'] (hs : w + v + (w' + v') <= 10000 := by decide) :
  Con prog 181 [.ptr 1000 0,nA a,nA b] [(1000,some (mdB rs))] (nA (sX (x - y))) [(1000,some (mdB rs))]:=by
 have hx:=bnk (ha:=ha) (hb:=hb) hs;rw [ar4 h hc] at hx;refine gF func181 (fun k z h=>aa3 h) ?_;refine gc hx ?_;refine gt (aab (aj5 _ _) (ev3 rfl rfl rfl) hHa rfl rfl) ?_;refine gR ?_;exact Fin.keep (abt rfl)
theorem av9 (h : TR rs r) (hc : aer rs = 0) [c0 : Ct (llq rs) u k] [ha : Zl (llq rs) u k a x w v] [hb : Zl (llq rs) u k b y w' v'] (hs : w + v + (w' + v') <= 10000 := by decide) :
  Con prog 191 [.ptr 1000 0,nA a,nA b] [(1000,some (mdB rs))] (nA (sX (x * y))) [(1000,some (mdB rs))]:=by
 have hx:=bnb (ha:=ha) (hb:=hb) hs;rw [ar4 h hc] at hx;refine gF func191 (fun k z h=>aa3 h) ?_;refine gc hx ?_;refine gt (aab (aj5 _ _) (ev3 rfl rfl rfl) hHa rfl rfl) ?_;refine gR ?_;exact Fin.keep (abt rfl)
theorem a4f (h : TR rs r) (hc : aer rs = 0) [c0 : Ct (llq rs) u k] (n : Int) (hn : -9223372036854775808 <= n /\ n <= 9223372036854775807) [hq : Qz u (n : Rat) w'] [ha : Zl (llq rs) u k a x w v] (hs : w' + 0 + (w + v) <= 10000 := by decide) :
  Con prog 182 [.ptr 1000 0,i64 n,nA a] [(1000,some (mdB rs))] (nA (sX (qE (n:Rat) * x))) [(1000,some (mdB rs))]:=by
 have hm:=av9 (a:=sh 0 ((n:Rat):Rat)) (b:=a) h hc hs;refine gF func182 (fun k z h=>aa3 h) ?_;refine gc (ac1 n hn) ?_;refine gc (a09 (apf hn)) ?_;refine gt (aab hm (ev3 rfl rfl rfl) hHa rfl rfl) ?_;refine gR ?_;exact Fin.keep (abt rfl)
end
section
variable {rs:List (List Rt)} {r:Nat} {a b c a2 b2 c2:List Rat} {x y z x2 y2 z2:Et (llq rs)}
theorem ant (h:TR rs r) (hc:aer rs = 0) [c0:Ct (llq rs) 4000 300000] [i1:Zl (llq rs) 4000 300000 a x 40 40] [i2:Zl (llq rs) 4000 300000 b y 40 40] [i3:Zl (llq rs) 4000 300000 c z 3 0] [i4:Zl (llq rs) 4000 300000 a2 x2 40 40] [i5:Zl (llq rs) 4000 300000 b2 y2 40 40] [i6:Zl (llq rs) 4000 300000 c2 z2 3 0] :
  Con prog 137 [.ptr 1000 0,.agg [nA a,nA b,nA c],.agg [nA a2,nA b2,nA c2]] [(1000,some (mdB rs))] (.tup [nA (sX (ajy (x,y) z (x2,y2) z2)),nA (sX (d2E (x,y) (x2,y2)))]) [(1000,some (mdB rs))]:=by
 have hd:=avc (a:=a) (b:=b) (a2:=a2) (b2:=b2) h hc;haveI:=i3.zu;haveI:=i6.zu;haveI zd:=bdy c0 i1.zu i2.zu i4.zu i5.zu;haveI q4:Qz 4000 ((4:Int):Rat) 1:=Qz.int (c:=Ct.cx (c:=c0)) (by decide);have m1:=beh (a:=c) (b:=sX (d2E (x,y) (x2,y2))) h hc (by decide);have m2:=a33 (a:=sX (z + d2E (x,y) (x2,y2))) (b:=c2) h hc (by decide);have m3:=av9 (a:=c) (b:=sX (d2E (x,y) (x2,y2))) h hc (by decide);have m4:=a4f (a:=sX (z * d2E (x,y) (x2,y2))) h hc 4 oz (by decide);have m5:=av9 (a:=sX (z + d2E (x,y) (x2,y2) - z2)) (b:=sX (z + d2E (x,y) (x2,y2) - z2)) h hc (by decide);have m6:=a33 (a:=sX (qE ((4:Int):Rat) * (z * d2E (x,y) (x2,y2)))) (b:=sX ((z + d2E (x,y) (x2,y2) - z2) * (z + d2E (x,y) (x2,y2) - z2))) h hc (by decide);refine gF func137 (fun k z h=>aa3 h) ?_;refine gc hd ?_;refine gt (aaf (aj5 _ _) (ev3 rfl rfl rfl) rfl rfl rfl) ?_;refine gD ?_;refine gt (aaf m1 (ev3 rfl rfl rfl) rfl rfl rfl) ?_;refine gt (aaf m2 (ev3 rfl rfl rfl) rfl rfl rfl) ?_;refine gD ?_;refine gt (aaf m3 (ev3 rfl rfl rfl) rfl rfl rfl) ?_;refine gt (aaf m4 (.cons (.tmp rfl) (.cons (.const _) (ev1 rfl))) rfl rfl rfl) ?_;refine gt (aaf m5 (ev3 rfl rfl rfl) rfl rfl rfl) ?_;refine gt (aaf m6 (ev3 rfl rfl rfl) rfl rfl rfl) ?_;refine gR ?_;exact Fin.keep (abt rfl)
theorem au2 (h:TR rs r) (hc:aer rs = 0) [c0:Ct (llq rs) 4000 300000] [i1:Zl (llq rs) 4000 300000 a x 40 40] [i2:Zl (llq rs) 4000 300000 b y 40 40] [i3:Zl (llq rs) 4000 300000 c z 3 0] [i4:Zl (llq rs) 4000 300000 a2 x2 40 40] [i5:Zl (llq rs) 4000 300000 b2 y2 40 40] [i6:Zl (llq rs) 4000 300000 c2 z2 3 0]
  (s1:0 <= sgE z) (s2:0 <= sgE z2):FnC prog 56 [ahu rs,.agg [nA a,nA b,nA c],.agg [nA a2,nA b2,nA c2]] (.tup [nA (sX (ajy (x,y) z (x2,y2) z2)),.v .nilIface]):=by
 have hz:∀ q ∈ [(a, b, c), (a2, b2, c2)], CiZ rs q:=fun q hq=>by
  simp only [mem_cons,not_mem_nil,or_false] at hq;rcases hq with rfl | rfl
  ·exact ⟨i1.nm.mono oz,i2.nm.mono oz,i3.nm.mono oz,by show 0 <= sgE (dE (llq rs) c); rw [show dE (llq rs) c = z from i3.eq]; exact s1⟩
  ·exact ⟨i4.nm.mono oz,i5.nm.mono oz,i6.nm.mono oz,by show 0 <= sgE (dE (llq rs) c2); rw [show dE (llq rs) c2 = z2 from i6.eq]; exact s2⟩
 have hck:=ato h hc [(a,b,c),(a2,b2,c2)] hz (by show 2 <= 100; omega);refine gF0 func56 ?_;refine gc hck ?_;refine gC (fun ht18=>?_) (fun ht18=>?_) (st1:=(3,0)) (st2:=(5,0))
 ·cases ht18
 ·refine gW (Wk.o (sl:=[(4, some (.ptr 4 0)), (5, some (.ptr 5 0)), (9, some (.ptr 22 0))]) (hp:=[(4, some (.box [nA a, nA b, nA c])), (5, some (.box [nA a2, nA b2, nA c2])), (22, some (mdB rs))])) ?_;refine gt (aab (Con.rekeyB 22 rfl rfl rfl rfl (ant h hc)) (ev3 rfl rfl rfl) hHa rfl rfl) ?_;refine gC (fun ht34=>?_) (fun ht34=>?_) (st1:=(7,0))
  ·cases ht34
  ·refine gR ?_;exact ajj rfl
end
end Go.Lw
namespace Go.Lw
open Go.Proofs
class Cy (ts:LL) (u k:outParam Nat):Prop where
  ex:∃ R,Tw ts R /\ eB R ts.length <= k
  k1:1 <= k
  u3:3 <= u
  two:ts.length <= 2
instance Cy.cx {ts:LL} {u k:Nat} [c:Cy ts u k]:Cx (aae ts) ts.length u k:=by
  obtain ⟨R,tw,h⟩:=c.ex;exact ⟨⟨R,bgg tw ▸ tw,h⟩,c.k1,c.u3⟩
theorem Cy.zq {ts:LL} {u k:Nat} [c:Cy ts u k] {q:Rat} {w:Nat} [h:Qz u q w]:Zl ts u k (sh 0 (q:Rat)) (qE q:Et ts) w 0:=⟨ai6 _ q, by
 obtain ⟨R,tw,_⟩:=c.ex;exact (Nm.ofQ tw.five h.cb).eq oz⟩
theorem Cy.lm {ts:LL} {u k:Nat} (c:Cy ts u k):lm ts.length = 200000000000:=by unfold Go.Lw.lm; rw [if_pos c.two]
def iE {ts:LL} (y:Et ts):Et ts:=T.inv (aae ts) ts.length y
abbrev mdA (ts:LL):Blk:=.box [.lst 1 (ts.map nA),.v .nilIface]
theorem a6y (ts:LL):mdB (ts.map (List.map rt)) = mdA ts:=by
 have h:=ad2 ts;unfold ahu aa5 at h;have h1:=AV.agg.inj h
 injection h1 with h2
 show Blk.box [.lst 1 ((ts.map (List.map rt)).map nR),.v .nilIface] = _;rw [h2]
section
variable {ts:LL} {u k:Nat} {a b:List Rat} {x y:Et ts} {w v w' v':Nat}
theorem bp5 [c:Cy ts u k] [ha:Zl ts u k a x w v] [hb:Zl ts u k b y w' v'] (hs:w * u + v * k + (w' * u + v' * k) < 200000000000):FnC prog 274 [aa5 ts, nA a, nA b] (.tup [nA (sX (x + y)), .v .nilIface]):=by
 obtain ⟨R,tw,hk⟩:=c.ex;have h1:=a8i tw ha.nm hb.nm (by rw [c.lm]; omega);rw [ha.eq,hb.eq] at h1;exact h1
theorem bqr [c:Cy ts u k] [ha:Zl ts u k a x w v] [hb:Zl ts u k b y w' v'] (hs:w * u + v * k + (w' * u + v' * k) < 200000000000):FnC prog 147 [aa5 ts, nA a, nA b] (.tup [nA (sX (x - y)), .v .nilIface]):=by
 obtain ⟨R,tw,hk⟩:=c.ex;have h1:=ar1 tw ha.nm hb.nm (by rw [c.lm]; omega);rw [ha.eq,hb.eq] at h1;exact h1
theorem bp6 [c:Cy ts u k] [ha:Zl ts u k a x w v] [hb:Zl ts u k b y w' v'] (hs:w * u + v * k + (w' * u + v' * k) < 200000000000):FnC prog 148 [aa5 ts, nA a, nA b] (.tup [nA (sX (x * y)), .v .nilIface]):=by
 obtain ⟨R,tw,hk⟩:=c.ex;have h1:=baq tw ha.nm hb.nm (by rw [c.lm]; omega);rw [ha.eq,hb.eq] at h1;exact h1
theorem bn0 [c:Cy ts u k] [ha:Zl ts u k a x w v] (hs:w * u + v * k < 200000000000):FnC prog 73 [aa5 ts, nA a] (.tup [nA (sX (-x)), .v .nilIface]):=by
 obtain ⟨R,tw,hk⟩:=c.ex;have h1:=a7l tw ha.nm (by rw [c.lm]; omega);rw [ha.eq] at h1;exact h1
theorem bgm [c:Cy ts u k] [ha:Zl ts u k a x w v] (hs:w * u + v * k < 200000000000):FnC prog 192 [aa5 ts, nA a] (.tup [i64 (sgE x), .v .nilIface]):=by
 obtain ⟨R,tw,hk⟩:=c.ex;have h1:=a9f tw ha.nm (by rw [c.lm]; omega);rw [ha.eq] at h1;exact h1
theorem bpg {j m:Nat} [c:Cy ts u k] [ha:Zl ts u k a x w v] [hb:Zl ts u k b y w' v'] (nb:Nl j b) (hj:j <= ts.length) (h0:sgE y ≠ 0) (hm:∀ R, eB R ts.length <= k -> iB R j (w' * u + v' * k) <= m) (hf:w' * u + v' * k < 200000000000) (hs:w * u + v * k + m + k <= 200000000000) :
  FnC prog 198 [aa5 ts,nA a,nA b] (.tup [nA (sX (x * iE y)),.v .nilIface]) /\ Nm ts.length (w * u + v * k + m + k) (sX (x * iE y)):=by
 obtain ⟨R,tw,hk⟩:=c.ex;have hi:=hm R hk;have he:=hb.eq;have h1:T.sgn (aae ts) ts.length (dec ts.length b) ≠ 0:=by rw [he]; exact h0
 have hd:=a90 tw ha.nm hb.nm hj nb h1 (by rw [c.lm]; omega) oz;have hn:=ayh tw ha.nm hb.nm hj nb h1 (by rw [c.lm]; omega) oz;rw [ha.eq,he] at hd hn;exact ⟨hd,hn.mono oz⟩
theorem aqp {j:Nat} [c:Cy ts u k] [ha:Zl ts u k a x w v] [hb:Zl ts u k b y w' v'] (nb:Nl j b) (hj:j <= ts.length) (hj1:j <= 1) (h0:sgE y ≠ 0) (hs:(w + 5 * w') * u + (v + 5 * v' + 3) * k <= 200000000000) :
  FnC prog 198 [aa5 ts,nA a,nA b] (.tup [nA (sX (x * iE y)),.v .nilIface]) /\ Zu u k (x * iE y) (w + 5 * w') (v + 5 * v' + 3):=by
 have e:(w + 5 * w') * u + (v + 5 * v' + 3) * k = w * u + v * k + (5 * (w' * u + v' * k) + 2 * k) + k:=by
  simp only [Nat.add_mul,Nat.mul_add,Nat.mul_assoc]; omega
 rw [e] at hs
 have h:=bpg (a:=a) (b:=b) (m:=5 * (w' * u + v' * k) + 2 * k) nb hj h0 (fun R hR=>by
  have h2:=bg5 R (w' * u + v' * k) hj1;have h3:=atl R hj;omega) oz hs
 exact ⟨h.1,⟨h.2.eq e.symm⟩⟩
theorem ajh (ts:LL) (a:List Rat):Con prog 190 [.ptr 1000 0, nA a, .v .nilIface] [(1000, some (mdA ts))] (nA a) [(1000, some (mdA ts))]:=by
 have h:=aj5 (ts.map (List.map rt)) a;rw [a6y] at h;exact h
theorem ak7 (ts:LL) (a:List Rat):Con prog 55 [.ptr 1000 0, nA a, .v .nilIface] [(1000, some (mdA ts))] (nA a) [(1000, some (mdA ts))]:=by
 have h:=ahe (ts.map (List.map rt)) a;rw [a6y] at h;exact h
theorem agz [c:Cy ts u k] [ha:Zl ts u k a x w v] [hb:Zl ts u k b y w' v'] (hs:w * u + v * k + (w' * u + v' * k) < 200000000000) :
  Con prog 185 [.ptr 1000 0,nA a,nA b] [(1000,some (mdA ts))] (nA (sX (x + y))) [(1000,some (mdA ts))]:=by
 refine gF func185 (fun k z h=>aa3 h) ?_;refine gc (bp5 hs) ?_;refine gt (aab (ajh _ _) (ev3 rfl rfl rfl) hHa rfl rfl) ?_;refine gR ?_;exact Fin.keep (abt rfl)
theorem aie [c:Cy ts u k] [ha:Zl ts u k a x w v] [hb:Zl ts u k b y w' v'] (hs:w * u + v * k + (w' * u + v' * k) < 200000000000) :
  Con prog 181 [.ptr 1000 0,nA a,nA b] [(1000,some (mdA ts))] (nA (sX (x - y))) [(1000,some (mdA ts))]:=by
 refine gF func181 (fun k z h=>aa3 h) ?_;refine gc (bqr hs) ?_;refine gt (aab (ajh _ _) (ev3 rfl rfl rfl) hHa rfl rfl) ?_;refine gR ?_;exact Fin.keep (abt rfl)
theorem agd [c:Cy ts u k] [ha:Zl ts u k a x w v] [hb:Zl ts u k b y w' v'] (hs:w * u + v * k + (w' * u + v' * k) < 200000000000) :
  Con prog 191 [.ptr 1000 0,nA a,nA b] [(1000,some (mdA ts))] (nA (sX (x * y))) [(1000,some (mdA ts))]:=by
 refine gF func191 (fun k z h=>aa3 h) ?_;refine gc (bp6 hs) ?_;refine gt (aab (ajh _ _) (ev3 rfl rfl rfl) hHa rfl rfl) ?_;refine gR ?_;exact Fin.keep (abt rfl)
theorem arw {q:List Rat} (hd:FnC prog 198 [aa5 ts, nA a, nA b] (.tup [nA q, .v .nilIface])) :
  Con prog 184 [.ptr 1000 0,nA a,nA b] [(1000,some (mdA ts))] (nA q) [(1000,some (mdA ts))]:=by
 refine gF func184 (fun k z h=>aa3 h) ?_;refine gc hd ?_;refine gt (aab (ajh _ _) (ev3 rfl rfl rfl) hHa rfl rfl) ?_;refine gR ?_;exact Fin.keep (abt rfl)
theorem ak5 [c:Cy ts u k] [ha:Zl ts u k a x w v] (hs:w * u + v * k < 200000000000) :
  Con prog 178 [.ptr 1000 0,nA a] [(1000,some (mdA ts))] (i64 (sgE x)) [(1000,some (mdA ts))]:=by
 refine gF func178 (fun k z h=>aa3 h) ?_;refine gC (fun ht11=>?_) (fun ht11=>?_) (st1:=(2,0))
 ·cases ht11
 ·refine gc (bgm hs) ?_;refine gR ?_;exact Fin.keep (abt rfl)
theorem avk {q:List Rat} (hd:FnC prog 198 [aa5 ts, nA a, nA b] (.tup [nA q, .v .nilIface])) :
  Con prog 89 [.ptr 1000 0,nA a,nA b] [(1000,some (mdA ts))] (nA q) [(1000,some (mdA ts))]:=by
 refine gF func89 (fun k z h=>aa3 h) ?_;refine gc hd ?_;refine gt (aab (ak7 _ _) (ev3 rfl rfl rfl) hHa rfl rfl) ?_;refine gR ?_;exact Fin.keep (abt rfl)
theorem avx [c:Cy ts u k] [ha:Zl ts u k a x w v] (hs:w * u + v * k < 200000000000) :
  Con prog 86 [.ptr 1000 0,nA a] [(1000,some (mdA ts))] (i64 (sgE x)) [(1000,some (mdA ts))]:=by
 refine gF func86 (fun k z h=>aa3 h) ?_;refine gC (fun ht11=>?_) (fun ht11=>?_) (st1:=(2,0))
 ·cases ht11
 ·refine gc (bgm hs) ?_;refine gR ?_;exact Fin.keep (abt rfl)
theorem aqw [c:Cy ts u k] (n:Int) (hn:-9223372036854775808 <= n /\ n <= 9223372036854775807) [hq:Qz u (n:Rat) w'] [ha:Zl ts u k a x w v] (hs:w' * u + 0 * k + (w * u + v * k) < 200000000000) :
  Con prog 182 [.ptr 1000 0,i64 n,nA a] [(1000,some (mdA ts))] (nA (sX (qE (n:Rat) * x))) [(1000,some (mdA ts))]:=by
 haveI:=Cy.zq (ts:=ts) (u:=u) (k:=k) (q:=(n:Rat)) (w:=w');have hm:=agd (ts:=ts) (u:=u) (k:=k) (a:=sh 0 ((n:Rat):Rat)) (b:=a) (x:=qE (n:Rat)) (y:=x) hs;refine gF func182 (fun k z h=>aa3 h) ?_;refine gc (ac1 n hn) ?_;refine gc (a09 (apf hn)) ?_;refine gt (aab hm (ev3 rfl rfl rfl) hHa rfl rfl) ?_;refine gR ?_;exact Fin.keep (abt rfl)
theorem akj {p1 p2 v1 v2 c m1 m2 q1 q2:List Rat} (h1:Con prog 191 [.ptr 1000 0, nA c, nA v1] [(1000, some (mdA ts))] (nA m1) [(1000, some (mdA ts))])
  (h2:Con prog 191 [.ptr 1000 0,nA c,nA v2] [(1000,some (mdA ts))] (nA m2) [(1000,some (mdA ts))])
  (h3:Con prog 185 [.ptr 1000 0,nA p1,nA m1] [(1000,some (mdA ts))] (nA q1) [(1000,some (mdA ts))])
  (h4:Con prog 185 [.ptr 1000 0,nA p2,nA m2] [(1000,some (mdA ts))] (nA q2) [(1000,some (mdA ts))]) :
  Con prog 183 [.ptr 1000 0,ptA p1 p2,nA c,ptA v1 v2] [(1000,some (mdA ts))] (ptA q1 q2) [(1000,some (mdA ts))]:=by
 refine gF func183 (fun k z h=>aa3 h) ?_;refine gt (aab h1 (ev3 rfl rfl rfl) hHa rfl rfl) ?_;refine gt (aab h3 (ev3 rfl rfl rfl) hHa rfl rfl) ?_;refine gt (aab h2 (ev3 rfl rfl rfl) hHa rfl rfl) ?_;refine gt (aab h4 (ev3 rfl rfl rfl) hHa rfl rfl) ?_;refine gD ?_;refine gR ?_;exact Fin.keep (abt rfl)
theorem atq {r e:Nat} (tw:Tw ts r) (ha:Nm ts.length e a) (he:e <= lm ts.length) (hs:0 <= T.sgn (aae ts) ts.length (dec ts.length a)) :
  Con prog 186 [.ptr 1000 0,nA a] [(1000,some (mdA ts))] (nA (adb ts.length)) [(1000,some (mdA (ab2 ts a)))]:=by
 refine gF func186 (fun k z h=>aa3 h) ?_;refine gC (fun ht12=>?_) (fun ht12=>?_) (st1:=(2,0))
 ·cases ht12
 ·refine gc (ayz tw ha he hs) ?_;refine gC (fun ht24=>?_) (fun ht24=>?_) (st1:=(5,0))
  ·cases ht24
  ·refine gR ?_;exact Fin.keep (abt rfl)
abbrev bp9 (ts:LL) (ps:List AV):AV:=.agg [.lst 1 (ts.map nA),.lst 2 ps]
theorem bkr {r:Nat} (tw:Tw ts r):Con prog 273 [.ptr 1000 0] [(1000, some (mdA ts))] (aa5 ts) [(1000, some (mdA ts))]:=by
 have h3:=tw.three;have hqs:=tw.rb.qs tw.le;refine gF func273 (fun k z h=>aa3 h) ?_;refine gl ?_;refine gW (Wk.virt 900 1 rfl) ?_;refine gL1 [2,3,13,14] [1000,2] (fun (i:Nat)=>[(15,some (i64 i))]) (fun i=>[(3,some (.box [.ms 900 1 0 i])),(900,some (.row 1 ((ts.take i).map nA)))]) (fun i=>i <= ts.length) (fun i=>ts.length - i) 0 (zero_le _) ?_ (h2:=(.cons rfl (BlkSub.boxL (.cons (.nilMs _ _ _) .nil) rfl) (.k .nil)));rintro i hi K1 hK1;refine gC (fun ht16=>?_) (fun ht16=>?_) (st2:=(13,0))
 ·have hin:=aa9 ht16;obtain ⟨d,hd⟩:=ab5 hin
  have hdl:d.length <= 32:=by
   have h9:=tw.len i hin;rw [aah hd] at h9;have:2 ^ i <= 32:=aax (b:=5) oz;omega
  have hdq:=hqs d (mem_of_getElem? hd);refine gi (aag hd) ?_;refine gl ?_;refine gW (Wk.virt 901 3 rfl) ?_;refine gL1 [2,3,13,14,15,19,20] [1000,2,3,900] (fun (j:Nat)=>[(6,some (.ms 901 3 0 j)),(21,some (i64 j))]) (fun j=>[(901,some (.row 3 ((d.take j).map qA)))]) (fun j=>j <= d.length) (fun j=>d.length - j) 0 (zero_le _) ?_;rintro j hj K2 hK2;refine gC (fun ht22=>?_) (fun ht22=>?_) (st2:=(11,0))
  ·have hjn:=aa9 ht22;obtain ⟨q,hq⟩:=ab5 hjn;have hadd:=adq (rt q) (rt 0) (hdq q (mem_of_getElem? hq)).ok Qs.zero.ok;rw [bck,agm] at hadd;refine gi (aag hq) ?_;refine gc (Con.subA (.cons (.refl _) (.cons ai1 .nil)) hadd) ?_;refine gs (aa0 (.tmp rfl) rfl (by rw [length_map,length_take]; omega) (.tmp rfl) T46 rfl T29 rfl rfl (by simp only [length_cons,length_nil]; omega) rfl rfl) ?_ (10,0);refine gW (Wk.of (sl:=[(2,some (.ptr 2 0)),(3,some (.ptr 3 0)),(13,some (.lst 1 (ts.map nA))),(14,some (i64 ts.length)),(15,some (i64 i)),(6,some (.ms 30 3 0 (j + 1))),(19,some (nA d)),(20,some (i64 d.length)),(21,some (i64 j))]) (hp:=[(1000,some (mdA ts)),(2,some (.box [.v (.slice none 0 0)])),(3,some (.box [.ms 900 1 0 i])),(900,some (.row 1 ((ts.take i).map nA))),(30,some (.row 3 ((d.take (j + 1)).map qA)))]) aa6 (.k (.k (.k (.k (.cons rfl (BlkSub.of (by rw [aaj hq,map_append]; rfl)) .nil)))))) ?_ (10,0)
   refine gW (Wk.rekey (k:=30) (d:=901) rfl rfl) ?_;refine ga aat ?_;exact gK1 hK2 (j + 1) hjn
  ·have hjn:=aan hj ht22;subst hjn;refine gW ((Wk.freeze (k:=901) rfl).trans <| Wk.of (sl:=[(2,some (.ptr 2 0)),(3,some (.ptr 3 0)),(13,some (.lst 1 (ts.map nA))),(14,some (i64 ts.length)),(15,some (i64 i)),(6,some (nA d))]) (hp:=[(1000,some (mdA ts)),(2,some (.box [.v (.slice none 0 0)])),(3,some (.box [.ms 900 1 0 i])),(900,some (.row 1 ((ts.take i).map nA)))]) (.k (.k (.k (.k (.k (.cons rfl (Sub.of (by rw [abq (by simp)]; simp [nA])) .nil)))))) (.k (.k (.k (.k .nil))))) ?_
   refine gs (aa0 (.tmp rfl) rfl (by rw [length_map,length_take]; omega) (.tmp rfl) T34 rfl T46 rfl rfl (by simp only [length_cons,length_nil]; omega) rfl rfl) ?_ (12,0);refine gW (Wk.of (sl:=[(2,some (.ptr 2 0)),(3,some (.ptr 3 0)),(13,some (.lst 1 (ts.map nA))),(14,some (i64 ts.length)),(15,some (i64 i))]) (hp:=[(1000,some (mdA ts)),(2,some (.box [.v (.slice none 0 0)])),(3,some (.box [.ms 36 1 0 (i + 1)])),(36,some (.row 1 ((ts.take (i + 1)).map nA)))]) aa6 (.k (.k (.k (.cons rfl (BlkSub.of (by rw [aaj hd,map_append]; rfl)) .nil))))) ?_ (12,0);refine gW (Wk.rekey (k:=36) (d:=900) rfl rfl) ?_;refine ga aat ?_;exact gK1 hK1 (i + 1) hin
 ·have hin:=aan hi ht16;subst hin;refine gW ((Wk.freeze (k:=900) rfl).trans <| Wk.of (sl:=[(2,some (.ptr 2 0)),(3,some (.ptr 3 0))]) (hp:=[(1000,some (mdA ts)),(2,some (.box [.v (.slice none 0 0)])),(3,some (.box [.lst 1 (ts.map nA)]))]) aa6 (.k (.k (.cons rfl (BlkSub.boxL (.cons (Sub.of (by rw [abq (by simp)]; simp)) .nil) rfl) .nil)))) ?_;refine gR ?_;exact Fin.keep (abt rfl)
theorem akd {r:Nat} (tw:Tw ts r) (ps:List AV):Con prog 180 [.ptr 1000 0, .lst 2 ps] [(1000, some (mdA ts))] (.tup [bp9 ts ps, .v .nilIface]) [(1000, some (mdA ts))]:=by
 refine gF func180 (fun k z h=>aa3 h) ?_;refine gC (fun ht10=>?_) (fun ht10=>?_) (st1:=(2,0))
 ·cases ht10
 ·refine gt (aab (bkr tw) (ev1 rfl) hHa rfl rfl) ?_;refine gR ?_;exact Fin.keep (abt rfl)
end
end Go.Lw
namespace Go.Lw
theorem acv (ts:LL) (a:List Rat):(ab2 ts a).length = ts.length + 1:=by simp [ab2]
theorem a9e {ts:LL} {a:List Rat} {j:Nat} (h:j < ts.length):(ab2 ts a).getD j [] = ts.getD j []:=by
 unfold ab2;rw [getD_eq_getElem?_getD,getD_eq_getElem?_getD,getElem?_append_left h]
theorem a2q (ts:LL) (a:List Rat):(ab2 ts a).getD ts.length [] = aay a (2 ^ ts.length):=by
 unfold ab2;rw [getD_eq_getElem?_getD,getElem?_append_right (le_refl _),Nat.sub_self]; rfl
theorem a1w {ts:LL} {a:List Rat} {j:Nat} (h:j < ts.length):aae (ab2 ts a) j = aae ts j:=by
 unfold aae; rw [a9e h]
theorem a9i {ts:LL} {a:List Rat} {j:Nat} (h:j <= ts.length) (x:T j):T.sgn (aae (ab2 ts a)) j x = T.sgn (aae ts) j x :=
 T.sgn_congr j (fun i hi=>a1w oz) x
theorem RB.ext {r e:Nat} {ts:LL} {a:List Rat} (h:RB r ts) (ha:Cb e a):RB (r + e) (ab2 ts a):=by
 obtain ⟨D,N,h0,h1,h2,h3⟩:=h;obtain ⟨D',N',k1,k2,k3⟩:=ha.wide (n:=2 ^ ts.length);have hN:N <= 2 ^ r:=h3;refine ⟨D * D',max (N * D') (N' * D),Nat.mul_pos h0 k1.1,?_,?_,?_⟩
 ·intro d hd;rcases List.mem_append.1 hd with h9 | h9
  ·exact ((h1 d h9).scale k1.1).mono (Nat.le_max_left _ _)
  ·rw [List.mem_singleton.1 h9, Nat.mul_comm D];exact (k1.scale h0).mono (Nat.le_max_right _ _)
 ·rw [pow_add]; exact Nat.mul_le_mul h2 k2
 ·rw [pow_add];refine Nat.max_le.2 ⟨Nat.mul_le_mul h3 k2,?_⟩;rw [Nat.mul_comm (2 ^ r)];exact Nat.mul_le_mul k3 h2
theorem bfo {r e:Nat} {ts:LL} {a:List Rat} (tw:Tw ts r) (h2:ts.length <= 2) (ha:Nm ts.length e a) (he:r + e <= 5000000000) (hs:0 <= T.sgn (aae ts) ts.length (dec ts.length a)):Tw (ab2 ts a) (r + e):=by
 refine ⟨by rw [acv]; omega,?_,?_,tw.rb.ext ha.cb,he⟩
 ·intro j hj;rw [acv] at hj;rcases lt_or_ge j ts.length with h | h
  ·rw [a9e h]; exact tw.len j h
  ·have : j = ts.length := by omega
   subst this;rw [a2q]; exact abm ha.nl.le
 ·intro j hj;rw [acv] at hj;rw [a9i oz];rcases lt_or_ge j ts.length with h | h
  ·rw [a1w h]; exact tw.pos j h
  ·have : j = ts.length := by omega
   subst this
   have e1:aae (ab2 ts a) ts.length = dec ts.length a:=by
    show dec ts.length ((ab2 ts a).getD ts.length []) = _;rw [a2q,anh]
   rw [e1]; exact hs
theorem afs {ts:LL} {a l:List Rat} {e:Nat} (h:Nm ts.length e l) (h4:ts.length <= 4):Nm (ab2 ts a).length e l:=by
 rw [acv];exact ⟨by omega,h.nl.mono oz,h.cb⟩
theorem bi9 {ts:LL} {a l:List Rat} (h:Nl ts.length l):sgE (dE (ab2 ts a) l) = sgE (dE ts l):=by
 unfold sgE dE;rw [acv];show T.sgn (aae (ab2 ts a)) (ts.length + 1) (dec (ts.length + 1) l) = _;rw [al1 (aae (ab2 ts a)) h.le (Nat.le_succ _),a9i (le_refl _)]
theorem aov {ts:LL} {a:List Rat} (h4:ts.length <= 4):Nm (ab2 ts a).length 1 (adb ts.length):=by
 rw [acv];refine ⟨by omega,.inr ⟨_,le_refl _,anr _⟩,1,1,⟨by omega,?_⟩,by omega,by omega⟩;intro q hq;unfold adb at hq;rcases List.mem_or_eq_of_mem_set hq with h | h
 ·rw [(List.mem_replicate.1 h).2];exact ⟨0,by rw [Rat.zero_mul]; rfl,by simp⟩
 ·rw [h];exact ⟨1,by rw [Rat.one_mul]; rfl,by simp⟩
theorem bnr {r e k:Nat} {ts:LL} {a:List Rat} (tw:Tw ts r) (h1:ts.length <= 1) (ha:Nm ts.length e a) (he:r + e <= 5000000000) (hs:0 <= T.sgn (aae ts) ts.length (dec ts.length a)) {u:Nat} (hu:3 <= u) (hk:3 * (r + e) + 6 <= k):Cy (ab2 ts a) u k :=
 ⟨⟨r + e, bfo tw oz ha he hs, by
  rw [acv];have h:=atl (r + e) (show ts.length + 1 <= 2 by omega);have h2:eB (r + e) 2 = 3 * (r + e) + 6:=by simp only [eB]; omega
  omega⟩,by omega,hu,by rw [acv]; omega⟩
end Go.Lw
namespace Go.Lw
open Go.Proofs
structure Mt where
  ts:LL
  ps:List (List Rat × List Rat)
abbrev lpA (p:List Rat × List Rat):AV:=ptA p.1 p.2
abbrev Mt.av (m:Mt):AV:=bp9 m.ts (m.ps.map lpA)
abbrev P2 (ts:LL):Type:=Et ts × Et ts
abbrev P2.l {ts:LL} (p:P2 ts):List Rat × List Rat:=(sX p.1,sX p.2)
abbrev upE {ts:LL} (X:Et ts) (x:Et ts):Et (ab2 ts (sX X)):=dE (ab2 ts (sX X)) (sX x)
section
variable {ts:LL}
def twE (d:Et ts):Et ts:=qE ((2:Int):Rat) * d
def awr (p q:P2 ts):P2 ts:=(q.1 - p.1,q.2 - p.2)
def alE (p:P2 ts) (k:Et ts) (v:P2 ts):P2 ts:=(p.1 + k * v.1,p.2 + k * v.2)
def apz (p q:P2 ts) (z z2:Et ts):P2 ts:=alE p ((z + d2E p q - z2) * iE (twE (d2E p q))) (awr p q)
def ag0 (X d:Et ts):Et (ab2 ts (sX X)):=dE _ (adb ts.length) * iE (upE X (twE d))
def ami (X:Et ts) (f v:P2 ts) (c:Et (ab2 ts (sX X))):P2 (ab2 ts (sX X)):=alE (upE X f.1,upE X f.2) c (qE ((-1:Int):Rat) * upE X v.2,upE X v.1)
def bbu (p:P2 ts) (z z2:Et ts):Mt:=if sgE (z - z2) ≠ 0 then ⟨ts,[]⟩ else if 0 < sgE z then ⟨[],[]⟩ else ⟨ts,[(alE p 0 p).l]⟩
def asq (p q:P2 ts) (z z2:Et ts):Mt :=
  if sgE (d2E p q) = 0 then bbu p z z2
  else if sgE (ajy p z q z2) < 0 then ⟨ts,[]⟩
  else if sgE (ajy p z q z2) = 0 then ⟨ts,[(apz p q z z2).l]⟩
  else ⟨ab2 ts (sX (ajy p z q z2)), [(ami (ajy p z q z2) (apz p q z z2) (awr p q) (ag0 (ajy p z q z2) (d2E p q))).l,
    (ami (ajy p z q z2) (apz p q z z2) (awr p q) (qE ((-1:Int):Rat) * ag0 (ajy p z q z2) (d2E p q))).l]⟩
def bbx (z z2:Et ts):Nat:=if sgE (z - z2) = 0 /\ 0 < sgE z then 15 else 0
def atf (p q:P2 ts) (z z2:Et ts):Nat:=if sgE (d2E p q) = 0 then bbx z z2 else 0
theorem aqc:Sub (.agg [.v (.slice none 0 0),.v (.slice none 0 0)]) (bp9 [] []):=Sub.agg (.cons (.nil _ _ _) (.cons (.nil _ _ _) .nil)) rfl
end
theorem azb {ts : LL} {u k : Nat} [c : Cy ts u k] : Zl ts u k [] (0 : Et ts) 0 0 := ⟨by rw [ae7]; exact E.zero_def.symm, by
 obtain ⟨R,tw,_⟩:=c.ex;exact ⟨tw.five,.inl rfl,Cb.nil.mono (zero_le _)⟩⟩
section
variable {ts:LL} {a b c a2 b2 c2:List Rat} {x y z x2 y2 z2:Et ts}
theorem bea {r:Nat} (tw:Tw ts r) [c0:Cy ts 4000 300000] [i1:Zl ts 4000 300000 a x 40 40] [i2:Zl ts 4000 300000 b y 40 40] [i3:Zl ts 4000 300000 c z 3 0] [i6:Zl ts 4000 300000 c2 z2 3 0] :
  Con prog 179 [.ptr 1000 0, .agg [nA a, nA b, nA c], .agg [nA a2, nA b2, nA c2]] [(1000, some (mdA ts))]
   (.tup [(bbu (x,y) z z2).av,ai2 (bbx z z2)]) [(1000,some (mdA ts))]:=by
 haveI:=i1.zu;haveI:=i2.zu;haveI:=i3.zu;haveI:=i6.zu;have hm0:=Con.subA (.cons (.refl _) (.cons (Sub.nil 2 none 0) .nil)) (akd tw []);have m1:=aie (ts:=ts) (u:=4000) (k:=300000) (a:=c) (b:=c2) (by decide);have m2:=ak5 (ts:=ts) (u:=4000) (k:=300000) (a:=sX (z - z2)) (by decide);have m3:=ak5 (ts:=ts) (u:=4000) (k:=300000) (a:=c) (by decide);haveI zn:Zl ts 4000 300000 [] (0:Et ts) 0 0:=azb;have n1:=agd (ts:=ts) (u:=4000) (k:=300000) (a:=[]) (b:=a) (by decide);have n2:=agd (ts:=ts) (u:=4000) (k:=300000) (a:=[]) (b:=b) (by decide);have n3:=agz (ts:=ts) (u:=4000) (k:=300000) (a:=a) (b:=sX (0 * x)) (by decide);have n4:=agz (ts:=ts) (u:=4000) (k:=300000) (a:=b) (b:=sX (0 * y)) (by decide);have hal:=Con.subA (.cons (.refl _) (.cons (.refl _) (.cons (Sub.nil 3 none 0) (.cons (.refl _) .nil)))) (akj n1 n2 n3 n4);refine gF func179 (fun k z h=>aa3 h) ?_;refine gt (aaf m1 (ev3 rfl rfl rfl) rfl rfl rfl) ?_;refine gt (aaf m2 (ev2 rfl rfl) rfl rfl rfl) ?_;refine gC (fun ht8=>?_) (fun ht8=>?_)
 ·have h1:sgE (z - z2) ≠ 0:=ay5 ht8;refine gt (aaf hm0 (.cons (.tmp rfl) (.cons (.const _) .nil)) rfl rfl rfl) ?_;refine gR ?_;exact (Fin.keep (abt rfl)).sub (Sub.of (by unfold bbu bbx; rw [if_pos h1,if_neg (fun h=>h1 h.1)]; rfl))
 ·have h1:sgE (z - z2) = 0:=a9h ht8;refine gt (aaf m3 (ev2 rfl rfl) rfl rfl rfl) ?_;refine gC (fun ht22=>?_) (fun ht22=>?_)
  ·have h2:0 < sgE z:=of_decide_eq_true ht22;refine gR ?_;exact (Fin.keep (abt rfl)).sub (by unfold bbu bbx; rw [if_neg oz,if_pos h2,if_pos ⟨h1,h2⟩]; exact Sub.tup (.cons aqc (.cons (.refl _) .nil)))
  ·have h2:¬ 0 < sgE z:=of_decide_eq_false ht22;refine gt (aaf hal (.cons (.tmp rfl) (.cons (.tmp rfl) (.cons (.const _) (ev1 rfl)))) rfl rfl rfl) ?_;refine gt (aaf (akd tw [ptA (sX (x + 0 * x)) (sX (y + 0 * y))]) (ev2 rfl rfl) rfl rfl rfl) ?_;refine gR ?_;exact (Fin.keep (abt rfl)).sub (Sub.of (by unfold bbu bbx; rw [if_neg oz,if_neg h2,if_neg (fun h=>h2 h.2)]; rfl))
end
section
variable {rs:List (List Rt)} {r:Nat} {a b c a2 b2 c2:List Rat} {x y z x2 y2 z2:Et (llq rs)}
structure CirP (ts:LL) (p q:P2 ts) (z z2:Et ts):Prop where
  zd:Zu 4000 300000 (d2E p q) 320 327
  zX:Zu 4000 300000 (ajy p z q z2) 976 989
  zt:Zu 4000 300000 (twE (d2E p q)) 321 328
  z1:Zu 4000 300000 (awr p q).1 80 81
  z2:Zu 4000 300000 (awr p q).2 80 81
theorem a0e {ts:LL} {x y z x2 y2 z2:Et ts} (c:Ct ts 4000 300000) (h1:Zu 4000 300000 x 40 40) (h2:Zu 4000 300000 y 40 40) (h3:Zu 4000 300000 z 3 0) (h4:Zu 4000 300000 x2 40 40) (h5:Zu 4000 300000 y2 40 40) (h6:Zu 4000 300000 z2 3 0) :
  CirP ts (x,y) (x2,y2) z z2:=by
 haveI:=c; haveI:=h1; haveI:=h2; haveI:=h3; haveI:=h4; haveI:=h5; haveI:=h6
 haveI zd:=bdy c h1 h2 h4 h5;haveI q4:Qz 4000 ((4:Int):Rat) 1:=Qz.int (c:=Ct.cx (c:=c)) (by decide);haveI q2:Qz 4000 ((2:Int):Rat) 1:=Qz.int (c:=Ct.cx (c:=c)) (by decide)
 exact ⟨zd, (inferInstance:Zu 4000 300000 (qE ((4:Int):Rat) * (z * d2E (x, y) (x2, y2)) - (z + d2E (x, y) (x2, y2) - z2) * (z + d2E (x, y) (x2, y2) - z2)) _ _),
  (inferInstance:Zu 4000 300000 (qE ((2:Int):Rat) * d2E (x,y) (x2,y2)) _ _),(inferInstance:Zu 4000 300000 (x2 - x) _ _),(inferInstance:Zu 4000 300000 (y2 - y) _ _)⟩
theorem bg2 {ts:LL} {x y z x2 y2 z2:Et ts} [c0:Cy ts 4000 300000] (hn:ts.length <= 1) (h1:Zu 4000 300000 x 40 40) (h2:Zu 4000 300000 y 40 40) (h3:Zu 4000 300000 z 3 0) (h6:Zu 4000 300000 z2 3 0) (P:CirP ts (x, y) (x2, y2) z z2)
  (h0:sgE (twE (d2E (x,y) (x2,y2))) ≠ 0) :
  FnC prog 198 [aa5 ts,nA (sX (z + d2E (x,y) (x2,y2) - z2)),nA (sX (twE (d2E (x,y) (x2,y2))))] (.tup [nA (sX ((z + d2E (x,y) (x2,y2) - z2) * iE (twE (d2E (x,y) (x2,y2))))),.v .nilIface]) /\
  Zu 4000 300000 ((z + d2E (x,y) (x2,y2) - z2) * iE (twE (d2E (x,y) (x2,y2)))) 1931 1972 /\ Zu 4000 300000 (apz (x,y) (x2,y2) z z2).1 2051 2095 /\ Zu 4000 300000 (apz (x,y) (x2,y2) z z2).2 2051 2095:=by
 haveI:=h1; haveI:=h2; haveI:=h3; haveI:=h6; haveI:=P.zd; haveI:=P.zt
 have hd:=aqp (ts:=ts) (u:=4000) (k:=300000) (a:=sX (z + d2E (x,y) (x2,y2) - z2)) (b:=sX (twE (d2E (x,y) (x2,y2)))) (j:=ts.length) P.zt.nm.nl (le_refl _) hn h0 (by decide);haveI zk:=hd.2;haveI:=P.z1; haveI:=P.z2
 exact ⟨hd.1, zk, (inferInstance:Zu 4000 300000 (x + ((z + d2E (x, y) (x2, y2) - z2) * iE (twE (d2E (x, y) (x2, y2)))) * (awr (x, y) (x2, y2)).1) _ _),
  (inferInstance:Zu 4000 300000 (y + ((z + d2E (x,y) (x2,y2) - z2) * iE (twE (d2E (x,y) (x2,y2)))) * (awr (x,y) (x2,y2)).2) _ _)⟩
structure ExtP {ts:LL} (X:Et ts):Prop where
  tw:Tw (ab2 ts (sX X)) 300644000
  cy:Cy (ab2 ts (sX X)) 700000000 1000000000
theorem ame {ts:LL} {X:Et ts} (tw:Tw ts 40000) (hn:ts.length <= 1) (hx:Zu 4000 300000 X 976 989) (hs:0 <= sgE X):ExtP X:=by
 have h9:0 <= T.sgn (aae ts) ts.length (dec ts.length (sX X)):=by rw [show dec ts.length (sX X) = X from aa4 _ _]; exact hs
 have hm:=hx.nm;exact ⟨bfo tw oz hm (by decide) h9,bnr tw hn hm (by decide) h9 oz (by decide)⟩
theorem ali {ts:LL} {X x:Et ts} {w v:Nat} (hn:ts.length <= 1) (h:Zu 4000 300000 x w v) (hs:w * 4000 + v * 300000 <= 700000000):Zl (ab2 ts (sX X)) 700000000 1000000000 (sX x) (upE X x) 1 0:=Zl.at (afs h.nm oz) hs
theorem bcj {ts:LL} {X x:Et ts}:sgE (upE X x) = sgE x:=by
 show sgE (dE (ab2 ts (sX X)) (sX x)) = _;rw [bi9 (l:=sX x) (ahs _ _)];show sgE (dE ts (sX x)) = _;rw [show dE ts (sX x) = x from aa4 _ _]
theorem bhj {ts:LL} {r:Nat} (tw:Tw ts r) (d:Et ts):sgE (twE d) = sgE d:=by
 have h:=aps (aae ts) ts.length tw.pos
 have h2:sg (aae ts) ts.length (qE ((2:Int):Rat):Et ts) = 1:=by
  show T.sgn (aae ts) ts.length (T.ofQ ts.length ((2:Int):Rat)) = 1;rw [T.sgn_ofQ]; rfl
 have h3:=h.mul (qE ((2:Int):Rat)) d;rw [h2,Int.one_mul] at h3;exact h3
structure SideP {ts:LL} (X d:Et ts) (f v:P2 ts):Prop where
  hd:FnC prog 198 [aa5 (ab2 ts (sX X)),nA (adb ts.length),nA (sX (twE d))] (.tup [nA (sX (ag0 X d)),.v .nilIface])
  ht:Con prog 182 [.ptr 1000 0,i64 (-1),nA (sX v.2)] [(1000,some (mdA (ab2 ts (sX X))))] (nA (sX (qE ((-1:Int):Rat) * upE X v.2))) [(1000,some (mdA (ab2 ts (sX X))))]
  hu:Con prog 182 [.ptr 1000 0,i64 (-1),nA (sX (ag0 X d))] [(1000,some (mdA (ab2 ts (sX X))))] (nA (sX (qE ((-1:Int):Rat) * ag0 X d))) [(1000,some (mdA (ab2 ts (sX X))))]
  a1:Con prog 183 [.ptr 1000 0,ptA (sX f.1) (sX f.2),nA (sX (ag0 X d)),ptA (sX (qE ((-1:Int):Rat) * upE X v.2)) (sX v.1)] [(1000,some (mdA (ab2 ts (sX X))))] (lpA (ami X f v (ag0 X d)).l) [(1000,some (mdA (ab2 ts (sX X))))]
  a2:Con prog 183 [.ptr 1000 0,ptA (sX f.1) (sX f.2),nA (sX (qE ((-1:Int):Rat) * ag0 X d)),ptA (sX (qE ((-1:Int):Rat) * upE X v.2)) (sX v.1)] [(1000,some (mdA (ab2 ts (sX X))))] (lpA (ami X f v (qE ((-1:Int):Rat) * ag0 X d)).l) [(1000,some (mdA (ab2 ts (sX X))))]
  n1:Zu 700000000 1000000000 (ami X f v (ag0 X d)).1 9 6 /\ Zu 700000000 1000000000 (ami X f v (ag0 X d)).2 9 6
  n2:Zu 700000000 1000000000 (ami X f v (qE ((-1:Int):Rat) * ag0 X d)).1 10 7 /\ Zu 700000000 1000000000 (ami X f v (qE ((-1:Int):Rat) * ag0 X d)).2 10 7
theorem a3c {ts:LL} {X d:Et ts} {f v:P2 ts} (hn:ts.length <= 1) (E:ExtP X) (hd:Zu 4000 300000 (twE d) 321 328) (h0:sgE (twE d) ≠ 0) (f1:Zu 4000 300000 f.1 2051 2095) (f2:Zu 4000 300000 f.2 2051 2095)
  (v1:Zu 4000 300000 v.1 80 81) (v2:Zu 4000 300000 v.2 80 81):SideP X d f v:=by
 haveI cy:=E.cy;haveI zr:Zl (ab2 ts (sX X)) 700000000 1000000000 (adb ts.length) (dE _ (adb ts.length)) 1 0:=Zl.at (aov oz) (by decide);haveI zd:=ali (X:=X) hn hd (by decide);haveI zf1:=ali (X:=X) hn f1 (by decide);haveI zf2:=ali (X:=X) hn f2 (by decide);haveI zv1:=ali (X:=X) hn v1 (by decide);haveI zv2:=ali (X:=X) hn v2 (by decide);haveI:=zf1.zu; haveI:=zf2.zu; haveI:=zv1.zu; haveI:=zv2.zu
 have hdiv:=aqp (ts:=ab2 ts (sX X)) (u:=700000000) (k:=1000000000) (a:=adb ts.length) (b:=sX (twE d)) (j:=ts.length) hd.nm.nl (by rw [acv]; omega) hn (by rw [bcj]; exact h0) (by decide);haveI zs:Zu 700000000 1000000000 (ag0 X d) 6 3:=hdiv.2;haveI qm:Qz 700000000 ((-1:Int):Rat) 1:=Qz.int (c:=Cy.cx (c:=cy)) (by decide);haveI zm:Zu 700000000 1000000000 (qE ((-1:Int):Rat) * upE X v.2) 2 1:=inferInstance;haveI zu:Zu 700000000 1000000000 (qE ((-1:Int):Rat) * ag0 X d) 7 4:=inferInstance;have ht:=aqw (ts:=ab2 ts (sX X)) (u:=700000000) (k:=1000000000) (a:=sX v.2) (-1) oz (by decide);have hu:=aqw (ts:=ab2 ts (sX X)) (u:=700000000) (k:=1000000000) (a:=sX (ag0 X d)) (-1) oz (by decide)
 have al:∀ {c:Et (ab2 ts (sX X))} {w k:Nat} (zc:Zu 700000000 1000000000 c w k), w <= 7 -> k <= 4 ->
   Con prog 183 [.ptr 1000 0,ptA (sX f.1) (sX f.2),nA (sX c),ptA (sX (qE ((-1:Int):Rat) * upE X v.2)) (sX v.1)] [(1000,some (mdA (ab2 ts (sX X))))] (lpA (ami X f v c).l) [(1000,some (mdA (ab2 ts (sX X))))]:=by
  intro c w k zc hw hk;haveI:=zc;have m1:=agd (ts:=ab2 ts (sX X)) (u:=700000000) (k:=1000000000) (a:=sX c) (b:=sX (qE ((-1:Int):Rat) * upE X v.2)) oz;have m2:=agd (ts:=ab2 ts (sX X)) (u:=700000000) (k:=1000000000) (a:=sX c) (b:=sX v.1) oz;have m3:=agz (ts:=ab2 ts (sX X)) (u:=700000000) (k:=1000000000) (a:=sX f.1) (b:=sX (c * (qE ((-1:Int):Rat) * upE X v.2))) oz;have m4:=agz (ts:=ab2 ts (sX X)) (u:=700000000) (k:=1000000000) (a:=sX f.2) (b:=sX (c * upE X v.1)) oz;exact akj m1 m2 m3 m4
 exact ⟨hdiv.1, ht, hu, al zs oz oz, al zu oz oz,
  ⟨(inferInstance:Zu 700000000 1000000000 (upE X f.1 + ag0 X d * (qE ((-1:Int):Rat) * upE X v.2)) 9 6),⟨(inferInstance:Zu 700000000 1000000000 (upE X f.2 + ag0 X d * upE X v.1) _ _).nm.mono (by decide)⟩⟩,
  ⟨(inferInstance:Zu 700000000 1000000000 (upE X f.1 + qE ((-1:Int):Rat) * ag0 X d * (qE ((-1:Int):Rat) * upE X v.2)) 10 7),⟨(inferInstance:Zu 700000000 1000000000 (upE X f.2 + qE ((-1:Int):Rat) * ag0 X d * upE X v.1) _ _).nm.mono (by decide)⟩⟩⟩
theorem axv (h:TR rs 40000) (hc:aer rs = 0) (hn:(llq rs).length <= 1) [c0:Ct (llq rs) 4000 300000] [i1:Zl (llq rs) 4000 300000 a x 40 40] [i2:Zl (llq rs) 4000 300000 b y 40 40] [i3:Zl (llq rs) 4000 300000 c z 3 0] [i4:Zl (llq rs) 4000 300000 a2 x2 40 40] [i5:Zl (llq rs) 4000 300000 b2 y2 40 40] [i6:Zl (llq rs) 4000 300000 c2 z2 3 0]
  (ha:a = sX x) (hb:b = sX y) (s1:0 <= sgE z) (s2:0 <= sgE z2):FnC prog 83 [ahu rs,.agg [nA a,nA b,nA c],.agg [nA a2,nA b2,nA c2]] (.tup [(asq (x,y) (x2,y2) z z2).av,ai2 (atf (x,y) (x2,y2) z z2)]):=by
 have hz:∀ q ∈ [(a, b, c), (a2, b2, c2)], CiZ rs q:=fun q hq=>by
  simp only [mem_cons,not_mem_nil,or_false] at hq;rcases hq with rfl | rfl
  ·exact ⟨i1.nm.mono oz,i2.nm.mono oz,i3.nm.mono oz,by show 0 <= sgE (dE (llq rs) c); rw [show dE (llq rs) c = z from i3.eq]; exact s1⟩
  ·exact ⟨i4.nm.mono oz,i5.nm.mono oz,i6.nm.mono oz,by show 0 <= sgE (dE (llq rs) c2); rw [show dE (llq rs) c2 = z2 from i6.eq]; exact s2⟩
 have hck:=ato h hc [(a,b,c),(a2,b2,c2)] hz (by show 2 <= 100; omega);obtain ⟨tw,etw⟩:=abr h hc;haveI cy:Cy (llq rs) 4000 300000:=⟨c0.ex,by omega,by omega,by omega⟩
 have P:=a0e c0 i1.zu i2.zu i3.zu i4.zu i5.zu i6.zu;haveI:=P.zd;haveI:=P.zX;haveI:=i3.zu;haveI:=i6.zu;have m1:=ak5 (ts:=llq rs) (u:=4000) (k:=300000) (a:=sX (d2E (x,y) (x2,y2))) (by decide);have m2:=ak5 (ts:=llq rs) (u:=4000) (k:=300000) (a:=sX (ajy (x,y) z (x2,y2) z2)) (by decide);have m0:=Con.subA (.cons (.refl _) (.cons (Sub.nil 2 none 0) .nil)) (akd tw []);have w1:=aie (ts:=llq rs) (u:=4000) (k:=300000) (a:=a2) (b:=a) (by decide);have w2:=aie (ts:=llq rs) (u:=4000) (k:=300000) (a:=b2) (b:=b) (by decide);haveI q2:Qz 4000 ((2:Int):Rat) 1:=Qz.int (c:=Cy.cx (c:=cy)) (by decide);have t2:=aqw (ts:=llq rs) (u:=4000) (k:=300000) (a:=sX (d2E (x,y) (x2,y2))) 2 oz (by decide);have k1:=agz (ts:=llq rs) (u:=4000) (k:=300000) (a:=c) (b:=sX (d2E (x,y) (x2,y2))) (by decide);have k2:=aie (ts:=llq rs) (u:=4000) (k:=300000) (a:=sX (z + d2E (x,y) (x2,y2))) (b:=c2) (by decide);subst ha;subst hb;refine gF0 func83 ?_;refine gc hck ?_;refine gC (fun ht24=>?_) (fun ht24=>?_) (st1:=(3,0)) (st2:=(5,0))
 ·cases ht24
 ·refine gW (Wk.o (sl:=[(4, some (.ptr 4 0)), (5, some (.ptr 5 0)), (6, some (.ptr 6 0)), (9, some (.ptr 29 0))]) (hp:=[(4, some (.box [nA (sX x), nA (sX y), nA c])), (5, some (.box [nA a2, nA b2, nA c2])), (6, some (.box [.v (.slice none 0 0), .v (.slice none 0 0)])), (29, some (mdB rs))])) ?_;refine gt (aab (Con.rekeyB 29 rfl rfl rfl rfl (ant h hc)) (ev3 rfl rfl rfl) hHa rfl rfl) ?_ (6,0);refine gW (Wk.of (sl:=[(4,some (.ptr 4 0)),(5,some (.ptr 5 0)),(6,some (.ptr 6 0)),(9,some (.ptr 29 0)),(10,some (nA (sX (ajy (x,y) z (x2,y2) z2)))),(11,some (nA (sX (d2E (x,y) (x2,y2)))))]) (hp:=[(4,some (.box [nA (sX x),nA (sX y),nA c])),(5,some (.box [nA a2,nA b2,nA c2])),(6,some (.box [.v (.slice none 0 0),.v (.slice none 0 0)])),(29,some (mdA (llq rs)))]) aa6 (.k (.k (.k (.cons rfl (BlkSub.boxL (.cons (.of (aff etw)) (.cons (.refl _) .nil)) rfl) .nil))))) ?_
  refine gt (aaf (Con.rekeyB 29 rfl rfl rfl rfl m1) (ev2 rfl rfl) rfl rfl rfl) ?_;refine gC (fun ht40=>?_) (fun ht40=>?_)
  ·have hd0:sgE (d2E (x, y) (x2, y2)) = 0:=aco ht40;refine gt (aaf (Con.rekeyB 29 rfl rfl rfl rfl (bea (a:=sX x) (b:=sX y) (c:=c) (a2:=a2) (b2:=b2) (c2:=c2) tw)) (ev3 rfl rfl rfl) rfl rfl rfl) ?_;refine gE2 ?_;unfold asq atf; rw [if_pos hd0,if_pos hd0]
  ·have hd0:¬ sgE (d2E (x, y) (x2, y2)) = 0:=ac5 ht40;refine gt (aaf (Con.rekeyB 29 rfl rfl rfl rfl m2) (ev2 rfl rfl) rfl rfl rfl) ?_;refine gC (fun ht51=>?_) (fun ht51=>?_)
   ·have hx0:sgE (ajy (x, y) z (x2, y2) z2) < 0:=of_decide_eq_true ht51;refine gt (aaf (Con.rekeyB 29 rfl rfl rfl rfl m0) (.cons (.tmp rfl) (.cons (.const _) .nil)) rfl rfl rfl) ?_;refine gE2 ?_;unfold asq atf; rw [if_neg hd0,if_neg hd0,if_pos hx0]; rfl
   ·have hx0:¬ sgE (ajy (x, y) z (x2, y2) z2) < 0:=of_decide_eq_false ht51;have ht0:sgE (twE (d2E (x,y) (x2,y2))) ≠ 0:=by rw [bhj tw]; exact hd0
    obtain ⟨fd,fk,f1,f2⟩:=bg2 hn i1.zu i2.zu i3.zu i6.zu P ht0;haveI:=fk;haveI:=P.z1;haveI:=P.z2;have g1:=agd (ts:=llq rs) (u:=4000) (k:=300000) (a:=sX ((z + d2E (x,y) (x2,y2) - z2) * iE (twE (d2E (x,y) (x2,y2))))) (b:=sX (awr (x,y) (x2,y2)).1) (by decide);have g2:=agd (ts:=llq rs) (u:=4000) (k:=300000) (a:=sX ((z + d2E (x,y) (x2,y2) - z2) * iE (twE (d2E (x,y) (x2,y2))))) (b:=sX (awr (x,y) (x2,y2)).2) (by decide);have g3:=agz (ts:=llq rs) (u:=4000) (k:=300000) (a:=sX x) (b:=sX ((z + d2E (x,y) (x2,y2) - z2) * iE (twE (d2E (x,y) (x2,y2))) * (awr (x,y) (x2,y2)).1)) (by decide);have g4:=agz (ts:=llq rs) (u:=4000) (k:=300000) (a:=sX y) (b:=sX ((z + d2E (x,y) (x2,y2) - z2) * iE (twE (d2E (x,y) (x2,y2))) * (awr (x,y) (x2,y2)).2)) (by decide);have gal:=akj g1 g2 g3 g4;refine gt (aaf (Con.rekeyB 29 rfl rfl rfl rfl w1) (ev3 rfl rfl rfl) rfl rfl rfl) ?_;refine gt (aaf (Con.rekeyB 29 rfl rfl rfl rfl w2) (ev3 rfl rfl rfl) rfl rfl rfl) ?_;refine gD ?_;refine gt (aaf (Con.rekeyB 29 rfl rfl rfl rfl t2) (.cons (.tmp rfl) (.cons (.const _) (ev1 rfl))) rfl rfl rfl) ?_;refine gt (aaf (Con.rekeyB 29 rfl rfl rfl rfl k1) (ev3 rfl rfl rfl) rfl rfl rfl) ?_;refine gt (aaf (Con.rekeyB 29 rfl rfl rfl rfl k2) (ev3 rfl rfl rfl) rfl rfl rfl) ?_;refine gt (aaf (Con.rekeyB 29 rfl rfl rfl rfl (arw fd)) (ev3 rfl rfl rfl) rfl rfl rfl) ?_;refine gt (aaf (Con.rekeyB 29 rfl rfl rfl rfl gal) (.cons (.tmp rfl) (ev3 rfl rfl rfl)) rfl rfl rfl) ?_;refine gD ?_;refine gC (fun ht94=>?_) (fun ht94=>?_)
    ·have hx1:sgE (ajy (x, y) z (x2, y2) z2) = 0:=aco ht94;refine gt (aaf (Con.rekeyB 29 rfl rfl rfl rfl (akd tw [lpA (apz (x,y) (x2,y2) z z2).l])) (ev2 rfl rfl) rfl rfl rfl) ?_;refine gE2 ?_;unfold asq atf; rw [if_neg hd0,if_neg hd0,if_neg hx0,if_pos hx1]; rfl
    ·have hx1:¬ sgE (ajy (x, y) z (x2, y2) z2) = 0:=ac5 ht94;have E:ExtP (ajy (x,y) z (x2,y2) z2):=ame tw hn P.zX oz;have S:=a3c (X:=ajy (x,y) z (x2,y2) z2) (d:=d2E (x,y) (x2,y2)) (f:=apz (x,y) (x2,y2) z z2) (v:=awr (x,y) (x2,y2)) hn E P.zt ht0 f1 f2 P.z1 P.z2;have hex:=atq (a:=sX (ajy (x,y) z (x2,y2) z2)) tw P.zX.nm (by rw [cy.lm]; decide) (by rw [show dec (llq rs).length (sX (ajy (x,y) z (x2,y2) z2)) = ajy (x,y) z (x2,y2) z2 from aa4 _ _]; show 0 <= sgE (ajy (x,y) z (x2,y2) z2); omega);refine gt (aab (Con.rekeyB 29 rfl rfl rfl rfl hex) (ev2 rfl rfl) hHa rfl rfl) ?_;refine gt (aaf (Con.rekeyB 29 rfl rfl rfl rfl (arw S.hd)) (ev3 rfl rfl rfl) rfl rfl rfl) ?_;refine gt (aaf (Con.rekeyB 29 rfl rfl rfl rfl S.ht) (.cons (.tmp rfl) (.cons (.const _) (ev1 rfl))) rfl rfl rfl) ?_;refine gD ?_;refine gt (aaf (Con.rekeyB 29 rfl rfl rfl rfl S.a1) (.cons (.tmp rfl) (ev3 rfl rfl rfl)) rfl rfl rfl) ?_;refine gt (aaf (Con.rekeyB 29 rfl rfl rfl rfl S.hu) (.cons (.tmp rfl) (.cons (.const _) (ev1 rfl))) rfl rfl rfl) ?_;refine gt (aaf (Con.rekeyB 29 rfl rfl rfl rfl S.a2) (.cons (.tmp rfl) (ev3 rfl rfl rfl)) rfl rfl rfl) ?_;refine gt (aaf (Con.rekeyB 29 rfl rfl rfl rfl (akd E.tw [lpA (ami (ajy (x,y) z (x2,y2) z2) (apz (x,y) (x2,y2) z z2) (awr (x,y) (x2,y2)) (ag0 (ajy (x,y) z (x2,y2) z2) (d2E (x,y) (x2,y2)))).l,lpA (ami (ajy (x,y) z (x2,y2) z2) (apz (x,y) (x2,y2) z z2) (awr (x,y) (x2,y2)) (qE ((-1:Int):Rat) * ag0 (ajy (x,y) z (x2,y2) z2) (d2E (x,y) (x2,y2)))).l])) (ev2 rfl rfl) rfl rfl rfl) ?_;refine gD ?_;refine gE2 ?_;unfold asq atf; rw [if_neg hd0,if_neg hd0,if_neg hx0,if_neg hx1]; rfl
end
end Go.Lw
namespace Go.Lw
open Go.Proofs
section
variable {ts:LL}
abbrev lnS (p q:P2 ts):Et ts:=azw (sbE q p) (sbE q p)
abbrev lnE (p q c:P2 ts):Et ts:=azw (sbE q p) (sbE c p)
abbrev lnC (p q c:P2 ts):Et ts:=a58 (sbE q p) (sbE c p)
abbrev lnX (p q c:P2 ts) (z:Et ts):Et ts:=lnS p q * z - lnC p q c * lnC p q c
def lnK (X:Et ts) (S:Et ts) (k:Et (ab2 ts (sX X))):Et (ab2 ts (sX X)):=k * iE (upE X S)
def lnQ (X:Et ts) (p v:P2 ts) (k:Et (ab2 ts (sX X))):P2 (ab2 ts (sX X)):=alE (upE X p.1,upE X p.2) k (upE X v.1,upE X v.2)
abbrev lnR (X:Et ts):Et (ab2 ts (sX X)):=dE _ (adb ts.length)
def axj (p q c:P2 ts) (z:Et ts):Mt :=
  if sgE (lnS p q) = 0 then ⟨[],[]⟩ else if sgE (lnX p q c z) = -1 then ⟨ts,[]⟩ else if sgE (lnX p q c z) = 0 then ⟨ts,[(alE p (lnE p q c * iE (lnS p q)) (sbE q p)).l]⟩
  else ⟨ab2 ts (sX (lnX p q c z)), [(lnQ (lnX p q c z) p (sbE q p) (lnK (lnX p q c z) (lnS p q) (upE (lnX p q c z) (lnE p q c) + lnR (lnX p q c z)))).l,
    (lnQ (lnX p q c z) p (sbE q p) (lnK (lnX p q c z) (lnS p q) (upE (lnX p q c z) (lnE p q c) - lnR (lnX p q c z)))).l]⟩
def azv (p q:P2 ts):Nat:=if sgE (lnS p q) = 0 then 8 else 0
structure LinP (p q c:P2 ts) (z:Et ts):Prop where
  v1:Zu 4000 300000 (sbE q p).1 80 81
  v2:Zu 4000 300000 (sbE q p).2 80 81
  w1:Zu 4000 300000 (sbE c p).1 80 81
  w2:Zu 4000 300000 (sbE c p).2 80 81
  zs:Zu 4000 300000 (lnS p q) 320 327
  ze:Zu 4000 300000 (lnE p q c) 320 327
  zc:Zu 4000 300000 (lnC p q c) 320 327
  zX:Zu 4000 300000 (lnX p q c z) 963 984
theorem a0h {p q c:P2 ts} {z:Et ts} (c0:Cy ts 4000 300000) (h1:Zu 4000 300000 p.1 40 40) (h2:Zu 4000 300000 p.2 40 40) (h3:Zu 4000 300000 q.1 40 40) (h4:Zu 4000 300000 q.2 40 40) (h5:Zu 4000 300000 c.1 40 40) (h6:Zu 4000 300000 c.2 40 40) (h7:Zu 4000 300000 z 3 0):LinP p q c z:=by
 haveI:=c0; haveI:=h1; haveI:=h2; haveI:=h3; haveI:=h4; haveI:=h5; haveI:=h6; haveI:=h7
 haveI v1:=(inferInstance:Zu 4000 300000 (q.1 - p.1) 80 81)
 haveI v2:=(inferInstance:Zu 4000 300000 (q.2 - p.2) 80 81)
 haveI w1:=(inferInstance:Zu 4000 300000 (c.1 - p.1) 80 81)
 haveI w2:=(inferInstance:Zu 4000 300000 (c.2 - p.2) 80 81)
 haveI zs:Zu 4000 300000 (lnS p q) 320 327:=(inferInstance:Zu 4000 300000 ((q.1 - p.1) * (q.1 - p.1) + (q.2 - p.2) * (q.2 - p.2)) _ _)
 haveI ze:Zu 4000 300000 (lnE p q c) 320 327:=(inferInstance:Zu 4000 300000 ((q.1 - p.1) * (c.1 - p.1) + (q.2 - p.2) * (c.2 - p.2)) _ _)
 haveI zc:Zu 4000 300000 (lnC p q c) 320 327:=(inferInstance:Zu 4000 300000 ((q.1 - p.1) * (c.2 - p.2) - (q.2 - p.2) * (c.1 - p.1)) _ _)
 exact ⟨v1,v2,w1,w2,zs,ze,zc,inferInstance⟩
structure LinQ (p q c:P2 ts):Prop where
  hd:FnC prog 198 [aa5 ts,nA (sX (lnE p q c)),nA (sX (lnS p q))] (.tup [nA (sX (lnE p q c * iE (lnS p q))),.v .nilIface])
  al:Con prog 183 [.ptr 1000 0,ptA (sX p.1) (sX p.2),nA (sX (lnE p q c * iE (lnS p q))),ptA (sX (sbE q p).1) (sX (sbE q p).2)] [(1000,some (mdA ts))] (lpA (alE p (lnE p q c * iE (lnS p q)) (sbE q p)).l) [(1000,some (mdA ts))]
  n1:Zu 4000 300000 (alE p (lnE p q c * iE (lnS p q)) (sbE q p)).1 2040 2088
  n2:Zu 4000 300000 (alE p (lnE p q c * iE (lnS p q)) (sbE q p)).2 2040 2088
theorem baw {p q c:P2 ts} {z:Et ts} (c0:Cy ts 4000 300000) (hn:ts.length <= 1) (h1:Zu 4000 300000 p.1 40 40) (h2:Zu 4000 300000 p.2 40 40) (P:LinP p q c z) (h0:sgE (lnS p q) ≠ 0):LinQ p q c:=by
 haveI:=c0; haveI:=h1; haveI:=h2; haveI:=P.v1; haveI:=P.v2; haveI:=P.zs; haveI:=P.ze
 have hd:=aqp (ts:=ts) (u:=4000) (k:=300000) (a:=sX (lnE p q c)) (b:=sX (lnS p q)) (j:=ts.length) P.zs.nm.nl (le_refl _) hn h0 (by decide);haveI:=hd.2;have m1:=agd (ts:=ts) (u:=4000) (k:=300000) (a:=sX (lnE p q c * iE (lnS p q))) (b:=sX (sbE q p).1) (by decide);have m2:=agd (ts:=ts) (u:=4000) (k:=300000) (a:=sX (lnE p q c * iE (lnS p q))) (b:=sX (sbE q p).2) (by decide);have m3:=agz (ts:=ts) (u:=4000) (k:=300000) (a:=sX p.1) (b:=sX (lnE p q c * iE (lnS p q) * (sbE q p).1)) (by decide);have m4:=agz (ts:=ts) (u:=4000) (k:=300000) (a:=sX p.2) (b:=sX (lnE p q c * iE (lnS p q) * (sbE q p).2)) (by decide);exact ⟨hd.1,akj m1 m2 m3 m4,(inferInstance:Zu 4000 300000 (p.1 + lnE p q c * iE (lnS p q) * (sbE q p).1) _ _),(inferInstance:Zu 4000 300000 (p.2 + lnE p q c * iE (lnS p q) * (sbE q p).2) _ _)⟩
structure LinS (X:Et ts) (S:Et ts) (p v:P2 ts) (k:Et (ab2 ts (sX X))):Prop where
  hd:FnC prog 198 [aa5 (ab2 ts (sX X)),nA (sX k),nA (sX S)] (.tup [nA (sX (lnK X S k)),.v .nilIface])
  al:Con prog 183 [.ptr 1000 0,ptA (sX p.1) (sX p.2),nA (sX (lnK X S k)),ptA (sX v.1) (sX v.2)] [(1000,some (mdA (ab2 ts (sX X))))] (lpA (lnQ X p v (lnK X S k)).l) [(1000,some (mdA (ab2 ts (sX X))))]
  n1:Zu 700000000 1000000000 (lnQ X p v (lnK X S k)).1 9 6
  n2:Zu 700000000 1000000000 (lnQ X p v (lnK X S k)).2 9 6
theorem aum {X S:Et ts} {p v:P2 ts} {k:Et (ab2 ts (sX X))} (hn:ts.length <= 1) (E:ExtP X) (hs:Zu 4000 300000 S 320 327) (h0:sgE S ≠ 0) (p1:Zu 4000 300000 p.1 40 40) (p2:Zu 4000 300000 p.2 40 40) (v1:Zu 4000 300000 v.1 80 81) (v2:Zu 4000 300000 v.2 80 81)
  (hk:Zu 700000000 1000000000 k 2 1):LinS X S p v k:=by
 haveI cy:=E.cy;haveI:=hk;haveI zs:=ali (X:=X) hn hs (by decide);haveI zp1:=ali (X:=X) hn p1 (by decide);haveI zp2:=ali (X:=X) hn p2 (by decide);haveI zv1:=ali (X:=X) hn v1 (by decide);haveI zv2:=ali (X:=X) hn v2 (by decide);haveI:=zp1.zu; haveI:=zp2.zu; haveI:=zv1.zu; haveI:=zv2.zu
 have hdiv:=aqp (ts:=ab2 ts (sX X)) (u:=700000000) (k:=1000000000) (a:=sX k) (b:=sX S) (j:=ts.length) hs.nm.nl (by rw [acv]; omega) hn (by rw [bcj]; exact h0) (by decide);haveI zk:Zu 700000000 1000000000 (lnK X S k) 7 4:=hdiv.2;have m1:=agd (ts:=ab2 ts (sX X)) (u:=700000000) (k:=1000000000) (a:=sX (lnK X S k)) (b:=sX v.1) (by decide);have m2:=agd (ts:=ab2 ts (sX X)) (u:=700000000) (k:=1000000000) (a:=sX (lnK X S k)) (b:=sX v.2) (by decide);have m3:=agz (ts:=ab2 ts (sX X)) (u:=700000000) (k:=1000000000) (a:=sX p.1) (b:=sX (lnK X S k * upE X v.1)) (by decide);have m4:=agz (ts:=ab2 ts (sX X)) (u:=700000000) (k:=1000000000) (a:=sX p.2) (b:=sX (lnK X S k * upE X v.2)) (by decide);exact ⟨hdiv.1,akj m1 m2 m3 m4,(inferInstance:Zu 700000000 1000000000 (upE X p.1 + lnK X S k * upE X v.1) 9 6),(inferInstance:Zu 700000000 1000000000 (upE X p.2 + lnK X S k * upE X v.2) 9 6)⟩
theorem bjv {X:Et ts} {w v w' v' u k:Nat} (h:Zu u k X w v) (hw:w <= w') (hv:v <= v'):Zu u k X w' v':=⟨h.nm.mono (a8s hw hv)⟩
theorem bro {x:Int} (h:cond (cond (ais Value.nilIface) (aaa .eql x 0) false) (ais Value.nilIface) false = true):x = 0:=by
 cases h9:aaa .eql x 0
 ·rw [h9] at h; cases h
 ·exact aco h9
theorem brj {x:Int} (h:cond (cond (ais Value.nilIface) (aaa .eql x 0) false) (ais Value.nilIface) false = false):x ≠ 0:=by
 cases h9:aaa .eql x 0
 ·exact ac5 h9
 ·rw [h9] at h; cases h
theorem brx {x y:AV} {i:Nat} {Q:AV -> Prop} (hi:i < 2) (hx:Q x) (hy:Q y):∃ z, [x, y][i]? = some z /\ Q z:=by
 have h:i = 0 \/ i = 1:=by omega
 rcases h with rfl | rfl
 ·exact ⟨x,rfl,hx⟩
 ·exact ⟨y,rfl,hy⟩
theorem bgk {r e:Nat} {a b c d:Et ts} (tw:Tw ts r) (hl:lm ts.length = 200000000000) (h1:Nm ts.length e (sX a)) (h2:Nm ts.length e (sX b)) (h3:Nm ts.length e (sX c)) (h4:Nm ts.length e (sX d)) (he:e + e + kB r ts.length <= 100000000000) :
  FnC prog 64 [aa5 ts,ptA (sX a) (sX b),ptA (sX c) (sX d)] (.tup [nA (sX (a * c + b * d)),.v .nilIface]):=by
 have h:=al7 tw h1 h2 h3 h4 (by rw [hl]; omega);rw [show dec ts.length (sX a) = a from aa4 _ _,show dec ts.length (sX b) = b from aa4 _ _,show dec ts.length (sX c) = c from aa4 _ _,show dec ts.length (sX d) = d from aa4 _ _] at h;exact h
theorem bm1 {r e:Nat} {a b c d:Et ts} (tw:Tw ts r) (hl:lm ts.length = 200000000000) (h1:Nm ts.length e (sX a)) (h2:Nm ts.length e (sX b)) (h3:Nm ts.length e (sX c)) (h4:Nm ts.length e (sX d)) (he:e + e + kB r ts.length <= 100000000000) :
  FnC prog 61 [aa5 ts,ptA (sX a) (sX b),ptA (sX c) (sX d)] (.tup [nA (sX (a * d - b * c)),.v .nilIface]):=by
 have h:=aje tw h1 h2 h3 h4 (by rw [hl]; omega);rw [show dec ts.length (sX a) = a from aa4 _ _,show dec ts.length (sX b) = b from aa4 _ _,show dec ts.length (sX c) = c from aa4 _ _,show dec ts.length (sX d) = d from aa4 _ _] at h;exact h
end
section
variable {rs:List (List Rt)} {c:List Rat} {o p q:P2 (llq rs)} {z:Et (llq rs)}
theorem a76 (h:TR rs 40000) (hc:aer rs = 0) (hn:(llq rs).length <= 1) (c0:Ct (llq rs) 4000 300000) (ho1:Zu 4000 300000 o.1 40 40) (ho2:Zu 4000 300000 o.2 40 40) (p1:Zu 4000 300000 p.1 40 40) (p2:Zu 4000 300000 p.2 40 40) (q1:Zu 4000 300000 q.1 40 40) (q2:Zu 4000 300000 q.2 40 40)
  [i3:Zl (llq rs) 4000 300000 c z 3 0] (s1:0 <= sgE z):FnC prog 85 [ahu rs,.agg [nA (sX o.1),nA (sX o.2),nA c],lpA p.l,lpA q.l] (.tup [(axj p q o z).av,ai2 (azv p q)]):=by
 obtain ⟨tw,etw⟩:=abr h hc;haveI cy:Cy (llq rs) 4000 300000:=⟨c0.ex,by obtain ⟨_,h9,_⟩:=c0; exact h9,by obtain ⟨_,_,h9,_⟩:=c0; exact h9,by omega⟩
 have hlm:=cy.lm;have hck:=afe rs 40000 h;rw [hc] at hck;have P:=a0h cy p1 p2 q1 q2 ho1 ho2 i3.zu;haveI:=ho1; haveI:=ho2; haveI:=p1; haveI:=p2; haveI:=q1; haveI:=q2; haveI:=P.v1; haveI:=P.v2; haveI:=P.w1; haveI:=P.w2; haveI:=P.zs; haveI:=P.ze; haveI:=P.zc; haveI:=P.zX
 have hci:=aq5 (e:=40 * 4000 + 40 * 300000) h hc ho1.nm ho2.nm (i3.nm.mono (by decide)) (by rw [hlm]; decide)
 have hra:=asy h hc [(sX o.1, sX o.2, c)] (fun y hy=>by
  rw [List.mem_singleton.1 hy];exact ⟨ho1.nm.mono (by decide),ho2.nm.mono (by decide),i3.nm.mono (by decide),by show 0 <= sgE (dE (llq rs) c); rw [show dE (llq rs) c = z from i3.eq]; exact s1⟩) (by show 1 <= 100; omega)
 have a1:=aie (ts:=llq rs) (u:=4000) (k:=300000) (a:=sX q.1) (b:=sX p.1) (by decide);have a2:=aie (ts:=llq rs) (u:=4000) (k:=300000) (a:=sX q.2) (b:=sX p.2) (by decide);have a3:=aie (ts:=llq rs) (u:=4000) (k:=300000) (a:=sX o.1) (b:=sX p.1) (by decide);have a4:=aie (ts:=llq rs) (u:=4000) (k:=300000) (a:=sX o.2) (b:=sX p.2) (by decide);have hkb:80 * 4000 + 81 * 300000 + (80 * 4000 + 81 * 300000) + kB 40000 (llq rs).length <= 100000000000:=by have:=kb4 tw.three; omega
 have b1:=bgk tw hlm P.v1.nm P.v2.nm P.v1.nm P.v2.nm hkb;have b2:=bgk tw hlm P.v1.nm P.v2.nm P.w1.nm P.w2.nm hkb;have b3:=bm1 tw hlm P.v1.nm P.v2.nm P.w1.nm P.w2.nm hkb;rw [<- etw] at b1 b2 b3;have m1:=ak5 (ts:=llq rs) (u:=4000) (k:=300000) (a:=sX (lnS p q)) (by decide);have m2:=agd (ts:=llq rs) (u:=4000) (k:=300000) (a:=sX (lnS p q)) (b:=c) (by decide);have m3:=agd (ts:=llq rs) (u:=4000) (k:=300000) (a:=sX (lnC p q o)) (b:=sX (lnC p q o)) (by decide);haveI zz:=i3.zu;have m4:=aie (ts:=llq rs) (u:=4000) (k:=300000) (a:=sX (lnS p q * z)) (b:=sX (lnC p q o * lnC p q o)) (by decide);have m5:=ak5 (ts:=llq rs) (u:=4000) (k:=300000) (a:=sX (lnX p q o z)) (by decide);have m0:=Con.subA (.cons (.refl _) (.cons (Sub.nil 2 none 0) .nil)) (akd tw []);refine gF0 func85 ?_;refine gc hck ?_;refine gC (fun ht27=>?_) (fun ht27=>?_) (st1:=(3,0))
 ·cases ht27
 ·refine gc hci ?_;refine gC (fun ht34=>?_) (fun ht34=>?_) (st1:=(6,0))
  ·cases ht34
  ·refine ge rfl ?_;refine gL1 [4,5,6,7,8,39,40] [4,5,6,7,8] (fun (i:Nat)=>[(41,some (i64 i))]) (fun _=>[]) (fun i=>i <= 2) (fun i=>2 - i) 0 (zero_le _) ?_;rintro i hi K1 hK1;refine gC (fun ht42=>?_) (fun ht42=>?_)
   ·have hin:i < 2:=aa9 (b:=2) ht42;obtain ⟨zz2,hz2,u,v,hu,hv,rfl⟩:=brx (x:=lpA p.l) (y:=lpA q.l) (Q:=fun w=>∃ u v,Nm (llq rs).length (40 * 4000 + 40 * 300000) u /\ Nm (llq rs).length (40 * 4000 + 40 * 300000) v /\ w = ptA u v) hin ⟨_,_,p1.nm,p2.nm,rfl⟩ ⟨_,_,q1.nm,q2.nm,rfl⟩;refine gi hz2 ?_;refine gc (alv h hc hu hv (by rw [hlm]; decide)) ?_;refine gC (fun ht49=>?_) (fun ht49=>?_) (st1:=(12,0))
    ·cases ht49
    ·refine ga aat ?_;exact gK1 hK1 (i + 1) hin
   ·refine gc hra ?_;refine gC (fun ht58=>?_) (fun ht58=>?_) (st1:=(16,0)) (st2:=(18,0))
    ·cases ht58
    ·refine gW (Wk.of (sl:=[(4, some (.ptr 4 0)), (5, some (.ptr 5 0)), (6, some (.ptr 6 0)), (7, some (.ptr 7 0)), (8, some (.ptr 8 0)), (16, some (.ptr 63 0))]) (hp:=[(4, some (.box [.lst 1 (rs.map nR)])), (5, some (.box [nA (sX o.1), nA (sX o.2), nA c])), (6, some (.box [nA (sX p.1), nA (sX p.2)])), (7, some (.box [nA (sX q.1), nA (sX q.2)])), (8, some (.box [.v (.slice none 0 0), .v (.slice none 0 0)])), (63, some (mdA (llq rs)))]) aa6 (.k (.k (.k (.k (.k (.cons rfl (BlkSub.boxL (.cons (.of (aff etw)) (.cons (.refl _) .nil)) rfl) .nil))))))) ?_
     refine gt (aaf (Con.rekeyB 63 rfl rfl rfl rfl a1) (ev3 rfl rfl rfl) rfl rfl rfl) ?_;refine gt (aaf (Con.rekeyB 63 rfl rfl rfl rfl a2) (ev3 rfl rfl rfl) rfl rfl rfl) ?_;refine gD ?_;refine gt (aaf (Con.rekeyB 63 rfl rfl rfl rfl a3) (ev3 rfl rfl rfl) rfl rfl rfl) ?_;refine gt (aaf (Con.rekeyB 63 rfl rfl rfl rfl a4) (ev3 rfl rfl rfl) rfl rfl rfl) ?_;refine gD ?_;refine gc b1 ?_;refine gt (aaf (Con.rekeyB 63 rfl rfl rfl rfl (ajh _ _)) (ev3 rfl rfl rfl) rfl rfl rfl) ?_;refine gu (acj rfl rfl rfl (fun h=>aaf (Con.rekeyB 63 rfl rfl rfl rfl m1) (.cons (.opt rfl (o1 h)) (.cons (.opt rfl (o1 h)) .nil)) rfl rfl rfl)) ?_;refine gC (fun ht117=>?_) (fun ht117=>?_)
     ·have h0:sgE (lnS p q) = 0:=bro ht117;refine gR ?_;exact abc (by unfold axj azv; rw [if_pos h0,if_pos h0]; exact Sub.tup (.cons aqc (.cons (.refl _) .nil)))
     ·have h0:sgE (lnS p q) ≠ 0:=brj ht117;have Q:=baw cy hn p1 p2 P h0;refine gc b2 ?_;refine gt (aaf (Con.rekeyB 63 rfl rfl rfl rfl (ajh _ _)) (ev3 rfl rfl rfl) rfl rfl rfl) ?_;refine gc b3 ?_;refine gt (aaf (Con.rekeyB 63 rfl rfl rfl rfl (ajh _ _)) (ev3 rfl rfl rfl) rfl rfl rfl) ?_;refine gt (aaf (Con.rekeyB 63 rfl rfl rfl rfl m2) (ev3 rfl rfl rfl) rfl rfl rfl) ?_;refine gt (aaf (Con.rekeyB 63 rfl rfl rfl rfl m3) (ev3 rfl rfl rfl) rfl rfl rfl) ?_;refine gt (aaf (Con.rekeyB 63 rfl rfl rfl rfl m4) (ev3 rfl rfl rfl) rfl rfl rfl) ?_;refine gt (aaf (Con.rekeyB 63 rfl rfl rfl rfl m5) (ev2 rfl rfl) rfl rfl rfl) ?_;refine gC (fun ht150=>?_) (fun ht150=>?_)
      ·have h1:sgE (lnX p q o z) = -1:=aco ht150;refine gt (aaf (Con.rekeyB 63 rfl rfl rfl rfl m0) (.cons (.tmp rfl) (.cons (.const _) .nil)) rfl rfl rfl) ?_;refine gE2 ?_;unfold axj azv; rw [if_neg h0,if_neg h0,if_pos h1]; rfl
      ·have h1:¬ sgE (lnX p q o z) = -1:=ac5 ht150;refine gC (fun ht156=>?_) (fun ht156=>?_)
       ·have h2:sgE (lnX p q o z) = 0:=aco ht156;refine gt (aaf (Con.rekeyB 63 rfl rfl rfl rfl (arw Q.hd)) (ev3 rfl rfl rfl) rfl rfl rfl) ?_;refine gt (aaf (Con.rekeyB 63 rfl rfl rfl rfl Q.al) (.cons (.tmp rfl) (ev3 rfl rfl rfl)) rfl rfl rfl) ?_;refine gt (aaf (Con.rekeyB 63 rfl rfl rfl rfl (akd tw [lpA (alE p (lnE p q o * iE (lnS p q)) (sbE q p)).l])) (ev2 rfl rfl) rfl rfl rfl) ?_;refine gD ?_;refine gE2 ?_;unfold axj azv; rw [if_neg h0,if_neg h0,if_neg h1,if_pos h2]; rfl
       ·have h2:¬ sgE (lnX p q o z) = 0:=ac5 ht156
        have hpos:0 <= sgE (lnX p q o z):=by
         have:=T.sgn_cases (aae (llq rs)) (llq rs).length (lnX p q o z);have e:sgE (lnX p q o z) = T.sgn (aae (llq rs)) (llq rs).length (lnX p q o z):=rfl;omega
        have E:ExtP (lnX p q o z):=ame tw hn (bjv P.zX oz oz) hpos;haveI ce:=E.cy;haveI zr:Zl (ab2 (llq rs) (sX (lnX p q o z))) 700000000 1000000000 (adb (llq rs).length) (dE _ (adb (llq rs).length)) 1 0:=Zl.at (aov oz) (by decide);haveI ze':=ali (X:=lnX p q o z) hn P.ze (by decide);haveI:=zr.zu; haveI:=ze'.zu
        have e1:=agz (ts:=ab2 (llq rs) (sX (lnX p q o z))) (u:=700000000) (k:=1000000000) (a:=sX (lnE p q o)) (b:=adb (llq rs).length) (by decide);have e2:=aie (ts:=ab2 (llq rs) (sX (lnX p q o z))) (u:=700000000) (k:=1000000000) (a:=sX (lnE p q o)) (b:=adb (llq rs).length) (by decide);have S1:=aum (p:=p) (v:=sbE q p) hn E P.zs h0 p1 p2 P.v1 P.v2 (k:=upE (lnX p q o z) (lnE p q o) + lnR (lnX p q o z)) inferInstance;have S2:=aum (p:=p) (v:=sbE q p) hn E P.zs h0 p1 p2 P.v1 P.v2 (k:=upE (lnX p q o z) (lnE p q o) - lnR (lnX p q o z)) inferInstance;have hex:=atq (a:=sX (lnX p q o z)) tw P.zX.nm (by rw [hlm]; decide) (by rw [show dec (llq rs).length (sX (lnX p q o z)) = lnX p q o z from aa4 _ _]; exact hpos);refine gt (aab (Con.rekeyB 63 rfl rfl rfl rfl hex) (ev2 rfl rfl) hHa rfl rfl) ?_;refine gt (aaf (Con.rekeyB 63 rfl rfl rfl rfl e1) (ev3 rfl rfl rfl) rfl rfl rfl) ?_;refine gt (aaf (Con.rekeyB 63 rfl rfl rfl rfl (arw S1.hd)) (ev3 rfl rfl rfl) rfl rfl rfl) ?_;refine gt (aaf (Con.rekeyB 63 rfl rfl rfl rfl S1.al) (.cons (.tmp rfl) (ev3 rfl rfl rfl)) rfl rfl rfl) ?_;refine gt (aaf (Con.rekeyB 63 rfl rfl rfl rfl e2) (ev3 rfl rfl rfl) rfl rfl rfl) ?_;refine gt (aaf (Con.rekeyB 63 rfl rfl rfl rfl (arw S2.hd)) (ev3 rfl rfl rfl) rfl rfl rfl) ?_;refine gt (aaf (Con.rekeyB 63 rfl rfl rfl rfl S2.al) (.cons (.tmp rfl) (ev3 rfl rfl rfl)) rfl rfl rfl) ?_;refine gt (aaf (Con.rekeyB 63 rfl rfl rfl rfl (akd E.tw [lpA (lnQ (lnX p q o z) p (sbE q p) (lnK (lnX p q o z) (lnS p q) (upE (lnX p q o z) (lnE p q o) + lnR (lnX p q o z)))).l,lpA (lnQ (lnX p q o z) p (sbE q p) (lnK (lnX p q o z) (lnS p q) (upE (lnX p q o z) (lnE p q o) - lnR (lnX p q o z)))).l])) (ev2 rfl rfl) rfl rfl rfl) ?_;refine gD ?_;refine gE2 ?_;unfold axj azv; rw [if_neg h0,if_neg h0,if_neg h1,if_neg h2]; rfl
end
end Go.Lw
namespace Go.Lw
open Go.Proofs
theorem a71 (o:Option Nat):aaa .geq (ixI o) 0 = o.isSome:=by
 cases o with
 | none=>rfl
 | some i=>exact decide_eq_true (by show (i:Int) >= 0; omega)
theorem ao4 (bs:List (Rat × Rat)) (hl:bs.length <= 281474976710656) (f:FuncId) (pre caps:List AV) (ok:Nat -> Bool)
  (hf:∀ (i:Nat) (b:Rat × Rat),bs[i]? = some b -> (∀ j,j < i -> ok j = true) -> FnC prog f (pre ++ [qP b] ++ caps) (bl (!ok i))) :
  FnC prog 272 [.lst 6 (bs.map qP),.cl f pre caps] (i64 (ixI (act bs.length ok))):=by
 refine gF0 func272 ?_;refine gl ?_;refine gL1 [0,1,7] [] (fun (i:Nat)=>[(8,some (i64 i))]) (fun _=>[]) (fun i=>i <= bs.length /\ ∀ j,j < i -> ok j = true) (fun i=>bs.length - i) 0 ⟨zero_le _,fun j h=>by omega⟩ ?_;rintro i ⟨hi,hj⟩ K1 hK1;refine gC (fun ht9=>?_) (fun ht9=>?_)
 ·have hin:=aa9 ht9;obtain ⟨b,hb⟩:=ab5 hin;refine gi (aag hb) ?_;refine gc (hf i b hb hj) ?_;refine gC (fun ht16=>?_) (fun ht16=>?_)
  ·have h2:=af8 ht16;refine gE1 ?_;rw [ac2 hin hj h2]; rfl
  ·have h2:=af1 ht16;refine ga aat ?_;exact gK1 hK1 (i + 1) ⟨hin,fun j h9=>by rcases lt_or_ge j i with g | g; exact hj j g; (have:j = i:=by omega); subst this; exact h2⟩
 ·have hin:=aan hi ht9;subst hin;refine gE1 ?_;rw [acg hj]; rfl
theorem alh (bs:List (Rat × Rat)) (hl:bs.length <= 281474976710656) (f:FuncId) (pre caps:List AV) (ok:Nat -> Bool)
  (hf:∀ (i:Nat) (b:Rat × Rat),bs[i]? = some b -> (∀ j,j < i -> ok j = true) -> FnC prog f (pre ++ [qP b] ++ caps) (bl (!ok i))) :
  FnC prog 173 [.lst 6 (bs.map qP),.cl f pre caps] (bl (act bs.length ok).isSome):=by
 refine gF0 func173 ?_;refine gc (ao4 bs hl f pre caps ok hf) ?_;refine gE1 ?_;rw [<- a71]; rfl
theorem a5z {v:Rat × Rat} (hv:Sm 3000 v):FnC prog 174 [qP v] (bl (decide (aht v v = 0))):=by
 refine gF0 func174 ?_;refine gc (a10 hv hv oz oz) ?_;refine gc (boc ((hv.dot hv).qs oz)) ?_;refine gE1 ?_;rw [<- bkl]; rfl
def ah9 (vs:List (Rat × Rat)):Bool:=(act vs.length fun i=>!decide (aht (vs.getD i (0,0)) (vs.getD i (0,0)) = 0)).isSome
theorem ax8 (vs:List (Rat × Rat)) (hl:vs.length <= 281474976710656) (hv:∀ v ∈ vs, Sm 3000 v):FnC prog 81 [.lst 6 (vs.map qP)] (bl (ah9 vs)):=by
 refine gF0 func81 ?_;refine gc (Con.subA (.cons (.refl _) (.cons ((Sub.fn0 _).trans (bav rfl)) .nil)) (alh vs hl 174 [] [] (fun i=>!decide (aht (vs.getD i (0,0)) (vs.getD i (0,0)) = 0)) (fun i b hb _=>by rw [Bool.not_not,aah hb]; exact a5z (hv b (mem_of_getElem? hb))))) ?_;refine gE1 ?_;rfl
theorem aut {v:Rat × Rat} (h:ah9 [v] = false):aht v v ≠ 0:=by
 intro h0;have h1:act 1 (fun i=>!decide (aht ([v].getD i (0,0)) ([v].getD i (0,0)) = 0)) = some 0:=ac2 oz (fun j hj=>by omega) (by show (!decide (aht v v = 0)) = false; rw [h0]; rfl);unfold ah9 at h;rw [show [v].length = 1 from rfl,h1] at h;cases h
theorem av7 {v w:Rat × Rat} (h:ah9 [v, w] = false):aht v v ≠ 0 /\ aht w w ≠ 0:=by
 unfold ah9 at h;rw [Option.isSome_eq_false_iff,Option.isNone_iff_eq_none] at h;have h2:=aqj h;have h3:=h2 0 (by show 0 < 2; omega);have h4:=h2 1 (by show 1 < 2; omega);have h5:(!decide (aht v v = 0)) = true:=h3;have h6:(!decide (aht w w = 0)) = true:=h4;simp only [Bool.not_eq_true',decide_eq_false_iff_not] at h5 h6;exact ⟨h5,h6⟩
theorem ayk (i n:Nat) (hi:i <= 100):FnC prog 90 [i64 i, i64 n] (i64 (if n = 1 then 0 else 1 - 2 * (i:Int))):=by
 refine gF0 func90 ?_;refine gC (fun ht6=>?_) (fun ht6=>?_)
 ·have h1 : n = 1 := by have := aco ht6; omega
  refine gE1 ?_;rw [if_pos h1]; rfl
 ·have h1 : ¬ n = 1 := by have := ac5 ht6; omega
  refine ga (show _ = 2 * (i:Int) by exact ap2 oz) ?_;refine ga (show _ = 1 - 2 * (i:Int) by exact abi oz) ?_;refine gE1 ?_;rw [if_neg h1]; rfl
section
variable {ts:LL}
abbrev bdN (u:Rat × Rat):Et ts:=qE (aht u u)
def an6 (u:Rat × Rat) (w:P2 ts):Et ts:=(qE u.1 * w.1 + qE u.2 * w.2) * iE (bdN u)
def bdS (u:Rat × Rat) (w:P2 ts):Et ts:=(qE u.1 * w.2 - qE u.2 * w.1) * iE (bdN u)
def bdX (u:Rat × Rat) (w:P2 ts) (p:Rat × Rat) (o:P2 ts):Et ts:=o.1 - (an6 u w * qE p.1 - bdS u w * qE p.2)
def bdY (u:Rat × Rat) (w:P2 ts) (p:Rat × Rat) (o:P2 ts):Et ts:=o.2 - (bdS u w * qE p.1 + an6 u w * qE p.2)
def bdQ (u:Rat × Rat) (w:P2 ts) (p:Rat × Rat) (o:P2 ts):Pq:=⟨sX (an6 u w),sX (bdS u w),sX (bdX u w p o),sX (bdY u w p o)⟩
theorem am1 (ts:LL) (a b:List Rat):Con prog 59 [.ptr 1000 0, ptA a b, .v .nilIface] [(1000, some (mdA ts))] (ptA a b) [(1000, some (mdA ts))]:=by
 have h:=akv (ts.map (List.map rt)) a b;rw [a6y] at h;exact h
theorem afo (q:Rat):dec ts.length (sh 0 (q:Rat)) = (qE q:Et ts):=ai6 _ q
theorem aj1 {e:Nat} {q:Rat} (h5:ts.length <= 5) (h:Qb e q):Nm ts.length e (sh 0 (q:Rat)):=Nm.ofQ h5 (Cb.one h)
structure BdP (ts:LL) (u:Rat × Rat) (w:P2 ts) (p:Rat × Rat) (o:P2 ts):Prop where
  dot:FnC prog 64 [aa5 ts,ptA (sh 0 (u.1:Rat)) (sh 0 (u.2:Rat)),ptA (sX w.1) (sX w.2)] (.tup [nA (sX (qE u.1 * w.1 + qE u.2 * w.2)),.v .nilIface])
  crs:FnC prog 61 [aa5 ts,ptA (sh 0 (u.1:Rat)) (sh 0 (u.2:Rat)),ptA (sX w.1) (sX w.2)] (.tup [nA (sX (qE u.1 * w.2 - qE u.2 * w.1)),.v .nilIface])
  d1:FnC prog 198 [aa5 ts,nA (sX (qE u.1 * w.1 + qE u.2 * w.2)),nA (sh 0 (aht u u:Rat))] (.tup [nA (sX (an6 u w)),.v .nilIface])
  d2:FnC prog 198 [aa5 ts,nA (sX (qE u.1 * w.2 - qE u.2 * w.1)),nA (sh 0 (aht u u:Rat))] (.tup [nA (sX (bdS u w)),.v .nilIface])
  tn:FnC prog 171 [aa5 ts,nA (sX (an6 u w)),nA (sX (bdS u w)),ptA (sh 0 (p.1:Rat)) (sh 0 (p.2:Rat))] (.tup [ptA (sX (an6 u w * qE p.1 - bdS u w * qE p.2)) (sX (bdS u w * qE p.1 + an6 u w * qE p.2)),.v .nilIface])
  s1:FnC prog 147 [aa5 ts,nA (sX o.1),nA (sX (an6 u w * qE p.1 - bdS u w * qE p.2))] (.tup [nA (sX (bdX u w p o)),.v .nilIface])
  s2:FnC prog 147 [aa5 ts,nA (sX o.2),nA (sX (bdS u w * qE p.1 + an6 u w * qE p.2))] (.tup [nA (sX (bdY u w p o)),.v .nilIface])
  ok:Pq.ok ts.length 80000000000 (bdQ u w p o)
theorem a6j {r:Nat} {u p:Rat × Rat} {w o:P2 ts} (tw:Tw ts r) (h2:ts.length <= 2) (hk:kB r ts.length <= 1000000000) (hu:Sm 3000 u) (hp:Sm 3000 p) (h0:aht u u ≠ 0)
  (w1:Nm ts.length 16000000000 (sX w.1)) (w2:Nm ts.length 16000000000 (sX w.2)) (a1:Nm ts.length 700000000 (sX o.1)) (a2:Nm ts.length 700000000 (sX o.2)):BdP ts u w p o:=by
 have hl:lm ts.length = 200000000000:=by unfold lm; rw [if_pos h2]
 have h5:=tw.five;have hu1:=aj1 (ts:=ts) h5 hu.x;have hu2:=aj1 (ts:=ts) h5 hu.y;have hp1:=aj1 (ts:=ts) h5 hp.x;have hp2:=aj1 (ts:=ts) h5 hp.y;have hnn:=aj1 (ts:=ts) h5 (hu.dot hu);have hkE:eB r ts.length <= 1000000000:=hk;have ew:∀ x:Et ts,dec ts.length (sX x) = x:=fun x=>aa4 _ _
 have c1:=al7 tw (hu1.mono (f:=16000000000) oz) (hu2.mono oz) w1 w2 (by rw [hl]; omega);have c2:=aje tw (hu1.mono (f:=16000000000) oz) (hu2.mono oz) w1 w2 (by rw [hl]; omega);have n1:=a9m tw hu1 hu2 w1 w2;have n2:=avl tw hu1 hu2 w1 w2;rw [afo,afo,ew,ew] at c1 c2 n1 n2
 have hs:T.sgn (aae ts) ts.length (dec ts.length (sh 0 (aht u u:Rat))) ≠ 0:=by
  rw [ai6,T.sgn_ofQ];intro h9;exact h0 (afg h9)
 have nb:Nl 0 (sh 0 (aht u u:Rat)):=ahs 0 _;have d1:=a90 tw n1 hnn (zero_le _) nb hs (by rw [hl]; omega) (by simp only [iB]; omega);have d2:=a90 tw n2 hnn (zero_le _) nb hs (by rw [hl]; omega) (by simp only [iB]; omega);have m1:=ayh tw n1 hnn (zero_le _) nb hs (by rw [hl]; omega) (by simp only [iB]; omega);have m2:=ayh tw n2 hnn (zero_le _) nb hs (by rw [hl]; omega) (by simp only [iB]; omega);have e1:∀ x:Et ts,dec ts.length (sh ts.length x) = x:=fun x=>aa4 _ _
 have f1:dec ts.length (sh ts.length (bbv ts (qE u.1:Et ts) (qE u.2:Et ts) w.1 w.2)) = (qE u.1 * w.1 + qE u.2 * w.2:Et ts):=aa4 _ _;have f2:dec ts.length (sh ts.length (ao8 ts (qE u.1:Et ts) (qE u.2:Et ts) w.1 w.2)) = (qE u.1 * w.2 - qE u.2 * w.1:Et ts):=aa4 _ _;rw [f1,afo] at d1 m1;rw [f2,afo] at d2 m2;have k1:Nm ts.length 35100000000 (sX (an6 u w)):=Nm.mono m1 (by simp only [iB]; omega);have k2:Nm ts.length 35100000000 (sX (bdS u w)):=Nm.mono m2 (by simp only [iB]; omega);have c3:=apa tw k1 k2 (hp1.mono (f:=35100000000) oz) (hp2.mono oz) (by rw [hl]; omega);have n3:=amr tw k1 k2 hp1 hp2;have n4:=ang tw k1 k2 hp1 hp2;rw [afo,afo,ew,ew] at c3 n3 n4;have s1:=ar1 tw a1 n3 (by rw [hl]; omega);have s2:=ar1 tw a2 n4 (by rw [hl]; omega);have m3:=a1.sub n3;have m4:=a2.sub n4;have f3:dec ts.length (sh ts.length (a02 ts (an6 u w) (bdS u w) (qE p.1:Et ts) (qE p.2:Et ts))) = (an6 u w * qE p.1 - bdS u w * qE p.2:Et ts):=aa4 _ _;have f4:dec ts.length (sh ts.length (azz ts (an6 u w) (bdS u w) (qE p.1:Et ts) (qE p.2:Et ts))) = (bdS u w * qE p.1 + an6 u w * qE p.2:Et ts):=aa4 _ _;rw [ew,f3] at s1 m3;rw [ew,f4] at s2 m4;exact ⟨c1,c2,d1,d2,c3,s1,s2,k1.mono oz,k2.mono oz,Nm.mono m3 oz,Nm.mono m4 oz⟩
theorem auw {a b c:List Rat} (h:FnC prog 147 [aa5 ts, nA a, nA b] (.tup [nA c, .v .nilIface])):Con prog 62 [.ptr 1000 0, nA a, nA b] [(1000, some (mdA ts))] (nA c) [(1000, some (mdA ts))]:=by
 refine gF func62 (fun k z h=>aa3 h) ?_;refine gc h ?_;refine gt (aab (ak7 _ _) (ev3 rfl rfl rfl) hHa rfl rfl) ?_;refine gR ?_;exact Fin.keep (abt rfl)
theorem aq0 {u p:Rat × Rat} {w o:P2 ts} (hu:Sm 3000 u) (hp:Sm 3000 p) (B:BdP ts u w p o) :
  Con prog 78 [.ptr 1000 0,qP u,lpA w.l,qP p,lpA o.l] [(1000,some (mdA ts))] (bdQ u w p o).av [(1000,some (mdA ts))]:=by
 refine gF func78 (fun k z h=>aa3 h) ?_;refine gc (ak2 (hu.x.qs oz) (hu.y.qs oz)) ?_;refine gc (amk hu oz) ?_;refine gD ?_;refine gc B.dot ?_;refine gt (aaf (ak7 _ _) (ev3 rfl rfl rfl) rfl rfl rfl) ?_;refine gt (aaf (avk B.d1) (ev3 rfl rfl rfl) rfl rfl rfl) ?_;refine gc B.crs ?_;refine gt (aaf (ak7 _ _) (ev3 rfl rfl rfl) rfl rfl rfl) ?_;refine gt (aaf (avk B.d2) (ev3 rfl rfl rfl) rfl rfl rfl) ?_;refine gD ?_;refine gc (ak2 (hp.x.qs oz) (hp.y.qs oz)) ?_;refine gc B.tn ?_;refine gt (aaf (am1 _ _ _) (ev3 rfl rfl rfl) rfl rfl rfl) ?_;refine gD ?_;refine gt (aaf (auw B.s1) (ev3 rfl rfl rfl) rfl rfl rfl) ?_;refine gt (aaf (auw B.s2) (ev3 rfl rfl rfl) rfl rfl rfl) ?_;refine gD ?_;refine gR ?_;exact Fin.keep (abt rfl)
end
end Go.Lw
namespace Go.Lw
open Go.Proofs
structure Sv where
  ts:LL
  ps:List Pq
  mode:Int
abbrev Sv.av (s:Sv):AV:=.agg [.lst 1 (s.ts.map nA),.lst 4 (s.ps.map Pq.av),i64 s.mode]
structure Hd where
  p:Rat × Rat
  a:List Rat × List Rat
  c:Rat × Rat
abbrev Hd.av (h:Hd):AV:=.agg [bl (rt h.p.1).neg,ws (rt h.p.1).num,ws (rt h.p.1).den,bl (rt h.p.2).neg,ws (rt h.p.2).num,ws (rt h.p.2).den,nA h.a.1,nA h.a.2,bl (rt h.c.1).neg,ws (rt h.c.1).num,ws (rt h.c.1).den,bl (rt h.c.2).neg,ws (rt h.c.2).num,ws (rt h.c.2).den]
def hdW (ts:LL) (h:Hd) (x:List Rat × List Rat):P2 ts:=(dE ts x.1 - dE ts h.a.1,dE ts x.2 - dE ts h.a.2)
def hdO (ts:LL) (h:Hd):P2 ts:=(dE ts h.a.1,dE ts h.a.2)
def hdQ (ts:LL) (x:List Rat × List Rat) (h:Hd):Pq:=bdQ (afp h.c h.p) (hdW ts h x) h.p (hdO ts h)
structure HdP (ts:LL) (x:List Rat × List Rat) (h:Hd):Prop where
  hp:Sm 1000 h.p
  hc:Sm 1000 h.c
  s1:FnC prog 147 [aa5 ts,nA x.1,nA h.a.1] (.tup [nA (sX (hdW ts h x).1),.v .nilIface])
  s2:FnC prog 147 [aa5 ts,nA x.2,nA h.a.2] (.tup [nA (sX (hdW ts h x).2),.v .nilIface])
  e1:sX (dE ts h.a.1) = h.a.1
  e2:sX (dE ts h.a.2) = h.a.2
  b:BdP ts (afp h.c h.p) (hdW ts h x) h.p (hdO ts h)
theorem HdP.body {ts:LL} {x:List Rat × List Rat} {h:Hd} (H:HdP ts x h) :
  Con prog 78 [.ptr 1000 0,qP (afp h.c h.p),lpA (hdW ts h x).l,qP h.p,ptA h.a.1 h.a.2] [(1000,some (mdA ts))] (hdQ ts x h).av [(1000,some (mdA ts))]:=by
 have hb:=aq0 (Sm.mono (H.hc.sub H.hp) oz) (Sm.mono H.hp oz) H.b
 have e:lpA (hdO ts h).l = ptA h.a.1 h.a.2:=by
  show ptA (sX (dE ts h.a.1)) (sX (dE ts h.a.2)) = _;rw [H.e1,H.e2]
 rw [e] at hb;exact hb
def plS (m:Mt) (hs:List Hd) (i:Nat):Sv:=⟨m.ts,hs.map (hdQ m.ts (m.ps.getD i ([],[]))),if m.ps.length = 1 then 0 else 1 - 2 * (i:Int)⟩
def plL (m:Mt) (hs:List Hd) (n:Nat):List AV:=(List.range n).map fun i=>(plS m hs i).av
theorem ai8 (m:Mt) (hs:List Hd) (n:Nat):(plL m hs n).length = n:=by simp [plL]
theorem aup (m:Mt) (hs:List Hd) (n:Nat):plL m hs (n + 1) = plL m hs n ++ [(plS m hs n).av]:=by unfold plL; rw [List.range_succ]; simp
theorem aq3 {m:Mt} {r:Nat} (tw:Tw m.ts r) (hs:List Hd) (hl:hs.length <= 2) (ml:m.ps.length <= 2) (H:∀ x ∈ m.ps, ∀ h ∈ hs, HdP m.ts x h) :
  FnC prog 84 [m.av,.lst 14 (hs.map Hd.av)] (.tup [.lst 3 (plL m hs m.ps.length),.v .nilIface]):=by
 refine gF0 func84 ?_;refine gl ?_;refine gW (Wk.virt 900 3 rfl) ?_;refine gL1 [1,2,15,16] [2] (fun (i:Nat)=>[(6,some (.ms 900 3 0 i)),(17,some (i64 i))]) (fun i=>[(900,some (.row 3 (plL m hs i)))]) (fun i=>i <= m.ps.length) (fun i=>m.ps.length - i) 0 (zero_le _) ?_;rintro i hi K1 hK1;refine gC (fun ht18=>?_) (fun ht18=>?_) (st2:=(17,0))
 ·have hin:=aa9 ht18;obtain ⟨x,hx⟩:=ab5 hin;have hx9:m.ps.getD i ([],[]) = x:=aah hx;have hxm:=mem_of_getElem? hx;refine gi (aag hx) ?_;refine gc (aoo tw) ?_;refine gl ?_;refine gc (ayk i m.ps.length oz) ?_;refine gD ?_ (7,0);refine gW (Wk.o (sl:=[(1,some (.lst 14 (hs.map Hd.av))),(2,some (.ptr 2 0)),(6,some (.ms 900 3 0 i)),(8,some (.ptr 8 0)),(9,some (.ptr 25 0)),(10,some (.ptr 10 0)),(15,some (.lst 2 (m.ps.map lpA))),(16,some (i64 m.ps.length)),(17,some (i64 i))]) (hp:=[(2,some (.box [.lst 1 (m.ts.map nA),.lst 2 (m.ps.map lpA)])),(8,some (.box [nA x.1,nA x.2])),(10,some (.box [.lst 1 (m.ts.map nA),.v (.slice none 0 0),i64 (if m.ps.length = 1 then 0 else 1 - 2 * (i:Int))])),(25,some (mdA m.ts)),(900,some (.row 3 (plL m hs i)))])) ?_
  refine gl ?_;refine gW (Wk.virt 901 4 rfl) ?_;refine gL1 [1,2,8,9,10,15,16,17,35,36] [2,8,25,900] (fun (k:Nat)=>[(6,some (.ms 900 3 0 i)),(37,some (i64 k))]) (fun k=>[(10,some (.box [.lst 1 (m.ts.map nA),.ms 901 4 0 k,i64 (if m.ps.length = 1 then 0 else 1 - 2 * (i:Int))])),(901,some (.row 4 (((hs.take k).map (hdQ m.ts x)).map Pq.av)))]) (fun k=>k <= hs.length) (fun k=>hs.length - k) 0 (zero_le _) ?_ (h2:=(.cons rfl (BlkSub.boxL (.cons (.refl _) (.cons (.nilMs _ _ _) (.cons (.refl _) .nil))) rfl) (.k .nil)))
  rintro k hk K2 hK2;refine gC (fun ht38=>?_) (fun ht38=>?_) (st2:=(13,0))
  ·have hkn:=aa9 ht38;obtain ⟨h,hh⟩:=ab5 hkn;have Hh:=H x hxm h (mem_of_getElem? hh);refine gi (aag hh) ?_;refine gt (aaf (Con.rekeyB 25 rfl rfl rfl rfl (auw Hh.s1)) (ev3 rfl rfl rfl) rfl rfl rfl) ?_;refine gt (aaf (Con.rekeyB 25 rfl rfl rfl rfl (auw Hh.s2)) (ev3 rfl rfl rfl) rfl rfl rfl) ?_;refine gD ?_;refine gc (ahp Hh.hc Hh.hp oz oz) ?_;refine gt (aaf (Con.rekeyB 25 rfl rfl rfl rfl Hh.body) (.cons (.tmp rfl) (.cons (.tmp rfl) (ev3 rfl rfl rfl))) rfl rfl rfl) ?_;refine gs (aa0 (.tmp rfl) rfl (by rw [length_map,length_map,length_take]; omega) (.tmp rfl) T37 rfl T67 rfl rfl (by dsimp only; simp only [length_cons,length_nil]; omega) rfl rfl) ?_;refine gD ?_ (12,0);refine gW (Wk.of (sl:=[(1,some (.lst 14 (hs.map Hd.av))),(2,some (.ptr 2 0)),(6,some (.ms 900 3 0 i)),(8,some (.ptr 8 0)),(9,some (.ptr 25 0)),(10,some (.ptr 10 0)),(15,some (.lst 2 (m.ps.map lpA))),(16,some (i64 m.ps.length)),(17,some (i64 i)),(35,some (.lst 14 (hs.map Hd.av))),(36,some (i64 hs.length)),(37,some (i64 k))]) (hp:=[(2,some (.box [.lst 1 (m.ts.map nA),.lst 2 (m.ps.map lpA)])),(8,some (.box [nA x.1,nA x.2])),(25,some (mdA m.ts)),(10,some (.box [.lst 1 (m.ts.map nA),.ms 71 4 0 (k + 1),i64 (if m.ps.length = 1 then 0 else 1 - 2 * (i:Int))])),(900,some (.row 3 (plL m hs i))),(71,some (.row 4 (((hs.take (k + 1)).map (hdQ m.ts x)).map Pq.av)))]) aa6 (.k (.k (.k (.k (.k (.cons rfl (BlkSub.of (by rw [aaj hh,map_append,map_append]; rfl)) .nil))))))) ?_ (12,0)
   refine gW (Wk.rekey (k:=71) (d:=901) rfl rfl) ?_;refine ga aat ?_;exact gK1 hK2 (k + 1) hkn
  ·have hkn:=aan hk ht38;subst hkn;refine gW ((Wk.freeze (k:=901) rfl).trans <| Wk.of (sl:=[(1,some (.lst 14 (hs.map Hd.av))),(2,some (.ptr 2 0)),(6,some (.ms 900 3 0 i)),(9,some (.ptr 25 0)),(10,some (.ptr 10 0)),(15,some (.lst 2 (m.ps.map lpA))),(16,some (i64 m.ps.length)),(17,some (i64 i))]) (hp:=[(2,some (.box [.lst 1 (m.ts.map nA),.lst 2 (m.ps.map lpA)])),(25,some (mdA m.ts)),(10,some (.box [.lst 1 (m.ts.map nA),.lst 4 ((hs.map (hdQ m.ts x)).map Pq.av),i64 (if m.ps.length = 1 then 0 else 1 - 2 * (i:Int))])),(900,some (.row 3 (plL m hs i)))]) aa6 (.k (.k (.cons rfl (BlkSub.boxL (.cons (.refl _) (.cons (Sub.of (by rw [abq (by rw [length_map,length_map,length_take]; omega),take_length])) (.cons (.refl _) .nil))) rfl) (.k .nil))))) ?_
   refine gC (fun ht78=>?_) (fun ht78=>?_) (st1:=(14,0))
   ·cases ht78
   ·refine gs (aa0 (.tmp rfl) rfl (ai8 _ _ _).symm (.tmp rfl) T47 rfl T62 rfl rfl (by dsimp only; simp only [length_cons, length_nil]; omega) rfl rfl) ?_ (16, 0);refine gW (Wk.of (sl:=[(1,some (.lst 14 (hs.map Hd.av))),(2,some (.ptr 2 0)),(6,some (.ms 86 3 0 (i + 1))),(15,some (.lst 2 (m.ps.map lpA))),(16,some (i64 m.ps.length)),(17,some (i64 i))]) (hp:=[(2,some (.box [.lst 1 (m.ts.map nA),.lst 2 (m.ps.map lpA)])),(86,some (.row 3 (plL m hs (i + 1))))]) aa6 (.k (.cons rfl (BlkSub.of (by rw [aup]; unfold plS; rw [hx9])) .nil))) ?_ (16,0);refine gW (Wk.rekey (k:=86) (d:=900) rfl rfl) ?_;refine ga aat ?_;exact gK1 hK1 (i + 1) hin
 ·have hin:=aan hi ht18;subst hin;refine gW ((Wk.freeze (k:=900) rfl).trans <| Wk.of (sl:=[(6,some (.lst 3 (plL m hs m.ps.length)))]) (hp:=[]) (.cons rfl (Sub.of (by rw [abq (ai8 _ _ _).symm])) .nil) .nil) ?_;refine gE2 ?_;rfl
end Go.Lw
namespace Go.Lw
open Go.Proofs
end Go.Lw
namespace Go.Lw
variable {P:Program} {N:Nat} {R:Array Oper} {s:AS}
def brh (P:Program) (T:TypeId) (f o:Nat):Bool:=match P.underlying T with
  | some (.struct fs)=>(match fs[f]? with
    | some fl=>Nat.beq fl.offset o && (match P.underlying fl.type with
      | some (.struct _)=>false
      | some (.array _ _)=>false
      | some _=>true
      | none=>false)
    | none=>false)
  | _=>false
theorem bdm {d f o:Nat} {x:Operand} {cs:List AV} {c:AV} {T t:TypeId} {pos:String} {after:Array Edge} (hx:Ev s x (.agg cs)) (hc:cs[o]? = some c) (hF:brh P T f o = true) (hN:Nat.blt d N = true) :
  Step P N R s ⟨some d,.field T x f,t,pos,after,none⟩ ⟨some c,[],abg x,[]⟩ :=
 abo rfl rfl hN fun s' hag C m a w hr=>by
  have h:=(hx.agree hag (fun _ h=>h)).rep hr;generalize hu:a.eval x = y at h;cases h with
  | @agg _ vs _ hn h1 hrr =>
   have ho:=(List.getElem?_eq_some_iff.1 hc).1;have hv:vs[o]? = some vs[o]:=by simp [hn,ho]
   refine ⟨vs[o],?_,hrr o _ c hv hc⟩;unfold brh at hF;split at hF
   ·rename_i fs hu2;split at hF
    ·rename_i fl hfl;rw [and_eq_true] at hF;obtain ⟨h2,h3⟩:=hF;have h2:=eq_of_beq_eq_true h2
     have h4:∃ u, P.underlying fl.type = some u /\ (∀ g, u ≠ .struct g) /\ (∀ n e, u ≠ .array n e):=by
      split at h3
      ·cases h3
      ·cases h3
      ·rename_i u n1 n2 e; exact ⟨_,e,fun g h=>n1 g h,fun n e2 h=>n2 n e2 h⟩
      ·cases h3
     obtain ⟨u,e1,e2,e3⟩:=h4;subst h2;simp [execOp,hu,Instr.field,run_underlying hu2,hfl,part,isAgg,run_underlying e1,asAgg,hv]
    ·cases hF
   ·cases hF
end Go.Lw
namespace Go.Lw
theorem Con.rekeyB1 {P:Program} {f:FuncId} {k off:Nat} {x x':Blk} {y0:AV} {xs:List AV} {r:AV} (d:Nat) (hx:x.nm = []) (hx':x'.nm = []) (hy0:y0.nm = []) (hxs:(xs.all fun x=>x.nm.isEmpty) = true) (hr:r.nm = [])
  (h:Con P f (y0 :: .ptr k off :: xs) [(k,some x)] r [(k,some x')]):Con P f (y0 :: .ptr d off :: xs) [(d,some x)] r [(d,some x')]:=by
 refine ⟨h.ok,?_⟩;intro ext m w vs hext hheap hvs hrep
 have h1 := h.ret ext (fun _ => m d) w vs hext (anv (k := d) hx rfl hheap) (by simpa using hvs) (by
  intro j v y hv hy;rw [ajs (d:=k) (k:=d) (y:=x) (x:=x) (m2:=fun _=>m d) (m:=m) rfl]
  match j,hy with
  | 0, hy =>
   cases hy;exact ac3 hy0 (hrep 0 v _ hv rfl)
  | 1, hy =>
   cases hy;have h2:=hrep 1 v _ hv rfl;cases h2 with
   | ptr hm=>exact .ptr hm
  | j + 2, hy =>
   have h2:=hrep (j + 2) v y hv hy;refine ac3 ?_ h2;have:=List.all_eq_true.1 hxs y (mem_of_getElem? hy);simpa using this)
 refine Calls.mono h1 ?_;rintro e w' ⟨v,m',rfl,hf,hh,hn,hk,hrr⟩
 have ho:Own [(k, some x)] (fun _=>m d) = Own [(d, some x)] m:=by
  funext b; apply propext; rw [agx,agx]
 refine ⟨v,fun _=>m' k,rfl,ho ▸ hf,anv (k:=k) hx' rfl hh,?_,?_,?_⟩
 ·intro k' x b hx hb;rw [<- ho];exact hn k _ b (by rw [aad,if_pos rfl]) hb
 ·intro k' x y hx hy;obtain ⟨rfl,_⟩:=aez hx;exact hk k _ _ (by rw [aad,if_pos rfl]) (by rw [aad,if_pos rfl])
 ·rw [ajs (d:=d) (k:=k) (y:=x') (x:=x') (m2:=fun _=>m' k) (m:=m') rfl];exact ac3 hr hrr
end Go.Lw
namespace Go.Lw
open Go.Proofs
def bk2 (l:Li) (a:As) (g:Gr):List Rat:=if g.kind = 0 then sh 0 ((1:Int):Rat) else sX (a5x l a g)
theorem a6c {p q:Rat × Rat} (hp:Sm 1000 p) (hq:Sm 1000 q):Qz 4000 (sqQ p q) 3:=aqn (brv hp hq) oz
theorem a4q {l:Li} {k:Int} {a:As} {E:Nat} (hop:FnC prog 23 [l.av, i64 k, a.av, bl false] (.tup [.v (.pointer none), ai2 E])) (h0:E ≠ 0) (L:List Rat) :
  FnC prog 18 [l.av,i64 k,a.av] (.tup [nA (if E = 0 then L else []),ai2 E]):=by
 refine gF0 func18 ?_;refine gc (hop) ?_;refine gC (fun ht27=>?_) (fun ht27=>?_) (st2:=(77777,0))
 ·refine gR ?_;exact abc (by rw [if_neg h0]; exact Sub.tup (.cons (.nil _ _ _) (.cons (.refl _) .nil)))
 ·exact absurd (ad1 ht27) h0
theorem a7o {l:Li} {k:Int} {a:As} {n:Nat} {g:Gr} (hop:Con prog 23 [l.av, i64 k, a.av, bl false] [] (.tup [.ptr 900 0, .v .nilIface]) [(900, some (svB l g a))]) (D:DyR l a) (ok:DyOk l k a false n g) :
  FnC prog 18 [l.av,i64 k,a.av] (.tup [nA (bk2 l a g),.v .nilIface]):=by
 haveI c:=D.al.ct D.hc;have hgo:=ok.ok;have hbl:=D.al.bl;refine gF0 func18 ?_;refine gt (aab hop (.cons (.tmp rfl) (.cons (.tmp rfl) (.cons (.tmp rfl) (.cons (.const _) .nil)))) hHa rfl rfl) ?_ (2,0);refine gW (Wk.o (sl:=[(5,some (.ptr 5 0)),(8,some (.ptr 900 0)),(9,some (.v .nilIface))]) (hp:=[(5,some (.box a.av.cells)),(900,some (svB l g a))])) ?_;refine gC (fun ht27=>?_) (fun ht27=>?_) (st1:=(3,0)) (st2:=(5,0))
 ·cases ht27
 ·refine gW (Wk.o (sl:=[(5, some (.ptr 5 0)), (8, some (.ptr 900 0)), (10, some (.ptr 32 0))]) (hp:=[(5, some (.box a.av.cells)), (900, some (svB l g a)), (32, some (mdB a.rs))])) ?_ (8, 0);refine gJ0 [10] [32] [(11,some (nA (sX (a5x l a g))))] [] (g.kind ≠ 0) ?_ ?_ 2
  ·intro K1 hK1;refine gC (fun ht43=>?_) (fun ht43=>?_)
   ·have hk:g.kind = 0:=aco ht43;have hd:bk2 l a g = sh 0 ((1:Int):Rat):=if_pos hk;rw [hd];refine gc (bc0) ?_;refine gR ?_;exact ajj rfl
   ·have hk0:g.kind ≠ 0:=ac5 ht43;refine gC (fun ht46=>?_) (fun ht46=>?_)
    ·have hk:g.kind = 1:=aco ht46;obtain ⟨i,k2,z0,z1,z2,j0,j1,j2,P⟩:=ok.rrr hk;have hE:=bof P;obtain rfl:=P.eq;have hq0:=ach D.hl D.li P.h0 (by rcases P.p0.tie with h9 | h9; exact .inl h9.1; exact .inr h9.2.1);have hq1:=ach D.hl D.li P.h1 (by rcases P.p1.tie with h9 | h9; exact .inl h9.1; exact .inr h9.2.1);have hq2:=ach D.hl D.li P.h2 P.t1;have hq3:=ach D.hl D.li P.h2 P.t2;rw [auq,auq] at hE;obtain ⟨y1,y2⟩:=aek D.hl D.li D.al D.hc P.h0 P.p0;obtain ⟨y3,y4⟩:=aek D.hl D.li D.al D.hc P.h1 P.p1;haveI:=y1; haveI:=y2; haveI:=y3; haveI:=y4
     haveI:=a6c hq2 hq0;haveI:=a6c hq3 hq1;have hr:=au2 (a:=sX (aa1 l a j0 i).1) (b:=sX (aa1 l a j0 i).2) (c:=sh 0 (sqQ (aak l j2 i) (aak l j0 i):Rat)) (a2:=sX (aa1 l a j1 k2).1) (b2:=sX (aa1 l a j1 k2).2) (c2:=sh 0 (sqQ (aak l j2 k2) (aak l j1 k2):Rat)) D.al.tr D.hc (axy _ _) (axy _ _);refine gt (aab (Con.rekeyB 900 rfl rfl rfl rfl (a21 D.hl D.li D.al D.hc hgo P.h0 P.h1 P.h2 P.p0 P.p1 P.t1 P.t2)) (ev1 rfl) hHa rfl rfl) ?_;refine gc (afy hq0 hq2 _) ?_;refine gc (afy hq1 hq3 _) ?_;refine gc hr ?_;refine gt (aaf (Con.rekeyB 32 rfl rfl rfl rfl (ahe _ _)) (ev3 rfl rfl rfl) rfl rfl rfl) ?_;refine gD ?_;exact jK0 hK1 hk0 (hw:=Wk.of (.cons rfl (Sub.of (congrArg (fun z=>nA (sX z)) hE.symm)) (.k .nil)) (.k .nil))
    ·have hk1:g.kind ≠ 1:=ac5 ht46;refine gC (fun ht73=>?_) (fun ht73=>?_)
     ·have hk:g.kind = 2:=aco ht73;obtain ⟨i,z0,z1,j0,j,P,ha,hb⟩:=ok.pr hk;have hE:=bno P;obtain rfl:=P.eq;obtain ⟨i1,i2,i3,i4,i5⟩:=afv D.li P.h1;have hq:Sm 1000 (mkQ l i j.point):=by rw [<- ha]; exact ajg D.hl D.li i1 i3
      have hq0:=ach D.hl D.li P.h0 (by rcases P.p0.tie with h9 | h9; exact .inl h9.1; exact .inr h9.2.1);rw [auq] at hE;obtain ⟨y1,y2⟩:=aek D.hl D.li D.al D.hc P.h0 P.p0;obtain ⟨y3,y4⟩:=agu D.hl D.li D.al D.hc i2 (i5 P.hk) hb;obtain ⟨y7,y8⟩:=agu D.hl D.li D.al D.hc i2 i4 hb;haveI:=y1; haveI:=y2; haveI:=y3; haveI:=y4; haveI:=y7; haveI:=y8
      haveI:=a6c hq hq0;have s1:=a72 (ts:=llq a.rs) (u:=4000) (k:=300000) (a:=sX (plE l a j.b j.to).1) (b:=sX (plE l a j.b j.to).2) (a2:=sX (plE l a j.b j.on).1) (b2:=sX (plE l a j.b j.on).2);have s2:=a72 (ts:=llq a.rs) (u:=4000) (k:=300000) (a:=sX (aa1 l a j0 i).1) (b:=sX (aa1 l a j0 i).2) (a2:=sX (plE l a j.b j.on).1) (b2:=sX (plE l a j.b j.on).2);have s3:=bcq (ts:=llq a.rs) (u:=4000) (k:=300000) (a:=sX ((plE l a j.b j.to).1 - (plE l a j.b j.on).1)) (b:=sX ((plE l a j.b j.to).2 - (plE l a j.b j.on).2)) (a2:=sX ((aa1 l a j0 i).1 - (plE l a j.b j.on).1)) (b2:=sX ((aa1 l a j0 i).2 - (plE l a j.b j.on).2));have s4:=bgr (ts:=llq a.rs) (u:=4000) (k:=300000) (a:=sX ((plE l a j.b j.to).1 - (plE l a j.b j.on).1)) (b:=sX ((plE l a j.b j.to).2 - (plE l a j.b j.on).2)) (a2:=sX ((plE l a j.b j.to).1 - (plE l a j.b j.on).1)) (b2:=sX ((plE l a j.b j.to).2 - (plE l a j.b j.on).2));have m1:=ap9 (rs:=a.rs) (u:=4000) (k:=300000) (a:=sX (dotE ((plE l a j.b j.to).1 - (plE l a j.b j.on).1) ((plE l a j.b j.to).2 - (plE l a j.b j.on).2) ((plE l a j.b j.to).1 - (plE l a j.b j.on).1) ((plE l a j.b j.to).2 - (plE l a j.b j.on).2))) (b:=sh 0 (sqQ (mkQ l i j.point) (aak l j0 i):Rat)) D.al.tr D.hc;have m2:=ap9 (rs:=a.rs) (u:=4000) (k:=300000) (a:=sX (crsE ((plE l a j.b j.to).1 - (plE l a j.b j.on).1) ((plE l a j.b j.to).2 - (plE l a j.b j.on).2) ((aa1 l a j0 i).1 - (plE l a j.b j.on).1) ((aa1 l a j0 i).2 - (plE l a j.b j.on).2))) (b:=sX (crsE ((plE l a j.b j.to).1 - (plE l a j.b j.on).1) ((plE l a j.b j.to).2 - (plE l a j.b j.on).2) ((aa1 l a j0 i).1 - (plE l a j.b j.on).1) ((aa1 l a j0 i).2 - (plE l a j.b j.on).2))) D.al.tr D.hc
      have m3:=a3t (rs:=a.rs) (u:=4000) (k:=300000)
       (a:=sX (dotE ((plE l a j.b j.to).1 - (plE l a j.b j.on).1) ((plE l a j.b j.to).2 - (plE l a j.b j.on).2) ((plE l a j.b j.to).1 - (plE l a j.b j.on).1) ((plE l a j.b j.to).2 - (plE l a j.b j.on).2) * qE (sqQ (mkQ l i j.point) (aak l j0 i))))
       (b:=sX (crsE ((plE l a j.b j.to).1 - (plE l a j.b j.on).1) ((plE l a j.b j.to).2 - (plE l a j.b j.on).2) ((aa1 l a j0 i).1 - (plE l a j.b j.on).1) ((aa1 l a j0 i).2 - (plE l a j.b j.on).2) * crsE ((plE l a j.b j.to).1 - (plE l a j.b j.on).1) ((plE l a j.b j.to).2 - (plE l a j.b j.on).2) ((aa1 l a j0 i).1 - (plE l a j.b j.on).1) ((aa1 l a j0 i).2 - (plE l a j.b j.on).2))) D.al.tr D.hc
      rw [ar4 D.al.tr D.hc] at s1 s2 s3 s4;refine gt (aab (Con.rekeyB 900 rfl rfl rfl rfl (a7f D.hl D.li D.al D.hc hgo P.h0 P.h1 P.p0 ha P.hk hb)) (ev1 rfl) hHa rfl rfl) ?_;refine gc s1 ?_;refine gt (aaf (Con.rekeyB 32 rfl rfl rfl rfl (akv _ _ _)) (ev3 rfl rfl rfl) rfl rfl rfl) ?_;refine gD ?_;refine gc s2 ?_;refine gt (aaf (Con.rekeyB 32 rfl rfl rfl rfl (akv _ _ _)) (ev3 rfl rfl rfl) rfl rfl rfl) ?_;refine gc s3 ?_;refine gt (aaf (Con.rekeyB 32 rfl rfl rfl rfl (ahe _ _)) (ev3 rfl rfl rfl) rfl rfl rfl) ?_;refine gD ?_;refine gc s4 ?_;refine gt (aaf (Con.rekeyB 32 rfl rfl rfl rfl (ahe _ _)) (ev3 rfl rfl rfl) rfl rfl rfl) ?_;refine gc (afy hq0 hq _) ?_;refine gs (bdm (o:=2) (.tmp rfl) rfl (by kernel_rfl) rfl) ?_;refine gt (aaf (Con.rekeyB 32 rfl rfl rfl rfl m1) (ev3 rfl rfl rfl) rfl rfl rfl) ?_;refine gt (aaf (Con.rekeyB 32 rfl rfl rfl rfl m2) (ev3 rfl rfl rfl) rfl rfl rfl) ?_;refine gt (aaf (Con.rekeyB 32 rfl rfl rfl rfl m3) (ev3 rfl rfl rfl) rfl rfl rfl) ?_;refine gD ?_;exact jK0 hK1 hk0 (hw:=Wk.of (.cons rfl (Sub.of (congrArg (fun z=>nA (sX z)) hE.symm)) (.k .nil)) (.k .nil))
     ·have hk2:g.kind ≠ 2:=ac5 ht73;obtain ⟨i,z0,z1,j0,j,P,ha,hj,hb⟩:=ok.rp hk0 hk1 hk2;obtain ⟨e0,e1,b0,_⟩:=P.at;have hE:a5x l a g = qE (rpN l i j) * rpD l a i j0 j - qE (rpH l i j0 j) * qE (rpH l i j0 j):=by unfold a5x; rw [if_neg hk0,if_neg hk1,if_neg hk2,e0,e1,b0]
      obtain rfl:=P.eq;obtain ⟨i1,i2,i3,i4,i5⟩:=afv D.li P.h1;have hs0:Sm 1000 (aak l j0 i):=ach D.hl D.li P.h0 (by rcases P.p0.tie with h9 | h9; exact .inl h9.1; exact .inr h9.2.1);have hs1:Sm 1000 (mkQ l i j.on):=by rw [<- hj]; exact ajg D.hl D.li i2 i4
      have hs2:Sm 1000 (mkQ l i j.to):=by rw [<- hj]; exact ajg D.hl D.li i2 (i5 P.hk)
      have hv:Sm _ (rpV l i j):=hs2.sub hs1;haveI:Qz 4000 (rpN l i j) 3:=aqn (hv.dot hv) oz;haveI:Qz 4000 (rpH l i j0 j) 3:=aqn (hv.cross (hs1.sub hs0)) oz;obtain ⟨w1,w2⟩:=a6p D P.h0 P.p0 P.h1 hb;haveI:=w1; haveI:=w2
      haveI z3:Zu 4000 300000 (rpD l a i j0 j) _ _:=(inferInstance:Zu 4000 300000 (dotE (rpW l a i j0 j).1 (rpW l a i j0 j).2 (rpW l a i j0 j).1 (rpW l a i j0 j).2) _ _)
      have hrr:=amo D (i:=i) (j0:=j0) (j:=j) (by decide);refine gt (aab (Con.rekeyBB 900 32 (by decide) (by decide) rfl rfl rfl rfl rfl rfl (ba8 D hgo P.h0 P.h1 P.p0 hj P.hk hb)) (ev2 rfl rfl) hHa rfl rfl) ?_;refine gt (aab (Con.rekeyB1 32 rfl rfl rfl rfl rfl hrr) (ev2 rfl rfl) hHa rfl rfl) ?_;exact jK0 hK1 hk0 (hw:=Wk.of (.cons rfl (Sub.of (congrArg (fun z=>nA (sX z)) hE.symm)) (.k .nil)) (.k .nil))
  ·rintro hk9;rw [show bk2 l a g = sX (a5x l a g) from if_neg hk9];refine gC (fun ht147=>?_) (fun ht147=>?_) (st1:=(21,0))
   ·cases ht147
   ·refine gR ?_;exact ajj rfl
theorem avi (l:Li) (hl:l.ok) (k:Int) (a:As) (al:AL a) :
  FnC prog 18 [l.av,i64 k,a.av] (.tup [nA (if dyE l k a false = 0 then bk2 l a (gAt l k) else []),ai2 (dyE l k a false)]):=by
 have hop:=ayx l hl k a al false
 by_cases h0:dyE l k a false = 0
 ·obtain ⟨n, g, ok⟩:=beb h0;have hgA:gAt l k = g:=by unfold gAt; rw [ok.hk,toNat_natCast]; exact aah ok.hg
  rw [h0,hgA] at hop ⊢;exact a7o hop ⟨hl,ok.li,al,ok.chk⟩ ok
 ·rw [a0v h0, az3 h0] at hop;exact a4q hop h0 _
end Go.Lw
