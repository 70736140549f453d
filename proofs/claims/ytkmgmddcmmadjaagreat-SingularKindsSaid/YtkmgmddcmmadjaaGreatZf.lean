/- SingularKinds: for any linkage, any turns, any assembly and any group the law returns true and leaves its arguments as they were. No other condition. Part 6 of 7: what the later parts need -/
import Derived.Test.YtkmgmddcmmadjaaGreatZe
import Derived.Test.YtkmgmddcmmadjaaGreatRows
import Derived.Laws.Cover3
set_option linter.unusedVariables false
open List (mem_of_getElem? mem_append map_cons mem_cons length_cons length_append length_nil getD_eq_getElem?_getD getElem?_eq_none all_eq_true getElem?_take getElem?_drop getElem?_map getElem?_eq_getElem nil_append map_append length_take take_of_length_le drop_zero take_length not_mem_nil length_map map_map map_replicate map_set length_set)
open Nat (eq_of_beq_eq_true le_refl lt_of_lt_of_le lt_or_ge le_trans zero_le)
open Option (map_eq_some_iff)
open Bool (and_eq_true)
open Array (getD_eq_getD_getElem?)
open Int (toNat_natCast)
open Go.Proofs.Tryz
namespace Go.Lw
open Go.Proofs
section
variable {W:World} {H:Type} {enc:TypeId × Value -> H}
theorem boh:ac4 prog W enc 231 (fun n:Nat=>u32 n) (fun n=>n < 4294967296) :=
 (av6 (k:=.u32) Tryz.underlying231).map Int.toNat _ _ (fun n h=>by
  have h1:0 <= n /\ n <= 4294967295:=by simpa [Lit.wf,IntKind.min,IntKind.max,IntKind.signed,IntKind.bits] using h
  have h2:((n.toNat:Nat):Int) = n:=by omega
  exact ⟨by omega,by unfold u32; rw [h2]⟩)
theorem bls:ac4 prog W enc 68 ws (fun l=>Ws l /\ l.length <= 281474976710656) :=
 (aco Tryz.underlying68 (n:=1) (by kernel_rfl) (by omega) (by kernel_rfl) boh (fun _=>rfl)).map id _ _ (fun l h=>⟨⟨fun x hx=>h.1 x hx,h.2⟩,rfl⟩)
theorem a6l:ac4 prog W enc 4 bl (fun _=>True):=a4d Tryz.underlying4
theorem alw:ac4 prog W enc 3 i64 (fun _=>True):=(av6 (k:=.i64) Tryz.underlying3).map id _ _ (fun n h=>⟨trivial,rfl⟩)
theorem awp:ac4 prog W enc 9 (fun s:ByteArray=>AV.v (.string s)) (fun s=>s.size <= 281474976710656):=axu Tryz.underlying9
theorem a0k:ac4 prog W enc 70 Rt.av Rt.wok :=
 (ab2 (n := 3) Tryz.underlying70 (by kernel_rfl)
  (.cons rfl (n:=1) (by kernel_rfl) a6l (fun _=>rfl) (.cons rfl (n:=1) (by kernel_rfl) bls (fun _=>rfl) (.cons rfl (n:=1) (by kernel_rfl) bls (fun _=>rfl) (.nil _)))) (fun _=>rfl)).map
  (fun z=>⟨z.1,z.2.1,z.2.2.1⟩) _ _ (fun z h=>⟨⟨h.2.1.1,h.2.2.1.1⟩,rfl⟩)
def bp6 (x:List Rt):Prop:=(∀ r ∈ x,r.wok) /\ x.length <= 281474976710656
theorem aw1:ac4 prog W enc 65 nR bp6:=aco Tryz.underlying65 (n:=3) (by kernel_rfl) (by omega) (by kernel_rfl) a0k (fun _=>rfl)
theorem bg0:ac4 prog W enc 28 (fun l:List (List Rt)=>.lst 1 (l.map nR)) (fun l=>ane l /\ l.length <= 281474976710656) :=
 aco Tryz.underlying28 (n:=1) (by kernel_rfl) (by omega) (by kernel_rfl) aw1 (fun _=>rfl)
theorem bc1:ac4 prog W enc 30 ae5 (fun l=>ane l /\ l.length <= 281474976710656) :=
 (ab2 (n:=1) Tryz.underlying30 (by kernel_rfl) (.cons rfl (n:=1) (by kernel_rfl) bg0 (fun _=>rfl) (.nil _)) (fun _=>rfl)).map (fun z=>z.1) _ _ (fun z h=>⟨h.1,rfl⟩)
theorem a62:ac4 prog W enc 88 Pl.av (fun b=>ane b.l) :=
 (ab2 (n := 4) Tryz.underlying88 (by kernel_rfl)
  (.cons rfl (n:=1) (by kernel_rfl) aw1 (fun _=>rfl) (.cons rfl (n:=1) (by kernel_rfl) aw1 (fun _=>rfl) (.cons rfl (n:=1) (by kernel_rfl) aw1 (fun _=>rfl) (.cons rfl (n:=1) (by kernel_rfl) aw1 (fun _=>rfl) (.nil _))))) (fun _=>rfl)).map
  (fun z=>⟨z.1, z.2.1, z.2.2.1, z.2.2.2.1⟩) _ _ (fun z h=>⟨by
   intro x hx
   simp only [Pl.l,mem_cons,not_mem_nil,or_false] at hx
   rcases hx with rfl | rfl | rfl | rfl
   ·exact h.1
   ·exact h.2.1
   ·exact h.2.2.1
   ·exact h.2.2.2.1,rfl⟩)
theorem a32:ac4 prog W enc 31 (fun l:List Pl=>.lst 4 (l.map Pl.av)) (fun l=>(∀ b ∈ l, ane b.l) /\ l.length <= 281474976710656) :=
 aco Tryz.underlying31 (n:=4) (by kernel_rfl) (by omega) (by kernel_rfl) a62 (fun _=>rfl)
theorem bie:ac4 prog W enc 32 (fun l:List Int=>.lst 1 (l.map i64)) (fun l=>(∀ b ∈ l, True) /\ l.length <= 281474976710656) :=
 aco Tryz.underlying32 (n:=1) (by kernel_rfl) (by omega) (by kernel_rfl) alw (fun _=>rfl)
abbrev asG (a:As):List AV:=[.lst 1 (a.rs.map nR),.lst 4 (a.bs.map Pl.av),.lst 1 (a.ms.map i64)]
theorem bov:ac4 prog W enc 34 (fun a:As=>.agg (asG a)) As.ok :=
 (ab2 (n := 3) Tryz.underlying34 (by kernel_rfl)
  (.cons rfl (n:=1) (by kernel_rfl) bc1 (fun _=>rfl) (.cons rfl (n:=1) (by kernel_rfl) a32 (fun _=>rfl) (.cons rfl (n:=1) (by kernel_rfl) bie (fun _=>rfl) (.nil _)))) (fun _=>rfl)).map
  (fun z=>⟨z.1,z.2.1,z.2.2.1⟩) _ _ (fun z h=>⟨⟨h.1.1,h.1.2,h.2.1.1,h.2.1.2⟩,rfl⟩)
theorem bh7:ac4 prog W enc 72 Tn.av (fun x=>x.t.wok) :=
 (ab2 (n := 4) Tryz.underlying72 (by kernel_rfl) (.cons rfl (n := 3) (by kernel_rfl) a0k (fun _ => rfl) (.cons rfl (n := 1) (by kernel_rfl) a6l (fun _ => rfl) (.nil _))) (fun _ => rfl)).map
  (fun z=>⟨z.1,z.2.1⟩) _ _ (fun z h=>⟨h.1,rfl⟩)
theorem bdt:ac4 prog W enc 27 (fun l:List Tn=>.lst 4 (l.map Tn.av)) (fun l=>(∀ x ∈ l, x.t.wok) /\ l.length <= 281474976710656) :=
 aco Tryz.underlying27 (n:=4) (by kernel_rfl) (by omega) (by kernel_rfl) bh7 (fun _=>rfl)
theorem bjp:ac4 prog W enc 82 Mk.av (fun m=>m.name.size <= 281474976710656 /\ m.x.wok /\ m.y.wok) :=
 (ab2 (n := 7) Tryz.underlying82 (by kernel_rfl)
  (.cons rfl (n:=1) (by kernel_rfl) awp (fun _=>rfl) (.cons rfl (n:=3) (by kernel_rfl) a0k (fun _=>rfl) (.cons rfl (n:=3) (by kernel_rfl) a0k (fun _=>rfl) (.nil _)))) (fun _=>rfl)).map
  (fun z=>⟨z.1,z.2.1,z.2.2.1⟩) _ _ (fun z h=>⟨⟨h.1,h.2.1,h.2.2.1⟩,rfl⟩)
theorem bjh:ac4 prog W enc 80 Bd.av (fun b=>b.name.size <= 281474976710656 /\ b.pts.length <= 281474976710656 /\ ∀ m ∈ b.pts, m.name.size <= 281474976710656 /\ m.x.wok /\ m.y.wok) :=
 (ab2 (n := 2) Tryz.underlying80 (by kernel_rfl)
  (.cons rfl (n:=1) (by kernel_rfl) awp (fun _=>rfl) (.cons rfl (n:=1) (by kernel_rfl) (aco Tryz.underlying78 (n:=7) (by kernel_rfl) (by omega) (by kernel_rfl) bjp (fun _=>rfl)) (fun _=>rfl) (.nil _))) (fun _=>rfl)).map
  (fun z=>⟨z.1,z.2.1⟩) _ _ (fun z h=>⟨⟨h.1,h.2.1.2,h.2.1.1⟩,rfl⟩)
theorem bem:ac4 prog W enc 125 Jt.av (fun j=>j.name.size <= 281474976710656) :=
 (ab2 (n := 7) Tryz.underlying125 (by kernel_rfl)
  (.cons rfl (n := 1) (by kernel_rfl) awp (fun _ => rfl) (.cons rfl (n := 1) (by kernel_rfl) alw (fun _ => rfl) (.cons rfl (n := 1) (by kernel_rfl) alw (fun _ => rfl) (.cons rfl (n := 1) (by kernel_rfl) alw (fun _ => rfl)
   (.cons rfl (n:=1) (by kernel_rfl) alw (fun _=>rfl) (.cons rfl (n:=1) (by kernel_rfl) alw (fun _=>rfl) (.cons rfl (n:=1) (by kernel_rfl) alw (fun _=>rfl) (.nil _)))))))) (fun _=>rfl)).map
  (fun z=>⟨z.1,z.2.1,z.2.2.1,z.2.2.2.1,z.2.2.2.2.1,z.2.2.2.2.2.1,z.2.2.2.2.2.2.1⟩) _ _ (fun z h=>⟨h.1,rfl⟩)
theorem a8l:ac4 prog W enc 127 Dr.av (fun d=>d.name.size <= 281474976710656) :=
 (ab2 (n := 2) Tryz.underlying127 (by kernel_rfl) (.cons rfl (n := 1) (by kernel_rfl) awp (fun _ => rfl) (.cons rfl (n := 1) (by kernel_rfl) alw (fun _ => rfl) (.nil _))) (fun _ => rfl)).map
  (fun z=>⟨z.1,z.2.1⟩) _ _ (fun z h=>⟨h.1,rfl⟩)
abbrev liG (l:Li):List AV:=[.v (.string l.name),.lst 2 (l.bodies.map Bd.av),.lst 7 (l.joints.map Jt.av),.lst 2 (l.drivers.map Dr.av)]
theorem bkg:ac4 prog W enc 26 (fun l:Li=>.agg (liG l)) Li.okw :=
 (ab2 (n := 4) Tryz.underlying26 (by kernel_rfl)
  (.cons rfl (n := 1) (by kernel_rfl) awp (fun _ => rfl)
   (.cons rfl (n := 1) (by kernel_rfl) (aco Tryz.underlying22 (n := 2) (by kernel_rfl) (by omega) (by kernel_rfl) bjh (fun _ => rfl)) (fun _ => rfl)
    (.cons rfl (n := 1) (by kernel_rfl) (aco Tryz.underlying23 (n := 7) (by kernel_rfl) (by omega) (by kernel_rfl) bem (fun _ => rfl)) (fun _ => rfl)
     (.cons rfl (n:=1) (by kernel_rfl) (aco Tryz.underlying24 (n:=2) (by kernel_rfl) (by omega) (by kernel_rfl) a8l (fun _=>rfl)) (fun _=>rfl) (.nil _))))) (fun _=>rfl)).map
  (fun z=>⟨z.1,z.2.1,z.2.2.1,z.2.2.2.1⟩) _ _ (fun z h=>⟨⟨h.1,h.2.1.1,h.2.2.1.1,h.2.2.2.1.1,h.2.1.2,h.2.2.1.2,h.2.2.2.1.2⟩,rfl⟩)
end
end Go.Lw
namespace Go.Lw
open Go.Proofs Go.Proofs.YtkmgmddcmmadjaaGreat
open Go.ChangeShapes Go.WideShapes Go.ChangeAt Go.RowKit
theorem own:ownKnob prog.godebug = none:=by kernel_rfl
theorem a8f:laidOutB prog = true:=by kernel_rfl
theorem bec:prog.stopsHeard = true:=by kernel_rfl
theorem bcp:prog.plainKeys = true:=by kernel_rfl
theorem bi4:mapsRowed prog = true:=by kernel_rfl
theorem bc6:prog.mayEnter = true:=by kernel_rfl
theorem bdn:prog.liftsFinal = false:=by kernel_rfl
theorem avf {v:Value} (h:∀ cs, v ≠ .agg cs):v.cells = #[v]:=by
 cases v <;> first | rfl | exact absurd rfl (h _)
theorem avv {P:Program} {W:World} {r:Reach} {b0:Nat} {t e:TypeId} {v:Value} (ht:P.underlying t = some (.slice e)) (hval:Value.okWide P W r b0 t v):v.cells = #[v]:=by
 refine avf (fun cs h=>?_)
 subst h
 unfold Value.okWide at hval
 rw [ht] at hval
 unfold Cell.okWide at hval
 rw [ht] at hval
 unfold Cell.ok at hval
 rw [ht] at hval
 exact hval
theorem aui {H:Type} {enc:TypeId × Value -> H} {W W':World} {t:TypeId} {v:Value} {d:DataW H} {ps:List MemPlace} {sp':Nat -> Bool} (hr:prog.readableRec t = true) (ht:t < prog.types.size)
  (h:DataW.Trod enc prog W 0 (fun _=>true) true t v d ps) (hb:Below W.heap.size W W') (hlt:∀ x ∈ ps,x.block < W.heap.size) (hs:∀ p ∈ ps,sp' p.block = true):DataW.Trod enc prog W' 0 sp' true t v d ps :=
 WideElems.Trod_stays a8f hr ht h (fun x hx=>hb.same (hlt x hx)) hs
end Go.Lw
namespace Go.Lw
open Go.Proofs
abbrev fdC (l:Li) (known driven:List Bool) (r:List AV):List AV:=l.av.cells ++ (.lst 1 (known.map bl) :: .lst 1 (driven.map bl) :: r)
theorem a7i (j:Jt) (b:Int):FnC prog 393 [j.av, i64 b] (i64 (ai0 j b)):=by
 refine gF0 func393 ?_
 refine gC (fun ht6=>?_) (fun ht6=>?_)
 ·have h1:b = j.a:=aes ht6
  refine gE1 ?_
  unfold ai0; rw [if_pos h1]
 ·have h1:b ≠ j.a:=afr ht6
  refine gC (fun ht12=>?_) (fun ht12=>?_)
  ·have h2:b = j.b:=aes ht12
   refine gE1 ?_
   unfold ai0; rw [if_neg h1,if_pos h2]
  ·have h2:b ≠ j.b:=afr ht12
   refine gE1 ?_
   unfold ai0; rw [if_neg h1,if_neg h2]; rfl
theorem a3b (j:Jt) (kind body:Int) (f:FuncId) (pre caps:List AV) (p:Int -> Bool) (hp:0 <= ai0 j body -> FnC prog f (pre ++ [i64 (ai0 j body)] ++ caps) (bl (p (ai0 j body)))) :
  FnC prog 392 [j.av,.iptr [i64 body],.iptr [i64 kind],.iptr [.cl f pre caps]] (bl (bpc kind body p j)):=by
 refine gF0 func392 ?_
 refine gc (a7i j body) ?_
 refine gcG (fun h=>(hp (bsy h))) ?_
 refine gE1 ?_
 exact congrArg bl bnl
theorem ano (bs:List Jt) (hl:bs.length <= 281474976710656) (f:FuncId) (pre caps:List AV) (ok:Nat -> Bool)
  (hf:∀ (i:Nat) (b:Jt),bs[i]? = some b -> (∀ j,j < i -> ok j = true) -> FnC prog f (pre ++ [b.av] ++ caps) (bl (!ok i))) :
  FnC prog 391 [.lst 7 (bs.map Jt.av),.cl f pre caps] (i64 (ixI (abi bs.length ok))):=by
 refine gF0 func391 ?_
 refine gl ?_
 refine gL1 [0,1,7] [] (fun (i:Nat)=>[(8,some (i64 i))]) (fun _=>[]) (fun i=>i <= bs.length /\ ∀ j,j < i -> ok j = true) (fun i=>bs.length - i) 0 ⟨zero_le _,fun j h=>by omega⟩ ?_
 rintro i ⟨hi,hj⟩ K1 hK1
 refine gC (fun ht9=>?_) (fun ht9=>?_)
 ·have hin:=abd ht9
  obtain ⟨b,hb⟩:=abt hin
  refine gi (aae hb) ?_
  refine gc (hf i b hb hj) ?_
  refine gC (fun ht16=>?_) (fun ht16=>?_)
  ·have h2:=adh ht16
   refine gE1 ?_
   rw [abx hin hj h2]; rfl
  ·have h2:=adi ht16
   refine ga aat ?_
   exact gK1 hK1 (i + 1) ⟨hin,fun j h9=>by rcases lt_or_ge j i with g | g; exact hj j g; (have:j = i:=by omega); subst this; exact h2⟩
 ·have hin:=aaj hi ht9
  subst hin
  refine gE1 ?_
  rw [abj hj]; rfl
theorem awm (l:Li) (hl:l.ok) (hli:liE l = 0) (Fd:List AV) (kind body:Int) (f:FuncId) (pre caps:List AV) (p:Int -> Bool)
  (hp:∀ o:Int,0 <= o -> o < l.bodies.length -> FnC prog f (pre ++ [i64 o] ++ caps) (bl (p o))) :
  FnC prog 368 [.iptr (l.av.cells ++ Fd),i64 kind,i64 body,.cl f pre caps] (i64 (gJ l kind body p)):=by
 refine gF0 func368 ?_ (1,0)
 refine gW ((Wk.freezeB (k:=7) rfl rfl).trans <| (Wk.freezeB (k:=5) rfl rfl).trans <| (Wk.freezeB (k:=6) rfl rfl).trans <| Wk.o (sl:=[(0,some (.iptr (l.av.cells ++ Fd))),(5,some (.iptr [i64 kind])),(6,some (.iptr [i64 body])),(7,some (.iptr [.cl f pre caps]))]) (hp:=[])) ?_
 refine gc (Con.subA (.cons (.refl _) (.cons (bf3 rfl) .nil)) (ano l.joints hl.lj 392 [] [.iptr [i64 body],.iptr [i64 kind],.iptr [.cl f pre caps]] (fun i=>!bpc kind body p (l.joints.getD i default)) (fun i b hb hj=>by rw [Bool.not_not,aaf hb]; exact a3b b kind body f pre caps p (fun h=>hp _ h (bcv hli hb body))))) ?_
 refine gE1 ?_
 rfl
theorem azz (l:Li) (known driven:List Bool) (r:List AV) (b:Int) (h0:0 <= b) (h1:b < known.length):FnC prog 389 [.iptr (fdC l known driven r), i64 b] (bl (kn known b)):=by
 obtain ⟨v,hv⟩:∃ v,known[b.toNat]? = some v:=abt (by omega)
 have ev:kn known b = v:=aaf hv
 refine gF0 func389 ?_
 refine gi (adl (n:=b.toNat) (by omega) hv) ?_
 refine gE1 ?_
 rw [ev]
theorem aoa (l:Li) (hl:l.ok) (hli:liE l = 0) (known driven:List Bool) (hk:known.length = l.bodies.length) (r:List AV) (kind body:Int) :
  FnC prog 366 [.iptr (fdC l known driven r),i64 kind,i64 body] (i64 (gJ l kind body (kn known))):=by
 refine gF0 func366 ?_
 refine gc (awm l hl hli _ kind body 389 [.iptr (fdC l known driven r)] [] (kn known) (fun o h0 h1=>azz l known driven r o h0 (by omega))) ?_
 refine gE1 ?_
 rfl
theorem a6i (o j:Int):FnC prog 369 [i64 o, .iptr [i64 j]] (bl (decide (o = j))):=by
 refine gF0 func369 ?_
 refine gE1 ?_
 exact congrArg bl ak6
theorem beu (l:Li) (known driven:List Bool) (hd:driven.length = known.length) (r:List AV) (b:Int) (h0:0 <= b) (h1:b < known.length) :
  FnC prog 370 [.iptr (fdC l known driven r),i64 b] (bl (!kn known b && !kn driven b)):=by
 obtain ⟨v,hv⟩:∃ v,known[b.toNat]? = some v:=abt (by omega)
 have ev:kn known b = v:=aaf hv
 obtain ⟨u,hu⟩:∃ u,driven[b.toNat]? = some u:=abt (by omega)
 have eu:kn driven b = u:=aaf hu
 refine gF0 func370 ?_
 refine gi (adl (n:=b.toNat) (by omega) hv) ?_
 refine giG (fun _=>(adl (n:=b.toNat) (by omega) hu)) ?_
 refine gE1 ?_
 rw [ev,eu]; exact congrArg bl (adf _ _)
end Go.Lw
namespace Go.Lw
open Go.Proofs
theorem a4i (l:Li) (hl:l.ok) (hli:liE l = 0) (known driven:List Bool) (hk:known.length = l.bodies.length) (r:List AV) :
  FnC prog 300 [.iptr (fdC l known driven r)] (.tup [((driverG l known).getD default).av,bl (driverG l known).isSome]):=by
 have hld:=hl.ld
 refine gF0 func300 ?_
 refine gl ?_
 refine gL1 [0,2,11,12] [2] (fun (i:Nat)=>[(13,some (i64 i))]) (fun _=>[]) (fun i=>i <= l.drivers.length /\ ∀ j,j < i -> (!drHit l known j) = true) (fun i=>l.drivers.length - i) 0 ⟨zero_le _,fun j h=>by omega⟩ ?_
 rintro i ⟨hi,hj⟩ K1 hK1
 refine gC (fun ht14=>?_) (fun ht14=>?_)
 ·have hin:=abd ht14
  obtain ⟨d,hd⟩:=abt hin
  have hdd:l.drivers.getD i default = d:=aaf hd
  have hb:=ahg (az5 hli hd)
  obtain ⟨v,hv⟩:∃ v,known[d.body.toNat]? = some v:=abt (by omega)
  have ev:kn known d.body = v:=aaf hv
  have ej:gJ l 0 d.body (kn known) = jointI l 0 d.body known:=bg4 hli (fun o _ _=>rfl)
  refine gi (aae hd) ?_
  refine gi (adl (n:=d.body.toNat) (by omega) hv) ?_
  refine gD ?_
  refine gC (fun ht25=>?_) (fun ht25=>?_)
  ·have h2 : drHit l known i = false := by unfold drHit; rw [hdd, ev, ht25]; rfl
   refine ga aat ?_
   exact gK1 hK1 (i + 1) ⟨hin,fun k h9=>by rcases lt_or_ge k i with g | g; exact hj k g; (have:k = i:=by omega); subst this; rw [h2]; rfl⟩
  ·have hv0:v = false:=ht25
   refine gc (show FnC _ _ _ (i64 (jointI l 0 d.body known)) by rw [<- ej]; exact aoa l hl hli known driven hk r 0 d.body) ?_
   refine gC (fun ht31=>?_) (fun ht31=>?_)
   ·have h2 : drHit l known i = true := by unfold drHit; rw [hdd, ev, hv0, decide_eq_true (boz ht31)]; rfl
    have hg:driverG l known = some ⟨0,[d.body],[jointI l 0 d.body known],i⟩:=by unfold driverG; rw [abx hin hj (by rw [h2]; rfl),<- hdd]; rfl
    refine gE2 ?_
    rw [hg]; rfl
   ·have h2 : drHit l known i = false := by unfold drHit; rw [hdd, decide_eq_false (bk5 ht31), Bool.and_false]
    refine ga aat ?_
    exact gK1 hK1 (i + 1) ⟨hin,fun k h9=>by rcases lt_or_ge k i with g | g; exact hj k g; (have:k = i:=by omega); subst this; rw [h2]; rfl⟩
 ·have hin:=aaj hi ht14
  subst hin
  have hg:driverG l known = none:=by unfold driverG; rw [abj hj]; rfl
  refine gR ?_
  exact Fin.sub Fin.pure (by rw [hg]; exact Sub.tup (.cons ann (.cons (.refl _) .nil)))
theorem baw (l:Li) (hli:liE l = 0) (known:List Bool) (hk:known.length = l.bodies.length) (r:List AV) (b:Nat) (h1:b < l.bodies.length) :
  FnC prog 370 [.iptr (fdC l known (aaw l) r),i64 b] (bl (freeB l known b)):=by
 have h:=beu l known (aaw l) (by rw [aht,hk]) r b (by omega) (by omega)
 rw [bbf hli (by omega)] at h
 exact h
theorem a0n (l:Li) (hl:l.ok) (hli:liE l = 0) (known:List Bool) (hk:known.length = l.bodies.length) (r:List AV) (kind body:Int) :
  FnC prog 366 [.iptr (fdC l known (aaw l) r),i64 kind,i64 body] (i64 (jointI l kind body known)):=by
 have h:=aoa l hl hli known (aaw l) hk r kind body
 rw [bg4 hli (fun o _ _=>rfl)] at h
 exact h
theorem a24 (l:Li) (hl:l.ok) (hli:liE l = 0) (known:List Bool) (hk:known.length = l.bodies.length) (r:List AV) :
  FnC prog 302 [.iptr (fdC l known (aaw l) r)] (.tup [((singleG l known).getD default).av,bl (singleG l known).isSome]):=by
 have h8:=(abz hli).2.2.2.1
 refine gF0 func302 ?_
 refine gl ?_
 refine gL1 [0,2,12,13] [2] (fun (i:Nat)=>[(14,some (i64 i))]) (fun _=>[]) (fun i=>i <= l.bodies.length /\ ∀ j,j < i -> (!sgHit l known j) = true) (fun i=>l.bodies.length - i) 0 ⟨zero_le _,fun j h=>by omega⟩ ?_
 rintro i ⟨hi,hj⟩ K1 hK1
 refine gC (fun ht15=>?_) (fun ht15=>?_)
 ·have hin:=abd ht15
  refine gc (baw l hli known hk r i hin) ?_
  refine gC (fun ht20=>?_) (fun ht20=>?_)
  ·have h2 : sgHit l known i = false := by unfold sgHit; rw [adh ht20]; rfl
   refine ga aat ?_
   exact gK1 hK1 (i + 1) ⟨hin,fun k h9=>by rcases lt_or_ge k i with g | g; exact hj k g; (have:k = i:=by omega); subst this; rw [h2]; rfl⟩
  ·have hf:=adi ht20
   refine gc (a0n l hl hli known hk r 0 i) ?_
   refine gc (a0n l hl hli known hk r 1 i) ?_
   refine gC (fun ht32=>?_) (fun ht32=>?_)
   ·have h2 : sgHit l known i = false := by unfold sgHit; rw [bmh ht32, Bool.and_false]
    refine ga aat ?_
    exact gK1 hK1 (i + 1) ⟨hin,fun k h9=>by rcases lt_or_ge k i with g | g; exact hj k g; (have:k = i:=by omega); subst this; rw [h2]; rfl⟩
   ·obtain ⟨p0, s0⟩:=bng ht32
    have s1:=(afu (l:=l) (kind:=1) (body:=i) (oth:=known)).2
    have h2:sgHit l known i = true:=by unfold sgHit; rw [hf,decide_eq_true p0,decide_eq_true s0]; rfl
    obtain ⟨j,hjt⟩:∃ j,l.joints[(jointI l 1 i known).toNat]? = some j:=abt (by omega)
    have hjd:l.joints.getD (jointI l 1 i known).toNat default = j:=aaf hjt
    have hg:singleG l known = some (sgG l known i):=by unfold singleG; rw [abx hin hj (by rw [h2]; rfl),Option.map_some]
    refine gi (adl (n:=(jointI l 1 i known).toNat) (by omega) hjt) ?_
    refine gC (fun ht43=>?_) (fun ht43=>?_)
    ·have hji:j.a = i:=aes ht43
     refine gE2 ?_
     rw [hg]; unfold sgG; rw [hjd]; simp only [Option.getD_some,if_pos hji]; rfl
    ·have hji:j.a ≠ i:=afr ht43
     refine gE2 ?_
     rw [hg]; unfold sgG; rw [hjd]; simp only [Option.getD_some,if_neg hji]; rfl
 ·have hin:=aaj hi ht15
  subst hin
  have hg:singleG l known = none:=by unfold singleG; rw [abj hj]; rfl
  refine gR ?_
  exact Fin.sub Fin.pure (by rw [hg]; exact Sub.tup (.cons ann (.cons (.refl _) .nil)))
theorem a5q (Fd:List AV):FnC prog 367 [.iptr Fd] (.fn 390 [.iptr [.iptr Fd]]):=by
 refine gF0 func367 ?_ (1,0)
 refine gW ((Wk.freezeB (k:=1) rfl rfl).trans <| Wk.o (sl:=[(1,some (.iptr [.iptr Fd]))]) (hp:=[])) ?_
 refine gE1 ?_
 rfl
end Go.Lw
namespace Go.Lw
open Go.Proofs
def bpr:Code -> Option (Array Tmp × Code × Code)
  | .rangeFunc _ ps x y=>some (ps,x,y)
  | .seq a b=>match bpr a with
    | some r=>some r
    | none=>bpr b
  | .block _ c=>bpr c
  | _=>none
def rgD (n:Nat) (o:Option Code):LpD:=match o with
  | some c=>match bpr c with
    | some (ps,x,y)=>⟨ps,x,y,n⟩
    | none=>⟨#[],.skip,.skip,0⟩
  | none=>⟨#[],.skip,.skip,0⟩
def pb0 (D:LpD) (Fd:List AV) (h:Bool):Blk:=.loop D (match h with | true=>.done | false=>.ready) (match h with | true=>some .ret | false=>none) [(1,some (.iptr [.iptr Fd])),(2,some (.ptr 1001 0)),(3,some (.ptr 1002 0))]
def pb1 (g:Gr):Blk:=.box [i64 g.kind,.lst 1 (g.bodies.map i64),.lst 1 (g.joints.map i64),i64 g.driver]
def pb2 (h:Bool):Blk:=.box [bl h]
def ahp (D:LpD) (Fd:List AV) (h:Bool) (g:Gr):Hp:=[(1000,some (pb0 D Fd h)),(1001,some (pb1 g)),(1002,some (pb2 h))]
theorem bez {D:LpD} {Fd:List AV} {h:Bool} {g:Gr} {k:Nat} {z:Blk} (hz:lk (ahp D Fd h g) k = some z):1000 <= k:=by
 unfold ahp at hz
 simp only [aac] at hz
 split at hz
 ·omega
 ·split at hz
  ·omega
  ·split at hz
   ·omega
   ·cases hz
theorem bcj {D:LpD} {Fd:List AV} {s:AS} (hs:∀ k z, lk (ahp D Fd false default) k = some z -> s.blk k = some z) :
  ∀ k ∈ (ahp D Fd false default ++ ajj (ahp D Fd false default)).map (·.1),k ∈ (ahp D Fd false default).map (·.1) /\ lk (ahp D Fd false default ++ ajj (ahp D Fd false default)) k = s.blk k:=by
 intro k hk
 have hk':k = 1000 \/ k = 1001 \/ k = 1002:=by
  simp [ahp,ajj] at hk
  omega
 rcases hk' with rfl | rfl | rfl
 ·exact ⟨by simp [ahp],(hs _ _ rfl).symm⟩
 ·exact ⟨by simp [ahp],(hs _ _ rfl).symm⟩
 ·exact ⟨by simp [ahp],(hs _ _ rfl).symm⟩
theorem baz {l:Li} {known:List Bool} {i k:Nat} (h:cond (freeB l known i) (freeB l known k) false = false):prHit l known i k = false:=by
 rw [adf] at h
 unfold prHit
 rw [h]; rfl
theorem bq3 {H R:Hp} {k:Nat} {z:Blk} (h:lk H k = some z):lk (H ++ R) k = some z:=by rw [ac6,if_pos (aa6 h)]; exact h
theorem fr1 {a b:Bool} (h:cond a b false = true):a = true:=by cases a <;> simp_all
theorem fr2 {a b:Bool} (h:cond a b false = true):b = true:=by cases a <;> simp_all
theorem a4f (D:LpD) (l:Li) (hl:l.ok) (hli:liE l = 0) (known:List Bool) (hk:known.length = l.bodies.length) (r:List AV)
  (hy:∀ i k:Nat, i < k -> k < l.bodies.length -> freeB l known i = true -> freeB l known k = true ->
   bo9 prog 1000 [i64 i,i64 k] (ahp D (fdC l known (aaw l) r) false default) (bl (!prHit l known i k)) (ahp D (fdC l known (aaw l) r) (prHit l known i k) (cond (prHit l known i k) (prG l known i k) default))) :
  Con prog 390 [.yl 1000,.iptr [.iptr (fdC l known (aaw l) r)]] (ahp D (fdC l known (aaw l) r) false default) (.tup []) (ahp D (fdC l known (aaw l) r) (pairG l known).isSome ((pairG l known).getD default)):=by
 have h8:=(abz hli).2.2.2.1
 refine gF func390 (fun k z h=>bez h) ?_
 refine gl ?_
 refine gL1 [0,1,10] [1000,1001,1002] (fun (i:Nat)=>[(11,some (i64 i))]) (fun _=>[]) (fun i=>i <= l.bodies.length /\ ∀ j,j < i -> (prAt l known j).isNone = true) (fun i=>l.bodies.length - i) 0 ⟨zero_le _,fun j h=>by omega⟩ ?_
 rintro i ⟨hi,hj⟩ K1 hK1
 refine gC (fun ht12=>?_) (fun ht12=>?_)
 ·have hin:=abd ht12
  refine ga aat ?_
  refine gL1 [0,1,3,10,11] [] (fun (k:Nat)=>[(4,some (i64 (i + 1 + k:Nat)))]) (fun _=>[(1000,some (pb0 D (fdC l known (aaw l) r) false)),(1001,some (pb1 default)),(1002,some (pb2 false))]) (fun k=>i + 1 + k <= l.bodies.length /\ ∀ j,j < k -> (!prHit l known i (i + 1 + j)) = true) (fun k=>l.bodies.length - k) 0 ⟨by omega,fun j h=>by omega⟩ ?_
  rintro k ⟨hkl,hkj⟩ K2 hK2
  refine gl ?_
  refine gC (fun ht23=>?_) (fun ht23=>?_)
  ·have hkn:i + 1 + k < l.bodies.length:=abd ht23
   refine gc (baw l hli known hk r i hin) ?_
   refine gcG (fun _=>(baw l hli known hk r (i + 1 + k) hkn)) ?_
   refine gs (a01 rfl rfl rfl (by intro hb; have h0:prHit l known i (i + 1 + k) = false:=baz (by simpa using hb); simp only [h0,cond_false]; exact bcj (by intro k z h; exact h)) (fun hb=>biv (k:=1000) (.opt rfl (by rw [hb]; rfl)) (hy i (i + 1 + k) (by omega) hkn (fr1 hb) (fr2 hb)) (.cons (.opt rfl (by rw [hb]; rfl)) (.cons (.opt rfl (by rw [hb]; rfl)) .nil)) (by intro k z h; exact h) rfl rfl)) ?_
   refine gC (fun ht40=>?_) (fun ht40=>?_)
   ·have h2 : prHit l known i (i + 1 + k) = true := by have h9 := fr2 ht40; rw [Bool.not_not] at h9; exact h9
    have hat:prAt l known i = some (i + 1 + k):=by unfold prAt; rw [abx (by omega) hkj (by rw [h2]; rfl),Option.map_some]; congr 1; omega
    have hg:pairG l known = some (prG l known i (i + 1 + k)):=by unfold pairG; rw [abx hin hj (by rw [hat]; rfl),Option.map_some,hat]
    refine gR ?_
    simp only [hg,h2,Option.isSome_some,Option.getD_some,cond_true]
    exact Fin.keep (fun k z h=>bq3 h)
   ·have h2 : prHit l known i (i + 1 + k) = false := by cases hc : cond (freeB l known i) (freeB l known ((i + 1 + k : Nat) : Int)) false with | false => exact baz hc | true => rw [hc, Bool.not_not] at ht40; exact ht40
    refine ga aat ?_
    exact gK1 hK2 (k + 1) ⟨by omega,fun j h9=>by rcases lt_or_ge j k with g | g; exact hkj j g; (have:j = k:=by omega); subst this; rw [h2]; rfl⟩ (hw:=Wk.of ab0 (.cons rfl (BlkSub.of (by rw [h2])) (.cons rfl (BlkSub.of (by rw [h2]; rfl)) (.cons rfl (BlkSub.of (by rw [h2])) .nil))))
  ·have hkn : ¬ i + 1 + k < l.bodies.length := fun h => by have h1 := a6e ht23; omega
   have hat:prAt l known i = none:=by unfold prAt; rw [show l.bodies.length - (i + 1) = k by omega,abj hkj]; rfl
   refine ga aat ?_
   exact gK1 hK1 (i + 1) ⟨hin,fun j h9=>by rcases lt_or_ge j i with g | g; exact hj j g; (have:j = i:=by omega); subst this; rw [hat]; rfl⟩
 ·have hin:=aaj hi ht12
  have hg:pairG l known = none:=by unfold pairG; rw [<- hin,abj hj]; rfl
  refine gR ?_
  simp only [hg,Option.isSome_none,Option.getD_none]
  exact Fin.keep (fun k z h=>h)
end Go.Lw
namespace Go.Lw
variable {P:Program}
mutual
def AV.pm (σ:Nat -> Nat):AV -> AV
  | .ms k sz off len=>.ms (σ k) sz off len
  | .ptr k off=>.ptr (σ k) off
  | .eptr k sz i off=>.eptr (σ k) sz i off
  | .yl k=>.yl (σ k)
  | .agg cs=>.agg (AV.pms σ cs)
  | .tup cs=>.tup (AV.pms σ cs)
  | .fn f cs=>.fn f (AV.pms σ cs)
  | .opt b x=>.opt b (AV.pm σ x)
  | .v x=>.v x
  | .lst sz l=>.lst sz l
  | .iptr l=>.iptr l
  | .cl f cs ds=>.cl f cs ds
def AV.pms (σ:Nat -> Nat):List AV -> List AV
  | []=>[]
  | x :: l=>AV.pm σ x :: AV.pms σ l
end
theorem AV.pms_eq (σ:Nat -> Nat):∀ l, AV.pms σ l = l.map (AV.pm σ)
 | []=>rfl
 | x :: l=>by simp only [AV.pms,map_cons,AV.pms_eq σ l]
theorem AV.pm_one (σ:Nat -> Nat) (x:AV) (h:x.one = true):(x.pm σ).one = true:=by
 cases x <;> simp only [AV.pm] <;> exact h
mutual
theorem AV.pm_pm {σ:Nat -> Nat} (hσ:∀ k, σ (σ k) = k):∀ x:AV, (x.pm σ).pm σ = x
 | .ms k sz off len=>by simp only [AV.pm,hσ]
 | .ptr k off=>by simp only [AV.pm,hσ]
 | .eptr k sz i off=>by simp only [AV.pm,hσ]
 | .yl k=>by simp only [AV.pm,hσ]
 | .agg cs=>by simp only [AV.pm]; rw [AV.pms_pms hσ cs]
 | .tup cs=>by simp only [AV.pm]; rw [AV.pms_pms hσ cs]
 | .fn f cs=>by simp only [AV.pm]; rw [AV.pms_pms hσ cs]
 | .opt b x=>by simp only [AV.pm]; rw [AV.pm_pm hσ x]
 | .v x=>by simp only [AV.pm]
 | .lst sz l=>by simp only [AV.pm]
 | .iptr l=>by simp only [AV.pm]
 | .cl f cs ds=>by simp only [AV.pm]
theorem AV.pms_pms {σ:Nat -> Nat} (hσ:∀ k, σ (σ k) = k):∀ l:List AV, AV.pms σ (AV.pms σ l) = l
 | []=>by simp only [AV.pms]
 | x :: l=>by simp only [AV.pms]; rw [AV.pm_pm hσ x,AV.pms_pms hσ l]
end
theorem a2m {g:Nat -> Array Value -> Prop} {S:Nat -> Nat -> Prop} {σ:Nat -> Nat} (hσ:∀ k, σ (σ k) = k) {m:Nat -> Option Nat} {v:Value} {x:AV} (h:Rep g S m v x):Rep g S (fun k=>m (σ k)) v (x.pm σ):=by
 induction h with
 | v x=>exact .v x
 | lst0 a cap sz'=>exact .lst0 a cap sz'
 | lst u hb hc hl hs ho hu hr _=>exact .lst u hb hc hl hs ho hu hr
 | iptr u hb ho hu hr _=>exact .iptr u hb ho hu hr
 | cl a b c d _ _=>exact .cl a b c d
 | ptr hm=>exact .ptr (by simp only [hσ]; exact hm)
 | eptr hm=>exact .eptr (by simp only [hσ]; exact hm)
 | yl hm=>exact .yl (by simp only [hσ]; exact hm)
 | ms0 a k sz off=>exact .ms0 _ _ _ _
 | ms hm hc hS=>exact .ms (by simp only [hσ]; exact hm) hc hS
 | opt h h' ih=>exact .opt ih h'
 | agg hn h1 hr ih =>
  simp only [AV.pm,AV.pms_eq]
  refine .agg (by simpa using hn) ?_ ?_
  ·intro j c hc
   simp only [getElem?_map,map_eq_some_iff] at hc
   obtain ⟨y,hy,rfl⟩:=hc
   exact AV.pm_one _ _ (h1 j y hy)
  ·intro j u c hu hc
   simp only [getElem?_map,map_eq_some_iff] at hc
   obtain ⟨y,hy,rfl⟩:=hc
   exact ih j u y hu hy
 | tup hn hr ih =>
  simp only [AV.pm,AV.pms_eq]
  refine .tup (by simpa using hn) ?_
  intro j u c hu hc
  simp only [getElem?_map,map_eq_some_iff] at hc
  obtain ⟨y,hy,rfl⟩:=hc
  exact ih j u y hu hy
 | fn hn hr ih =>
  simp only [AV.pm,AV.pms_eq]
  refine .fn (by simpa using hn) ?_
  intro j u c hu hc
  simp only [getElem?_map,map_eq_some_iff] at hc
  obtain ⟨y,hy,rfl⟩:=hc
  exact ih j u y hu hy
theorem boe {g:Nat -> Array Value -> Prop} {S:Nat -> Nat -> Prop} {σ:Nat -> Nat} (hσ:∀ k, σ (σ k) = k) {m:Nat -> Option Nat} {w:World} {o:Option Nat} {x:Blk} (h:BlkRep g S m w o x) :
  BlkRep g S (fun k=>m (σ k)) w o (x.map (AV.pm σ)):=by
 cases x with
 | row sz es=>exact h.mono (fun _ _ h=>h) (fun _ _ h=>h) (fun _ _ hk=>hk.elim) rfl (fun _ _=>rfl)
 | vec vs=>exact h.mono (fun _ _ h=>h) (fun _ _ h=>h) (fun _ _ hk=>hk.elim) rfl (fun _ _=>rfl)
 | loop=>exact h.mapLoop _ (fun _ _ _ _ h=>a2m hσ h)
 | box cs =>
  cases h with
  | box hw hn h1 hrr =>
   refine .box hw (by simpa using hn) ?_ ?_
   ·intro j x hx
    simp only [getElem?_map,map_eq_some_iff] at hx
    obtain ⟨y,hy,rfl⟩:=hx
    exact AV.pm_one _ _ (h1 j y hy)
   ·intro j u x hu hx
    simp only [getElem?_map,map_eq_some_iff] at hx
    obtain ⟨y,hy,rfl⟩:=hx
    exact a2m hσ (hrr j u y hu hy)
theorem bkf {σ:Nat -> Nat} (hσ:∀ k, σ (σ k) = k):∀ sl:abq, alc (AV.pm σ) (alc (AV.pm σ) sl) = sl
 | []=>rfl
 | (t,none) :: l=>by simp only [alc,bkf hσ l]
 | (t,some x) :: l=>by simp only [alc,bkf hσ l,AV.pm_pm hσ x]
theorem Blk.pm_pm {σ:Nat -> Nat} (hσ:∀ k, σ (σ k) = k) (x:Blk):(x.map (AV.pm σ)).map (AV.pm σ) = x:=by
 cases x with
 | row sz es=>rfl
 | vec vs=>rfl
 | loop d st pe sl=>simp only [Blk.map,bkf hσ]
 | box cs =>
  simp only [Blk.map]
  rw [<- AV.pms_eq,<- AV.pms_eq,AV.pms_pms hσ]
def pmH (σ:Nat -> Nat):Hp -> Hp
  | []=>[]
  | (k,x) :: l=>(σ k,match x with | some b=>some (b.map (AV.pm σ)) | none=>none) :: pmH σ l
theorem akq {σ:Nat -> Nat} (hσ:∀ k, σ (σ k) = k):∀ (H:Hp) (k:Nat), lk (pmH σ H) k = (lk H (σ k)).map (Blk.map (AV.pm σ))
 | [],k=>rfl
 | (k', x) :: l, k=>by
  simp only [pmH,aac,akq hσ l k]
  by_cases h:k = σ k'
  ·rw [if_pos h, if_pos (by rw [h, hσ])]
   cases x <;> rfl
  ·rw [if_neg h,if_neg (fun e=>h (by rw [<- e,hσ]))]
theorem a6c {σ:Nat -> Nat} (hσ:∀ k, σ (σ k) = k) (H:Hp) (m:Nat -> Option Nat):Own (pmH σ H) (fun k=>m (σ k)) = Own H m:=by
 funext b
 apply propext
 constructor
 ·rintro ⟨k, z, hz, hb⟩
  rw [akq hσ,map_eq_some_iff] at hz
  obtain ⟨y,hy,rfl⟩:=hz
  exact ⟨σ k,y,hy,hb⟩
 ·rintro ⟨k, y, hy, hb⟩
  exact ⟨σ k,y.map (AV.pm σ),by rw [akq hσ,hσ,hy]; rfl,by simp only [hσ]; exact hb⟩
theorem a64 {σ:Nat -> Nat} (hσ:∀ k, σ (σ k) = k) {ext:Nat -> Prop} {H:Hp} {m:Nat -> Option Nat} {w:World} (h:HeapRel ext H m w):HeapRel ext (pmH σ H) (fun k=>m (σ k)) w:=by
 have e:Im ext (pmH σ H) (fun k=>m (σ k)) w = Im ext H m w:=by funext b cs; simp only [Im,a6c hσ]
 refine ⟨?_,?_,?_⟩
 ·intro k z hz
  rw [akq hσ,map_eq_some_iff] at hz
  obtain ⟨y,hy,rfl⟩:=hz
  rw [e]
  exact boe hσ (h.blk _ y hy)
 ·intro k k' z z' b hz hz' hb hb'
  rw [akq hσ,map_eq_some_iff] at hz hz'
  obtain ⟨y,hy,_⟩:=hz
  obtain ⟨y',hy',_⟩:=hz'
  have:=h.inj _ _ y y' b hy hy' hb hb'
  rw [<- hσ k,this,hσ]
 ·intro k z b hz hb
  rw [akq hσ,map_eq_some_iff] at hz
  obtain ⟨y,hy,_⟩:=hz
  exact h.sep _ y b hy hb
theorem Con.pm {σ:Nat -> Nat} (hσ:∀ k, σ (σ k) = k) {f:FuncId} {args:List AV} {H H':Hp} {r:AV} (h:Con P f args H r H'):Con P f (args.map (AV.pm σ)) (pmH σ H) (r.pm σ) (pmH σ H'):=by
 refine ⟨h.ok,?_⟩
 intro ext m w vs hext hheap hvs hrep
 have hlk:∀ k, lk (pmH σ (pmH σ H)) k = lk H k:=by
  intro k
  rw [akq hσ,akq hσ,hσ]
  cases lk H k with
  | none=>rfl
  | some y=>simp only [Option.map_some,Blk.pm_pm hσ]
 have hh:=HeapRel.congr hlk (a64 hσ hheap)
 have em:(fun k=>(fun k=>m (σ k)) (σ k)) = m:=by funext k; simp only [hσ]
 have eo:Own (pmH σ H) m = Own H (fun k=>m (σ k)):=by
  have:=a6c hσ H (fun k=>m (σ k))
  rw [em] at this; exact this
 have ei:Im ext (pmH σ H) m w = Im ext H (fun k=>m (σ k)) w:=by funext b cs; simp only [Im,eo]
 refine Calls.mono (h.ret ext (fun k=>m (σ k)) w vs hext hh (by simpa using hvs) (fun j v x hv hx=>?_)) ?_
 ·have h1 := hrep j v (x.pm σ) hv (by simp [hx])
  have h2:=a2m hσ h1
  rw [AV.pm_pm hσ,ei] at h2
  exact h2
 ·rintro e w' ⟨v, m', rfl, hf, hh', hn, hk, hrr⟩
  refine ⟨v,fun k=>m' (σ k),rfl,eo ▸ hf,a64 hσ hh',?_,?_,?_⟩
  ·intro k x b hx hb
   rw [akq hσ,map_eq_some_iff] at hx
   obtain ⟨y,hy,_⟩:=hx
   rw [eo]
   exact hn _ y b hy hb
  ·intro k x y hx hy
   rw [akq hσ,map_eq_some_iff] at hx hy
   obtain ⟨x',hx',_⟩:=hx
   obtain ⟨y',hy',_⟩:=hy
   have:=hk _ x' y' hx' hy'
   simpa only [hσ] using this
  ·have e2 : Im ext (pmH σ H') (fun k => m' (σ k)) w' = Im ext H' m' w' := by funext b cs; simp only [Im, a6c hσ]
   rw [e2]
   exact a2m hσ hrr
end Go.Lw
namespace Go.Lw
open Go.Proofs
theorem gZ {P:Program} {N:Nat} {Q:Exit -> AS -> Prop} {c:Code} {s:AS} (h:Gd P N Q (.code c [] s)):AWP P N c Q s:=h
theorem ay6 {P:Program} {N:Nat} {Q:Exit -> AS -> Prop} {c:Code} {s s':AS} (hw:Wk s s') (h:a5b P N c Q s'):a5b P N c Q s:=by
 intro C m a w n hro hN hr
 obtain ⟨m',hr'⟩:=hw C m a w hr
 exact h C m' a w n hro hN hr'
def swp (k:Nat):Nat:=bif Nat.beq k 1000 then 900 else bif Nat.beq k 900 then 1000 else bif Nat.beq k 1001 then 2 else bif Nat.beq k 2 then 1001 else bif Nat.beq k 1002 then 3 else bif Nat.beq k 3 then 1002 else k
theorem nb {a b:Nat} (h:¬ a = b):Nat.beq a b = false:=by
 cases h1:Nat.beq a b
 ·rfl
 ·exact absurd (eq_of_beq_eq_true h1) h
theorem bh0 (k:Nat):swp (swp k) = k:=by
 by_cases h1:k = 1000
 ·subst h1; rfl
 by_cases h2:k = 900
 ·subst h2; rfl
 by_cases h3:k = 1001
 ·subst h3; rfl
 by_cases h4:k = 2
 ·subst h4; rfl
 by_cases h5:k = 1002
 ·subst h5; rfl
 by_cases h6:k = 3
 ·subst h6; rfl
 have e:swp k = k:=by simp only [swp,nb h1,nb h2,nb h3,nb h4,nb h5,nb h6,cond_false]
 rw [e,e]
theorem bdu (l:Li) (hl:l.ok) (hli:liE l = 0) (known:List Bool) (hk:known.length = l.bodies.length) (r:List AV) :
  FnC prog 301 [.iptr (fdC l known (aaw l) r)] (.tup [((pairG l known).getD default).av,bl (pairG l known).isSome]):=by
 refine a98 (rs:=Tryz.f301.results.toList) func301 rfl rfl (by simp) rfl (fun k z h=>by cases h) ?_
 refine at5 (gZ (go ?_))
 refine ay6 (s':=⟨[(1,some (.iptr [.iptr (fdC l known (aaw l) r)])),(2,some (.ptr 2 0)),(3,some (.ptr 3 0))],[(2,some (pb1 default)),(3,some (pb2 false))]⟩) ((Wk.freezeB (k:=1) rfl rfl).trans (Wk.of (.cons rfl (.refl _) (.cons rfl (.refl _) (.cons rfl (.refl _) .nil))) (.cons rfl (BlkSub.boxL (.cons (.refl _) (.cons (.nil _ _ _) (.cons (.nil _ _ _) (.cons (.refl _) .nil)))) rfl) (.cons rfl (.refl _) .nil)))) ?_
 refine a99 ?_
 refine at5 (gZ (go ?_))
 refine gc (a5q (fdC l known (aaw l) r)) ?_
 refine a3s ?_
 have hy:∀ i k:Nat, i < k -> k < l.bodies.length -> freeB l known i = true -> freeB l known k = true ->
   bo9 prog 1000 [i64 i,i64 k] (ahp (rgD Tryz.f301.ntmps Tryz.f301.body) (fdC l known (aaw l) r) false default) (bl (!prHit l known i k)) (ahp (rgD Tryz.f301.ntmps Tryz.f301.body) (fdC l known (aaw l) r) (prHit l known i k) (cond (prHit l known i k) (prG l known i k) default)):=by
  intro i k hik hkn hfi hfk
  refine bi7 (k:=1000) (fun k z h=>bez h) rfl rfl (by intro p hp; have h9:p ∈ [11,12]:=hp; have h8:p = 11 \/ p = 12:=(by simpa using h9); show p < 42; rcases h8 with h7 | h7 <;> (rw [h7]; decide)) ?_
  refine gZ (go ?_)
  refine ⟨rfl,_,_,rfl,?_⟩
  have hJ:gJ l 0 i (fun o=>decide (o = (k:Int))) = jointI l 0 i (aeh l.bodies.length k):=bg4 hli (fun o h0 h1=>(azx h0 (by omega) (by omega)).symm)
  refine gZ (go ?_)
  refine gc (a0n l hl hli known hk r 0 i) ?_
  refine gc (a0n l hl hli known hk r 0 k) ?_
  refine gD ?_ (5,0)
  refine gW (Wk.freezeB (k:=5) rfl rfl) ?_
  refine gc (r:=i64 (jointI l 0 i (aeh l.bodies.length k))) (by rw [<- hJ]; exact Con.subA (.cons (.refl _) (.cons (.refl _) (.cons (.refl _) (.cons (bf3 rfl) .nil)))) (awm l hl hli _ 0 i 369 [] [.iptr [i64 k]] (fun o=>decide (o = (k:Int))) (fun o h0 h1=>a6i o k))) ?_
  refine gC (fun ht=>?_) (fun ht=>?_)
  ·have h2 : prHit l known i k = true := by unfold prHit; rw [hfi, hfk]; exact (auk.symm.trans ht)
   rw [h2]
   exact ⟨_,_,rfl,Fin.keep (by intro q z h; simp only [ahp,aac] at h; split at h; (subst_vars; exact h); split at h; (subst_vars; exact h); split at h; (subst_vars; exact h); cases h)⟩
  ·have h2 : prHit l known i k = false := by unfold prHit; rw [hfi, hfk]; exact (auk.symm.trans ht)
   rw [h2]
   exact ⟨_,_,rfl,Fin.keep (by intro q z h; simp only [ahp,aac] at h; split at h; (subst_vars; exact h); split at h; (subst_vars; exact h); split at h; (subst_vars; exact h); cases h)⟩
 have hcon:=Con.pm bh0 (a4f _ l hl hli known hk r hy)
 cases hg:pairG l known with
 | none =>
  rw [hg] at hcon
  refine asf (k:=900) (sl0:=[(1,some (.iptr [.iptr (fdC l known (aaw l) r)])),(2,some (.ptr 2 0)),(3,some (.ptr 3 0))]) (.tmp rfl) (by intro t x h; simp only [aac] at h; split at h; (subst_vars; exact h); split at h; (subst_vars; exact h); split at h; (subst_vars; exact h); cases h) rfl rfl hcon (fun k' z h=>h) rfl rfl rfl rfl (by intro h; cases h) (.inl ⟨rfl,?_⟩)
  refine at5 (gZ (go ?_))
  refine AWP.out (gZ (go ?_))
  refine gR ?_
  exact Fin.sub Fin.pure (Sub.tup (.cons ann (.cons (.refl _) .nil)))
 | some g =>
  rw [hg] at hcon
  refine asf (k:=900) (sl0:=[(1,some (.iptr [.iptr (fdC l known (aaw l) r)])),(2,some (.ptr 2 0)),(3,some (.ptr 3 0))]) (.tmp rfl) (by intro t x h; simp only [aac] at h; split at h; (subst_vars; exact h); split at h; (subst_vars; exact h); split at h; (subst_vars; exact h); cases h) rfl rfl hcon (fun k' z h=>h) rfl rfl rfl rfl (by intro h; cases h) (.inr ⟨rfl,?_⟩)
  exact (gE2 (P:=prog) (N:=Tryz.f301.ntmps) (e:=.ret) rfl)
end Go.Lw
namespace Go.Lw
open Go.Proofs
theorem a0h {α:Type} {o:Option α} (h:o.isSome = true):∃ x,o = some x:=by cases o <;> simp_all
theorem a0e {α:Type} {o:Option α} (h:o.isSome = false):o = none:=by cases o <;> simp_all
theorem bej (l:Li) (hl:l.ok) (hli:liE l = 0) (known:List Bool) (hk:known.length = l.bodies.length) (r:List AV) :
  FnC prog 240 [.iptr (fdC l known (aaw l) r)] (.tup [((nextG l known).getD default).av,bl (nextG l known).isSome]):=by
 refine gF0 func240 ?_
 refine gc (a4i l hl hli known (aaw l) hk r) ?_
 refine gC (fun ht13=>?_) (fun ht13=>?_)
 ·obtain ⟨g, hg⟩:=a0h ht13
  refine gE2 ?_
  unfold nextG; rw [hg]; rfl
 ·have hg:=a0e ht13
  refine gc (bdu l hl hli known hk r) ?_
  refine gC (fun ht20=>?_) (fun ht20=>?_)
  ·obtain ⟨g, hg2⟩:=a0h ht20
   refine gE2 ?_
   unfold nextG; rw [hg,hg2]; rfl
  ·have hg2:=a0e ht20
   refine gc (a24 l hl hli known hk r) ?_
   refine gE2 ?_
   unfold nextG; rw [hg,hg2]; rfl
end Go.Lw
namespace Go.Lw
open Go.Proofs
theorem ak5 (d:Nat) (hd:Nat.blt d 1000 = true) (l:Li) (hl:l.bodies.length <= 1000) (b:Nat) (hb:b < l.bodies.length) :
  Con prog 151 [l.av,i64 b] [] (.ms d 1 0 l.bodies.length) [(d,some (.row 1 ((aeh l.bodies.length b).map bl)))]:=by
 refine gF func151 (fun k z h=>by cases h) ?_
 refine gl ?_
 refine gs (agv (.tmp rfl) T227 rfl T4 rfl rfl (by omega) (by dsimp only; omega) rfl) ?_
 refine gs (ais (.tmp rfl) (.tmp rfl) T227 rfl T4 rfl (by omega) (by omega) rfl) ?_
 refine gs (abh (.tmp rfl) rfl (by rw [List.getElem?_replicate,if_pos (by simp; omega)]) rfl (.const _) rfl rfl T4 rfl rfl) ?_ (3,0)
 refine gW (Wk.of (sl:=[(5,some (.ms 9 1 0 l.bodies.length))]) (hp:=[(9,some (.row 1 ((aeh l.bodies.length b).map bl)))]) (.cons rfl (Sub.of (by rw [toNat_natCast])) .nil) (.cons rfl (BlkSub.of (by unfold aeh; simp only [map_set,map_replicate,Nat.zero_add,toNat_natCast]; rfl)) .nil)) ?_ (3,0)
 refine gW (Wk.rekey (k:=9) (d:=900) rfl rfl) ?_
 refine gR ?_
 exact Fin.own1 rfl hd rfl
theorem a4w (l:Li) (hl:l.bodies.length <= 1000) (b:Nat) (hb:b < l.bodies.length):FnC prog 151 [l.av, i64 b] (.lst 1 ((aeh l.bodies.length b).map bl)):=by
 have h:=Con.freeze (by rw [length_map,ad3]; omega) (ak5 0 rfl l hl b hb)
 rw [drop_zero,take_of_length_le (by rw [length_map,ad3]; exact le_refl _)] at h
 exact h
theorem avs (l:Li) (hl:l.ok) (b:Int):FnC prog 299 [l.av, i64 b] (bl (ak7 l b)):=by
 have hld:=hl.ld
 refine gF0 func299 ?_
 refine gl ?_
 refine gL1 [1,8,9] [] (fun (i:Nat)=>[(10,some (i64 i))]) (fun _=>[]) (fun i=>i <= l.drivers.length /\ (l.drivers.take i).any (fun d=>decide (d.body = b)) = false) (fun i=>l.drivers.length - i) 0 ⟨zero_le _,rfl⟩ ?_
 rintro i ⟨hi,hj⟩ K1 hK1
 refine gC (fun ht11=>?_) (fun ht11=>?_)
 ·have hin:=abd ht11
  obtain ⟨d,hd⟩:=abt hin
  refine gi (aae hd) ?_
  refine gC (fun ht17=>?_) (fun ht17=>?_)
  ·have h1:d.body = b:=aes ht17
   refine gE1 ?_
   unfold ak7; rw [List.any_eq_true.2 ⟨d,mem_of_getElem? hd,decide_eq_true h1⟩]; rfl
  ·have h1:d.body ≠ b:=afr ht17
   refine ga aat ?_
   exact gK1 hK1 (i + 1) ⟨hin,aew hd hj (decide_eq_false h1)⟩
 ·have hin:=aaj hi ht11
  subst hin
  rw [take_length] at hj
  refine gE1 ?_
  unfold ak7; rw [hj]; rfl
theorem arg (l:Li) (hl:l.ok) (hli:liE l = 0) (kind body:Int) (oth:List Bool) (ho:oth.length = l.bodies.length):FnC prog 238 [l.av, i64 kind, i64 body, .lst 1 (oth.map bl)] (i64 (jointI l kind body oth)):=by
 have hlj:=hl.lj
 refine gF0 func238 ?_
 refine gl ?_
 refine gL1 [1,2,3,12,13] [] (fun (i:Nat)=>[(14,some (i64 i))]) (fun _=>[]) (fun i=>i <= l.joints.length /\ ∀ j,j < i -> (!bbj kind body oth (l.joints.getD j default)) = true) (fun i=>l.joints.length - i) 0 ⟨zero_le _,fun j h=>by omega⟩ ?_
 rintro i ⟨hi,hj⟩ K1 hK1
 refine gC (fun ht15=>?_) (fun ht15=>?_)
 ·have hin:=abd ht15
  obtain ⟨j,hjt⟩:=abt hin
  have hjd:l.joints.getD i default = j:=aaf hjt
  obtain ⟨i1,i2,_⟩:=aet hli hjt
  have b1:=ahg i1
  have b2:=ahg i2
  obtain ⟨va,hva⟩:∃ v,oth[j.a.toNat]? = some v:=abt (by omega)
  obtain ⟨vb,hvb⟩:∃ v,oth[j.b.toNat]? = some v:=abt (by omega)
  have ea:kn oth j.a = va:=aaf hva
  have eb:kn oth j.b = vb:=aaf hvb
  refine gi (aae hjt) ?_
  refine giG (fun _=>(adl (n:=j.b.toNat) (by omega) hvb)) ?_
  refine giG (fun _=>(adl (n:=j.a.toNat) (by omega) hva)) ?_
  refine gC (fun ht48=>?_) (fun ht48=>?_)
  ·have h2 : bbj kind body oth j = true := by rw [<- ave (va := va) (vb := vb) ea eb]; exact ht48
   refine gE1 ?_
   unfold jointI; rw [abx hin hj (by rw [hjd,h2]; rfl)]; rfl
  ·have h2 : bbj kind body oth j = false := by rw [<- ave (va := va) (vb := vb) ea eb]; exact ht48
   refine ga aat ?_
   exact gK1 hK1 (i + 1) ⟨hin,fun k h9=>by rcases lt_or_ge k i with g | g; exact hj k g; (have:k = i:=by omega); subst this; rw [hjd,h2]; rfl⟩
 ·have hin:=aaj hi ht15
  subst hin
  refine gE1 ?_
  unfold jointI; rw [abj hj]; rfl
theorem a3r (l:Li) (hl:l.ok) (known:List Bool) (b:Nat) (hb:b < known.length):FnC prog 239 [l.av, .lst 1 (known.map bl), i64 b] (bl (freeB l known b)):=by
 obtain ⟨v,hv⟩:=abt hb
 have ev:kn known (b:Int) = v:=aaf (by rw [toNat_natCast]; exact hv)
 refine gF0 func239 ?_
 refine gi (aae hv) ?_
 refine gcG (fun _=>(avs l hl b)) ?_
 refine gE1 ?_
 unfold freeB; rw [ev]; exact congrArg bl (adf _ _)
end Go.Lw
namespace Go.Lw
open Go.Proofs
theorem blv {l:Li} {known:List Bool} (hl:l.ok) (hli:liE l = 0) (kind body:Int) (hk:known.length = l.bodies.length) :
  Con prog 238 [l.av,i64 kind,i64 body,.ms 1000 1 0 known.length] [(1000,some (.row 1 (known.map bl)))] (i64 (jointI l kind body known)) [(1000,some (.row 1 (known.map bl)))]:=by
 refine Con.borrow (args:=[l.av,i64 kind,i64 body,.lst 1 (known.map bl)]) 1000 1 (known.map bl) rfl rfl rfl ?_ rfl (fun k' x h=>by cases h) (arg l hl hli kind body known hk)
 intro j x' hj
 match j,hj with
 | 0,hj=>cases hj; exact .inl rfl
 | 1,hj=>cases hj; exact .inl rfl
 | 2,hj=>cases hj; exact .inl rfl
 | 3,hj=>cases hj; exact .inr ⟨0,known.length,rfl,by simp,by rw [drop_zero,take_of_length_le (by simp)]; rfl⟩
theorem bp1 {l:Li} {known:List Bool} (hl:l.ok) (b:Nat) (hb:b < known.length) :
  Con prog 239 [l.av,.ms 1000 1 0 known.length,i64 b] [(1000,some (.row 1 (known.map bl)))] (bl (freeB l known b)) [(1000,some (.row 1 (known.map bl)))]:=by
 refine Con.borrow (args:=[l.av,.lst 1 (known.map bl),i64 b]) 1000 1 (known.map bl) rfl rfl rfl ?_ rfl (fun k' x h=>by cases h) (a3r l hl known b hb)
 intro j x' hj
 match j,hj with
 | 0,hj=>cases hj; exact .inl rfl
 | 1,hj=>cases hj; exact .inr ⟨0,known.length,rfl,by simp,by rw [drop_zero,take_of_length_le (by simp)]; rfl⟩
 | 2,hj=>cases hj; exact .inl rfl
theorem ava (l:Li) (hl:l.ok) (hli:liE l = 0) (known:List Bool) (hk:known.length = l.bodies.length):Con prog 152 [l.av, .ms 1000 1 0 known.length] [(1000, some (.row 1 (known.map bl)))] (.tup [((driverG l known).getD default).av, bl (driverG l known).isSome]) [(1000, some (.row 1 (known.map bl)))]:=by
 have hld:=hl.ld
 refine gF func152 (fun k z h=>acf h) ?_
 refine gl ?_
 refine gL1 [2,4,10,11] [2,4,1000] (fun (i:Nat)=>[(1,some (.ms 1000 1 0 known.length)),(12,some (i64 i))]) (fun _=>[]) (fun i=>i <= l.drivers.length /\ ∀ j,j < i -> (!drHit l known j) = true) (fun i=>l.drivers.length - i) 0 ⟨zero_le _,fun j h=>by omega⟩ ?_
 rintro i ⟨hi,hj⟩ K1 hK1
 refine gC (fun ht13=>?_) (fun ht13=>?_)
 ·have hin:=abd ht13
  obtain ⟨d,hd⟩:=abt hin
  have hdd:l.drivers.getD i default = d:=aaf hd
  have hb:=ahg (az5 hli hd)
  obtain ⟨v,hv⟩:∃ v,known[d.body.toNat]? = some v:=abt (by omega)
  have ev:kn known d.body = v:=aaf hv
  refine gi (aae hd) ?_
  refine gs (ais (.tmp rfl) (.tmp rfl) T227 rfl T4 rfl (by omega) (by omega) rfl) ?_
  refine gs (aau (.tmp rfl) rfl (by rw [Nat.zero_add,getElem?_map,hv]; rfl) T4 rfl rfl rfl) ?_
  refine gC (fun ht21=>?_) (fun ht21=>?_)
  ·have h2 : drHit l known i = false := by unfold drHit; rw [hdd, ev, ht21]; rfl
   refine ga aat ?_
   exact gK1 hK1 (i + 1) ⟨hin,fun k h9=>by rcases lt_or_ge k i with g | g; exact hj k g; (have:k = i:=by omega); subst this; rw [h2]; rfl⟩
  ·have hv0:v = false:=ht21
   refine gt (ajk (blv hl hli 0 d.body hk) (.cons (.tmp rfl) (.cons (.const _) (.cons (.tmp rfl) (.cons (.tmp rfl) .nil)))) rfl rfl rfl) ?_
   refine gC (fun ht28=>?_) (fun ht28=>?_)
   ·have h2 : drHit l known i = true := by unfold drHit; rw [hdd, ev, hv0, decide_eq_true (boz ht28)]; rfl
    have hg:driverG l known = some ⟨0,[d.body],[jointI l 0 d.body known],i⟩:=by unfold driverG; rw [abx hin hj (by rw [h2]; rfl),<- hdd]; rfl
    refine gR ?_
    rw [hg]
    exact Fin.keep (aeu rfl)
   ·have h2 : drHit l known i = false := by unfold drHit; rw [hdd, decide_eq_false (bk5 ht28), Bool.and_false]
    refine ga aat ?_
    exact gK1 hK1 (i + 1) ⟨hin,fun k h9=>by rcases lt_or_ge k i with g | g; exact hj k g; (have:k = i:=by omega); subst this; rw [h2]; rfl⟩
 ·have hin:=aaj hi ht13
  subst hin
  have hg:driverG l known = none:=by unfold driverG; rw [abj hj]; rfl
  refine gR ?_
  exact Fin.sub (Fin.keep (aeu rfl)) (by rw [hg]; exact Sub.tup (.cons ann (.cons (.refl _) .nil)))
theorem a36 (l:Li) (hl:l.ok) (hli:liE l = 0) (known:List Bool) (hk:known.length = l.bodies.length):Con prog 153 [l.av, .ms 1000 1 0 known.length] [(1000, some (.row 1 (known.map bl)))] (.tup [((pairG l known).getD default).av, bl (pairG l known).isSome]) [(1000, some (.row 1 (known.map bl)))]:=by
 have h8:=(abz hli).2.2.2.1
 refine gF func153 (fun k z h=>acf h) ?_
 refine gl ?_
 refine gL1 [2,4,12,13] [2,4,1000] (fun (i:Nat)=>[(1,some (.ms 1000 1 0 known.length)),(14,some (i64 i))]) (fun _=>[]) (fun i=>i <= l.bodies.length /\ ∀ j,j < i -> (prAt l known j).isNone = true) (fun i=>l.bodies.length - i) 0 ⟨zero_le _,fun j h=>by omega⟩ ?_
 rintro i ⟨hi,hj⟩ K1 hK1
 refine gC (fun ht15=>?_) (fun ht15=>?_)
 ·have hin:=abd ht15
  refine ga aat ?_
  refine gL1 [2,4,6,12,13,14] [2,4,1000] (fun (k:Nat)=>[(1,some (.ms 1000 1 0 known.length)),(7,some (i64 (i + 1 + k:Nat)))]) (fun _=>[]) (fun k=>i + 1 + k <= l.bodies.length /\ ∀ j,j < k -> (!prHit l known i (i + 1 + j)) = true) (fun k=>l.bodies.length - k) 0 ⟨by omega,fun j h=>by omega⟩ ?_
  rintro k ⟨hkl,hkj⟩ K2 hK2
  refine gl ?_
  refine gC (fun ht23=>?_) (fun ht23=>?_)
  ·have hkn:i + 1 + k < l.bodies.length:=abd ht23
   refine gt (ajk (bp1 hl i (by omega)) (.cons (.tmp rfl) (.cons (.tmp rfl) (.cons (.tmp rfl) .nil))) rfl rfl rfl) ?_
   refine gu (acd rfl rfl rfl (fun h=>ajk (bp1 hl (i + 1 + k) (by omega)) (.cons (.opt rfl (o1 h)) (.cons (.opt rfl (o1 h)) (.cons (.opt rfl (o1 h)) .nil))) rfl rfl rfl)) ?_
   refine gC (fun ht37=>?_) (fun ht37=>?_)
   ·have h2 : prHit l known i (i + 1 + k) = false := by unfold prHit; rw [show (freeB l known i && freeB l known ((i + 1 + k : Nat) : Int)) = false from by rcases bfd ht37 with g | g; (rw [g]; rfl); (rw [g, Bool.and_false])]; rfl
    refine ga aat ?_
    exact gK1 hK2 (k + 1) ⟨by omega,fun j h9=>by rcases lt_or_ge j k with g | g; exact hkj j g; (have:j = k:=by omega); subst this; rw [h2]; rfl⟩
   ·have hff:=bf8 ht37
    refine gt (ajk (blv hl hli 0 i hk) (.cons (.tmp rfl) (.cons (.const _) (.cons (.tmp rfl) (.cons (.tmp rfl) .nil)))) rfl rfl rfl) ?_
    refine gt (ajk (blv hl hli 0 (i + 1 + k:Nat) hk) (.cons (.tmp rfl) (.cons (.const _) (.cons (.tmp rfl) (.cons (.tmp rfl) .nil)))) rfl rfl rfl) ?_
    refine gc (a4w l (by omega) (i + 1 + k) hkn) ?_
    refine gc (arg l hl hli 0 i (aeh l.bodies.length ((i + 1 + k:Nat):Int)) (ad3 _ _)) ?_
    refine gD ?_
    refine gC (fun ht61=>?_) (fun ht61=>?_)
    ·have h2 : prHit l known i (i + 1 + k) = true := by unfold prHit; rw [hff.1, hff.2]; exact (auk.symm.trans ht61)
     have hat:prAt l known i = some (i + 1 + k):=by unfold prAt; rw [abx (by omega) hkj (by rw [h2]; rfl),Option.map_some]; congr 1; omega
     have hg:pairG l known = some (prG l known i (i + 1 + k)):=by unfold pairG; rw [abx hin hj (by rw [hat]; rfl),Option.map_some,hat]
     refine gR ?_
     rw [hg]
     exact Fin.keep (aeu rfl)
    ·have h2 : prHit l known i (i + 1 + k) = false := by unfold prHit; rw [show (decide (0 <= jointI l 0 i known) && decide (0 <= jointI l 0 ((i + 1 + k : Nat) : Int) known) && decide (0 <= jointI l 0 i (aeh l.bodies.length ((i + 1 + k : Nat) : Int)))) = false from auk.symm.trans ht61, Bool.and_false]
     refine ga aat ?_
     exact gK1 hK2 (k + 1) ⟨by omega,fun j h9=>by rcases lt_or_ge j k with g | g; exact hkj j g; (have:j = k:=by omega); subst this; rw [h2]; rfl⟩
  ·have hkn : ¬ i + 1 + k < l.bodies.length := fun h => by have h1 := a6e ht23; omega
   have hat:prAt l known i = none:=by unfold prAt; rw [show l.bodies.length - (i + 1) = k by omega,abj hkj]; rfl
   refine ga aat ?_
   exact gK1 hK1 (i + 1) ⟨hin,fun j h9=>by rcases lt_or_ge j i with g | g; exact hj j g; (have:j = i:=by omega); subst this; rw [hat]; rfl⟩
 ·have hin:=aaj hi ht15
  have hg:pairG l known = none:=by unfold pairG; rw [<- hin,abj hj]; rfl
  refine gR ?_
  exact Fin.sub (Fin.keep (aeu rfl)) (by rw [hg]; exact Sub.tup (.cons ann (.cons (.refl _) .nil)))
theorem ax3 (l:Li) (hl:l.ok) (hli:liE l = 0) (known:List Bool) (hk:known.length = l.bodies.length):Con prog 154 [l.av, .ms 1000 1 0 known.length] [(1000, some (.row 1 (known.map bl)))] (.tup [((singleG l known).getD default).av, bl (singleG l known).isSome]) [(1000, some (.row 1 (known.map bl)))]:=by
 have h8:=(abz hli).2.2.2.1
 refine gF func154 (fun k z h=>acf h) ?_
 refine gl ?_
 refine gL1 [2,4,11,12] [2,4,1000] (fun (i:Nat)=>[(1,some (.ms 1000 1 0 known.length)),(13,some (i64 i))]) (fun _=>[]) (fun i=>i <= l.bodies.length /\ ∀ j,j < i -> (!sgHit l known j) = true) (fun i=>l.bodies.length - i) 0 ⟨zero_le _,fun j h=>by omega⟩ ?_
 rintro i ⟨hi,hj⟩ K1 hK1
 refine gC (fun ht14=>?_) (fun ht14=>?_)
 ·have hin:=abd ht14
  refine gt (ajk (bp1 hl i (by omega)) (.cons (.tmp rfl) (.cons (.tmp rfl) (.cons (.tmp rfl) .nil))) rfl rfl rfl) ?_
  refine gC (fun ht20=>?_) (fun ht20=>?_)
  ·have h2 : sgHit l known i = false := by unfold sgHit; rw [adh ht20]; rfl
   refine ga aat ?_
   exact gK1 hK1 (i + 1) ⟨hin,fun k h9=>by rcases lt_or_ge k i with g | g; exact hj k g; (have:k = i:=by omega); subst this; rw [h2]; rfl⟩
  ·have hf:=adi ht20
   refine gt (ajk (blv hl hli 0 i hk) (.cons (.tmp rfl) (.cons (.const _) (.cons (.tmp rfl) (.cons (.tmp rfl) .nil)))) rfl rfl rfl) ?_
   refine gt (ajk (blv hl hli 1 i hk) (.cons (.tmp rfl) (.cons (.const _) (.cons (.tmp rfl) (.cons (.tmp rfl) .nil)))) rfl rfl rfl) ?_
   refine gD ?_
   refine gC (fun ht34=>?_) (fun ht34=>?_)
   ·have h2 : sgHit l known i = false := by unfold sgHit; rw [bmh ht34, Bool.and_false]
    refine ga aat ?_
    exact gK1 hK1 (i + 1) ⟨hin,fun k h9=>by rcases lt_or_ge k i with g | g; exact hj k g; (have:k = i:=by omega); subst this; rw [h2]; rfl⟩
   ·obtain ⟨p0, s0⟩:=bng ht34
    have s1:=(afu (l:=l) (kind:=1) (body:=i) (oth:=known)).2
    have h2:sgHit l known i = true:=by unfold sgHit; rw [hf,decide_eq_true p0,decide_eq_true s0]; rfl
    obtain ⟨j,hjt⟩:∃ j,l.joints[(jointI l 1 i known).toNat]? = some j:=abt (by omega)
    have hjd:l.joints.getD (jointI l 1 i known).toNat default = j:=aaf hjt
    have hg:singleG l known = some (sgG l known i):=by unfold singleG; rw [abx hin hj (by rw [h2]; rfl),Option.map_some]
    refine gi (adl (n:=(jointI l 1 i known).toNat) (by omega) hjt) ?_
    refine gC (fun ht42=>?_) (fun ht42=>?_)
    ·have hji:j.a = i:=aes ht42
     refine gR ?_
     rw [hg]; unfold sgG; rw [hjd]; simp only [Option.getD_some,if_pos hji]
     exact Fin.keep (aeu rfl)
    ·have hji:j.a ≠ i:=afr ht42
     refine gR ?_
     rw [hg]; unfold sgG; rw [hjd]; simp only [Option.getD_some,if_neg hji]
     exact Fin.keep (aeu rfl)
 ·have hin:=aaj hi ht14
  have hg:singleG l known = none:=by unfold singleG; rw [<- hin,abj hj]; rfl
  refine gR ?_
  exact Fin.sub (Fin.keep (aeu rfl)) (by rw [hg]; exact Sub.tup (.cons ann (.cons (.refl _) .nil)))
end Go.Lw
namespace Go.Lw
open Go.Proofs
theorem ap8 {k:List Bool} {bs:List Int} {q:Nat} {x:Int} (h:bs[q]? = some x):aas k (bs.drop q) = aas (k.set x.toNat true) (bs.drop (q + 1)):=by
 have hi:=(List.getElem?_eq_some_iff.1 h).1
 rw [List.drop_eq_getElem_cons hi,(List.getElem?_eq_some_iff.1 h).2]; rfl
theorem a9n {l:Li} {n:Nat} {known:List Bool} {out:List Gr} {g:Gr} (h:nextG l known = some g):findFrom l (n + 1) known out = findFrom l n (aas known g.bodies) (out ++ [g]):=by
 show (match nextG l known with | none=>_ | some g=>_) = _
 rw [h]
theorem a67 {l:Li} {n:Nat} {known:List Bool} {out:List Gr} (h:nextG l known = none):findFrom l n known out = (known, out):=by
 cases n with
 | zero=>rfl
 | succ n=>show (match nextG l known with | none=>_ | some g=>_) = _; rw [h]
theorem aqj {α:Type} {o:Option α} (h:o.isSome = false):o = none:=by cases o <;> simp_all
theorem a9x {α:Type} {a b:Option α} (h:a.isSome = true):a = a.or b:=by cases a <;> simp_all
theorem awo {l:Li} {known:List Bool} (h:(driverG l known).or (pairG l known) = none):nextG l known = singleG l known:=by
 unfold nextG
 rw [<- Option.or_assoc,h]; rfl
theorem ayz {l:Li} {known:List Bool} (h:((driverG l known).or (pairG l known)).isSome = true):nextG l known = (driverG l known).or (pairG l known):=by
 unfold nextG
 rw [<- Option.or_assoc]; exact (a9x h).symm
theorem asv (l:Li) (hl:l.ok) (hli:liE l = 0):FnC prog 76 [l.av] (.lst 4 ((findG l).map Gr.av)):=by
 have h8:=(abz hli).2.2.2.1
 have h0:=(abz hli).2.2.2.2
 refine gF0 func76 ?_
 refine gt (aad (ak5 900 rfl l (by omega) 0 (by omega)) (.cons (.tmp rfl) (.cons (.const _) .nil)) (by first | exact hH0 | exact hH1 rfl | exact hH2 rfl rfl) rfl rfl) ?_
 refine gl ?_
 refine gW (Wk.virt 901 4 rfl) ?_
 refine gL3 [1,13] [1] (fun (i:Nat) (known:List Bool) (out:List Gr)=>[(3,some (.ms 900 1 0 known.length)),(4,some (.ms 901 4 0 out.length)),(14,some (i64 i))]) (fun _ known out=>[(900,some (.row 1 (known.map bl))),(901,some (.row 4 (out.map Gr.av)))]) (fun i known out=>i <= l.bodies.length /\ known.length = l.bodies.length /\ out.length <= i /\ findFrom l (l.bodies.length - i) known out = findFrom l l.bodies.length (aeh l.bodies.length 0) []) (fun i _ _=>l.bodies.length - i) 0 (aeh l.bodies.length 0) ([]) ⟨zero_le _,ad3 _ _,le_refl _,rfl⟩ ?_ (h1:=(.cons rfl (Sub.of (by rw [ad3])) (.k (.k .nil))))
 rintro i known out ⟨hi,hk,hol,hff⟩ K1 hK1
 refine gC (fun ht15=>?_) (fun ht15=>?_) (st2:=(18,0))
 ·have hin:=abd ht15
  have hd1:=Con.rekey1 900 rfl rfl rfl (ava l hl hli known hk)
  have hp1:=Con.rekey1 900 rfl rfl rfl (a36 l hl hli known hk)
  have hs1:=Con.rekey1 900 rfl rfl rfl (ax3 l hl hli known hk)
  refine gt (aad hd1 (.cons (.tmp rfl) (.cons (.tmp rfl) .nil)) (by first | exact hH0 | exact hH1 rfl | exact hH2 rfl rfl) rfl rfl) ?_
  refine gJ1 [1,5,13,14] [1,900,901] (fun (o:Option Gr)=>[(3,some (.ms 900 1 0 known.length)),(4,some (.ms 901 4 0 out.length)),(6,some (bl o.isSome))]) (fun o=>[(5,some (.box (o.getD default).av.cells))]) (fun o=>o = (driverG l known).or (pairG l known)) ?_ ?_
  ·intro K2 hK2
   refine gC (fun ht23=>?_) (fun ht23=>?_)
   ·refine gt (aad hp1 (.cons (.tmp rfl) (.cons (.tmp rfl) .nil)) (by first | exact hH0 | exact hH1 rfl | exact hH2 rfl rfl) rfl rfl) ?_
    exact jK1 hK2 (pairG l known) (by rw [aqj (adh ht23)]; rfl)
   ·exact jK1 hK2 (driverG l known) (a9x (adi ht23))
  ·rintro o ho
   refine gJ1 [1,5,13,14] [1,900,901] (fun (og:Option Gr)=>[(3,some (.ms 900 1 0 known.length)),(4,some (.ms 901 4 0 out.length)),(6,some (bl og.isSome))]) (fun og=>[(5,some (.box (og.getD default).av.cells))]) (fun og=>og = nextG l known) ?_ ?_
   ·intro K3 hK3
    refine gC (fun ht31=>?_) (fun ht31=>?_)
    ·refine gt (aad hs1 (.cons (.tmp rfl) (.cons (.tmp rfl) .nil)) (by first | exact hH0 | exact hH1 rfl | exact hH2 rfl rfl) rfl rfl) ?_
     exact jK1 hK3 (singleG l known) (by have:=aqj (adh ht31); rw [ho] at this; exact (awo this).symm)
    ·exact jK1 hK3 o (by rw [ho]; exact (ayz (by rw [<- ho]; exact adi ht31)).symm)
   ·rintro og hog
    refine gC (fun ht39=>?_) (fun ht39=>?_) (st1:=(18,0))
    ·have hn : nextG l known = none := by rw [<- hog]; exact aqj (adh ht39)
     have hfin:findG l = out:=by unfold findG; rw [<- hff,a67 hn]
     refine gW ((Wk.freeze (k:=901) rfl).trans <| Wk.of (sl:=[(4,some (.lst 4 ((findG l).map Gr.av)))]) (hp:=[]) (.cons rfl (Sub.of (by rw [hfin,ab8 (by rw [length_map])])) .nil) .nil) ?_
     refine gE1 ?_
     rfl
    ·obtain ⟨g, hg⟩:∃ g, og = some g:=Option.isSome_iff_exists.1 (adi ht39)
     have hng:nextG l known = some g:=by rw [<- hog,hg]
     have hgo:=au3 hli hng
     subst hg
     refine gs (abu (.tmp rfl) rfl (by rw [length_map]) (.tmp rfl) T84 rfl T97 rfl rfl (by dsimp only; simp only [length_cons,length_nil]; omega) rfl rfl) ?_ (12,0)
     refine gW (Wk.of (sl:=[(1,some (.ptr 1 0)),(3,some (.ms 900 1 0 known.length)),(4,some (.ms 43 4 0 (out ++ [g]).length)),(5,some (.ptr 5 0)),(13,some (i64 l.bodies.length)),(14,some (i64 i))]) (hp:=[(1,some (.box l.av.cells)),(5,some (.box g.av.cells)),(900,some (.row 1 (known.map bl))),(43,some (.row 4 ((out ++ [g]).map Gr.av)))]) (.k (.k (.cons rfl (Sub.of (by rw [length_append]; rfl)) (.k (.k (.k .nil)))))) (.cons rfl (.refl _) (.cons rfl (.refl _) (.cons rfl (.refl _) (.cons rfl (BlkSub.of (by rw [map_append]; rfl)) .nil))))) ?_ (12,0)
     refine gW (Wk.rekey (k:=43) (d:=901) rfl rfl) ?_
     refine gl ?_
     refine gL2 [1,13,14,45,46] [1,901] (fun (q:Nat) (kk:List Bool)=>[(3,some (.ms 900 1 0 kk.length)),(4,some (.ms 901 4 0 (out ++ [g]).length)),(47,some (i64 q))]) (fun _ kk=>[(900,some (.row 1 (kk.map bl)))]) (fun q kk=>q <= g.bodies.length /\ kk.length = l.bodies.length /\ aas kk (g.bodies.drop q) = aas known g.bodies) (fun q _=>g.bodies.length - q) 0 known ⟨zero_le _,hk,rfl⟩ ?_
     rintro q kk ⟨hq,hkk,hmk⟩ K4 hK4
     refine gC (fun ht48=>?_) (fun ht48=>?_)
     ·have hqn:=abd ht48
      obtain ⟨x,hx⟩:=abt hqn
      have hxb:=hgo.b x (mem_of_getElem? hx)
      obtain ⟨v,hv⟩:∃ v,kk[x.toNat]? = some v:=abt (by omega)
      refine gi (aae hx) ?_
      refine gs (ais (.tmp rfl) (.tmp rfl) T227 rfl T4 rfl (by omega) (by omega) rfl) ?_
      refine gs (abh (.tmp rfl) rfl (by rw [Nat.zero_add,getElem?_map,hv]; rfl) rfl (.const _) rfl rfl T4 rfl rfl) ?_
      refine ga (a2o (by have:=hgo.lb; unfold acr; omega)) ?_
      exact gK2 hK4 (q + 1) (kk.set x.toNat true) ⟨hqn,by rw [length_set]; exact hkk,by rw [<- ap8 hx]; exact hmk⟩ (hw:=Wk.of (.cons rfl (Sub.of (by rw [length_set])) (.k (.k (.k (.k (.k (.k (.k .nil)))))))) (.cons rfl (BlkSub.of (by rw [map_set,Nat.zero_add]; rfl)) (.cons rfl (.refl _) (.cons rfl (.refl _) .nil))))
     ·have hqn:=aaj hq ht48
      have hmk2:kk = aas known g.bodies:=by rw [hqn,List.drop_length] at hmk; exact hmk
      refine ga aat ?_
      exact gK3 hK1 (i + 1) kk (out ++ [g]) ⟨hin,hkk,by rw [length_append]; simp only [length_cons,length_nil]; omega,by rw [hmk2,<- a9n hng,<- hff]; congr 1; omega⟩
 ·have hin:=aaj hi ht15
  have hfin:findG l = out:=by unfold findG; rw [<- hff,show l.bodies.length - i = 0 by omega]; rfl
  refine gW ((Wk.freeze (k:=901) rfl).trans <| Wk.of (sl:=[(4,some (.lst 4 ((findG l).map Gr.av)))]) (hp:=[]) (.cons rfl (Sub.of (by rw [hfin,ab8 (by rw [length_map])])) .nil) .nil) ?_
  refine gE1 ?_
  rfl
end Go.Lw
namespace Go.Lw
open Go.Proofs
theorem awj {α:Type} {f:List Bool -> α -> List Bool} {k:List Bool} {l:List α} {i:Nat} {x:α} (h:l[i]? = some x):(l.drop i).foldl f k = (l.drop (i + 1)).foldl f (f k x):=by
 have hi:=(List.getElem?_eq_some_iff.1 h).1
 rw [List.drop_eq_getElem_cons hi,(List.getElem?_eq_some_iff.1 h).2]; rfl
def unm (k:List Bool) (i:Nat):List Int:=((List.range i).filter (fun j=>!k.getD j false)).map (fun j:Nat=>((j:Nat):Int))
theorem a9p {k:List Bool} {i:Nat} (h:k.getD i false = false):unm k (i + 1) = unm k i ++ [(i:Int)]:=by
 unfold unm
 rw [List.range_succ,List.filter_append,map_append,List.filter_cons,h]; rfl
theorem a15 {k:List Bool} {i:Nat} (h:k.getD i false = true):unm k (i + 1) = unm k i:=by
 unfold unm
 rw [List.range_succ,List.filter_append,map_append,List.filter_cons,h]; simp
theorem ati (k:List Bool) (i:Nat):(unm k i).length <= i:=by
 unfold unm
 rw [length_map]
 exact le_trans (List.length_filter_le _ _) (by simp)
theorem aj4 {α:Type} {f:α -> List Int}:∀ (gs:List α) (k:List Bool), (gs.foldl (fun k g=>aas k (f g)) k).length = k.length
 | [],k=>rfl
 | g :: gs,k=>by rw [List.foldl_cons,aj4 gs,afi]
theorem bh5 (l:Li):(ace (adj l)).length <= l.bodies.length:=by
 have h:=ati (adj l) (adj l).length
 have e:(adj l).length = l.bodies.length:=by unfold adj; rw [aj4,ad3]
 rw [e] at h
 unfold ace; rw [e]; exact h
theorem bij (l:Li):(ace (agx l)).length <= l.joints.length:=by
 have h:=ati (agx l) (agx l).length
 have e:(agx l).length = l.joints.length:=by unfold agx; rw [aj4,List.length_replicate]
 rw [e] at h
 unfold ace; rw [e]; exact h
theorem a4g (l:Li) (hl:l.ok) (hli:liE l = 0):FnC prog 75 [l.av] (.tup [.lst 1 ((ace (adj l)).map i64), .lst 1 ((ace (agx l)).map i64)]):=by
 have h8:=(abz hli).2.2.2.1
 have h0:=(abz hli).2.2.2.2
 have hj16:l.joints.length <= 16:=by have:=(abz hli).2.1; unfold aq0 at this; split at this; cases this; omega
 obtain ⟨hgo,hgl⟩:=ake hli
 refine gF0 func75 ?_
 refine gt (aad (ak5 900 rfl l (by omega) 0 (by omega)) (.cons (.tmp rfl) (.cons (.const _) .nil)) (by first | exact hH0 | exact hH1 rfl | exact hH2 rfl rfl) rfl rfl) ?_
 refine gl ?_
 refine gs (agv (.tmp rfl) T227 rfl T4 rfl rfl (by omega) (by dsimp only; omega) rfl) ?_
 refine gD ?_ (2,0)
 refine gW (Wk.of (sl:=[(1,some (.ptr 1 0)),(2,some (.v (.slice none 0 0))),(3,some (.v (.slice none 0 0))),(4,some (.ms 900 1 0 (aeh l.bodies.length 0).length)),(5,some (.ms 21 1 0 (List.replicate l.joints.length false).length))]) (hp:=[(1,some (.box l.av.cells)),(900,some (.row 1 ((aeh l.bodies.length 0).map bl))),(21,some (.row 1 ((List.replicate l.joints.length false).map bl)))]) (.k (.k (.k (.cons rfl (Sub.of (by rw [ad3])) (.cons rfl (Sub.of (by rw [List.length_replicate,toNat_natCast])) .nil))))) (.cons rfl (.refl _) (.cons rfl (.refl _) (.cons rfl (BlkSub.of (by rw [map_replicate,toNat_natCast]; rfl)) .nil)))) ?_ (2,0)
 refine gW (Wk.rekey (k:=21) (d:=901) rfl rfl) ?_
 refine gc (asv l hl hli) ?_
 refine gl ?_
 refine gL3 [1,2,3,23,24] [1] (fun (i:Nat) (k1 k2:List Bool)=>[(4,some (.ms 900 1 0 k1.length)),(5,some (.ms 901 1 0 k2.length)),(25,some (i64 i))]) (fun _ k1 k2=>[(900,some (.row 1 (k1.map bl))),(901,some (.row 1 (k2.map bl)))]) (fun i k1 k2=>i <= (findG l).length /\ k1.length = l.bodies.length /\ k2.length = l.joints.length /\ ((findG l).drop i).foldl (fun k g=>aas k g.bodies) k1 = adj l /\ ((findG l).drop i).foldl (fun k g=>aas k g.joints) k2 = agx l) (fun i _ _=>(findG l).length - i) 0 (aeh l.bodies.length 0) (List.replicate l.joints.length false) ⟨zero_le _,ad3 _ _,List.length_replicate,rfl,rfl⟩ ?_
 rintro i k1 k2 ⟨hi,hk1,hk2,hf1,hf2⟩ K1 hK1
 refine gC (fun ht26=>?_) (fun ht26=>?_)
 ·have hin:=abd ht26
  obtain ⟨g,hg⟩:=abt hin
  have hgk:=hgo g (mem_of_getElem? hg)
  have hlb:=hgk.lb
  have hlj:=hgk.lj
  refine gi (aae hg) ?_
  refine gl ?_
  refine gL2 [1,2,3,7,23,24,25,30,31] [1,7,901] (fun (q:Nat) (kk:List Bool)=>[(4,some (.ms 900 1 0 kk.length)),(5,some (.ms 901 1 0 k2.length)),(32,some (i64 q))]) (fun _ kk=>[(900,some (.row 1 (kk.map bl)))]) (fun q kk=>q <= g.bodies.length /\ kk.length = l.bodies.length /\ aas kk (g.bodies.drop q) = aas k1 g.bodies) (fun q _=>g.bodies.length - q) 0 k1 ⟨zero_le _,hk1,rfl⟩ ?_
  rintro q kk ⟨hq,hkk,hmk⟩ K2 hK2
  refine gC (fun ht33=>?_) (fun ht33=>?_)
  ·have hqn:=abd ht33
   obtain ⟨x,hx⟩:=abt hqn
   have hxb:=hgk.b x (mem_of_getElem? hx)
   obtain ⟨v,hv⟩:∃ v,kk[x.toNat]? = some v:=abt (by omega)
   refine gi (aae hx) ?_
   refine gs (ais (.tmp rfl) (.tmp rfl) T227 rfl T4 rfl (by omega) (by omega) rfl) ?_
   refine gs (abh (.tmp rfl) rfl (by rw [Nat.zero_add,getElem?_map,hv]; rfl) rfl (.const _) rfl rfl T4 rfl rfl) ?_
   refine ga aat ?_
   exact gK2 hK2 (q + 1) (kk.set x.toNat true) ⟨hqn,by rw [length_set]; exact hkk,by rw [<- ap8 hx]; exact hmk⟩ (hw:=Wk.of (.cons rfl (Sub.of (by rw [length_set])) (.k (.k (.k (.k (.k (.k (.k (.k (.k (.k (.k .nil)))))))))))) (.cons rfl (BlkSub.of (by rw [map_set,Nat.zero_add]; rfl)) (.cons rfl (.refl _) (.cons rfl (.refl _) (.cons rfl (.refl _) .nil)))))
  ·have hqn:=aaj hq ht33
   have hmk2:kk = aas k1 g.bodies:=by rw [hqn,List.drop_length] at hmk; exact hmk
   refine gl ?_
   refine gL2 [1,2,3,23,24,25,41,42] [1,900] (fun (p:Nat) (jj:List Bool)=>[(4,some (.ms 900 1 0 kk.length)),(5,some (.ms 901 1 0 jj.length)),(43,some (i64 p))]) (fun _ jj=>[(901,some (.row 1 (jj.map bl)))]) (fun p jj=>p <= g.joints.length /\ jj.length = l.joints.length /\ aas jj (g.joints.drop p) = aas k2 g.joints) (fun p _=>g.joints.length - p) 0 k2 ⟨zero_le _,hk2,rfl⟩ ?_
   rintro p jj ⟨hp,hjj,hmj⟩ K3 hK3
   refine gC (fun ht44=>?_) (fun ht44=>?_)
   ·have hpn:=abd ht44
    obtain ⟨x,hx⟩:=abt hpn
    have hxb:=hgk.j x (mem_of_getElem? hx)
    obtain ⟨v,hv⟩:∃ v,jj[x.toNat]? = some v:=abt (by omega)
    refine gi (aae hx) ?_
    refine gs (ais (.tmp rfl) (.tmp rfl) T227 rfl T4 rfl (by omega) (by omega) rfl) ?_
    refine gs (abh (.tmp rfl) rfl (by rw [Nat.zero_add,getElem?_map,hv]; rfl) rfl (.const _) rfl rfl T4 rfl rfl) ?_
    refine ga aat ?_
    exact gK2 hK3 (p + 1) (jj.set x.toNat true) ⟨hpn,by rw [length_set]; exact hjj,by rw [<- ap8 hx]; exact hmj⟩ (hw:=Wk.of (.k (.cons rfl (Sub.of (by rw [length_set])) (.k (.k (.k (.k (.k (.k (.k (.k (.k .nil))))))))))) (.cons rfl (BlkSub.of (by rw [map_set,Nat.zero_add]; rfl)) (.cons rfl (.refl _) (.cons rfl (.refl _) .nil))))
   ·have hpn:=aaj hp ht44
    have hmj2:jj = aas k2 g.joints:=by rw [hpn,List.drop_length] at hmj; exact hmj
    refine ga aat ?_
    exact gK3 hK1 (i + 1) kk jj ⟨hin,hkk,hjj,by rw [hmk2,<- hf1,awj hg],by rw [hmj2,<- hf2,awj hg]⟩
 ·have hin:=aaj hi ht26
  have e1:k1 = adj l:=by rw [hin,List.drop_length] at hf1; exact hf1
  have e2:k2 = agx l:=by rw [hin,List.drop_length] at hf2; exact hf2
  refine gW (Wk.virt 902 1 rfl) ?_
  refine gL1 [3,53] [900,901] (fun (i:Nat)=>[(2,some (.ms 902 1 0 (unm k1 i).length)),(5,some (.ms 901 1 0 k2.length)),(52,some (.ms 900 1 0 k1.length)),(54,some (i64 i))]) (fun i=>[(902,some (.row 1 ((unm k1 i).map i64)))]) (fun i=>i <= k1.length) (fun i=>k1.length - i) 0 (zero_le _) ?_
  rintro i ha K4 hK4
  refine gC (fun ht55=>?_) (fun ht55=>?_) (st2:=(22,0))
  ·have hin6:=abd ht55
   obtain ⟨v,hv⟩:=abt hin6
   have hvd:k1.getD i false = v:=aaf hv
   have hul:=ati k1 i
   refine gs (ais (.tmp rfl) (.tmp rfl) T227 rfl T4 rfl (by omega) (by omega) rfl) ?_
   refine gs (aau (.tmp rfl) rfl (by rw [Nat.zero_add,toNat_natCast,getElem?_map,hv]; rfl) T4 rfl rfl rfl) ?_
   refine gC (fun ht60=>?_) (fun ht60=>?_)
   ·have hu := a9p (k := k1) (i := i) (by rw [hvd]; exact adh ht60)
    refine gs (abu (.tmp rfl) rfl (by rw [length_map]) (.tmp rfl) T32 rfl T3 rfl rfl (by dsimp only; simp only [length_cons,length_nil]; omega) rfl rfl) ?_ (21,0)
    refine gW (Wk.of (sl:=[(2,some (.ms 64 1 0 (unm k1 (i + 1)).length)),(3,some (.v (.slice none 0 0))),(5,some (.ms 901 1 0 k2.length)),(52,some (.ms 900 1 0 k1.length)),(53,some (i64 k1.length)),(54,some (i64 i))]) (hp:=[(900,some (.row 1 (k1.map bl))),(901,some (.row 1 (k2.map bl))),(64,some (.row 1 ((unm k1 (i + 1)).map i64)))]) (.cons rfl (Sub.of (by rw [hu,length_append]; rfl)) (.k (.k (.k (.k (.k .nil)))))) (.cons rfl (.refl _) (.cons rfl (.refl _) (.cons rfl (BlkSub.of (by rw [hu,map_append]; rfl)) .nil)))) ?_ (21,0)
    refine gW (Wk.rekey (k:=64) (d:=902) rfl rfl) ?_
    refine ga aat ?_
    exact gK1 hK4 (i + 1) hin6 (hw:=Wk.of (.cons rfl (Sub.of (by first | rw [hu]; done | rfl)) (.k (.k (.k (.k (.k .nil)))))) (.cons rfl (BlkSub.of (by first | rw [hu]; done | rfl)) (.cons rfl (.refl _) (.cons rfl (.refl _) .nil))))
   ·have hu := a15 (k := k1) (i := i) (by rw [hvd]; exact adi ht60)
    refine ga aat ?_
    exact gK1 hK4 (i + 1) hin6 (hw:=Wk.of (.cons rfl (Sub.of (by first | rw [hu]; done | rfl)) (.k (.k (.k (.k (.k .nil)))))) (.cons rfl (BlkSub.of (by first | rw [hu]; done | rfl)) (.cons rfl (.refl _) (.cons rfl (.refl _) .nil))))
  ·have hin6:=aaj ha ht55
   refine gW ((Wk.freeze (k:=902) rfl).trans <| Wk.of (sl:=[(2,some (.lst 1 ((ace (adj l)).map i64))),(3,some (.v (.slice none 0 0))),(5,some (.ms 901 1 0 k2.length))]) (hp:=[(901,some (.row 1 (k2.map bl)))]) (.cons rfl (Sub.of (by rw [ab8 (by rw [length_map]),hin6,e1]; rfl)) (.k (.k .nil))) (.cons rfl (.refl _) .nil)) ?_
   refine gW (Wk.virt 902 1 rfl) ?_
   refine gL1 [2,67] [901] (fun (i:Nat)=>[(3,some (.ms 902 1 0 (unm k2 i).length)),(66,some (.ms 901 1 0 k2.length)),(68,some (i64 i))]) (fun i=>[(902,some (.row 1 ((unm k2 i).map i64)))]) (fun i=>i <= k2.length) (fun i=>k2.length - i) 0 (zero_le _) ?_
   rintro i hb K5 hK5
   refine gC (fun ht69=>?_) (fun ht69=>?_) (st2:=(28,0))
   ·have hin8:=abd ht69
    obtain ⟨v,hv⟩:=abt hin8
    have hvd:k2.getD i false = v:=aaf hv
    have hul:=ati k2 i
    refine gs (ais (.tmp rfl) (.tmp rfl) T227 rfl T4 rfl (by omega) (by omega) rfl) ?_
    refine gs (aau (.tmp rfl) rfl (by rw [Nat.zero_add,toNat_natCast,getElem?_map,hv]; rfl) T4 rfl rfl rfl) ?_
    refine gC (fun ht74=>?_) (fun ht74=>?_)
    ·have hu := a9p (k := k2) (i := i) (by rw [hvd]; exact adh ht74)
     refine gs (abu (.tmp rfl) rfl (by rw [length_map]) (.tmp rfl) T32 rfl T3 rfl rfl (by dsimp only; simp only [length_cons,length_nil]; omega) rfl rfl) ?_ (27,0)
     refine gW (Wk.of (sl:=[(2,some (.lst 1 ((ace (adj l)).map i64))),(3,some (.ms 78 1 0 (unm k2 (i + 1)).length)),(66,some (.ms 901 1 0 k2.length)),(67,some (i64 k2.length)),(68,some (i64 i))]) (hp:=[(901,some (.row 1 (k2.map bl))),(78,some (.row 1 ((unm k2 (i + 1)).map i64)))]) (.k (.cons rfl (Sub.of (by rw [hu,length_append]; rfl)) (.k (.k (.k .nil))))) (.cons rfl (.refl _) (.cons rfl (BlkSub.of (by rw [hu,map_append]; rfl)) .nil))) ?_ (27,0)
     refine gW (Wk.rekey (k:=78) (d:=902) rfl rfl) ?_
     refine ga aat ?_
     exact gK1 hK5 (i + 1) hin8 (hw:=Wk.of (.cons rfl (Sub.of (by first | rw [hu]; done | rfl)) (.k (.k (.k (.k .nil))))) (.cons rfl (BlkSub.of (by first | rw [hu]; done | rfl)) (.cons rfl (.refl _) .nil)))
    ·have hu := a15 (k := k2) (i := i) (by rw [hvd]; exact adi ht74)
     refine ga aat ?_
     exact gK1 hK5 (i + 1) hin8 (hw:=Wk.of (.cons rfl (Sub.of (by first | rw [hu]; done | rfl)) (.k (.k (.k (.k .nil))))) (.cons rfl (BlkSub.of (by first | rw [hu]; done | rfl)) (.cons rfl (.refl _) .nil)))
   ·have hin8:=aaj hb ht69
    refine gW ((Wk.freeze (k:=902) rfl).trans <| Wk.of (sl:=[(2,some (.lst 1 ((ace (adj l)).map i64))),(3,some (.lst 1 ((ace (agx l)).map i64)))]) (hp:=[]) (.k (.cons rfl (Sub.of (by rw [ab8 (by rw [length_map]),hin8,e2]; rfl)) .nil)) .nil) ?_
    refine gE2 ?_
    rfl
theorem ael (l:Li) (hl:l.ok) (hli:liE l = 0):FnC prog 35 [l.av] (.tup [.lst 4 ((splitG l).map Gr.av), i64 (splitE l)]):=by
 have h8:=(abz hli).2.2.2.1
 have hj16:l.joints.length <= 16:=by have:=(abz hli).2.1; unfold aq0 at this; split at this; cases this; omega
 have u1:=bh5 l
 have u2:=bij l
 refine gF0 func35 ?_
 refine gc (a4g l hl hli) ?_
 refine gl ?_
 refine gl ?_
 refine ga (aa1 (by omega)) ?_
 refine gC (fun ht16=>?_) (fun ht16=>?_)
 ·have h1:0 < (ace (adj l)).length + (ace (agx l)).length:=alq ht16
  have hE:splitE l = 7:=by unfold splitE; rw [if_neg (by omega)]
  refine gR ?_
  exact ac3 (by unfold splitG; rw [if_neg (by rw [hE]; decide),hE]; exact Sub.tup (.cons (.nil _ _ _) (.cons (.refl _) .nil)))
 ·have h1:(ace (adj l)).length + (ace (agx l)).length <= 0:=anq ht16
  have hE:splitE l = 0:=by unfold splitE; rw [if_pos (by omega)]
  refine gc (asv l hl hli) ?_
  refine gE2 ?_
  unfold splitG; rw [if_pos hE,hE]; rfl
end Go.Lw
namespace Go.Lw
variable {P:Program} {N:Nat} {R:Array Oper} {s:AS}
theorem ax7 {d:Nat} {x:Operand} {n:Nat} {z:Value} {T E t:TypeId} {ti te:TI} {pos:String} {after:Array Edge} (hx:Ev s x (.v (.int .i64 n)))
    (hT:aah P T = some ti) (hk:ti.k = .slice E) (hE:aah P E = some te) (hz:te.zero = [z]) (hz1:z.oneCell' = true) (hs:Nat.beq te.size 1 = true) (hbb:Nat.blt 0 te.bytes = true)
    (hb:(n:Int) * te.bytes <= 281474976710656) (hN:Nat.blt d N = true) :
    Step P N R s ⟨some d, .makeSlice T x x, t, pos, after, none⟩
      ⟨some (.ms d 1 0 n),[(d,some (.vec (List.replicate n z)))],aal x,[]⟩ :=
  al6 rfl rfl hN (by simp) fun s' hag hfr C m a w hr => by
    have hxv:=al1 hr (hx.agree hag (fun _ h=>h))
    have hs:=eq_of_beq_eq_true hs
    rw [Nat.blt_eq] at hbb
    obtain ⟨d2,h3,h4,-,-⟩:=abn hT w
    obtain rfl:=acl (h4.trans hk)
    obtain ⟨zv,h5,h6⟩:=alz hE w
    obtain ⟨ie,h7,h8,-⟩:=an2 hE w
    have h6':zv.cells.toList = [z]:=h6.trans hz
    have hzc:zv.cells = #[z]:=by rw [<- Array.toArray_toList (xs:=zv.cells),h6']
    have hnb:(n:Int) <= 281474976710656:=by
      have:(n:Int) * 1 <= n * te.bytes:=Int.mul_le_mul_of_nonneg_left (by omega) (by omega)
      omega
    have hw1:IntKind.i64.wrap (n:Int) = n:=IntWalk.i64_in n (by omega)
    obtain ⟨zero,hzero⟩:∃ zero:Array Value,zero = (if n * te.size = 0 then #[] else zv.cells):=⟨_,rfl⟩
    refine ⟨.slice (some ⟨w.heap.size,0,none⟩) n n,(Array.range (n * te.size)).map (zero[· % zero.size]!),E,w.drawn,?_,?_,?_,?_⟩
    · have hmk:(Instr.makeSlice T (.int .i64 n) (.int .i64 n)).run P w =
          .ok (.slice (some ⟨w.heap.size,0,none⟩) n n) { w with heap:=w.heap.push (.cells ((Array.range (n * te.size)).map (zero[· % zero.size]!)) E) }:=by
        have hc:¬ (((n:Int) < 0 \/ 281474976710656 < (ie.bytes:Int) * n) \/ (n:Int) < 0):=by
          rw [h8,Int.mul_comm]; omega
        simp only [Instr.makeSlice,Sem.run_bind,h3,Result.andThen_ok,asInt,asIntOf,Sem.run_pure,h7,hw1]
        rw [if_neg (by simpa using hc)]
        simp only [Sem.run_bind,run_askRoom,Result.andThen_ok,aba hE,toNat_natCast]
        by_cases h0:n * te.size = 0
        · rw [if_pos h0] at hzero ⊢
          subst hzero
          simp only [Sem.run_bind,Sem.run_pure,Result.andThen_ok,newRow,run_newObj]
        · rw [if_neg h0] at hzero ⊢
          subst hzero
          simp only [Sem.run_bind,Sem.run_pure,Result.andThen_ok,h5,newRow,run_newObj]
      simp only [execOp,hxv,Sem.run_bind,hmk,Result.andThen_ok,Sem.run_pure]
    · exact fun h=>h
    · intro g S m' w' hg hS hm hw
      refine .vec hw ?_ (fun v hv=>by rw [List.eq_of_mem_replicate hv]; exact hz1)
      apply List.ext_getElem?
      intro j
      rw [Array.getElem?_toList,List.getElem?_replicate]
      by_cases hj:j < n
      · have hpos : ¬ n * te.size = 0 := by rw [hs]; omega
        rw [if_neg hpos,hzc] at hzero
        subst hzero
        rw [if_pos hj]
        simp only [Array.getElem?_map,Array.getElem?_range,show j < n * te.size by rw [hs]; omega,if_true,Option.map_some,Option.some.injEq]
        simp [Nat.mod_one]
      · rw [if_neg hj,Array.getElem?_eq_none (by simp [hs]; omega)]
    · intro g S m' hm hS
      have:=Rep.ms (g:=g) (S:=S) (m:=m') (k:=d) (sz:=1) (off:=0) (len:=n) (cap:=n) hm (le_refl _) (by simpa [hs] using hS)
      simpa using this
theorem atj {x y:Operand} {k i:Nat} {vs:List Value} {v:Value} {T t:TypeId} {ti:TI} {pos:String} {after:Array Edge}
  (hx:Ev s x (.eptr k 1 i 0)) (hk:s.blk k = some (.vec vs)) (hi:i < vs.length) (hy:Ev s y (.v v)) (hv:v.oneCell' = true) (hT:aah P T = some ti) (hsz:Nat.beq ti.size 1 = true) :
  Step P N R s ⟨none,.store T x y,t,pos,after,none⟩ ⟨none,[(k,some (.vec (vs.set i v)))],aal x ++ aal y,[k]⟩ :=
 anh rfl rfl (by simp) hk fun s' hag C m a w hr => by
  have hsz:=eq_of_beq_eq_true hsz
  obtain ⟨b,hm,hxv⟩:=al7 hr (hx.agree hag (fun _ h=>List.mem_append.2 (.inl h)))
  have hyv:=al1 hr (hy.agree hag (fun _ h=>List.mem_append.2 (.inr h)))
  have hb:=hr.heap.blk k _ ((hag.2 k (by simp)).trans hk)
  rw [hm] at hb
  cases hb with
  | @vec _ _ c t2 hw hc h1 =>
   have hcs:c.size = vs.length:=by rw [<- hc]; simp
   have hvc:v.cells = #[v]:=by cases v <;> simp_all [Value.cells,Value.oneCell']
   refine ⟨b,c,(over c.toList i v.cells.toList).toArray,t2,hm,hw,?_,?_,?_⟩
   ·simp [over,hvc]; omega
   ·have hrun := ajt (P := P) (off := i) (v := v) hT hw (by rw [hvc, hsz]; rfl) (by omega) (by rw [hvc]; simpa using hv)
    simp [execOp,Instr.storeAt,hxv,Instr.sureAddr,hyv,hrun]
   ·intro g S w' hg hS hw'
    refine .vec hw' ?_ (fun u hu=>?_)
    ·rw [hc, hvc]
     unfold over
     rw [List.set_eq_take_append_cons_drop,if_pos hi]
     simp
    ·rcases List.mem_or_eq_of_mem_set hu with h9 | h9
     ·exact h1 u h9
     ·rw [h9]; exact hv
inductive Lent (H:Hp) (hid:List Nat):AV -> AV -> Prop
  | same {x:AV} (h:x.nm = []):Lent H hid x x
  | ms {k off len:Nat} {vs:List Value} (hk:lk H k = some (.vec vs)) (hh:k ∉ hid) (hl:off + len <= vs.length) (hm:vs.length <= acr):Lent H hid (.ms k 1 off len) (.lst 1 (((vs.drop off).take len).map .v))
theorem bl5 {g:Nat -> Array Value -> Prop} {S:Nat -> Nat -> Prop} {m:Nat -> Option Nat} {u y:Value} (h:Rep g S m u (.v y)):u = y:=by cases h; rfl
theorem atb {m:Nat -> Option Nat} {b:Nat}:¬ Own [] m b:=by rintro ⟨k,x,h,_⟩; cases h
def bky (ext:Nat -> Prop) (H:Hp) (hid:List Nat) (m:Nat -> Option Nat) (b:Nat):Prop:=ext b \/ ∃ k z,k ∈ hid /\ lk H k = some z /\ m k = some b
theorem bhg {ext:Nat -> Prop} {H:Hp} {hid:List Nat} {m m2:Nat -> Option Nat} {w:World} {b:Nat} {cs:Array Value} (h:Im ext H m w b cs):Im (bky ext H hid m) [] m2 w b cs :=
 ⟨fun h'=>h'.elim h.1 (fun ⟨k,z,_,hz,hb⟩=>h.2.1 ⟨k,z,hz,hb⟩),atb,h.2.2⟩
theorem a8v {ext:Nat -> Prop} {H:Hp} {hid:List Nat} {m:Nat -> Option Nat} {w:World} (hh:HeapRel ext H m w) {k b:Nat} {z:Blk} (hk:lk H k = some z) (hb:m k = some b) (hn:k ∉ hid):¬ bky ext H hid m b:=by
 rintro (h | ⟨k',z',h1,h2,h3⟩)
 ·exact (hh.sep k z b hk hb).1 h
 ·have:=hh.inj k k' z z' b hk h2 hb h3
  subst this; exact hn h1
theorem Lent.rep {ext:Nat -> Prop} {H:Hp} {hid:List Nat} {m:Nat -> Option Nat} {w:World} (hh:HeapRel ext H m w) {x x':AV} (h:Lent H hid x x') :
  ∀ {v:Value},Rep (Im ext H m w) (Sz w) m v x -> ∀ m2:Nat -> Option Nat,Rep (Im (bky ext H hid m) [] m w) (Sz w) m2 v x':=by
 cases h with
 | same hn=>intro v hv m2; exact (ads hn hv).mono (fun _ _ h=>bhg h) (fun _ _ h=>h) (fun _ _ _ h=>h)
 | @ms k off len vs hk hnh hl hm =>
  intro v hr m2
  have hb:=hh.blk k _ hk
  cases hr with
  | ms0 a=>simp only [List.take_zero]; exact .lst0 _ _ _
  | @ms _ _ _ _ _ cap b hmk hc hS =>
   rw [hmk] at hb
   cases hb with
   | @vec _ _ c t hw hcv h1 =>
    have hcs:c.size = vs.length:=by rw [<- hcv]; simp
    have hlen:(((vs.drop off).take len).map AV.v).length = len:=by rw [length_map,length_take,List.length_drop]; omega
    have he':∀ (i:Nat) (e:AV), (((vs.drop off).take len).map AV.v)[i]? = some e -> ∃ u, e = .v u /\ c[off + i]? = some u /\ u ∈ vs:=by
     intro i e he
     rw [getElem?_map,map_eq_some_iff] at he
     obtain ⟨u,he,rfl⟩:=he
     rw [getElem?_take] at he
     split at he
     ·rw [getElem?_drop] at he
      exact ⟨u,rfl,by rw [<- Array.getElem?_toList,hcv]; exact he,mem_of_getElem? he⟩
     ·cases he
    have:=Rep.lst (g:=Im (bky ext H hid m) [] m w) (S:=Sz w) (m:=m2) (b:=b) (off:=off) (cap:=cap) (sz:=1) (es:=((vs.drop off).take len).map AV.v) (cs:=c) (fun i j=>c.getD (off + i) undef)
     ⟨a8v hh hk hmk hnh,atb,t,(0,0),hw⟩ (by omega) (by omega) ?_ ?_ ?_ ?_
    ·rw [hlen] at this; simpa using this
    ·intro i e he
     obtain ⟨u,rfl,_⟩:=he' i e he; rfl
    ·intro i j e x he hx
     obtain ⟨u,rfl,_,hm⟩:=he' i e he
     cases j with
     | zero=>cases hx; exact h1 u hm
     | succ j=>cases hx
    ·intro i j e x he hx
     obtain ⟨u,rfl,hu,_⟩:=he' i e he
     cases j with
     | zero=>rw [Nat.mul_one,Nat.add_zero,getD_eq_getD_getElem?,hu]; rfl
     | succ j=>cases hx
    ·intro i j e x he hx
     obtain ⟨u,rfl,hu,_⟩:=he' i e he
     cases j with
     | zero=>cases hx; rw [getD_eq_getD_getElem?,hu]; exact .v _
     | succ j=>cases hx
def blb:AV -> Bool
  | .v (.int _ _)=>true
  | _=>false
def bl7:AV -> Bool
  | .v (.int _ _)=>false
  | .v _=>true
  | .lst _ _=>true
  | .ms _ _ _ _=>true
  | _=>false
mutual
def AV.li:AV -> Bool
  | .v _=>true
  | .agg cs=>AV.lis cs
  | .tup cs=>AV.lis cs
  | .lst sz es=>Nat.beq sz 1 && es.all blb
  | _=>false
def AV.lis:List AV -> Bool
  | []=>true
  | x :: l=>x.li && AV.lis l
end
theorem AV.lis_mem:∀ {l:List AV} {c:AV}, AV.lis l = true -> c ∈ l -> c.li = true
 | x :: l, c, h, hc=>by
  simp only [AV.lis,and_eq_true] at h
  rcases List.mem_cons.1 hc with rfl | hc
  ·exact h.1
  ·exact AV.lis_mem h.2 hc
theorem a77 {g:Nat -> Array Value -> Prop} {S:Nat -> Nat -> Prop} {m:Nat -> Option Nat} {u:Value} {x:AV} (hx:bl7 x = true) (h:Rep g S m u x) (kk:IntKind) (z:Int):u ≠ .int kk z:=by
 rintro rfl
 cases h <;> cases hx
theorem bnw {g g':Nat -> Array Value -> Prop} {S S':Nat -> Nat -> Prop} {m m':Nat -> Option Nat} {v:Value} {x:AV} (hx:x.li = true)
  (hg:∀ b cs (o:Nat) (kk:IntKind) (z:Int),cs[o]? = some (.int kk z) -> g b cs -> g' b cs) (h:Rep g S m v x):Rep g' S' m' v x:=by
 induction h with
 | v=>exact .v _
 | agg hn h1 hr ih=>exact .agg hn h1 (fun j u c hu hc=>ih j u c hu hc (AV.lis_mem hx (mem_of_getElem? hc)))
 | tup hn hr ih=>exact .tup hn (fun j u c hu hc=>ih j u c hu hc (AV.lis_mem hx (mem_of_getElem? hc)))
 | lst0 a cap sz=>exact .lst0 _ _ _
 | @lst _ b off cap sz es cs u hb hc hl hs h1 hu hr _ =>
  simp only [AV.li,and_eq_true] at hx
  have hsz:=eq_of_beq_eq_true hx.1
  subst hsz
  match es,hx,hc,hl,hs,h1,hu,hr with
  | [],_,_,_,_,_,_,_=>exact .lst0 _ _ _
  | e :: es, hx, hc, hl, hs, h1, hu, hr =>
   have hcell:∀ (i j:Nat) (e' c:AV), (e :: es)[i]? = some e' -> e'.cells[j]? = some c -> ∃ kk z, c = .v (.int kk z):=by
    intro i j e' c he hc'
    have h9:=List.all_eq_true.1 hx.2 e' (mem_of_getElem? he)
    cases e' with
    | v y=>cases y with
     | int kk z =>
      cases j with
      | zero=>cases hc'; exact ⟨_,_,rfl⟩
      | succ j=>cases hc'
     | _=>cases h9
    | _=>cases h9
   have he0:∃ kk z, e = .v (.int kk z):=by
    have h9:=List.all_eq_true.1 hx.2 e (by simp)
    cases e with
    | v y=>cases y with
     | int kk z=>exact ⟨_,_,rfl⟩
     | _=>cases h9
    | _=>cases h9
   obtain ⟨kk,z,rfl⟩:=he0
   have h8:=hu 0 0 _ _ rfl rfl
   have h7:=hr 0 0 _ _ rfl rfl
   have h6:u 0 0 = .int kk z:=bl5 h7
   rw [h6] at h8
   refine .lst u (hg b cs _ kk z h8 hb) hc hl hs h1 hu (fun i j e' c he hc'=>?_)
   obtain ⟨k2,z2,rfl⟩:=hcell i j e' c he hc'
   rw [bl5 (hr i j _ _ he hc')]; exact .v _
 | _=>cases hx
theorem Con.lend {f:FuncId} {k:Nat} {cs:List AV} {cs':Value -> List AV} {H:Hp} {r:AV} (hid:List Nat) (j0:Nat) (hk:lk H k = some (.box cs)) (hkh:k ∉ hid)
  (hc:∀ v:Value, v.oneCell' = true -> (cs' v).length = cs.length /\ (∀ (j:Nat) (x:AV), (cs' v)[j]? = some x -> x.one = true) /\
   ∀ (j:Nat) (x x':AV),cs[j]? = some x -> (cs' v)[j]? = some x' -> (j = j0 /\ x' = .v v) \/ Lent H hid x x')
  (hj:j0 < cs.length)
  (hH:∀ k z,lk H k = some z -> k ∈ hid \/ (∃ cs,z = .box cs /\ cs.all bl7 = true) \/ ∃ vs,z = .vec vs /\ ∀ v ∈ vs,∀ kk z,v ≠ .int kk z) (hr:r.li = true) (h:∀ v:Value,FnC P f [.iptr (cs' v)] r):Con P f [.ptr k 0] H r H:=by
 refine ⟨(h undef).ok,?_⟩
 intro ext m w vs hext hheap hvs hrep
 have hsz:0 < vs.size:=by rw [hvs]; exact Nat.one_pos
 have hr0:=hrep 0 vs[0] _ (Array.getElem?_eq_getElem hsz) rfl
 have hb:=hheap.blk k _ hk
 generalize hv0:vs[0] = v0 at hr0
 cases hr0 with
 | @ptr _ _ _ b hmk =>
  rw [hmk] at hb
  cases hb with
  | @box _ _ c t hw hn h1 hrr =>
   have hj0:j0 < c.size:=by omega
   have hx0:=getElem?_eq_getElem (l:=cs) (i:=j0) (by omega)
   have hone:(c[j0]).oneCell' = true:=(hrr j0 _ _ (Array.getElem?_eq_getElem hj0) hx0).one (h1 j0 _ hx0)
   obtain ⟨g1,g2,g3⟩:=hc c[j0] hone
   have hext':∀ b, bky ext H hid m b -> b < w.heap.size:=by
    rintro b (h9 | ⟨k',z',_,h2,h3⟩)
    ·exact hext b h9
    ·exact (hheap.sep k' z' b h2 h3).2
   have hcall := (h c[j0]).ret (bky ext H hid m) m w vs hext' ⟨fun k z hz => by (cases hz), fun k k' x x' b hx => by (cases hx), fun k x b hx => by (cases hx)⟩ (by rw [hvs]; rfl) (by
    intro j v x hv hx
    match j,hx with
    | 0, hx =>
     cases hx
     rw [Array.getElem?_eq_getElem hsz,hv0] at hv
     cases hv
     refine .iptr (cs:=c) (fun j=>c.getD j undef) ⟨a8v hheap hk hmk hkh,atb,t,(0,0),hw⟩ g2 ?_ ?_
     ·intro j x hx
      have hlt:j < c.size:=by rw [hn,<- g1]; exact (List.getElem?_eq_some_iff.1 hx).1
      rw [Nat.zero_add,getD_eq_getD_getElem?,Array.getElem?_eq_getElem hlt]; rfl
     ·intro j x hx
      have hlt:j < c.size:=by rw [hn,<- g1]; exact (List.getElem?_eq_some_iff.1 hx).1
      obtain ⟨y,hy⟩:=aa8 g1 hx
      have hcv:c[j]? = some (c.getD j undef):=by rw [getD_eq_getD_getElem?,Array.getElem?_eq_getElem hlt]; rfl
      rcases g3 j y x hy hx with ⟨rfl,rfl⟩ | hl
      ·have : c.getD j undef = c[j] := by rw [Array.getElem?_eq_getElem hlt] at hcv; exact (Option.some.inj hcv).symm
       rw [this]; exact .v _
      ·exact hl.rep hheap (hrr j _ y hcv hy) aca)
   refine Calls.mono hcall ?_
   rintro e w' ⟨v,m',rfl,hf,hh,hnew,hkeep,hres⟩
   have hkeepB:∀ b,b < w.heap.size -> w'.heap[b]? = w.heap[b]? := fun b hb=>hf.keep b hb atb
   have hframe:Frame (Own H m) w w':=⟨hf.os,hf.tape,hf.output,hf.size,hf.sz,fun b hb _=>hkeepB b hb⟩
   have him:=acb (ext:=ext) hframe (hp':=H) (m':=m) (fun k x b hk hb=>.inl ⟨k,x,hk,hb⟩)
   refine ⟨v,m,rfl,hframe,⟨?_,hheap.inj,?_⟩,fun k x b hk hb=>.inl ⟨k,x,hk,hb⟩,fun _ _ _ _ _=>rfl,?_⟩
   ·intro k z hz
    exact BlkRep.mono (w:=w) him hf.sz (fun _ _ _ h=>h) rfl (fun b hb=>hkeepB b (hheap.sep k z b hz hb).2) (hheap.blk k z hz)
   ·intro k z b hz hb
    have:=hheap.sep k z b hz hb
    exact ⟨this.1,lt_of_lt_of_le this.2 hf.size⟩
   ·refine bnw hr ?_ hres
    rintro b2 cs2 o kk z ho ⟨g1,g2,t2,fl,g3⟩
    refine ⟨fun h9=>g1 (.inl h9),?_,t2,fl,g3⟩
    rintro ⟨k2,y,hk2,hb2⟩
    have hlt:=fun b hb=>(hheap.sep k2 _ b hk2 hb).2
    have h3:=hheap.blk k2 _ hk2
    rw [hb2] at h3
    rcases hH k2 y hk2 with h9 | ⟨cl,rfl,hcl⟩ | ⟨vs2,rfl,hvl⟩
    ·exact g1 (.inr ⟨k2,y,h9,hk2,hb2⟩)
    ·cases h3 with
     | @box _ _ c2 t' hw2 hn2 h12 hrr2 =>
      have hcc:c2 = cs2:=by
       rw [hkeepB b2 (hlt b2 hb2),hw2] at g3
       injection g3 with g3
       injection g3
      subst hcc
      have ho':o < c2.size:=(Array.getElem?_eq_some_iff.1 ho).1
      have hx:=getElem?_eq_getElem (l:=cl) (i:=o) (by omega)
      exact a77 (List.all_eq_true.1 hcl _ (mem_of_getElem? hx)) (hrr2 o _ _ ho hx) kk z rfl
    ·cases h3 with
     | @vec _ _ c2 t' hw2 hc2 h12 =>
      have hcc:c2 = cs2:=by
       rw [hkeepB b2 (hlt b2 hb2),hw2] at g3
       injection g3 with g3
       injection g3
      subst hcc
      have:Value.int kk z ∈ vs2:=by rw [<- hc2]; exact Array.mem_toList_iff.2 (Array.mem_of_getElem? ho)
      exact hvl _ this kk z rfl
end Go.Lw
namespace Go.Lw
open Go.Proofs
def bv (xs:List Bool):List Value:=xs.map .bool
theorem afx (xs:List Bool):(bv xs).length = xs.length:=length_map _
theorem a1y (xs:List Bool) (n:Nat):(bv xs).set n (.bool true) = bv (xs.set n true):=by unfold bv; rw [map_set]
theorem bjf (xs:List Bool):∀ v ∈ bv xs, ∀ kk z, v ≠ .int kk z:=by
 intro v hv kk z
 obtain ⟨b,_,rfl⟩:=List.mem_map.1 hv
 exact fun h=>by cases h
theorem bda (xs:List Bool):(bv xs).map AV.v = xs.map bl:=by unfold bv; rw [map_map]; rfl
theorem a7c (n:Nat):List.replicate n (Value.bool false) = bv (List.replicate n false):=by unfold bv; rw [map_replicate]
theorem bi3 (xs:List Int):(xs.map i64).all blb = true:=by
 rw [all_eq_true]
 intro x hx
 obtain ⟨b,_,rfl⟩:=List.mem_map.1 hx
 rfl
theorem bqu (g:Gr) (b:Bool):(AV.tup [g.av, bl b]).li = true:=by
 simp only [AV.li,AV.lis,Gr.av,bi3]
 rfl
def fdB (l:Li) (n:Nat):Blk:=.box (l.av.cells ++ [.ms 23 1 0 l.bodies.length,.ms 27 1 0 l.bodies.length,.ms 31 1 0 l.joints.length,.ms 900 4 0 n])
def fdH (l:Li) (known used:List Bool) (out:List Gr):Hp :=
  [(33,some (fdB l out.length)),(23,some (.vec (bv known))),(27,some (.vec (bv (aaw l)))),(31,some (.vec (bv used))),(900,some (.row 4 (out.map Gr.av)))]
theorem a9r {xs:List Bool} {n:Nat} (h:xs.length = n):AV.lst 1 ((((bv xs).drop 0).take n).map .v) = .lst 1 (xs.map bl):=by
 rw [drop_zero,take_of_length_le (by rw [afx]; omega),bda]
theorem apb (l:Li) (hl:l.ok) (hli:liE l = 0) (known used:List Bool) (hk:known.length = l.bodies.length) (hu:used.length = l.joints.length) (hm:l.bodies.length <= acr /\ l.joints.length <= acr) (out:List Gr) :
  Con prog 240 [.ptr 33 0] (fdH l known used out) (.tup [((nextG l known).getD default).av,bl (nextG l known).isSome]) (fdH l known used out):=by
 refine Con.lend (cs:=l.av.cells ++ [.ms 23 1 0 l.bodies.length, .ms 27 1 0 l.bodies.length, .ms 31 1 0 l.joints.length, .ms 900 4 0 out.length])
  (cs':=fun v=>fdC l known (aaw l) [.lst 1 (used.map bl),.v v]) [900] 7 rfl (by decide) ?_ (by simp [Li.av,AV.cells]) ?_ (bqu _ _) (fun v=>bej l hl hli known hk _)
 ·intro v hv
  refine ⟨rfl,?_,?_⟩
  ·intro j x hx
   match j,hx with
   | 0,hx=>cases hx; rfl
   | 1,hx=>cases hx; rfl
   | 2,hx=>cases hx; rfl
   | 3,hx=>cases hx; rfl
   | 4,hx=>cases hx; rfl
   | 5,hx=>cases hx; rfl
   | 6,hx=>cases hx; rfl
   | 7,hx=>cases hx; exact hv
   | j + 8,hx=>cases hx
  ·intro j x x' hx hx'
   match j,hx,hx' with
   | 0,hx,hx'=>cases hx; cases hx'; exact .inr (.same rfl)
   | 1,hx,hx'=>cases hx; cases hx'; exact .inr (.same rfl)
   | 2,hx,hx'=>cases hx; cases hx'; exact .inr (.same rfl)
   | 3,hx,hx'=>cases hx; cases hx'; exact .inr (.same rfl)
   | 4, hx, hx' =>
    cases hx; cases hx'
    have h:=Lent.ms (H:=fdH l known used out) (hid:=[900]) (k:=23) (off:=0) (len:=l.bodies.length) (vs:=bv known) rfl (by decide) (by rw [afx]; omega) (by rw [afx]; omega)
    rw [a9r hk] at h
    exact .inr h
   | 5, hx, hx' =>
    cases hx; cases hx'
    have h:=Lent.ms (H:=fdH l known used out) (hid:=[900]) (k:=27) (off:=0) (len:=l.bodies.length) (vs:=bv (aaw l)) rfl (by decide) (by rw [afx,aht]; omega) (by rw [afx,aht]; omega)
    rw [a9r (aht l)] at h
    exact .inr h
   | 6, hx, hx' =>
    cases hx; cases hx'
    have h:=Lent.ms (H:=fdH l known used out) (hid:=[900]) (k:=31) (off:=0) (len:=l.joints.length) (vs:=bv used) rfl (by decide) (by rw [afx]; omega) (by rw [afx]; omega)
    rw [a9r hu] at h
    exact .inr h
   | 7,hx,hx'=>cases hx; cases hx'; exact .inl ⟨rfl,rfl⟩
   | j + 8,hx,hx'=>cases hx
 ·intro k z hz
  simp only [fdH,aac] at hz
  split at hz
  ·cases hz; exact .inr (.inl ⟨_,rfl,rfl⟩)
  split at hz
  ·cases hz; exact .inr (.inr ⟨_,rfl,bjf _⟩)
  split at hz
  ·cases hz; exact .inr (.inr ⟨_,rfl,bjf _⟩)
  split at hz
  ·cases hz; exact .inr (.inr ⟨_,rfl,bjf _⟩)
  split at hz
  ·subst_vars; exact .inl (by decide)
  ·cases hz
def fdR (l:Li):AV:=if liE l = 0 then .iptr (fdC l (adj l) (aaw l) [.lst 1 ((agx l).map bl),.lst 4 ((findG l).map Gr.av)]) else .v (.pointer none)
def anb (l:Li) (out:List Gr):List Bool:=out.foldl (fun k g=>aas k g.joints) (List.replicate l.joints.length false)
theorem aur (l:Li) (out:List Gr):(anb l out).length = l.joints.length:=by unfold anb; rw [aj4,List.length_replicate]
theorem bdb (l:Li) (out:List Gr) (g:Gr):anb l (out ++ [g]) = aas (anb l out) g.joints:=by unfold anb; rw [List.foldl_append]; rfl
theorem apt {k:List Bool} {bs:List Int} {i:Nat} {b:Int} (h:bs[i]? = some b):aas k (bs.take (i + 1)) = (aas k (bs.take i)).set b.toNat true:=by
 unfold aas
 rw [aao h,List.foldl_append]; rfl
theorem bam {l:Li} (hli:liE l = 0) {known:List Bool} {out:List Gr} {g:Gr} (hk:known.length = l.bodies.length) (h:findFrom l (unk known) known out = (adj l, findG l)) (hg:nextG l known = some g) :
  findFrom l (unk (aas known g.bodies)) (aas known g.bodies) (out ++ [g]) = (adj l,findG l):=by
 have hlt:=ahq hli hk hg
 obtain ⟨n,hn⟩:∃ n,unk known = n + 1:=⟨unk known - 1,by omega⟩
 rw [hn] at h
 unfold findFrom at h
 rw [hg] at h
 rw [<- h]
 exact aio hli _ _ _ _ (by rw [afi]; exact hk) (le_refl _) (by omega)
theorem bev {l:Li} {known:List Bool} {out:List Gr} (h:findFrom l (unk known) known out = (adj l, findG l)) (hg:nextG l known = none):known = adj l /\ out = findG l:=by
 cases hn:unk known with
 | zero=>rw [hn] at h; exact ⟨(Prod.mk.inj h).1,(Prod.mk.inj h).2⟩
 | succ n=>rw [hn] at h; unfold findFrom at h; rw [hg] at h; exact ⟨(Prod.mk.inj h).1,(Prod.mk.inj h).2⟩
theorem bb9 {n:Nat}:unk (aeh n 0) <= n:=by
 unfold unk
 exact le_trans List.countP_le_length (Nat.le_of_eq (ad3 _ _))
theorem a4q {l:Li} (hli:liE l = 0):findFrom l (unk (aeh l.bodies.length 0)) (aeh l.bodies.length 0) [] = (adj l, findG l):=by
 rw [<- a4r]
 exact aio hli _ _ _ _ (ad3 _ _) (le_refl _) bb9
theorem bm0 {l:Li} (hli:liE l = 0) {known:List Bool} {out:List Gr} (hk:known.length = l.bodies.length) (h:findFrom l (unk known) known out = (adj l, findG l)):out.length <= 8:=by
 obtain ⟨gs,e⟩:=ahf (l:=l) (unk known) known out
 rw [e] at h
 have h1:=(ake hli).2
 have h2:out ++ gs = findG l:=(Prod.mk.inj h).2
 rw [<- h2,length_append] at h1; omega
theorem a66 (l:Li) (known used:List Bool) (out:List Gr) (hk:known.length = l.bodies.length) (hu:used.length = l.joints.length) (hm:l.bodies.length <= acr /\ l.joints.length <= acr) :
  Wk ⟨[(5,some (.ptr 33 0))],fdH l known used out⟩ ⟨[(5,some (.iptr (fdC l known (aaw l) [.lst 1 (used.map bl),.lst 4 (out.map Gr.av)])))],[]⟩:=by
 have hd:=aht l
 have q1:.ms 23 1 0 l.bodies.length = AV.ms 23 1 0 ((bv known).map AV.v).length:=by rw [length_map,afx,hk]
 refine (Wk.of (sl:=[(5, some (.ptr 33 0))]) (hp:=[(33, some (fdB l out.length)), (23, some (.row 1 ((bv known).map .v))), (27, some (.row 1 ((bv (aaw l)).map .v))), (31, some (.row 1 ((bv used).map .v))), (900, some (.row 4 (out.map Gr.av)))])
  (.k .nil) (.cons rfl (.refl _) (.cons rfl (.vecRow (by rw [afx]; omega)) (.cons rfl (.vecRow (by rw [afx]; omega)) (.cons rfl (.vecRow (by rw [afx]; omega)) (.cons rfl (.refl _) .nil)))))).trans ?_
 refine (Wk.freeze (k:=23) rfl).trans ?_
 refine (Wk.of (sl:=[(5, some (.ptr 33 0))]) (hp:=[(33, some (.box (l.av.cells ++ [.lst 1 (known.map bl), .ms 27 1 0 l.bodies.length, .ms 31 1 0 l.joints.length, .ms 900 4 0 out.length]))), (27, some (.row 1 ((bv (aaw l)).map .v))), (31, some (.row 1 ((bv used).map .v))), (900, some (.row 4 (out.map Gr.av)))])
  (.k .nil) (.cons rfl (BlkSub.boxL (.cons (.refl _) (.cons (.refl _) (.cons (.refl _) (.cons (.refl _) (.cons (.of ((ab8 (by rw [length_map,afx,hk])).trans (by rw [bda]))) (.cons (.refl _) (.cons (.refl _) (.cons (.refl _) .nil)))))))) rfl) (.cons rfl (.refl _) (.cons rfl (.refl _) (.cons rfl (.refl _) .nil))))).trans ?_
 refine (Wk.freeze (k:=27) rfl).trans ?_
 refine (Wk.of (sl:=[(5, some (.ptr 33 0))]) (hp:=[(33, some (.box (l.av.cells ++ [.lst 1 (known.map bl), .lst 1 ((aaw l).map bl), .ms 31 1 0 l.joints.length, .ms 900 4 0 out.length]))), (31, some (.row 1 ((bv used).map .v))), (900, some (.row 4 (out.map Gr.av)))])
  (.k .nil) (.cons rfl (BlkSub.boxL (.cons (.refl _) (.cons (.refl _) (.cons (.refl _) (.cons (.refl _) (.cons (.refl _) (.cons (.of ((ab8 (by rw [length_map,afx,hd])).trans (by rw [bda]))) (.cons (.refl _) (.cons (.refl _) .nil)))))))) rfl) (.cons rfl (.refl _) (.cons rfl (.refl _) .nil)))).trans ?_
 refine (Wk.freeze (k:=31) rfl).trans ?_
 refine (Wk.of (sl:=[(5, some (.ptr 33 0))]) (hp:=[(33, some (.box (l.av.cells ++ [.lst 1 (known.map bl), .lst 1 ((aaw l).map bl), .lst 1 (used.map bl), .ms 900 4 0 out.length]))), (900, some (.row 4 (out.map Gr.av)))])
  (.k .nil) (.cons rfl (BlkSub.boxL (.cons (.refl _) (.cons (.refl _) (.cons (.refl _) (.cons (.refl _) (.cons (.refl _) (.cons (.refl _) (.cons (.of ((ab8 (by rw [length_map,afx,hu])).trans (by rw [bda]))) (.cons (.refl _) .nil)))))))) rfl) (.cons rfl (.refl _) .nil))).trans ?_
 refine (Wk.freeze (k:=900) rfl).trans ?_
 refine (Wk.of (sl:=[(5, some (.ptr 33 0))]) (hp:=[(33, some (.box (fdC l known (aaw l) [.lst 1 (used.map bl), .lst 4 (out.map Gr.av)])))])
  (.k .nil) (.cons rfl (BlkSub.boxL (.cons (.refl _) (.cons (.refl _) (.cons (.refl _) (.cons (.refl _) (.cons (.refl _) (.cons (.refl _) (.cons (.refl _) (.cons (.of (ab8 (by rw [length_map]))) .nil)))))))) rfl) .nil)).trans ?_
 refine (Wk.freezeB (k:=33) rfl rfl).trans ?_
 exact Wk.of (.k .nil) .nil
theorem bdf (l:Li) (hl:l.ok):FnC prog 155 [l.av] (.tup [fdR l, ah7 (liE l)]):=by
 refine gF0 func155 ?_
 refine gc (aid l hl) ?_
 refine gC (fun ht17=>?_) (fun ht17=>?_)
 ·have h1:=ac5 ht17
  refine gE2 ?_
  unfold fdR; rw [if_neg h1]
 ·have hli:=ac7 ht17
  have h8:=(abz hli).2.2.2.1
  have h0:=(abz hli).2.2.2.2
  have hj16:l.joints.length <= 16:=by have:=(abz hli).2.1; unfold aq0 at this; split at this; cases this; omega
  have hld:=hl.ld
  have hm:l.bodies.length <= acr /\ l.joints.length <= acr:=by unfold acr; omega
  refine gl ?_
  refine gs (ax7 (.tmp rfl) T227 rfl T4 rfl rfl rfl rfl (by dsimp only; omega) rfl) ?_
  refine gl ?_
  refine gs (ax7 (.tmp rfl) T227 rfl T4 rfl rfl rfl rfl (by dsimp only; omega) rfl) ?_
  refine gl ?_
  refine gs (ax7 (.tmp rfl) T227 rfl T4 rfl rfl rfl rfl (by dsimp only; omega) rfl) ?_
  refine gD ?_
  refine gs (aap (n:=0) (.tmp rfl) (.const _) T227 rfl T4 rfl rfl (by omega) rfl) ?_
  refine gs (atj (.tmp rfl) rfl (by rw [List.length_replicate]; omega) (.const _) rfl T4 rfl) ?_ (6,0)
  refine gW (Wk.of (sl:=[(1,some (.ptr 1 0)),(5,some (.ptr 33 0))]) (hp:=[(1,some (.box l.av.cells)),(33,some (.box (l.av.cells ++ [.ms 23 1 0 l.bodies.length,.ms 27 1 0 l.bodies.length,.ms 31 1 0 l.joints.length,.v (.slice none 0 0)]))),(23,some (.vec (bv (aeh l.bodies.length 0)))),(27,some (.vec (bv (List.replicate l.bodies.length false)))),(31,some (.vec (bv (List.replicate l.joints.length false))))]) ab0 (.cons rfl (.refl _) (.cons rfl (.refl _) (.cons rfl (BlkSub.of (by rw [a7c,a1y]; rfl)) (.cons rfl (BlkSub.of (by rw [a7c])) (.cons rfl (BlkSub.of (by rw [a7c])) .nil)))))) ?_
  refine gl ?_
  refine gL1 [1,5,40,41] [1,23,31] (fun (i:Nat)=>[(42,some (i64 i))]) (fun i=>[(33,some (.box (l.av.cells ++ [.ms 23 1 0 l.bodies.length,.ms 27 1 0 l.bodies.length,.ms 31 1 0 l.joints.length,.v (.slice none 0 0)]))),(27,some (.vec (bv (aas (List.replicate l.bodies.length false) ((l.drivers.map Dr.body).take i)))))]) (fun i=>i <= l.drivers.length) (fun i=>l.drivers.length - i) 0 (zero_le _) ?_
  rintro i hi K1 hK1
  refine gC (fun ht43=>?_) (fun ht43=>?_) (st2:=(11,0))
  ·have hin:=abd ht43
   obtain ⟨d,hd⟩:=abt hin
   have hb:=ahg (az5 hli hd)
   have hmt:=apt (k:=List.replicate l.bodies.length false) (bs:=l.drivers.map Dr.body) (i:=i) (b:=d.body) (by rw [getElem?_map,hd]; rfl)
   refine gi (aae hd) ?_
   refine gs (aap (n:=d.body.toNat) (.tmp rfl) (.tmp rfl) T227 rfl T4 rfl (by omega) (by omega) rfl) ?_
   refine gs (atj (.tmp rfl) rfl (by rw [afx,afi,List.length_replicate]; omega) (.const _) rfl T4 rfl) ?_
   refine gD ?_
   refine ga aat ?_
   exact gK1 hK1 (i + 1) hin (hw:=Wk.of ab0 (.cons rfl (.refl _) (.cons rfl (BlkSub.of (by rw [a1y,hmt])) (.cons rfl (.refl _) (.cons rfl (.refl _) (.cons rfl (.refl _) .nil))))))
  ·have hin:=aaj hi ht43
   have hall:aas (List.replicate l.bodies.length false) ((l.drivers.map Dr.body).take i) = aaw l:=by rw [hin]; unfold aaw; rw [take_of_length_le (by rw [length_map]; omega)]
   refine gW ((Wk.virt 900 4 rfl).trans <| Wk.of (sl:=[(1,some (.ptr 1 0)),(5,some (.ptr 33 0))]) (hp:=[(33,some (fdB l 0)),(23,some (.vec (bv (aeh l.bodies.length 0)))),(27,some (.vec (bv (aaw l)))),(31,some (.vec (bv (List.replicate l.joints.length false)))),(900,some (.row 4 []))]) ab0 (.cons rfl (BlkSub.boxL (.cons (.refl _) (.cons (.refl _) (.cons (.refl _) (.cons (.refl _) (.cons (.refl _) (.cons (.refl _) (.cons (.refl _) (.cons (Sub.nilMs _ _ _) .nil)))))))) rfl) (.cons rfl (.refl _) (.cons rfl (BlkSub.of (by rw [hall])) (.cons rfl (.refl _) (.cons rfl (.refl _) .nil)))))) ?_
   refine gt (aad (apb l hl hli (aeh l.bodies.length 0) (List.replicate l.joints.length false) (ad3 _ _) List.length_replicate hm []) (.cons (.tmp rfl) .nil) (fun k z h=>h) rfl rfl) ?_
   refine gL2 [5,8] [] (fun (known:List Bool) (out:List Gr)=>[(9,some (bl (nextG l known).isSome))]) (fun known out=>[(8,some (.box ((nextG l known).getD default).av.cells)),(33,some (fdB l out.length)),(23,some (.vec (bv known))),(27,some (.vec (bv (aaw l)))),(31,some (.vec (bv (anb l out)))),(900,some (.row 4 (out.map Gr.av)))]) (fun known out=>known.length = l.bodies.length /\ findFrom l (unk known) known out = (adj l,findG l)) (fun known _=>unk known) (aeh l.bodies.length 0) ([]) ⟨ad3 _ _,a4q hli⟩ ?_
   rintro known out ⟨hk,hf⟩ K2 hK2
   refine gC (fun ht59=>?_) (fun ht59=>?_) (st1:=(77777,0)) (st2:=(27,0))
   ·obtain ⟨g, hg⟩:=a0h ht59
    have hgo:=au3 hli hg
    have hout:=bm0 hli hk hf
    refine gW (Wk.of (sl:=[(5,some (.ptr 33 0)),(8,some (.ptr 8 0))]) (hp:=[(8,some (.box g.av.cells)),(33,some (fdB l out.length)),(23,some (.vec (bv known))),(27,some (.vec (bv (aaw l)))),(31,some (.vec (bv (anb l out)))),(900,some (.row 4 (out.map Gr.av)))]) ab0 (.cons rfl (BlkSub.of (by rw [hg]; rfl)) (.cons rfl (.refl _) (.cons rfl (.refl _) (.cons rfl (.refl _) (.cons rfl (.refl _) (.cons rfl (.refl _) .nil))))))) ?_
    refine gl ?_
    refine gL1 [5,8,66,67] [8,33,27,31,900] (fun (j:Nat)=>[(68,some (i64 j))]) (fun j=>[(23,some (.vec (bv (aas known (g.bodies.take j)))))]) (fun j=>j <= g.bodies.length) (fun j=>g.bodies.length - j) 0 (zero_le _) ?_
    rintro j hj K3 hK3
    refine gC (fun ht69=>?_) (fun ht69=>?_)
    ·have hin:=abd ht69
     obtain ⟨b,hb⟩:=abt hin
     have hbb:=hgo.b b (mem_of_getElem? hb)
     have hlb:=hgo.lb
     refine gi (aae hb) ?_
     refine gs (aap (n:=b.toNat) (.tmp rfl) (.tmp rfl) T227 rfl T4 rfl (by omega) (by omega) rfl) ?_
     refine gs (atj (.tmp rfl) rfl (by rw [afx,afi]; omega) (.const _) rfl T4 rfl) ?_
     refine ga aat ?_
     exact gK1 hK3 (j + 1) hin (hw:=Wk.of ab0 (.cons rfl (BlkSub.of (by rw [a1y,apt hb])) (.cons rfl (.refl _) (.cons rfl (.refl _) (.cons rfl (.refl _) (.cons rfl (.refl _) (.cons rfl (.refl _) .nil)))))))
    ·have hin:=aaj hj ht69
     subst hin
     refine gl ?_
     refine gL1 [5,8,80,81] [8,33,27,900] (fun (q:Nat)=>[(82,some (i64 q))]) (fun q=>[(23,some (.vec (bv (aas known g.bodies)))),(31,some (.vec (bv (aas (anb l out) (g.joints.take q)))))]) (fun q=>q <= g.joints.length) (fun q=>g.joints.length - q) 0 (zero_le _) ?_ (h2:=(.cons rfl (BlkSub.of (by rw [take_length])) (.cons rfl (.refl _) .nil)))
     rintro q hq K4 hK4
     refine gC (fun ht83=>?_) (fun ht83=>?_)
     ·have hin:=abd ht83
      obtain ⟨b,hb⟩:=abt hin
      have hbb:=hgo.j b (mem_of_getElem? hb)
      have hlj:=hgo.lj
      refine gi (aae hb) ?_
      refine gs (aap (n:=b.toNat) (.tmp rfl) (.tmp rfl) T227 rfl T4 rfl (by omega) (by omega) rfl) ?_
      refine gs (atj (.tmp rfl) rfl (by rw [afx,afi,aur]; omega) (.const _) rfl T4 rfl) ?_
      refine ga aat ?_
      exact gK1 hK4 (q + 1) hin (hw:=Wk.of ab0 (.cons rfl (.refl _) (.cons rfl (BlkSub.of (by rw [a1y,apt hb])) (.cons rfl (.refl _) (.cons rfl (.refl _) (.cons rfl (.refl _) (.cons rfl (.refl _) .nil)))))))
     ·have hin:=aaj hq ht83
      subst hin
      refine gs (abu (.tmp rfl) rfl (by rw [length_map]) (.tmp rfl) T84 rfl T97 rfl rfl (by simp only [length_cons,length_nil]; omega) rfl rfl) ?_
      refine gD ?_ (25,0)
      refine gW (Wk.of (sl:=[(5,some (.ptr 33 0)),(8,some (.ptr 8 0))]) (hp:=[(8,some (.box g.av.cells)),(33,some (.box (l.av.cells ++ [.ms 23 1 0 l.bodies.length,.ms 27 1 0 l.bodies.length,.ms 31 1 0 l.joints.length,.ms 100 4 0 (out ++ [g]).length]))),(100,some (.row 4 ((out ++ [g]).map Gr.av))),(23,some (.vec (bv (aas known g.bodies)))),(27,some (.vec (bv (aaw l)))),(31,some (.vec (bv (anb l (out ++ [g])))))]) ab0 (.cons rfl (.refl _) (.cons rfl (BlkSub.of (by rw [length_append]; rfl)) (.cons rfl (BlkSub.of (by rw [map_append]; rfl)) (.cons rfl (.refl _) (.cons rfl (.refl _) (.cons rfl (BlkSub.of (by rw [bdb,take_length])) .nil))))))) ?_ (25,0)
      refine gW (Wk.rekey (k:=100) (d:=900) rfl rfl) ?_ (26,0)
      refine gW (Wk.o (sl:=[(5,some (.ptr 33 0)),(103,some (g.av))]) (hp:=[(33,some (fdB l (out ++ [g]).length)),(23,some (.vec (bv (aas known g.bodies)))),(27,some (.vec (bv (aaw l)))),(31,some (.vec (bv (anb l (out ++ [g]))))),(900,some (.row 4 ((out ++ [g]).map Gr.av)))])) ?_
      refine gt (aad (apb l hl hli (aas known g.bodies) (anb l (out ++ [g])) (by rw [afi]; exact hk) (aur _ _) hm (out ++ [g])) (.cons (.tmp rfl) .nil) (by intro k z h; simp only [fdH,aac] at h; split at h; (subst_vars; exact h); split at h; (subst_vars; exact h); split at h; (subst_vars; exact h); split at h; (subst_vars; exact h); split at h; (subst_vars; exact h); cases h) rfl rfl) ?_
      exact gK2 hK2 (aas known g.bodies) (out ++ [g]) ⟨by rw [afi]; exact hk,bam hli hk hf hg⟩ (ahq hli hk hg)
   ·have hg:=a0e ht59
    obtain ⟨e1,e2⟩:=bev hf hg
    subst e1 e2
    refine gW (Wk.o (sl:=[(5,some (.ptr 33 0))]) (hp:=[(33,some (fdB l (findG l).length)),(23,some (.vec (bv (adj l)))),(27,some (.vec (bv (aaw l)))),(31,some (.vec (bv (anb l (findG l))))),(900,some (.row 4 ((findG l).map Gr.av)))])) ?_ (27,0)
    refine gW (a66 l (adj l) (anb l (findG l)) (findG l) hk (aur _ _) hm) ?_
    refine gE2 ?_
    unfold fdR; rw [if_pos hli,hli]; rfl
end Go.Lw
namespace Go.Lw
open Go.Proofs
theorem bf2 {α:Type} [BEq α] [LawfulBEq α] {xs:List α} {b:α} {ok:Nat -> Bool} (h:∀ i x, xs[i]? = some x -> ok i = !(b == x)):decide (0 <= ixI (abi xs.length ok)) = xs.contains b:=by
 cases hf:abi xs.length ok with
 | some i =>
  obtain ⟨h1,h2⟩:=abp hf
  obtain ⟨x,hx⟩:=abt h1
  rw [h i x hx] at h2
  have:b = x:=by simpa using h2
  subst this
  rw [List.contains_iff_mem.2 (mem_of_getElem? hx)]
  exact decide_eq_true (by show (0:Int) <= (i:Int); omega)
 | none =>
  rw [decide_eq_false (by show ¬ (0:Int) <= -1; decide)]
  symm
  rw [<- Bool.not_eq_true,List.contains_iff_mem]
  intro hm
  obtain ⟨i,hi⟩:=List.mem_iff_getElem?.1 hm
  have hlt:=(List.getElem?_eq_some_iff.1 hi).1
  unfold abi at hf
  rw [List.find?_eq_none] at hf
  have:=hf i (List.mem_range.2 hlt)
  rw [h i b hi] at this
  simp at this
theorem avk (xs:List Bool) (b:Bool) (hl:xs.length <= 281474976710656):FnC prog 241 [.lst 1 (xs.map bl), bl b] (i64 (ixI (abi xs.length (fun i=>!(b == xs.getD i false))))):=by
 refine gF0 func241 ?_
 refine gl ?_
 refine gL1 [0,1,7] [] (fun (i:Nat)=>[(8,some (i64 i))]) (fun _=>[]) (fun i=>i <= xs.length /\ ∀ j,j < i -> (!(b == xs.getD j false)) = true) (fun i=>xs.length - i) 0 ⟨zero_le _,fun j h=>by omega⟩ ?_
 rintro i ⟨hi,hj⟩ K1 hK1
 refine gC (fun ht9=>?_) (fun ht9=>?_)
 ·have hin:=abd ht9
  obtain ⟨x,hx⟩:=abt hin
  have hg:xs.getD i false = x:=aaf hx
  refine gi (aae hx) ?_
  refine gC (fun ht16=>?_) (fun ht16=>?_)
  ·have h2:(b == x) = true:=ht16
   refine gE1 ?_
   rw [abx hin hj (by rw [hg,h2]; rfl)]; rfl
  ·have h2:(b == x) = false:=ht16
   refine ga aat ?_
   exact gK1 hK1 (i + 1) ⟨hin,fun j h9=>by rcases lt_or_ge j i with g | g; exact hj j g; (have:j = i:=by omega); subst this; rw [hg,h2]; rfl⟩
 ·have hin:=aaj hi ht9
  subst hin
  refine gE1 ?_
  rw [abj hj]; rfl
theorem aja (xs:List Bool) (b:Bool) (hl:xs.length <= 281474976710656):FnC prog 156 [.lst 1 (xs.map bl), bl b] (bl (xs.contains b)):=by
 refine gF0 func156 ?_
 refine gc (avk xs b hl) ?_
 refine gE1 ?_
 rw [<- bf2 (xs:=xs) (b:=b) (ok:=fun i=>!(b == xs.getD i false)) (fun i x hx=>by rw [aaf hx])]; rfl
theorem az6 (xs:List Int) (b:Int) (hl:xs.length <= 281474976710656):FnC prog 308 [.lst 1 (xs.map i64), i64 b] (i64 (ixI (abi xs.length (fun i=>!(b == xs.getD i 0))))):=by
 refine gF0 func308 ?_
 refine gl ?_
 refine gL1 [0,1,7] [] (fun (i:Nat)=>[(8,some (i64 i))]) (fun _=>[]) (fun i=>i <= xs.length /\ ∀ j,j < i -> (!(b == xs.getD j 0)) = true) (fun i=>xs.length - i) 0 ⟨zero_le _,fun j h=>by omega⟩ ?_
 rintro i ⟨hi,hj⟩ K1 hK1
 refine gC (fun ht9=>?_) (fun ht9=>?_)
 ·have hin:=abd ht9
  obtain ⟨x,hx⟩:=abt hin
  have hg:xs.getD i 0 = x:=aaf hx
  refine gi (aae hx) ?_
  refine gC (fun ht16=>?_) (fun ht16=>?_)
  ·have h2:(b == x) = true:=ht16
   refine gE1 ?_
   rw [abx hin hj (by rw [hg,h2]; rfl)]; rfl
  ·have h2:(b == x) = false:=ht16
   refine ga aat ?_
   exact gK1 hK1 (i + 1) ⟨hin,fun j h9=>by rcases lt_or_ge j i with g | g; exact hj j g; (have:j = i:=by omega); subst this; rw [hg,h2]; rfl⟩
 ·have hin:=aaj hi ht9
  subst hin
  refine gE1 ?_
  rw [abj hj]; rfl
theorem akn (xs:List Int) (b:Int) (hl:xs.length <= 281474976710656):FnC prog 252 [.lst 1 (xs.map i64), i64 b] (bl (xs.contains b)):=by
 refine gF0 func252 ?_
 refine gc (az6 xs b hl) ?_
 refine gE1 ?_
 rw [<- bf2 (xs:=xs) (b:=b) (ok:=fun i=>!(b == xs.getD i 0)) (fun i x hx=>by rw [aaf hx])]; rfl
theorem ari (l:Li) (hl:l.ok):FnC prog 80 [l.av] (.tup [.lst 4 (((if liE l = 0 then splitG l else [])).map Gr.av), ah7 (if liE l = 0 then splitE l else liE l)]):=by
 refine gF0 func80 ?_
 refine gc (bdf l hl) (hnm:=(by unfold fdR; split <;> rfl)) ?_
 refine gC (fun ht12=>?_) (fun ht12=>?_) (st2:=(77777,0))
 ·have h1:=ac5 ht12
  refine gR ?_
  exact ac3 (by rw [if_neg h1,if_neg h1]; exact Sub.tup (.cons (.nil _ _ _) (.cons (.refl _) .nil)))
 ·have hli:=ac7 ht12
  have h8:=(abz hli).2.2.2.1
  have hj16:l.joints.length <= 16:=by have:=(abz hli).2.1; unfold aq0 at this; split at this; cases this; omega
  have lk1:(adj l).length = l.bodies.length:=by unfold adj; rw [aj4,ad3]
  have lk2:(agx l).length = l.joints.length:=by unfold agx; rw [aj4,List.length_replicate]
  have e1:fdR l = .iptr (fdC l (adj l) (aaw l) [.lst 1 ((agx l).map bl),.lst 4 ((findG l).map Gr.av)]):=by unfold fdR; rw [if_pos hli]
  have c1:=a12 (k:=adj l)
  have c2:=a12 (k:=agx l)
  refine gW (Wk.of (sl:=[(4,some (.iptr (fdC l (adj l) (aaw l) [.lst 1 ((agx l).map bl),.lst 4 ((findG l).map Gr.av)]))),(5,some (ah7 (liE l)))]) (hp:=[]) (.cons rfl (Sub.of e1) (.k .nil)) .nil) ?_
  refine gc (aja (adj l) false (by omega)) ?_
  refine gcG (fun _=>(aja (agx l) false (by omega))) ?_
  refine gC (fun ht25=>?_) (fun ht25=>?_)
  ·have h2:splitE l = 7:=by
    unfold splitE
    rw [if_neg]
    intro h
    have h3:(adj l).contains false = false:=c1.1 (by omega)
    have h4:(agx l).contains false = false:=c2.1 (by omega)
    rw [h3,h4] at ht25; cases ht25
   refine gR ?_
   exact ac3 (by rw [if_pos hli,if_pos hli]; unfold splitG; rw [if_neg (by rw [h2]; simp),h2]; exact Sub.tup (.cons (.nil _ _ _) (.cons (.refl _) .nil)))
  ·have h2:splitE l = 0:=by
    unfold splitE
    rw [if_pos]
    cases h3:(adj l).contains false <;> cases h4:(agx l).contains false <;> rw [h3,h4] at ht25 <;> first | (cases ht25; done) | (have g1:=c1.2 h3; have g2:=c2.2 h4; omega)
   refine gE2 ?_
   rw [if_pos hli,if_pos hli,h2]; unfold splitG; rw [if_pos h2]; rfl
end Go.Lw
namespace Go.Lw
open Go.Proofs
def SO (ys:List Int) (i:Nat):Prop:=∀ p q,p < q -> q < i -> ys.getD p 0 <= ys.getD q 0
def SI (ys:List Int) (i j:Nat):Prop:=∀ p q,p < q -> q <= i -> q ≠ j -> ys.getD p 0 <= ys.getD q 0
theorem bl8 {xs ys:List Int} {i:Nat} (hp:ys.Perm xs) (hi:ys.length <= i) (h:SO ys i):ys = ao3 xs:=by
 refine bbu hp (List.pairwise_iff_getElem.2 fun p q hp hq hpq=>?_)
 have h1:=h p q hpq (by omega)
 rw [aaf (getElem?_eq_getElem hp),aaf (getElem?_eq_getElem hq)] at h1
 exact h1
theorem bqn {ys:List Int} {i:Nat} (h:SO ys i):SI ys i i:=fun p q h1 h2 h3=>h p q h1 (by omega)
theorem bq8 {ys:List Int} {i j:Nat} (h:SI ys i j) (hj:j = 0 \/ ys.getD (j - 1) 0 <= ys.getD j 0):SO ys (i + 1):=by
 intro p q h1 h2
 by_cases hq:q = j
 ·subst hq
  rcases hj with hj | hj
  ·omega
  ·by_cases hp:p = q - 1
   ·subst hp; exact hj
   ·exact Int.le_trans (h p (q - 1) (by omega) (by omega) (by omega)) hj
 ·exact h p q h1 (by omega) hq
theorem av4 (ys:List Int) (i:Nat) (x:Int) (p:Nat) (hi:i < ys.length):(ys.set i x).getD p 0 = if p = i then x else ys.getD p 0:=by
 rw [getD_eq_getElem?_getD,getD_eq_getElem?_getD,List.getElem?_set]
 by_cases h:i = p
 ·subst h; simp [hi]
 ·rw [if_neg h,if_neg (fun e=>h e.symm)]
theorem bhk {ys:List Int} {i j:Nat} (h:SI ys i j) (hj:0 < j) (hi:j <= i) (hl:i < ys.length) (hlt:ys.getD j 0 < ys.getD (j - 1) 0):SI ((ys.set j (ys.getD (j - 1) 0)).set (j - 1) (ys.getD j 0)) i (j - 1):=by
 intro p q h1 h2 h3
 have e:∀ r, ((ys.set j (ys.getD (j - 1) 0)).set (j - 1) (ys.getD j 0)).getD r 0 = if r = j - 1 then ys.getD j 0 else if r = j then ys.getD (j - 1) 0 else ys.getD r 0:=fun r=>by
  rw [av4 _ _ _ _ (by rw [length_set]; omega),av4 _ _ _ _ (by omega)]
 rw [e,e,if_neg h3]
 by_cases hq:q = j
 ·rw [if_pos hq]
  by_cases hp:p = j - 1
  ·rw [if_pos hp]; omega
  ·rw [if_neg hp,if_neg (by omega)]; exact h p (j - 1) (by omega) (by omega) (by omega)
 ·rw [if_neg hq]
  by_cases hp:p = j - 1
  ·rw [if_pos hp]
   exact h j q (by omega) h2 hq
  ·rw [if_neg hp]
   by_cases hp2:p = j
   ·rw [if_pos hp2]; exact h (j - 1) q (by omega) h2 hq
   ·rw [if_neg hp2]; exact h p q h1 h2 hq
theorem a78 {ys:List Int} {j:Nat} {a b:Int} (ha:ys[j]? = some a) (hb:ys[j - 1]? = some b):((ys.set j b).set (j - 1) a).Perm ys:=by
 obtain ⟨h1,rfl⟩:=List.getElem?_eq_some_iff.1 ha
 obtain ⟨h2,rfl⟩:=List.getElem?_eq_some_iff.1 hb
 exact List.set_set_perm h1 h2
theorem bqp {j:Nat} {a b:Int} (h:cond (aaa .gtr (j:Int) 0) (decide (a < b)) false = true):0 < j /\ a < b:=by
 cases h1:aaa .gtr (j:Int) 0 <;> rw [h1] at h
 ·cases h
 ·exact ⟨alq (b:=0) h1,of_decide_eq_true h⟩
theorem bp5 {j:Nat} {a b:Int} (h:cond (aaa .gtr (j:Int) 0) (decide (a < b)) false = false):j = 0 \/ b <= a:=by
 cases h1:aaa .gtr (j:Int) 0 <;> rw [h1] at h
 ·have:=anq (b:=0) h1; omega
 ·have h2:decide (a < b) = false:=h
  have:=of_decide_eq_false h2; omega
theorem bbm (ys:List Int) (j:Nat) (a b:Int):((ys.map i64).set j (i64 b)).set (j - 1) (i64 a) = ((ys.set j b).set (j - 1) a).map i64:=by rw [map_set,map_set]
theorem aqa (a:Int):FnC prog 376 [i64 a] (bl false):=by
 refine gF0 func376 ?_
 refine gE1 ?_
 simp [aaa]; rfl
theorem a4m (a b:Int):FnC prog 315 [i64 a, i64 b] (bl (decide (a < b))):=by
 refine gF0 func315 ?_
 refine gc (aqa a) ?_
 refine gcG (fun _=>(aqa b)) ?_
 refine gE1 ?_
 first | rfl | (simp; done)
theorem aqt (xs:List Int) (hl:xs.length <= 12):Con prog 309 [.ms 1000 1 0 xs.length, i64 0, i64 xs.length] [(1000, some (.row 1 (xs.map i64)))] (.tup []) [(1000, some (.row 1 ((ao3 xs).map i64)))]:=by
 refine gF func309 (fun k z h=>acf h) ?_
 refine ga (show _ = ((1:Nat):Int) from rfl) ?_
 refine gL2 [1,2] [] (fun (ys:List Int) (i:Nat)=>[(0,some (.ms 1000 1 0 xs.length)),(6,some (i64 i))]) (fun ys _=>[(1000,some (.row 1 (ys.map i64)))]) (fun ys i=>ys.length = xs.length /\ ys.Perm xs /\ 1 <= i /\ SO ys i) (fun _ i=>xs.length + 1 - i) xs 1 ⟨rfl,.refl _,le_refl _,fun p q h1 h2=>by omega⟩ ?_
 rintro ys i ⟨hyl,hyp,hi1,hso⟩ K1 hK1
 refine gC (fun ht12=>?_) (fun ht12=>?_)
 ·have hin:=abd ht12
  refine gL2 [1,2,6] [] (fun (zs:List Int) (j:Nat)=>[(0,some (.ms 1000 1 0 xs.length)),(7,some (i64 j))]) (fun zs _=>[(1000,some (.row 1 (zs.map i64)))]) (fun zs j=>zs.length = xs.length /\ zs.Perm xs /\ j <= i /\ SI zs i j) (fun _ j=>j) ys i ⟨hyl,hyp,le_refl _,bqn hso⟩ ?_
  rintro zs j ⟨hzl,hzp,hji,hsi⟩ K2 hK2
  obtain ⟨a,ha⟩:=abt (show j < zs.length by omega)
  obtain ⟨b,hb⟩:=abt (show j - 1 < zs.length by omega)
  refine gs (acd rfl rfl rfl (fun h=>aap (n:=j) (.opt rfl (o1 h)) (.opt rfl (o1 h)) T32 rfl T3 rfl (by omega) (by omega) rfl)) ?_
  refine gs (acd rfl rfl rfl (fun h=>aau (.opt rfl (o1 h)) rfl (aae ha) T3 rfl rfl rfl)) ?_
  refine gaG (fun h=>(ady (alq (b:=0) h) (by unfold acr; omega))) ?_
  refine gs (acd rfl rfl rfl (fun h=>aap (n:=(j - 1)) (.opt rfl (o1 h)) (.opt rfl (o1 h)) T32 rfl T3 rfl (by omega) (by omega) rfl)) ?_
  refine gs (acd rfl rfl rfl (fun h=>aau (.opt rfl (o1 h)) rfl (aae hb) T3 rfl rfl rfl)) ?_
  refine gcG (fun _=>(a4m a b)) ?_
  refine gD ?_
  refine gC (fun ht30=>?_) (fun ht30=>?_)
  ·obtain ⟨hj0, hab⟩:=bqp ht30
   refine ga (ady hj0 (by unfold acr; omega)) ?_
   refine ga (ady hj0 (by unfold acr; omega)) ?_
   refine gs (aap (n:=(j - 1)) (.tmp rfl) (.tmp rfl) T32 rfl T3 rfl (by omega) (by omega) rfl) ?_
   refine gs (aau (.tmp rfl) rfl (aae hb) T3 rfl rfl rfl) ?_
   refine gs (aap (n:=j) (.tmp rfl) (.tmp rfl) T32 rfl T3 rfl (by omega) (by omega) rfl) ?_
   refine gs (aau (.tmp rfl) rfl (aae ha) T3 rfl rfl rfl) ?_
   refine gs (aap (n:=j) (.tmp rfl) (.tmp rfl) T32 rfl T3 rfl (by omega) (by omega) rfl) ?_
   refine gs (abh (.tmp rfl) rfl (aae ha) rfl (.tmp rfl) rfl rfl T3 rfl rfl) ?_
   refine gs (aap (n:=(j - 1)) (.tmp rfl) (.tmp rfl) T32 rfl T3 rfl (by omega) (by omega) rfl) ?_
   refine gs (abh (.tmp rfl) rfl ((List.getElem?_set_ne (by omega)).trans (aae hb)) rfl (.tmp rfl) rfl rfl T3 rfl rfl) ?_
   refine gD ?_
   refine ga (ady hj0 (by unfold acr; omega)) ?_
   exact gK2 hK2 ((zs.set j b).set (j - 1) a) (j - 1) ⟨by rw [length_set,length_set]; exact hzl,(a78 ha hb).trans hzp,by omega,by have h9:=bhk hsi hj0 hji (by omega) (by rw [aaf ha,aaf hb]; exact hab); rw [aaf ha,aaf hb] at h9; exact h9⟩ (hw:=Wk.of ab0 (.cons rfl (BlkSub.of (congrArg (Blk.row 1) (bbm zs j a b))) .nil))
  ·have hs:=bp5 ht30
   refine ga aat ?_
   exact gK2 hK1 zs (i + 1) ⟨hzl,hzp,by omega,bq8 hsi (by rw [aaf ha,aaf hb]; exact hs)⟩
 ·have hin:=a6e ht12
  refine gR ?_
  exact Fin.own2 rfl (by rw [<- bl8 hyp (by omega) hso]) rfl
theorem bae (xs:List Int) (hl:xs.length <= 12) (m:Int):Con prog 253 [.ms 1000 1 0 xs.length, i64 0, i64 xs.length, i64 m] [(1000, some (.row 1 (xs.map i64)))] (.tup []) [(1000, some (.row 1 ((ao3 xs).map i64)))]:=by
 refine gF func253 (fun k z h=>acf h) ?_
 refine gL0 [1,2,3,8,9] [1000] [(0,some (.ms 1000 1 0 xs.length))] [] (True) (0) trivial ?_
 rintro - K1 hK1
 refine ga (abc (by omega)) ?_
 refine gC (fun ht23=>?_) (fun ht23=>?_) (st2:=(77777,0))
 ·refine gt (aad (aqt xs hl) (.cons (.tmp rfl) (.cons (.tmp rfl) (.cons (.tmp rfl) .nil))) (by first | exact hH0 | exact hH1 rfl | exact hH2 rfl rfl) rfl rfl) ?_
  refine gR ?_
  exact Fin.own2 rfl rfl rfl
 ·(rw [show aaa .leq ((xs.length:Int) - 0) 12 = true from decide_eq_true (by omega)] at ht23; cases ht23)
theorem bdm (x:Nat) (hx:x < 256):FnC prog 319 [u64 x] (i64 (acy x)):=by
 refine gF0 func319 ?_
 refine gC (fun ht4=>?_) (fun ht4=>?_) (st1:=(2,0))
 ·(have:=ht4; simp [aaa] at this; omega)
 ·refine gC (fun ht8=>?_) (fun ht8=>?_) (st1:=(5, 0))
  ·(have:=ht8; simp [aaa] at this; omega)
  ·refine gC (fun ht14=>?_) (fun ht14=>?_) (st1:=(8, 0))
   ·(have:=ht14; simp [aaa] at this; omega)
   ·refine gv (anm hx) ?_
    refine gs (alp (y:=x) (.const _) (.tmp rfl) T9 rfl (by kernel_rfl) (by first | rfl | omega) (by omega) rfl) ?_
    refine gv (i64_in (by have:=ade hx; omega)) ?_
    refine ga (aa1 (by have:=ade hx; omega)) ?_
    refine gE1 ?_
    simp only [i64]; congr 2; omega
theorem a3f (x:Nat) (hx:x < 256):FnC prog 254 [u64 x] (i64 (acy x)):=by
 refine gF0 func254 ?_
 refine gC (fun hcfalse=>?_) (fun hcfalse=>?_) (st1:=(1,0))
 ·cases hcfalse
 ·refine gc (bdm x hx) ?_
  refine gE1 ?_
  first | rfl | (simp; done)
theorem auj (xs:List Int) (hl:xs.length <= 12):Con prog 160 [.ms 1000 1 0 xs.length] [(1000, some (.row 1 (xs.map i64)))] (.tup []) [(1000, some (.row 1 ((ao3 xs).map i64)))]:=by
 refine gF func160 (fun k z h=>acf h) ?_
 refine gv (show IntKind.u64.wrap _ = ((xs.length:Nat):Int) from u64_in (by omega)) ?_
 refine gc (a3f xs.length (by omega)) ?_
 refine gt (aad (bae xs hl _) (.cons (.tmp rfl) (.cons (.const _) (.cons (.tmp rfl) (.cons (.tmp rfl) .nil)))) (by first | exact hH0 | exact hH1 rfl | exact hH2 rfl rfl) rfl rfl) ?_
 refine gR ?_
 exact Fin.own2 rfl rfl rfl
end Go.Lw
namespace Go.Lw
open Go.Proofs
theorem blu {l:Li} {g:Gr} {i:Nat} {z:Int} {j:Jt} (hz:g.joints[i]? = some z) (hj:l.joints[z.toNat]? = some j):(at3 l g)[i]? = some (anc g j):=by
 unfold at3; rw [getElem?_map,hz,Option.map_some,aaf hj]
theorem aty {l:Li} {g:Gr} {i:Nat} {z:Int} {j:Jt} {a:Int} (hz:g.joints[i]? = some z) (hj:l.joints[z.toNat]? = some j) (ha:anc g j = a):((at3 l g).take i).map i64 ++ [i64 a] = ((at3 l g).take (i + 1)).map i64:=by
 rw [aao (blu hz hj),ha,map_append]; rfl
theorem bnd {z:Int} {n:Nat} (h0:0 <= z) (h1:z < n):cond (aaa .lss z 0) true (aaa .geq z (n:Int)) = false:=by
 rw [show aaa .lss z 0 = false from decide_eq_false (by omega)]
 exact decide_eq_false (by omega)
theorem apm (l:Li) (hl:l.ok) (hli:liE l = 0) (g:Gr) (hg:GrOk l g):Con prog 159 [l.av, g.av] [] (.tup [.ms 900 1 0 g.joints.length, .v .nilIface]) [(900, some (.row 1 ((at3 l g).map i64)))]:=by
 have hlb:=hg.lb
 have hlj:=hg.lj
 refine gF func159 (fun k z h=>by cases h) ?_
 refine gc (aid l hl) ?_
 refine gC (fun ht16=>?_) (fun ht16=>?_) (st1:=(3,0))
 ·(rw [hli] at ht16; cases ht16)
 ·refine gl ?_
  refine gW ((Wk.virt 900 1 rfl).trans <| Wk.of (sl:=[(2,some (.ptr 2 0)),(3,some (.ptr 3 0)),(7,some (.ms 900 1 0 0)),(19,some (.lst 1 (g.joints.map i64))),(20,some (i64 g.joints.length)),(21,some (i64 0))]) (hp:=[(2,some (.box l.av.cells)),(3,some (.box g.av.cells)),(900,some (.row 1 []))]) (.k (.k (.cons rfl (Sub.nilMs _ _ _) (.k (.k (.k .nil)))))) (.cons rfl (.refl _) (.cons rfl (.refl _) (.cons rfl (.refl _) .nil)))) ?_
  refine gL1 [2,3,19,20] [2,3] (fun (i:Nat)=>[(7,some (.ms 900 1 0 i)),(21,some (i64 i))]) (fun i=>[(900,some (.row 1 (((at3 l g).take i).map i64)))]) (fun i=>i <= g.joints.length) (fun i=>g.joints.length - i) 0 (zero_le _) ?_
  rintro i hi K1 hK1
  refine gC (fun ht22=>?_) (fun ht22=>?_) (st2:=(18,0))
  ·have hin:=abd ht22
   obtain ⟨z,hz⟩:=abt hin
   obtain ⟨z0,z1⟩:=hg.j z (mem_of_getElem? hz)
   obtain ⟨j,hj⟩:∃ j,l.joints[z.toNat]? = some j:=abt (by omega)
   have hlt:(((at3 l g).take i).map i64).length = i:=by rw [length_map,length_take,anr]; omega
   refine gi (aae hz) ?_
   refine glG ?_
   refine gC (fun ht33=>?_) (fun ht33=>?_) (st1:=(9,0))
   ·(rw [bnd z0 z1] at ht33; cases ht33)
   ·refine gi (adl (n := z.toNat) (by omega) hj) ?_
    refine gc (akn g.bodies j.a (by omega)) ?_
    refine gc (akn g.bodies j.b (by omega)) ?_
    refine gD ?_
    refine gC (fun ht55=>?_) (fun ht55=>?_)
    ·have ha : anc g j = -1 := by unfold anc; cases h1 : g.bodies.contains j.a <;> cases h2 : g.bodies.contains j.b <;> rw [h1, h2] at ht55 <;> first | (cases ht55; done) | rfl
     refine gs (abu (.tmp rfl) rfl hlt.symm (.tmp rfl) T32 rfl T3 rfl rfl (by simp only [length_cons,length_nil]; omega) rfl rfl) ?_ (17,0)
     refine gW (Wk.of (sl:=[(2,some (.ptr 2 0)),(3,some (.ptr 3 0)),(7,some (.ms 62 1 0 (i + 1))),(19,some (.lst 1 (g.joints.map i64))),(20,some (i64 g.joints.length)),(21,some (i64 i))]) (hp:=[(2,some (.box l.av.cells)),(3,some (.box g.av.cells)),(62,some (.row 1 (((at3 l g).take (i + 1)).map i64)))]) ab0 (.cons rfl (.refl _) (.cons rfl (.refl _) (.cons rfl (BlkSub.of (congrArg (Blk.row 1) (aty hz hj ha))) .nil)))) ?_ (17,0)
     refine gW (Wk.rekey (k:=62) (d:=900) rfl rfl) ?_
     refine ga aat ?_
     exact gK1 hK1 (i + 1) hin
    ·refine gC (fun ht63=>?_) (fun ht63=>?_)
     ·have ha : anc g j = j.b := by unfold anc; cases h1 : g.bodies.contains j.a <;> cases h2 : g.bodies.contains j.b <;> rw [h1] at ht63 <;> rw [h1, h2] at ht55 <;> first | (cases ht55; done) | (cases ht63; done) | rfl
      refine gs (abu (.tmp rfl) rfl hlt.symm (.tmp rfl) T32 rfl T3 rfl rfl (by simp only [length_cons,length_nil]; omega) rfl rfl) ?_ (17,0)
      refine gW (Wk.of (sl:=[(2,some (.ptr 2 0)),(3,some (.ptr 3 0)),(7,some (.ms 69 1 0 (i + 1))),(19,some (.lst 1 (g.joints.map i64))),(20,some (i64 g.joints.length)),(21,some (i64 i))]) (hp:=[(2,some (.box l.av.cells)),(3,some (.box g.av.cells)),(69,some (.row 1 (((at3 l g).take (i + 1)).map i64)))]) ab0 (.cons rfl (.refl _) (.cons rfl (.refl _) (.cons rfl (BlkSub.of (congrArg (Blk.row 1) (aty hz hj ha))) .nil)))) ?_ (17,0)
      refine gW (Wk.rekey (k:=69) (d:=900) rfl rfl) ?_
      refine ga aat ?_
      exact gK1 hK1 (i + 1) hin
     ·have ha : anc g j = j.a := by unfold anc; rw [if_neg (by rw [show g.bodies.contains j.a = false from ht63]; simp)]
      refine gs (abu (.tmp rfl) rfl hlt.symm (.tmp rfl) T32 rfl T3 rfl rfl (by simp only [length_cons,length_nil]; omega) rfl rfl) ?_ (17,0)
      refine gW (Wk.of (sl:=[(2,some (.ptr 2 0)),(3,some (.ptr 3 0)),(7,some (.ms 54 1 0 (i + 1))),(19,some (.lst 1 (g.joints.map i64))),(20,some (i64 g.joints.length)),(21,some (i64 i))]) (hp:=[(2,some (.box l.av.cells)),(3,some (.box g.av.cells)),(54,some (.row 1 (((at3 l g).take (i + 1)).map i64)))]) ab0 (.cons rfl (.refl _) (.cons rfl (.refl _) (.cons rfl (BlkSub.of (congrArg (Blk.row 1) (aty hz hj ha))) .nil)))) ?_ (17,0)
      refine gW (Wk.rekey (k:=54) (d:=900) rfl rfl) ?_
      refine ga aat ?_
      exact gK1 hK1 (i + 1) hin
  ·have hin:=aaj hi ht22
   subst hin
   refine gW (Wk.of (sl:=[(7,some (.ms 900 1 0 g.joints.length))]) (hp:=[(900,some (.row 1 ((at3 l g).map i64)))]) ab0 (.cons rfl (BlkSub.of (by rw [take_of_length_le (by rw [anr]; exact le_refl _)])) .nil)) ?_
   refine gR ?_
   exact Fin.keep (aeu rfl)
end Go.Lw
namespace Go.Lw
open Go.Proofs
abbrev svC (l:Li) (g:Gr) (a:As):List AV:=[.v (.string l.name), .lst 2 (l.bodies.map Bd.av), .lst 7 (l.joints.map Jt.av), .lst 2 (l.drivers.map Dr.av), i64 g.kind, .lst 1 (g.bodies.map i64), .lst 1 (g.joints.map i64), i64 g.driver,
  .lst 1 (a.rs.map nR),.lst 4 (a.bs.map Pl.av),.lst 1 (a.ms.map i64),.v .nilIface]
abbrev svB (l:Li) (g:Gr) (a:As):Blk:=.box (svC l g a)
def dyR (e:Nat):AV:=if e = 0 then .ptr 900 0 else .v (.pointer none)
def dyH (e:Nat) (l:Li) (g:Gr) (a:As):Hp:=if e = 0 then [(900,some (svB l g a))] else []
theorem a47 {e:Nat} (h:e ≠ 0):dyR e = .v (.pointer none):=if_neg h
theorem a3o {e:Nat} {l:Li} {g:Gr} {a:As} (h:e ≠ 0):dyH e l g a = []:=if_neg h
theorem bgp (l:Li) (g:Gr):ndL l g true = at3 l g ++ g.bodies:=rfl
theorem a5n (l:Li) (g:Gr):ndL l g false = at3 l g:=by unfold ndL; simp
theorem bkm {rs:List (List Rt)} {b:Pl} {i:Nat} {x:List Rt} (h:aeb rs = 0) (hx:b.l[i]? = some x) (hb:∀ y ∈ b.l.take i,agk rs.length y = 0) (hn:agk rs.length x ≠ 0):aaz rs b.l = agk rs.length x:=apl h hx hb hn
theorem bn1 {l:Li} {g:Gr} {a:As} {own:Bool} {j:Nat} {b:Int} (hb:(ao3 (ndL l g own))[j]? = some b) (hj:∀ c ∈ (ao3 (ndL l g own)).take j, ndE a c = 0) (hn:ndE a b ≠ 0):aed ((ao3 (ndL l g own)).map (ndE a)) = ndE a b:=by
 have h1:ao3 (ndL l g own) = (ao3 (ndL l g own)).take j ++ b :: (ao3 (ndL l g own)).drop (j + 1):=by
  obtain ⟨hi,e⟩:=List.getElem?_eq_some_iff.1 hb
  rw [<- e,<- List.drop_eq_getElem_cons hi,List.take_append_drop]
 generalize ao3 (ndL l g own) = xs at *
 rw [h1,map_append,ahv _ _ (ak2 hj),map_cons,arm,if_pos hn]
theorem a6g (l:Li) (hl:l.ok) (k:Int) (a:As) (al:AL a) (own:Bool) :
  Con prog 82 [l.av,i64 k,a.av,bl own] [] (.tup [dyR (dyE l k a own),ah7 (dyE l k a own)]) (dyH (dyE l k a own) l (gAt l k) a):=by
 have hbl:=al.bl
 refine gF func82 (fun k z h=>by cases h) ?_
 refine gc (ari l hl) ?_
 refine gC (fun ht27=>?_) (fun ht27=>?_)
 ·have h1:=ac5 ht27
  refine gR ?_
  rw [bsr rfl h1,a47 h1,a3o h1]
  exact aji rfl
 ·have h1:=ac7 ht27
  obtain ⟨hli,hsp⟩:=brn h1
  rw [show (if liE l = 0 then splitG l else []) = splitG l from if_pos hli]
  have hbs:=(abz hli).2.2.2.1
  have hgl:=(ake hli).2
  have hsg:splitG l = findG l:=by unfold splitG; rw [if_pos hsp]
  refine glG ?_
  refine gC (fun ht36=>?_) (fun ht36=>?_)
  ·have h2:=bqe ht36
   have he:dyE l k a own = 9:=(bk1 hli).trans (bss hsp h2)
   refine gR ?_
   rw [he,a47 (by decide),a3o (by decide)]
   exact aji rfl
  ·have h2:=brx ht36
   refine gl ?_
   refine gl ?_
   refine gC (fun ht44=>?_) (fun ht44=>?_)
   ·have h3:=bmz ht44
    have he:dyE l k a own = 10:=(bk1 hli).trans (bsm hsp h2 h3)
    refine gR ?_
    rw [he,a47 (by decide),a3o (by decide)]
    exact aji rfl
   ·have h3:=bmg ht44
    refine gc (agb a.rs 40000 al.tr) ?_
    refine gC (fun ht50=>?_) (fun ht50=>?_)
    ·have h4:=ac5 ht50
     refine gR ?_
     rw [(bk1 hli).trans (bsh hsp h2 h3 h4),a47 h4,a3o h4]
     exact aji rfl
    ·have h4:=ac7 ht50
     obtain ⟨i,rfl,hi⟩:=bnx h2
     obtain ⟨g,hg⟩:=abt hi
     obtain ⟨hgd,hgo⟩:=amv hli (mem_of_getElem? hg)
     have hgA:gAt l (i:Nat) = g:=aaf hg
     rw [hgA]
     have he5:dyE l (i:Nat) a own = aed ((ao3 (ndL l g own)).map (ndE a)):=by rw [<- hgA]; exact (bk1 hli).trans (bsk hsp h2 h3 h4)
     have hnl:(ndL l g own).length <= 5:=bmw hgo
     have hgb:=hgo.lb
     have hgj:=hgo.lj
     refine gi (aae hg) ?_
     refine gt (aad (apm l hl hli g hgo) (.cons (.tmp rfl) (.cons (.tmp rfl) .nil)) (by first | exact hH0 | exact hH1 rfl | exact hH2 rfl rfl) rfl rfl) ?_
     refine gD ?_
     refine gC (fun ht62=>?_) (fun ht62=>?_) (st1:=(13,0))
     ·cases ht62
     ·refine gJ0 [1, 4, 6, 10] [4, 6] [(13, some (.ms 900 1 0 (ndL l g own).length))] [(900, some (.row 1 ((ndL l g own).map i64)))] (True) ?_ ?_
      ·intro K1 hK1
       refine gC (fun ht64=>?_) (fun ht64=>?_)
       ·have ho:own = true:=ht64
        subst ho
        refine gi (aae hg) ?_
        refine gs (abu (.tmp rfl) rfl (by rw [length_map,anr]) (.tmp rfl) T32 rfl T3 rfl rfl (by simp only [length_map]; omega) rfl rfl) ?_
        exact jK0 hK1 trivial (hw:=(Wk.of (sl:=[(1,some (i64 i)),(4,some (.ptr 4 0)),(6,some (.ptr 6 0)),(10,some (.lst 4 ((splitG l).map Gr.av))),(13,some (.ms 71 1 0 (ndL l g true).length))]) (hp:=[(4,some (.box l.av.cells)),(6,some (.box a.av.cells)),(71,some (.row 1 ((ndL l g true).map i64)))]) (.k (.k (.k (.k (.cons rfl (Sub.of (by rw [bgp,length_append,anr,length_map])) .nil))))) (.cons rfl (.refl _) (.cons rfl (.refl _) (.cons rfl (BlkSub.of (by rw [bgp,map_append])) .nil)))).trans <| (Wk.rekey (k:=71) (d:=900) rfl rfl).trans <| Wk.o)
       ·have ho:own = false:=ht64
        subst ho
        exact jK0 hK1 trivial (hw:=Wk.of (.cons rfl (Sub.of (by rw [a5n,anr])) (.k (.k (.k (.k .nil))))) (.cons rfl (BlkSub.of (by rw [a5n])) (.cons rfl (.refl _) (.cons rfl (.refl _) .nil))))
      ·rintro -
       refine gt (aad (Con.rekey 900 rfl rfl (auj (ndL l g own) (by omega))) (.cons (.tmp rfl) .nil) (by first | exact hH0 | exact hH1 rfl | exact hH2 rfl rfl) rfl rfl) ?_ (17,0)
       refine gW ((Wk.freeze (k:=900) rfl).trans <| Wk.of (sl:=[(1,some (i64 i)),(4,some (.ptr 4 0)),(6,some (.ptr 6 0)),(10,some (.lst 4 ((splitG l).map Gr.av))),(13,some (.lst 1 ((ao3 (ndL l g own)).map i64)))]) (hp:=[(4,some (.box l.av.cells)),(6,some (.box a.av.cells))]) (.k (.k (.k (.k (.cons rfl (Sub.of (ab8 (by rw [length_map,bar]))) .nil))))) (.cons rfl (.refl _) (.cons rfl (.refl _) .nil))) ?_
       refine gl ?_
       refine gL1 [1,4,6,10,74,75] [4,6] (fun (j:Nat)=>[(76,some (i64 j))]) (fun _=>[]) (fun j=>j <= (ao3 (ndL l g own)).length /\ ∀ b ∈ (ao3 (ndL l g own)).take j,ndE a b = 0) (fun j=>(ao3 (ndL l g own)).length - j) 0 ⟨zero_le _,fun b hb=>by simp at hb⟩ ?_
       rintro j ⟨hj,hjz⟩ K2 hK2
       refine gC (fun ht77=>?_) (fun ht77=>?_)
       ·have hjn:=abd ht77
        obtain ⟨b,hb⟩:=abt hjn
        have hbm:=az4.1 (mem_of_getElem? hb)
        have hbr:=ba2 hli hgo b hbm
        have hsl:(ao3 (ndL l g own)).length <= 5:=by rw [bar]; exact hnl
        refine gi (aae hb) ?_
        refine gC (fun ht81=>?_) (fun ht81=>?_)
        ·have hz : ndE a b = 0 := by unfold ndE; rw [if_pos (by simpa [aaa] using ht81)]
         refine ga aat ?_
         exact gK1 hK2 (j + 1) ⟨hjn,fun c hc=>by rw [aao hb] at hc; rcases List.mem_append.1 hc with h9 | h9; exact hjz c h9; (rw [List.mem_singleton.1 h9]; exact hz)⟩
        ·have hb0 : 0 <= b := by have := of_decide_eq_false (p := b < 0) ht81; omega
         obtain ⟨p,hp⟩:=abt (l:=a.bs) (i:=b.toNat) (by omega)
         have hpn:=al.nr p (mem_of_getElem? hp)
         have hnd:ndE a b = aaz a.rs p.l:=by unfold ndE; rw [if_neg (by omega),aaf hp]
         refine gi (adl (n:=b.toNat) (by omega) hp) ?_
         refine ge rfl ?_
         refine gL1 [1,4,6,10,74,75,76,95,96] [4,6] (fun (q:Nat)=>[(97,some (i64 q))]) (fun _=>[]) (fun q=>q <= 4 /\ ∀ x ∈ p.l.take q,agk a.rs.length x = 0) (fun q=>4 - q) 0 ⟨zero_le _,fun x hx=>by simp at hx⟩ ?_
         rintro q ⟨hq,hqz⟩ K3 hK3
         refine gC (fun ht98=>?_) (fun ht98=>?_)
         ·have hqn:q < 4:=abd (b:=4) ht98
          obtain ⟨x,hx⟩:∃ x,p.l[q]? = some x:=abt (show q < p.l.length from hqn)
          have hxn:=hpn x (mem_of_getElem? hx)
          have hone:aaz a.rs [x] = agk a.rs.length x:=as8 h4
          refine gi (aae hx) ?_
          refine gc (apx a.rs 40000 al.tr x 4000 hxn (bqv _)) ?_
          refine gC (fun ht109=>?_) (fun ht109=>?_)
          ·have h5:=ac5 ht109
           rw [hone] at h5 ⊢
           have h6:ndE a b = agk a.rs.length x:=hnd.trans (bkm h4 hx hqz h5)
           have h7:dyE l (i:Nat) a own = agk a.rs.length x:=by rw [he5,bn1 hb hjz (by rw [h6]; exact h5),h6]
           refine gR ?_
           rw [h7,a47 h5,a3o h5]
           exact aji rfl
          ·have h5:=ac7 ht109
           rw [hone] at h5
           refine ga aat ?_
           exact gK1 hK3 (q + 1) ⟨hqn,fun z hz=>by rw [aao hx] at hz; rcases List.mem_append.1 hz with h9 | h9; exact hqz z h9; (rw [List.mem_singleton.1 h9]; exact h5)⟩
         ·have hqn:q = 4:=aaj (b:=4) hq ht98
          subst hqn
          have hqz:∀ x ∈ p.l,agk a.rs.length x = 0:=hqz
          refine ga aat ?_
          exact gK1 hK2 (j + 1) ⟨hjn,fun c hc=>by rw [aao hb] at hc; rcases List.mem_append.1 hc with h9 | h9; exact hjz c h9; (rw [List.mem_singleton.1 h9,hnd]; exact ai6 h4 hqz)⟩
       ·have hjn:=aaj hj ht77
        have h8:dyE l (i:Nat) a own = 0:=by
         rw [he5]
         exact ak2 (fun b hb=>hjz b (by rw [hjn,take_length]; exact hb))
        refine gi (aae hg) ?_
        refine gD ?_ (77777,0)
        refine gW (Wk.o (sl:=[(8,some (.ptr 120 0)),(9,some (.v .nilIface))]) (hp:=[(120,some (svB l g a))])) ?_ (77777,0)
        refine gW (Wk.rekey (k:=120) (d:=900) rfl rfl) ?_
        refine gR ?_
        rw [h8]
        exact Fin.keep (aeu rfl)
end Go.Lw
namespace Go.Lw
open Go.Proofs
theorem azl {ts:List (List Rat)} {r e:Nat} (tw:Tw ts r) {a b c d:List Rat} (ha:Nm ts.length e a) (hb:Nm ts.length e b) (hc:Nm ts.length e c) (hd:Nm ts.length e d) (he:2 * e <= lm ts.length) :
  FnC prog 89 [ad7 ts,ptA a b,ptA c d] (.tup [ptA (sh ts.length (subT ts (dec ts.length a) (dec ts.length c))) (sh ts.length (subT ts (dec ts.length b) (dec ts.length d))),.v .nilIface]):=by
 refine gF0 func89 ?_
 refine gc (ach (e:=e) tw [(a,b),(c,d)] (by simp only [mem_cons,not_mem_nil,or_false]; rintro p (rfl | rfl); exact ⟨ha,hb⟩; exact ⟨hc,hd⟩) (by omega) (by simp)) ?_
 refine gC (fun ht16=>?_) (fun ht16=>?_) (st1:=(3,0))
 ·cases ht16
 ·refine gt (aad (Con.rekeyB 21 rfl rfl rfl rfl (ahs tw ha hb hc hd he)) (.cons (.tmp rfl) (.cons (.tmp rfl) (.cons (.tmp rfl) .nil))) (by first | exact hH0 | exact hH1 rfl | exact hH2 rfl rfl) rfl rfl) ?_
  refine gt (aad (Con.rekeyB 21 rfl rfl rfl rfl (ak4 _ _ _)) (.cons (.tmp rfl) (.cons (.tmp rfl) .nil)) (by first | exact hH0 | exact hH1 rfl | exact hH2 rfl rfl) rfl rfl) ?_
  refine gE2 ?_
  rfl
theorem aus {ts:List (List Rat)} {r e:Nat} (tw:Tw ts r) {a b c d:List Rat} (ha:Nm ts.length e a) (hb:Nm ts.length e b) (hc:Nm ts.length e c) (hd:Nm ts.length e d) (he:2 * (e + e + kB r ts.length) <= lm ts.length) :
  FnC prog 88 [ad7 ts,ptA a b,ptA c d] (.tup [nA (sh ts.length (aoh ts (dec ts.length a) (dec ts.length b) (dec ts.length c) (dec ts.length d))),.v .nilIface]):=by
 refine gF0 func88 ?_
 refine gc (Con.subA (.cons (.refl _) (.cons (.refl _) (.cons (.refl _) (.cons (Sub.fn0 _) .nil)))) (ajc tw ha hb hc hd (by omega) _ _ (apj tw ha hb hc hd he))) ?_
 refine gE2 ?_
 first | rfl | (simp; done)
section
variable {ts:List (List Rat)} {u k:Nat} {a b a2 b2:List Rat} {x y x2 y2:Et ts} {w v w' v' w2 v2 w3 v3:Nat}
theorem as0 [c : Ct ts u k] [ha : Zl ts u k a x w v] [hb : Zl ts u k b y w' v'] [ha2 : Zl ts u k a2 x2 w2 v2] [hb2 : Zl ts u k b2 y2 w3 v3] (h : w + v + (w' + v') + (w2 + v2 + (w3 + v3)) <= 2500 := by decide) :
  FnC prog 89 [ad7 ts,ptA a b,ptA a2 b2] (.tup [ptA (sX (x - x2)) (sX (y - y2)),.v .nilIface]):=by
 obtain ⟨R,tw,hk⟩:=c.ex
 have h0:=a42 c hk
 have h1:=azl (e:=2500 * 1000000) tw (ha.up c (by omega)) (hb.up c (by omega)) (ha2.up c (by omega)) (hb2.up c (by omega)) (by omega)
 rw [ha.eq,hb.eq,ha2.eq,hb2.eq] at h1
 exact h1
theorem bd0 [c : Ct ts u k] [ha : Zl ts u k a x w v] [hb : Zl ts u k b y w' v'] [ha2 : Zl ts u k a2 x2 w2 v2] [hb2 : Zl ts u k b2 y2 w3 v3] (h : w + v + (w' + v') + (w2 + v2 + (w3 + v3)) <= 2500 := by decide) :
  FnC prog 88 [ad7 ts,ptA a b,ptA a2 b2] (.tup [nA (sX (crsE x y x2 y2)),.v .nilIface]):=by
 obtain ⟨R,tw,hk⟩:=c.ex
 have h0:=a42 c hk
 have h1:=aus (e:=2500 * 1000000) tw (ha.up c (by omega)) (hb.up c (by omega)) (ha2.up c (by omega)) (hb2.up c (by omega)) (by omega)
 rw [ha.eq,hb.eq,ha2.eq,hb2.eq] at h1
 exact h1
end
end Go.Lw
namespace Go.Lw
variable {P:Program} {N:Nat} {R:Array Oper} {s:AS}
theorem ac0 {d f k:Nat} {bx:Blk} {args:Array Operand} {ts:Array TypeId} {xs:List AV} {r:AV} {t:TypeId} {pos:String} {after:Array Edge}
  (hcon:Con P f xs [(k,some bx)] r [(k,some bx)]) (ha:EvL s args.toList xs) (hk:s.blk k = some bx) (hok:act s [(k,some bx)] [(k,some bx)] r = true) (hN:Nat.blt d N = true) :
  Step P N R s ⟨some d,.call ⟨.value (.func f),args,ts⟩,t,pos,after,none⟩ ⟨some r,[],rtL args.toList,[k]⟩:=by
 refine Step.weaken (aad (d:=d) hcon ha (fun k' z h=>by
  obtain ⟨rfl,h9⟩:=ae7 h
  cases h9; exact hk) hok hN) (fun s' h=>h) (fun s' h k' hk'=>?_) (fun s' h=>?_)
 ·left
  simp only [map_append,ajj,map_cons,List.map_nil,mem_append,mem_cons,not_mem_nil,or_false] at hk' ⊢
  rcases hk' with h9 | h9 <;> exact h9
 ·intro C m a w hr
  refine ⟨m,hr.weak (fun t x hx=>⟨x,hx,.refl _⟩) (fun k' x hx=>⟨x,?_,.refl _⟩)⟩
  have hb:lk s'.hp k = some bx:=(h.2 k (List.mem_singleton.2 rfl)).trans hk
  show lk ([(k,some bx)] ++ ajj [(k,some bx)] ++ s'.hp) k' = some x
  have hx':lk s'.hp k' = some x:=hx
  simp only [ajj,map_cons,List.map_nil,List.cons_append,nil_append,aac]
  by_cases e:k' = k
  ·rw [if_pos e]; rw [e,hb] at hx'; exact hx'
  ·rw [if_neg e,if_neg e]; exact hx'
theorem ap7 {k1 k2 k':Nat} {x y:Option Blk} {z:Blk} (h:lk [(k1, x), (k2, y)] k' = some z):(k' = k1 /\ x = some z) \/ (k' ≠ k1 /\ k' = k2 /\ y = some z):=by
 rw [aac] at h
 by_cases e:k' = k1
 ·rw [if_pos e] at h; exact .inl ⟨e,h⟩
 ·rw [if_neg e] at h
  obtain ⟨h1,h2⟩:=ae7 h
  exact .inr ⟨e,h1,h2⟩
theorem avz {k1 k2:Nat} {x y:Option Blk}:lk [(k1,x),(k2,y)] k1 = x:=by rw [aac,if_pos rfl]
theorem av3 {k1 k2:Nat} {x y:Option Blk} (h:k1 ≠ k2):lk [(k1,x),(k2,y)] k2 = y:=by rw [aac,if_neg (fun e=>h e.symm),aac,if_pos rfl]
theorem a51 {k1 k2:Nat} (hne:k1 ≠ k2) {x y:Blk} {m:Nat -> Option Nat} {b:Nat}:Own [(k1, some x), (k2, some y)] m b ↔ m k1 = some b \/ m k2 = some b:=by
 constructor
 ·rintro ⟨k', z, hz, hb⟩
  rcases ap7 hz with ⟨e,_⟩ | ⟨_,e,_⟩
  ·exact .inl (e ▸ hb)
  ·exact .inr (e ▸ hb)
 ·rintro (h | h)
  ·exact ⟨k1,x,avz,h⟩
  ·exact ⟨k2,y,av3 hne,h⟩
theorem a1i {k1 k2 d1 d2:Nat} (hk:k1 ≠ k2) (hd:d1 ≠ d2) {x y x' y':Blk} {m m2:Nat -> Option Nat} (h1:m2 d1 = m k1) (h2:m2 d2 = m k2):Own [(d1, some x'), (d2, some y')] m2 = Own [(k1, some x), (k2, some y)] m:=by
 funext b; apply propext; rw [a51 hk,a51 hd,h1,h2]
theorem bal {ext:Nat -> Prop} {k1 k2 d1 d2:Nat} (hk:k1 ≠ k2) (hd:d1 ≠ d2) {x y x' y':Blk} {m m2:Nat -> Option Nat} {w:World} (h1:m2 d1 = m k1) (h2:m2 d2 = m k2):Im ext [(d1, some x'), (d2, some y')] m2 w = Im ext [(k1, some x), (k2, some y)] m w:=by
 funext b cs
 simp only [Im,a1i hk hd (x:=x) (y:=y) (x':=x') (y':=y') h1 h2]
theorem axw {ext:Nat -> Prop} {k1 k2 d1 d2:Nat} (hk:k1 ≠ k2) (hd:d1 ≠ d2) {x y:Blk} {m m2:Nat -> Option Nat} {w:World} (hx:x.nm = []) (hy:y.nm = []) (h1:m2 d1 = m k1) (h2:m2 d2 = m k2)
  (hr:HeapRel ext [(k1,some x),(k2,some y)] m w):HeapRel ext [(d1,some x),(d2,some y)] m2 w:=by
 refine ⟨?_,?_,?_⟩
 ·intro k' z hz
  rw [bal hk hd (x:=x) (y:=y) h1 h2]
  rcases ap7 hz with ⟨rfl,h9⟩ | ⟨_,rfl,h9⟩
  ·cases h9
   exact BlkRep.mono (w:=w) (fun _ _ h=>h) (fun _ _ h=>h) (fun _ _ hn=>(alg hx hn).elim) h1 (fun _ _=>rfl) (hr.blk k1 _ avz)
  ·cases h9
   exact BlkRep.mono (w:=w) (fun _ _ h=>h) (fun _ _ h=>h) (fun _ _ hn=>(alg hy hn).elim) h2 (fun _ _=>rfl) (hr.blk k2 _ (av3 hk))
 ·intro k k' z z' b hz hz' hb hb'
  rcases ap7 hz with ⟨rfl,_⟩ | ⟨_,rfl,_⟩ <;> rcases ap7 hz' with ⟨rfl,_⟩ | ⟨_,rfl,_⟩
  ·rfl
  ·exact absurd (hr.inj k1 k2 _ _ b avz (av3 hk) (h1 ▸ hb) (h2 ▸ hb')) hk
  ·exact absurd (hr.inj k1 k2 _ _ b avz (av3 hk) (h1 ▸ hb') (h2 ▸ hb)) hk
  ·rfl
 ·intro k' z b hz hb
  rcases ap7 hz with ⟨rfl,h9⟩ | ⟨_,rfl,h9⟩
  ·exact hr.sep k1 _ b avz (h1 ▸ hb)
  ·exact hr.sep k2 _ b (av3 hk) (h2 ▸ hb)
theorem Con.rekeyBB {P:Program} {f:FuncId} {k1 k2 o1 o2:Nat} {x y x' y':Blk} {xs:List AV} {r:AV} (d1 d2:Nat) (hk:k1 ≠ k2) (hd:d1 ≠ d2) (hx:x.nm = []) (hy:y.nm = []) (hx':x'.nm = []) (hy':y'.nm = []) (hxs:(xs.all fun x=>x.nm.isEmpty) = true) (hr:r.nm = [])
  (h:Con P f (.ptr k1 o1 :: .ptr k2 o2 :: xs) [(k1,some x),(k2,some y)] r [(k1,some x'),(k2,some y')]):Con P f (.ptr d1 o1 :: .ptr d2 o2 :: xs) [(d1,some x),(d2,some y)] r [(d1,some x'),(d2,some y')]:=by
 refine ⟨h.ok,?_⟩
 intro ext m w vs hext hheap hvs hrep
 obtain ⟨m2,e1,e2⟩:∃ m2:Nat -> Option Nat,m2 k1 = m d1 /\ m2 k2 = m d2:=⟨fun k=>if k = k1 then m d1 else m d2,if_pos rfl,if_neg (fun e=>hk e.symm)⟩
 have h1 := h.ret ext m2 w vs hext (axw hd hk hx hy e1 e2 hheap) (by simpa using hvs) (by
  intro j v z hv hz
  rw [bal hd hk (x:=x) (y:=y) e1 e2]
  match j,hz with
  | 0, hz =>
   cases hz
   have h2:=hrep 0 v _ hv rfl
   cases h2 with
   | ptr hm=>exact .ptr (e1.trans hm)
  | 1, hz =>
   cases hz
   have h2:=hrep 1 v _ hv rfl
   cases h2 with
   | ptr hm=>exact .ptr (e2.trans hm)
  | j + 2, hz =>
   have h2:=hrep (j + 2) v z hv hz
   refine ads ?_ h2
   have:=List.all_eq_true.1 hxs z (mem_of_getElem? hz)
   simpa using this)
 refine Calls.mono h1 ?_
 rintro e w' ⟨v,m',rfl,hf,hh,hn,hkp,hrr⟩
 have ho:=a1i hd hk (x:=x) (y:=y) (x':=x) (y':=y) e1 e2
 obtain ⟨m3,f1,f2⟩:∃ m3:Nat -> Option Nat,m3 d1 = m' k1 /\ m3 d2 = m' k2:=⟨fun k=>if k = d1 then m' k1 else m' k2,if_pos rfl,if_neg (fun e=>hd e.symm)⟩
 refine ⟨v,m3,rfl,ho ▸ hf,axw hk hd hx' hy' f1 f2 hh,?_,?_,?_⟩
 ·intro k' z b hz hb
  rw [<- ho]
  rcases ap7 hz with ⟨rfl,_⟩ | ⟨_,rfl,_⟩
  ·exact hn k1 _ b avz (f1 ▸ hb)
  ·exact hn k2 _ b (av3 hk) (f2 ▸ hb)
 ·intro k' z z' hz hz'
  rcases ap7 hz with ⟨rfl,_⟩ | ⟨_,rfl,_⟩
  ·rw [f1,<- e1]; exact hkp k1 _ _ avz avz
  ·rw [f2,<- e2]; exact hkp k2 _ _ (av3 hk) (av3 hk)
 ·rw [bal hk hd (x:=x') (y:=y') f1 f2]
  exact ads hr hrr
end Go.Lw
namespace Go.Lw
open Go.Proofs
theorem boy {l:Li} {body pt:Int} {n k:Nat} {bd:Bd} {m:Mk} (h:MkP l body pt n k bd m):qP (mkQ l body pt) = .agg [bl m.x.neg, ws m.x.num, ws m.x.den, bl m.y.neg, ws m.y.num, ws m.y.den]:=by
 rw [h.ex,h.ey]
theorem axz {p q:Rat × Rat} {e f:Nat} (hp:Sm e p) (hq:Sm f q) (he:e <= 1000000) (hf:f <= 1000000):FnC prog 175 [qP p, qP q] (qP (bpb p q)):=by
 refine gF0 func175 ?_
 refine gc (a8o (hp.x.qs (by omega)) (hq.x.qs (by omega))) ?_
 refine gc (a8o (hp.y.qs (by omega)) (hq.y.qs (by omega))) ?_
 refine gD ?_
 refine gE1 ?_
 first | rfl | (simp; done)
theorem bea {p q:Rat × Rat} {e f:Nat} (hp:Sm e p) (hq:Sm f q) (he:e <= 1000000) (hf:f <= 1000000):FnC prog 259 [qP p, qP q] (qA (bph p q)):=by
 refine gF0 func259 ?_
 refine gc (a3p (hp.x.qs (by omega)) (hq.x.qs (by omega))) ?_
 refine gc (a3p (hp.y.qs (by omega)) (hq.y.qs (by omega))) ?_
 refine gc (bcz ((hp.x.mul hq.x).qs (by omega)) ((hp.y.mul hq.y).qs (by omega))) ?_
 refine gD ?_
 refine gE1 ?_
 first | rfl | (simp; done)
theorem a4x {p q:Rat × Rat} {e f:Nat} (hp:Sm e p) (hq:Sm f q) (he:e <= 1000000) (hf:f <= 1000000):FnC prog 176 [qP p, qP q] (qA (a7p p q)):=by
 refine gF0 func176 ?_
 refine gc (a3p (hp.x.qs (by omega)) (hq.y.qs (by omega))) ?_
 refine gc (a3p (hp.y.qs (by omega)) (hq.x.qs (by omega))) ?_
 refine gc (a8o ((hp.x.mul hq.y).qs (by omega)) ((hp.y.mul hq.x).qs (by omega))) ?_
 refine gD ?_
 refine gE1 ?_
 first | rfl | (simp; done)
theorem ay2 {p:Rat × Rat} {e:Nat} (hp:Sm e p) (he:e <= 1000000):FnC prog 177 [qP p] (nA (sh 0 (bph p p:Rat))):=by
 refine gF0 func177 ?_
 refine gc (bea hp hp he he) ?_
 refine gc (aw2 ((hp.dot hp).qs (by omega))) ?_
 refine gE1 ?_
 first | rfl | (simp; done)
theorem bch:FnC prog 83 [] (nA (sh 0 ((1:Int):Rat))):=by
 refine gF0 func83 ?_
 refine gc (ad2 1 (by omega)) ?_
 refine gc (aw2 (awf (by omega))) ?_
 refine gE1 ?_
 first | rfl | (simp; done)
theorem afy {l:Li} (hl:l.ok) (hli:liE l = 0) (g:Gr) (a:As) {body pt:Int} (h1:inB body l.bodies.length = true) (h2:inB pt (adz l body).length = true) :
  Con prog 173 [.ptr 1000 0,i64 body,i64 pt] [(1000,some (svB l g a))] (qP (mkQ l body pt)) [(1000,some (svB l g a))]:=by
 obtain ⟨n,k,bd,m,mp⟩:=bcd hl hli h1 h2
 rw [boy mp]
 have hn:=mp.hn
 have hk:=mp.hk
 have hlb:=hl.lb
 subst hn
 subst hk
 refine gF func173 (fun k z h=>acf h) ?_
 refine gi (aae mp.gbd) ?_
 refine gi (aae mp.gm) ?_
 refine gR ?_
 exact Fin.keep (aeu rfl)
theorem aff {l:Li} (hl:l.ok) (hli:liE l = 0) (g:Gr) {a:As} (al:AL a) (hc:aeb a.rs = 0) {body pt:Int} (h1:inB body l.bodies.length = true) (h2:inB pt (adz l body).length = true) (hb:Pd a body) :
  Con prog 94 [.ptr 1000 0,i64 body,i64 pt] [(1000,some (svB l g a))] (ptA (sX (plE l a body pt).1) (sX (plE l a body pt).2)) [(1000,some (svB l g a))]:=by
 obtain ⟨n,k,bd,m,b,hp⟩:=bhi hl hli al hc h1 h2 hb
 obtain ⟨tw,hta⟩:=ab3 al.tr hc
 have kb:=kb4 tw.three
 have hlm:=aea (llq a.rs).length
 have hlb:=hl.lb
 have hbl:=al.bl
 have hmk:=afy hl hli g a h1 h2
 show Con prog _ _ _ (ptA (sh (llq a.rs).length (ai4 l a body pt).1) (sh (llq a.rs).length (ai4 l a body pt).2)) _
 rw [hp.eq]
 have hn:=hp.mp.hn
 rw [boy hp.mp] at hmk
 have hat:FnC prog 86 [ae5 a.rs, b.av, m.x.av, m.y.av] (.tup [ptA (sh (llq a.rs).length (atP (llq a.rs) b m).1) (sh (llq a.rs).length (atP (llq a.rs) b m).2), .v .nilIface]):=by
  rw [hta,hp.av,hp.mp.ex,hp.mp.ey]
  have h9:=aj5 tw hp.ok.c hp.ok.s hp.ok.x hp.ok.y (hp.mp.sm.x.mono (f:=4000) (by omega)) (hp.mp.sm.y.mono (f:=4000) (by omega)) (by omega)
  unfold atP
  rw [hp.mp.ex,hp.mp.ey,agd,agd]
  exact h9
 refine gF func94 (fun k z h=>acf h) ?_
 refine gt (aad hmk (.cons (.tmp rfl) (.cons (.tmp rfl) (.cons (.tmp rfl) .nil))) (by first | exact hH0 | exact hH1 rfl | exact hH2 rfl rfl) rfl rfl) ?_
 refine gi (adl (n:=n) hn hp.gb) ?_
 refine gc hat ?_
 refine gD ?_
 refine gC (fun ht39=>?_) (fun ht39=>?_) (st2:=(77777,0))
 ·refine gR ?_
  exact Fin.keep (aeu rfl)
 ·cases ht39
theorem aow {l:Li} (hl:l.ok) (hli:liE l = 0) (g:Gr) (hg:GrOk l g) {a:As} (al:AL a) (hc:aeb a.rs = 0) {k:Nat} {z b:Int} {j:Jt} (hz:g.joints[k]? = some z) (hj:l.joints[z.toNat]? = some j) (h:PinP l a j b) :
  Con prog 162 [.ptr 1000 0,i64 k,i64 b] [(1000,some (svB l g a))] (.tup [qP (afj l j b),ptA (sX (ad5 l a j b).1) (sX (ad5 l a j b).2)]) [(1000,some (svB l g a))]:=by
 obtain ⟨z0,z1⟩:=hg.j z (mem_of_getElem? hz)
 obtain ⟨i1,i2,i3,i4,_⟩:=aet hli hj
 have hgj:=hg.lj
 have hlj:=hl.lj
 refine gF func162 (fun k z h=>acf h) ?_
 refine gi (aae hz) ?_
 refine gi (adl (n:=z.toNat) (by omega) hj) ?_
 refine gD ?_
 refine gC (fun ht27=>?_) (fun ht27=>?_)
 ·have e:j.a = b:=aes ht27
  have hb:Pd a j.b:=by rcases h.tie with h9 | h9; exact h9.2; exact absurd e h9.1
  have eq1:afj l j b = mkQ l b j.point:=if_pos e
  have eq2:ad5 l a j b = plE l a j.b j.on:=if_pos e
  rw [eq1,eq2]
  subst e
  refine gt (aad (afy hl hli g a i1 i3) (.cons (.tmp rfl) (.cons (.tmp rfl) (.cons (.tmp rfl) .nil))) (by first | exact hH0 | exact hH1 rfl | exact hH2 rfl rfl) rfl rfl) ?_
  refine gt (aad (aff hl hli g al hc i2 i4 hb) (.cons (.tmp rfl) (.cons (.tmp rfl) (.cons (.tmp rfl) .nil))) (by first | exact hH0 | exact hH1 rfl | exact hH2 rfl rfl) rfl rfl) ?_
  refine gD ?_
  refine gR ?_
  exact Fin.keep (aeu rfl)
 ·have e:j.a ≠ b:=afr ht27
  have e2:j.b = b /\ Pd a j.a:=by rcases h.tie with h9 | h9; exact absurd h9.1 e; exact h9.2
  have eq1:afj l j b = mkQ l b j.on:=if_neg e
  have eq2:ad5 l a j b = plE l a j.a j.point:=if_neg e
  rw [eq1,eq2]
  obtain ⟨e2,hb⟩:=e2
  subst e2
  refine gt (aad (afy hl hli g a i2 i4) (.cons (.tmp rfl) (.cons (.tmp rfl) (.cons (.tmp rfl) .nil))) (by first | exact hH0 | exact hH1 rfl | exact hH2 rfl rfl) rfl rfl) ?_
  refine gt (aad (aff hl hli g al hc i1 i3 hb) (.cons (.tmp rfl) (.cons (.tmp rfl) (.cons (.tmp rfl) .nil))) (by first | exact hH0 | exact hH1 rfl | exact hH2 rfl rfl) rfl rfl) ?_
  refine gD ?_
  refine gR ?_
  exact Fin.keep (aeu rfl)
theorem a2r {l:Li} (hl:l.ok) (hli:liE l = 0) (g:Gr) (hg:GrOk l g) (a:As) {z b:Int} {j:Jt} (hz:g.joints[2]? = some z) (hj:l.joints[z.toNat]? = some j) (h:j.a = b \/ j.b = b) :
  Con prog 163 [.ptr 1000 0,i64 b] [(1000,some (svB l g a))] (qP (afj l j b)) [(1000,some (svB l g a))]:=by
 obtain ⟨z0,z1⟩:=hg.j z (mem_of_getElem? hz)
 obtain ⟨i1,i2,i3,i4,_⟩:=aet hli hj
 have hgj:=hg.lj
 have hlj:=hl.lj
 have h2:=(List.getElem?_eq_some_iff.1 hz).1
 refine gF func163 (fun k z h=>acf h) ?_
 refine gi (aae hz) ?_
 refine gi (adl (n:=z.toNat) (by omega) hj) ?_
 refine gD ?_
 refine gC (fun ht23=>?_) (fun ht23=>?_)
 ·have e:j.a = b:=aes ht23
  have eq1:afj l j b = mkQ l b j.point:=if_pos e
  rw [eq1]
  subst e
  refine gt (aad (afy hl hli g a i1 i3) (.cons (.tmp rfl) (.cons (.tmp rfl) (.cons (.tmp rfl) .nil))) (by first | exact hH0 | exact hH1 rfl | exact hH2 rfl rfl) rfl rfl) ?_
  refine gR ?_
  exact Fin.keep (aeu rfl)
 ·have e:j.a ≠ b:=afr ht23
  have e2:j.b = b:=by rcases h with h9 | h9; exact absurd h9 e; exact h9
  have eq1:afj l j b = mkQ l b j.on:=if_neg e
  rw [eq1]
  subst e2
  refine gt (aad (afy hl hli g a i2 i4) (.cons (.tmp rfl) (.cons (.tmp rfl) (.cons (.tmp rfl) .nil))) (by first | exact hH0 | exact hH1 rfl | exact hH2 rfl rfl) rfl rfl) ?_
  refine gR ?_
  exact Fin.keep (aeu rfl)
theorem am9 {l:Li} (hl:l.ok) (g:Gr) (hg:GrOk l g) (a:As) {z:Int} {j:Jt} (hz:g.joints[1]? = some z) (hj:l.joints[z.toNat]? = some j) :
  Con prog 92 [.ptr 1000 0] [(1000,some (svB l g a))] j.av [(1000,some (svB l g a))]:=by
 obtain ⟨z0,z1⟩:=hg.j z (mem_of_getElem? hz)
 have hgj:=hg.lj
 have hlj:=hl.lj
 have h2:=(List.getElem?_eq_some_iff.1 hz).1
 refine gF func92 (fun k z h=>acf h) ?_
 refine gi (aae hz) ?_
 refine gi (adl (n:=z.toNat) (by omega) hj) ?_
 refine gD ?_
 refine gR ?_
 exact Fin.keep (aeu rfl)
abbrev hdC {ts:List (List Rat)} (p:Rat × Rat) (at_:Et ts × Et ts) (c:Rat × Rat):List AV :=
  [bl (rt p.1).neg,ws (rt p.1).num,ws (rt p.1).den,bl (rt p.2).neg,ws (rt p.2).num,ws (rt p.2).den,nA (sX at_.1),nA (sX at_.2),bl (rt c.1).neg,ws (rt c.1).num,ws (rt c.1).den,bl (rt c.2).neg,ws (rt c.2).num,ws (rt c.2).den]
abbrev hdA {ts:List (List Rat)} (p:Rat × Rat) (at_:Et ts × Et ts) (c:Rat × Rat):AV:=.agg (hdC p at_ c)
theorem bbo {l:Li} (hl:l.ok) (hli:liE l = 0) {a:As} (al:AL a) (hc:aeb a.rs = 0) {i k z0 z1 z2:Int} {j0 j1 j2:Jt} (hg:GrOk l ⟨1, [i, k], [z0, z1, z2], 0⟩)
  (h0:l.joints[z0.toNat]? = some j0) (h1:l.joints[z1.toNat]? = some j1) (h2:l.joints[z2.toNat]? = some j2) (p0:PinP l a j0 i) (p1:PinP l a j1 k) (t1:j2.a = i \/ j2.b = i) (t2:j2.a = k \/ j2.b = k) :
  Con prog 84 [.ptr 1000 0] [(1000,some (svB l ⟨1,[i,k],[z0,z1,z2],0⟩ a))] (.tup [hdA (afj l j0 i) (ad5 l a j0 i) (afj l j2 i),hdA (afj l j1 k) (ad5 l a j1 k) (afj l j2 k)]) [(1000,some (svB l ⟨1,[i,k],[z0,z1,z2],0⟩ a))]:=by
 refine gF func84 (fun k z h=>acf h) ?_
 refine gi (rfl) ?_
 refine gi (rfl) ?_
 refine gD ?_
 refine gt (aad (aow hl hli _ hg al hc (k:=0) rfl h0 p0) (.cons (.tmp rfl) (.cons (.const _) (.cons (.tmp rfl) .nil))) (by first | exact hH0 | exact hH1 rfl | exact hH2 rfl rfl) rfl rfl) ?_
 refine gt (aad (aow hl hli _ hg al hc (k:=1) rfl h1 p1) (.cons (.tmp rfl) (.cons (.const _) (.cons (.tmp rfl) .nil))) (by first | exact hH0 | exact hH1 rfl | exact hH2 rfl rfl) rfl rfl) ?_
 refine gt (aad (a2r hl hli _ hg a rfl h2 t1) (.cons (.tmp rfl) (.cons (.tmp rfl) .nil)) (by first | exact hH0 | exact hH1 rfl | exact hH2 rfl rfl) rfl rfl) ?_
 refine gt (aad (a2r hl hli _ hg a rfl h2 t2) (.cons (.tmp rfl) (.cons (.tmp rfl) .nil)) (by first | exact hH0 | exact hH1 rfl | exact hH2 rfl rfl) rfl rfl) ?_
 refine gD ?_
 refine gR ?_
 exact Fin.keep (aeu rfl)
theorem bgy {l:Li} (hl:l.ok) (hli:liE l = 0) {a:As} (al:AL a) (hc:aeb a.rs = 0) {i z0 z1:Int} {j0 j1:Jt} (hg:GrOk l ⟨2, [i], [z0, z1], 0⟩)
  (h0:l.joints[z0.toNat]? = some j0) (h1:l.joints[z1.toNat]? = some j1) (p0:PinP l a j0 i) (ha:j1.a = i) (hk:j1.kind ≠ 0) (hb:Pd a j1.b) :
  Con prog 90 [.ptr 1000 0] [(1000,some (svB l ⟨2,[i],[z0,z1],0⟩ a))] (.tup [hdA (afj l j0 i) (ad5 l a j0 i) (mkQ l i j1.point),ptA (sX (plE l a j1.b j1.on).1) (sX (plE l a j1.b j1.on).2),ptA (sX (plE l a j1.b j1.to).1) (sX (plE l a j1.b j1.to).2)]) [(1000,some (svB l ⟨2,[i],[z0,z1],0⟩ a))]:=by
 obtain ⟨i1,i2,i3,i4,i5⟩:=aet hli h1
 rw [ha] at i1 i3
 refine gF func90 (fun k z h=>acf h) ?_
 refine gi (rfl) ?_
 refine gt (ac0 (am9 hl _ hg a rfl h1) (.cons (.tmp rfl) .nil) rfl rfl rfl) ?_
 refine gD ?_
 refine gt (aad (aow hl hli _ hg al hc (k:=0) rfl h0 p0) (.cons (.tmp rfl) (.cons (.const _) (.cons (.tmp rfl) .nil))) (by first | exact hH0 | exact hH1 rfl | exact hH2 rfl rfl) rfl rfl) ?_
 refine gt (aad (afy hl hli _ a i1 i3) (.cons (.tmp rfl) (.cons (.tmp rfl) (.cons (.tmp rfl) .nil))) (by first | exact hH0 | exact hH1 rfl | exact hH2 rfl rfl) rfl rfl) ?_
 refine gt (aad (aff hl hli _ al hc i2 i4 hb) (.cons (.tmp rfl) (.cons (.tmp rfl) (.cons (.tmp rfl) .nil))) (by first | exact hH0 | exact hH1 rfl | exact hH2 rfl rfl) rfl rfl) ?_
 refine gt (aad (aff hl hli _ al hc i2 (i5 hk) hb) (.cons (.tmp rfl) (.cons (.tmp rfl) (.cons (.tmp rfl) .nil))) (by first | exact hH0 | exact hH1 rfl | exact hH2 rfl rfl) rfl rfl) ?_
 refine gD ?_
 refine gR ?_
 exact Fin.keep (aeu rfl)
end Go.Lw
namespace Go.Lw
open Go.Proofs
abbrev mdB (rs:List (List Rt)):Blk:=.box [.lst 1 (rs.map nR),.v .nilIface]
theorem amr (rs:List (List Rt)) (a:List Rat):Con prog 87 [.ptr 1000 0, nA a, .v .nilIface] [(1000, some (mdB rs))] (nA a) [(1000, some (mdB rs))]:=by
 refine gF func87 (fun k z h=>acf h) ?_
 refine gC (fun ht11=>?_) (fun ht11=>?_) (st2:=(77777,0))
 ·refine gR ?_
  exact Fin.keep (aeu rfl)
 ·cases ht11
theorem aen (rs:List (List Rt)) (a b:List Rat):Con prog 85 [.ptr 1000 0, ptA a b, .v .nilIface] [(1000, some (mdB rs))] (ptA a b) [(1000, some (mdB rs))]:=by
 refine gF func85 (fun k z h=>acf h) ?_
 refine gC (fun ht11=>?_) (fun ht11=>?_) (st2:=(77777,0))
 ·refine gR ?_
  exact Fin.keep (aeu rfl)
 ·cases ht11
section
variable {rs:List (List Rt)} {r u k:Nat} {a b:List Rat} {x y:Et (llq rs)} {w v w' v':Nat}
end
structure DyR (l:Li) (a:As):Prop where
  hl:l.ok
  li:liE l = 0
  al:AL a
  hc:aeb a.rs = 0
abbrev rpC (l:Li) (a:As) (i:Int) (j0 j:Jt):List AV :=
  qC (afj l j0 i) ++ ([nA (sX (ad5 l a j0 i).1),nA (sX (ad5 l a j0 i).2)] ++ (qC (rpV l i j) ++ [nA (sh 0 (rpH l i j0 j:Rat)),nA (sh 0 (rpN l i j:Rat)),nA (sX (rpD l a i j0 j)),nA (sX (rpW l a i j0 j).1),nA (sX (rpW l a i j0 j).2)]))
theorem bgl {l:Li} {a:As} (D:DyR l a) {n:Nat} {i:Int} {j0 j:Jt} (h0:l.joints[n]? = some j0) (p0:PinP l a j0 i) {m:Nat} (h1:l.joints[m]? = some j) (hb:Pd a j.a) :
  Zu 4000 300000 (rpW l a i j0 j).1 80 81 /\ Zu 4000 300000 (rpW l a i j0 j).2 80 81:=by
 obtain ⟨i1,i2,i3,i4,_⟩:=aet D.li h1
 obtain ⟨z1,z2⟩:=af8 D.hl D.li D.al D.hc h0 p0
 obtain ⟨y1,y2⟩:=afw D.hl D.li D.al D.hc i1 i3 hb
 haveI c:=D.al.ct D.hc
 haveI:=z1; haveI:=z2; haveI:=y1; haveI:=y2
 exact ⟨(inferInstance:Zu 4000 300000 ((plE l a j.a j.point).1 - (ad5 l a j0 i).1) _ _),(inferInstance:Zu 4000 300000 ((plE l a j.a j.point).2 - (ad5 l a j0 i).2) _ _)⟩
theorem bic {l:Li} {a:As} (D:DyR l a) {i z0 z1:Int} {j0 j:Jt} (hg:GrOk l ⟨3, [i], [z0, z1], 0⟩)
  (h0:l.joints[z0.toNat]? = some j0) (h1:l.joints[z1.toNat]? = some j) (p0:PinP l a j0 i) (hi:j.b = i) (hk:j.kind ≠ 0) (hb:Pd a j.a) :
  Con prog 93 [.ptr 1000 0,.ptr 1001 0] [(1000,some (svB l ⟨3,[i],[z0,z1],0⟩ a)),(1001,some (mdB a.rs))] (.agg (rpC l a i j0 j)) [(1000,some (svB l ⟨3,[i],[z0,z1],0⟩ a)),(1001,some (mdB a.rs))]:=by
 obtain ⟨i1,i2,i3,i4,i5⟩:=aet D.li h1
 have hs0:Sm 1000 (afj l j0 i):=ai8 D.hl D.li h0 (by rcases p0.tie with h9 | h9; exact .inl h9.1; exact .inr h9.2.1)
 subst hi
 have hs1:=alx D.hl D.li i2 i4
 have hs2:=alx D.hl D.li i2 (i5 hk)
 have hv:=hs2.sub hs1
 obtain ⟨z1',z2'⟩:=af8 D.hl D.li D.al D.hc h0 p0
 obtain ⟨y1,y2⟩:=afw D.hl D.li D.al D.hc i1 i3 hb
 obtain ⟨w1,w2⟩:=bgl D h0 p0 h1 hb
 haveI c:=D.al.ct D.hc
 haveI:=z1'; haveI:=z2'; haveI:=y1; haveI:=y2; haveI:=w1; haveI:=w2
 have hsub:=as0 (ts:=llq a.rs) (u:=4000) (k:=300000) (a:=sX (plE l a j.a j.point).1) (b:=sX (plE l a j.a j.point).2) (a2:=sX (ad5 l a j0 j.b).1) (b2:=sX (ad5 l a j0 j.b).2)
 have hdot:=a5y (ts:=llq a.rs) (u:=4000) (k:=300000) (a:=sX (rpW l a j.b j0 j).1) (b:=sX (rpW l a j.b j0 j).2) (a2:=sX (rpW l a j.b j0 j).1) (b2:=sX (rpW l a j.b j0 j).2)
 rw [axf D.al.tr D.hc] at hsub hdot
 refine gF func93 (fun k z h=>bm8 h) ?_
 refine gi (rfl) ?_
 refine gt (ac0 (am9 D.hl _ hg a rfl h1) (.cons (.tmp rfl) .nil) rfl rfl rfl) ?_
 refine gD ?_
 refine gt (aad (aow D.hl D.li _ hg D.al D.hc (k:=0) rfl h0 p0) (.cons (.tmp rfl) (.cons (.const _) (.cons (.tmp rfl) .nil))) (by first | exact hH0 | exact hH1 rfl | exact hH2 rfl rfl) rfl rfl) ?_
 refine gt (ac0 (afy D.hl D.li _ a i2 i4) (.cons (.tmp rfl) (.cons (.tmp rfl) (.cons (.tmp rfl) .nil))) rfl rfl rfl) ?_
 refine gt (ac0 (afy D.hl D.li _ a i2 (i5 hk)) (.cons (.tmp rfl) (.cons (.tmp rfl) (.cons (.tmp rfl) .nil))) rfl rfl rfl) ?_
 refine gc (axz hs2 hs1 (by omega) (by omega)) ?_
 refine gD ?_
 refine gc (axz hs1 hs0 (by omega) (by omega)) ?_
 refine gc (a4x hv (hs1.sub hs0) (by omega) (by omega)) ?_
 refine gc (aw2 ((hv.cross (hs1.sub hs0)).qs (by omega))) ?_
 refine gc (ay2 hv (by omega)) ?_
 refine gD ?_
 refine gt (aad (aff D.hl D.li _ D.al D.hc i1 i3 hb) (.cons (.tmp rfl) (.cons (.tmp rfl) (.cons (.tmp rfl) .nil))) (by first | exact hH0 | exact hH1 rfl | exact hH2 rfl rfl) rfl rfl) ?_
 refine gC (fun ht63=>?_) (fun ht63=>?_) (st2:=(77777,0))
 ·refine gc hsub ?_
  refine gt (aad (Con.rekeyB 1001 rfl rfl rfl rfl (aen _ _ _)) (.cons (.tmp rfl) (.cons (.tmp rfl) (.cons (.tmp rfl) .nil))) (by first | exact hH0 | exact hH1 rfl | exact hH2 rfl rfl) rfl rfl) ?_
  refine gD ?_
  refine gc hdot ?_
  refine gt (aad (Con.rekeyB 1001 rfl rfl rfl rfl (amr _ _)) (.cons (.tmp rfl) (.cons (.tmp rfl) (.cons (.tmp rfl) .nil))) (by first | exact hH0 | exact hH1 rfl | exact hH2 rfl rfl) rfl rfl) ?_
  refine gD ?_
  refine gR ?_
  exact Fin.keep (bpx rfl rfl)
 ·cases ht63
end Go.Lw
namespace Go.Lw
open Go.Proofs
def a0d (l:Li) (a:As) (g:Gr):List Rat:=if g.kind = 0 then sh 0 ((1:Int):Rat) else sX (asj l a g)
theorem bo3 {l:Li} {a:As} (D:DyR l a) {b:Int} {p:Pl} (hp:a.bs[b.toNat]? = some p) (hn:aaz a.rs p.l = 0) {q:Rat × Rat} (hq:Sm 1000 q) :
  FnC prog 86 [.agg [.lst 1 (a.rs.map nR)],p.av,qA q.1,qA q.2] (.tup [ptA (sX (aoE a b q).1) (sX (aoE a b q).2),.v .nilIface]):=by
 obtain ⟨tw,hta⟩:=ab3 D.al.tr D.hc
 have h5:a.rs.length <= 5:=by have:=tw.five; rwa [ahe] at this
 have h9:=ag4 hn (D.al.nr p (mem_of_getElem? hp)) h5
 have kb:=kb4 tw.three
 have hlm:=aea (llq a.rs).length
 obtain ⟨e1,ok⟩:=h9
 rw [<- ahe a.rs] at ok
 have h:=aj5 tw ok.c ok.s ok.x ok.y (hq.x.mono (f:=4000) (by omega)) (hq.y.mono (f:=4000) (by omega)) (by omega)
 rw [e1,<- axf D.al.tr D.hc]
 unfold aoE
 rw [aaf hp]
 exact h
theorem a4k {l:Li} {k:Int} {a:As} {E:Nat} (hop:FnC prog 82 [l.av, i64 k, a.av, bl true] (.tup [.v (.pointer none), ah7 E])) (h0:E ≠ 0) (L:List Rat) :
  FnC prog 39 [l.av,i64 k,a.av] (.tup [nA (if E = 0 then L else []),ah7 E]):=by
 refine gF0 func39 ?_
 refine gc (hop) ?_
 refine gC (fun ht30=>?_) (fun ht30=>?_) (st2:=(77777,0))
 ·refine gR ?_
  exact ac3 (by rw [if_neg h0]; exact Sub.tup (.cons (.nil _ _ _) (.cons (.refl _) .nil)))
 ·exact absurd (ac7 ht30) h0
theorem a57 {l:Li} {k:Int} {a:As} {n:Nat} {g:Gr} (hop:Con prog 82 [l.av, i64 k, a.av, bl true] [] (.tup [.ptr 900 0, .v .nilIface]) [(900, some (svB l g a))]) (D:DyR l a) (ok:DyOk l k a true n g) :
  FnC prog 39 [l.av,i64 k,a.av] (.tup [nA (a0d l a g),.v .nilIface]):=by
 haveI c:=D.al.ct D.hc
 have hgo:=ok.ok
 have hbl:=D.al.bl
 refine gF0 func39 ?_
 refine gt (aad hop (.cons (.tmp rfl) (.cons (.tmp rfl) (.cons (.tmp rfl) (.cons (.const _) .nil)))) (by first | exact hH0 | exact hH1 rfl | exact hH2 rfl rfl) rfl rfl) ?_ (2,0)
 refine gW (Wk.o (sl:=[(5,some (.ptr 5 0)),(8,some (.ptr 900 0)),(9,some (.v .nilIface))]) (hp:=[(5,some (.box a.av.cells)),(900,some (svB l g a))])) ?_
 refine gC (fun ht30=>?_) (fun ht30=>?_) (st1:=(3,0)) (st2:=(5,0))
 ·cases ht30
 ·refine gW (Wk.o (sl:=[(5, some (.ptr 5 0)), (8, some (.ptr 900 0)), (10, some (.ptr 35 0))]) (hp:=[(5, some (.box a.av.cells)), (900, some (svB l g a)), (35, some (mdB a.rs))])) ?_ (10, 0)
  refine gJ0 [8,10] [900,35] [(11,some (nA (sX (asj l a g))))] [] (g.kind ≠ 0) ?_ ?_ 2
  ·intro K1 hK1
   refine gC (fun ht79=>?_) (fun ht79=>?_)
   ·have hk:g.kind = 0:=aes ht79
    have hd:a0d l a g = sh 0 ((1:Int):Rat):=if_pos hk
    rw [hd]
    refine gc (bch) ?_
    refine gR ?_
    exact aji rfl
   ·have hk0:g.kind ≠ 0:=afr ht79
    refine gC (fun ht82=>?_) (fun ht82=>?_)
    ·have hk:g.kind = 1:=aes ht82
     obtain ⟨i,k2,z0,z1,z2,j0,j1,j2,P⟩:=ok.rrr hk
     obtain ⟨e0,e1,e2,b0,b1,_⟩:=P.at
     have hE:asj l a g = bks (sbE (ad5 l a j1 k2) (ad5 l a j0 i)) (sbE (aoE a i (afj l j2 i)) (ad5 l a j0 i)):=by unfold asj; rw [if_neg hk0,if_pos hk,e0,e1,e2,b0,b1]
     obtain rfl:=P.eq
     have hi0:=(hgo.b i (by simp)).1
     obtain ⟨p,hp,hn⟩:=ok.own (b:=i) (by simp)
     have hil:=(List.getElem?_eq_some_iff.1 hp).1
     have hq:=ai8 D.hl D.li P.h2 P.t1
     obtain ⟨y1,y2⟩:=af8 D.hl D.li D.al D.hc P.h0 P.p0
     obtain ⟨y3,y4⟩:=af8 D.hl D.li D.al D.hc P.h1 P.p1
     obtain ⟨y5,y6⟩:=ars D.al D.hc (ok.own (b:=i) (by simp)) hq
     haveI:=y1; haveI:=y2; haveI:=y3; haveI:=y4; haveI:=y5; haveI:=y6
     have s1:=as0 (ts:=llq a.rs) (u:=4000) (k:=300000) (a:=sX (ad5 l a j1 k2).1) (b:=sX (ad5 l a j1 k2).2) (a2:=sX (ad5 l a j0 i).1) (b2:=sX (ad5 l a j0 i).2)
     have s2:=as0 (ts:=llq a.rs) (u:=4000) (k:=300000) (a:=sX (aoE a i (afj l j2 i)).1) (b:=sX (aoE a i (afj l j2 i)).2) (a2:=sX (ad5 l a j0 i).1) (b2:=sX (ad5 l a j0 i).2)
     have s3:=bd0 (ts:=llq a.rs) (u:=4000) (k:=300000) (a:=sX ((ad5 l a j1 k2).1 - (ad5 l a j0 i).1)) (b:=sX ((ad5 l a j1 k2).2 - (ad5 l a j0 i).2)) (a2:=sX ((aoE a i (afj l j2 i)).1 - (ad5 l a j0 i).1)) (b2:=sX ((aoE a i (afj l j2 i)).2 - (ad5 l a j0 i).2))
     rw [axf D.al.tr D.hc] at s1 s2 s3
     refine gt (aad (Con.rekeyB 900 rfl rfl rfl rfl (bbo D.hl D.li D.al D.hc hgo P.h0 P.h1 P.h2 P.p0 P.p1 P.t1 P.t2)) (.cons (.tmp rfl) .nil) (by first | exact hH0 | exact hH1 rfl | exact hH2 rfl rfl) rfl rfl) ?_
     refine gi (rfl) ?_
     refine gi (adl (n:=i.toNat) (by omega) hp) ?_
     refine gc (bo3 D (b:=i) hp hn hq) ?_
     refine gt (ac0 (Con.rekeyB 35 rfl rfl rfl rfl (aen _ _ _)) (.cons (.tmp rfl) (.cons (.tmp rfl) (.cons (.tmp rfl) .nil))) rfl rfl rfl) ?_
     refine gD ?_
     refine gc s1 ?_
     refine gt (ac0 (Con.rekeyB 35 rfl rfl rfl rfl (aen _ _ _)) (.cons (.tmp rfl) (.cons (.tmp rfl) (.cons (.tmp rfl) .nil))) rfl rfl rfl) ?_
     refine gc s2 ?_
     refine gt (ac0 (Con.rekeyB 35 rfl rfl rfl rfl (aen _ _ _)) (.cons (.tmp rfl) (.cons (.tmp rfl) (.cons (.tmp rfl) .nil))) rfl rfl rfl) ?_
     refine gc s3 ?_
     refine gt (ac0 (Con.rekeyB 35 rfl rfl rfl rfl (amr _ _)) (.cons (.tmp rfl) (.cons (.tmp rfl) (.cons (.tmp rfl) .nil))) rfl rfl rfl) ?_
     refine gD ?_
     exact jK0 hK1 hk0 (hw:=Wk.of (.cons rfl (Sub.of (congrArg (fun z=>nA (sX z)) hE.symm)) (.k (.k .nil))) (.cons rfl (.refl _) (.cons rfl (.refl _) .nil)))
    ·have hk1:g.kind ≠ 1:=afr ht82
     refine gC (fun ht149=>?_) (fun ht149=>?_)
     ·have hk:g.kind = 2:=aes ht149
      obtain ⟨i,z0,z1,j0,j,P,ha,hb⟩:=ok.pr hk
      obtain ⟨e0,e1,b0,_⟩:=P.at
      have hE:asj l a g = a5i (sbE (plE l a j.b j.to) (plE l a j.b j.on)) (sbE (aoE a i (mkQ l i j.point)) (ad5 l a j0 i)):=by unfold asj; rw [if_neg hk0,if_neg hk1,if_pos hk,e0,e1,b0]
      obtain rfl:=P.eq
      obtain ⟨i1,i2,i3,i4,i5⟩:=aet D.li P.h1
      have hi0:=(hgo.b i (by simp)).1
      obtain ⟨p,hp,hn⟩:=ok.own (b:=i) (by simp)
      have hil:=(List.getElem?_eq_some_iff.1 hp).1
      have hq:Sm 1000 (mkQ l i j.point):=by rw [<- ha]; exact alx D.hl D.li i1 i3
      obtain ⟨y1,y2⟩:=af8 D.hl D.li D.al D.hc P.h0 P.p0
      obtain ⟨y3,y4⟩:=afw D.hl D.li D.al D.hc i2 (i5 P.hk) hb
      obtain ⟨y7,y8⟩:=afw D.hl D.li D.al D.hc i2 i4 hb
      obtain ⟨y5,y6⟩:=ars D.al D.hc (ok.own (b:=i) (by simp)) hq
      haveI:=y1; haveI:=y2; haveI:=y3; haveI:=y4; haveI:=y5; haveI:=y6; haveI:=y7; haveI:=y8
      have s1:=as0 (ts:=llq a.rs) (u:=4000) (k:=300000) (a:=sX (plE l a j.b j.to).1) (b:=sX (plE l a j.b j.to).2) (a2:=sX (plE l a j.b j.on).1) (b2:=sX (plE l a j.b j.on).2)
      have s2:=as0 (ts:=llq a.rs) (u:=4000) (k:=300000) (a:=sX (aoE a i (mkQ l i j.point)).1) (b:=sX (aoE a i (mkQ l i j.point)).2) (a2:=sX (ad5 l a j0 i).1) (b2:=sX (ad5 l a j0 i).2)
      have s3:=a5y (ts:=llq a.rs) (u:=4000) (k:=300000) (a:=sX ((plE l a j.b j.to).1 - (plE l a j.b j.on).1)) (b:=sX ((plE l a j.b j.to).2 - (plE l a j.b j.on).2)) (a2:=sX ((aoE a i (mkQ l i j.point)).1 - (ad5 l a j0 i).1)) (b2:=sX ((aoE a i (mkQ l i j.point)).2 - (ad5 l a j0 i).2))
      rw [axf D.al.tr D.hc] at s1 s2 s3
      refine gt (aad (Con.rekeyB 900 rfl rfl rfl rfl (bgy D.hl D.li D.al D.hc hgo P.h0 P.h1 P.p0 ha P.hk hb)) (.cons (.tmp rfl) .nil) (by first | exact hH0 | exact hH1 rfl | exact hH2 rfl rfl) rfl rfl) ?_
      refine gi (rfl) ?_
      refine gi (adl (n:=i.toNat) (by omega) hp) ?_
      refine gc (bo3 D (b:=i) hp hn hq) ?_
      refine gt (ac0 (Con.rekeyB 35 rfl rfl rfl rfl (aen _ _ _)) (.cons (.tmp rfl) (.cons (.tmp rfl) (.cons (.tmp rfl) .nil))) rfl rfl rfl) ?_
      refine gD ?_
      refine gc s1 ?_
      refine gt (ac0 (Con.rekeyB 35 rfl rfl rfl rfl (aen _ _ _)) (.cons (.tmp rfl) (.cons (.tmp rfl) (.cons (.tmp rfl) .nil))) rfl rfl rfl) ?_
      refine gc s2 ?_
      refine gt (ac0 (Con.rekeyB 35 rfl rfl rfl rfl (aen _ _ _)) (.cons (.tmp rfl) (.cons (.tmp rfl) (.cons (.tmp rfl) .nil))) rfl rfl rfl) ?_
      refine gc s3 ?_
      refine gt (ac0 (Con.rekeyB 35 rfl rfl rfl rfl (amr _ _)) (.cons (.tmp rfl) (.cons (.tmp rfl) (.cons (.tmp rfl) .nil))) rfl rfl rfl) ?_
      refine gD ?_
      exact jK0 hK1 hk0 (hw:=Wk.of (.cons rfl (Sub.of (congrArg (fun z=>nA (sX z)) hE.symm)) (.k (.k .nil))) (.cons rfl (.refl _) (.cons rfl (.refl _) .nil)))
     ·have hk2:g.kind ≠ 2:=afr ht149
      obtain ⟨i,z0,z1,j0,j,P,ha,hj,hb⟩:=ok.rp hk0 hk1 hk2
      obtain ⟨e0,e1,b0,_⟩:=P.at
      have hE:asj l a g = a5i (sbE (plE l a j.b j.to) (plE l a j.b j.on)) (rpW l a i j0 j):=by unfold asj; rw [if_neg hk0,if_neg hk1,if_neg hk2,e0,e1,b0]
      obtain rfl:=P.eq
      obtain ⟨i1,i2,i3,i4,i5⟩:=aet D.li P.h1
      have hpi:Pd a j.b:=by rw [hj]; exact ok.own (b:=i) (by simp)
      obtain ⟨w1,w2⟩:=bgl D P.h0 P.p0 P.h1 hb
      obtain ⟨y3,y4⟩:=afw D.hl D.li D.al D.hc i2 (i5 P.hk) hpi
      obtain ⟨y7,y8⟩:=afw D.hl D.li D.al D.hc i2 i4 hpi
      haveI:=y3; haveI:=y4; haveI:=y7; haveI:=y8; haveI:=w1; haveI:=w2
      have s1:=as0 (ts:=llq a.rs) (u:=4000) (k:=300000) (a:=sX (plE l a j.b j.to).1) (b:=sX (plE l a j.b j.to).2) (a2:=sX (plE l a j.b j.on).1) (b2:=sX (plE l a j.b j.on).2)
      have s3:=a5y (ts:=llq a.rs) (u:=4000) (k:=300000) (a:=sX ((plE l a j.b j.to).1 - (plE l a j.b j.on).1)) (b:=sX ((plE l a j.b j.to).2 - (plE l a j.b j.on).2)) (a2:=sX (rpW l a i j0 j).1) (b2:=sX (rpW l a i j0 j).2)
      rw [axf D.al.tr D.hc] at s1 s3
      refine gt (ac0 (Con.rekeyB 900 rfl rfl rfl rfl (am9 D.hl _ hgo a rfl P.h1)) (.cons (.tmp rfl) .nil) rfl rfl rfl) ?_
      refine gt (aad (Con.rekeyBB 900 35 (by decide) (by decide) rfl rfl rfl rfl rfl rfl (bic D hgo P.h0 P.h1 P.p0 hj P.hk hb)) (.cons (.tmp rfl) (.cons (.tmp rfl) .nil)) (by first | exact hH0 | exact hH1 rfl | exact hH2 rfl rfl) rfl rfl) ?_
      refine gt (aad (Con.rekeyB 900 rfl rfl rfl rfl (aff D.hl D.li _ D.al D.hc i2 (i5 P.hk) hpi)) (.cons (.tmp rfl) (.cons (.tmp rfl) (.cons (.tmp rfl) .nil))) (by first | exact hH0 | exact hH1 rfl | exact hH2 rfl rfl) rfl rfl) ?_
      refine gt (aad (Con.rekeyB 900 rfl rfl rfl rfl (aff D.hl D.li _ D.al D.hc i2 i4 hpi)) (.cons (.tmp rfl) (.cons (.tmp rfl) (.cons (.tmp rfl) .nil))) (by first | exact hH0 | exact hH1 rfl | exact hH2 rfl rfl) rfl rfl) ?_
      refine gc s1 ?_
      refine gt (ac0 (Con.rekeyB 35 rfl rfl rfl rfl (aen _ _ _)) (.cons (.tmp rfl) (.cons (.tmp rfl) (.cons (.tmp rfl) .nil))) rfl rfl rfl) ?_
      refine gD ?_
      refine gc s3 ?_
      refine gt (ac0 (Con.rekeyB 35 rfl rfl rfl rfl (amr _ _)) (.cons (.tmp rfl) (.cons (.tmp rfl) (.cons (.tmp rfl) .nil))) rfl rfl rfl) ?_
      refine gD ?_
      exact jK0 hK1 hk0 (hw:=Wk.of (.cons rfl (Sub.of (congrArg (fun z=>nA (sX z)) hE.symm)) (.k (.k .nil))) (.cons rfl (.refl _) (.cons rfl (.refl _) .nil)))
  ·rintro hk9
   rw [show a0d l a g = sX (asj l a g) from if_neg hk9]
   refine gC (fun ht219=>?_) (fun ht219=>?_) (st2:=(77777,0))
   ·refine gC (fun ht231=>?_) (fun ht231=>?_) (st1:=(23, 0))
    ·cases ht231
    ·refine gR ?_
     exact aji rfl
   ·cases ht219
theorem beo (l:Li) (hl:l.ok) (k:Int) (a:As) (al:AL a) :
  FnC prog 39 [l.av,i64 k,a.av] (.tup [nA (if dyE l k a true = 0 then a0d l a (gAt l k) else []),ah7 (dyE l k a true)]):=by
 have hop:=a6g l hl k a al true
 by_cases h0:dyE l k a true = 0
 ·obtain ⟨n, g, ok⟩:=a50 h0
  have hgA:gAt l k = g:=by unfold gAt; rw [ok.hk,toNat_natCast]; exact aaf ok.hg
  rw [h0,hgA] at hop ⊢
  exact a57 hop ⟨hl,ok.li,al,ok.chk⟩ ok
 ·rw [a47 h0, a3o h0] at hop
  exact a4k hop h0 _
end Go.Lw
namespace Go.Lw
def acE (l:Li) (xs:List Tn) (a:As):Nat :=
  if liE l ≠ 0 then liE l else if splitE l ≠ 0 then splitE l else if aos l xs ≠ 0 then aos l xs else if (flt l xs a).1 ≠ 0 then 14 else 0
section
variable {l:Li} {xs:List Tn} {a:As}
theorem bp3 (h:liE l ≠ 0):acE l xs a = liE l:=by unfold acE; rw [if_pos h]
theorem bqw (h1:liE l = 0) (h:splitE l ≠ 0):acE l xs a = splitE l:=by unfold acE; rw [if_neg (by omega),if_pos h]
theorem bpg (h1:liE l = 0) (h2:splitE l = 0) (h:aos l xs ≠ 0):acE l xs a = aos l xs:=by unfold acE; rw [if_neg (by omega),if_neg (by omega),if_pos h]
theorem bpd (h1:liE l = 0) (h2:splitE l = 0) (h3:aos l xs = 0) (h:(flt l xs a).1 ≠ 0):acE l xs a = 14:=by unfold acE; rw [if_neg (by omega),if_neg (by omega),if_neg (by omega),if_pos h]
theorem bsd (h1:liE l = 0) (h2:splitE l = 0) (h3:aos l xs = 0) (h:(flt l xs a).1 = 0):acE l xs a = 0:=by unfold acE; rw [if_neg (by omega),if_neg (by omega),if_neg (by omega),if_neg (by omega)]
theorem bsc {e:Nat} (he:(if liE l = 0 then splitE l else liE l) = e) (h:e ≠ 0):acE l xs a = e:=by
 by_cases h1:liE l = 0
 ·rw [if_pos h1] at he; rw [bqw h1 (by omega),he]
 ·rw [if_neg h1] at he; rw [bp3 h1,he]
theorem br8 (h:acE l xs a = 0):liE l = 0 /\ splitE l = 0 /\ aos l xs = 0 /\ (flt l xs a).1 = 0:=by
 by_cases h1:liE l = 0
 ·by_cases h2:splitE l = 0
  ·by_cases h3:aos l xs = 0
   ·by_cases h4:(flt l xs a).1 = 0
    ·exact ⟨h1,h2,h3,h4⟩
    ·rw [bpd h1 h2 h3 h4] at h; cases h
   ·rw [bpg h1 h2 h3] at h; exact absurd h h3
  ·rw [bqw h1 h2] at h; exact absurd h h2
 ·rw [bp3 h1] at h; exact absurd h h1
theorem a10 (hl:l.ok) (hli:liE l = 0) (ha:AL a) (h:(flt l xs a).1 = 0):Good l a:=by
 unfold flt at h
 split at h
 ·cases h
 ·rename_i h1
  have h2:aeb a.rs = 0 /\ a.bs.length = l.bodies.length:=by
   constructor
   ·exact Decidable.byContradiction fun h3=>h1 (.inl h3)
   ·exact Decidable.byContradiction fun h3=>h1 (.inr h3)
  split at h
  ·cases h
  ·rename_i h3
   exact a0c hl hli ha h2.1 h2.2 (ak9 h3)
theorem avx (hg:Good l a) (hs:splitE l = 0) {k:Nat} (hk:k < (splitG l).length) (own:Bool):dyE l k a own = 0:=by
 obtain ⟨g,hgk⟩:=abt hk
 have e:gAt l k = g:=aaf hgk
 obtain ⟨d1,d2⟩:=amv hg.li (mem_of_getElem? hgk)
 rw [bk1 hg.li]
 unfold a3n
 rw [if_neg (by omega),if_neg (by omega),if_neg (by have:=hg.ln; omega),if_neg (by have:=hg.ck; omega),e]
 refine ak2 fun b hb=>?_
 have hb2:b ∈ ndL l g own:=az4.1 hb
 have h1:=ba2 hg.li d2 b hb2
 unfold ndE
 by_cases h0:b < 0
 ·rw [if_pos h0]
 ·obtain ⟨p, hp⟩ := abt (l := a.bs) (i := b.toNat) (by have := hg.ln; omega)
  rw [if_neg h0,aaf hp]
  exact hg.cb p (mem_of_getElem? hp)
end
end Go.Lw
namespace Go.Lw
open Go.Proofs
end Go.Lw
namespace Go.Lw
open Go.Proofs
end Go.Lw
namespace Go.Lw
open Go.Proofs
theorem aeg {ts:List (List Rat)} {r e f:Nat} (tw:Tw ts r) {x:List Rat} (hx:Nm ts.length e x) {v:Rat} (hv:Qb f v) (he:e + 2 * f <= 900000000) :
  FnC prog 304 [ad7 ts,nA x,qA v] (bl (eqT ts (dec ts.length x) (dec ts.length (sh 0 (v:Rat))))):=by
 have hlm:=aea ts.length
 refine gF0 func304 ?_
 refine gc (aw2 (hv.qs (by omega))) ?_
 refine gc (a2h tw hx (bkw tw.five hv) (by omega)) ?_
 refine gD ?_
 refine gE1 ?_
 exact congrArg bl (ayd _)
theorem aoo {rs:List (List Rt)} {r e f:Nat} (h0:TR rs r) (h1:aeb rs = 0) {x:List Rt} (hx:NR x e) (hn:agk rs.length x ≠ 0) {v:Rat} (hv:Qb f v) (he:e + 2 * f <= 900000000) :
  FnC prog 304 [ae5 rs,nR x,qA v] (bl false):=by
 have hlm:=aea rs.length
 have hlm2:=aea 0
 have hf:=(bkw (n:=0) (by omega) hv).rt (by omega)
 have hc:=aq2 rs r h0 x ((sh 0 (v:Rat)).map rt) e (f + f) hx hf (by omega)
 rw [af5] at hc
 have h2:aaz rs [x,(sh 0 (v:Rat)).map rt] ≠ 0:=fun h=>hn ((ado h).2 x (by simp))
 refine gF0 func304 ?_
 refine gc (aw2 (hv.qs (by omega))) ?_
 refine gc hc ?_
 refine gD ?_
 refine gE1 ?_
 rw [amn,decide_eq_false h2]; rfl
def eqR (rs:List (List Rt)) (x:List Rt) (v:Rat):Bool:=decide (agk rs.length x = 0) && eqT (llq rs) (amy (llq rs) x) (dec (llq rs).length (sh 0 (v:Rat)))
theorem ajg {rs:List (List Rt)} {r e f:Nat} (h0:TR rs r) (h1:aeb rs = 0) {x:List Rt} (hx:NR x e) {v:Rat} (hv:Qb f v) (he:e + 2 * f <= 900000000) :
  FnC prog 304 [ae5 rs,nR x,qA v] (bl (eqR rs x v)):=by
 unfold eqR
 by_cases hn:agk rs.length x = 0
 ·rw [decide_eq_true hn, Bool.true_and]
  obtain ⟨tw,hta⟩:=ab3 h0 h1
  obtain ⟨e1,e2⟩:=hx.num hn
  have hl:(llq rs).length = rs.length:=length_map _
  rw [hta,e1]
  exact aeg tw ⟨tw.five,by rw [hl]; exact e2,hx.cb⟩ hv he
 ·rw [decide_eq_false hn, Bool.false_and]
  exact aoo h0 h1 hx hn hv he
def a14 (rs:List (List Rt)) (b:Pl):Bool:=eqR rs b.c 1 && eqR rs b.s 0 && eqR rs b.x 0 && eqR rs b.y 0
theorem aq4 {rs:List (List Rt)} {r:Nat} (h0:TR rs r) (h1:aeb rs = 0) {b:Pl} (hb:∀ x ∈ b.l, NR x 4000):FnC prog 245 [ae5 rs, b.av] (bl (a14 rs b)):=by
 have hq:∀ x ∈ b.l, FnC prog 304 [ae5 rs, nR x, .agg [.v (.bool false), .v (.slice none 0 0), .v (.slice none 0 0)]] (bl (eqR rs x 0)):=fun x hx =>
  Con.subA (.cons (.refl _) (.cons (.refl _) (.cons ai2 .nil))) (ajg h0 h1 (hb x hx) Qb.zero (by omega))
 refine gF0 func245 ?_
 refine gc (ad2 1 (by omega)) ?_
 refine gc (show FnC prog 304 [ae5 rs,nR b.c,qA ((1:Int):Rat)] (bl (eqR rs b.c 1)) from ajg h0 h1 (hb b.c (by simp [Pl.l])) Qb.one (by omega)) ?_
 refine gcG (fun _=>(hq b.s (by simp [Pl.l]))) ?_
 refine gcG (fun _=>(hq b.x (by simp [Pl.l]))) ?_
 refine gcG (fun _=>(hq b.y (by simp [Pl.l]))) ?_
 refine gD ?_
 refine gE1 ?_
 exact congrArg bl (ax6 _ _ _ _)
theorem ar4 {rs:List (List Rt)} (h0:TR rs 40000) (h1:aeb rs = 0) {b:Pl} (hb:∀ x ∈ b.l, NR x 4000):FnC prog 244 [ae5 rs, b.av] (bl (decide (aaz rs b.l = 0) && a29 (llq rs) b)):=by
 obtain ⟨tw,hta⟩:=ab3 h0 h1
 have kb:=kb4 tw.three
 have hlm:=aea rs.length
 have hlm2:=aea (llq rs).length
 have h5:rs.length <= 5:=by have:=tw.five; rwa [length_map] at this
 have hll:(llq rs).length = rs.length:=length_map _
 refine gF0 func244 ?_
 refine ge rfl ?_
 refine gL1 [2,3,18,19] [2,3] (fun (k:Nat)=>[(20,some (i64 k))]) (fun _=>[]) (fun k=>k <= 4 /\ ∀ x ∈ b.l.take k,agk rs.length x = 0) (fun k=>4 - k) 0 ⟨zero_le _,fun x hx=>by simp at hx⟩ ?_
 rintro k ⟨hk,hkj⟩ K1 hK1
 refine gC (fun ht21=>?_) (fun ht21=>?_) (st2:=(7,0))
 ·have hkn:k < 4:=abd (b:=4) ht21
  obtain ⟨x,hx⟩:∃ x,b.l[k]? = some x:=abt (l:=b.l) hkn
  have hxn:=hb x (mem_of_getElem? hx)
  have hone:aaz rs [x] = agk rs.length x:=as8 h1
  refine gi (aae hx) ?_
  refine gc (as9 rs 40000 h0 x 4000 hxn) ?_
  refine gC (fun ht27=>?_) (fun ht27=>?_)
  ·have h4:=of_decide_eq_false (adh ht27)
   rw [hone] at h4
   refine gE1 ?_
   rw [apl h1 hx hkj h4,decide_eq_false h4]; rfl
  ·have h4:=of_decide_eq_true (adi ht27)
   rw [hone] at h4
   refine ga aat ?_
   exact gK1 hK1 (k + 1) ⟨hkn,fun y hy=>by rw [aao hx] at hy; rcases List.mem_append.1 hy with h9 | h9; exact hkj y h9; (rw [List.mem_singleton.1 h9]; exact h4)⟩
 ·have hkn:k = 4:=aaj (b:=4) hk ht21
  subst hkn
  have h4:aaz rs b.l = 0:=ai6 h1 hkj
  obtain ⟨hba,hbo⟩:=ag4 h4 hb h5
  rw [<- hll] at hbo
  have hdn:=avp tw hbo.c hbo.s hbo.c hbo.s
  have hdot:=apy tw hbo.c hbo.s hbo.c hbo.s (by omega)
  have heq:=aeg tw hdn Qb.one (by omega)
  rw [aby] at heq
  refine gW (Wk.of (sl:=[(2,some (.ptr 2 0)),(3,some (.ptr 3 0))]) (hp:=[(2,some (.box (ad7 (llq rs)).cells)),(3,some (.box (Pq.av ⟨lq b.c,lq b.s,lq b.x,lq b.y⟩).cells))]) ab0 (.cons rfl (BlkSub.of (congrArg (fun v=>Blk.box (AV.cells v)) hta)) (.cons rfl (BlkSub.of (congrArg (fun v=>Blk.box (AV.cells v)) hba)) .nil))) ?_
  refine gc hdot ?_
  refine gcG (fun _=>(ad2 1 (by omega))) ?_
  refine gcG (fun _=>heq) ?_
  refine gD ?_
  refine gE1 ?_
  rw [h4]; rfl
theorem aon {ts:List (List Rat)} (tw:Tw ts 40000) {b:Pl} (hb:Pq.ok ts.length 4000 ⟨lq b.c, lq b.s, lq b.x, lq b.y⟩) {x:Tn} (hx:x.t.ok) (he:x.err = 0) (hq:Qb 1000 x.t.q) :
  FnC prog 251 [ad7 ts,Pq.av ⟨lq b.c,lq b.s,lq b.x,lq b.y⟩,x.av] (bl (a4b ts b x)):=by
 have hc:=a4t x hx hq (by omega)
 rw [if_pos he,he] at hc
 have hs:=a30 x hx hq (by omega)
 rw [if_pos he,he] at hs
 refine gF0 func251 ?_
 refine gc hc ?_
 refine gC (fun ht16=>?_) (fun ht16=>?_) (st1:=(3,0))
 ·cases ht16
 ·refine gc hs ?_
  refine gcG (fun _=>(aeg tw hb.c (a72 hq) (by omega))) ?_
  refine gcG (fun _=>(aeg tw hb.s (a88 hq) (by omega))) ?_
  refine gE1 ?_
  exact congrArg bl (adf _ _)
theorem ai9 {l:Li} {a:As} (hg:Good l a) {body pt:Int} (h1:inB body l.bodies.length = true) (h2:inB pt (adz l body).length = true) :
  FnC prog 305 [l.av,a.av,i64 body,i64 pt] (.tup [ptA (sh (llq a.rs).length (ai4 l a body pt).1) (sh (llq a.rs).length (ai4 l a body pt).2),.v .nilIface]):=by
 obtain ⟨n,k,bd,m,b,hp⟩:=hg.at h1 h2
 obtain ⟨tw,hta,h5,hll⟩:=hg.tw
 have kb:=kb4 tw.three
 have hlm:=aea a.rs.length
 have hlm2:=aea (llq a.rs).length
 obtain ⟨hba,hbo⟩:=hg.pl hp.gb
 have hlb:=hg.lo.lb
 have hn:=hp.hn
 have hk:=hp.hk
 rw [hp.eq]
 subst hn
 subst hk
 have hat:FnC prog 86 [ae5 a.rs, b.av, m.x.av, m.y.av] (.tup [ptA (sh (llq a.rs).length (atP (llq a.rs) b m).1) (sh (llq a.rs).length (atP (llq a.rs) b m).2), .v .nilIface]):=by
  rw [hta,hba,hp.mx,hp.my]
  exact aj5 tw hbo.c hbo.s hbo.x hbo.y hp.qx hp.qy (by omega)
 refine gF0 func305 ?_
 refine gi (aae hp.gbd) ?_
 refine gi (aae hp.gm) ?_
 refine gi (aae hp.gb) ?_
 refine gc hat ?_
 refine gD ?_
 refine gE2 ?_
 first | rfl | (simp; done)
theorem aub {l:Li} {a:As} (hg:Good l a) {body pt:Int} (h1:inB body l.bodies.length = true) (h2:inB pt (adz l body).length = true) :
  FnC prog 186 [l.av,a.av,i64 body,i64 pt] (ptA (sh (llq a.rs).length (ai4 l a body pt).1) (sh (llq a.rs).length (ai4 l a body pt).2)):=by
 obtain ⟨n,k,bd,m,b,hp⟩:=hg.at h1 h2
 obtain ⟨tw,hta,h5,hll⟩:=hg.tw
 have kb:=kb4 tw.three
 have hlm:=aea a.rs.length
 have hlm2:=aea (llq a.rs).length
 obtain ⟨hba,hbo⟩:=hg.pl hp.gb
 have hlb:=hg.lo.lb
 have hn:=hp.hn
 have hk:=hp.hk
 rw [hp.eq]
 subst hn
 subst hk
 have hat:FnC prog 198 [ae5 a.rs, b.av, m.x.av, m.y.av] (ptA (sh (llq a.rs).length (atP (llq a.rs) b m).1) (sh (llq a.rs).length (atP (llq a.rs) b m).2)):=by
  rw [hta,hba,hp.mx,hp.my]
  exact a0q tw hbo.c hbo.s hbo.x hbo.y hp.qx hp.qy (by omega)
 refine gF0 func186 ?_
 refine gi (aae hp.gbd) ?_
 refine gi (aae hp.gm) ?_
 refine gi (aae hp.gb) ?_
 refine gc hat ?_
 refine gD ?_
 refine gE1 ?_
 first | rfl | (simp; done)
theorem ase {l:Li} {a:As} (hg:Good l a) {body pt:Int} (h1:inB body l.bodies.length = true) (h2:inB pt (adz l body).length = true) :
  Nm (llq a.rs).length 6000000 (sh (llq a.rs).length (ai4 l a body pt).1) /\ Nm (llq a.rs).length 6000000 (sh (llq a.rs).length (ai4 l a body pt).2):=by
 obtain ⟨n,k,bd,m,b,hp⟩:=hg.at h1 h2
 obtain ⟨tw,hta,h5,hll⟩:=hg.tw
 have kb:=kb4 tw.three
 have hlm:=aea a.rs.length
 have hlm2:=aea (llq a.rs).length
 rw [hp.eq]
 have h:=bd7 tw (hg.pl hp.gb).2 hp.qx hp.qy
 exact ⟨h.1.mono (by omega),h.2.mono (by omega)⟩
theorem arn {l:Li} {a:As} (hg:Good l a) {i:Nat} {j:Jt} (hj:l.joints[i]? = some j):FnC prog 248 [l.av, a.av, j.av] (bl (ag2 l a j)):=by
 obtain ⟨tw,hta,h5,hll⟩:=hg.tw
 have kb:=kb4 tw.three
 have hlm:=aea a.rs.length
 have hlm2:=aea (llq a.rs).length
 obtain ⟨i1,i2,i3,i4,i5⟩:=aet hg.li hj
 have np:=ase hg i1 i3
 have nq:=ase hg i2 i4
 have hsame:=avl tw np.1 np.2 nq.1 nq.2 (by omega)
 simp only [aby] at hsame
 rw [<- hta] at hsame
 refine gF0 func248 ?_
 refine gc (ai9 hg i1 i3) ?_
 refine gC (fun ht25=>?_) (fun ht25=>?_) (st1:=(3,0))
 ·cases ht25
 ·refine gc (ai9 hg i2 i4) ?_
  refine gC (fun ht37=>?_) (fun ht37=>?_) (st1:=(6,0))
  ·cases ht37
  ·refine gC (fun ht40=>?_) (fun ht40=>?_)
   ·have hk:j.kind = 0:=aes ht40
    refine gc hsame ?_
    refine gE1 ?_
    unfold ag2; rw [if_pos hk]; exact congrArg bl (Bool.decide_and _ _)
   ·have hk:j.kind ≠ 0:=afr ht40
    have nr:=ase hg i2 (i5 hk)
    have hor:=ar3 tw nq.1 nq.2 nr.1 nr.2 np.1 np.2 (by omega)
    simp only [aby] at hor
    rw [<- hta] at hor
    refine gc (ai9 hg i2 (i5 hk)) ?_
    refine gC (fun ht65=>?_) (fun ht65=>?_) (st1:=(12,0))
    ·cases ht65
    ·refine gc hor ?_
     refine gE1 ?_
     unfold ag2; rw [if_neg hk]; exact congrArg bl (ayd _)
theorem azg {l:Li} {a:As} (hg:Good l a) {i:Nat} {j:Jt} (hj:l.joints[i]? = some j):FnC prog 100 [l.av, a.av, j.av] (bl (ag2 l a j)):=by
 obtain ⟨tw,hta,h5,hll⟩:=hg.tw
 have kb:=kb4 tw.three
 have hlm:=aea a.rs.length
 have hlm2:=aea (llq a.rs).length
 obtain ⟨i1,i2,i3,i4,i5⟩:=aet hg.li hj
 have np:=ase hg i1 i3
 have nq:=ase hg i2 i4
 have hsame:=aou tw np.1 np.2 nq.1 nq.2 (by omega)
 simp only [aby] at hsame
 rw [<- hta] at hsame
 refine gF0 func100 ?_
 refine gc (aub hg i1 i3) ?_
 refine gc (aub hg i2 i4) ?_
 refine gD ?_
 refine gC (fun ht25=>?_) (fun ht25=>?_)
 ·have hk:j.kind = 0:=aes ht25
  refine gc hsame ?_
  refine gE1 ?_
  unfold ag2; rw [if_pos hk]
 ·have hk:j.kind ≠ 0:=afr ht25
  have nr:=ase hg i2 (i5 hk)
  have hor:=aok tw nq.1 nq.2 nr.1 nr.2 np.1 np.2 (by omega)
  simp only [aby] at hor
  rw [<- hta] at hor
  refine gc (aub hg i2 (i5 hk)) ?_
  refine gc hor ?_
  refine gD ?_
  refine gE1 ?_
  unfold ag2; rw [if_neg hk]; exact congrArg bl ak6
end Go.Lw
namespace Go.Lw
open Go.Proofs
theorem a21 {a:As} (ha:AL a) (h1:aeb a.rs = 0) {i:Nat} {b:Pl} (hb:a.bs[i]? = some b):FnC prog 99 [a.av, i64 i] (bl (akf a.rs i b)):=by
 have hbl:=ha.bl
 have hi:=(List.getElem?_eq_some_iff.1 hb).1
 obtain ⟨tw,hta⟩:=ab3 ha.tr h1
 have kb:=kb4 tw.three
 have hlm:=aea a.rs.length
 have hlm2:=aea (llq a.rs).length
 have h5:a.rs.length <= 5:=by have:=tw.five; rwa [length_map] at this
 have hll:(llq a.rs).length = a.rs.length:=length_map _
 have hbn:=ha.nr b (mem_of_getElem? hb)
 refine gF0 func99 ?_
 refine gi (aae hb) ?_
 refine gc (av0 a.rs 40000 4000 ha.tr b.l hbn (by omega) (by show 4 <= _; omega)) ?_
 refine gC (fun ht24=>?_) (fun ht24=>?_) (st2:=(77777,0))
 ·have h4:=af6 ht24
  refine gE1 ?_
  unfold akf; rw [decide_eq_false h4]; rfl
 ·have h4:=af0 ht24
  obtain ⟨hba,hbo⟩:=ag4 h4 hbn h5
  rw [<- hll] at hbo
  have hdn:=avp tw hbo.c hbo.s hbo.c hbo.s
  have hdot:=arc tw hbo.c hbo.s hbo.c hbo.s (by omega)
  rw [<- hta] at hdot
  have heq:=acq tw hdn (bkw (q:=((1:Int):Rat)) tw.five Qb.one) (by omega)
  rw [aby,<- hta] at heq
  have hfq:awk.ok (llq a.rs).length 4000:=bcf tw.five
  have hsp:=aor tw hbo.c hbo.s hbo.x hbo.y hfq.c hfq.s hfq.x hfq.y (by omega)
  rw [<- hta] at hsp
  refine gW (Wk.of (sl:=[(1,some (i64 i)),(2,some (.ptr 2 0)),(5,some (.ptr 5 0))]) (hp:=[(2,some (.box a.av.cells)),(5,some (.box (Pq.av ⟨lq b.c,lq b.s,lq b.x,lq b.y⟩).cells))]) ab0 (.cons rfl (.refl _) (.cons rfl (BlkSub.of (congrArg (fun v=>Blk.box (AV.cells v)) hba)) .nil))) ?_
  refine gc hdot ?_
  refine gc (axv 1 (by omega)) ?_
  refine gc heq ?_
  refine gD ?_
  refine gC (fun ht39=>?_) (fun ht39=>?_)
  ·have h6:=adh ht39
   refine gE1 ?_
   unfold akf; rw [show a29 (llq a.rs) b = false from h6,Bool.false_and,Bool.and_false]; rfl
  ·have h6:=adi ht39
   refine gcG (fun _=>aza) ?_
   refine gcG (fun _=>hsp) ?_
   refine gD ?_
   refine gE1 ?_
   unfold akf; rw [h4,show a29 (llq a.rs) b = true from h6]; exact congrArg bl a9k
theorem a75 (l:Li) (hl:l.ok) (xs:List Tn) (hx:∀ x ∈ xs, x.t.ok) (hxl:xs.length <= 281474976710656):FnC prog 42 [l.av, .lst 4 (xs.map Tn.av)] (i64 (aos l xs)):=by
 have hld:=hl.ld
 refine gF0 func42 ?_
 refine gc (alf l hl) ?_
 refine gC (fun ht12=>?_) (fun ht12=>?_)
 ·have h1:=af6 ht12
  refine gE1 ?_
  rw [azn h1]
 ·have h1:=af0 ht12
  refine gl ?_
  refine gl ?_
  refine gC (fun ht19=>?_) (fun ht19=>?_)
  ·have h2 : xs.length ≠ l.drivers.length := by have := ajb ht19; omega
   refine gE1 ?_
   rw [atl h1 h2]; rfl
  ·have h2 : xs.length = l.drivers.length := by have := ams ht19; omega
   refine gl ?_
   refine gL1 [20,21] [] (fun (i:Nat)=>[(22,some (i64 i))]) (fun _=>[]) (fun i=>i <= xs.length /\ ∀ x ∈ xs.take i,x.err = 0) (fun i=>xs.length - i) 0 ⟨zero_le _,fun x hx=>by simp at hx⟩ ?_
   rintro i ⟨hi,hj⟩ K1 hK1
   refine gC (fun ht23=>?_) (fun ht23=>?_)
   ·have hin:=abd ht23
    obtain ⟨x,hxx⟩:=abt hin
    refine gi (aae hxx) ?_
    refine gc (ayo x (hx x (mem_of_getElem? hxx))) ?_
    refine gC (fun ht29=>?_) (fun ht29=>?_)
    ·have h3:=af6 ht29
     refine gE1 ?_
     rw [a86 h1 h2 hxx hj h3]
    ·have h3:=af0 ht29
     refine ga aat ?_
     exact gK1 hK1 (i + 1) ⟨hin,fun y hy=>by rw [aao hxx] at hy; rcases List.mem_append.1 hy with h9 | h9; exact hj y h9; (rw [List.mem_singleton.1 h9]; exact h3)⟩
   ·have hin:=aaj hi ht23
    subst hin
    rw [take_length] at hj
    refine gE1 ?_
    rw [bgb h1 h2 hj]; rfl
theorem ax8 {l:Li} (hl:l.ok) (hli:liE l = 0) (xs:List Tn) (hx:∀ x ∈ xs, x.t.ok /\ x.err = 0 /\ Qb 1000 x.t.q) (hxl:xs.length = l.drivers.length) {a:As} (ha:AL a):FnC prog 43 [l.av, .lst 4 (xs.map Tn.av), a.av] (brq (flt l xs a)):=by
 have hbl:=ha.bl
 have hlm:=aea a.rs.length
 have hlm2:=aea (llq a.rs).length
 have hlj:=hl.lj
 have hld:=hl.ld
 refine gF0 func43 ?_
 refine gc (Con.subA (.cons (.refl _) (.cons (Sub.nil 1 none 0) .nil)) (av0 a.rs 40000 4000 ha.tr [] (fun x hx=>by cases hx) (by omega) (by show 0 <= _; omega))) ?_
 refine glG ?_
 refine glG ?_
 refine gC (fun ht25=>?_) (fun ht25=>?_)
 ·have h1:aeb a.rs ≠ 0 \/ a.bs.length ≠ l.bodies.length:=bp0 ht25
  refine gE1 ?_
  rw [bnf h1]; rfl
 ·have h1:¬ (aeb a.rs ≠ 0 \/ a.bs.length ≠ l.bodies.length):=bpy ht25
  have hc:aeb a.rs = 0:=Decidable.not_not.1 (fun h=>h1 (.inl h))
  have hln:a.bs.length = l.bodies.length:=Decidable.not_not.1 (fun h=>h1 (.inr h))
  refine gl ?_
  refine gL1 [1,3,5,6,29] [3,5,6] (fun (i:Nat)=>[(30,some (i64 i))]) (fun _=>[]) (fun i=>i <= a.bs.length /\ ∀ j,j < i -> akf a.rs j (a.bs.getD j default) = true) (fun i=>a.bs.length - i) 0 ⟨zero_le _,fun j h=>by omega⟩ ?_
  rintro i ⟨hi,hj⟩ K1 hK1
  refine gC (fun ht31=>?_) (fun ht31=>?_)
  ·have hin:=abd ht31
   obtain ⟨b,hb⟩:=abt hin
   have hbd:a.bs.getD i default = b:=aaf hb
   refine gc (a21 ha hc hb) ?_
   refine gC (fun ht36=>?_) (fun ht36=>?_)
   ·have h2:=adh ht36
    refine gE1 ?_
    rw [bl6 h1 (abx hin hj (by rw [hbd]; exact h2))]; rfl
   ·have h2:=adi ht36
    refine ga aat ?_
    exact gK1 hK1 (i + 1) ⟨hin,fun j h9=>by rcases lt_or_ge j i with g | g; exact hj j g; (have:j = i:=by omega); subst this; rw [hbd]; exact h2⟩
  ·have hin:=aaj hi ht31
   subst hin
   have f1:=abj hj
   have hg:=a0c hl hli ha hc hln hj
   refine gl ?_
   refine gL1 [1,3,5,6,41,42] [3,5,6] (fun (i:Nat)=>[(43,some (i64 i))]) (fun _=>[]) (fun i=>i <= l.joints.length /\ ∀ j,j < i -> ag2 l a (l.joints.getD j default) = true) (fun i=>l.joints.length - i) 0 ⟨zero_le _,fun j h=>by omega⟩ ?_
   rintro i ⟨hi2,hj2⟩ K2 hK2
   refine gC (fun ht44=>?_) (fun ht44=>?_)
   ·have hin:=abd ht44
    obtain ⟨j,hjt⟩:=abt hin
    have hjd:l.joints.getD i default = j:=aaf hjt
    refine gi (aae hjt) ?_
    refine gc (azg hg hjt) ?_
    refine gC (fun ht52=>?_) (fun ht52=>?_)
    ·have h2:=adh ht52
     refine gE1 ?_
     rw [bos h1 f1 (abx hin hj2 (by rw [hjd]; exact h2))]; rfl
    ·have h2:=adi ht52
     refine ga aat ?_
     exact gK1 hK2 (i + 1) ⟨hin,fun j h9=>by rcases lt_or_ge j i with g | g; exact hj2 j g; (have:j = i:=by omega); subst this; rw [hjd]; exact h2⟩
   ·have hin:=aaj hi2 ht44
    subst hin
    have f2:=abj hj2
    obtain ⟨tw,hta,h5,hll⟩:=hg.tw
    refine gl ?_
    refine gL1 [1,3,5,6,57,58] [3,5,6] (fun (i:Nat)=>[(59,some (i64 i))]) (fun _=>[]) (fun i=>i <= l.drivers.length /\ ∀ j,j < i -> ahi l xs a j = true) (fun i=>l.drivers.length - i) 0 ⟨zero_le _,fun j h=>by omega⟩ ?_
    rintro i ⟨hi3,hj3⟩ K3 hK3
    refine gC (fun ht60=>?_) (fun ht60=>?_)
    ·have hin:=abd ht60
     obtain ⟨d,hd⟩:=abt hin
     obtain ⟨n,b,x,hq⟩:=hg.dr hx hxl hd
     obtain ⟨dname,dbody⟩:=d
     have hqn:dbody = n:=hq.hn
     subst hqn
     have hqb:({ name:=dname,body:=(n:Int) }:Dr).body = (n:Int):=rfl
     have hxo:=hx x (mem_of_getElem? hq.gx)
     have hc1:FnC prog 102 [x.av] (qA (bbg x.half x.t.q)):=by have h:=a97 x.half hxo.2.2 (by omega); rw [<- Rt.eq_rt hxo.1 (Tn.ok_valid hxo.2.1)] at h; exact h
     have hs1:FnC prog 103 [x.av] (qA (bbi x.half x.t.q)):=by have h:=ba8 x.half hxo.2.2 (by omega); rw [<- Rt.eq_rt hxo.1 (Tn.ok_valid hxo.2.1)] at h; exact h
     have ec:FnC prog 27 [ae5 a.rs,nR b.c,nA (sh 0 (bbg x.half x.t.q:Rat))] (bl (eqT (llq a.rs) (amy (llq a.rs) b.c) (dec (llq a.rs).length (sh 0 (bbg x.half x.t.q:Rat))))):=by rw [hta,hq.ec]; exact acq tw hq.po.c (bkw tw.five (a72 hxo.2.2)) (by omega)
     have es:FnC prog 27 [ae5 a.rs,nR b.s,nA (sh 0 (bbi x.half x.t.q:Rat))] (bl (eqT (llq a.rs) (amy (llq a.rs) b.s) (dec (llq a.rs).length (sh 0 (bbi x.half x.t.q:Rat))))):=by rw [hta,hq.es]; exact acq tw hq.po.s (bkw tw.five (a88 hxo.2.2)) (by omega)
     refine gi (aae hd) ?_
     refine gi (aae hq.gb) ?_
     refine gi (aae hq.gx) ?_
     refine gc hc1 ?_
     refine gc (azr ((a72 hxo.2.2).qs (by omega))) ?_
     refine gc ec ?_
     refine giG (fun _=>(aae hq.gx)) ?_
     refine gcG (fun _=>hs1) ?_
     refine gcG (fun _=>(azr ((a88 hxo.2.2).qs (by omega)))) ?_
     refine gcG (fun _=>es) ?_
     refine gD ?_
     refine gC (fun ht95=>?_) (fun ht95=>?_)
     ·have h2 : ahi l xs a i = false := by rw [hq.eq]; unfold a4b; rcases bfd ht95 with g | g; (rw [g]; rfl); (rw [g, Bool.and_false])
      refine gE1 ?_
      rw [bl9 h1 f1 f2 (abx hin hj3 h2)]; rfl
     ·have h2 : ahi l xs a i = true := by rw [hq.eq]; unfold a4b; have g := bf8 ht95; rw [g.1, g.2]; rfl
      refine ga aat ?_
      exact gK1 hK3 (i + 1) ⟨hin,fun j h9=>by rcases lt_or_ge j i with g | g; exact hj3 j g; (have:j = i:=by omega); subst this; exact h2⟩
    ·have hin:=aaj hi3 ht60
     subst hin
     have f3:=abj hj3
     refine gE1 ?_
     rw [bll h1 f1 f2 f3]; rfl
end Go.Lw
namespace Go.Lw
open Go.Proofs
theorem ar0 (bs:List Pl) (hl:bs.length <= 281474976710656) (f:FuncId) (c:List AV) (ok:Nat -> Bool)
  (hf:∀ (i:Nat) (b:Pl),bs[i]? = some b -> (∀ j,j < i -> ok j = true) -> FnC prog f ([i64 i,b.av] ++ [.iptr c]) (bl (!ok i))) :
  FnC prog 242 [.lst 4 (bs.map Pl.av),.fn f [.iptr c]] (i64 (ixI (abi bs.length ok))):=by
 refine gF0 func242 ?_
 refine gl ?_
 refine gL1 [1,7,8] [] (fun (i:Nat)=>[(9,some (i64 i))]) (fun _=>[]) (fun i=>i <= bs.length /\ ∀ j,j < i -> ok j = true) (fun i=>bs.length - i) 0 ⟨zero_le _,fun j h=>by omega⟩ ?_
 rintro i ⟨hi,hj⟩ K1 hK1
 refine gC (fun ht10=>?_) (fun ht10=>?_)
 ·have hin:=abd ht10
  obtain ⟨b,hb⟩:=abt hin
  refine gi (aae hb) ?_
  refine gs (aqf (.tmp rfl) (hf i b hb hj) (.cons (.tmp rfl) (.cons (.tmp rfl) .nil)) (by first | exact hH0 | exact hH1 rfl | exact hH2 rfl rfl) rfl rfl) ?_
  refine gC (fun ht17=>?_) (fun ht17=>?_)
  ·have h2:=adh ht17
   refine gE1 ?_
   rw [abx hin hj h2]; rfl
  ·have h2:=adi ht17
   refine ga aat ?_
   exact gK1 hK1 (i + 1) ⟨hin,fun j h9=>by rcases lt_or_ge j i with g | g; exact hj j g; (have:j = i:=by omega); subst this; exact h2⟩
 ·have hin:=aaj hi ht10
  subst hin
  refine gE1 ?_
  rw [abj hj]; rfl
theorem as7 (bs:List Jt) (hl:bs.length <= 281474976710656) (f:FuncId) (c d:List AV) (ok:Nat -> Bool)
  (hf:∀ (i:Nat) (b:Jt),bs[i]? = some b -> (∀ j,j < i -> ok j = true) -> FnC prog f ([i64 i,b.av] ++ [.iptr c,.iptr d]) (bl (!ok i))) :
  FnC prog 246 [.lst 7 (bs.map Jt.av),.fn f [.iptr c,.iptr d]] (i64 (ixI (abi bs.length ok))):=by
 refine gF0 func246 ?_
 refine gl ?_
 refine gL1 [1,7,8] [] (fun (i:Nat)=>[(9,some (i64 i))]) (fun _=>[]) (fun i=>i <= bs.length /\ ∀ j,j < i -> ok j = true) (fun i=>bs.length - i) 0 ⟨zero_le _,fun j h=>by omega⟩ ?_
 rintro i ⟨hi,hj⟩ K1 hK1
 refine gC (fun ht10=>?_) (fun ht10=>?_)
 ·have hin:=abd ht10
  obtain ⟨b,hb⟩:=abt hin
  refine gi (aae hb) ?_
  refine gs (aqf (.tmp rfl) (hf i b hb hj) (.cons (.tmp rfl) (.cons (.tmp rfl) .nil)) (by first | exact hH0 | exact hH1 rfl | exact hH2 rfl rfl) rfl rfl) ?_
  refine gC (fun ht17=>?_) (fun ht17=>?_)
  ·have h2:=adh ht17
   refine gE1 ?_
   rw [abx hin hj h2]; rfl
  ·have h2:=adi ht17
   refine ga aat ?_
   exact gK1 hK1 (i + 1) ⟨hin,fun j h9=>by rcases lt_or_ge j i with g | g; exact hj j g; (have:j = i:=by omega); subst this; exact h2⟩
 ·have hin:=aaj hi ht10
  subst hin
  refine gE1 ?_
  rw [abj hj]; rfl
theorem arv (bs:List Dr) (hl:bs.length <= 281474976710656) (f:FuncId) (c d:List AV) (ok:Nat -> Bool)
  (hf:∀ (i:Nat) (b:Dr),bs[i]? = some b -> (∀ j,j < i -> ok j = true) -> FnC prog f ([i64 i,b.av] ++ [.iptr c,.iptr d]) (bl (!ok i))) :
  FnC prog 249 [.lst 2 (bs.map Dr.av),.fn f [.iptr c,.iptr d]] (i64 (ixI (abi bs.length ok))):=by
 refine gF0 func249 ?_
 refine gl ?_
 refine gL1 [1,7,8] [] (fun (i:Nat)=>[(9,some (i64 i))]) (fun _=>[]) (fun i=>i <= bs.length /\ ∀ j,j < i -> ok j = true) (fun i=>bs.length - i) 0 ⟨zero_le _,fun j h=>by omega⟩ ?_
 rintro i ⟨hi,hj⟩ K1 hK1
 refine gC (fun ht10=>?_) (fun ht10=>?_)
 ·have hin:=abd ht10
  obtain ⟨b,hb⟩:=abt hin
  refine gi (aae hb) ?_
  refine gs (aqf (.tmp rfl) (hf i b hb hj) (.cons (.tmp rfl) (.cons (.tmp rfl) .nil)) (by first | exact hH0 | exact hH1 rfl | exact hH2 rfl rfl) rfl rfl) ?_
  refine gC (fun ht17=>?_) (fun ht17=>?_)
  ·have h2:=adh ht17
   refine gE1 ?_
   rw [abx hin hj h2]; rfl
  ·have h2:=adi ht17
   refine ga aat ?_
   exact gK1 hK1 (i + 1) ⟨hin,fun j h9=>by rcases lt_or_ge j i with g | g; exact hj j g; (have:j = i:=by omega); subst this; exact h2⟩
 ·have hin:=aaj hi ht10
  subst hin
  refine gE1 ?_
  rw [abj hj]; rfl
theorem ay5 {a:As} (ha:AL a) (h1:aeb a.rs = 0) {i:Nat} {b:Pl} (hbn:∀ x ∈ b.l, NR x 4000) :
  cond (!(decide (aaz a.rs b.l = 0) && a29 (llq a.rs) b)) true (cond (aaa .eql (i:Int) 0) (!a14 a.rs b) false) = !akf a.rs i b:=by
 unfold akf
 by_cases h:aaz a.rs b.l = 0
 ·have hs:a14 a.rs b = bau (llq a.rs) b awk:=by
   have h2:=(ado h).2
   unfold a14 eqR bau
   rw [h2 b.c (by simp [Pl.l]),h2 b.s (by simp [Pl.l]),h2 b.x (by simp [Pl.l]),h2 b.y (by simp [Pl.l])]
   rfl
  rw [hs,decide_eq_true h,Bool.true_and,Bool.true_and]
  have e:aaa .eql (i:Int) 0 = !decide (0 < i):=by
   rw [ak6,<- decide_not]; exact decide_eq_decide.2 (by omega)
  rw [e]
  cases a29 (llq a.rs) b <;> cases decide (0 < i) <;> cases bau (llq a.rs) b awk <;> rfl
 ·rw [decide_eq_false h]; rfl
theorem bbt {a:As} (ha:AL a) (h1:aeb a.rs = 0) {i:Nat} {b:Pl} (hb:a.bs[i]? = some b):FnC prog 243 [i64 i, b.av, .iptr a.av.cells] (bl (!akf a.rs i b)):=by
 have hbn:=ha.nr b (mem_of_getElem? hb)
 refine gF0 func243 ?_
 refine gc (ar4 ha.tr h1 hbn) ?_
 refine gcG (fun _=>(aq4 ha.tr h1 hbn)) ?_
 refine gE1 ?_
 exact congrArg bl (ay5 ha h1 hbn)
theorem bdl {l:Li} {a:As} (hg:Good l a) {i:Nat} {j:Jt} (hj:l.joints[i]? = some j):FnC prog 247 [i64 i, j.av, .iptr l.av.cells, .iptr a.av.cells] (bl (!ag2 l a j)):=by
 refine gF0 func247 ?_
 refine gc (arn hg hj) ?_
 refine gE1 ?_
 rfl
theorem bdg {l:Li} {a:As} (hg:Good l a) {xs:List Tn} (hx:∀ x ∈ xs, x.t.ok /\ x.err = 0 /\ Qb 1000 x.t.q) (hxl:xs.length = l.drivers.length) {i:Nat} {d:Dr} (hd:l.drivers[i]? = some d) :
  FnC prog 250 [i64 i,d.av,.iptr a.av.cells,.iptr [.lst 4 (xs.map Tn.av)]] (bl (!ahi l xs a i)):=by
 have hld:=hg.lo.ld
 have hin:=(List.getElem?_eq_some_iff.1 hd).1
 obtain ⟨tw,hta,h5,hll⟩:=hg.tw
 have hbl:=hg.al.bl
 obtain ⟨n,b,x,hq⟩:=hg.dr hx hxl hd
 obtain ⟨dname,dbody⟩:=d
 have hqn:dbody = n:=hq.hn
 subst hqn
 have hqb:({ name:=dname,body:=(n:Int) }:Dr).body = (n:Int):=rfl
 have hnl:=(List.getElem?_eq_some_iff.1 hq.gb).1
 have hxo:=hx x (mem_of_getElem? hq.gx)
 have ht:FnC prog 251 [ae5 a.rs,b.av,x.av] (bl (a4b (llq a.rs) b x)):=by rw [hta,hq.av]; exact aon tw hq.po hxo.1 hxo.2.1 hxo.2.2
 refine gF0 func250 ?_
 refine gi (aae hq.gb) ?_
 refine gi (aae hq.gx) ?_
 refine gc ht ?_
 refine gD ?_
 refine gE1 ?_
 rw [hq.eq]; rfl
theorem ap1 {l:Li} (hl:l.ok) (hli:liE l = 0) (xs:List Tn) (hx:∀ x ∈ xs, x.t.ok /\ x.err = 0 /\ Qb 1000 x.t.q) (hxl:xs.length = l.drivers.length) {a:As} (ha:AL a):FnC prog 157 [l.av, .lst 4 (xs.map Tn.av), a.av] (brq (flt l xs a)):=by
 have hbl:=ha.bl
 refine gF0 func157 ?_ (1,0)
 refine gW ((Wk.freezeB (k:=3) rfl rfl).trans <| (Wk.freezeB (k:=4) rfl rfl).trans <| (Wk.freezeB (k:=5) rfl rfl).trans <| Wk.o (sl:=[(3,some (.iptr l.av.cells)),(4,some (.iptr [.lst 4 (xs.map Tn.av)])),(5,some (.iptr a.av.cells)),(6,some (.ptr 6 0))]) (hp:=[(6,some (.box [i64 0,i64 0]))])) ?_
 refine gc (agb a.rs 40000 ha.tr) ?_
 refine glG ?_
 refine glG ?_
 refine gC (fun ht22=>?_) (fun ht22=>?_)
 ·have h1:aeb a.rs ≠ 0 \/ a.bs.length ≠ l.bodies.length:=bqh ht22
  refine gE1 ?_
  rw [bnf h1]; rfl
 ·have h1:¬ (aeb a.rs ≠ 0 \/ a.bs.length ≠ l.bodies.length):=bra ht22
  have hc:aeb a.rs = 0:=Decidable.not_not.1 (fun h=>h1 (.inl h))
  have hln:a.bs.length = l.bodies.length:=Decidable.not_not.1 (fun h=>h1 (.inr h))
  refine gc (ar0 a.bs (by omega) 243 a.av.cells (fun i=>akf a.rs i (a.bs.getD i default)) (fun i b hb _=>by have h:=bbt ha hc hb; rw [<- aaf (d:=default) hb] at h ⊢; exact h)) ?_
  refine gC (fun ht29=>?_) (fun ht29=>?_)
  ·obtain ⟨i, hi⟩:=bq2 ht29
   refine gE1 ?_
   rw [bl6 h1 hi,hi]; rfl
  ·have f1:=bro ht29
   have hg:=a0c hl hli ha hc hln (ak9 f1)
   refine gc (as7 l.joints hl.lj 247 l.av.cells a.av.cells (fun i=>ag2 l a (l.joints.getD i default)) (fun i j hj _=>by have h:=bdl hg hj; rw [<- aaf (d:=default) hj] at h ⊢; exact h)) ?_
   refine gC (fun ht37=>?_) (fun ht37=>?_)
   ·obtain ⟨i, hi⟩:=bq2 ht37
    refine gE1 ?_
    rw [bos h1 f1 hi,hi]; rfl
   ·have f2:=bro ht37
    refine gc (arv l.drivers hl.ld 250 a.av.cells [.lst 4 (xs.map Tn.av)] (ahi l xs a) (fun i d hd _=>bdg hg hx hxl hd)) ?_
    refine gC (fun ht45=>?_) (fun ht45=>?_)
    ·obtain ⟨i, hi⟩:=bq2 ht45
     refine gE1 ?_
     rw [bl9 h1 f1 f2 hi,hi]; rfl
    ·have f3:=bro ht45
     refine gE1 ?_
     rw [bll h1 f1 f2 f3]; rfl
theorem aom {l:Li} (hl:l.ok) (xs:List Tn) (hx:∀ x ∈ xs, x.t.ok /\ Qb 1000 x.t.q) (hxl:xs.length <= 281474976710656) {a:As} (ha:AL a) :
  FnC prog 81 [l.av,.lst 4 (xs.map Tn.av),a.av] (.tup [bl (decide (aos l xs = 0) && decide ((flt l xs a).1 = 0)),brq (if aos l xs = 0 then flt l xs a else (0,0)),ah7 (aos l xs)]):=by
 have hld:=hl.ld
 refine gF0 func81 ?_
 refine gc (aid l hl) ?_
 refine gC (fun ht17=>?_) (fun ht17=>?_)
 ·have h1:=ac5 ht17
  have hb:aos l xs ≠ 0:=by rw [azn h1]; exact h1
  refine gE3 ?_
  rw [if_neg hb,decide_eq_false hb,azn h1]; rfl
 ·have h1:=ac7 ht17
  refine gl ?_
  refine gl ?_
  refine gC (fun ht25=>?_) (fun ht25=>?_)
  ·have h2 : xs.length ≠ l.drivers.length := by have := ajb ht25; omega
   have hb:aos l xs ≠ 0:=by rw [atl h1 h2]; decide
   refine gE3 ?_
   rw [if_neg hb,decide_eq_false hb,atl h1 h2]; rfl
  ·have h2 : xs.length = l.drivers.length := by have := ams ht25; omega
   refine gl ?_
   refine gL1 [1,3,5,7,28,29] [3,5,7] (fun (i:Nat)=>[(30,some (i64 i))]) (fun _=>[]) (fun i=>i <= xs.length /\ ∀ x ∈ xs.take i,x.err = 0) (fun i=>xs.length - i) 0 ⟨zero_le _,fun x hx=>by simp at hx⟩ ?_
   rintro i ⟨hi,hj⟩ K1 hK1
   refine gC (fun ht31=>?_) (fun ht31=>?_)
   ·have hin:=abd ht31
    obtain ⟨x,hxx⟩:=abt hin
    refine gi (aae hxx) ?_
    refine gc (ajs x (hx x (mem_of_getElem? hxx)).1) ?_
    refine gC (fun ht37=>?_) (fun ht37=>?_)
    ·have h3:=ac5 ht37
     have hb:aos l xs ≠ 0:=by rw [a86 h1 h2 hxx hj h3]; exact h3
     refine gE3 ?_
     rw [if_neg hb,decide_eq_false hb,a86 h1 h2 hxx hj h3]; rfl
    ·have h3:=ac7 ht37
     refine ga aat ?_
     exact gK1 hK1 (i + 1) ⟨hin,fun y hy=>by rw [aao hxx] at hy; rcases List.mem_append.1 hy with h9 | h9; exact hj y h9; (rw [List.mem_singleton.1 h9]; exact h3)⟩
   ·have hin:=aaj hi ht31
    subst hin
    rw [take_length] at hj
    have hb:=bgb h1 h2 hj
    refine gc (ap1 hl h1 xs (fun x h9=>⟨(hx x h9).1,hj x h9,(hx x h9).2⟩) h2 ha) ?_
    refine gs (boq (.tmp rfl) (.tmp rfl) (by kernel_rfl) rfl) ?_
    refine gD ?_
    refine gE3 ?_
    rw [hb,if_pos rfl,beh]; rfl
end Go.Lw
namespace Go.Lw
open Go.Proofs
section
variable {rs:List (List Rt)} {r:Nat} {a b c a2 b2 c2:List Rat}
end
section
variable {rs:List (List Rt)} {r u k:Nat} {a b:List Rat} {x y:Et (llq rs)} {w v w' v':Nat}
end
section
variable {rs:List (List Rt)} {r:Nat} {a b c a2 b2 c2:List Rat} {x y z x2 y2 z2:Et (llq rs)}
end
end Go.Lw
namespace Go.Lw
variable {P:Program} {N:Nat} {R:Array Oper} {s:AS}
def vk:Value -> Nat
  | .int .i64 _=>1
  | .string _=>2
  | _=>0
def bqx (P:Program) (t:TypeId):Bool:=match P.underlying t with | some .string=>true | _=>false
theorem bo8 {t:TypeId} (h:bqx P t = true):P.underlying t = some .string:=by
 unfold bqx at h
 split at h
 ·assumption
 ·cases h
def fOk (P : Program) (ks : List Nat) (f : Field) : Bool := f.name != "_" && (match ks[f.offset]? with | some 1 => ba7 P f.type | some 2 => bqx P f.type | _ => false)
def bpf (P:Program) (T:TypeId) (ks:List Nat):Bool:=match P.underlying T with
  | some (.struct fs)=>fs.toList.all (fOk P ks) && !P.stoodInHeld T && !P.eqGuardType P.depth T
  | _=>false
theorem akv {cs:List Value} {ks:List Nat} (hk:cs.map vk = ks) (w:World):∀ {fs:List Field}, fs.all (fOk P ks) = true -> (Op.eqFields 9999 cs.toArray cs.toArray fs).run P w = .ok true w
 | [],_=>rfl
 | f :: fs, h=>by
  rw [List.all_cons,and_eq_true] at h
  obtain ⟨h1,h2⟩:=h
  have ih:=akv hk w h2
  unfold fOk at h1
  rw [and_eq_true] at h1
  obtain ⟨hn,h1⟩:=h1
  have n1 : f.name ≠ "_" := by simpa using hn
  have hc:∀ k, ks[f.offset]? = some k -> ∃ v, cs[f.offset]? = some v /\ vk v = k:=by
   intro k hk2
   rw [<- hk,getElem?_map,map_eq_some_iff] at hk2
   exact hk2
  split at h1
  ·rename_i e
   obtain ⟨v,hv,hvk⟩:=hc 1 e
   have hu:=ay4 h1
   have e0:cs.toArray[f.offset]? = some v:=by simpa using hv
   have e1:(part f.type cs.toArray f.offset).run P w = .ok v w:=by simp [part,isAgg,run_underlying hu,e0]
   have:∃ n,v = .int .i64 n:=by unfold vk at hvk; split at hvk; exact ⟨_,rfl⟩; cases hvk; cases hvk
   obtain ⟨n,rfl⟩:=this
   have e3:(Op.equalIn 9999 f.type (.int .i64 n) (.int .i64 n)).run P w = .ok (n == n) w:=run_equalIn_int w 9998 f.type .i64 .i64 n n hu
   simp only [Op.eqFields,n1,ne_eq,not_false_eq_true,if_true,Sem.run_bind,e1,e3,Result.andThen_ok,Sem.run_ite,beq_self_eq_true,Bool.not_true,Bool.false_eq_true,if_false,ih]
  ·rename_i e
   obtain ⟨v,hv,hvk⟩:=hc 2 e
   have hu:=bo8 h1
   have e0:cs.toArray[f.offset]? = some v:=by simpa using hv
   have e1:(part f.type cs.toArray f.offset).run P w = .ok v w:=by simp [part,isAgg,run_underlying hu,e0]
   have:∃ n,v = .string n:=by unfold vk at hvk; split at hvk; cases hvk; exact ⟨_,rfl⟩; cases hvk
   obtain ⟨n,rfl⟩:=this
   have e3:(Op.equalIn 9999 f.type (.string n) (.string n)).run P w = .ok (n.toList == n.toList) w:=run_equalIn_string w 9998 f.type n n hu
   simp only [Op.eqFields,n1,ne_eq,not_false_eq_true,if_true,Sem.run_bind,e1,e3,Result.andThen_ok,Sem.run_ite,beq_self_eq_true,Bool.not_true,Bool.false_eq_true,if_false,ih]
  ·cases h1
theorem ar2 {T:TypeId} {cs:List Value} {ks:List Nat} (hk:cs.map vk = ks) (h:bpf P T ks = true) (w:World) :
  (Op.equalIn 10000 T (.agg cs.toArray) (.agg cs.toArray)).run P w = .ok true w /\ P.eqGuardType P.depth T = false:=by
 unfold bpf at h
 split at h
 ·rename_i fs hu
  rw [and_eq_true,and_eq_true] at h
  obtain ⟨⟨h,h1⟩,h2⟩:=h
  have hF:P.fieldsOf T = fs:=by unfold Program.fieldsOf; rw [hu]
  have hs:P.stoodInHeld T = false:=by simpa using h1
  refine ⟨?_,by simpa using h2⟩
  rw [run_equalIn_struct w 9999 T _ _ (by rw [hF]; exact hu) hs,hF]
  exact akv hk w h
 ·cases h
theorem a0x {g:Nat -> Array Value -> Prop} {S:Nat -> Nat -> Prop} {m:Nat -> Option Nat} {u:Value} {cs:List Value} (h:Rep g S m u (.agg (cs.map .v))):u = .agg cs.toArray:=by
 cases h with
 | @agg _ vs _ hn h1 hrr =>
  rw [length_map] at hn
  congr 1
  refine Array.ext (by simpa using hn) (fun i hi hi2=>?_)
  have hi3:i < cs.length:=by simpa using hi2
  have r:=hrr i vs[i] (.v cs[i]) (by simp [hi]) (by simp [hi3])
  have r2:∀ {y z:Value},Rep g S m y (.v z) -> y = z:=fun h=>by cases h; rfl
  rw [r2 r]; simp
theorem bo4 {d:Nat} {x y:Operand} {cs:List Value} {ks:List Nat} {S T t:TypeId} {pos:String} {after:Array Edge} (hx:Ev s x (.agg (cs.map .v))) (hy:Ev s y (.agg (cs.map .v)))
  (hk:cs.map vk = ks) (hS:bpf P S ks = true) (hN:Nat.blt d N = true) :
  Step P N R s ⟨some d,.binOp .neq S x y T,t,pos,after,none⟩ ⟨some (.v (.bool false)),[],aal x ++ aal y,[]⟩ :=
 aa0 rfl rfl hN fun s' hag C m ac w hr=>⟨.bool false, by
  have h:=a0x ((hx.agree hag (fun _ h=>List.mem_append.2 (.inl h))).rep hr)
  have h':=a0x ((hy.agree hag (fun _ h=>List.mem_append.2 (.inr h))).rep hr)
  obtain ⟨r1,r2⟩:=ar2 (T:=S) hk hS w
  simp only [execOp,h,h',Sem.run_bind,run_eqGuard_agg w .neq S x y _ _ r2,Result.andThen_ok,run_neq_struct,r1,Sem.run_pure,Bool.not_true],.v _⟩
def bse (P:Program) (T:TypeId) (f o:Nat):Bool:=match P.underlying T with
  | some (.struct fs)=>(match fs[f]? with
    | some fl=>Nat.beq fl.offset o && (match P.underlying fl.type with
      | some (.struct _)=>false
      | some (.array _ _)=>false
      | some _=>true
      | none=>false)
    | none=>false)
  | _=>false
theorem bbs {d f o:Nat} {x:Operand} {cs:List AV} {c:AV} {T t:TypeId} {pos:String} {after:Array Edge} (hx:Ev s x (.agg cs)) (hc:cs[o]? = some c) (hF:bse P T f o = true) (hN:Nat.blt d N = true) :
  Step P N R s ⟨some d,.field T x f,t,pos,after,none⟩ ⟨some c,[],aal x,[]⟩ :=
 aa0 rfl rfl hN fun s' hag C m a w hr=>by
  have h:=(hx.agree hag (fun _ h=>h)).rep hr
  generalize hu:a.eval x = y at h
  cases h with
  | @agg _ vs _ hn h1 hrr =>
   have ho:=(List.getElem?_eq_some_iff.1 hc).1
   have hv:vs[o]? = some vs[o]:=by simp [hn,ho]
   refine ⟨vs[o],?_,hrr o _ c hv hc⟩
   unfold bse at hF
   split at hF
   ·rename_i fs hu2
    split at hF
    ·rename_i fl hfl
     rw [and_eq_true] at hF
     obtain ⟨h2,h3⟩:=hF
     have h2:=eq_of_beq_eq_true h2
     have h4:∃ u, P.underlying fl.type = some u /\ (∀ g, u ≠ .struct g) /\ (∀ n e, u ≠ .array n e):=by
      split at h3
      ·cases h3
      ·cases h3
      ·rename_i u n1 n2 e; exact ⟨_,e,fun g h=>n1 g h,fun n e2 h=>n2 n e2 h⟩
      ·cases h3
     obtain ⟨u,e1,e2,e3⟩:=h4
     subst h2
     simp [execOp,hu,Instr.field,run_underlying hu2,hfl,part,isAgg,run_underlying e1,asAgg,hv]
    ·cases hF
   ·cases hF
end Go.Lw
namespace Go.Lw
end Go.Lw
namespace Go.Lw
open Go.Proofs
end Go.Lw
namespace Go.Lw
open Go.Proofs
end Go.Lw
namespace Go.Lw
def sdP (j:Jt) (b:Int):Int:=if j.a = b then j.point else j.on
def sdB (j:Jt) (b:Int):Int:=if j.a = b then j.b else j.a
def sdQ (j:Jt) (b:Int):Int:=if j.a = b then j.on else j.point
theorem DyOk.ne {l:Li} {k:Int} {a:As} {own:Bool} {n:Nat} {i k2 z0 z1 z2:Int} (h:DyOk l k a own n ⟨1, [i, k2], [z0, z1, z2], 0⟩):i ≠ k2:=by
 have hd:=h.dy
 generalize hg:(⟨1,[i,k2],[z0,z1,z2],0⟩:Gr) = g at hd
 cases hd with
 | drv _ _ _ _=>simp at hg
 | pr _ _ _=>simp at hg
 | rp _ _ _=>simp at hg
 | rrr ne _ _ _ _ _ _=>simp at hg; obtain ⟨⟨rfl,rfl⟩,_⟩:=hg; exact ne
end Go.Lw
namespace Go.Lw
open Go.Proofs
def bfn (r:Rt):Bool:=!(cond (cond (cond (aaa .gtr (r.num.length:Int) 1) true (aaa .gtr (r.den.length:Int) 1)) true (cond (aaa .eql (r.num.length:Int) 1) (aaa .gtr (aab r.num 0:Int) 400) false)) true
  (cond (aaa .eql (r.den.length:Int) 1) (aaa .gtr (aab r.den 0:Int) 20) false))
theorem axy (rs:List Rt) (hl:rs.length <= 1000):FnC prog 77 [.lst 3 (rs.map Rt.av)] (bl (rs.all bfn)):=by
 refine gF0 func77 ?_
 refine gl ?_
 refine gL1 [5,6] [] (fun (i:Nat)=>[(7,some (i64 i))]) (fun _=>[]) (fun i=>i <= rs.length /\ (rs.take i).all bfn = true) (fun i=>rs.length - i) 0 ⟨zero_le _,rfl⟩ ?_
 rintro i ⟨hi,hj⟩ K1 hK1
 refine gC (fun ht8=>?_) (fun ht8=>?_)
 ·have hin:=abd ht8
  obtain ⟨r,hr⟩:=abt hin
  refine gi (aae hr) ?_
  refine gl ?_
  refine glG ?_
  refine glG ?_
  refine giG (fun ⟨h,h2⟩=>(aho (by have:=aes h2; have e:Int.toNat 0 = 0:=rfl; omega))) ?_
  refine glG ?_
  refine giG (fun ⟨h,h2⟩=>(aho (by have:=aes h2; have e:Int.toNat 0 = 0:=rfl; omega))) ?_
  refine gC (fun ht46=>?_) (fun ht46=>?_)
  ·have h1:bfn r = false:=congrArg Bool.not ht46
   refine gE1 ?_
   rw [adg hr h1]; rfl
  ·have h1:bfn r = true:=congrArg Bool.not ht46
   refine ga aat ?_
   exact gK1 hK1 (i + 1) ⟨hin,aef hj hr h1⟩
 ·have hin:=aaj hi ht8
  refine gE1 ?_
  rw [af4 hin hj]; rfl
def tnB (x:Tn):Bool:=decide (x.t.num.length <= 1 /\ x.t.den.length <= 1)
def mk1 (m:Mk):Bool:=decide (m.x.num.length <= 1 /\ m.x.den.length <= 1 /\ m.y.num.length <= 1 /\ m.y.den.length <= 1)
def bpa (xs:List Tn):Bool:=xs.all (fun x=>[x.t].all bfn)
def bpp (ps:List Mk):Bool:=ps.all (fun p=>[p.x,p.y].all bfn)
def bpq (l:Li):Bool:=l.bodies.all (fun b=>bpp b.pts)
theorem a5o (l:Li) (hl:l.ok) (xs:List Tn) (hxl:xs.length <= 281474976710656):FnC prog 36 [l.av, .lst 4 (xs.map Tn.av)] (bl (bpa xs && bpq l)):=by
 have hlb:=hl.lb
 refine gF0 func36 ?_
 refine gl ?_
 refine gL1 [2,11,12] [2] (fun (i:Nat)=>[(13,some (i64 i))]) (fun _=>[]) (fun i=>i <= xs.length /\ (xs.take i).all (fun x=>[x.t].all bfn) = true) (fun i=>xs.length - i) 0 ⟨zero_le _,rfl⟩ ?_
 rintro i ⟨hi,hj⟩ K1 hK1
 refine gC (fun ht14=>?_) (fun ht14=>?_)
 ·have hin:=abd ht14
  obtain ⟨x,hx⟩:=abt hin
  refine gi (aae hx) ?_
  refine gc (axy [x.t] (by show 1 <= _; omega)) ?_
  refine gC (fun ht21=>?_) (fun ht21=>?_)
  ·have h1:=adh ht21
   refine gE1 ?_
   unfold bpa; rw [adg hx h1]; rfl
  ·have h1:=adi ht21
   refine ga aat ?_
   exact gK1 hK1 (i + 1) ⟨hin,aef hj hx h1⟩
 ·have hT:bpa xs = true:=af4 (aaj hi ht14) hj
  refine gl ?_
  refine gL1 [2,24,25] [2] (fun (i:Nat)=>[(26,some (i64 i))]) (fun _=>[]) (fun i=>i <= l.bodies.length /\ (l.bodies.take i).all (fun b=>bpp b.pts) = true) (fun i=>l.bodies.length - i) 0 ⟨zero_le _,rfl⟩ ?_
  rintro i ⟨hi2,hj2⟩ K2 hK2
  refine gC (fun ht27=>?_) (fun ht27=>?_)
  ·have hin:=abd ht27
   obtain ⟨b,hb⟩:=abt hin
   have hbl:=(hl.bodies b (mem_of_getElem? hb)).ll
   refine gi (aae hb) ?_
   refine gl ?_
   refine gL1 [2,24,25,26,31,32] [2] (fun (k:Nat)=>[(33,some (i64 k))]) (fun _=>[]) (fun k=>k <= b.pts.length /\ (b.pts.take k).all (fun p=>[p.x,p.y].all bfn) = true) (fun k=>b.pts.length - k) 0 ⟨zero_le _,rfl⟩ ?_
   rintro k ⟨hk,hkj⟩ K3 hK3
   refine gC (fun ht34=>?_) (fun ht34=>?_)
   ·have hkn:=abd ht34
    obtain ⟨p,hp⟩:=abt hkn
    refine gi (aae hp) ?_
    refine gc (axy [p.x,p.y] (by show 2 <= _; omega)) ?_
    refine gC (fun ht43=>?_) (fun ht43=>?_)
    ·have h1:=adh ht43
     refine gE1 ?_
     rw [hT]; unfold bpq; rw [adg hb (by unfold bpp; exact adg hp h1)]; rfl
    ·have h1:=adi ht43
     refine ga aat ?_
     exact gK1 hK3 (k + 1) ⟨hkn,aef hkj hp h1⟩
   ·have hP:bpp b.pts = true:=af4 (aaj hk ht34) hkj
    refine ga aat ?_
    exact gK1 hK2 (i + 1) ⟨hin,aef hj2 hb hP⟩
  ·have hL:bpq l = true:=af4 (aaj hi2 ht27) hj2
   refine gE1 ?_
   rw [hT,hL]; rfl
def bsf (l:Li) (xs:List Tn):Bool :=
  cond (cond (aaa .neq (splitE l:Int) 0) true (aaa .leq (((splitG l).length:Int) - l.drivers.length) 1)) true (cond (aaa .eql (((splitG l).length:Int) - l.drivers.length) 2) (bpa xs && bpq l) false)
def bge (l:Li) (xs:List Tn):Bool :=
  (liB l && decide (xs.length <= 20)) && (xs.all tnB && (l.bodies.all (fun b=>b.pts.all mk1) && (if liE l = 0 then bsf l xs else true)))
theorem brj {l:Li} {n:Nat} (h:cond (!liB l) true (aaa .gtr (n:Int) 20) = true):(liB l && decide (n <= 20)) = false:=by
 cases hb:liB l
 ·rfl
 ·rw [hb] at h
  have h1:20 < n:=alq (b:=20) h
  rw [decide_eq_false (by omega)]; rfl
theorem bp2 {l:Li} {n:Nat} (h:cond (!liB l) true (aaa .gtr (n:Int) 20) = false):liB l = true /\ n <= 20:=by
 cases hb:liB l
 ·rw [hb] at h; cases h
 ·rw [hb] at h; exact ⟨rfl,anq (b:=20) h⟩
theorem br5 {x:Tn}:cond (aaa .gtr (x.t.num.length:Int) 1) true (aaa .gtr (x.t.den.length:Int) 1) = !tnB x:=by
 unfold tnB
 have e1:=ar5 (n:=x.t.num.length) (k:=1)
 have e2:=ar5 (n:=x.t.den.length) (k:=1)
 rw [ahl]
 refine (congr (congrArg _ e1) e2).trans ?_
 rw [<- Bool.decide_or,<- decide_not]
 exact decide_eq_decide.2 (by omega)
theorem bn8 {m:Mk}:cond (cond (cond (aaa .gtr (m.x.num.length:Int) 1) true (aaa .gtr (m.x.den.length:Int) 1)) true (aaa .gtr (m.y.num.length:Int) 1)) true (aaa .gtr (m.y.den.length:Int) 1) = !mk1 m:=by
 unfold mk1
 have e1:=ar5 (n:=m.x.num.length) (k:=1)
 have e2:=ar5 (n:=m.x.den.length) (k:=1)
 have e3:=ar5 (n:=m.y.num.length) (k:=1)
 have e4:=ar5 (n:=m.y.den.length) (k:=1)
 rw [ahl,ahl,ahl]
 refine (congr (congrArg _ (congr (congrArg _ (congr (congrArg _ e1) e2)) e3)) e4).trans ?_
 rw [<- Bool.decide_or,<- Bool.decide_or,<- Bool.decide_or,<- decide_not]
 exact decide_eq_decide.2 (by omega)
theorem ahu {l:Li} (hl:liE l = 0):(splitG l).length <= 8:=by
 unfold splitG; split
 ·exact (ake hl).2
 ·exact zero_le _
theorem azd (l:Li) (hw:l.okw) (xs:List Tn) (hxl:xs.length <= 281474976710656):FnC prog 7 [l.av, .lst 4 (xs.map Tn.av)] (bl (bge l xs)):=by
 refine gF0 func7 ?_
 refine gc (ayw l hw) ?_
 refine glG ?_
 refine gC (fun ht21=>?_) (fun ht21=>?_)
 ·have h1:=brj ht21
  refine gE1 ?_
  unfold bge; rw [h1]; rfl
 ·obtain ⟨g1, g2⟩:=bp2 ht21
  have hl:=bin g1 hw
  have hlb:=hl.lb
  refine gl ?_
  refine gL1 [1,2,22,23] [2] (fun (i:Nat)=>[(24,some (i64 i))]) (fun _=>[]) (fun i=>i <= xs.length /\ (xs.take i).all tnB = true) (fun i=>xs.length - i) 0 ⟨zero_le _,rfl⟩ ?_
  rintro i ⟨hi,hj⟩ K1 hK1
  refine gC (fun ht25=>?_) (fun ht25=>?_)
  ·have hin:=abd ht25
   obtain ⟨x,hx⟩:=abt hin
   refine gi (aae hx) ?_
   refine gl ?_
   refine glG ?_
   refine gC (fun ht39=>?_) (fun ht39=>?_)
   ·have h1 : tnB x = false := by rw [br5] at ht39; exact adh ht39
    refine gE1 ?_
    unfold bge; rw [g1,decide_eq_true g2,adg hx h1]; rfl
   ·have h1 : tnB x = true := by rw [br5] at ht39; exact adi ht39
    refine ga aat ?_
    exact gK1 hK1 (i + 1) ⟨hin,aef hj hx h1⟩
  ·have hT:xs.all tnB = true:=af4 (aaj hi ht25) hj
   refine gl ?_
   refine gL1 [1,2,42,43] [2] (fun (i:Nat)=>[(44,some (i64 i))]) (fun _=>[]) (fun i=>i <= l.bodies.length /\ (l.bodies.take i).all (fun b=>b.pts.all mk1) = true) (fun i=>l.bodies.length - i) 0 ⟨zero_le _,rfl⟩ ?_
   rintro i ⟨hi2,hj2⟩ K2 hK2
   refine gC (fun ht45=>?_) (fun ht45=>?_)
   ·have hin:=abd ht45
    obtain ⟨b,hb⟩:=abt hin
    have hbl:=(hl.bodies b (mem_of_getElem? hb)).ll
    refine gi (aae hb) ?_
    refine gl ?_
    refine gL1 [1,2,42,43,44,49,50] [2] (fun (k:Nat)=>[(51,some (i64 k))]) (fun _=>[]) (fun k=>k <= b.pts.length /\ (b.pts.take k).all mk1 = true) (fun k=>b.pts.length - k) 0 ⟨zero_le _,rfl⟩ ?_
    rintro k ⟨hk,hkj⟩ K3 hK3
    refine gC (fun ht52=>?_) (fun ht52=>?_)
    ·have hkn:=abd ht52
     obtain ⟨p,hp⟩:=abt hkn
     refine gi (aae hp) ?_
     refine gl ?_
     refine glG ?_
     refine glG ?_
     refine glG ?_
     refine gC (fun ht80=>?_) (fun ht80=>?_)
     ·have h1 : mk1 p = false := by rw [bn8] at ht80; exact adh ht80
      refine gE1 ?_
      unfold bge; rw [g1,decide_eq_true g2,hT,adg hb (adg hp h1)]; rfl
     ·have h1 : mk1 p = true := by rw [bn8] at ht80; exact adi ht80
      refine ga aat ?_
      exact gK1 hK3 (k + 1) ⟨hkn,aef hkj hp h1⟩
    ·have hP:b.pts.all mk1 = true:=af4 (aaj hk ht52) hkj
     refine ga aat ?_
     exact gK1 hK2 (i + 1) ⟨hin,aef hj2 hb hP⟩
   ·have hL:l.bodies.all (fun b=>b.pts.all mk1) = true:=af4 (aaj hi2 ht45) hj2
    refine gc (alf l hl) ?_
    refine gC (fun ht85=>?_) (fun ht85=>?_)
    ·have h1:=af6 ht85
     refine gE1 ?_
     unfold bge; rw [g1,decide_eq_true g2,hT,hL,if_neg h1]; rfl
    ·have h1:=af0 ht85
     have hsl:=ahu h1
     have hld:=hl.ld
     refine gc (ael l hl h1) ?_
     refine gl ?_
     refine gl ?_
     refine ga (abc (by omega)) ?_
     refine gcG (fun _=>(a5o l hl xs hxl)) ?_
     refine gE1 ?_
     unfold bge bsf; rw [g1,decide_eq_true g2,hT,hL,if_pos h1]; rfl
end Go.Lw
