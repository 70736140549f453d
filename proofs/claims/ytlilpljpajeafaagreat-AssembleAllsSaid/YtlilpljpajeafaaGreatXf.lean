/- AssembleAlls: for any linkage and any turns the law returns true and leaves its arguments as they were. No other condition. Part 6 of 8: what the later parts need -/
import Derived.Test.YtlilpljpajeafaaGreatXe
import Derived.Laws.Cover3
set_option linter.unusedVariables false
open List (mem_of_getElem? mem_append map_cons mem_cons length_cons length_append length_nil getD_eq_getElem?_getD getElem?_append_left getElem?_eq_none all_eq_true getElem?_take getElem?_drop getElem?_map getElem?_append_right getElem?_eq_getElem nil_append getElem?_replicate map_append length_take take_of_length_le drop_zero take_length map_nil not_mem_nil length_map map_map length_replicate map_replicate map_set length_set)
open Nat (eq_of_beq_eq_true le_refl lt_of_lt_of_le lt_or_ge le_trans zero_le pow_add)
open Option (map_eq_some_iff)
open Bool (and_eq_true)
open Array (getD_eq_getD_getElem?)
open Int (toNat_natCast)
open Go.Proofs.Tryz
namespace Go.Lw
open Go.Proofs
theorem Jp{α:Type}{f:List Bool->α->List Bool}{k:List Bool}{l:List α}{i:Nat}{x:α}(h:l[i]?=some x):(l.drop i).foldl f k=(l.drop (i+1)).foldl f (f k x):=by
 have hi:=(List.getElem?_eq_some_iff.1 h).1;rw[List.drop_eq_getElem_cons hi,(List.getElem?_eq_some_iff.1 h).2];rfl
def gx(k:List Bool)(i:Nat):List Int:=((List.range i).filter (fun j=>!k.getD j false)).map (fun j:Nat=>((j:Nat):Int))
theorem DY{k:List Bool}{i:Nat}(h:k.getD i false=false):gx k (i+1)=gx k i++[(i:Int)]:=by
 unfold gx;rw[List.range_succ,List.filter_append,map_append,List.filter_cons,h];rfl
theorem DW{k:List Bool}{i:Nat}(h:k.getD i false=true):gx k (i+1)=gx k i:=by
 unfold gx;rw[List.range_succ,List.filter_append,map_append,List.filter_cons,h];simp
theorem vJ(k:List Bool)(i:Nat):(gx k i).length<=i:=by
 unfold gx;rw[length_map];exact le_trans (List.length_filter_le _ _) (by simp)
theorem pH{α:Type}{f:α->List Int}:∀(gs:List α)(k:List Bool),(gs.foldl (fun k g=>bD k (f g)) k).length=k.length
 |[],k=>rfl
 |g::gs,k=>by rw[List.foldl_cons,pH gs,ku]
theorem OT(l:Li):(fI (ci l)).length<=l.bo.length:=by
 have h:=vJ (ci l) (ci l).length;have e:(ci l).length=l.bo.length:=by unfold ci;rw[pH,iA]
 rw[e]at h;unfold fI;rw[e];exact h
theorem Tj(l:Li):(fI (fa l)).length<=l.jo.length:=by
 have h:=vJ (fa l) (fa l).length;have e:(fa l).length=l.jo.length:=by unfold fa;rw[pH,length_replicate]
 rw[e]at h;unfold fI;rw[e];exact h
theorem M3(l:Li)(hl:l.ok)(hli:aE l=0):FP 59 [l.av] (.tup [.lst 1 ((fI (ci l)).map i64),.lst 1 ((fI (fa l)).map i64)]):=by
 have h8:=(da hli).2.2.2.1;have h0:=(da hli).2.2.2.2;have hj16:l.jo.length<=16:=by have:=(da hli).2.1;unfold eD at this;split at this;cases this;omega
 obtain⟨hgo,hgl⟩:=rA hli;refine af func59 ?_;refine gt (aJ (Bl 900 rfl l oz 0 oz) (.cons (.tmp rfl) (.cons (.const _) .nil)) aL rfl rfl) ?_;refine gl ?_;refine gs (fL (.tmp rfl) T218 rfl T4 rfl rfl oz (by dsimp only;omega) rfl) ?_;refine gD ?_ (2,0);refine gW (Wk.of (sl:=[(1,some (.ptr 1 0)),(2,some (nS)),(3,some (nS)),(4,some (.ms 900 1 0 (cS l.bo.length 0).length)),(5,some (.ms 21 1 0 (List.replicate l.jo.length false).length))]) (hp:=[(1,some (.box l.av.cells)),(900,some (.row 1 ((cS l.bo.length 0).map bl))),(21,some (.row 1 ((List.replicate l.jo.length false).map bl)))]) (.k (.k (.k (.cons rfl (Sub.of (by rw[iA])) (.cons rfl (Sub.of (by rw[length_replicate,toNat_natCast])) .nil))))) (.k (.k (.cons rfl (BlkSub.of (by rw[map_replicate,toNat_natCast];rfl)) .nil)))) ?_ (2,0)
 refine gW (Wk.rk (k:=21) (d:=901) rfl rfl) ?_;refine gc (Ig l hl hli) ?_;refine gl ?_;refine iJ [1,2,3,23,24] [1] (fun(i:Nat)(k1 k2:List Bool)=>[(4,some (.ms 900 1 0 k1.length)),(5,some (.ms 901 1 0 k2.length)),(25,some (i64 i))]) (fun _ k1 k2=>[(900,some (.row 1 (k1.map bl))),(901,some (.row 1 (k2.map bl)))]) (fun i k1 k2=>i<=(cH l).length/\k1.length=l.bo.length/\k2.length=l.jo.length/\((cH l).drop i).foldl (fun k g=>bD k g.bo) k1=ci l/\((cH l).drop i).foldl (fun k g=>bD k g.jo) k2=fa l) (fun i _ _=>(cH l).length-i) 0 (cS l.bo.length 0) (List.replicate l.jo.length false) ⟨zero_le _,iA _ _,length_replicate,rfl,rfl⟩ ?_
 rintro i k1 k2 ⟨hi,hk1,hk2,hf1,hf2⟩ K1 J1;refine gC (fun t26=>?_) (fun t26=>?_)
 ·have hin:=aT t26;obtain⟨g,hg⟩:=az hin;have hgk:=hgo g (mem_of_getElem? hg);have hlb:=hgk.lb;have hlj:=hgk.lj;refine gi (ay hg) ?_;refine gl ?_;refine fS [1,2,3,7,23,24,25,30,31] [1,7,901] (fun(q:Nat)(kk:List Bool)=>[(4,some (.ms 900 1 0 kk.length)),(5,some (.ms 901 1 0 k2.length)),(32,some (i64 q))]) (fun _ kk=>[(900,some (.row 1 (kk.map bl)))]) (fun q kk=>q<=g.bo.length/\kk.length=l.bo.length/\bD kk (g.bo.drop q)=bD k1 g.bo) (fun q _=>g.bo.length-q) 0 k1 ⟨zero_le _,hk1,rfl⟩ ?_;rintro q kk ⟨hq,hkk,hmk⟩ K2 J2;refine gC (fun t33=>?_) (fun t33=>?_)
  ·have hqn:=aT t33;obtain⟨x,hx⟩:=az hqn;have hxb:=hgk.b x (mem_of_getElem? hx);obtain⟨v,hv⟩:∃v,kk[x.toNat]?=some v:=az oz;refine gi (ay hx) ?_;refine gs (jp (.tmp rfl) (.tmp rfl) T218 rfl T4 rfl oz oz rfl) ?_;refine gs (cK (.tmp rfl) rfl (by rw[Nat.zero_add,getElem?_map,hv];rfl) rfl (.const _) rfl rfl T4 rfl rfl) ?_;refine ga aH ?_;exact fH J2 (q+1) (kk.set x.toNat true) ⟨hqn,by rw[length_set];exact hkk,by rw[<- x8 hx];exact hmk⟩ (hw:=Wk.of (.cons rfl (Sub.of (by rw[length_set])) (.k (.k (.k (.k (.k (.k (.k (.k (.k (.k (.k .nil)))))))))))) (.cons rfl (BlkSub.of (by rw[map_set,Nat.zero_add];rfl)) (.k (.k (.k .nil)))))
  have hqn:=a8 hq t33;have hmk2:kk=bD k1 g.bo:=by rw[hqn,List.drop_length]at hmk;exact hmk
  refine gl ?_;refine fS [1,2,3,23,24,25,41,42] [1,900] (fun(p:Nat)(jj:List Bool)=>[(4,some (.ms 900 1 0 kk.length)),(5,some (.ms 901 1 0 jj.length)),(43,some (i64 p))]) (fun _ jj=>[(901,some (.row 1 (jj.map bl)))]) (fun p jj=>p<=g.jo.length/\jj.length=l.jo.length/\bD jj (g.jo.drop p)=bD k2 g.jo) (fun p _=>g.jo.length-p) 0 k2 ⟨zero_le _,hk2,rfl⟩ ?_;rintro p jj ⟨hp,hjj,hmj⟩ K3 J3;refine gC (fun t44=>?_) (fun t44=>?_)
  ·have hpn:=aT t44;obtain⟨x,hx⟩:=az hpn;have hxb:=hgk.j x (mem_of_getElem? hx);obtain⟨v,hv⟩:∃v,jj[x.toNat]?=some v:=az oz;refine gi (ay hx) ?_;refine gs (jp (.tmp rfl) (.tmp rfl) T218 rfl T4 rfl oz oz rfl) ?_;refine gs (cK (.tmp rfl) rfl (by rw[Nat.zero_add,getElem?_map,hv];rfl) rfl (.const _) rfl rfl T4 rfl rfl) ?_;refine ga aH ?_;exact fH J3 (p+1) (jj.set x.toNat true) ⟨hpn,by rw[length_set];exact hjj,by rw[<- x8 hx];exact hmj⟩ (hw:=Wk.of (.k (.cons rfl (Sub.of (by rw[length_set])) (.k (.k (.k (.k (.k (.k (.k (.k (.k .nil))))))))))) (.cons rfl (BlkSub.of (by rw[map_set,Nat.zero_add];rfl)) (.k (.k .nil))))
  have hpn:=a8 hp t44;have hmj2:jj=bD k2 g.jo:=by rw[hpn,List.drop_length]at hmj;exact hmj
  refine ga aH ?_;exact gI J1 (i+1) kk jj ⟨hin,hkk,hjj,by rw[hmk2,<- hf1,Jp hg],by rw[hmj2,<- hf2,Jp hg]⟩
 have hin:=a8 hi t26;have e1:k1=ci l:=by rw[hin,List.drop_length]at hf1;exact hf1
 have e2:k2=fa l:=by rw[hin,List.drop_length]at hf2;exact hf2
 refine gW (Wk.virt 902 1 rfl) ?_;refine aM [3,53] [900,901] (fun(i:Nat)=>[(2,some (.ms 902 1 0 (gx k1 i).length)),(5,some (.ms 901 1 0 k2.length)),(52,some (.ms 900 1 0 k1.length)),(54,some (i64 i))]) (fun i=>[(902,some (.row 1 ((gx k1 i).map i64)))]) (fun i=>i<=k1.length) (fun i=>k1.length-i) 0 (zero_le _) ?_;rintro i ha K4 J4;refine gC (fun t55=>?_) (fun t55=>?_) (st2:=(22,0))
 ·have hin6:=aT t55;obtain ⟨v,hv⟩:=az hin6;have hvd:k1.getD i false = v:=aO hv;have hul:=vJ k1 i;refine gs (jp (.tmp rfl) (.tmp rfl) T218 rfl T4 rfl oz oz rfl) ?_;refine gs (dS (.tmp rfl) rfl (by rw [Nat.zero_add,toNat_natCast,getElem?_map,hv]; rfl) T4 rfl rfl rfl) ?_;refine gC (fun t60=>?_) (fun t60=>?_)
  ·have hu := DY (k := k1) (i := i) (by rw [hvd]; exact dr t60);refine gs (bK (.tmp rfl) rfl (by rw [length_map]) (.tmp rfl) T39 rfl T3 rfl rfl (by dsimp only; simp only [length_cons,length_nil]; omega) rfl rfl) ?_ (21,0);refine gW (Wk.of (sl:=[(2,some (.ms 64 1 0 (gx k1 (i + 1)).length)),(3,some (nS)),(5,some (.ms 901 1 0 k2.length)),(52,some (.ms 900 1 0 k1.length)),(53,some (i64 k1.length)),(54,some (i64 i))]) (hp:=[(900,some (.row 1 (k1.map bl))),(901,some (.row 1 (k2.map bl))),(64,some (.row 1 ((gx k1 (i + 1)).map i64)))]) (.cons rfl (Sub.of (by rw [hu,length_append]; rfl)) (.k (.k (.k (.k (.k .nil)))))) (.k (.k (.cons rfl (BlkSub.of (by rw [hu,map_append]; rfl)) .nil)))) ?_ (21,0)
   refine gW (Wk.rk (k:=64) (d:=902) rfl rfl) ?_;refine ga aH ?_;exact aG J4 (i+1) hin6 (hw:=Wk.of (.cons rfl (Sub.of (by first |rw[hu];done |rfl)) (.k (.k (.k (.k (.k .nil)))))) (.cons rfl (BlkSub.of (by first |rw[hu];done |rfl)) (.k (.k .nil))))
  have hu:=DW (k:=k1) (i:=i) (by rw[hvd];exact dl t60);refine ga aH ?_;exact aG J4 (i+1) hin6 (hw:=Wk.of (.cons rfl (Sub.of (by first |rw[hu];done |rfl)) (.k (.k (.k (.k (.k .nil)))))) (.cons rfl (BlkSub.of (by first |rw[hu];done |rfl)) (.k (.k .nil))))
 have hin6:=a8 ha t55;refine gW ((Wk.freeze (k:=902) rfl).trans<|Wk.of (sl:=[(2,some (.lst 1 ((fI (ci l)).map i64))),(3,some (nS)),(5,some (.ms 901 1 0 k2.length))]) (hp:=[(901,some (.row 1 (k2.map bl)))]) (.cons rfl (Sub.of (by rw[bA (by rw[length_map]),hin6,e1];rfl)) (.k (.k .nil))) (.k .nil)) ?_;refine gW (Wk.virt 902 1 rfl) ?_;refine aM [2,67] [901] (fun(i:Nat)=>[(3,some (.ms 902 1 0 (gx k2 i).length)),(66,some (.ms 901 1 0 k2.length)),(68,some (i64 i))]) (fun i=>[(902,some (.row 1 ((gx k2 i).map i64)))]) (fun i=>i<=k2.length) (fun i=>k2.length-i) 0 (zero_le _) ?_;rintro i hb K5 J5;refine gC (fun t69=>?_) (fun t69=>?_) (st2:=(28,0))
 ·have hin8:=aT t69;obtain ⟨v,hv⟩:=az hin8;have hvd:k2.getD i false = v:=aO hv;have hul:=vJ k2 i;refine gs (jp (.tmp rfl) (.tmp rfl) T218 rfl T4 rfl oz oz rfl) ?_;refine gs (dS (.tmp rfl) rfl (by rw [Nat.zero_add,toNat_natCast,getElem?_map,hv]; rfl) T4 rfl rfl rfl) ?_;refine gC (fun t74=>?_) (fun t74=>?_)
  ·have hu := DY (k := k2) (i := i) (by rw [hvd]; exact dr t74);refine gs (bK (.tmp rfl) rfl (by rw [length_map]) (.tmp rfl) T39 rfl T3 rfl rfl (by dsimp only; simp only [length_cons,length_nil]; omega) rfl rfl) ?_ (27,0);refine gW (Wk.of (sl:=[(2,some (.lst 1 ((fI (ci l)).map i64))),(3,some (.ms 78 1 0 (gx k2 (i + 1)).length)),(66,some (.ms 901 1 0 k2.length)),(67,some (i64 k2.length)),(68,some (i64 i))]) (hp:=[(901,some (.row 1 (k2.map bl))),(78,some (.row 1 ((gx k2 (i + 1)).map i64)))]) (.k (.cons rfl (Sub.of (by rw [hu,length_append]; rfl)) (.k (.k (.k .nil))))) (.k (.cons rfl (BlkSub.of (by rw [hu,map_append]; rfl)) .nil))) ?_ (27,0)
   refine gW (Wk.rk (k:=78) (d:=902) rfl rfl) ?_;refine ga aH ?_;exact aG J5 (i+1) hin8 (hw:=Wk.of (.cons rfl (Sub.of (by first |rw[hu];done |rfl)) (.k (.k (.k (.k .nil))))) (.cons rfl (BlkSub.of (by first |rw[hu];done |rfl)) (.k .nil)))
  have hu:=DW (k:=k2) (i:=i) (by rw[hvd];exact dl t74);refine ga aH ?_;exact aG J5 (i+1) hin8 (hw:=Wk.of (.cons rfl (Sub.of (by first |rw[hu];done |rfl)) (.k (.k (.k (.k .nil))))) (.cons rfl (BlkSub.of (by first |rw[hu];done |rfl)) (.k .nil)))
 have hin8:=a8 hb t69;refine gW ((Wk.freeze (k:=902) rfl).trans<|Wk.of (sl:=[(2,some (.lst 1 ((fI (ci l)).map i64))),(3,some (.lst 1 ((fI (fa l)).map i64)))]) (hp:=[]) (.k (.cons rfl (Sub.of (by rw[bA (by rw[length_map]),hin8,e2];rfl)) .nil)) .nil) ?_;refine a9 ?_;rfl
theorem m8(l:Li)(hl:l.ok)(hli:aE l=0):FP 15 [l.av] (.tup [.lst 4 ((aR l).map Gr.av),i64 (cA l)]):=by
 have h8:=(da hli).2.2.2.1;have hj16:l.jo.length<=16:=by have:=(da hli).2.1;unfold eD at this;split at this;cases this;omega
 have u1:=OT l;have u2:=Tj l;refine af func15 ?_;refine gc (M3 l hl hli) ?_;refine gl ?_;refine gl ?_;refine ga (cT oz) ?_;refine gC (fun t16=>?_) (fun t16=>?_)
 ·have h1:0 < (fI (ci l)).length + (fI (fa l)).length:=i7 t16;have hE:cA l = 7:=by unfold cA; rw [if_neg oz]
  refine gR ?_;exact bH (by unfold aR;rw[if_neg (by rw[hE];decide),hE];exact Sub.tup (.cons (.nil _ _ _) (.cons (.refl _) .nil)))
 have h1:(fI (ci l)).length+(fI (fa l)).length<=0:=gP t16;have hE:cA l=0:=by unfold cA;rw[if_pos oz]
 refine gc (Ig l hl hli) ?_;refine a9 ?_;unfold aR;rw[if_pos hE,hE];rfl
variable{P:Program}{N:Nat}{R:Array Oper}{s:AS}{pos:String}{after:Array Edge}
theorem yh{d:Nat}{x:Operand}{n:Nat}{z:Value}{T E t:TypeId}{ti te:TI}(hx:Ev s x (.v (.int .i64 n)))
    (hT:aB P T=some ti) (hk:ti.k=.slice E) (hE:aB P E=some te) (hz:te.zero=[z]) (hz1:z.oneCell'=true) (hs:Nat.beq te.size 1=true) (hbb:Nat.blt 0 te.bytes=true)
    (hb:(n:Int)*te.bytes<=281474976710656) (hN:Nat.blt d N=true) :
    Step P N R s ⟨some d,.makeSlice T x x,t,pos,after,none⟩
      ⟨some (.ms d 1 0 n),[(d,some (.vec (List.replicate n z)))],aw x,[]⟩ :=
  qV rfl rfl hN (by simp) fun s' hag hfr C m a w hr => by
    have hxv:=oR hr (hx.agree hag (fun _ h=>h));have hs:=eq_of_beq_eq_true hs;rw[Nat.blt_eq]at hbb;obtain⟨d2,h3,h4,-,-⟩:=dN hT w;obtain rfl:=iu (h4.trans hk);obtain⟨zv,h5,h6⟩:=tJ hE w;obtain⟨ie,h7,h8,-⟩:=Ib hE w;have h6':zv.cells.toList=[z]:=h6.trans hz;have hzc:zv.cells=#[z]:=by rw[<- Array.toArray_toList (xs:=zv.cells),h6']
    have hnb:(n:Int)<=281474976710656:=by
      have:(n:Int)*1<=n*te.bytes:=Int.mul_le_mul_of_nonneg_left oz oz;omega
    have hw1:IntKind.i64.wrap (n:Int)=n:=IntWalk.i64_in n oz;obtain⟨zero,hzero⟩:∃zero:Array Value,zero=(if n*te.size=0 then #[]else zv.cells):=⟨_,rfl⟩
    refine⟨.slice (some ⟨w.heap.size,0,none⟩) n n,(Array.range (n*te.size)).map (zero[· % zero.size]!),E,w.drawn,?_,?_,?_,?_⟩
    · have hmk:(Instr.makeSlice T (.int .i64 n) (.int .i64 n)).run P w =
          .ok (.slice (some ⟨w.heap.size,0,none⟩) n n) { w with heap:=w.heap.push (.cells ((Array.range (n*te.size)).map (zero[· % zero.size]!)) E) }:=by
        have hc:¬(((n:Int)<0\/281474976710656<(ie.bytes:Int)*n)\/(n:Int)<0):=by
          rw[h8,Int.mul_comm];omega
        simp only[Instr.makeSlice,Sem.run_bind,h3,Result.andThen_ok,asInt,asIntOf,Sem.run_pure,h7,hw1];rw[if_neg (by simpa using hc)];simp only[Sem.run_bind,run_askRoom,Result.andThen_ok,gd hE,toNat_natCast]
        by_cases h0:n*te.size=0
        · rw[if_pos h0]at hzero ⊢
          subst hzero;simp only[Sem.run_bind,Sem.run_pure,Result.andThen_ok,newRow,run_newObj]
        · rw[if_neg h0]at hzero ⊢
          subst hzero;simp only[Sem.run_bind,Sem.run_pure,Result.andThen_ok,h5,newRow,run_newObj]
      simp only[execOp,hxv,Sem.run_bind,hmk,Result.andThen_ok,Sem.run_pure]
    · exact fun h=>h
    · intro g S m' w' hg hS hm hw
      refine .vec hw ?_ (fun v hv=>by rw[List.eq_of_mem_replicate hv];exact hz1);apply List.ext_getElem?;intro j;rw[Array.getElem?_toList,getElem?_replicate]
      by_cases hj:j<n
      · have hpos : ¬ n * te.size = 0 := by rw [hs]; omega
        rw[if_neg hpos,hzc]at hzero;subst hzero;rw[if_pos hj];simp only[Array.getElem?_map,Array.getElem?_range,show j<n*te.size by rw[hs];omega,if_true,Option.map_some,Option.some.injEq];simp[Nat.mod_one]
      · rw[if_neg hj,Array.getElem?_eq_none (by simp[hs];omega)]
    · intro g S m' hm hS
      have:=Rep.ms (g:=g) (S:=S) (m:=m') (k:=d) (sz:=1) (off:=0) (len:=n) (cap:=n) hm (le_refl _) (by simpa[hs]using hS);simpa using this
theorem uV{x y:Operand}{k i:Nat}{vs:List Value}{v:Value}{T t:TypeId}{ti:TI}
  (hx:Ev s x (.eptr k 1 i 0)) (hk:s.blk k=some (.vec vs)) (hi:i<vs.length) (hy:Ev s y (.v v)) (hv:v.oneCell'=true) (hT:aB P T=some ti) (hsz:Nat.beq ti.size 1=true) :
  Step P N R s ⟨none,.store T x y,t,pos,after,none⟩ ⟨none,[(k,some (.vec (vs.set i v)))],aw x++aw y,[k]⟩ :=
 Bu rfl rfl (by simp) hk fun s' hag C m a w hr => by
  have hsz:=eq_of_beq_eq_true hsz;obtain⟨b,hm,hxv⟩:=xj hr (hx.agree hag (fun _ h=>List.mem_append.2 (.inl h)));have hyv:=oR hr (hy.agree hag (fun _ h=>List.mem_append.2 (.inr h)));have hb:=hr.heap.blk k _ ((hag.2 k (by simp)).trans hk);rw[hm]at hb;cases hb with
  | @vec _ _ c t2 hw hc h1 =>
   have hcs:c.size=vs.length:=by rw[<- hc];simp
   have hvc:v.cells=#[v]:=by cases v <;> simp_all [Value.cells,Value.oneCell']
   refine⟨b,c,(over c.toList i v.cells.toList).toArray,t2,hm,hw,?_,?_,?_⟩
   ·simp[over,hvc];omega
   ·have hrun := Bi (P := P) (off := i) (v := v) hT hw (by rw[hvc,hsz];rfl) oz (by rw[hvc];simpa using hv);simp[execOp,Instr.storeAt,hxv,Instr.sureAddr,hyv,hrun]
   ·intro g S w' hg hS hw';refine .vec hw' ?_ (fun u hu=>?_)
    ·rw[hc,hvc];unfold over;rw[List.set_eq_take_append_cons_drop,if_pos hi];simp
    ·rcases List.mem_or_eq_of_mem_set hu with h9 |h9
     ·exact h1 u h9
     ·rw[h9];exact hv
inductive Lent(H:Hp)(hid:List Nat):AV->AV->Prop
  |same {x:AV} (h:x.nm=[]):Lent H hid x x
  |ms {k off len:Nat} {vs:List Value} (hk:lk H k=some (.vec vs)) (hh:k∉hid) (hl:off+len<=vs.length) (hm:vs.length<=aX):Lent H hid (.ms k 1 off len) (.lst 1 (((vs.drop off).take len).map .v))
theorem DA{g:Nat->Array Value->Prop}{S:Nat->Nat->Prop}{m:Nat->Option Nat}{u y:Value}(h:Rep g S m u (.v y)):u=y:=by cases h;rfl
theorem wb{m:Nat->Option Nat}{b:Nat}:¬a6 [] m b:=by rintro⟨k,x,h,_⟩;cases h
def o0(ext:Nat->Prop)(H:Hp)(hid:List Nat)(m:Nat->Option Nat)(b:Nat):Prop:=ext b\/∃k z,k∈hid/\lk H k=some z/\m k=some b
theorem OY{ext:Nat->Prop}{H:Hp}{hid:List Nat}{m m2:Nat->Option Nat}{w:World}{b:Nat}{cs:Array Value}(h:Im ext H m w b cs):Im (o0 ext H hid m) [] m2 w b cs :=
 ⟨fun h'=>h'.elim h.1 (fun⟨k,z,_,hz,hb⟩=>h.2.1 ⟨k,z,hz,hb⟩),wb,h.2.2⟩
theorem CV{ext:Nat->Prop}{H:Hp}{hid:List Nat}{m:Nat->Option Nat}{w:World}(hh:HeapRel ext H m w){k b:Nat}{z:Blk}(hk:lk H k=some z)(hb:m k=some b)(hn:k∉hid):¬o0 ext H hid m b:=by
 rintro(h |⟨k',z',h1,h2,h3⟩)
 ·exact(hh.sep k z b hk hb).1 h
 ·have:=hh.inj k k' z z' b hk h2 hb h3;subst this;exact hn h1
theorem Lent.rep{ext:Nat->Prop}{H:Hp}{hid:List Nat}{m:Nat->Option Nat}{w:World}(hh:HeapRel ext H m w){x x':AV}(h:Lent H hid x x') :
  ∀{v:Value},Rep (Im ext H m w) (Sz w) m v x->∀m2:Nat->Option Nat,Rep (Im (o0 ext H hid m) [] m w) (Sz w) m2 v x':=by
 cases h with
 |same hn=>intro v hv m2;exact(iF hn hv).mono (fun _ _ h=>OY h) (fun _ _ h=>h) (fun _ _ _ h=>h)
 | @ms k off len vs hk hnh hl hm =>
  intro v hr m2;have hb:=hh.blk k _ hk;cases hr with
  |ms0 a=>simp only[List.take_zero];exact .lst0 _ _ _
  | @ms _ _ _ _ _ cap b hmk hc hS =>
   rw[hmk]at hb;cases hb with
   | @vec _ _ c t hw hcv h1 =>
    have hcs:c.size=vs.length:=by rw[<- hcv];simp
    have hlen:(((vs.drop off).take len).map AV.v).length=len:=by rw[length_map,length_take,List.length_drop];omega
    have he':∀(i:Nat)(e:AV),(((vs.drop off).take len).map AV.v)[i]?=some e->∃u,e=.v u/\c[off+i]?=some u/\u∈vs:=by
     intro i e he;rw[getElem?_map,map_eq_some_iff]at he;obtain⟨u,he,rfl⟩:=he;rw[getElem?_take]at he;split at he
     ·rw[getElem?_drop]at he;exact⟨u,rfl,by rw[<- Array.getElem?_toList,hcv];exact he,mem_of_getElem? he⟩
     ·cases he
    have:=Rep.lst (g:=Im (o0 ext H hid m) [] m w) (S:=Sz w) (m:=m2) (b:=b) (off:=off) (cap:=cap) (sz:=1) (es:=((vs.drop off).take len).map AV.v) (cs:=c) (fun i j=>c.getD (off+i) undef)
     ⟨CV hh hk hmk hnh,wb,t,(0,0),hw⟩ oz oz ?_ ?_ ?_ ?_
    ·rw[hlen]at this;simpa using this
    ·intro i e he;obtain⟨u,rfl,_⟩:=he' i e he;rfl
    ·intro i j e x he hx;obtain⟨u,rfl,_,hm⟩:=he' i e he;cases j with
     |zero=>cases hx;exact h1 u hm
     |succ j=>cases hx
    ·intro i j e x he hx;obtain⟨u,rfl,hu,_⟩:=he' i e he;cases j with
     |zero=>rw[Nat.mul_one,Nat.add_zero,getD_eq_getD_getElem?,hu];rfl
     |succ j=>cases hx
    ·intro i j e x he hx;obtain⟨u,rfl,hu,_⟩:=he' i e he;cases j with
     |zero=>cases hx;rw[getD_eq_getD_getElem?,hu];exact .v _
     |succ j=>cases hx
def CY:AV->Bool
  | .v (.int _ _)=>true
  |_=>false
def Iw:AV->Bool
  | .v (.int _ _)=>false
  | .v _=>true
  | .lst _ _=>true
  | .ms _ _ _ _=>true
  |_=>false
mutual
def AV.li:AV->Bool
  | .v _=>true
  | .agg cs=>AV.lis cs
  | .tup cs=>AV.lis cs
  | .lst sz es=>Nat.beq sz 1&&es.all CY
  |_=>false
def AV.lis:List AV->Bool
  |[]=>true
  |x::l=>x.li&&AV.lis l
end
theorem AV.lis_mem:∀{l:List AV}{c:AV},AV.lis l=true->c∈l->c.li=true
 |x::l,c,h,hc=>by
  simp only[AV.lis,and_eq_true]at h;rcases List.mem_cons.1 hc with rfl |hc
  ·exact h.1
  ·exact AV.lis_mem h.2 hc
theorem LN{g:Nat->Array Value->Prop}{S:Nat->Nat->Prop}{m:Nat->Option Nat}{u:Value}{x:AV}(hx:Iw x=true)(h:Rep g S m u x)(kk:IntKind)(z:Int):u≠.int kk z:=by
 rintro rfl;cases h <;> cases hx
theorem MK{g g':Nat->Array Value->Prop}{S S':Nat->Nat->Prop}{m m':Nat->Option Nat}{v:Value}{x:AV}(hx:x.li=true)
  (hg:∀b cs (o:Nat)(kk:IntKind)(z:Int),cs[o]?=some (.int kk z)->g b cs->g' b cs) (h:Rep g S m v x):Rep g' S' m' v x:=by
 induction h with
 |v=>exact .v _
 |agg hn h1 hr ih=>exact .agg hn h1 (fun j u c hu hc=>ih j u c hu hc (AV.lis_mem hx (mem_of_getElem? hc)))
 |tup hn hr ih=>exact .tup hn (fun j u c hu hc=>ih j u c hu hc (AV.lis_mem hx (mem_of_getElem? hc)))
 |lst0 a cap sz=>exact .lst0 _ _ _
 | @lst _ b off cap sz es cs u hb hc hl hs h1 hu hr _ =>
  simp only[AV.li,and_eq_true]at hx;have hsz:=eq_of_beq_eq_true hx.1;subst hsz
  match es,hx,hc,hl,hs,h1,hu,hr with
  |[],_,_,_,_,_,_,_=>exact .lst0 _ _ _
  |e::es,hx,hc,hl,hs,h1,hu,hr =>
   have hcell:∀(i j:Nat)(e' c:AV),(e::es)[i]?=some e'->e'.cells[j]?=some c->∃kk z,c=.v (.int kk z):=by
    intro i j e' c he hc';have h9:=List.all_eq_true.1 hx.2 e' (mem_of_getElem? he);cases e' with
    |v y=>cases y with
     |int kk z =>
      cases j with
      |zero=>cases hc';exact⟨_,_,rfl⟩
      |succ j=>cases hc'
     |_=>cases h9
    |_=>cases h9
   have he0:∃kk z,e=.v (.int kk z):=by
    have h9:=List.all_eq_true.1 hx.2 e (by simp);cases e with
    |v y=>cases y with
     |int kk z=>exact⟨_,_,rfl⟩
     |_=>cases h9
    |_=>cases h9
   obtain⟨kk,z,rfl⟩:=he0;have h8:=hu 0 0 _ _ rfl rfl;have h7:=hr 0 0 _ _ rfl rfl;have h6:u 0 0=.int kk z:=DA h7;rw[h6]at h8;refine .lst u (hg b cs _ kk z h8 hb) hc hl hs h1 hu (fun i j e' c he hc'=>?_);obtain⟨k2,z2,rfl⟩:=hcell i j e' c he hc';rw[DA (hr i j _ _ he hc')];exact .v _
 |_=>cases hx
theorem Con.lend{f:FuncId}{k:Nat}{cs:List AV}{cs':Value->List AV}{H:Hp}{r:AV}(hid:List Nat)(j0:Nat)(hk:lk H k=some (.box cs))(hkh:k∉hid)
  (hc:∀v:Value,v.oneCell'=true->(cs' v).length=cs.length/\(∀(j:Nat)(x:AV),(cs' v)[j]?=some x->x.one=true) /\
   ∀(j:Nat)(x x':AV),cs[j]?=some x->(cs' v)[j]?=some x'->(j=j0/\x'=.v v)\/Lent H hid x x')
  (hj:j0<cs.length)
  (hH:∀k z,lk H k=some z->k∈hid\/(∃cs,z=.box cs/\cs.all Iw=true)\/∃vs,z=.vec vs/\∀v∈vs,∀kk z,v≠.int kk z) (hr:r.li=true) (h:∀v:Value,ik P f [.iptr (cs' v)] r):Con P f [.ptr k 0] H r H:=by
 refine⟨(h undef).ok,?_⟩;intro ext m w vs hext hheap hvs hrep;have hsz:0<vs.size:=by rw[hvs];exact Nat.one_pos
 have hr0:=hrep 0 vs[0] _ (Array.getElem?_eq_getElem hsz) rfl;have hb:=hheap.blk k _ hk;generalize hv0:vs[0]=v0 at hr0;cases hr0 with
 | @ptr _ _ _ b hmk =>
  rw[hmk]at hb;cases hb with
  | @box _ _ c t hw hn h1 hrr =>
   have hj0:j0<c.size:=by omega
   have hx0:=getElem?_eq_getElem (l:=cs) (i:=j0) oz;have hone:(c[j0]).oneCell'=true:=(hrr j0 _ _ (Array.getElem?_eq_getElem hj0) hx0).one (h1 j0 _ hx0);obtain⟨g1,g2,g3⟩:=hc c[j0] hone
   have hext':∀b,o0 ext H hid m b->b<w.heap.size:=by
    rintro b (h9 |⟨k',z',_,h2,h3⟩)
    ·exact hext b h9
    ·exact(hheap.sep k' z' b h2 h3).2
   have hcall := (h c[j0]).ret (o0 ext H hid m) m w vs hext' ⟨fun k z hz => by (cases hz), fun k k' x x' b hx => by (cases hx), fun k x b hx => by (cases hx)⟩ (by rw [hvs]; rfl) (by
    intro j v x hv hx
    match j,hx with
    |0,hx =>
     cases hx;rw[Array.getElem?_eq_getElem hsz,hv0]at hv;cases hv;refine .iptr (cs:=c) (fun j=>c.getD j undef) ⟨CV hheap hk hmk hkh,wb,t,(0,0),hw⟩ g2 ?_ ?_
     ·intro j x hx;have hlt:j < c.size:=by rw [hn,<- g1]; exact (List.getElem?_eq_some_iff.1 hx).1
      rw[Nat.zero_add,getD_eq_getD_getElem?,Array.getElem?_eq_getElem hlt];rfl
     ·intro j x hx;have hlt:j < c.size:=by rw [hn,<- g1]; exact (List.getElem?_eq_some_iff.1 hx).1
      obtain⟨y,hy⟩:=iO g1 hx;have hcv:c[j]?=some (c.getD j undef):=by rw[getD_eq_getD_getElem?,Array.getElem?_eq_getElem hlt];rfl
      rcases g3 j y x hy hx with⟨rfl,rfl⟩ |hl
      ·have : c.getD j undef = c[j] := by rw [Array.getElem?_eq_getElem hlt] at hcv; exact (Option.some.inj hcv).symm
       rw[this];exact .v _
      ·exact hl.rep hheap (hrr j _ y hcv hy) cQ)
   refine Calls.mono hcall ?_;rintro e w' ⟨v,m',rfl,hf,hh,hnew,hkeep,hres⟩;have hkeepB:∀b,b<w.heap.size->w'.heap[b]?=w.heap[b]? := fun b hb=>hf.keep b hb wb
   have hframe:Frame (a6 H m) w w':=⟨hf.os,hf.tape,hf.output,hf.size,hf.sz,fun b hb _=>hkeepB b hb⟩
   have him:=eC (ext:=ext) hframe (hp':=H) (m':=m) (fun k x b hk hb=>.inl ⟨k,x,hk,hb⟩);refine⟨v,m,rfl,hframe,⟨?_,hheap.inj,?_⟩,fun k x b hk hb=>.inl ⟨k,x,hk,hb⟩,fun _ _ _ _ _=>rfl,?_⟩
   ·intro k z hz;exact BlkRep.mono (w:=w) him hf.sz (fun _ _ _ h=>h) rfl (fun b hb=>hkeepB b (hheap.sep k z b hz hb).2) (hheap.blk k z hz)
   ·intro k z b hz hb;have:=hheap.sep k z b hz hb;exact⟨this.1,lt_of_lt_of_le this.2 hf.size⟩
   ·refine MK hr ?_ hres;rintro b2 cs2 o kk z ho ⟨g1,g2,t2,fl,g3⟩;refine⟨fun h9=>g1 (.inl h9),?_,t2,fl,g3⟩;rintro⟨k2,y,hk2,hb2⟩;have hlt:=fun b hb=>(hheap.sep k2 _ b hk2 hb).2
    have h3:=hheap.blk k2 _ hk2;rw[hb2]at h3;rcases hH k2 y hk2 with h9 |⟨cl,rfl,hcl⟩ |⟨vs2,rfl,hvl⟩
    ·exact g1 (.inr ⟨k2,y,h9,hk2,hb2⟩)
    ·cases h3 with
     | @box _ _ c2 t' hw2 hn2 h12 hrr2 =>
      have hcc:c2=cs2:=by
       rw[hkeepB b2 (hlt b2 hb2),hw2]at g3
       injection g3 with g3
       injection g3
      subst hcc;have ho':o<c2.size:=(Array.getElem?_eq_some_iff.1 ho).1;have hx:=getElem?_eq_getElem (l:=cl) (i:=o) oz;exact LN (List.all_eq_true.1 hcl _ (mem_of_getElem? hx)) (hrr2 o _ _ ho hx) kk z rfl
    ·cases h3 with
     | @vec _ _ c2 t' hw2 hc2 h12 =>
      have hcc:c2=cs2:=by
       rw[hkeepB b2 (hlt b2 hb2),hw2]at g3
       injection g3 with g3
       injection g3
      subst hcc;have:Value.int kk z∈vs2:=by rw[<- hc2];exact Array.mem_toList_iff.2 (Array.mem_of_getElem? ho)
      exact hvl _ this kk z rfl
end Go.Lw
namespace Go.Lw
open Go.Proofs
def bv(xs:List Bool):List Value:=xs.map .bool
theorem f8(xs:List Bool):(bv xs).length=xs.length:=length_map _
theorem vO(xs:List Bool)(n:Nat):(bv xs).set n (.bool true)=bv (xs.set n true):=by unfold bv;rw[map_set]
theorem yu(xs:List Bool):∀v∈bv xs,∀kk z,v≠.int kk z:=by
 intro v hv kk z;obtain⟨b,_,rfl⟩:=List.mem_map.1 hv;exact fun h=>by cases h
theorem wi(xs:List Bool):(bv xs).map AV.v=xs.map bl:=by unfold bv;rw[map_map];rfl
theorem Aw(n:Nat):List.replicate n (Value.bool false)=bv (List.replicate n false):=by unfold bv;rw[map_replicate]
theorem PG(xs:List Int):(xs.map i64).all CY=true:=by
 rw[all_eq_true];intro x hx;obtain⟨b,_,rfl⟩:=List.mem_map.1 hx;rfl
theorem Vo(g:Gr)(b:Bool):(AV.tup [g.av,bl b]).li=true:=by
 simp only[AV.li,AV.lis,Gr.av,PG];rfl
def oI(l:Li)(n:Nat):Blk:=.box (l.av.cells++[.ms 23 1 0 l.bo.length,.ms 27 1 0 l.bo.length,.ms 31 1 0 l.jo.length,.ms 900 4 0 n])
def mn(l:Li)(kw used:List Bool)(out:List Gr):Hp :=
  [(33,some (oI l out.length)),(23,some (.vec (bv kw))),(27,some (.vec (bv (bW l)))),(31,some (.vec (bv used))),(900,some (.row 4 (out.map Gr.av)))]
theorem yM{xs:List Bool}{n:Nat}(h:xs.length=n):AV.lst 1 ((((bv xs).drop 0).take n).map .v)=.lst 1 (xs.map bl):=by
 rw[drop_zero,take_of_length_le (by rw[f8];omega),wi]
theorem C7(l:Li)(hl:l.ok)(hli:aE l=0)(kw used:List Bool)(hk:kw.length=l.bo.length)(hu:used.length=l.jo.length)(hm:l.bo.length<=aX/\l.jo.length<=aX)(out:List Gr) :
  Con prog 334 [.ptr 33 0] (mn l kw used out) (.tup [((cr l kw).getD default).av,bl (cr l kw).isSome]) (mn l kw used out):=by
 refine Con.lend (cs:=l.av.cells++[.ms 23 1 0 l.bo.length,.ms 27 1 0 l.bo.length,.ms 31 1 0 l.jo.length,.ms 900 4 0 out.length])
  (cs':=fun v=>dL l kw (bW l) [.lst 1 (used.map bl),.v v]) [900] 7 rfl (by decide) ?_ (by simp[Li.av,AV.cells]) ?_ (Vo _ _) (fun v=>Si l hl hli kw hk _)
 ·intro v hv;refine⟨rfl,?_,?_⟩
  ·intro j x hx
   match j,hx with
   |0,hx=>cases hx;rfl
   |1,hx=>cases hx;rfl
   |2,hx=>cases hx;rfl
   |3,hx=>cases hx;rfl
   |4,hx=>cases hx;rfl
   |5,hx=>cases hx;rfl
   |6,hx=>cases hx;rfl
   |7,hx=>cases hx;exact hv
   |j+8,hx=>cases hx
  ·intro j x x' hx hx'
   match j,hx,hx' with
   |0,hx,hx'=>cases hx;cases hx';exact .inr (.same rfl)
   |1,hx,hx'=>cases hx;cases hx';exact .inr (.same rfl)
   |2,hx,hx'=>cases hx;cases hx';exact .inr (.same rfl)
   |3,hx,hx'=>cases hx;cases hx';exact .inr (.same rfl)
   |4,hx,hx' =>
    cases hx;cases hx'
    have h:=Lent.ms (H:=mn l kw used out) (hid:=[900]) (k:=23) (off:=0) (len:=l.bo.length) (vs:=bv kw) rfl (by decide) (by rw[f8];omega) (by rw[f8];omega);rw[yM hk]at h;exact .inr h
   |5,hx,hx' =>
    cases hx;cases hx'
    have h:=Lent.ms (H:=mn l kw used out) (hid:=[900]) (k:=27) (off:=0) (len:=l.bo.length) (vs:=bv (bW l)) rfl (by decide) (by rw[f8,rD];omega) (by rw[f8,rD];omega);rw[yM (rD l)]at h;exact .inr h
   |6,hx,hx' =>
    cases hx;cases hx'
    have h:=Lent.ms (H:=mn l kw used out) (hid:=[900]) (k:=31) (off:=0) (len:=l.jo.length) (vs:=bv used) rfl (by decide) (by rw[f8];omega) (by rw[f8];omega);rw[yM hu]at h;exact .inr h
   |7,hx,hx'=>cases hx;cases hx';exact .inl ⟨rfl,rfl⟩
   |j+8,hx,hx'=>cases hx
 ·intro k z hz;simp only[mn,aP]at hz;split at hz
  ·cases hz;exact .inr (.inl ⟨_,rfl,rfl⟩)
  split at hz
  ·cases hz;exact .inr (.inr ⟨_,rfl,yu _⟩)
  split at hz
  ·cases hz;exact .inr (.inr ⟨_,rfl,yu _⟩)
  split at hz
  ·cases hz;exact .inr (.inr ⟨_,rfl,yu _⟩)
  split at hz
  ·subst_vars;exact .inl (by decide)
  ·cases hz
def qo(l:Li):AV:=if aE l=0 then .iptr (dL l (ci l) (bW l) [.lst 1 ((fa l).map bl),.lst 4 ((cH l).map Gr.av)])else .v (.pointer none)
def jf(l:Li)(out:List Gr):List Bool:=out.foldl (fun k g=>bD k g.jo) (List.replicate l.jo.length false)
theorem yt(l:Li)(out:List Gr):(jf l out).length=l.jo.length:=by unfold jf;rw[pH,length_replicate]
theorem RX(l:Li)(out:List Gr)(g:Gr):jf l (out++[g])=bD (jf l out) g.jo:=by unfold jf;rw[List.foldl_append];rfl
theorem BE{k:List Bool}{bs:List Int}{i:Nat}{b:Int}(h:bs[i]?=some b):bD k (bs.take (i+1))=(bD k (bs.take i)).set b.toNat true:=by
 unfold bD;rw[cC h,List.foldl_append];rfl
theorem KD{l:Li}(hli:aE l=0){kw:List Bool}{out:List Gr}{g:Gr}(hk:kw.length=l.bo.length)(h:cI l (dI kw) kw out=(ci l,cH l))(hg:cr l kw=some g) :
  cI l (dI (bD kw g.bo)) (bD kw g.bo) (out++[g])=(ci l,cH l):=by
 have hlt:=sk hli hk hg;obtain⟨n,hn⟩:∃n,dI kw=n+1:=⟨dI kw-1,by omega⟩
 rw[hn]at h;unfold cI at h;rw[hg]at h;rw[<- h];exact z8 hli _ _ _ _ (by rw[ku];exact hk) (le_refl _) oz
theorem Kd{l:Li}{kw:List Bool}{out:List Gr}(h:cI l (dI kw) kw out=(ci l,cH l))(hg:cr l kw=none):kw=ci l/\out=cH l:=by
 cases hn:dI kw with
 |zero=>rw[hn]at h;exact⟨(Prod.mk.inj h).1,(Prod.mk.inj h).2⟩
 |succ n=>rw[hn]at h;unfold cI at h;rw[hg]at h;exact⟨(Prod.mk.inj h).1,(Prod.mk.inj h).2⟩
theorem QS{n:Nat}:dI (cS n 0)<=n:=by
 unfold dI;exact le_trans List.countP_le_length (Nat.le_of_eq (iA _ _))
theorem Pj{l:Li}(hli:aE l=0):cI l (dI (cS l.bo.length 0)) (cS l.bo.length 0) []=(ci l,cH l):=by
 rw[<- DR];exact z8 hli _ _ _ _ (iA _ _) (le_refl _) QS
theorem Og{l:Li}(hli:aE l=0){kw:List Bool}{out:List Gr}(hk:kw.length=l.bo.length)(h:cI l (dI kw) kw out=(ci l,cH l)):out.length<=8:=by
 obtain⟨gs,e⟩:=yO (l:=l) (dI kw) kw out;rw[e]at h;have h1:=(rA hli).2;have h2:out++gs=cH l:=(Prod.mk.inj h).2;rw[<- h2,length_append]at h1;omega
theorem L4(l:Li)(kw used:List Bool)(out:List Gr)(hk:kw.length=l.bo.length)(hu:used.length=l.jo.length)(hm:l.bo.length<=aX/\l.jo.length<=aX) :
  Wk ⟨[(5,some (.ptr 33 0))],mn l kw used out⟩ ⟨[(5,some (.iptr (dL l kw (bW l) [.lst 1 (used.map bl),.lst 4 (out.map Gr.av)])))],[]⟩:=by
 have hd:=rD l;have q1:.ms 23 1 0 l.bo.length=AV.ms 23 1 0 ((bv kw).map AV.v).length:=by rw[length_map,f8,hk]
 refine(Wk.of (sl:=[(5,some (.ptr 33 0))]) (hp:=[(33,some (oI l out.length)),(23,some (.row 1 ((bv kw).map .v))),(27,some (.row 1 ((bv (bW l)).map .v))),(31,some (.row 1 ((bv used).map .v))),(900,some (.row 4 (out.map Gr.av)))])
  (.k .nil) (.k (.cons rfl (.vecRow (by rw[f8];omega)) (.cons rfl (.vecRow (by rw[f8];omega)) (.cons rfl (.vecRow (by rw[f8];omega)) (.k .nil)))))).trans ?_
 refine(Wk.freeze (k:=23) rfl).trans ?_
 refine(Wk.of (sl:=[(5,some (.ptr 33 0))]) (hp:=[(33,some (.box (l.av.cells++[.lst 1 (kw.map bl),.ms 27 1 0 l.bo.length,.ms 31 1 0 l.jo.length,.ms 900 4 0 out.length]))),(27,some (.row 1 ((bv (bW l)).map .v))),(31,some (.row 1 ((bv used).map .v))),(900,some (.row 4 (out.map Gr.av)))])
  (.k .nil) (.cons rfl (BlkSub.bL (.cons (.refl _) (.cons (.refl _) (.cons (.refl _) (.cons (.refl _) (.cons (.of ((bA (by rw[length_map,f8,hk])).trans (by rw[wi]))) (.cons (.refl _) (.cons (.refl _) (.cons (.refl _) .nil)))))))) rfl) (.k (.k (.k .nil))))).trans ?_
 refine(Wk.freeze (k:=27) rfl).trans ?_
 refine(Wk.of (sl:=[(5,some (.ptr 33 0))]) (hp:=[(33,some (.box (l.av.cells++[.lst 1 (kw.map bl),.lst 1 ((bW l).map bl),.ms 31 1 0 l.jo.length,.ms 900 4 0 out.length]))),(31,some (.row 1 ((bv used).map .v))),(900,some (.row 4 (out.map Gr.av)))])
  (.k .nil) (.cons rfl (BlkSub.bL (.cons (.refl _) (.cons (.refl _) (.cons (.refl _) (.cons (.refl _) (.cons (.refl _) (.cons (.of ((bA (by rw[length_map,f8,hd])).trans (by rw[wi]))) (.cons (.refl _) (.cons (.refl _) .nil)))))))) rfl) (.k (.k .nil)))).trans ?_
 refine(Wk.freeze (k:=31) rfl).trans ?_
 refine(Wk.of (sl:=[(5,some (.ptr 33 0))]) (hp:=[(33,some (.box (l.av.cells++[.lst 1 (kw.map bl),.lst 1 ((bW l).map bl),.lst 1 (used.map bl),.ms 900 4 0 out.length]))),(900,some (.row 4 (out.map Gr.av)))])
  (.k .nil) (.cons rfl (BlkSub.bL (.cons (.refl _) (.cons (.refl _) (.cons (.refl _) (.cons (.refl _) (.cons (.refl _) (.cons (.refl _) (.cons (.of ((bA (by rw[length_map,f8,hu])).trans (by rw[wi]))) (.cons (.refl _) .nil)))))))) rfl) (.k .nil))).trans ?_
 refine(Wk.freeze (k:=900) rfl).trans ?_
 refine(Wk.of (sl:=[(5,some (.ptr 33 0))]) (hp:=[(33,some (.box (dL l kw (bW l) [.lst 1 (used.map bl),.lst 4 (out.map Gr.av)])))])
  (.k .nil) (.cons rfl (BlkSub.bL (.cons (.refl _) (.cons (.refl _) (.cons (.refl _) (.cons (.refl _) (.cons (.refl _) (.cons (.refl _) (.cons (.refl _) (.cons (.of (bA (by rw[length_map]))) .nil)))))))) rfl) .nil)).trans ?_
 refine(Wk.freezeB (k:=33) rfl rfl).trans ?_;exact Wk.of (.k .nil) .nil
theorem Le(l:Li)(hl:l.ok):FP 238 [l.av] (.tup [qo l,bn (aE l)]):=by
 refine af func238 ?_;refine gc (HI l hl) ?_;refine gC (fun t17=>?_) (fun t17=>?_)
 ·have h1:=dm t17;refine a9 ?_;unfold qo;rw[if_neg h1]
 have hli:=cV t17;have h8:=(da hli).2.2.2.1;have h0:=(da hli).2.2.2.2;have hj16:l.jo.length<=16:=by have:=(da hli).2.1;unfold eD at this;split at this;cases this;omega
 have hld:=hl.ld;have hm:l.bo.length<=aX/\l.jo.length<=aX:=by unfold aX;omega
 refine gl ?_;refine gs (yh (.tmp rfl) T218 rfl T4 rfl rfl rfl rfl (by dsimp only;omega) rfl) ?_;refine gl ?_;refine gs (yh (.tmp rfl) T218 rfl T4 rfl rfl rfl rfl (by dsimp only;omega) rfl) ?_;refine gl ?_;refine gs (yh (.tmp rfl) T218 rfl T4 rfl rfl rfl rfl (by dsimp only;omega) rfl) ?_;refine gD ?_;refine gs (bQ (n:=0) (.tmp rfl) (.const _) T218 rfl T4 rfl rfl oz rfl) ?_;refine gs (uV (.tmp rfl) rfl (by rw[length_replicate];omega) (.const _) rfl T4 rfl) ?_ (6,0);refine gW (Wk.of (sl:=[(1,some (.ptr 1 0)),(5,some (.ptr 33 0))]) (hp:=[(1,some (.box l.av.cells)),(33,some (.box (l.av.cells++[.ms 23 1 0 l.bo.length,.ms 27 1 0 l.bo.length,.ms 31 1 0 l.jo.length,nS]))),(23,some (.vec (bv (cS l.bo.length 0)))),(27,some (.vec (bv (List.replicate l.bo.length false)))),(31,some (.vec (bv (List.replicate l.jo.length false))))]) aQ (.k (.k (.cons rfl (BlkSub.of (by rw[Aw,vO];rfl)) (.cons rfl (BlkSub.of (by rw[Aw])) (.cons rfl (BlkSub.of (by rw[Aw])) .nil)))))) ?_
 refine gl ?_;refine aM [1,5,40,41] [1,23,31] (fun(i:Nat)=>[(42,some (i64 i))]) (fun i=>[(33,some (.box (l.av.cells++[.ms 23 1 0 l.bo.length,.ms 27 1 0 l.bo.length,.ms 31 1 0 l.jo.length,nS]))),(27,some (.vec (bv (bD (List.replicate l.bo.length false) ((l.dv.map Dr.body).take i)))))]) (fun i=>i<=l.dv.length) (fun i=>l.dv.length-i) 0 (zero_le _) ?_;rintro i hi K1 J1;refine gC (fun t43=>?_) (fun t43=>?_) (st2:=(11,0))
 ·have hin:=aT t43;obtain⟨d,hd⟩:=az hin;have hb:=eJ (lU hli hd);have hmt:=BE (k:=List.replicate l.bo.length false) (bs:=l.dv.map Dr.body) (i:=i) (b:=d.body) (by rw[getElem?_map,hd];rfl);refine gi (ay hd) ?_;refine gs (bQ (n:=d.body.toNat) (.tmp rfl) (.tmp rfl) T218 rfl T4 rfl oz oz rfl) ?_;refine gs (uV (.tmp rfl) rfl (by rw[f8,ku,length_replicate];omega) (.const _) rfl T4 rfl) ?_;refine gD ?_;refine ga aH ?_;exact aG J1 (i+1) hin (hw:=Wk.of aQ (.k (.cons rfl (BlkSub.of (by rw[vO,hmt])) (.k (.k (.k .nil))))))
 have hin:=a8 hi t43;have hall:bD (List.replicate l.bo.length false) ((l.dv.map Dr.body).take i)=bW l:=by rw[hin];unfold bW;rw[take_of_length_le (by rw[length_map];omega)]
 refine gW ((Wk.virt 900 4 rfl).trans<|Wk.of (sl:=[(1,some (.ptr 1 0)),(5,some (.ptr 33 0))]) (hp:=[(33,some (oI l 0)),(23,some (.vec (bv (cS l.bo.length 0)))),(27,some (.vec (bv (bW l)))),(31,some (.vec (bv (List.replicate l.jo.length false)))),(900,some (.row 4 []))]) aQ (.cons rfl (BlkSub.bL (.cons (.refl _) (.cons (.refl _) (.cons (.refl _) (.cons (.refl _) (.cons (.refl _) (.cons (.refl _) (.cons (.refl _) (.cons (Sub.nM _ _ _) .nil)))))))) rfl) (.k (.cons rfl (BlkSub.of (by rw[hall])) (.k (.k .nil)))))) ?_
 refine gt (aJ (C7 l hl hli (cS l.bo.length 0) (List.replicate l.jo.length false) (iA _ _) length_replicate hm []) (cJ rfl) (fun k z h=>h) rfl rfl) ?_;refine fS [5,8] [] (fun(kw:List Bool)(out:List Gr)=>[(9,some (bl (cr l kw).isSome))]) (fun kw out=>[(8,some (.box ((cr l kw).getD default).av.cells)),(33,some (oI l out.length)),(23,some (.vec (bv kw))),(27,some (.vec (bv (bW l)))),(31,some (.vec (bv (jf l out)))),(900,some (.row 4 (out.map Gr.av)))]) (fun kw out=>kw.length=l.bo.length/\cI l (dI kw) kw out=(ci l,cH l)) (fun kw _=>dI kw) (cS l.bo.length 0) ([]) ⟨iA _ _,Pj hli⟩ ?_
 rintro kw out ⟨hk,hf⟩ K2 J2;refine gC (fun t59=>?_) (fun t59=>?_) (st1:=(77777,0)) (st2:=(27,0))
 ·obtain ⟨g, hg⟩:=yJ t59;have hgo:=xd hli hg;have hout:=Og hli hk hf;refine gW (Wk.of (sl:=[(5,some (.ptr 33 0)),(8,some (.ptr 8 0))]) (hp:=[(8,some (.box g.av.cells)),(33,some (oI l out.length)),(23,some (.vec (bv kw))),(27,some (.vec (bv (bW l)))),(31,some (.vec (bv (jf l out)))),(900,some (.row 4 (out.map Gr.av)))]) aQ (.cons rfl (BlkSub.of (by rw [hg]; rfl)) (.k (.k (.k (.k (.k .nil))))))) ?_;refine gl ?_;refine aM [5,8,66,67] [8,33,27,31,900] (fun (j:Nat)=>[(68,some (i64 j))]) (fun j=>[(23,some (.vec (bv (bD kw (g.bo.take j)))))]) (fun j=>j <= g.bo.length) (fun j=>g.bo.length - j) 0 (zero_le _) ?_;rintro j hj K3 J3;refine gC (fun t69=>?_) (fun t69=>?_)
  ·have hin:=aT t69;obtain⟨b,hb⟩:=az hin;have hbb:=hgo.b b (mem_of_getElem? hb);have hlb:=hgo.lb;refine gi (ay hb) ?_;refine gs (bQ (n:=b.toNat) (.tmp rfl) (.tmp rfl) T218 rfl T4 rfl oz oz rfl) ?_;refine gs (uV (.tmp rfl) rfl (by rw[f8,ku];omega) (.const _) rfl T4 rfl) ?_;refine ga aH ?_;exact aG J3 (j+1) hin (hw:=Wk.of aQ (.cons rfl (BlkSub.of (by rw[vO,BE hb])) (.k (.k (.k (.k (.k .nil)))))))
  have hin:=a8 hj t69;subst hin;refine gl ?_;refine aM [5,8,80,81] [8,33,27,900] (fun(q:Nat)=>[(82,some (i64 q))]) (fun q=>[(23,some (.vec (bv (bD kw g.bo)))),(31,some (.vec (bv (bD (jf l out) (g.jo.take q)))))]) (fun q=>q<=g.jo.length) (fun q=>g.jo.length-q) 0 (zero_le _) ?_ (h2:=(.cons rfl (BlkSub.of (by rw[take_length])) (.k .nil)));rintro q hq K4 J4;refine gC (fun t83=>?_) (fun t83=>?_)
  ·have hin:=aT t83;obtain⟨b,hb⟩:=az hin;have hbb:=hgo.j b (mem_of_getElem? hb);have hlj:=hgo.lj;refine gi (ay hb) ?_;refine gs (bQ (n:=b.toNat) (.tmp rfl) (.tmp rfl) T218 rfl T4 rfl oz oz rfl) ?_;refine gs (uV (.tmp rfl) rfl (by rw[f8,ku,yt];omega) (.const _) rfl T4 rfl) ?_;refine ga aH ?_;exact aG J4 (q+1) hin (hw:=Wk.of aQ (.k (.cons rfl (BlkSub.of (by rw[vO,BE hb])) (.k (.k (.k (.k .nil)))))))
  have hin:=a8 hq t83;subst hin;refine gs (bK (.tmp rfl) rfl (by rw[length_map]) (.tmp rfl) T32 rfl T53 rfl rfl (by simp only[length_cons,length_nil];omega) rfl rfl) ?_;refine gD ?_ (25,0);refine gW (Wk.of (sl:=[(5,some (.ptr 33 0)),(8,some (.ptr 8 0))]) (hp:=[(8,some (.box g.av.cells)),(33,some (.box (l.av.cells++[.ms 23 1 0 l.bo.length,.ms 27 1 0 l.bo.length,.ms 31 1 0 l.jo.length,.ms 100 4 0 (out++[g]).length]))),(100,some (.row 4 ((out++[g]).map Gr.av))),(23,some (.vec (bv (bD kw g.bo)))),(27,some (.vec (bv (bW l)))),(31,some (.vec (bv (jf l (out++[g])))))]) aQ (.k (.cons rfl (BlkSub.of (by rw[length_append];rfl)) (.cons rfl (BlkSub.of (by rw[map_append];rfl)) (.k (.k (.cons rfl (BlkSub.of (by rw[RX,take_length])) .nil))))))) ?_ (25,0)
  refine gW (Wk.rk (k:=100) (d:=900) rfl rfl) ?_ (26,0);refine gW (Wk.o (sl:=[(5,some (.ptr 33 0)),(103,some (g.av))]) (hp:=[(33,some (oI l (out++[g]).length)),(23,some (.vec (bv (bD kw g.bo)))),(27,some (.vec (bv (bW l)))),(31,some (.vec (bv (jf l (out++[g]))))),(900,some (.row 4 ((out++[g]).map Gr.av)))])) ?_;refine gt (aJ (C7 l hl hli (bD kw g.bo) (jf l (out++[g])) (by rw[ku];exact hk) (yt _ _) hm (out++[g])) (cJ rfl) (by intro k z h;simp only[mn,aP]at h;split at h;(subst_vars;exact h);split at h;(subst_vars;exact h);split at h;(subst_vars;exact h);split at h;(subst_vars;exact h);split at h;(subst_vars;exact h);cases h) rfl rfl) ?_;exact fH J2 (bD kw g.bo) (out++[g]) ⟨by rw[ku];exact hk,KD hli hk hf hg⟩ (sk hli hk hg)
 have hg:=yP t59;obtain⟨e1,e2⟩:=Kd hf hg;subst e1 e2;refine gW (Wk.o (sl:=[(5,some (.ptr 33 0))]) (hp:=[(33,some (oI l (cH l).length)),(23,some (.vec (bv (ci l)))),(27,some (.vec (bv (bW l)))),(31,some (.vec (bv (jf l (cH l))))),(900,some (.row 4 ((cH l).map Gr.av)))])) ?_ (27,0);refine gW (L4 l (ci l) (jf l (cH l)) (cH l) hk (yt _ _) hm) ?_;refine a9 ?_;unfold qo;rw[if_pos hli,hli];rfl
theorem Dl{α:Type}[BEq α][LawfulBEq α]{xs:List α}{b:α}{ok:Nat->Bool}(h:∀i x,xs[i]?=some x->ok i=!(b==x)):decide (0<=m7 (cW xs.length ok))=xs.contains b:=by
 cases hf:cW xs.length ok with
 |some i =>
  obtain⟨h1,h2⟩:=fW hf;obtain⟨x,hx⟩:=az h1;rw[h i x hx]at h2;have:b=x:=by simpa using h2
  subst this;rw[List.contains_iff_mem.2 (mem_of_getElem? hx)];exact decide_eq_true (by show(0:Int)<=(i:Int);omega)
 |none =>
  rw[decide_eq_false (by show ¬(0:Int) <= -1;decide)]
  symm
  rw[<- Bool.not_eq_true,List.contains_iff_mem];intro hm;obtain⟨i,hi⟩:=List.mem_iff_getElem?.1 hm;have hlt:=(List.getElem?_eq_some_iff.1 hi).1;unfold cW at hf;rw[List.find?_eq_none]at hf;have:=hf i (List.mem_range.2 hlt);rw[h i b hi]at this;simp at this
theorem Tx(xs:List Bool)(b:Bool)(hl:xs.length<=281474976710656):FP 335 [.lst 1 (xs.map bl),bl b] (i64 (m7 (cW xs.length (fun i=>!(b==xs.getD i false))))):=by
 refine af func335 ?_;refine gl ?_;refine aM [0,1,7] [] (fun(i:Nat)=>[(8,some (i64 i))]) (fun _=>[]) (fun i=>i<=xs.length/\∀j,j<i->(!(b==xs.getD j false))=true) (fun i=>xs.length-i) 0 ⟨zero_le _,fun j h=>by omega⟩ ?_;rintro i ⟨hi,hj⟩ K1 J1;refine gC (fun t9=>?_) (fun t9=>?_)
 ·have hin:=aT t9;obtain⟨x,hx⟩:=az hin;have hg:xs.getD i false=x:=aO hx;refine gi (ay hx) ?_;refine gC (fun t16=>?_) (fun t16=>?_)
  ·have h2:(b==x)=true:=t16;refine ae ?_;rw[iI hin hj (by rw[hg,h2];rfl)];rfl
  have h2:(b==x)=false:=t16;refine ga aH ?_;exact aG J1 (i+1) ⟨hin,fun j h9=>by rcases lt_or_ge j i with g |g;exact hj j g;(have:j=i:=by omega);subst this;rw[hg,h2];rfl⟩
 have hin:=a8 hi t9;subst hin;refine ae ?_;rw[iG hj];rfl
theorem CX(xs:List Bool)(b:Bool)(hl:xs.length<=281474976710656):FP 239 [.lst 1 (xs.map bl),bl b] (bl (xs.contains b)):=by
 refine af func239 ?_;refine gc (Tx xs b hl) ?_;refine ae ?_;rw[<- Dl (xs:=xs) (b:=b) (ok:=fun i=>!(b==xs.getD i false)) (fun i x hx=>by rw[aO hx])];rfl
theorem Ua(xs:List Int)(b:Int)(hl:xs.length<=281474976710656):FP 336 [.lst 1 (xs.map i64),i64 b] (i64 (m7 (cW xs.length (fun i=>!(b==xs.getD i 0))))):=by
 refine af func336 ?_;refine gl ?_;refine aM [0,1,7] [] (fun(i:Nat)=>[(8,some (i64 i))]) (fun _=>[]) (fun i=>i<=xs.length/\∀j,j<i->(!(b==xs.getD j 0))=true) (fun i=>xs.length-i) 0 ⟨zero_le _,fun j h=>by omega⟩ ?_;rintro i ⟨hi,hj⟩ K1 J1;refine gC (fun t9=>?_) (fun t9=>?_)
 ·have hin:=aT t9;obtain⟨x,hx⟩:=az hin;have hg:xs.getD i 0=x:=aO hx;refine gi (ay hx) ?_;refine gC (fun t16=>?_) (fun t16=>?_)
  ·have h2:(b==x)=true:=t16;refine ae ?_;rw[iI hin hj (by rw[hg,h2];rfl)];rfl
  have h2:(b==x)=false:=t16;refine ga aH ?_;exact aG J1 (i+1) ⟨hin,fun j h9=>by rcases lt_or_ge j i with g |g;exact hj j g;(have:j=i:=by omega);subst this;rw[hg,h2];rfl⟩
 have hin:=a8 hi t9;subst hin;refine ae ?_;rw[iG hj];rfl
theorem Gf(xs:List Int)(b:Int)(hl:xs.length<=281474976710656):FP 240 [.lst 1 (xs.map i64),i64 b] (bl (xs.contains b)):=by
 refine af func240 ?_;refine gc (Ua xs b hl) ?_;refine ae ?_;rw[<- Dl (xs:=xs) (b:=b) (ok:=fun i=>!(b==xs.getD i 0)) (fun i x hx=>by rw[aO hx])];rfl
theorem Ji(l:Li)(hl:l.ok):FP 135 [l.av] (.tup [.lst 4 (((if aE l=0 then aR l else[])).map Gr.av),bn (if aE l=0 then cA l else aE l)]):=by
 refine af func135 ?_;refine gc (Le l hl) (hnm:=(by unfold qo;split <;> rfl)) ?_;refine gC (fun t12=>?_) (fun t12=>?_) (st2:=(77777,0))
 ·have h1:=dm t12;refine gR ?_;exact bH (by rw[if_neg h1,if_neg h1];exact Sub.tup (.cons (.nil _ _ _) (.cons (.refl _) .nil)))
 have hli:=cV t12;have h8:=(da hli).2.2.2.1;have hj16:l.jo.length<=16:=by have:=(da hli).2.1;unfold eD at this;split at this;cases this;omega
 have lk1:(ci l).length=l.bo.length:=by unfold ci;rw[pH,iA]
 have lk2:(fa l).length=l.jo.length:=by unfold fa;rw[pH,length_replicate]
 have e1:qo l=.iptr (dL l (ci l) (bW l) [.lst 1 ((fa l).map bl),.lst 4 ((cH l).map Gr.av)]):=by unfold qo;rw[if_pos hli]
 have c1:=yc (k:=ci l);have c2:=yc (k:=fa l);refine gW (Wk.of (sl:=[(4,some (.iptr (dL l (ci l) (bW l) [.lst 1 ((fa l).map bl),.lst 4 ((cH l).map Gr.av)]))),(5,some (bn (aE l)))]) (hp:=[]) (.cons rfl (Sub.of e1) (.k .nil)) .nil) ?_;refine gc (CX (ci l) false oz) ?_;refine bI (fun _=>(CX (fa l) false oz)) ?_;refine gC (fun t25=>?_) (fun t25=>?_)
 ·have h2:cA l=7:=by
   unfold cA;rw[if_neg];intro h;have h3:(ci l).contains false=false:=c1.1 oz;have h4:(fa l).contains false=false:=c2.1 oz;rw[h3,h4]at t25;cases t25
  refine gR ?_;exact bH (by rw[if_pos hli,if_pos hli];unfold aR;rw[if_neg (by rw[h2];simp),h2];exact Sub.tup (.cons (.nil _ _ _) (.cons (.refl _) .nil)))
 have h2:cA l=0:=by
  unfold cA;rw[if_pos];cases h3:(ci l).contains false <;> cases h4:(fa l).contains false <;> rw[h3,h4]at t25 <;> first |(cases t25;done) |(have g1:=c1.2 h3;have g2:=c2.2 h4;omega)
 refine a9 ?_;rw[if_pos hli,if_pos hli,h2];unfold aR;rw[if_pos h2];rfl
def SO(ys:List Int)(i:Nat):Prop:=∀p q,p<q->q<i->ys.getD p 0<=ys.getD q 0
def SI(ys:List Int)(i j:Nat):Prop:=∀p q,p<q->q<=i->q≠j->ys.getD p 0<=ys.getD q 0
theorem Lu{xs ys:List Int}{i:Nat}(hp:ys.Perm xs)(hi:ys.length<=i)(h:SO ys i):ys=dW xs:=by
 refine Ss hp (List.pairwise_iff_getElem.2 fun p q hp hq hpq=>?_);have h1:=h p q hpq oz;rw[aO (getElem?_eq_getElem hp),aO (getElem?_eq_getElem hq)]at h1;exact h1
theorem P7{ys:List Int}{i:Nat}(h:SO ys i):SI ys i i:=fun p q h1 h2 h3=>h p q h1 oz
theorem Uj{ys:List Int}{i j:Nat}(h:SI ys i j)(hj:j=0\/ys.getD (j-1) 0<=ys.getD j 0):SO ys (i+1):=by
 intro p q h1 h2
 by_cases hq:q=j
 ·subst hq;rcases hj with hj |hj
  ·omega
  ·by_cases hp:p=q-1
   ·subst hp;exact hj
   ·exact Int.le_trans (h p (q-1) oz oz oz) hj
 ·exact h p q h1 oz hq
theorem Dy(ys:List Int)(i:Nat)(x:Int)(p:Nat)(hi:i<ys.length):(ys.set i x).getD p 0=if p=i then x else ys.getD p 0:=by
 rw[getD_eq_getElem?_getD,getD_eq_getElem?_getD,List.getElem?_set]
 by_cases h:i=p
 ·subst h;simp[hi]
 ·rw[if_neg h,if_neg (fun e=>h e.symm)]
theorem MZ{ys:List Int}{i j:Nat}(h:SI ys i j)(hj:0<j)(hi:j<=i)(hl:i<ys.length)(hlt:ys.getD j 0<ys.getD (j-1) 0):SI ((ys.set j (ys.getD (j-1) 0)).set (j-1) (ys.getD j 0)) i (j-1):=by
 intro p q h1 h2 h3
 have e:∀r,((ys.set j (ys.getD (j-1) 0)).set (j-1) (ys.getD j 0)).getD r 0=if r=j-1 then ys.getD j 0 else if r=j then ys.getD (j-1) 0 else ys.getD r 0:=fun r=>by
  rw[Dy _ _ _ _ (by rw[length_set];omega),Dy _ _ _ _ oz]
 rw[e,e,if_neg h3]
 by_cases hq:q=j
 ·rw[if_pos hq]
  by_cases hp:p=j-1
  ·rw[if_pos hp];omega
  ·rw[if_neg hp,if_neg oz];exact h p (j-1) oz oz oz
 ·rw[if_neg hq]
  by_cases hp:p=j-1
  ·rw[if_pos hp];exact h j q oz h2 hq
  ·rw[if_neg hp]
   by_cases hp2:p=j
   ·rw[if_pos hp2];exact h (j-1) q oz h2 hq
   ·rw[if_neg hp2];exact h p q h1 h2 hq
theorem MC{ys:List Int}{j:Nat}{a b:Int}(ha:ys[j]?=some a)(hb:ys[j-1]?=some b):((ys.set j b).set (j-1) a).Perm ys:=by
 obtain⟨h1,rfl⟩:=List.getElem?_eq_some_iff.1 ha;obtain⟨h2,rfl⟩:=List.getElem?_eq_some_iff.1 hb;exact List.set_set_perm h1 h2
theorem LS{j:Nat}{a b:Int}(h:cond (aa .gtr (j:Int) 0) (decide (a<b)) false=true):0<j/\a<b:=by
 cases h1:aa .gtr (j:Int) 0 <;> rw[h1]at h
 ·cases h
 ·exact⟨i7 (b:=0) h1,of_decide_eq_true h⟩
theorem Kc{j:Nat}{a b:Int}(h:cond (aa .gtr (j:Int) 0) (decide (a<b)) false=false):j=0\/b<=a:=by
 cases h1:aa .gtr (j:Int) 0 <;> rw[h1]at h
 ·have:=gP (b:=0) h1;omega
 ·have h2:decide (a<b)=false:=h;have:=of_decide_eq_false h2;omega
theorem RA(ys:List Int)(j:Nat)(a b:Int):((ys.map i64).set j (i64 b)).set (j-1) (i64 a)=((ys.set j b).set (j-1) a).map i64:=by rw[map_set,map_set]
theorem IU(a:Int):FP 387 [i64 a] (bl false):=by
 refine af func387 ?_;refine ae ?_;simp[aa];rfl
theorem LY(a b:Int):FP 343 [i64 a,i64 b] (bl (decide (a<b))):=by
 refine af func343 ?_;refine gc (IU a) ?_;refine bI (fun _=>(IU b)) ?_;refine ae ?_
 first |rfl |(simp;done)
theorem UB(xs:List Int)(hl:xs.length<=12):Con prog 337 [.ms 1000 1 0 xs.length,i64 0,i64 xs.length] [(1000,some (.row 1 (xs.map i64)))] (.tup []) [(1000,some (.row 1 ((dW xs).map i64)))]:=by
 refine gF func337 (fun k z h=>bw h) ?_;refine ga (show _=((1:Nat):Int)from rfl) ?_;refine fS [1,2] [] (fun(ys:List Int)(i:Nat)=>[(0,some (.ms 1000 1 0 xs.length)),(6,some (i64 i))]) (fun ys _=>[(1000,some (.row 1 (ys.map i64)))]) (fun ys i=>ys.length=xs.length/\ys.Perm xs/\1<=i/\SO ys i) (fun _ i=>xs.length+1-i) xs 1 ⟨rfl,.refl _,le_refl _,fun p q h1 h2=>by omega⟩ ?_;rintro ys i ⟨hyl,hyp,hi1,hso⟩ K1 J1;refine gC (fun t12=>?_) (fun t12=>?_)
 ·have hin:=aT t12;refine fS [1,2,6] [] (fun (zs:List Int) (j:Nat)=>[(0,some (.ms 1000 1 0 xs.length)),(7,some (i64 j))]) (fun zs _=>[(1000,some (.row 1 (zs.map i64)))]) (fun zs j=>zs.length = xs.length /\ zs.Perm xs /\ j <= i /\ SI zs i j) (fun _ j=>j) ys i ⟨hyl,hyp,le_refl _,P7 hso⟩ ?_;rintro zs j ⟨hzl,hzp,hji,hsi⟩ K2 J2;obtain ⟨a,ha⟩:=az (show j < zs.length by omega);obtain ⟨b,hb⟩:=az (show j - 1 < zs.length by omega);refine gs (er rfl rfl rfl (fun h=>bQ (n:=j) (.opt rfl (o1 h)) (.opt rfl (o1 h)) T39 rfl T3 rfl oz oz rfl)) ?_;refine gs (er rfl rfl rfl (fun h=>dS (.opt rfl (o1 h)) rfl (ay ha) T3 rfl rfl rfl)) ?_;refine oo (fun h=>(ji (i7 (b:=0) h) (by unfold aX; omega))) ?_;refine gs (er rfl rfl rfl (fun h=>bQ (n:=(j - 1)) (.opt rfl (o1 h)) (.opt rfl (o1 h)) T39 rfl T3 rfl oz oz rfl)) ?_;refine gs (er rfl rfl rfl (fun h=>dS (.opt rfl (o1 h)) rfl (ay hb) T3 rfl rfl rfl)) ?_;refine bI (fun _=>(LY a b)) ?_;refine gD ?_;refine gC (fun t30=>?_) (fun t30=>?_)
  ·obtain⟨hj0,hab⟩:=LS t30;refine ga (ji hj0 (by unfold aX;omega)) ?_;refine ga (ji hj0 (by unfold aX;omega)) ?_;refine gs (bQ (n:=(j-1)) (.tmp rfl) (.tmp rfl) T39 rfl T3 rfl oz oz rfl) ?_;refine gs (dS (.tmp rfl) rfl (ay hb) T3 rfl rfl rfl) ?_;refine gs (bQ (n:=j) (.tmp rfl) (.tmp rfl) T39 rfl T3 rfl oz oz rfl) ?_;refine gs (dS (.tmp rfl) rfl (ay ha) T3 rfl rfl rfl) ?_;refine gs (bQ (n:=j) (.tmp rfl) (.tmp rfl) T39 rfl T3 rfl oz oz rfl) ?_;refine gs (cK (.tmp rfl) rfl (ay ha) rfl (.tmp rfl) rfl rfl T3 rfl rfl) ?_;refine gs (bQ (n:=(j-1)) (.tmp rfl) (.tmp rfl) T39 rfl T3 rfl oz oz rfl) ?_;refine gs (cK (.tmp rfl) rfl ((List.getElem?_set_ne oz).trans (ay hb)) rfl (.tmp rfl) rfl rfl T3 rfl rfl) ?_;refine gD ?_;refine ga (ji hj0 (by unfold aX;omega)) ?_;exact fH J2 ((zs.set j b).set (j-1) a) (j-1) ⟨by rw[length_set,length_set];exact hzl,(MC ha hb).trans hzp,by omega,by have h9:=MZ hsi hj0 hji oz (by rw[aO ha,aO hb];exact hab);rw[aO ha,aO hb]at h9;exact h9⟩ (hw:=Wk.of aQ (.cons rfl (BlkSub.of (congrArg (Blk.row 1) (RA zs j a b))) .nil))
  have hs:=Kc t30;refine ga aH ?_;exact fH J1 zs (i+1) ⟨hzl,hzp,by omega,Uj hsi (by rw[aO ha,aO hb];exact hs)⟩
 have hin:=r7 t12;refine gR ?_;exact aA.own2 rfl (by rw[<- Lu hyp oz hso]) rfl
theorem Vi(xs:List Int)(hl:xs.length<=12)(m:Int):Con prog 241 [.ms 1000 1 0 xs.length,i64 0,i64 xs.length,i64 m] [(1000,some (.row 1 (xs.map i64)))] (.tup []) [(1000,some (.row 1 ((dW xs).map i64)))]:=by
 refine gF func241 (fun k z h=>bw h) ?_;refine Ti [1,2,3,8,9] [1000] [(0,some (.ms 1000 1 0 xs.length))] [] (True) (0) trivial ?_;rintro-K1 J1;refine ga (dg oz) ?_;refine gC (fun t23=>?_) (fun t23=>?_) (st2:=(77777,0))
 ·refine gt (aJ (UB xs hl) (aK rfl rfl rfl) aL rfl rfl) ?_;refine gR ?_;exact aA.own2 rfl rfl rfl
 (rw[show aa .leq ((xs.length:Int)-0) 12=true from decide_eq_true oz]at t23;cases t23)
theorem TP(x:Nat)(hx:x<256):FP 347 [u64 x] (i64 (a7 x)):=by
 refine af func347 ?_;refine gC (fun t4=>?_) (fun t4=>?_) (st1:=(2,0))
 ·(have:=t4;simp[aa]at this;omega)
 refine gC (fun t8=>?_) (fun t8=>?_) (st1:=(5,0))
 ·(have:=t8;simp[aa]at this;omega)
 refine gC (fun t14=>?_) (fun t14=>?_) (st1:=(8,0))
 ·(have:=t14;simp[aa]at this;omega)
 refine gv (jk hx) ?_;refine gs (sO (y:=x) (.const _) (.tmp rfl) T9 rfl (by kernel_rfl) (by first |rfl |omega) oz rfl) ?_;refine gv (i64_in (by have:=iK hx;omega)) ?_;refine ga (cT (by have:=iK hx;omega)) ?_;refine ae ?_;simp only[i64];congr 2;omega
theorem OS(x:Nat)(hx:x<256):FP 242 [u64 x] (i64 (a7 x)):=by
 refine af func242 ?_;refine gC (fun hcfalse=>?_) (fun hcfalse=>?_) (st1:=(1,0));cases hcfalse;refine gc (TP x hx) ?_;refine ae ?_
 first |rfl |(simp;done)
theorem OU(xs:List Int)(hl:xs.length<=12):Con prog 137 [.ms 1000 1 0 xs.length] [(1000,some (.row 1 (xs.map i64)))] (.tup []) [(1000,some (.row 1 ((dW xs).map i64)))]:=by
 refine gF func137 (fun k z h=>bw h) ?_;refine gv (show IntKind.u64.wrap _=((xs.length:Nat):Int)from u64_in oz) ?_;refine gc (OS xs.length oz) ?_;refine gt (aJ (Vi xs hl _) (.cons (.tmp rfl) (.cons (.const _) (bC rfl rfl))) aL rfl rfl) ?_;refine gR ?_;exact aA.own2 rfl rfl rfl
theorem Ps{l:Li}{g:Gr}{i:Nat}{z:Int}{j:Jt}(hz:g.jo[i]?=some z)(hj:l.jo[z.toNat]?=some j):(cB l g)[i]?=some (ip g j):=by
 unfold cB;rw[getElem?_map,hz,Option.map_some,aO hj]
theorem wL{l:Li}{g:Gr}{i:Nat}{z:Int}{j:Jt}{a:Int}(hz:g.jo[i]?=some z)(hj:l.jo[z.toNat]?=some j)(ha:ip g j=a):((cB l g).take i).map i64++[i64 a]=((cB l g).take (i+1)).map i64:=by
 rw[cC (Ps hz hj),ha,map_append];rfl
theorem F4{z:Int}{n:Nat}(h0:0<=z)(h1:z<n):cond (aa .lss z 0) true (aa .geq z (n:Int))=false:=by
 rw[show aa .lss z 0=false from decide_eq_false oz];exact decide_eq_false oz
theorem Ma(l:Li)(hl:l.ok)(hli:aE l=0)(g:Gr)(hg:GrOk l g):Con prog 136 [l.av,g.av] [] (.tup [.ms 900 1 0 g.jo.length,.v .nilIface]) [(900,some (.row 1 ((cB l g).map i64)))]:=by
 have hlb:=hg.lb;have hlj:=hg.lj;refine gF func136 (fun k z h=>by cases h) ?_;refine gc (HI l hl) ?_;refine gC (fun t16=>?_) (fun t16=>?_) (st1:=(3,0))
 ·(rw[hli]at t16;cases t16)
 refine gl ?_;refine gW ((Wk.virt 900 1 rfl).trans<|Wk.of (sl:=[(2,some (.ptr 2 0)),(3,some (.ptr 3 0)),(7,some (.ms 900 1 0 0)),(19,some (.lst 1 (g.jo.map i64))),(20,some (i64 g.jo.length)),(21,some (i64 0))]) (hp:=[(2,some (.box l.av.cells)),(3,some (.box g.av.cells)),(900,some (.row 1 []))]) (.k (.k (.cons rfl (Sub.nM _ _ _) (.k (.k (.k .nil)))))) (.k (.k (.k .nil)))) ?_;refine aM [2,3,19,20] [2,3] (fun(i:Nat)=>[(7,some (.ms 900 1 0 i)),(21,some (i64 i))]) (fun i=>[(900,some (.row 1 (((cB l g).take i).map i64)))]) (fun i=>i<=g.jo.length) (fun i=>g.jo.length-i) 0 (zero_le _) ?_;rintro i hi K1 J1;refine gC (fun t22=>?_) (fun t22=>?_) (st2:=(18,0))
 ·have hin:=aT t22;obtain ⟨z,hz⟩:=az hin;obtain ⟨z0,z1⟩:=hg.j z (mem_of_getElem? hz);obtain ⟨j,hj⟩:∃ j,l.jo[z.toNat]? = some j:=az oz;have hlt:(((cB l g).take i).map i64).length = i:=by rw [length_map,length_take,kJ]; omega
  refine gi (ay hz) ?_;refine bZ ?_;refine gC (fun t33=>?_) (fun t33=>?_) (st1:=(9,0))
  ·(rw[F4 z0 z1]at t33;cases t33)
  refine gi (df (n:=z.toNat) oz hj) ?_;refine gc (Gf g.bo j.a oz) ?_;refine gc (Gf g.bo j.b oz) ?_;refine gD ?_;refine gC (fun t55=>?_) (fun t55=>?_)
  ·have ha : ip g j = -1 := by unfold ip; cases h1 : g.bo.contains j.a <;> cases h2 : g.bo.contains j.b <;> rw [h1, h2] at t55 <;> first | (cases t55; done) | rfl
   refine gs (bK (.tmp rfl) rfl hlt.symm (.tmp rfl) T39 rfl T3 rfl rfl (by simp only[length_cons,length_nil];omega) rfl rfl) ?_ (17,0);refine gW (Wk.of (sl:=[(2,some (.ptr 2 0)),(3,some (.ptr 3 0)),(7,some (.ms 62 1 0 (i+1))),(19,some (.lst 1 (g.jo.map i64))),(20,some (i64 g.jo.length)),(21,some (i64 i))]) (hp:=[(2,some (.box l.av.cells)),(3,some (.box g.av.cells)),(62,some (.row 1 (((cB l g).take (i+1)).map i64)))]) aQ (.k (.k (.cons rfl (BlkSub.of (congrArg (Blk.row 1) (wL hz hj ha))) .nil)))) ?_ (17,0);refine gW (Wk.rk (k:=62) (d:=900) rfl rfl) ?_;refine ga aH ?_;exact aG J1 (i+1) hin
  refine gC (fun t63=>?_) (fun t63=>?_)
  ·have ha : ip g j = j.b := by unfold ip; cases h1 : g.bo.contains j.a <;> cases h2 : g.bo.contains j.b <;> rw [h1] at t63 <;> rw [h1, h2] at t55 <;> first | (cases t55; done) | (cases t63; done) | rfl
   refine gs (bK (.tmp rfl) rfl hlt.symm (.tmp rfl) T39 rfl T3 rfl rfl (by simp only[length_cons,length_nil];omega) rfl rfl) ?_ (17,0);refine gW (Wk.of (sl:=[(2,some (.ptr 2 0)),(3,some (.ptr 3 0)),(7,some (.ms 69 1 0 (i+1))),(19,some (.lst 1 (g.jo.map i64))),(20,some (i64 g.jo.length)),(21,some (i64 i))]) (hp:=[(2,some (.box l.av.cells)),(3,some (.box g.av.cells)),(69,some (.row 1 (((cB l g).take (i+1)).map i64)))]) aQ (.k (.k (.cons rfl (BlkSub.of (congrArg (Blk.row 1) (wL hz hj ha))) .nil)))) ?_ (17,0);refine gW (Wk.rk (k:=69) (d:=900) rfl rfl) ?_;refine ga aH ?_;exact aG J1 (i+1) hin
  have ha:ip g j=j.a:=by unfold ip;rw[if_neg (by rw[show g.bo.contains j.a=false from t63];simp)]
  refine gs (bK (.tmp rfl) rfl hlt.symm (.tmp rfl) T39 rfl T3 rfl rfl (by simp only[length_cons,length_nil];omega) rfl rfl) ?_ (17,0);refine gW (Wk.of (sl:=[(2,some (.ptr 2 0)),(3,some (.ptr 3 0)),(7,some (.ms 54 1 0 (i+1))),(19,some (.lst 1 (g.jo.map i64))),(20,some (i64 g.jo.length)),(21,some (i64 i))]) (hp:=[(2,some (.box l.av.cells)),(3,some (.box g.av.cells)),(54,some (.row 1 (((cB l g).take (i+1)).map i64)))]) aQ (.k (.k (.cons rfl (BlkSub.of (congrArg (Blk.row 1) (wL hz hj ha))) .nil)))) ?_ (17,0);refine gW (Wk.rk (k:=54) (d:=900) rfl rfl) ?_;refine ga aH ?_;exact aG J1 (i+1) hin
 have hin:=a8 hi t22;subst hin;refine gW (Wk.of (sl:=[(7,some (.ms 900 1 0 g.jo.length))]) (hp:=[(900,some (.row 1 ((cB l g).map i64)))]) aQ (.cons rfl (BlkSub.of (by rw[take_of_length_le (by rw[kJ];exact le_refl _)])) .nil)) ?_;refine gR ?_;exact aA.keep (bh rfl)
theorem KO{b:List Rt}{rs:List (List Rt)}{e:Nat}(hb:NR b e)(hn:bR rs.length b=0)(h5:rs.length<=5):Nm rs.length e (lq b):=⟨h5,(hb.num hn).2,hb.cb⟩
theorem Js(x y:Rt)(hx:x.ok)(hy:y.ok)(qx:Qs x.q)(qy:Qs y.q):FP 54 [x.av,y.av] (ao (sh 0 (x.q:Rat)) (sh 0 (y.q:Rat))):=by
 refine af func54 ?_;refine gc (AX x hx qx) ?_;refine gc (AX y hy qy) ?_;refine gD ?_;refine ae ?_
 first |rfl |(simp;done)
theorem NL(rs:List (List Rt))(r e:Nat)(h:TR rs r)(xs:List (List Rt))(hx:∀a∈xs,NR a e)(he:e<=lm rs.length)(hl:xs.length<=1000):FP 177 [b8 rs,.lst 1 (xs.map nR)] (bn (aZ rs xs)):=by
 refine af func177 ?_;refine gc (oO rs r h) ?_;refine gC (fun t13=>?_) (fun t13=>?_)
 ·have h1:=dm t13;refine ae ?_;rw[xo h1]
 have h1:=cV t13;refine gl ?_;refine aM [2,15,16] [2] (fun(i:Nat)=>[(17,some (i64 i))]) (fun _=>[]) (fun i=>i<=xs.length/\∀x∈xs.take i,bR rs.length x=0) (fun i=>xs.length-i) 0 ⟨zero_le _,fun x hx=>by simp at hx⟩ ?_;rintro i ⟨hi,hj⟩ K1 J1;refine gC (fun t18=>?_) (fun t18=>?_)
 ·have hin : i < xs.length := by simpa [aa] using t18
  obtain⟨a,ha⟩:=az hin;have hok:=hx a (mem_of_getElem? ha);have hone:aZ rs [a]=bR rs.length a:=zV h1;refine gi (ay ha) ?_;refine gc (yn rs r h a e hok he) ?_;refine gC (fun t28=>?_) (fun t28=>?_)
  ·have h2:=dm t28;refine ae ?_;rw[hone]at h2 ⊢;rw[tv h1 ha hj h2]
  have h2:=cV t28;rw[hone]at h2;refine ga aH ?_;exact aG J1 (i+1) ⟨hin,fun x hx=>by rw[cC ha]at hx;rcases List.mem_append.1 hx with h9 |h9;exact hj x h9;(rw[List.mem_singleton.1 h9];exact h2)⟩
 have hin:i=xs.length:=by have:xs.length<=i:=(by simpa[aa]using t18);omega
 subst hin;rw[take_length]at hj;refine ae ?_;rw[oU h1 hj];rfl
def AQ(rs:List (List Rt))(b:Pl)(x y:Rt):List Rat:=sh (llq rs).length (r8 (llq rs) (ad (llq rs).length (lq b.c)) (ad (llq rs).length (lq b.s)) (ad (llq rs).length (lq b.x)) x.q y.q)
def A9(rs:List (List Rt))(b:Pl)(x y:Rt):List Rat:=sh (llq rs).length (sP (llq rs) (ad (llq rs).length (lq b.c)) (ad (llq rs).length (lq b.s)) (ad (llq rs).length (lq b.y)) x.q y.q)
theorem yC(rs:List (List Rt)):(llq rs).length=rs.length:=by simp[llq]
structure PlN(rs:List (List Rt))(b:Pl)(e:Nat):Prop where
  c:Nm (llq rs).length e (lq b.c)
  s:Nm (llq rs).length e (lq b.s)
  x:Nm (llq rs).length e (lq b.x)
  y:Nm (llq rs).length e (lq b.y)
  av:b.av=.agg [nA (lq b.c),nA (lq b.s),nA (lq b.x),nA (lq b.y)]
theorem Ky{rs:List (List Rt)}{b:Pl}{e r:Nat}(h:TR rs r)(hb:∀x∈b.l,NR x e)(hc:aZ rs b.l=0):PlN rs b e:=by
 obtain⟨h1,h2⟩:=jg hc;obtain⟨tw,_⟩:=bO h h1;have h5:rs.length<=5:=by have:=tw.five;rwa [yC]at this
 have k:∀x∈b.l,Nm (llq rs).length e (lq x)/\nR x=nA (lq x):=fun x hx=>by
  rw[yC];exact⟨KO (hb x hx) (h2 x hx) h5,((hb x hx).num (h2 x hx)).1⟩
 have k1:=k b.c (by simp[Pl.l]);have k2:=k b.s (by simp[Pl.l]);have k3:=k b.x (by simp[Pl.l]);have k4:=k b.y (by simp[Pl.l]);exact⟨k1.1,k2.1,k3.1,k4.1,by unfold Pl.av;rw[k1.2,k2.2,k3.2,k4.2]⟩
theorem Oh(rs:List (List Rt))(r e:Nat)(h:TR rs r)(h1:be rs=0)(b:Pl)(hb:∀x∈b.l,NR x e)(x y:Rt)(hx:x.ok)(hy:y.ok)(qx:Qb e x.q)(qy:Qb e y.q)(he:8*e+4*kB r rs.length+4<=lm rs.length) :
  FP 86 [b8 rs,b.av,x.av,y.av] (.tup [ao (if aZ rs b.l=0 then AQ rs b x y else[]) (if aZ rs b.l=0 then A9 rs b x y else[]),bn (aZ rs b.l)]):=by
 have hlm:=eX rs.length;have hbl:[b.c,b.s,b.x,b.y]=b.l:=rfl;refine af func86 ?_;refine gc (NL rs r e h b.l hb oz (by simp[Pl.l])) ?_;refine gC (fun t25=>?_) (fun t25=>?_)
 ·have h2:=dm t25;refine gR ?_;exact bH (by rw[if_neg h2,if_neg h2];exact Sub.tup (.cons (Sub.agg (.cons (.nil _ _ _) (.cons (.nil _ _ _) .nil)) rfl) (.cons (.refl _) .nil)))
 have h2:=cV t25;obtain⟨tw,etw⟩:=bO h h1;have pn:=Ky h hb h2;have ec:nR b.c=nA (lq b.c):=by have:=pn.av;unfold Pl.av at this;simp only[AV.agg.injEq,List.cons.injEq]at this;exact this.1
 have es:nR b.s=nA (lq b.s):=by have:=pn.av;unfold Pl.av at this;simp only[AV.agg.injEq,List.cons.injEq]at this;exact this.2.1
 have ex:nR b.x=nA (lq b.x):=by have:=pn.av;unfold Pl.av at this;simp only[AV.agg.injEq,List.cons.injEq]at this;exact this.2.2.1
 have ey:nR b.y=nA (lq b.y):=by have:=pn.av;unfold Pl.av at this;simp only[AV.agg.injEq,List.cons.injEq]at this;exact this.2.2.2.1
 have etl:(AV.lst 1 (rs.map nR))=.lst 1 ((llq rs).map nA):=ia etw;rw[ec,es,ex,ey,etl];rw[<- yC rs]at he;have nx:=Nm.ofQ pn.c.five (Cb.one qx);have ny:=Nm.ofQ pn.c.five (Cb.one qy);have nX:=qi tw pn.c pn.s nx ny;have nY:=qz tw pn.c pn.s nx ny;have z1:e<=2*(e+e+kB r (llq rs).length)+1:=by omega
 have z2:2*(2*(e+e+kB r (llq rs).length)+1)<=lm (llq rs).length:=Al he;have hadd:=DB tw nX nY (pn.x.mono z1) (pn.y.mono z1) z2;have hlm2:=eX (llq rs).length;refine gc (Js x y hx hy (qx.qs oz) (qy.qs oz)) ?_;refine gc (BC tw pn.c pn.s nx ny oz) ?_;refine gD ?_;refine gC (fun t41=>?_) (fun t41=>?_) (st1:=(6,0));cases t41;refine gc hadd ?_;refine a9 ?_;rw[if_pos h2,if_pos h2,h2,wY,xm];rfl
section
variable{ts:LL}{u k:Nat}{a b a2 b2:List Rat}{x y x2 y2:Et ts}{w v w' v' w2 v2 w3 v3:Nat}
theorem oC(c:Ct ts u k)(h:w+v+(w'+v')<=10000):w*u+v*k+(w'*u+v'*k)+1<=lm ts.length:=by
 have h1:=ya c (w:=w+w') (v:=v+v') (m:=10000) oz;have h2:=je ts.length;rw[vj];omega
theorem NX(c:Ct ts u k)(h:w+v<=10000):w*u+v*k<=lm ts.length:=Mv c h
theorem rL(c:Ct ts u k){R:Nat}(h:eB R ts.length<=k):2*(2500*1000000+2500*1000000+kB R ts.length)<=lm ts.length:=by
 have h1:=c.kk h;have h2:=je ts.length;omega
theorem K7 [c : Ct ts u k] [ha : Zl ts u k a x w v] [hb : Zl ts u k b y w' v'] (h : w + v + (w' + v') <= 10000 := by decide) : FP 329 [an ts, nA a, nA b] (.tup [nA (sX (x + y)), .v .nilIface]) := by
 obtain⟨R,tw,hk⟩:=c.ex;have h0:=oC c h;have h1:=yE tw ha.nm hb.nm oz;rw[ha.eq,hb.eq]at h1;exact h1
theorem IV [c : Ct ts u k] [ha : Zl ts u k a x w v] [hb : Zl ts u k b y w' v'] (h : w + v + (w' + v') <= 10000 := by decide) : FP 163 [an ts, nA a, nA b] (.tup [nA (sX (x - y)), .v .nilIface]) := by
 obtain⟨R,tw,hk⟩:=c.ex;have h0:=oC c h;have h1:=oP tw ha.nm hb.nm oz;rw[ha.eq,hb.eq]at h1;exact h1
theorem C6 [c : Ct ts u k] [ha : Zl ts u k a x w v] [hb : Zl ts u k b y w' v'] (h : w + v + (w' + v') <= 10000 := by decide) : FP 164 [an ts, nA a, nA b] (.tup [nA (sX (x * y)), .v .nilIface]) := by
 obtain⟨R,tw,hk⟩:=c.ex;have h0:=oC c h;have h1:=yL tw ha.nm hb.nm oz;rw[ha.eq,hb.eq]at h1;exact h1
theorem z6 [c : Ct ts u k] [ha : Zl ts u k a x w v] [hb : Zl ts u k b y w' v'] (h : w + v + (w' + v') <= 10000 := by decide) : FP 84 [an ts, nA a, nA b] (nA (sX (x + y))) := by
 obtain⟨R,tw,hk⟩:=c.ex;have h0:=oC c h;have h1:=s7 tw ha.nm hb.nm oz;rw[ha.eq,hb.eq]at h1;exact h1
theorem tE [c : Ct ts u k] [ha : Zl ts u k a x w v] [hb : Zl ts u k b y w' v'] (h : w + v + (w' + v') <= 10000 := by decide) : FP 276 [an ts, nA a, nA b] (nA (sX (x - y))) := by
 obtain⟨R,tw,hk⟩:=c.ex;have h0:=oC c h;have h1:=o8 tw ha.nm hb.nm oz;rw[ha.eq,hb.eq]at h1;exact h1
theorem mg [c : Ct ts u k] [ha : Zl ts u k a x w v] [hb : Zl ts u k b y w' v'] (h : w + v + (w' + v') <= 10000 := by decide) : FP 29 [an ts, nA a, nA b] (nA (sX (x * y))) := by
 obtain⟨R,tw,hk⟩:=c.ex;have h0:=oC c h;have h1:=jV tw ha.nm hb.nm oz;rw[ha.eq,hb.eq]at h1;exact h1
theorem TQ [c : Ct ts u k] [ha : Zl ts u k a x w v] [hb : Zl ts u k b y w' v'] (h : w + v + (w' + v') <= 10000 := by decide) : FP 23 [an ts, nA a, nA b] (bl (yD x y)) := by
 obtain⟨R,tw,hk⟩:=c.ex;have h0:=oC c h;have h1:=mQ tw ha.nm hb.nm oz;rw[ha.eq,hb.eq]at h1;exact h1
theorem jH [c : Ct ts u k] [ha : Zl ts u k a x w v] (h : w + v <= 10000 := by decide) : FP 28 [an ts, nA a] (i64 (ak x)) := by
 obtain⟨R,tw,hk⟩:=c.ex;have h0:=NX c h;have h1:=Vk tw ha.nm oz;rw[ha.eq]at h1;exact h1
theorem mF [c : Ct ts u k] [ha : Zl ts u k a x w v] [hb : Zl ts u k b y w' v'] [ha2 : Zl ts u k a2 x2 w2 v2] [hb2 : Zl ts u k b2 y2 w3 v3] (h : w + v + (w' + v') + (w2 + v2 + (w3 + v3)) <= 2500 := by decide) :
  FP 168 [an ts,ao a b,ao a2 b2] (ao (sX (x-x2)) (sX (y-y2))):=by
 obtain⟨R,tw,hk⟩:=c.ex;have h0:=rL c hk;have h1:=tC (e:=2500*1000000) tw (ha.up c oz) (hb.up c oz) (ha2.up c oz) (hb2.up c oz) oz;rw[ha.eq,hb.eq,ha2.eq,hb2.eq]at h1;exact h1
theorem uR [c : Ct ts u k] [ha : Zl ts u k a x w v] [hb : Zl ts u k b y w' v'] [ha2 : Zl ts u k a2 x2 w2 v2] [hb2 : Zl ts u k b2 y2 w3 v3] (h : w + v + (w' + v') + (w2 + v2 + (w3 + v3)) <= 2500 := by decide) :
  FP 24 [an ts,ao a b,ao a2 b2] (nA (sX (dotE x y x2 y2))):=by
 obtain⟨R,tw,hk⟩:=c.ex;have h0:=rL c hk;have h1:=xQ (e:=2500*1000000) tw (ha.up c oz) (hb.up c oz) (ha2.up c oz) (hb2.up c oz) oz;rw[ha.eq,hb.eq,ha2.eq,hb2.eq]at h1;exact h1
theorem FY [c : Ct ts u k] [ha : Zl ts u k a x w v] [hb : Zl ts u k b y w' v'] [ha2 : Zl ts u k a2 x2 w2 v2] [hb2 : Zl ts u k b2 y2 w3 v3] (h : w + v + (w' + v') + (w2 + v2 + (w3 + v3)) <= 2500 := by decide) :
  FP 167 [an ts,ao a b,ao a2 b2] (nA (sX (crsE x y x2 y2))):=by
 obtain⟨R,tw,hk⟩:=c.ex;have h0:=rL c hk;have h1:=CC (e:=2500*1000000) tw (ha.up c oz) (hb.up c oz) (ha2.up c oz) (hb2.up c oz) oz;rw[ha.eq,hb.eq,ha2.eq,hb2.eq]at h1;exact h1
theorem TL [c : Ct ts u k] [ha : Zl ts u k a x w v] [hb : Zl ts u k b y w' v'] [ha2 : Zl ts u k a2 x2 w2 v2] [hb2 : Zl ts u k b2 y2 w3 v3] (h : w + v + (w' + v') + (w2 + v2 + (w3 + v3)) <= 2500 := by decide) :
  FP 77 [an ts,ao a b,ao a2 b2] (.tup [nA (sX (dotE x y x2 y2)),.v .nilIface]):=by
 obtain⟨R,tw,hk⟩:=c.ex;have h0:=rL c hk;have h1:=Bm (e:=2500*1000000) tw (ha.up c oz) (hb.up c oz) (ha2.up c oz) (hb2.up c oz) oz;rw[ha.eq,hb.eq,ha2.eq,hb2.eq]at h1;exact h1
def atXE(c s X:Et ts)(p q:Rat):Et ts:=(c*qE p-s*qE q)+X
def atYE(c s Y:Et ts)(p q:Rat):Et ts:=(s*qE p+c*qE q)+Y
instance Zu.atXE[c:Ct ts u k]{x y z:Et ts}{p q:Rat}{w1 v1 w2 v2 w3 v3 w4 w5:Nat}[Zu u k x w1 v1][Zu u k y w2 v2][Zu u k z w3 v3][Qz u p w4][Qz u q w5]:Zu u k (atXE x y z p q) (w1+w4+(w2+w5)+w3) (v1+0+1+(v2+0+1)+1+v3+1) :=
  (inferInstance:Zu u k ((x*Lw.qE p-y*Lw.qE q)+z) _ _)
instance Zu.atYE[c:Ct ts u k]{x y z:Et ts}{p q:Rat}{w1 v1 w2 v2 w3 v3 w4 w5:Nat}[Zu u k x w1 v1][Zu u k y w2 v2][Zu u k z w3 v3][Qz u p w4][Qz u q w5]:Zu u k (atYE x y z p q) (w2+w4+(w1+w5)+w3) (v2+0+1+(v1+0+1)+1+v3+1) :=
  (inferInstance:Zu u k ((y*Lw.qE p+x*Lw.qE q)+z) _ _)
end
abbrev P3(l:Li)(g:Gr)(a:As):List AV:=[.v (.string l.name),.lst 2 (l.bo.map Bd.av),.lst 7 (l.jo.map Jt.av),.lst 2 (l.dv.map Dr.av),i64 g.kind,.lst 1 (g.bo.map i64),.lst 1 (g.jo.map i64),i64 g.driver,
  .lst 1 (a.rs.map nR),.lst 4 (a.bs.map Pl.av),.lst 1 (a.ms.map i64),.v .nilIface]
abbrev cD(l:Li)(g:Gr)(a:As):Blk:=.box (P3 l g a)
def rx(e:Nat):AV:=if e=0 then .ptr 900 0 else .v (.pointer none)
def GP(e:Nat)(l:Li)(g:Gr)(a:As):Hp:=if e=0 then[(900,some (cD l g a))]else[]
theorem ky{e:Nat}(h:e≠0):rx e=.v (.pointer none):=if_neg h
theorem pu{e:Nat}{l:Li}{g:Gr}{a:As}(h:e≠0):GP e l g a=[]:=if_neg h
theorem Ix(l:Li)(g:Gr):b7 l g true=cB l g++g.bo:=rfl
theorem GW(l:Li)(g:Gr):b7 l g false=cB l g:=by unfold b7;simp
theorem Qy{rs:List (List Rt)}{b:Pl}{i:Nat}{x:List Rt}(h:be rs=0)(hx:b.l[i]?=some x)(hb:∀y∈b.l.take i,bR rs.length y=0)(hn:bR rs.length x≠0):aZ rs b.l=bR rs.length x:=tv h hx hb hn
theorem Qv{l:Li}{g:Gr}{a:As}{own:Bool}{j:Nat}{b:Int}(hb:(dW (b7 l g own))[j]?=some b)(hj:∀c∈(dW (b7 l g own)).take j,eS a c=0)(hn:eS a b≠0):dh ((dW (b7 l g own)).map (eS a))=eS a b:=by
 have h1:dW (b7 l g own)=(dW (b7 l g own)).take j++b::(dW (b7 l g own)).drop (j+1):=by
  obtain⟨hi,e⟩:=List.getElem?_eq_some_iff.1 hb;rw[<- e,<- List.drop_eq_getElem_cons hi,List.take_append_drop]
 generalize dW (b7 l g own)=xs at *;rw[h1,map_append,sY _ _ (mc hj),map_cons,yF,if_pos hn]
theorem Tf(l:Li)(hl:l.ok)(k:Int)(a:As)(al:AB a)(own:Bool) :
  Con prog 61 [l.av,i64 k,a.av,bl own] [] (.tup [rx (eY l k a own),bn (eY l k a own)]) (GP (eY l k a own) l (fM l k) a):=by
 have hbl:=al.bl;refine gF func61 (fun k z h=>by cases h) ?_;refine gc (Ji l hl) ?_;refine gC (fun t27=>?_) (fun t27=>?_)
 ·have h1:=dm t27;refine gR ?_;rw[QT rfl h1,ky h1,pu h1];exact lJ rfl
 have h1:=cV t27;obtain⟨hli,hsp⟩:=Hr h1;rw[show(if aE l=0 then aR l else[])=aR l from if_pos hli];have hbs:=(da hli).2.2.2.1;have hgl:=(rA hli).2;have hsg:aR l=cH l:=by unfold aR;rw[if_pos hsp]
 refine bZ ?_;refine gC (fun t36=>?_) (fun t36=>?_)
 ·have h2:=yZ t36;have he:eY l k a own=9:=(nW hli).trans (CB hsp h2);refine gR ?_;rw[he,ky (by decide),pu (by decide)];exact lJ rfl
 have h2:=xE t36;refine gl ?_;refine gl ?_;refine gC (fun t44=>?_) (fun t44=>?_)
 ·have h3:=vc t44;have he:eY l k a own=10:=(nW hli).trans (Cl hsp h2 h3);refine gR ?_;rw[he,ky (by decide),pu (by decide)];exact lJ rfl
 have h3:=uX t44;refine gc (oO a.rs 400000000 al.tr) ?_;refine gC (fun t50=>?_) (fun t50=>?_)
 ·have h4:=dm t50;refine gR ?_;rw[(nW hli).trans (Hc hsp h2 h3 h4),ky h4,pu h4];exact lJ rfl
 have h4:=cV t50;obtain⟨i,rfl,hi⟩:=xy h2;obtain⟨g,hg⟩:=az hi;obtain⟨hgd,hgo⟩:=nZ hli (mem_of_getElem? hg);have hgA:fM l (i:Nat)=g:=aO hg;rw[hgA];have he5:eY l (i:Nat) a own=dh ((dW (b7 l g own)).map (eS a)):=by rw[<- hgA];exact(nW hli).trans (zx hsp h2 h3 h4)
 have hnl:(b7 l g own).length<=5:=TO hgo;have hgb:=hgo.lb;have hgj:=hgo.lj;refine gi (ay hg) ?_;refine gt (aJ (Ma l hl hli g hgo) (bC rfl rfl) aL rfl rfl) ?_;refine gD ?_;refine gC (fun t62=>?_) (fun t62=>?_) (st1:=(13,0));cases t62;refine HW [1,4,6,10] [4,6] [(13,some (.ms 900 1 0 (b7 l g own).length))] [(900,some (.row 1 ((b7 l g own).map i64)))] (True) ?_ ?_
 ·intro K1 J1;refine gC (fun t64=>?_) (fun t64=>?_)
  ·have ho:own=true:=t64;subst ho;refine gi (ay hg) ?_;refine gs (bK (.tmp rfl) rfl (by rw[length_map,kJ]) (.tmp rfl) T39 rfl T3 rfl rfl (by simp only[length_map];omega) rfl rfl) ?_;exact uv J1 trivial (hw:=(Wk.of (sl:=[(1,some (i64 i)),(4,some (.ptr 4 0)),(6,some (.ptr 6 0)),(10,some (.lst 4 ((aR l).map Gr.av))),(13,some (.ms 71 1 0 (b7 l g true).length))]) (hp:=[(4,some (.box l.av.cells)),(6,some (.box a.av.cells)),(71,some (.row 1 ((b7 l g true).map i64)))]) (.k (.k (.k (.k (.cons rfl (Sub.of (by rw[Ix,length_append,kJ,length_map])) .nil))))) (.k (.k (.cons rfl (BlkSub.of (by rw[Ix,map_append])) .nil)))).trans<|(Wk.rk (k:=71) (d:=900) rfl rfl).trans<|Wk.o)
  have ho:own=false:=t64;subst ho;exact uv J1 trivial (hw:=Wk.of (.cons rfl (Sub.of (by rw[GW,kJ])) (.k (.k (.k (.k .nil))))) (.cons rfl (BlkSub.of (by rw[GW])) (.k (.k .nil))))
 rintro -;refine gt (aJ (Con.rk 900 rfl rfl (OU (b7 l g own) oz)) (cJ rfl) aL rfl rfl) ?_ (17,0);refine gW ((Wk.freeze (k:=900) rfl).trans<|Wk.of (sl:=[(1,some (i64 i)),(4,some (.ptr 4 0)),(6,some (.ptr 6 0)),(10,some (.lst 4 ((aR l).map Gr.av))),(13,some (.lst 1 ((dW (b7 l g own)).map i64)))]) (hp:=[(4,some (.box l.av.cells)),(6,some (.box a.av.cells))]) (.k (.k (.k (.k (.cons rfl (Sub.of (bA (by rw[length_map,F8]))) .nil))))) (.k (.k .nil))) ?_;refine gl ?_;refine aM [1,4,6,10,74,75] [4,6] (fun(j:Nat)=>[(76,some (i64 j))]) (fun _=>[]) (fun j=>j<=(dW (b7 l g own)).length/\∀b∈(dW (b7 l g own)).take j,eS a b=0) (fun j=>(dW (b7 l g own)).length-j) 0 ⟨zero_le _,fun b hb=>by simp at hb⟩ ?_;rintro j ⟨hj,hjz⟩ K2 J2;refine gC (fun t77=>?_) (fun t77=>?_)
 ·have hjn:=aT t77;obtain ⟨b,hb⟩:=az hjn;have hbm:=pj.1 (mem_of_getElem? hb);have hbr:=vm hli hgo b hbm;have hsl:(dW (b7 l g own)).length <= 5:=by rw [F8]; exact hnl
  refine gi (ay hb) ?_;refine gC (fun t81=>?_) (fun t81=>?_)
  ·have hz : eS a b = 0 := by unfold eS; rw [if_pos (by simpa [aa] using t81)]
   refine ga aH ?_;exact aG J2 (j+1) ⟨hjn,fun c hc=>by rw[cC hb]at hc;rcases List.mem_append.1 hc with h9 |h9;exact hjz c h9;(rw[List.mem_singleton.1 h9];exact hz)⟩
  have hb0:0<=b:=by have:=of_decide_eq_false (p:=b<0) t81;omega
  obtain⟨p,hp⟩:=az (l:=a.bs) (i:=b.toNat) oz;have hpn:=al.nr p (mem_of_getElem? hp);have hnd:eS a b=aZ a.rs p.l:=by unfold eS;rw[if_neg oz,aO hp]
  refine gi (df (n:=b.toNat) oz hp) ?_;refine ge rfl ?_;refine aM [1,4,6,10,74,75,76,95,96] [4,6] (fun(q:Nat)=>[(97,some (i64 q))]) (fun _=>[]) (fun q=>q<=4/\∀x∈p.l.take q,bR a.rs.length x=0) (fun q=>4-q) 0 ⟨zero_le _,fun x hx=>by simp at hx⟩ ?_;rintro q ⟨hq,hqz⟩ K3 J3;refine gC (fun t98=>?_) (fun t98=>?_)
  ·have hqn:q<4:=aT (b:=4) t98;obtain⟨x,hx⟩:∃x,p.l[q]?=some x:=az (show q<p.l.length from hqn);have hxn:=hpn x (mem_of_getElem? hx);have hone:aZ a.rs [x]=bR a.rs.length x:=zV h4;refine gi (ay hx) ?_;refine gc (yn a.rs 400000000 al.tr x 50000000000 hxn (Dk _)) ?_;refine gC (fun t109=>?_) (fun t109=>?_)
   ·have h5:=dm t109;rw [hone] at h5 ⊢;have h6:eS a b = bR a.rs.length x:=hnd.trans (Qy h4 hx hqz h5);have h7:eY l (i:Nat) a own = bR a.rs.length x:=by rw [he5,Qv hb hjz (by rw [h6]; exact h5),h6]
    refine gR ?_;rw[h7,ky h5,pu h5];exact lJ rfl
   have h5:=cV t109;rw[hone]at h5;refine ga aH ?_;exact aG J3 (q+1) ⟨hqn,fun z hz=>by rw[cC hx]at hz;rcases List.mem_append.1 hz with h9 |h9;exact hqz z h9;(rw[List.mem_singleton.1 h9];exact h5)⟩
  have hqn:q=4:=a8 (b:=4) hq t98;subst hqn;have hqz:∀x∈p.l,bR a.rs.length x=0:=hqz;refine ga aH ?_;exact aG J2 (j+1) ⟨hjn,fun c hc=>by rw[cC hb]at hc;rcases List.mem_append.1 hc with h9 |h9;exact hjz c h9;(rw[List.mem_singleton.1 h9,hnd];exact oU h4 hqz)⟩
 have hjn:=a8 hj t77
 have h8:eY l (i:Nat) a own=0:=by
  rw[he5];exact mc (fun b hb=>hjz b (by rw[hjn,take_length];exact hb))
 refine gi (ay hg) ?_;refine gD ?_ (77777,0);refine gW (Wk.o (sl:=[(8,some (.ptr 120 0)),(9,some (.v .nilIface))]) (hp:=[(120,some (cD l g a))])) ?_ (77777,0);refine gW (Wk.rk (k:=120) (d:=900) rfl rfl) ?_;refine gR ?_;rw[h8];exact aA.keep (bh rfl)
theorem Cq{ts:LL}{r e:Nat}(tw:Tw ts r){a b c d:List Rat}(ha:Nm ts.length e a)(hb:Nm ts.length e b)(hc:Nm ts.length e c)(hd:Nm ts.length e d)(he:2*e<=lm ts.length) :
  FP 73 [an ts,ao a b,ao c d] (.tup [ao (sh ts.length (subT ts (ad ts.length a) (ad ts.length c))) (sh ts.length (subT ts (ad ts.length b) (ad ts.length d))),.v .nilIface]):=by
 refine af func73 ?_;refine gc (ru (e:=e) tw [(a,b),(c,d)] (by simp only[mem_cons,not_mem_nil,or_false];rintro p (rfl |rfl);exact⟨ha,hb⟩;exact⟨hc,hd⟩) oz (by simp)) ?_;refine gC (fun t16=>?_) (fun t16=>?_) (st1:=(3,0));cases t16;refine gt (aJ (Con.rB 21 rfl rfl rfl rfl (GF tw ha hb hc hd he)) (aK rfl rfl rfl) aL rfl rfl) ?_;refine gt (aJ (Con.rB 21 rfl rfl rfl rfl (uA _ _ _)) (bC rfl rfl) aL rfl rfl) ?_;refine a9 ?_;rfl
theorem F6{ts:LL}{r e:Nat}(tw:Tw ts r){a b c d:List Rat}(ha:Nm ts.length e a)(hb:Nm ts.length e b)(hc:Nm ts.length e c)(hd:Nm ts.length e d)(he:2*(e+e+kB r ts.length)<=lm ts.length) :
  FP 74 [an ts,ao a b,ao c d] (.tup [nA (sh ts.length (nv ts (ad ts.length a) (ad ts.length b) (ad ts.length c) (ad ts.length d))),.v .nilIface]):=by
 refine af func74 ?_;refine gc (Con.sA (.cons (.refl _) (.cons (.refl _) (.cons (.refl _) (.cons (Sub.fn0 _) .nil)))) (Iq tw ha hb hc hd oz _ _ (QE tw ha hb hc hd he))) ?_;refine a9 ?_
 first |rfl |(simp;done)
section
variable{ts:LL}{u k:Nat}{a b a2 b2:List Rat}{x y x2 y2:Et ts}{w v w' v' w2 v2 w3 v3:Nat}
theorem Nt [c : Ct ts u k] [ha : Zl ts u k a x w v] [hb : Zl ts u k b y w' v'] [ha2 : Zl ts u k a2 x2 w2 v2] [hb2 : Zl ts u k b2 y2 w3 v3] (h : w + v + (w' + v') + (w2 + v2 + (w3 + v3)) <= 2500 := by decide) :
  FP 73 [an ts,ao a b,ao a2 b2] (.tup [ao (sX (x-x2)) (sX (y-y2)),.v .nilIface]):=by
 obtain⟨R,tw,hk⟩:=c.ex;have h0:=rL c hk;have h1:=Cq (e:=2500*1000000) tw (ha.up c oz) (hb.up c oz) (ha2.up c oz) (hb2.up c oz) oz;rw[ha.eq,hb.eq,ha2.eq,hb2.eq]at h1;exact h1
end
variable{P:Program}{N:Nat}{R:Array Oper}{s:AS}{pos:String}{after:Array Edge}
theorem aY{d f k:Nat}{bx:Blk}{args:Array Operand}{ts:Array TypeId}{xs:List AV}{r:AV}{t:TypeId}
  (hcon:Con P f xs [(k,some bx)] r [(k,some bx)]) (ha:EvL s args.toList xs) (hk:s.blk k=some bx) (hok:iL s [(k,some bx)] [(k,some bx)] r=true) (hN:Nat.blt d N=true) :
  Step P N R s ⟨some d,.call ⟨.value (.func f),args,ts⟩,t,pos,after,none⟩ ⟨some r,[],d8 args.toList,[k]⟩:=by
 refine Step.weaken (aJ (d:=d) hcon ha (fun k' z h=>by
  obtain⟨rfl,h9⟩:=fw h;cases h9;exact hk) hok hN) (fun s' h=>h) (fun s' h k' hk'=>?_) (fun s' h=>?_)
 ·left;simp only[map_append,c9,map_cons,map_nil,mem_append,mem_cons,not_mem_nil,or_false]at hk' ⊢;rcases hk' with h9 |h9 <;> exact h9
 ·intro C m a w hr;refine⟨m,hr.weak (fun t x hx=>⟨x,hx,.refl _⟩) (fun k' x hx=>⟨x,?_,.refl _⟩)⟩;have hb:lk s'.hp k=some bx:=(h.2 k (List.mem_singleton.2 rfl)).trans hk;show lk ([(k,some bx)]++c9 [(k,some bx)]++s'.hp) k'=some x;have hx':lk s'.hp k'=some x:=hx;simp only[c9,map_cons,map_nil,List.cons_append,nil_append,aP]
  by_cases e:k'=k
  ·rw[if_pos e];rw[e,hb]at hx';exact hx'
  ·rw[if_neg e,if_neg e];exact hx'
theorem no{k1 k2 k':Nat}{x y:Option Blk}{z:Blk}(h:lk [(k1,x),(k2,y)] k'=some z):(k'=k1/\x=some z)\/(k'≠k1/\k'=k2/\y=some z):=by
 rw[aP]at h
 by_cases e:k'=k1
 ·rw[if_pos e]at h;exact .inl ⟨e,h⟩
 ·rw[if_neg e]at h;obtain⟨h1,h2⟩:=fw h;exact .inr ⟨e,h1,h2⟩
theorem mW{k1 k2:Nat}{x y:Option Blk}:lk [(k1,x),(k2,y)] k1=x:=by rw[aP,if_pos rfl]
theorem mO{k1 k2:Nat}{x y:Option Blk}(h:k1≠k2):lk [(k1,x),(k2,y)] k2=y:=by rw[aP,if_neg (fun e=>h e.symm),aP,if_pos rfl]
theorem G6{k1 k2:Nat}(hne:k1≠k2){x y:Blk}{m:Nat->Option Nat}{b:Nat}:a6 [(k1,some x),(k2,some y)] m b↔m k1=some b\/m k2=some b:=by
 constructor
 ·rintro⟨k',z,hz,hb⟩;rcases no hz with⟨e,_⟩ |⟨_,e,_⟩
  ·exact .inl (e▸hb)
  ·exact .inr (e▸hb)
 ·rintro(h |h)
  ·exact⟨k1,x,mW,h⟩
  ·exact⟨k2,y,mO hne,h⟩
theorem Dq{k1 k2 d1 d2:Nat}(hk:k1≠k2)(hd:d1≠d2){x y x' y':Blk}{m m2:Nat->Option Nat}(h1:m2 d1=m k1)(h2:m2 d2=m k2):a6 [(d1,some x'),(d2,some y')] m2=a6 [(k1,some x),(k2,some y)] m:=by
 funext b;apply propext;rw[G6 hk,G6 hd,h1,h2]
theorem BG{ext:Nat->Prop}{k1 k2 d1 d2:Nat}(hk:k1≠k2)(hd:d1≠d2){x y x' y':Blk}{m m2:Nat->Option Nat}{w:World}(h1:m2 d1=m k1)(h2:m2 d2=m k2):Im ext [(d1,some x'),(d2,some y')] m2 w=Im ext [(k1,some x),(k2,some y)] m w:=by
 funext b cs;simp only[Im,Dq hk hd (x:=x) (y:=y) (x':=x') (y':=y') h1 h2]
theorem HA{ext:Nat->Prop}{k1 k2 d1 d2:Nat}(hk:k1≠k2)(hd:d1≠d2){x y:Blk}{m m2:Nat->Option Nat}{w:World}(hx:x.nm=[])(hy:y.nm=[])(h1:m2 d1=m k1)(h2:m2 d2=m k2)
  (hr:HeapRel ext [(k1,some x),(k2,some y)] m w):HeapRel ext [(d1,some x),(d2,some y)] m2 w:=by
 refine⟨?_,?_,?_⟩
 ·intro k' z hz;rw[BG hk hd (x:=x) (y:=y) h1 h2];rcases no hz with⟨rfl,h9⟩ |⟨_,rfl,h9⟩
  ·cases h9;exact BlkRep.mono (w:=w) (fun _ _ h=>h) (fun _ _ h=>h) (fun _ _ hn=>(yR hx hn).elim) h1 (fun _ _=>rfl) (hr.blk k1 _ mW)
  ·cases h9;exact BlkRep.mono (w:=w) (fun _ _ h=>h) (fun _ _ h=>h) (fun _ _ hn=>(yR hy hn).elim) h2 (fun _ _=>rfl) (hr.blk k2 _ (mO hk))
 ·intro k k' z z' b hz hz' hb hb';rcases no hz with⟨rfl,_⟩ |⟨_,rfl,_⟩ <;> rcases no hz' with⟨rfl,_⟩ |⟨_,rfl,_⟩
  ·rfl
  ·exact absurd (hr.inj k1 k2 _ _ b mW (mO hk) (h1▸hb) (h2▸hb')) hk
  ·exact absurd (hr.inj k1 k2 _ _ b mW (mO hk) (h1▸hb') (h2▸hb)) hk
  ·rfl
 ·intro k' z b hz hb;rcases no hz with⟨rfl,h9⟩ |⟨_,rfl,h9⟩
  ·exact hr.sep k1 _ b mW (h1▸hb)
  ·exact hr.sep k2 _ b (mO hk) (h2▸hb)
theorem Con.rekeyBB{P:Program}{f:FuncId}{k1 k2 o1 o2:Nat}{x y x' y':Blk}{xs:List AV}{r:AV}(d1 d2:Nat)(hk:k1≠k2)(hd:d1≠d2)(hx:x.nm=[])(hy:y.nm=[])(hx':x'.nm=[])(hy':y'.nm=[])(hxs:(xs.all fun x=>x.nm.isEmpty)=true)(hr:r.nm=[])
  (h:Con P f (.ptr k1 o1 :: .ptr k2 o2::xs) [(k1,some x),(k2,some y)] r [(k1,some x'),(k2,some y')]):Con P f (.ptr d1 o1 :: .ptr d2 o2::xs) [(d1,some x),(d2,some y)] r [(d1,some x'),(d2,some y')]:=by
 refine⟨h.ok,?_⟩;intro ext m w vs hext hheap hvs hrep;obtain⟨m2,e1,e2⟩:∃m2:Nat->Option Nat,m2 k1=m d1/\m2 k2=m d2:=⟨fun k=>if k=k1 then m d1 else m d2,if_pos rfl,if_neg (fun e=>hk e.symm)⟩
 have h1 := h.ret ext m2 w vs hext (HA hd hk hx hy e1 e2 hheap) (by simpa using hvs) (by
  intro j v z hv hz;rw[BG hd hk (x:=x) (y:=y) e1 e2]
  match j,hz with
  |0,hz =>
   cases hz;have h2:=hrep 0 v _ hv rfl;cases h2 with
   |ptr hm=>exact .ptr (e1.trans hm)
  |1,hz =>
   cases hz;have h2:=hrep 1 v _ hv rfl;cases h2 with
   |ptr hm=>exact .ptr (e2.trans hm)
  |j+2,hz =>
   have h2:=hrep (j+2) v z hv hz;refine iF ?_ h2;have:=List.all_eq_true.1 hxs z (mem_of_getElem? hz);simpa using this)
 refine Calls.mono h1 ?_;rintro e w' ⟨v,m',rfl,hf,hh,hn,hkp,hrr⟩;have ho:=Dq hd hk (x:=x) (y:=y) (x':=x) (y':=y) e1 e2;obtain⟨m3,f1,f2⟩:∃m3:Nat->Option Nat,m3 d1=m' k1/\m3 d2=m' k2:=⟨fun k=>if k=d1 then m' k1 else m' k2,if_pos rfl,if_neg (fun e=>hd e.symm)⟩
 refine⟨v,m3,rfl,ho▸hf,HA hk hd hx' hy' f1 f2 hh,?_,?_,?_⟩
 ·intro k' z b hz hb;rw[<- ho];rcases no hz with⟨rfl,_⟩ |⟨_,rfl,_⟩
  ·exact hn k1 _ b mW (f1▸hb)
  ·exact hn k2 _ b (mO hk) (f2▸hb)
 ·intro k' z z' hz hz';rcases no hz with⟨rfl,_⟩ |⟨_,rfl,_⟩
  ·rw[f1,<- e1];exact hkp k1 _ _ mW mW
  ·rw[f2,<- e2];exact hkp k2 _ _ (mO hk) (mO hk)
 ·rw[BG hk hd (x:=x') (y:=y') f1 f2];exact iF hr hrr
end Go.Lw
namespace Go.Lw
open Go.Proofs
theorem Ek{l:Li}{body pt:Int}{n k:Nat}{bd:Bd}{m:Mk}(h:MkP l body pt n k bd m):qP (ax l body pt)=.agg [bl m.x.neg,ws m.x.num,ws m.x.den,bl m.y.neg,ws m.y.num,ws m.y.den]:=by
 rw[h.ex,h.ey]
theorem oE{p q:Rat×Rat}{e f:Nat}(hp:Sm e p)(hq:Sm f q)(he:e<=1000000)(hf:f<=1000000):FP 146 [qP p,qP q] (qP (bj p q)):=by
 refine af func146 ?_;refine gc (vY (hp.x.qs oz) (hq.x.qs oz)) ?_;refine gc (vY (hp.y.qs oz) (hq.y.qs oz)) ?_;refine gD ?_;refine ae ?_
 first |rfl |(simp;done)
theorem Fk{p q:Rat×Rat}{e f:Nat}(hp:Sm e p)(hq:Sm f q)(he:e<=1000000)(hf:f<=1000000):FP 251 [qP p,qP q] (qA (bG p q)):=by
 refine af func251 ?_;refine gc (tH (hp.x.qs oz) (hq.x.qs oz)) ?_;refine gc (tH (hp.y.qs oz) (hq.y.qs oz)) ?_;refine gc (yi ((hp.x.mul hq.x).qs oz) ((hp.y.mul hq.y).qs oz)) ?_;refine gD ?_;refine ae ?_
 first |rfl |(simp;done)
theorem Sw{p q:Rat×Rat}{e f:Nat}(hp:Sm e p)(hq:Sm f q)(he:e<=1000000)(hf:f<=1000000):FP 165 [qP p,qP q] (qA (pf p q)):=by
 refine af func165 ?_;refine gc (tH (hp.x.qs oz) (hq.y.qs oz)) ?_;refine gc (tH (hp.y.qs oz) (hq.x.qs oz)) ?_;refine gc (vY ((hp.x.mul hq.y).qs oz) ((hp.y.mul hq.x).qs oz)) ?_;refine gD ?_;refine ae ?_
 first |rfl |(simp;done)
theorem zw{p:Rat×Rat}{e:Nat}(hp:Sm e p)(he:e<=1000000):FP 158 [qP p] (nA (sh 0 (bG p p:Rat))):=by
 refine af func158 ?_;refine gc (Fk hp hp he he) ?_;refine gc (n8 ((hp.dot hp).qs oz)) ?_;refine ae ?_
 first |rfl |(simp;done)
theorem ni{l:Li}(hl:l.ok)(hli:aE l=0)(g:Gr)(a:As){body pt:Int}(h1:br body l.bo.length=true)(h2:br pt (cG l body).length=true) :
  Con prog 159 [.ptr 1000 0,i64 body,i64 pt] [(1000,some (cD l g a))] (qP (ax l body pt)) [(1000,some (cD l g a))]:=by
 obtain⟨n,k,bd,m,mp⟩:=tP hl hli h1 h2;rw[Ek mp];have hn:=mp.hn;have hk:=mp.hk;have hlb:=hl.lb;subst hn;subst hk;refine gF func159 (fun k z h=>bw h) ?_;refine gi (ay mp.gbd) ?_;refine gi (ay mp.gm) ?_;refine gR ?_;exact aA.keep (bh rfl)
theorem rF{E:Nat}{l:Li}(hl:l.ok)(hli:aE l=0)(g:Gr){a:As}(al:AB a)(hc:be a.rs=0){body pt:Int}(h1:br body l.bo.length=true)(h2:br pt (cG l body).length=true)(hE:E<=20000000000)(h3:(llq a.rs).length<=2)(hb:Pd E a body) :
  Con prog 88 [.ptr 1000 0,i64 body,i64 pt] [(1000,some (cD l g a))] (ao (sX (aV l a body pt).1) (sX (aV l a body pt).2)) [(1000,some (cD l g a))]:=by
 obtain⟨n,k,bd,m,b,hp⟩:=r4 hl hli al hc h1 h2 hb;obtain⟨tw,hta⟩:=bO al.tr hc
 have kb:kB 400000000 (llq a.rs).length<=1200000006:=by
  have h9:=gK 400000000 h3;have h8:eB 400000000 2=1200000006:=by decide
  show eB 400000000 _<=_;omega
 have hlm:lm (llq a.rs).length=200000000000:=by unfold lm;rw[if_pos h3]
 have hlb:=hl.lb;have hbl:=al.bl;have hmk:=ni hl hli g a h1 h2;show Con prog _ _ _ (ao (sh (llq a.rs).length (ol l a body pt).1) (sh (llq a.rs).length (ol l a body pt).2)) _;rw[hp.eq];have hn:=hp.mp.hn;rw[Ek hp.mp]at hmk
 have hat:FP 86 [b8 a.rs,b.av,m.x.av,m.y.av] (.tup [ao (sh (llq a.rs).length (kW (llq a.rs) b m).1) (sh (llq a.rs).length (kW (llq a.rs) b m).2),.v .nilIface]):=by
  rw[hta,hp.av,hp.mp.ex,hp.mp.ey];have h9:=S6 tw (hp.ok.c.mono (f:=E+1000) oz) (hp.ok.s.mono oz) (hp.ok.x.mono oz) (hp.ok.y.mono oz) (hp.mp.sm.x.mono (f:=E+1000) oz) (hp.mp.sm.y.mono (f:=E+1000) oz) oz;unfold kW;rw[hp.mp.ex,hp.mp.ey,bt,bt];exact h9
 refine gF func88 (fun k z h=>bw h) ?_;refine gt (aJ hmk (aK rfl rfl rfl) aL rfl rfl) ?_;refine gi (df (n:=n) hn hp.gb) ?_;refine gc hat ?_;refine gD ?_;refine gC (fun t39=>?_) (fun t39=>?_) (st2:=(77777,0))
 ·refine gR ?_;exact aA.keep (bh rfl)
 cases t39
theorem tq{E:Nat}(hE:E<=20000000000){l:Li}(hl:l.ok)(hli:aE l=0)(g:Gr)(hg:GrOk l g){a:As}(al:AB a)(hc:be a.rs=0){k:Nat}{z b:Int}{j:Jt}(hz:g.jo[k]?=some z)(hj:l.jo[z.toNat]?=some j)(h3:(llq a.rs).length<=2)(h:PinP E l a j b) :
  Con prog 141 [.ptr 1000 0,i64 k,i64 b] [(1000,some (cD l g a))] (.tup [qP (ah l j b),ao (sX (am l a j b).1) (sX (am l a j b).2)]) [(1000,some (cD l g a))]:=by
 obtain⟨z0,z1⟩:=hg.j z (mem_of_getElem? hz);obtain⟨i1,i2,i3,i4,_⟩:=dk hli hj;have hgj:=hg.lj;have hlj:=hl.lj;refine gF func141 (fun k z h=>bw h) ?_;refine gi (ay hz) ?_;refine gi (df (n:=z.toNat) oz hj) ?_;refine gD ?_;refine gC (fun t27=>?_) (fun t27=>?_)
 ·have e:j.a = b:=bU t27;have hb:Pd E a j.b:=by rcases h.tie with h9 | h9; exact h9.2; exact absurd e h9.1
  have eq1:ah l j b=ax l b j.point:=if_pos e;have eq2:am l a j b=aV l a j.b j.on:=if_pos e;rw[eq1,eq2];subst e;refine gt (aJ (ni hl hli g a i1 i3) (aK rfl rfl rfl) aL rfl rfl) ?_;refine gt (aJ (rF hl hli g al hc i2 i4 hE h3 hb) (aK rfl rfl rfl) aL rfl rfl) ?_;refine gD ?_;refine gR ?_;exact aA.keep (bh rfl)
 have e:j.a≠b:=cq t27;have e2:j.b=b/\Pd E a j.a:=by rcases h.tie with h9 |h9;exact absurd h9.1 e;exact h9.2
 have eq1:ah l j b=ax l b j.on:=if_neg e;have eq2:am l a j b=aV l a j.a j.point:=if_neg e;rw[eq1,eq2];obtain⟨e2,hb⟩:=e2;subst e2;refine gt (aJ (ni hl hli g a i2 i4) (aK rfl rfl rfl) aL rfl rfl) ?_;refine gt (aJ (rF hl hli g al hc i1 i3 hE h3 hb) (aK rfl rfl rfl) aL rfl rfl) ?_;refine gD ?_;refine gR ?_;exact aA.keep (bh rfl)
theorem Ie{l:Li}(hl:l.ok)(hli:aE l=0)(g:Gr)(hg:GrOk l g)(a:As){z b:Int}{j:Jt}(hz:g.jo[2]?=some z)(hj:l.jo[z.toNat]?=some j)(h:j.a=b\/j.b=b) :
  Con prog 155 [.ptr 1000 0,i64 b] [(1000,some (cD l g a))] (qP (ah l j b)) [(1000,some (cD l g a))]:=by
 obtain⟨z0,z1⟩:=hg.j z (mem_of_getElem? hz);obtain⟨i1,i2,i3,i4,_⟩:=dk hli hj;have hgj:=hg.lj;have hlj:=hl.lj;have h2:=(List.getElem?_eq_some_iff.1 hz).1;refine gF func155 (fun k z h=>bw h) ?_;refine gi (ay hz) ?_;refine gi (df (n:=z.toNat) oz hj) ?_;refine gD ?_;refine gC (fun t23=>?_) (fun t23=>?_)
 ·have e:j.a=b:=bU t23;have eq1:ah l j b=ax l b j.point:=if_pos e;rw[eq1];subst e;refine gt (aJ (ni hl hli g a i1 i3) (aK rfl rfl rfl) aL rfl rfl) ?_;refine gR ?_;exact aA.keep (bh rfl)
 have e:j.a≠b:=cq t23;have e2:j.b=b:=by rcases h with h9 |h9;exact absurd h9 e;exact h9
 have eq1:ah l j b=ax l b j.on:=if_neg e;rw[eq1];subst e2;refine gt (aJ (ni hl hli g a i2 i4) (aK rfl rfl rfl) aL rfl rfl) ?_;refine gR ?_;exact aA.keep (bh rfl)
theorem DP{l:Li}(hl:l.ok)(g:Gr)(hg:GrOk l g)(a:As){z:Int}{j:Jt}(hz:g.jo[1]?=some z)(hj:l.jo[z.toNat]?=some j) :
  Con prog 87 [.ptr 1000 0] [(1000,some (cD l g a))] j.av [(1000,some (cD l g a))]:=by
 obtain⟨z0,z1⟩:=hg.j z (mem_of_getElem? hz);have hgj:=hg.lj;have hlj:=hl.lj;have h2:=(List.getElem?_eq_some_iff.1 hz).1;refine gF func87 (fun k z h=>bw h) ?_;refine gi (ay hz) ?_;refine gi (df (n:=z.toNat) oz hj) ?_;refine gD ?_;refine gR ?_;exact aA.keep (bh rfl)
abbrev Su{ts:LL}(p:Rat×Rat)(at_:Et ts×Et ts)(c:Rat×Rat):List AV :=
  [bl (rt p.1).neg,ws (rt p.1).num,ws (rt p.1).den,bl (rt p.2).neg,ws (rt p.2).num,ws (rt p.2).den,nA (sX at_.1),nA (sX at_.2),bl (rt c.1).neg,ws (rt c.1).num,ws (rt c.1).den,bl (rt c.2).neg,ws (rt c.2).num,ws (rt c.2).den]
abbrev uU{ts:LL}(p:Rat×Rat)(at_:Et ts×Et ts)(c:Rat×Rat):AV:=.agg (Su p at_ c)
abbrev OI{ts:LL}(p:Rat×Rat)(at_:Et ts×Et ts)(c:Rat×Rat):AV:=.agg [nA (sX at_.1),nA (sX at_.2),nA (sh 0 (bb c p:Rat))]
theorem zB{ts:LL}{p c:Rat×Rat}(hp:Sm 1000 p)(hc:Sm 1000 c)(at_:Et ts×Et ts):FP 70 [uU p at_ c] (OI p at_ c):=by
 refine af func70 ?_;refine gc (oE hc hp oz oz) ?_;refine gc (zw (hc.sub hp) oz) ?_;refine gD ?_;refine ae ?_
 first |rfl |(simp;done)
theorem Pu{l:Li}(hl:l.ok)(hli:aE l=0){a:As}(al:AB a)(hc:be a.rs=0)(h3:(llq a.rs).length<=2){i k z0 z1 z2:Int}{j0 j1 j2:Jt}(hg:GrOk l ⟨1,[i,k],[z0,z1,z2],0⟩)
  (h0:l.jo[z0.toNat]?=some j0) (h1:l.jo[z1.toNat]?=some j1) (h2:l.jo[z2.toNat]?=some j2) (p0:PinP 3900000 l a j0 i) (p1:PinP 3900000 l a j1 k) (t1:j2.a=i\/j2.b=i) (t2:j2.a=k\/j2.b=k) :
  Con prog 67 [.ptr 1000 0] [(1000,some (cD l ⟨1,[i,k],[z0,z1,z2],0⟩ a))] (.tup [uU (ah l j0 i) (am l a j0 i) (ah l j2 i),uU (ah l j1 k) (am l a j1 k) (ah l j2 k)]) [(1000,some (cD l ⟨1,[i,k],[z0,z1,z2],0⟩ a))]:=by
 refine gF func67 (fun k z h=>bw h) ?_;refine gi (rfl) ?_;refine gi (rfl) ?_;refine gD ?_;refine gt (aJ (tq oz hl hli _ hg al hc (k:=0) rfl h0 h3 p0) (.cons (.tmp rfl) (.cons (.const _) (cJ rfl))) aL rfl rfl) ?_;refine gt (aJ (tq oz hl hli _ hg al hc (k:=1) rfl h1 h3 p1) (.cons (.tmp rfl) (.cons (.const _) (cJ rfl))) aL rfl rfl) ?_;refine gt (aJ (Ie hl hli _ hg a rfl h2 t1) (bC rfl rfl) aL rfl rfl) ?_;refine gt (aJ (Ie hl hli _ hg a rfl h2 t2) (bC rfl rfl) aL rfl rfl) ?_;refine gD ?_;refine gR ?_;exact aA.keep (bh rfl)
theorem TF{l:Li}(hl:l.ok)(hli:aE l=0){a:As}(al:AB a)(hc:be a.rs=0)(h3:(llq a.rs).length<=2){i z0 z1:Int}{j0 j1:Jt}(hg:GrOk l ⟨2,[i],[z0,z1],0⟩)
  (h0:l.jo[z0.toNat]?=some j0) (h1:l.jo[z1.toNat]?=some j1) (p0:PinP 3900000 l a j0 i) (ha:j1.a=i) (hk:j1.kind≠0) (hb:Pd 3900000 a j1.b) :
  Con prog 71 [.ptr 1000 0] [(1000,some (cD l ⟨2,[i],[z0,z1],0⟩ a))] (.tup [uU (ah l j0 i) (am l a j0 i) (ax l i j1.point),ao (sX (aV l a j1.b j1.on).1) (sX (aV l a j1.b j1.on).2),ao (sX (aV l a j1.b j1.to).1) (sX (aV l a j1.b j1.to).2)]) [(1000,some (cD l ⟨2,[i],[z0,z1],0⟩ a))]:=by
 obtain⟨i1,i2,i3,i4,i5⟩:=dk hli h1;rw[ha]at i1 i3;refine gF func71 (fun k z h=>bw h) ?_;refine gi (rfl) ?_;refine gt (aY (DP hl _ hg a rfl h1) (cJ rfl) rfl rfl rfl) ?_;refine gD ?_;refine gt (aJ (tq oz hl hli _ hg al hc (k:=0) rfl h0 h3 p0) (.cons (.tmp rfl) (.cons (.const _) (cJ rfl))) aL rfl rfl) ?_;refine gt (aJ (ni hl hli _ a i1 i3) (aK rfl rfl rfl) aL rfl rfl) ?_;refine gt (aJ (rF hl hli _ al hc i2 i4 oz h3 hb) (aK rfl rfl rfl) aL rfl rfl) ?_;refine gt (aJ (rF hl hli _ al hc i2 (i5 hk) oz h3 hb) (aK rfl rfl rfl) aL rfl rfl) ?_;refine gD ?_;refine gR ?_;exact aA.keep (bh rfl)
structure Vr where
  w:List Rt
  x:List Rt
  y:List Rt
instance:Inhabited Vr:=⟨⟨[],[],[]⟩⟩
def Vr.av(v:Vr):AV:=.agg [nR v.w,nR v.x,nR v.y]
def Vr.l(v:Vr):List (List Rt):=[v.w,v.x,v.y]
theorem AL.ct{a:As}(h:AL a)(hc:be a.rs=0):Ct (llq a.rs) 4000 300000:=by
 obtain⟨tw,_⟩:=bO h.tr hc;exact⟨⟨40000,tw,le_trans (Fz 40000 tw.three) oz⟩,by omega,by omega,by omega,by omega⟩
abbrev dO(rs:List (List Rt)):Blk:=.box [.lst 1 (rs.map nR),.v .nilIface]
theorem v9(rs:List (List Rt))(a:List Rat):Con prog 68 [.ptr 1000 0,nA a,.v .nilIface] [(1000,some (dO rs))] (nA a) [(1000,some (dO rs))]:=by
 refine gF func68 (fun k z h=>bw h) ?_;refine gC (fun t11=>?_) (fun t11=>?_) (st2:=(77777,0))
 ·refine gR ?_;exact aA.keep (bh rfl)
 cases t11
theorem C0(rs:List (List Rt))(a b:List Rat):Con prog 72 [.ptr 1000 0,ao a b,.v .nilIface] [(1000,some (dO rs))] (ao a b) [(1000,some (dO rs))]:=by
 refine gF func72 (fun k z h=>bw h) ?_;refine gC (fun t11=>?_) (fun t11=>?_) (st2:=(77777,0))
 ·refine gR ?_;exact aA.keep (bh rfl)
 cases t11
section
variable{rs:List (List Rt)}{r u k:Nat}{a b:List Rat}{x y:Et (llq rs)}{w v w' v':Nat}
theorem Du (h : TR rs r) (hc : be rs = 0) [c0 : Ct (llq rs) u k] [ha : Zl (llq rs) u k a x w v] [hb : Zl (llq rs) u k b y w' v'] (hs : w + v + (w' + v') <= 10000 := by decide) :
  Con prog 76 [.ptr 1000 0,nA a,nA b] [(1000,some (dO rs))] (nA (sX (x*y))) [(1000,some (dO rs))]:=by
 have hx:=C6 (ha:=ha) (hb:=hb) hs;rw[pS h hc]at hx;refine gF func76 (fun k z h=>bw h) ?_;refine gc hx ?_;refine gt (aJ (v9 _ _) (aK rfl rfl rfl) aL rfl rfl) ?_;refine gR ?_;exact aA.keep (bh rfl)
theorem Oc (h : TR rs r) (hc : be rs = 0) [c0 : Ct (llq rs) u k] [ha : Zl (llq rs) u k a x w v] [hb : Zl (llq rs) u k b y w' v'] (hs : w + v + (w' + v') <= 10000 := by decide) :
  Con prog 75 [.ptr 1000 0,nA a,nA b] [(1000,some (dO rs))] (nA (sX (x-y))) [(1000,some (dO rs))]:=by
 have hx:=IV (ha:=ha) (hb:=hb) hs;rw[pS h hc]at hx;refine gF func75 (fun k z h=>bw h) ?_;refine gc hx ?_;refine gt (aJ (v9 _ _) (aK rfl rfl rfl) aL rfl rfl) ?_;refine gR ?_;exact aA.keep (bh rfl)
end
structure DyW(l:Li)(a:As):Prop where
  hl:l.ok
  li:aE l=0
  al:AB a
  hc:be a.rs=0
structure DyR(l:Li)(a:As):Prop extends DyW l a where
  s:DyS a
theorem DyR.two{l:Li}{a:As}(D:DyR l a):(llq a.rs).length<=2:=le_trans (D.s.one D.hc) oz
theorem vu{n:Nat}(hn:n<=1):kB 64990 n<=65000:=by
 have h1:=gK 64990 hn;have h2:eB 64990 1=64992:=by simp only[eB]
 show eB 64990 _<=_;omega
theorem uK{n:Nat}(h3:n<=2):kB 400000000 n<=1200000006:=by
 have h9:=gK 400000000 h3;have h8:eB 400000000 2=1200000006:=by decide
 show eB 400000000 _<=_;omega
abbrev u6(l:Li)(a:As)(i:Int)(j0 j:Jt):List AV :=
  qC (ah l j0 i)++([nA (sX (am l a j0 i).1),nA (sX (am l a j0 i).2)]++(qC (fB l i j)++[nA (sh 0 (cM l i j0 j:Rat)),nA (sh 0 (iS l i j:Rat)),nA (sX (cO l a i j0 j)),nA (sX (d7 l a i j0 j).1),nA (sX (d7 l a i j0 j).2)]))
theorem DT{l:Li}{a:As}(D:DyR l a){n:Nat}{i:Int}{j0 j:Jt}(h0:l.jo[n]?=some j0)(p0:PinP 3900000 l a j0 i){m:Nat}(h1:l.jo[m]?=some j)(hb:Pd 3900000 a j.a) :
  Zu 310000 65000 (d7 l a i j0 j).1 80 81/\Zu 310000 65000 (d7 l a i j0 j).2 80 81:=by
 obtain⟨i1,i2,i3,i4,_⟩:=dk D.li h1;obtain⟨z1,z2⟩:=gy D.hl D.li D.al D.s D.hc h0 p0;obtain⟨y1,y2⟩:=hO D.hl D.li D.al D.s D.hc i1 i3 hb;haveI c:=D.s.ct D.hc;haveI:=z1;haveI:=z2;haveI:=y1;haveI:=y2
 exact⟨(inferInstance:Zu 310000 65000 ((aV l a j.a j.point).1-(am l a j0 i).1) _ _),(inferInstance:Zu 310000 65000 ((aV l a j.a j.point).2-(am l a j0 i).2) _ _)⟩
theorem Rj{l:Li}{a:As}(D:DyR l a){i z0 z1:Int}{j0 j:Jt}(hg:GrOk l ⟨3,[i],[z0,z1],0⟩)
  (h0:l.jo[z0.toNat]?=some j0) (h1:l.jo[z1.toNat]?=some j) (p0:PinP 3900000 l a j0 i) (hi:j.b=i) (hk:j.kind≠0) (hb:Pd 3900000 a j.a) :
  Con prog 78 [.ptr 1000 0,.ptr 1001 0] [(1000,some (cD l ⟨3,[i],[z0,z1],0⟩ a)),(1001,some (dO a.rs))] (.agg (u6 l a i j0 j)) [(1000,some (cD l ⟨3,[i],[z0,z1],0⟩ a)),(1001,some (dO a.rs))]:=by
 obtain⟨i1,i2,i3,i4,i5⟩:=dk D.li h1;have hs0:Sm 1000 (ah l j0 i):=dH D.hl D.li h0 (by rcases p0.tie with h9 |h9;exact .inl h9.1;exact .inr h9.2.1);subst hi;have hs1:=gN D.hl D.li i2 i4;have hs2:=gN D.hl D.li i2 (i5 hk);have hv:=hs2.sub hs1;obtain⟨z1',z2'⟩:=gy D.hl D.li D.al D.s D.hc h0 p0;obtain⟨y1,y2⟩:=hO D.hl D.li D.al D.s D.hc i1 i3 hb;obtain⟨w1,w2⟩:=DT D h0 p0 h1 hb;haveI c:=D.s.ct D.hc;haveI:=z1';haveI:=z2';haveI:=y1;haveI:=y2;haveI:=w1;haveI:=w2
 have hsub:=Nt (ts:=llq a.rs) (u:=310000) (k:=65000) (a:=sX (aV l a j.a j.point).1) (b:=sX (aV l a j.a j.point).2) (a2:=sX (am l a j0 j.b).1) (b2:=sX (am l a j0 j.b).2);have hdot:=TL (ts:=llq a.rs) (u:=310000) (k:=65000) (a:=sX (d7 l a j.b j0 j).1) (b:=sX (d7 l a j.b j0 j).2) (a2:=sX (d7 l a j.b j0 j).1) (b2:=sX (d7 l a j.b j0 j).2);rw[pS D.s.tr D.hc]at hsub hdot;refine gF func78 (fun k z h=>Pb h) ?_;refine gi (rfl) ?_;refine gt (aY (DP D.hl _ hg a rfl h1) (cJ rfl) rfl rfl rfl) ?_;refine gD ?_;refine gt (aJ (tq oz D.hl D.li _ hg D.al D.hc (k:=0) rfl h0 D.two p0) (.cons (.tmp rfl) (.cons (.const _) (cJ rfl))) aL rfl rfl) ?_;refine gt (aY (ni D.hl D.li _ a i2 i4) (aK rfl rfl rfl) rfl rfl rfl) ?_;refine gt (aY (ni D.hl D.li _ a i2 (i5 hk)) (aK rfl rfl rfl) rfl rfl rfl) ?_;refine gc (oE hs2 hs1 oz oz) ?_;refine gD ?_;refine gc (oE hs1 hs0 oz oz) ?_;refine gc (Sw hv (hs1.sub hs0) oz oz) ?_;refine gc (n8 ((hv.cross (hs1.sub hs0)).qs oz)) ?_;refine gc (zw hv oz) ?_;refine gD ?_;refine gt (aJ (rF D.hl D.li _ D.al D.hc i1 i3 oz D.two hb) (aK rfl rfl rfl) aL rfl rfl) ?_;refine gC (fun t63=>?_) (fun t63=>?_) (st2:=(77777,0))
 ·refine gc hsub ?_;refine gt (aJ (Con.rB 1001 rfl rfl rfl rfl (C0 _ _ _)) (aK rfl rfl rfl) aL rfl rfl) ?_;refine gD ?_;refine gc hdot ?_;refine gt (aJ (Con.rB 1001 rfl rfl rfl rfl (v9 _ _)) (aK rfl rfl rfl) aL rfl rfl) ?_;refine gD ?_;refine gR ?_;exact aA.keep (lZ rfl rfl)
 cases t63
theorem Qk{l:Li}{a:As}(D:DyR l a){i:Int}{j0 j:Jt}{w v:Nat}[z1:Zl (llq a.rs) 310000 65000 (sh 0 (cM l i j0 j:Rat)) (qE (cM l i j0 j)) 3 0][z2:Zl (llq a.rs) 310000 65000 (sh 0 (iS l i j:Rat)) (qE (iS l i j)) 3 0][z3:Zu 310000 65000 (cO l a i j0 j) w v](hw:w+v<=2000) :
  Con prog 79 [.agg (u6 l a i j0 j),.ptr 1001 0] [(1001,some (dO a.rs))] (nA (sX (qE (iS l i j)*cO l a i j0 j-qE (cM l i j0 j)*qE (cM l i j0 j)))) [(1001,some (dO a.rs))]:=by
 haveI c:=D.s.ct D.hc;haveI:=z1.zu;haveI:=z2.zu
 have m1:=Du (a:=sh 0 (iS l i j:Rat)) (b:=sX (cO l a i j0 j)) D.s.tr D.hc oz;have m2:=Du (a:=sh 0 (cM l i j0 j:Rat)) (b:=sh 0 (cM l i j0 j:Rat)) D.s.tr D.hc oz;have m3:=Oc (a:=sX (qE (iS l i j)*cO l a i j0 j)) (b:=sX (qE (cM l i j0 j)*qE (cM l i j0 j):Et (llq a.rs))) D.s.tr D.hc oz;refine gF func79 (fun k z h=>by have:=(fw h).1;omega) ?_;refine gt (aJ (Con.rB 1001 rfl rfl rfl rfl m1) (aK rfl rfl rfl) aL rfl rfl) ?_;refine gt (aJ (Con.rB 1001 rfl rfl rfl rfl m2) (aK rfl rfl rfl) aL rfl rfl) ?_;refine gt (aJ (Con.rB 1001 rfl rfl rfl rfl m3) (aK rfl rfl rfl) aL rfl rfl) ?_;refine gD ?_;refine gR ?_;exact aA.keep (bh rfl)
abbrev Ci:Type:=List Rat×List Rat×List Rat
abbrev Gc(c:Ci):AV:=.agg [nA c.1,nA c.2.1,nA c.2.2]
structure CiZ(rs:List (List Rt))(c:Ci):Prop where
  x:Nm (llq rs).length 2500000000 c.1
  y:Nm (llq rs).length 2500000000 c.2.1
  r:Nm (llq rs).length 2500000000 c.2.2
  sg:0<=ak (dE (llq rs) c.2.2)
theorem Vu{ts:LL}(p q:Et ts×Et ts):dotE (q.1-p.1) (q.2-p.2) (q.1-p.1) (q.2-p.2)=au p q:=by
 unfold au gM aW dotE;dsimp only;grind
theorem xn{ts:LL}(c:Ct ts 310000 65000){x y x2 y2:Et ts}(h1:Zu 310000 65000 x 40 40)(h2:Zu 310000 65000 y 40 40)(h3:Zu 310000 65000 x2 40 40)(h4:Zu 310000 65000 y2 40 40):Zu 310000 65000 (au (x,y) (x2,y2)) 320 327:=by
 haveI:=c;haveI:=h1;haveI:=h2;haveI:=h3;haveI:=h4
 exact(inferInstance:Zu 310000 65000 (dotE (x-x2) (y-y2) (x-x2) (y-y2)) _ _)
section
variable{rs:List (List Rt)}{r:Nat}{a b c a2 b2 c2:List Rat}
theorem Gy(h:TR rs r)(hc:be rs=0){e:Nat}(ha:Nm (llq rs).length e a)(hb:Nm (llq rs).length e b)(he:e<=lm (llq rs).length):FP 263 [b8 rs,ao a b] (.v .nilIface):=by
 obtain⟨tw,etw⟩:=bO h hc;have hca:=ru tw [(a,b)] (fun p hp=>by rw[List.mem_singleton.1 hp];exact⟨ha,hb⟩) he (by show 1<=500;omega);rw[<- etw]at hca;refine af func263 ?_;refine gc hca ?_;refine ae ?_;rfl
theorem Hy(h:TR rs r)(hc:be rs=0){e:Nat}(ha:Nm (llq rs).length e a)(hb:Nm (llq rs).length e b)(hn:Nm (llq rs).length e c)(he:e+1<=lm (llq rs).length):FP 262 [b8 rs,.agg [nA a,nA b,nA c]] (.v .nilIface):=by
 obtain⟨tw,etw⟩:=bO h hc;have hneg:=yK tw hn oz;rw[<- etw]at hneg;refine af func262 ?_;refine gc (Gy h hc ha hb oz) ?_;refine gC (fun t13=>?_) (fun t13=>?_) (st1:=(3,0));cases t13;refine gc hneg ?_;refine ae ?_;rfl
theorem GN(h:TR rs r)(hc:be rs=0)(cs:List Ci)(hz:∀c∈cs,CiZ rs c)(hl:cs.length<=100):FP 264 [b8 rs,.lst 3 (cs.map Gc)] (.v .nilIface):=by
 obtain⟨tw,etw⟩:=bO h hc;have hlm:=je (llq rs).length;refine af func264 ?_;refine gl ?_;refine aM [2,9,10] [2] (fun(i:Nat)=>[(11,some (i64 i))]) (fun _=>[]) (fun i=>i<=cs.length) (fun i=>cs.length-i) 0 (zero_le _) ?_;rintro i hi K1 J1;refine gC (fun t12=>?_) (fun t12=>?_)
 ·have hin:=aT t12;obtain⟨z,hzi⟩:=az hin;have hz9:=hz z (mem_of_getElem? hzi);have hs:=Hl tw hz9.r oz;rw[<- etw]at hs;refine gi (ay hzi) ?_;refine gc hs ?_;refine gC (fun t23=>?_) (fun t23=>?_) (st1:=(6,0));cases t23;refine gC (fun t26=>?_) (fun t26=>?_) (st1:=(8,0));exact absurd t26 (by have h9:=hz9.sg;unfold ak dE at h9;simp only[aa,decide_eq_true_eq];omega);refine ga aH ?_;exact aG J1 (i+1) hin
 refine ae ?_;rfl
theorem Se(h:TR rs r)(hc:be rs=0)(cs:List Ci)(hz:∀c∈cs,CiZ rs c)(hl:cs.length<=100):FP 156 [b8 rs,.lst 3 (cs.map Gc)] (.v .nilIface):=by
 have hlm:=je (llq rs).length;have hck:=oO rs r h;rw[hc]at hck;refine af func156 ?_;refine gc hck ?_;refine gC (fun t12=>?_) (fun t12=>?_) (st1:=(3,0));cases t12;refine gl ?_;refine aM [1,2,14,15] [2] (fun(i:Nat)=>[(16,some (i64 i))]) (fun _=>[]) (fun i=>i<=cs.length) (fun i=>cs.length-i) 0 (zero_le _) ?_;rintro i hi K1 J1;refine gC (fun t17=>?_) (fun t17=>?_)
 ·have hin:=aT t17;obtain⟨z,hzi⟩:=az hin;have hz9:=hz z (mem_of_getElem? hzi);refine gi (ay hzi) ?_;refine gc (Hy h hc hz9.x hz9.y hz9.r oz) ?_;refine gC (fun t24=>?_) (fun t24=>?_) (st1:=(9,0));cases t24;refine ga aH ?_;exact aG J1 (i+1) hin
 refine gc (GN h hc cs hz hl) ?_;refine ae ?_;rfl
theorem QZ(h:TR rs r)(hc:be rs=0){x y x2 y2:Et (llq rs)}[c0:Ct (llq rs) 310000 65000][i1:Zl (llq rs) 310000 65000 a x 40 40][i2:Zl (llq rs) 310000 65000 b y 40 40][i4:Zl (llq rs) 310000 65000 a2 x2 40 40][i5:Zl (llq rs) 310000 65000 b2 y2 40 40] :
  FP 53 [b8 rs,ao a b,ao a2 b2] (.tup [nA (sX (au (x,y) (x2,y2))),.v .nilIface]):=by
 obtain⟨_,etw⟩:=bO h hc;obtain⟨R,tw,hk⟩:=c0.ex;have kk:=c0.kk hk;obtain⟨K,hK⟩:∃K,40*310000+40*65000=K:=⟨_,rfl⟩
 have hlm:=je (llq rs).length;have n1:=i1.nm;have n2:=i2.nm;have n4:=i4.nm;have n5:=i5.nm
 have hca:=ru tw [(a,b),(a2,b2)] (e:=40*310000+40*65000) (fun p hp=>by
  simp only[mem_cons,not_mem_nil,or_false]at hp;rcases hp with rfl |rfl
  ·exact⟨n1,n2⟩
  ·exact⟨n4,n5⟩) oz (by show 2<=500;omega)
 rw[<- etw]at hca;have hle:=GF tw n4 n5 n1 n2 oz;have m1:=n4.sub n1;have m2:=n5.sub n2;have hdo:=GE tw m1 m2 m1 m2 oz;rw[i1.eq,i2.eq,i4.eq,i5.eq]at hle;rw[i1.eq,i2.eq,i4.eq,i5.eq,bp,bp]at hdo;have hd2:=Vu (x,y) (x2,y2);refine af func53 ?_;refine gc hca ?_;refine gC (fun t17=>?_) (fun t17=>?_) (st1:=(3,0)) (st2:=(5,0));cases t17;refine gW (Wk.of (sl:=[(4,some (.ptr 4 0)),(5,some (.ptr 5 0)),(9,some (.ptr 21 0))]) (hp:=[(4,some (.box [nA a,nA b])),(5,some (.box [nA a2,nA b2])),(21,some (.box [.lst 1 ((llq rs).map nA),.v .nilIface]))]) aQ (.k (.k (.cons rfl (BlkSub.bL (.cons (.of (ia etw)) (.cons (.refl _) .nil)) rfl) .nil)))) ?_;refine gt (aJ (Con.rB 21 rfl rfl rfl rfl hle) (aK rfl rfl rfl) aL rfl rfl) ?_;refine gt (aJ (Con.rB 21 rfl rfl rfl rfl hdo) (aK rfl rfl rfl) aL rfl rfl) ?_;refine gt (aJ (Con.rB 21 rfl rfl rfl rfl (C1 _ _)) (bC rfl rfl) aL rfl rfl) ?_;refine a9 ?_;rw[<- hd2];rfl
theorem rq(rs:List (List Rt))(a:List Rat):Con prog 265 [.ptr 1000 0,nA a,.v .nilIface] [(1000,some (dO rs))] (nA a) [(1000,some (dO rs))]:=by
 refine gF func265 (fun k z h=>bw h) ?_;refine gC (fun t11=>?_) (fun t11=>?_) (st2:=(77777,0))
 ·refine gR ?_;exact aA.keep (bh rfl)
 cases t11
end
section
variable{rs:List (List Rt)}{r u k:Nat}{a b:List Rat}{x y:Et (llq rs)}{w v w' v':Nat}
theorem JE (h : TR rs r) (hc : be rs = 0) [c0 : Ct (llq rs) u k] [ha : Zl (llq rs) u k a x w v] [hb : Zl (llq rs) u k b y w' v'] (hs : w + v + (w' + v') <= 10000 := by decide) :
  Con prog 260 [.ptr 1000 0,nA a,nA b] [(1000,some (dO rs))] (nA (sX (x+y))) [(1000,some (dO rs))]:=by
 have hx:=K7 (ha:=ha) (hb:=hb) hs;rw[pS h hc]at hx;refine gF func260 (fun k z h=>bw h) ?_;refine gc hx ?_;refine gt (aJ (rq _ _) (aK rfl rfl rfl) aL rfl rfl) ?_;refine gR ?_;exact aA.keep (bh rfl)
theorem De (h : TR rs r) (hc : be rs = 0) [c0 : Ct (llq rs) u k] [ha : Zl (llq rs) u k a x w v] [hb : Zl (llq rs) u k b y w' v'] (hs : w + v + (w' + v') <= 10000 := by decide) :
  Con prog 256 [.ptr 1000 0,nA a,nA b] [(1000,some (dO rs))] (nA (sX (x-y))) [(1000,some (dO rs))]:=by
 have hx:=IV (ha:=ha) (hb:=hb) hs;rw[pS h hc]at hx;refine gF func256 (fun k z h=>bw h) ?_;refine gc hx ?_;refine gt (aJ (rq _ _) (aK rfl rfl rfl) aL rfl rfl) ?_;refine gR ?_;exact aA.keep (bh rfl)
theorem zH (h : TR rs r) (hc : be rs = 0) [c0 : Ct (llq rs) u k] [ha : Zl (llq rs) u k a x w v] [hb : Zl (llq rs) u k b y w' v'] (hs : w + v + (w' + v') <= 10000 := by decide) :
  Con prog 266 [.ptr 1000 0,nA a,nA b] [(1000,some (dO rs))] (nA (sX (x*y))) [(1000,some (dO rs))]:=by
 have hx:=C6 (ha:=ha) (hb:=hb) hs;rw[pS h hc]at hx;refine gF func266 (fun k z h=>bw h) ?_;refine gc hx ?_;refine gt (aJ (rq _ _) (aK rfl rfl rfl) aL rfl rfl) ?_;refine gR ?_;exact aA.keep (bh rfl)
theorem OH (h : TR rs r) (hc : be rs = 0) [c0 : Ct (llq rs) u k] (n : Int) (hn : -9223372036854775808 <= n /\ n <= 9223372036854775807) [hq : Qz u (n : Rat) w'] [ha : Zl (llq rs) u k a x w v] (hs : w' + 0 + (w + v) <= 10000 := by decide) :
  Con prog 257 [.ptr 1000 0,i64 n,nA a] [(1000,some (dO rs))] (nA (sX (qE (n:Rat)*x))) [(1000,some (dO rs))]:=by
 have hm:=zH (a:=sh 0 ((n:Rat):Rat)) (b:=a) h hc hs;refine gF func257 (fun k z h=>bw h) ?_;refine gc (mo n hn) ?_;refine gc (n8 (mZ hn)) ?_;refine gt (aJ hm (aK rfl rfl rfl) aL rfl rfl) ?_;refine gR ?_;exact aA.keep (bh rfl)
end
section
variable{rs:List (List Rt)}{r:Nat}{a b c a2 b2 c2:List Rat}{x y z x2 y2 z2:Et (llq rs)}
theorem Nq(h:TR rs r)(hc:be rs=0)[c0:Ct (llq rs) 310000 65000][i1:Zl (llq rs) 310000 65000 a x 40 40][i2:Zl (llq rs) 310000 65000 b y 40 40][i3:Zl (llq rs) 310000 65000 c z 3 0][i4:Zl (llq rs) 310000 65000 a2 x2 40 40][i5:Zl (llq rs) 310000 65000 b2 y2 40 40][i6:Zl (llq rs) 310000 65000 c2 z2 3 0] :
  Con prog 157 [.ptr 1000 0,.agg [nA a,nA b,nA c],.agg [nA a2,nA b2,nA c2]] [(1000,some (dO rs))] (.tup [nA (sX (cm (x,y) z (x2,y2) z2)),nA (sX (au (x,y) (x2,y2)))]) [(1000,some (dO rs))]:=by
 have hd:=QZ (a:=a) (b:=b) (a2:=a2) (b2:=b2) h hc;haveI:=i3.zu;haveI:=i6.zu;haveI zd:=xn c0 i1.zu i2.zu i4.zu i5.zu;haveI q4:Qz 310000 ((4:Int):Rat) 1:=Qz.int (c:=Ct.cx (c:=c0)) (by decide);have m1:=JE (a:=c) (b:=sX (au (x,y) (x2,y2))) h hc (by decide);have m2:=De (a:=sX (z+au (x,y) (x2,y2))) (b:=c2) h hc (by decide);have m3:=zH (a:=c) (b:=sX (au (x,y) (x2,y2))) h hc (by decide);have m4:=OH (a:=sX (z*au (x,y) (x2,y2))) h hc 4 oz (by decide);have m5:=zH (a:=sX (z+au (x,y) (x2,y2)-z2)) (b:=sX (z+au (x,y) (x2,y2)-z2)) h hc (by decide);have m6:=De (a:=sX (qE ((4:Int):Rat)*(z*au (x,y) (x2,y2)))) (b:=sX ((z+au (x,y) (x2,y2)-z2)*(z+au (x,y) (x2,y2)-z2))) h hc (by decide);refine gF func157 (fun k z h=>bw h) ?_;refine gc hd ?_;refine gt (aY (rq _ _) (aK rfl rfl rfl) rfl rfl rfl) ?_;refine gD ?_;refine gt (aY m1 (aK rfl rfl rfl) rfl rfl rfl) ?_;refine gt (aY m2 (aK rfl rfl rfl) rfl rfl rfl) ?_;refine gD ?_;refine gt (aY m3 (aK rfl rfl rfl) rfl rfl rfl) ?_;refine gt (aY m4 (.cons (.tmp rfl) (.cons (.const _) (cJ rfl))) rfl rfl rfl) ?_;refine gt (aY m5 (aK rfl rfl rfl) rfl rfl rfl) ?_;refine gt (aY m6 (aK rfl rfl rfl) rfl rfl rfl) ?_;refine gR ?_;exact aA.keep (bh rfl)
end
class Cy(ts:LL)(u k:outParam Nat):Prop where
  ex:∃R,Tw ts R/\eB R ts.length<=k
  k1:1<=k
  u3:3<=u
  two:ts.length<=2
instance Cy.cx{ts:LL}{u k:Nat}[c:Cy ts u k]:Cx (aj ts) ts.length u k:=by
  obtain⟨R,tw,h⟩:=c.ex;exact⟨⟨R,CJ tw▸tw,h⟩,c.k1,c.u3⟩
theorem Cy.zq{ts:LL}{u k:Nat}[c:Cy ts u k]{q:Rat}{w:Nat}[h:Qz u q w]:Zl ts u k (sh 0 (q:Rat)) (qE q:Et ts) w 0:=⟨kS _ q,by
 obtain⟨R,tw,_⟩:=c.ex;exact(Nm.ofQ tw.five h.cb).eq oz⟩
theorem Cy.lm{ts:LL}{u k:Nat}(c:Cy ts u k):lm ts.length=200000000000:=by unfold Go.Lw.lm;rw[if_pos c.two]
def iE{ts:LL}(y:Et ts):Et ts:=T.inv (aj ts) ts.length y
abbrev ba(ts:LL):Blk:=.box [.lst 1 (ts.map nA),.v .nilIface]
theorem AO(ts:LL):dO (ts.map (List.map rt))=ba ts:=by
 have h:=gn ts;unfold b8 an at h;have h1:=AV.agg.inj h
 injection h1 with h2
 show Blk.box [.lst 1 ((ts.map (List.map rt)).map nR),.v .nilIface]=_;rw[h2]
section
variable{ts:LL}{u k:Nat}{a b:List Rat}{x y:Et ts}{w v w' v':Nat}
theorem K8[c:Cy ts u k][ha:Zl ts u k a x w v][hb:Zl ts u k b y w' v'](hs:w*u+v*k+(w'*u+v'*k)<200000000000):FP 329 [an ts,nA a,nA b] (.tup [nA (sX (x+y)),.v .nilIface]):=by
 obtain⟨R,tw,hk⟩:=c.ex;have h1:=yE tw ha.nm hb.nm (by rw[c.lm];omega);rw[ha.eq,hb.eq]at h1;exact h1
theorem RY[c:Cy ts u k][ha:Zl ts u k a x w v][hb:Zl ts u k b y w' v'](hs:w*u+v*k+(w'*u+v'*k)<200000000000):FP 163 [an ts,nA a,nA b] (.tup [nA (sX (x-y)),.v .nilIface]):=by
 obtain⟨R,tw,hk⟩:=c.ex;have h1:=oP tw ha.nm hb.nm (by rw[c.lm];omega);rw[ha.eq,hb.eq]at h1;exact h1
theorem M4[c:Cy ts u k][ha:Zl ts u k a x w v][hb:Zl ts u k b y w' v'](hs:w*u+v*k+(w'*u+v'*k)<200000000000):FP 164 [an ts,nA a,nA b] (.tup [nA (sX (x*y)),.v .nilIface]):=by
 obtain⟨R,tw,hk⟩:=c.ex;have h1:=yL tw ha.nm hb.nm (by rw[c.lm];omega);rw[ha.eq,hb.eq]at h1;exact h1
theorem BU[c:Cy ts u k][ha:Zl ts u k a x w v](hs:w*u+v*k<200000000000):FP 138 [an ts,nA a] (.tup [nA (sX (-x)),.v .nilIface]):=by
 obtain⟨R,tw,hk⟩:=c.ex;have h1:=yK tw ha.nm (by rw[c.lm];omega);rw[ha.eq]at h1;exact h1
theorem Gu[c:Cy ts u k][ha:Zl ts u k a x w v](hs:w*u+v*k<200000000000):FP 267 [an ts,nA a] (.tup [i64 (ak x),.v .nilIface]):=by
 obtain⟨R,tw,hk⟩:=c.ex;have h1:=Hl tw ha.nm (by rw[c.lm];omega);rw[ha.eq]at h1;exact h1
theorem L8{j m:Nat}[c:Cy ts u k][ha:Zl ts u k a x w v][hb:Zl ts u k b y w' v'](nb:Nl j b)(hj:j<=ts.length)(h0:ak y≠0)(hm:∀R,eB R ts.length<=k->iB R j (w'*u+v'*k)<=m)(hf:w'*u+v'*k<200000000000)(hs:w*u+v*k+m+k<=200000000000) :
  FP 271 [an ts,nA a,nA b] (.tup [nA (sX (x*iE y)),.v .nilIface])/\Nm ts.length (w*u+v*k+m+k) (sX (x*iE y)):=by
 obtain⟨R,tw,hk⟩:=c.ex;have hi:=hm R hk;have he:=hb.eq;have h1:T.sgn (aj ts) ts.length (ad ts.length b)≠0:=by rw[he];exact h0
 have hd:=AT tw ha.nm hb.nm hj nb h1 (by rw[c.lm];omega) oz;have hn:=rK tw ha.nm hb.nm hj nb h1 (by rw[c.lm];omega) oz;rw[ha.eq,he]at hd hn;exact⟨hd,hn.mono oz⟩
theorem oK{j:Nat}[c:Cy ts u k][ha:Zl ts u k a x w v][hb:Zl ts u k b y w' v'](nb:Nl j b)(hj:j<=ts.length)(hj1:j<=1)(h0:ak y≠0)(hs:(w+5*w')*u+(v+5*v'+3)*k<=200000000000) :
  FP 271 [an ts,nA a,nA b] (.tup [nA (sX (x*iE y)),.v .nilIface])/\Zu u k (x*iE y) (w+5*w') (v+5*v'+3):=by
 have e:(w+5*w')*u+(v+5*v'+3)*k=w*u+v*k+(5*(w'*u+v'*k)+2*k)+k:=by
  simp only[Nat.add_mul,Nat.mul_add,Nat.mul_assoc];omega
 rw[e]at hs
 have h:=L8 (a:=a) (b:=b) (m:=5*(w'*u+v'*k)+2*k) nb hj h0 (fun R hR=>by
  have h2:=G3 R (w'*u+v'*k) hj1;have h3:=gK R hj;omega) oz hs
 exact⟨h.1,⟨h.2.eq e.symm⟩⟩
theorem nP(ts:LL)(a:List Rat):Con prog 265 [.ptr 1000 0,nA a,.v .nilIface] [(1000,some (ba ts))] (nA a) [(1000,some (ba ts))]:=by
 have h:=rq (ts.map (List.map rt)) a;rw[AO]at h;exact h
theorem o6(ts:LL)(a:List Rat):Con prog 68 [.ptr 1000 0,nA a,.v .nilIface] [(1000,some (ba ts))] (nA a) [(1000,some (ba ts))]:=by
 have h:=v9 (ts.map (List.map rt)) a;rw[AO]at h;exact h
theorem jG[c:Cy ts u k][ha:Zl ts u k a x w v][hb:Zl ts u k b y w' v'](hs:w*u+v*k+(w'*u+v'*k)<200000000000) :
  Con prog 260 [.ptr 1000 0,nA a,nA b] [(1000,some (ba ts))] (nA (sX (x+y))) [(1000,some (ba ts))]:=by
 refine gF func260 (fun k z h=>bw h) ?_;refine gc (K8 hs) ?_;refine gt (aJ (nP _ _) (aK rfl rfl rfl) aL rfl rfl) ?_;refine gR ?_;exact aA.keep (bh rfl)
theorem kV[c:Cy ts u k][ha:Zl ts u k a x w v][hb:Zl ts u k b y w' v'](hs:w*u+v*k+(w'*u+v'*k)<200000000000) :
  Con prog 256 [.ptr 1000 0,nA a,nA b] [(1000,some (ba ts))] (nA (sX (x-y))) [(1000,some (ba ts))]:=by
 refine gF func256 (fun k z h=>bw h) ?_;refine gc (RY hs) ?_;refine gt (aJ (nP _ _) (aK rfl rfl rfl) aL rfl rfl) ?_;refine gR ?_;exact aA.keep (bh rfl)
theorem iU[c:Cy ts u k][ha:Zl ts u k a x w v][hb:Zl ts u k b y w' v'](hs:w*u+v*k+(w'*u+v'*k)<200000000000) :
  Con prog 266 [.ptr 1000 0,nA a,nA b] [(1000,some (ba ts))] (nA (sX (x*y))) [(1000,some (ba ts))]:=by
 refine gF func266 (fun k z h=>bw h) ?_;refine gc (M4 hs) ?_;refine gt (aJ (nP _ _) (aK rfl rfl rfl) aL rfl rfl) ?_;refine gR ?_;exact aA.keep (bh rfl)
theorem se{q:List Rat}(hd:FP 271 [an ts,nA a,nA b] (.tup [nA q,.v .nilIface])) :
  Con prog 259 [.ptr 1000 0,nA a,nA b] [(1000,some (ba ts))] (nA q) [(1000,some (ba ts))]:=by
 refine gF func259 (fun k z h=>bw h) ?_;refine gc hd ?_;refine gt (aJ (nP _ _) (aK rfl rfl rfl) aL rfl rfl) ?_;refine gR ?_;exact aA.keep (bh rfl)
theorem ra[c:Cy ts u k][ha:Zl ts u k a x w v](hs:w*u+v*k<200000000000) :
  Con prog 253 [.ptr 1000 0,nA a] [(1000,some (ba ts))] (i64 (ak x)) [(1000,some (ba ts))]:=by
 refine gF func253 (fun k z h=>bw h) ?_;refine gC (fun t11=>?_) (fun t11=>?_) (st1:=(2,0));cases t11;refine gc (Gu hs) ?_;refine gR ?_;exact aA.keep (bh rfl)
theorem wB{q:List Rat}(hd:FP 271 [an ts,nA a,nA b] (.tup [nA q,.v .nilIface])) :
  Con prog 153 [.ptr 1000 0,nA a,nA b] [(1000,some (ba ts))] (nA q) [(1000,some (ba ts))]:=by
 refine gF func153 (fun k z h=>bw h) ?_;refine gc hd ?_;refine gt (aJ (o6 _ _) (aK rfl rfl rfl) aL rfl rfl) ?_;refine gR ?_;exact aA.keep (bh rfl)
theorem A8[c:Cy ts u k][ha:Zl ts u k a x w v](hs:w*u+v*k<200000000000) :
  Con prog 150 [.ptr 1000 0,nA a] [(1000,some (ba ts))] (i64 (ak x)) [(1000,some (ba ts))]:=by
 refine gF func150 (fun k z h=>bw h) ?_;refine gC (fun t11=>?_) (fun t11=>?_) (st1:=(2,0));cases t11;refine gc (Gu hs) ?_;refine gR ?_;exact aA.keep (bh rfl)
theorem BM[c:Cy ts u k](n:Int)(hn:-9223372036854775808<=n/\n<=9223372036854775807)[hq:Qz u (n:Rat) w'][ha:Zl ts u k a x w v](hs:w'*u+0*k+(w*u+v*k)<200000000000) :
  Con prog 257 [.ptr 1000 0,i64 n,nA a] [(1000,some (ba ts))] (nA (sX (qE (n:Rat)*x))) [(1000,some (ba ts))]:=by
 haveI:=Cy.zq (ts:=ts) (u:=u) (k:=k) (q:=(n:Rat)) (w:=w');have hm:=iU (ts:=ts) (u:=u) (k:=k) (a:=sh 0 ((n:Rat):Rat)) (b:=a) (x:=qE (n:Rat)) (y:=x) hs;refine gF func257 (fun k z h=>bw h) ?_;refine gc (mo n hn) ?_;refine gc (n8 (mZ hn)) ?_;refine gt (aJ hm (aK rfl rfl rfl) aL rfl rfl) ?_;refine gR ?_;exact aA.keep (bh rfl)
theorem tx{p1 p2 v1 v2 c m1 m2 q1 q2:List Rat}(h1:Con prog 266 [.ptr 1000 0,nA c,nA v1] [(1000,some (ba ts))] (nA m1) [(1000,some (ba ts))])
  (h2:Con prog 266 [.ptr 1000 0,nA c,nA v2] [(1000,some (ba ts))] (nA m2) [(1000,some (ba ts))])
  (h3:Con prog 260 [.ptr 1000 0,nA p1,nA m1] [(1000,some (ba ts))] (nA q1) [(1000,some (ba ts))])
  (h4:Con prog 260 [.ptr 1000 0,nA p2,nA m2] [(1000,some (ba ts))] (nA q2) [(1000,some (ba ts))]) :
  Con prog 258 [.ptr 1000 0,ao p1 p2,nA c,ao v1 v2] [(1000,some (ba ts))] (ao q1 q2) [(1000,some (ba ts))]:=by
 refine gF func258 (fun k z h=>bw h) ?_;refine gt (aJ h1 (aK rfl rfl rfl) aL rfl rfl) ?_;refine gt (aJ h3 (aK rfl rfl rfl) aL rfl rfl) ?_;refine gt (aJ h2 (aK rfl rfl rfl) aL rfl rfl) ?_;refine gt (aJ h4 (aK rfl rfl rfl) aL rfl rfl) ?_;refine gD ?_;refine gR ?_;exact aA.keep (bh rfl)
theorem CQ{r e:Nat}(tw:Tw ts r)(ha:Nm ts.length e a)(he:e<=lm ts.length)(hs:0<=T.sgn (aj ts) ts.length (ad ts.length a)) :
  Con prog 261 [.ptr 1000 0,nA a] [(1000,some (ba ts))] (nA (bX ts.length)) [(1000,some (ba (aI ts a)))]:=by
 refine gF func261 (fun k z h=>bw h) ?_;refine gC (fun t12=>?_) (fun t12=>?_) (st1:=(2,0));cases t12;refine gc (Gi tw ha he hs) ?_;refine gC (fun t24=>?_) (fun t24=>?_) (st1:=(5,0));cases t24;refine gR ?_;exact aA.keep (bh rfl)
abbrev xO(ts:LL)(ps:List AV):AV:=.agg [.lst 1 (ts.map nA),.lst 2 ps]
theorem Ug{r:Nat}(tw:Tw ts r):Con prog 354 [.ptr 1000 0] [(1000,some (ba ts))] (an ts) [(1000,some (ba ts))]:=by
 have h3:=tw.three;have hqs:=tw.rb.qs tw.le;refine gF func354 (fun k z h=>bw h) ?_;refine gl ?_;refine gW (Wk.virt 900 1 rfl) ?_;refine aM [2,3,13,14] [1000,2] (fun(i:Nat)=>[(15,some (i64 i))]) (fun i=>[(3,some (.box [.ms 900 1 0 i])),(900,some (.row 1 ((ts.take i).map nA)))]) (fun i=>i<=ts.length) (fun i=>ts.length-i) 0 (zero_le _) ?_ (h2:=(.cons rfl (BlkSub.bL (.cons (.nM _ _ _) .nil) rfl) (.k .nil)));rintro i hi K1 J1;refine gC (fun t16=>?_) (fun t16=>?_) (st2:=(13,0))
 ·have hin:=aT t16;obtain⟨d,hd⟩:=az hin
  have hdl:d.length<=32:=by
   have h9:=tw.len i hin;rw[aO hd]at h9;have:2^i<=32:=bP (b:=5) oz;omega
  have hdq:=hqs d (mem_of_getElem? hd);refine gi (ay hd) ?_;refine gl ?_;refine gW (Wk.virt 901 3 rfl) ?_;refine aM [2,3,13,14,15,19,20] [1000,2,3,900] (fun(j:Nat)=>[(6,some (.ms 901 3 0 j)),(21,some (i64 j))]) (fun j=>[(901,some (.row 3 ((d.take j).map qA)))]) (fun j=>j<=d.length) (fun j=>d.length-j) 0 (zero_le _) ?_;rintro j hj K2 J2;refine gC (fun t22=>?_) (fun t22=>?_) (st2:=(11,0))
  ·have hjn:=aT t22;obtain ⟨q,hq⟩:=az hjn;have hadd:=nI (rt q) (rt 0) (hdq q (mem_of_getElem? hq)).ok Qs.zero.ok;rw [sI,bt] at hadd;refine gi (ay hq) ?_;refine gc (Con.sA (.cons (.refl _) (.cons gT .nil)) hadd) ?_;refine gs (bK (.tmp rfl) rfl (by rw [length_map,length_take]; omega) (.tmp rfl) T67 rfl T45 rfl rfl (by simp only [length_cons,length_nil]; omega) rfl rfl) ?_ (10,0);refine gW (Wk.of (sl:=[(2,some (.ptr 2 0)),(3,some (.ptr 3 0)),(13,some (.lst 1 (ts.map nA))),(14,some (i64 ts.length)),(15,some (i64 i)),(6,some (.ms 30 3 0 (j + 1))),(19,some (nA d)),(20,some (i64 d.length)),(21,some (i64 j))]) (hp:=[(1000,some (ba ts)),(2,some (.box [nS])),(3,some (.box [.ms 900 1 0 i])),(900,some (.row 1 ((ts.take i).map nA))),(30,some (.row 3 ((d.take (j + 1)).map qA)))]) aQ (.k (.k (.k (.k (.cons rfl (BlkSub.of (by rw [cC hq,map_append]; rfl)) .nil)))))) ?_ (10,0)
   refine gW (Wk.rk (k:=30) (d:=901) rfl rfl) ?_;refine ga aH ?_;exact aG J2 (j+1) hjn
  have hjn:=a8 hj t22;subst hjn;refine gW ((Wk.freeze (k:=901) rfl).trans<|Wk.of (sl:=[(2,some (.ptr 2 0)),(3,some (.ptr 3 0)),(13,some (.lst 1 (ts.map nA))),(14,some (i64 ts.length)),(15,some (i64 i)),(6,some (nA d))]) (hp:=[(1000,some (ba ts)),(2,some (.box [nS])),(3,some (.box [.ms 900 1 0 i])),(900,some (.row 1 ((ts.take i).map nA)))]) (.k (.k (.k (.k (.k (.cons rfl (Sub.of (by rw[bA (by simp)];simp[nA])) .nil)))))) (.k (.k (.k (.k .nil))))) ?_
  refine gs (bK (.tmp rfl) rfl (by rw[length_map,length_take];omega) (.tmp rfl) T35 rfl T67 rfl rfl (by simp only[length_cons,length_nil];omega) rfl rfl) ?_ (12,0);refine gW (Wk.of (sl:=[(2,some (.ptr 2 0)),(3,some (.ptr 3 0)),(13,some (.lst 1 (ts.map nA))),(14,some (i64 ts.length)),(15,some (i64 i))]) (hp:=[(1000,some (ba ts)),(2,some (.box [nS])),(3,some (.box [.ms 36 1 0 (i+1)])),(36,some (.row 1 ((ts.take (i+1)).map nA)))]) aQ (.k (.k (.k (.cons rfl (BlkSub.of (by rw[cC hd,map_append];rfl)) .nil))))) ?_ (12,0);refine gW (Wk.rk (k:=36) (d:=900) rfl rfl) ?_;refine ga aH ?_;exact aG J1 (i+1) hin
 have hin:=a8 hi t16;subst hin;refine gW ((Wk.freeze (k:=900) rfl).trans<|Wk.of (sl:=[(2,some (.ptr 2 0)),(3,some (.ptr 3 0))]) (hp:=[(1000,some (ba ts)),(2,some (.box [nS])),(3,some (.box [.lst 1 (ts.map nA)]))]) aQ (.k (.k (.cons rfl (BlkSub.bL (.cons (Sub.of (by rw[bA (by simp)];simp)) .nil) rfl) .nil)))) ?_;refine gR ?_;exact aA.keep (bh rfl)
theorem mN{r:Nat}(tw:Tw ts r)(ps:List AV):Con prog 255 [.ptr 1000 0,.lst 2 ps] [(1000,some (ba ts))] (.tup [xO ts ps,.v .nilIface]) [(1000,some (ba ts))]:=by
 refine gF func255 (fun k z h=>bw h) ?_;refine gC (fun t10=>?_) (fun t10=>?_) (st1:=(2,0));cases t10;refine gt (aJ (Ug tw) (cJ rfl) aL rfl rfl) ?_;refine gR ?_;exact aA.keep (bh rfl)
end
theorem d6(ts:LL)(a:List Rat):(aI ts a).length=ts.length+1:=by simp[aI]
theorem Ic{ts:LL}{a:List Rat}{j:Nat}(h:j<ts.length):(aI ts a).getD j []=ts.getD j []:=by
 unfold aI;rw[getD_eq_getElem?_getD,getD_eq_getElem?_getD,getElem?_append_left h]
theorem Dj(ts:LL)(a:List Rat):(aI ts a).getD ts.length []=aS a (2^ts.length):=by
 unfold aI;rw[getD_eq_getElem?_getD,getElem?_append_right (le_refl _),Nat.sub_self];rfl
theorem zG{ts:LL}{a:List Rat}{j:Nat}(h:j<ts.length):aj (aI ts a) j=aj ts j:=by
 unfold aj;rw[Ic h]
theorem Fc{ts:LL}{a:List Rat}{j:Nat}(h:j<=ts.length)(x:T j):T.sgn (aj (aI ts a)) j x=T.sgn (aj ts) j x :=
 T.sgn_congr j (fun i hi=>zG oz) x
theorem RB.ext{r e:Nat}{ts:LL}{a:List Rat}(h:RB r ts)(ha:Cb e a):RB (r+e) (aI ts a):=by
 obtain⟨D,N,h0,h1,h2,h3⟩:=h;obtain⟨D',N',k1,k2,k3⟩:=ha.wide (n:=2^ts.length);have hN:N<=2^r:=h3;refine⟨D*D',max (N*D') (N'*D),Nat.mul_pos h0 k1.1,?_,?_,?_⟩
 ·intro d hd;rcases List.mem_append.1 hd with h9 |h9
  ·exact((h1 d h9).scale k1.1).mono (Nat.le_max_left _ _)
  ·rw[List.mem_singleton.1 h9,Nat.mul_comm D];exact(k1.scale h0).mono (Nat.le_max_right _ _)
 ·rw[pow_add];exact Nat.mul_le_mul h2 k2
 ·rw[pow_add];refine Nat.max_le.2 ⟨Nat.mul_le_mul h3 k2,?_⟩;rw[Nat.mul_comm (2^r)];exact Nat.mul_le_mul k3 h2
theorem zS{r e:Nat}{ts:LL}{a:List Rat}(tw:Tw ts r)(h2:ts.length<=2)(ha:Nm ts.length e a)(he:r+e<=5000000000)(hs:0<=T.sgn (aj ts) ts.length (ad ts.length a)):Tw (aI ts a) (r+e):=by
 refine⟨by rw[d6];omega,?_,?_,tw.rb.ext ha.cb,he⟩
 ·intro j hj;rw[d6]at hj;rcases lt_or_ge j ts.length with h |h
  ·rw[Ic h];exact tw.len j h
  ·have : j = ts.length := by omega
   subst this;rw[Dj];exact du ha.nl.le
 ·intro j hj;rw[d6]at hj;rw[Fc oz];rcases lt_or_ge j ts.length with h |h
  ·rw[zG h];exact tw.pos j h
  ·have : j = ts.length := by omega
   subst this
   have e1:aj (aI ts a) ts.length=ad ts.length a:=by
    show ad ts.length ((aI ts a).getD ts.length [])=_;rw[Dj,rP]
   rw[e1];exact hs
theorem fF{ts:LL}{a l:List Rat}{e:Nat}(h:Nm ts.length e l)(h4:ts.length<=4):Nm (aI ts a).length e l:=by
 rw[d6];exact⟨by omega,h.nl.mono oz,h.cb⟩
theorem Ul{ts:LL}{a l:List Rat}(h:Nl ts.length l):ak (dE (aI ts a) l)=ak (dE ts l):=by
 unfold ak dE;rw[d6];show T.sgn (aj (aI ts a)) (ts.length+1) (ad (ts.length+1) l)=_;rw[nU (aj (aI ts a)) h.le (Nat.le_succ _),Fc (le_refl _)]
theorem oL{ts:LL}{a:List Rat}(h4:ts.length<=4):Nm (aI ts a).length 1 (bX ts.length):=by
 rw[d6];refine⟨by omega,.inr ⟨_,le_refl _,uk _⟩,1,1,⟨by omega,?_⟩,by omega,by omega⟩;intro q hq;unfold bX at hq;rcases List.mem_or_eq_of_mem_set hq with h |h
 ·rw[(List.mem_replicate.1 h).2];exact⟨0,by rw[Rat.zero_mul];rfl,by simp⟩
 ·rw[h];exact⟨1,by rw[Rat.one_mul];rfl,by simp⟩
theorem OA{r e k:Nat}{ts:LL}{a:List Rat}(tw:Tw ts r)(h1:ts.length<=1)(ha:Nm ts.length e a)(he:r+e<=5000000000)(hs:0<=T.sgn (aj ts) ts.length (ad ts.length a)){u:Nat}(hu:3<=u)(hk:3*(r+e)+6<=k):Cy (aI ts a) u k :=
 ⟨⟨r+e,zS tw oz ha he hs,by
  rw[d6];have h:=gK (r+e) (show ts.length+1<=2 by omega);have h2:eB (r+e) 2=3*(r+e)+6:=by simp only[eB];omega
  omega⟩,by omega,hu,by rw[d6];omega⟩
structure Mt where
  ts:LL
  ps:List (List Rat×List Rat)
abbrev bM(p:List Rat×List Rat):AV:=ao p.1 p.2
abbrev Mt.av(m:Mt):AV:=xO m.ts (m.ps.map bM)
abbrev P2(ts:LL):Type:=Et ts×Et ts
abbrev P2.l{ts:LL}(p:P2 ts):List Rat×List Rat:=(sX p.1,sX p.2)
abbrev aN{ts:LL}(X:Et ts)(x:Et ts):Et (aI ts (sX X)):=dE (aI ts (sX X)) (sX x)
section
variable{ts:LL}
def eg(d:Et ts):Et ts:=qE ((2:Int):Rat)*d
def f0(p q:P2 ts):P2 ts:=(q.1-p.1,q.2-p.2)
def d9(p:P2 ts)(k:Et ts)(v:P2 ts):P2 ts:=(p.1+k*v.1,p.2+k*v.2)
def iy(p q:P2 ts)(z z2:Et ts):P2 ts:=d9 p ((z+au p q-z2)*iE (eg (au p q))) (f0 p q)
def ep(X d:Et ts):Et (aI ts (sX X)):=dE _ (bX ts.length)*iE (aN X (eg d))
def gV(X:Et ts)(f v:P2 ts)(c:Et (aI ts (sX X))):P2 (aI ts (sX X)):=d9 (aN X f.1,aN X f.2) c (qE ((-1:Int):Rat)*aN X v.2,aN X v.1)
def jU(p:P2 ts)(z z2:Et ts):Mt:=if ak (z-z2)≠0 then⟨ts,[]⟩else if 0<ak z then⟨[],[]⟩else⟨ts,[(d9 p 0 p).l]⟩
def dT(p q:P2 ts)(z z2:Et ts):Mt :=
  if ak (au p q)=0 then jU p z z2
  else if ak (cm p z q z2)<0 then⟨ts,[]⟩
  else if ak (cm p z q z2)=0 then⟨ts,[(iy p q z z2).l]⟩
  else⟨aI ts (sX (cm p z q z2)),[(gV (cm p z q z2) (iy p q z z2) (f0 p q) (ep (cm p z q z2) (au p q))).l,
    (gV (cm p z q z2) (iy p q z z2) (f0 p q) (qE ((-1:Int):Rat)*ep (cm p z q z2) (au p q))).l]⟩
def ke(z z2:Et ts):Nat:=if ak (z-z2)=0/\0<ak z then 15 else 0
def eA(p q:P2 ts)(z z2:Et ts):Nat:=if ak (au p q)=0 then ke z z2 else 0
theorem uS:Sub (.agg [nS,nS]) (xO [] []):=Sub.agg (.cons (.nil _ _ _) (.cons (.nil _ _ _) .nil)) rfl
end
theorem tu {ts : LL} {u k : Nat} [c : Cy ts u k] : Zl ts u k [] (0 : Et ts) 0 0 := ⟨by rw [iH]; exact E.zero_def.symm, by
 obtain⟨R,tw,_⟩:=c.ex;exact⟨tw.five,.inl rfl,Cb.nil.mono (zero_le _)⟩⟩
section
variable{ts:LL}{a b c a2 b2 c2:List Rat}{x y z x2 y2 z2:Et ts}
theorem Nk{r:Nat}(tw:Tw ts r)[c0:Cy ts 310000 65000][i1:Zl ts 310000 65000 a x 40 40][i2:Zl ts 310000 65000 b y 40 40][i3:Zl ts 310000 65000 c z 3 0][i6:Zl ts 310000 65000 c2 z2 3 0] :
  Con prog 254 [.ptr 1000 0,.agg [nA a,nA b,nA c],.agg [nA a2,nA b2,nA c2]] [(1000,some (ba ts))]
   (.tup [(jU (x,y) z z2).av,bn (ke z z2)]) [(1000,some (ba ts))]:=by
 haveI:=i1.zu;haveI:=i2.zu;haveI:=i3.zu;haveI:=i6.zu;have hm0:=Con.sA (.cons (.refl _) (.cons (Sub.nil 2 none 0) .nil)) (mN tw []);have m1:=kV (ts:=ts) (u:=310000) (k:=65000) (a:=c) (b:=c2) (by decide);have m2:=ra (ts:=ts) (u:=310000) (k:=65000) (a:=sX (z-z2)) (by decide);have m3:=ra (ts:=ts) (u:=310000) (k:=65000) (a:=c) (by decide);haveI zn:Zl ts 310000 65000 [] (0:Et ts) 0 0:=tu;have n1:=iU (ts:=ts) (u:=310000) (k:=65000) (a:=[]) (b:=a) (by decide);have n2:=iU (ts:=ts) (u:=310000) (k:=65000) (a:=[]) (b:=b) (by decide);have n3:=jG (ts:=ts) (u:=310000) (k:=65000) (a:=a) (b:=sX (0*x)) (by decide);have n4:=jG (ts:=ts) (u:=310000) (k:=65000) (a:=b) (b:=sX (0*y)) (by decide);have hal:=Con.sA (.cons (.refl _) (.cons (.refl _) (.cons (Sub.nil 3 none 0) (.cons (.refl _) .nil)))) (tx n1 n2 n3 n4);refine gF func254 (fun k z h=>bw h) ?_;refine gt (aY m1 (aK rfl rfl rfl) rfl rfl rfl) ?_;refine gt (aY m2 (bC rfl rfl) rfl rfl rfl) ?_;refine gC (fun t8=>?_) (fun t8=>?_)
 ·have h1:ak (z-z2)≠0:=sN t8;refine gt (aY hm0 (.cons (.tmp rfl) (.cons (.const _) .nil)) rfl rfl rfl) ?_;refine gR ?_;exact(aA.keep (bh rfl)).sub (Sub.of (by unfold jU ke;rw[if_pos h1,if_neg (fun h=>h1 h.1)];rfl))
 have h1:ak (z-z2)=0:=xC t8;refine gt (aY m3 (bC rfl rfl) rfl rfl rfl) ?_;refine gC (fun t22=>?_) (fun t22=>?_)
 ·have h2:0<ak z:=of_decide_eq_true t22;refine gR ?_;exact(aA.keep (bh rfl)).sub (by unfold jU ke;rw[if_neg oz,if_pos h2,if_pos ⟨h1,h2⟩];exact Sub.tup (.cons uS (.cons (.refl _) .nil)))
 have h2:¬0<ak z:=of_decide_eq_false t22;refine gt (aY hal (.cons (.tmp rfl) (.cons (.tmp rfl) (.cons (.const _) (cJ rfl)))) rfl rfl rfl) ?_;refine gt (aY (mN tw [ao (sX (x+0*x)) (sX (y+0*y))]) (bC rfl rfl) rfl rfl rfl) ?_;refine gR ?_;exact(aA.keep (bh rfl)).sub (Sub.of (by unfold jU ke;rw[if_neg oz,if_neg h2,if_neg (fun h=>h2 h.2)];rfl))
end
section
variable{rs:List (List Rt)}{r:Nat}{a b c a2 b2 c2:List Rat}{x y z x2 y2 z2:Et (llq rs)}
structure CirP(ts:LL)(p q:P2 ts)(z z2:Et ts):Prop where
  zd:Zu 310000 65000 (au p q) 320 327
  zX:Zu 310000 65000 (cm p z q z2) 976 989
  zt:Zu 310000 65000 (eg (au p q)) 321 328
  z1:Zu 310000 65000 (f0 p q).1 80 81
  z2:Zu 310000 65000 (f0 p q).2 80 81
theorem Bo{ts:LL}{x y z x2 y2 z2:Et ts}(c:Ct ts 310000 65000)(h1:Zu 310000 65000 x 40 40)(h2:Zu 310000 65000 y 40 40)(h3:Zu 310000 65000 z 3 0)(h4:Zu 310000 65000 x2 40 40)(h5:Zu 310000 65000 y2 40 40)(h6:Zu 310000 65000 z2 3 0) :
  CirP ts (x,y) (x2,y2) z z2:=by
 haveI:=c;haveI:=h1;haveI:=h2;haveI:=h3;haveI:=h4;haveI:=h5;haveI:=h6
 haveI zd:=xn c h1 h2 h4 h5;haveI q4:Qz 310000 ((4:Int):Rat) 1:=Qz.int (c:=Ct.cx (c:=c)) (by decide);haveI q2:Qz 310000 ((2:Int):Rat) 1:=Qz.int (c:=Ct.cx (c:=c)) (by decide)
 exact⟨zd,(inferInstance:Zu 310000 65000 (qE ((4:Int):Rat)*(z*au (x,y) (x2,y2))-(z+au (x,y) (x2,y2)-z2)*(z+au (x,y) (x2,y2)-z2)) _ _),
  (inferInstance:Zu 310000 65000 (qE ((2:Int):Rat)*au (x,y) (x2,y2)) _ _),(inferInstance:Zu 310000 65000 (x2-x) _ _),(inferInstance:Zu 310000 65000 (y2-y) _ _)⟩
theorem CD{ts:LL}{x y z x2 y2 z2:Et ts}[c0:Cy ts 310000 65000](hn:ts.length<=1)(h1:Zu 310000 65000 x 40 40)(h2:Zu 310000 65000 y 40 40)(h3:Zu 310000 65000 z 3 0)(h6:Zu 310000 65000 z2 3 0)(P:CirP ts (x,y) (x2,y2) z z2)
  (h0:ak (eg (au (x,y) (x2,y2)))≠0) :
  FP 271 [an ts,nA (sX (z+au (x,y) (x2,y2)-z2)),nA (sX (eg (au (x,y) (x2,y2))))] (.tup [nA (sX ((z+au (x,y) (x2,y2)-z2)*iE (eg (au (x,y) (x2,y2))))),.v .nilIface]) /\
  Zu 310000 65000 ((z+au (x,y) (x2,y2)-z2)*iE (eg (au (x,y) (x2,y2)))) 1931 1972/\Zu 310000 65000 (iy (x,y) (x2,y2) z z2).1 2051 2095/\Zu 310000 65000 (iy (x,y) (x2,y2) z z2).2 2051 2095:=by
 haveI:=h1;haveI:=h2;haveI:=h3;haveI:=h6;haveI:=P.zd;haveI:=P.zt
 have hd:=oK (ts:=ts) (u:=310000) (k:=65000) (a:=sX (z+au (x,y) (x2,y2)-z2)) (b:=sX (eg (au (x,y) (x2,y2)))) (j:=ts.length) P.zt.nm.nl (le_refl _) hn h0 (by decide);haveI zk:=hd.2;haveI:=P.z1;haveI:=P.z2
 exact⟨hd.1,zk,(inferInstance:Zu 310000 65000 (x+((z+au (x,y) (x2,y2)-z2)*iE (eg (au (x,y) (x2,y2))))*(f0 (x,y) (x2,y2)).1) _ _),
  (inferInstance:Zu 310000 65000 (y+((z+au (x,y) (x2,y2)-z2)*iE (eg (au (x,y) (x2,y2))))*(f0 (x,y) (x2,y2)).2) _ _)⟩
structure ExtP{ts:LL}(X:Et ts):Prop where
  tw:Tw (aI ts (sX X)) 366909990
  cy:Cy (aI ts (sX X)) 773000000 1101400000
theorem nQ{ts:LL}{X:Et ts}(tw:Tw ts 64990)(hn:ts.length<=1)(hx:Zu 310000 65000 X 976 989)(hs:0<=ak X):ExtP X:=by
 have h9:0<=T.sgn (aj ts) ts.length (ad ts.length (sX X)):=by rw[show ad ts.length (sX X)=X from bp _ _];exact hs
 have hm:=hx.nm;exact⟨zS tw oz hm (by decide) h9,OA tw hn hm (by decide) h9 oz (by decide)⟩
theorem gG{ts:LL}{X x:Et ts}{w v:Nat}(hn:ts.length<=1)(h:Zu 310000 65000 x w v)(hs:w*310000+v*65000<=773000000):Zl (aI ts (sX X)) 773000000 1101400000 (sX x) (aN X x) 1 0:=Zl.at (fF h.nm oz) hs
theorem sV{ts:LL}{X x:Et ts}:ak (aN X x)=ak x:=by
 show ak (dE (aI ts (sX X)) (sX x))=_;rw[Ul (l:=sX x) (ek _ _)];show ak (dE ts (sX x))=_;rw[show dE ts (sX x)=x from bp _ _]
theorem vQ{ts:LL}{r:Nat}(tw:Tw ts r)(d:Et ts):ak (eg d)=ak d:=by
 have h:=mS (aj ts) ts.length tw.pos
 have h2:sg (aj ts) ts.length (qE ((2:Int):Rat):Et ts)=1:=by
  show T.sgn (aj ts) ts.length (T.ofQ ts.length ((2:Int):Rat))=1;rw[T.sgn_ofQ];rfl
 have h3:=h.mul (qE ((2:Int):Rat)) d;rw[h2,Int.one_mul]at h3;exact h3
structure SideP{ts:LL}(X d:Et ts)(f v:P2 ts):Prop where
  hd:FP 271 [an (aI ts (sX X)),nA (bX ts.length),nA (sX (eg d))] (.tup [nA (sX (ep X d)),.v .nilIface])
  ht:Con prog 257 [.ptr 1000 0,i64 (-1),nA (sX v.2)] [(1000,some (ba (aI ts (sX X))))] (nA (sX (qE ((-1:Int):Rat)*aN X v.2))) [(1000,some (ba (aI ts (sX X))))]
  hu:Con prog 257 [.ptr 1000 0,i64 (-1),nA (sX (ep X d))] [(1000,some (ba (aI ts (sX X))))] (nA (sX (qE ((-1:Int):Rat)*ep X d))) [(1000,some (ba (aI ts (sX X))))]
  a1:Con prog 258 [.ptr 1000 0,ao (sX f.1) (sX f.2),nA (sX (ep X d)),ao (sX (qE ((-1:Int):Rat)*aN X v.2)) (sX v.1)] [(1000,some (ba (aI ts (sX X))))] (bM (gV X f v (ep X d)).l) [(1000,some (ba (aI ts (sX X))))]
  a2:Con prog 258 [.ptr 1000 0,ao (sX f.1) (sX f.2),nA (sX (qE ((-1:Int):Rat)*ep X d)),ao (sX (qE ((-1:Int):Rat)*aN X v.2)) (sX v.1)] [(1000,some (ba (aI ts (sX X))))] (bM (gV X f v (qE ((-1:Int):Rat)*ep X d)).l) [(1000,some (ba (aI ts (sX X))))]
  n1:Zu 773000000 1101400000 (gV X f v (ep X d)).1 9 6/\Zu 773000000 1101400000 (gV X f v (ep X d)).2 9 6
  n2:Zu 773000000 1101400000 (gV X f v (qE ((-1:Int):Rat)*ep X d)).1 10 7/\Zu 773000000 1101400000 (gV X f v (qE ((-1:Int):Rat)*ep X d)).2 10 7
theorem GQ{ts:LL}{X d:Et ts}{f v:P2 ts}(hn:ts.length<=1)(E:ExtP X)(hd:Zu 310000 65000 (eg d) 321 328)(h0:ak (eg d)≠0)(f1:Zu 310000 65000 f.1 2051 2095)(f2:Zu 310000 65000 f.2 2051 2095)
  (v1:Zu 310000 65000 v.1 80 81) (v2:Zu 310000 65000 v.2 80 81):SideP X d f v:=by
 haveI cy:=E.cy;haveI zr:Zl (aI ts (sX X)) 773000000 1101400000 (bX ts.length) (dE _ (bX ts.length)) 1 0:=Zl.at (oL oz) (by decide);haveI zd:=gG (X:=X) hn hd (by decide);haveI zf1:=gG (X:=X) hn f1 (by decide);haveI zf2:=gG (X:=X) hn f2 (by decide);haveI zv1:=gG (X:=X) hn v1 (by decide);haveI zv2:=gG (X:=X) hn v2 (by decide);haveI:=zf1.zu;haveI:=zf2.zu;haveI:=zv1.zu;haveI:=zv2.zu
 have hdiv:=oK (ts:=aI ts (sX X)) (u:=773000000) (k:=1101400000) (a:=bX ts.length) (b:=sX (eg d)) (j:=ts.length) hd.nm.nl (by rw[d6];omega) hn (by rw[sV];exact h0) (by decide);haveI zs:Zu 773000000 1101400000 (ep X d) 6 3:=hdiv.2;haveI qm:Qz 773000000 ((-1:Int):Rat) 1:=Qz.int (c:=Cy.cx (c:=cy)) (by decide);haveI zm:Zu 773000000 1101400000 (qE ((-1:Int):Rat)*aN X v.2) 2 1:=inferInstance;haveI zu:Zu 773000000 1101400000 (qE ((-1:Int):Rat)*ep X d) 7 4:=inferInstance;have ht:=BM (ts:=aI ts (sX X)) (u:=773000000) (k:=1101400000) (a:=sX v.2) (-1) oz (by decide);have hu:=BM (ts:=aI ts (sX X)) (u:=773000000) (k:=1101400000) (a:=sX (ep X d)) (-1) oz (by decide)
 have al:∀{c:Et (aI ts (sX X))}{w k:Nat}(zc:Zu 773000000 1101400000 c w k),w<=7->k<=4 ->
   Con prog 258 [.ptr 1000 0,ao (sX f.1) (sX f.2),nA (sX c),ao (sX (qE ((-1:Int):Rat)*aN X v.2)) (sX v.1)] [(1000,some (ba (aI ts (sX X))))] (bM (gV X f v c).l) [(1000,some (ba (aI ts (sX X))))]:=by
  intro c w k zc hw hk;haveI:=zc;have m1:=iU (ts:=aI ts (sX X)) (u:=773000000) (k:=1101400000) (a:=sX c) (b:=sX (qE ((-1:Int):Rat)*aN X v.2)) oz;have m2:=iU (ts:=aI ts (sX X)) (u:=773000000) (k:=1101400000) (a:=sX c) (b:=sX v.1) oz;have m3:=jG (ts:=aI ts (sX X)) (u:=773000000) (k:=1101400000) (a:=sX f.1) (b:=sX (c*(qE ((-1:Int):Rat)*aN X v.2))) oz;have m4:=jG (ts:=aI ts (sX X)) (u:=773000000) (k:=1101400000) (a:=sX f.2) (b:=sX (c*aN X v.1)) oz;exact tx m1 m2 m3 m4
 exact⟨hdiv.1,ht,hu,al zs oz oz,al zu oz oz,
  ⟨(inferInstance:Zu 773000000 1101400000 (aN X f.1+ep X d*(qE ((-1:Int):Rat)*aN X v.2)) 9 6),⟨(inferInstance:Zu 773000000 1101400000 (aN X f.2+ep X d*aN X v.1) _ _).nm.mono (by decide)⟩⟩,
  ⟨(inferInstance:Zu 773000000 1101400000 (aN X f.1+qE ((-1:Int):Rat)*ep X d*(qE ((-1:Int):Rat)*aN X v.2)) 10 7),⟨(inferInstance:Zu 773000000 1101400000 (aN X f.2+qE ((-1:Int):Rat)*ep X d*aN X v.1) _ _).nm.mono (by decide)⟩⟩⟩
theorem TD(h:TR rs 64990)(hc:be rs=0)(hn:(llq rs).length<=1)[c0:Ct (llq rs) 310000 65000][i1:Zl (llq rs) 310000 65000 a x 40 40][i2:Zl (llq rs) 310000 65000 b y 40 40][i3:Zl (llq rs) 310000 65000 c z 3 0][i4:Zl (llq rs) 310000 65000 a2 x2 40 40][i5:Zl (llq rs) 310000 65000 b2 y2 40 40][i6:Zl (llq rs) 310000 65000 c2 z2 3 0]
  (ha:a=sX x) (hb:b=sX y) (s1:0<=ak z) (s2:0<=ak z2):FP 147 [b8 rs,.agg [nA a,nA b,nA c],.agg [nA a2,nA b2,nA c2]] (.tup [(dT (x,y) (x2,y2) z z2).av,bn (eA (x,y) (x2,y2) z z2)]):=by
 have hz:∀q∈[(a,b,c),(a2,b2,c2)],CiZ rs q:=fun q hq=>by
  simp only[mem_cons,not_mem_nil,or_false]at hq;rcases hq with rfl |rfl
  ·exact⟨i1.nm.mono oz,i2.nm.mono oz,i3.nm.mono oz,by show 0<=ak (dE (llq rs) c);rw[show dE (llq rs) c=z from i3.eq];exact s1⟩
  ·exact⟨i4.nm.mono oz,i5.nm.mono oz,i6.nm.mono oz,by show 0<=ak (dE (llq rs) c2);rw[show dE (llq rs) c2=z2 from i6.eq];exact s2⟩
 have hck:=Se h hc [(a,b,c),(a2,b2,c2)] hz (by show 2<=100;omega);obtain⟨tw,etw⟩:=bO h hc;haveI cy:Cy (llq rs) 310000 65000:=⟨c0.ex,by omega,by omega,by omega⟩
 have P:=Bo c0 i1.zu i2.zu i3.zu i4.zu i5.zu i6.zu;haveI:=P.zd;haveI:=P.zX;haveI:=i3.zu;haveI:=i6.zu;have m1:=ra (ts:=llq rs) (u:=310000) (k:=65000) (a:=sX (au (x,y) (x2,y2))) (by decide);have m2:=ra (ts:=llq rs) (u:=310000) (k:=65000) (a:=sX (cm (x,y) z (x2,y2) z2)) (by decide);have m0:=Con.sA (.cons (.refl _) (.cons (Sub.nil 2 none 0) .nil)) (mN tw []);have w1:=kV (ts:=llq rs) (u:=310000) (k:=65000) (a:=a2) (b:=a) (by decide);have w2:=kV (ts:=llq rs) (u:=310000) (k:=65000) (a:=b2) (b:=b) (by decide);haveI q2:Qz 310000 ((2:Int):Rat) 1:=Qz.int (c:=Cy.cx (c:=cy)) (by decide);have t2:=BM (ts:=llq rs) (u:=310000) (k:=65000) (a:=sX (au (x,y) (x2,y2))) 2 oz (by decide);have k1:=jG (ts:=llq rs) (u:=310000) (k:=65000) (a:=c) (b:=sX (au (x,y) (x2,y2))) (by decide);have k2:=kV (ts:=llq rs) (u:=310000) (k:=65000) (a:=sX (z+au (x,y) (x2,y2))) (b:=c2) (by decide);subst ha;subst hb;refine af func147 ?_;refine gc hck ?_;refine gC (fun t24=>?_) (fun t24=>?_) (st1:=(3,0)) (st2:=(5,0));cases t24;refine gW (Wk.o (sl:=[(4,some (.ptr 4 0)),(5,some (.ptr 5 0)),(6,some (.ptr 6 0)),(9,some (.ptr 29 0))]) (hp:=[(4,some (.box [nA (sX x),nA (sX y),nA c])),(5,some (.box [nA a2,nA b2,nA c2])),(6,some (.box [nS,nS])),(29,some (dO rs))])) ?_;refine gt (aJ (Con.rB 29 rfl rfl rfl rfl (Nq h hc)) (aK rfl rfl rfl) aL rfl rfl) ?_ (6,0);refine gW (Wk.of (sl:=[(4,some (.ptr 4 0)),(5,some (.ptr 5 0)),(6,some (.ptr 6 0)),(9,some (.ptr 29 0)),(10,some (nA (sX (cm (x,y) z (x2,y2) z2)))),(11,some (nA (sX (au (x,y) (x2,y2)))))]) (hp:=[(4,some (.box [nA (sX x),nA (sX y),nA c])),(5,some (.box [nA a2,nA b2,nA c2])),(6,some (.box [nS,nS])),(29,some (ba (llq rs)))]) aQ (.k (.k (.k (.cons rfl (BlkSub.bL (.cons (.of (ia etw)) (.cons (.refl _) .nil)) rfl) .nil))))) ?_
 refine gt (aY (Con.rB 29 rfl rfl rfl rfl m1) (bC rfl rfl) rfl rfl rfl) ?_;refine gC (fun t40=>?_) (fun t40=>?_)
 ·have hd0:ak (au (x,y) (x2,y2))=0:=bU t40;refine gt (aY (Con.rB 29 rfl rfl rfl rfl (Nk (a:=sX x) (b:=sX y) (c:=c) (a2:=a2) (b2:=b2) (c2:=c2) tw)) (aK rfl rfl rfl) rfl rfl rfl) ?_;refine a9 ?_;unfold dT eA;rw[if_pos hd0,if_pos hd0]
 have hd0:¬ak (au (x,y) (x2,y2))=0:=cq t40;refine gt (aY (Con.rB 29 rfl rfl rfl rfl m2) (bC rfl rfl) rfl rfl rfl) ?_;refine gC (fun t51=>?_) (fun t51=>?_)
 ·have hx0:ak (cm (x,y) z (x2,y2) z2)<0:=of_decide_eq_true t51;refine gt (aY (Con.rB 29 rfl rfl rfl rfl m0) (.cons (.tmp rfl) (.cons (.const _) .nil)) rfl rfl rfl) ?_;refine a9 ?_;unfold dT eA;rw[if_neg hd0,if_neg hd0,if_pos hx0];rfl
 have hx0:¬ak (cm (x,y) z (x2,y2) z2)<0:=of_decide_eq_false t51;have ht0:ak (eg (au (x,y) (x2,y2)))≠0:=by rw[vQ tw];exact hd0
 obtain⟨fd,fk,f1,f2⟩:=CD hn i1.zu i2.zu i3.zu i6.zu P ht0;haveI:=fk;haveI:=P.z1;haveI:=P.z2;have g1:=iU (ts:=llq rs) (u:=310000) (k:=65000) (a:=sX ((z+au (x,y) (x2,y2)-z2)*iE (eg (au (x,y) (x2,y2))))) (b:=sX (f0 (x,y) (x2,y2)).1) (by decide);have g2:=iU (ts:=llq rs) (u:=310000) (k:=65000) (a:=sX ((z+au (x,y) (x2,y2)-z2)*iE (eg (au (x,y) (x2,y2))))) (b:=sX (f0 (x,y) (x2,y2)).2) (by decide);have g3:=jG (ts:=llq rs) (u:=310000) (k:=65000) (a:=sX x) (b:=sX ((z+au (x,y) (x2,y2)-z2)*iE (eg (au (x,y) (x2,y2)))*(f0 (x,y) (x2,y2)).1)) (by decide);have g4:=jG (ts:=llq rs) (u:=310000) (k:=65000) (a:=sX y) (b:=sX ((z+au (x,y) (x2,y2)-z2)*iE (eg (au (x,y) (x2,y2)))*(f0 (x,y) (x2,y2)).2)) (by decide);have gal:=tx g1 g2 g3 g4;refine gt (aY (Con.rB 29 rfl rfl rfl rfl w1) (aK rfl rfl rfl) rfl rfl rfl) ?_;refine gt (aY (Con.rB 29 rfl rfl rfl rfl w2) (aK rfl rfl rfl) rfl rfl rfl) ?_;refine gD ?_;refine gt (aY (Con.rB 29 rfl rfl rfl rfl t2) (.cons (.tmp rfl) (.cons (.const _) (cJ rfl))) rfl rfl rfl) ?_;refine gt (aY (Con.rB 29 rfl rfl rfl rfl k1) (aK rfl rfl rfl) rfl rfl rfl) ?_;refine gt (aY (Con.rB 29 rfl rfl rfl rfl k2) (aK rfl rfl rfl) rfl rfl rfl) ?_;refine gt (aY (Con.rB 29 rfl rfl rfl rfl (se fd)) (aK rfl rfl rfl) rfl rfl rfl) ?_;refine gt (aY (Con.rB 29 rfl rfl rfl rfl gal) (.cons (.tmp rfl) (aK rfl rfl rfl)) rfl rfl rfl) ?_;refine gD ?_;refine gC (fun t94=>?_) (fun t94=>?_)
 ·have hx1:ak (cm (x,y) z (x2,y2) z2)=0:=bU t94;refine gt (aY (Con.rB 29 rfl rfl rfl rfl (mN tw [bM (iy (x,y) (x2,y2) z z2).l])) (bC rfl rfl) rfl rfl rfl) ?_;refine a9 ?_;unfold dT eA;rw[if_neg hd0,if_neg hd0,if_neg hx0,if_pos hx1];rfl
 have hx1:¬ak (cm (x,y) z (x2,y2) z2)=0:=cq t94;have E:ExtP (cm (x,y) z (x2,y2) z2):=nQ tw hn P.zX oz;have S:=GQ (X:=cm (x,y) z (x2,y2) z2) (d:=au (x,y) (x2,y2)) (f:=iy (x,y) (x2,y2) z z2) (v:=f0 (x,y) (x2,y2)) hn E P.zt ht0 f1 f2 P.z1 P.z2;have hex:=CQ (a:=sX (cm (x,y) z (x2,y2) z2)) tw P.zX.nm (by rw[cy.lm];decide) (by rw[show ad (llq rs).length (sX (cm (x,y) z (x2,y2) z2))=cm (x,y) z (x2,y2) z2 from bp _ _];show 0<=ak (cm (x,y) z (x2,y2) z2);omega);refine gt (aJ (Con.rB 29 rfl rfl rfl rfl hex) (bC rfl rfl) aL rfl rfl) ?_;refine gt (aY (Con.rB 29 rfl rfl rfl rfl (se S.hd)) (aK rfl rfl rfl) rfl rfl rfl) ?_;refine gt (aY (Con.rB 29 rfl rfl rfl rfl S.ht) (.cons (.tmp rfl) (.cons (.const _) (cJ rfl))) rfl rfl rfl) ?_;refine gD ?_;refine gt (aY (Con.rB 29 rfl rfl rfl rfl S.a1) (.cons (.tmp rfl) (aK rfl rfl rfl)) rfl rfl rfl) ?_;refine gt (aY (Con.rB 29 rfl rfl rfl rfl S.hu) (.cons (.tmp rfl) (.cons (.const _) (cJ rfl))) rfl rfl rfl) ?_;refine gt (aY (Con.rB 29 rfl rfl rfl rfl S.a2) (.cons (.tmp rfl) (aK rfl rfl rfl)) rfl rfl rfl) ?_;refine gt (aY (Con.rB 29 rfl rfl rfl rfl (mN E.tw [bM (gV (cm (x,y) z (x2,y2) z2) (iy (x,y) (x2,y2) z z2) (f0 (x,y) (x2,y2)) (ep (cm (x,y) z (x2,y2) z2) (au (x,y) (x2,y2)))).l,bM (gV (cm (x,y) z (x2,y2) z2) (iy (x,y) (x2,y2) z z2) (f0 (x,y) (x2,y2)) (qE ((-1:Int):Rat)*ep (cm (x,y) z (x2,y2) z2) (au (x,y) (x2,y2)))).l])) (bC rfl rfl) rfl rfl rfl) ?_;refine gD ?_;refine a9 ?_;unfold dT eA;rw[if_neg hd0,if_neg hd0,if_neg hx0,if_neg hx1];rfl
end
section
variable{ts:LL}
abbrev bu(p q:P2 ts):Et ts:=gM (aW q p) (aW q p)
abbrev cc(p q c:P2 ts):Et ts:=gM (aW q p) (aW c p)
abbrev jr(p q c:P2 ts):Et ts:=kT (aW q p) (aW c p)
abbrev bc(p q c:P2 ts)(z:Et ts):Et ts:=bu p q*z-jr p q c*jr p q c
def ff(X:Et ts)(S:Et ts)(k:Et (aI ts (sX X))):Et (aI ts (sX X)):=k*iE (aN X S)
def kv(X:Et ts)(p v:P2 ts)(k:Et (aI ts (sX X))):P2 (aI ts (sX X)):=d9 (aN X p.1,aN X p.2) k (aN X v.1,aN X v.2)
abbrev bN(X:Et ts):Et (aI ts (sX X)):=dE _ (bX ts.length)
def eI(p q c:P2 ts)(z:Et ts):Mt :=
  if ak (bu p q)=0 then⟨[],[]⟩else if ak (bc p q c z)=-1 then⟨ts,[]⟩else if ak (bc p q c z)=0 then⟨ts,[(d9 p (cc p q c*iE (bu p q)) (aW q p)).l]⟩
  else⟨aI ts (sX (bc p q c z)),[(kv (bc p q c z) p (aW q p) (ff (bc p q c z) (bu p q) (aN (bc p q c z) (cc p q c)+bN (bc p q c z)))).l,
    (kv (bc p q c z) p (aW q p) (ff (bc p q c z) (bu p q) (aN (bc p q c z) (cc p q c)-bN (bc p q c z)))).l]⟩
def fy(p q:P2 ts):Nat:=if ak (bu p q)=0 then 8 else 0
structure LinP(p q c:P2 ts)(z:Et ts):Prop where
  v1:Zu 310000 65000 (aW q p).1 80 81
  v2:Zu 310000 65000 (aW q p).2 80 81
  w1:Zu 310000 65000 (aW c p).1 80 81
  w2:Zu 310000 65000 (aW c p).2 80 81
  zs:Zu 310000 65000 (bu p q) 320 327
  ze:Zu 310000 65000 (cc p q c) 320 327
  zc:Zu 310000 65000 (jr p q c) 320 327
  zX:Zu 310000 65000 (bc p q c z) 963 984
theorem yX{p q c:P2 ts}{z:Et ts}(c0:Cy ts 310000 65000)(h1:Zu 310000 65000 p.1 40 40)(h2:Zu 310000 65000 p.2 40 40)(h3:Zu 310000 65000 q.1 40 40)(h4:Zu 310000 65000 q.2 40 40)(h5:Zu 310000 65000 c.1 40 40)(h6:Zu 310000 65000 c.2 40 40)(h7:Zu 310000 65000 z 3 0):LinP p q c z:=by
 haveI:=c0;haveI:=h1;haveI:=h2;haveI:=h3;haveI:=h4;haveI:=h5;haveI:=h6;haveI:=h7
 haveI v1:=(inferInstance:Zu 310000 65000 (q.1-p.1) 80 81)
 haveI v2:=(inferInstance:Zu 310000 65000 (q.2-p.2) 80 81)
 haveI w1:=(inferInstance:Zu 310000 65000 (c.1-p.1) 80 81)
 haveI w2:=(inferInstance:Zu 310000 65000 (c.2-p.2) 80 81)
 haveI zs:Zu 310000 65000 (bu p q) 320 327:=(inferInstance:Zu 310000 65000 ((q.1-p.1)*(q.1-p.1)+(q.2-p.2)*(q.2-p.2)) _ _)
 haveI ze:Zu 310000 65000 (cc p q c) 320 327:=(inferInstance:Zu 310000 65000 ((q.1-p.1)*(c.1-p.1)+(q.2-p.2)*(c.2-p.2)) _ _)
 haveI zc:Zu 310000 65000 (jr p q c) 320 327:=(inferInstance:Zu 310000 65000 ((q.1-p.1)*(c.2-p.2)-(q.2-p.2)*(c.1-p.1)) _ _)
 exact⟨v1,v2,w1,w2,zs,ze,zc,inferInstance⟩
structure LinQ(p q c:P2 ts):Prop where
  hd:FP 271 [an ts,nA (sX (cc p q c)),nA (sX (bu p q))] (.tup [nA (sX (cc p q c*iE (bu p q))),.v .nilIface])
  al:Con prog 258 [.ptr 1000 0,ao (sX p.1) (sX p.2),nA (sX (cc p q c*iE (bu p q))),ao (sX (aW q p).1) (sX (aW q p).2)] [(1000,some (ba ts))] (bM (d9 p (cc p q c*iE (bu p q)) (aW q p)).l) [(1000,some (ba ts))]
  n1:Zu 310000 65000 (d9 p (cc p q c*iE (bu p q)) (aW q p)).1 2040 2088
  n2:Zu 310000 65000 (d9 p (cc p q c*iE (bu p q)) (aW q p)).2 2040 2088
theorem It{p q c:P2 ts}{z:Et ts}(c0:Cy ts 310000 65000)(hn:ts.length<=1)(h1:Zu 310000 65000 p.1 40 40)(h2:Zu 310000 65000 p.2 40 40)(P:LinP p q c z)(h0:ak (bu p q)≠0):LinQ p q c:=by
 haveI:=c0;haveI:=h1;haveI:=h2;haveI:=P.v1;haveI:=P.v2;haveI:=P.zs;haveI:=P.ze
 have hd:=oK (ts:=ts) (u:=310000) (k:=65000) (a:=sX (cc p q c)) (b:=sX (bu p q)) (j:=ts.length) P.zs.nm.nl (le_refl _) hn h0 (by decide);haveI:=hd.2;have m1:=iU (ts:=ts) (u:=310000) (k:=65000) (a:=sX (cc p q c*iE (bu p q))) (b:=sX (aW q p).1) (by decide);have m2:=iU (ts:=ts) (u:=310000) (k:=65000) (a:=sX (cc p q c*iE (bu p q))) (b:=sX (aW q p).2) (by decide);have m3:=jG (ts:=ts) (u:=310000) (k:=65000) (a:=sX p.1) (b:=sX (cc p q c*iE (bu p q)*(aW q p).1)) (by decide);have m4:=jG (ts:=ts) (u:=310000) (k:=65000) (a:=sX p.2) (b:=sX (cc p q c*iE (bu p q)*(aW q p).2)) (by decide);exact⟨hd.1,tx m1 m2 m3 m4,(inferInstance:Zu 310000 65000 (p.1+cc p q c*iE (bu p q)*(aW q p).1) _ _),(inferInstance:Zu 310000 65000 (p.2+cc p q c*iE (bu p q)*(aW q p).2) _ _)⟩
structure LinS(X:Et ts)(S:Et ts)(p v:P2 ts)(k:Et (aI ts (sX X))):Prop where
  hd:FP 271 [an (aI ts (sX X)),nA (sX k),nA (sX S)] (.tup [nA (sX (ff X S k)),.v .nilIface])
  al:Con prog 258 [.ptr 1000 0,ao (sX p.1) (sX p.2),nA (sX (ff X S k)),ao (sX v.1) (sX v.2)] [(1000,some (ba (aI ts (sX X))))] (bM (kv X p v (ff X S k)).l) [(1000,some (ba (aI ts (sX X))))]
  n1:Zu 773000000 1101400000 (kv X p v (ff X S k)).1 9 6
  n2:Zu 773000000 1101400000 (kv X p v (ff X S k)).2 9 6
theorem wO{X S:Et ts}{p v:P2 ts}{k:Et (aI ts (sX X))}(hn:ts.length<=1)(E:ExtP X)(hs:Zu 310000 65000 S 320 327)(h0:ak S≠0)(p1:Zu 310000 65000 p.1 40 40)(p2:Zu 310000 65000 p.2 40 40)(v1:Zu 310000 65000 v.1 80 81)(v2:Zu 310000 65000 v.2 80 81)
  (hk:Zu 773000000 1101400000 k 2 1):LinS X S p v k:=by
 haveI cy:=E.cy;haveI:=hk;haveI zs:=gG (X:=X) hn hs (by decide);haveI zp1:=gG (X:=X) hn p1 (by decide);haveI zp2:=gG (X:=X) hn p2 (by decide);haveI zv1:=gG (X:=X) hn v1 (by decide);haveI zv2:=gG (X:=X) hn v2 (by decide);haveI:=zp1.zu;haveI:=zp2.zu;haveI:=zv1.zu;haveI:=zv2.zu
 have hdiv:=oK (ts:=aI ts (sX X)) (u:=773000000) (k:=1101400000) (a:=sX k) (b:=sX S) (j:=ts.length) hs.nm.nl (by rw[d6];omega) hn (by rw[sV];exact h0) (by decide);haveI zk:Zu 773000000 1101400000 (ff X S k) 7 4:=hdiv.2;have m1:=iU (ts:=aI ts (sX X)) (u:=773000000) (k:=1101400000) (a:=sX (ff X S k)) (b:=sX v.1) (by decide);have m2:=iU (ts:=aI ts (sX X)) (u:=773000000) (k:=1101400000) (a:=sX (ff X S k)) (b:=sX v.2) (by decide);have m3:=jG (ts:=aI ts (sX X)) (u:=773000000) (k:=1101400000) (a:=sX p.1) (b:=sX (ff X S k*aN X v.1)) (by decide);have m4:=jG (ts:=aI ts (sX X)) (u:=773000000) (k:=1101400000) (a:=sX p.2) (b:=sX (ff X S k*aN X v.2)) (by decide);exact⟨hdiv.1,tx m1 m2 m3 m4,(inferInstance:Zu 773000000 1101400000 (aN X p.1+ff X S k*aN X v.1) 9 6),(inferInstance:Zu 773000000 1101400000 (aN X p.2+ff X S k*aN X v.2) 9 6)⟩
theorem zN{X:Et ts}{w v w' v' u k:Nat}(h:Zu u k X w v)(hw:w<=w')(hv:v<=v'):Zu u k X w' v':=⟨h.nm.mono (x9 hw hv)⟩
theorem NK{x:Int}(h:cond (cond (fe Value.nilIface) (aa .eql x 0) false) (fe Value.nilIface) false=true):x=0:=by
 cases h9:aa .eql x 0
 ·rw[h9]at h;cases h
 ·exact bU h9
theorem SV{x:Int}(h:cond (cond (fe Value.nilIface) (aa .eql x 0) false) (fe Value.nilIface) false=false):x≠0:=by
 cases h9:aa .eql x 0
 ·exact cq h9
 ·rw[h9]at h;cases h
theorem KK{x y:AV}{i:Nat}{Q:AV->Prop}(hi:i<2)(hx:Q x)(hy:Q y):∃z,[x,y][i]?=some z/\Q z:=by
 have h:i=0\/i=1:=by omega
 rcases h with rfl |rfl
 ·exact⟨x,rfl,hx⟩
 ·exact⟨y,rfl,hy⟩
theorem CI{r e:Nat}{a b c d:Et ts}(tw:Tw ts r)(hl:lm ts.length=200000000000)(h1:Nm ts.length e (sX a))(h2:Nm ts.length e (sX b))(h3:Nm ts.length e (sX c))(h4:Nm ts.length e (sX d))(he:e+e+kB r ts.length<=100000000000) :
  FP 77 [an ts,ao (sX a) (sX b),ao (sX c) (sX d)] (.tup [nA (sX (a*c+b*d)),.v .nilIface]):=by
 have h:=Bm tw h1 h2 h3 h4 (by rw[hl];omega);rw[show ad ts.length (sX a)=a from bp _ _,show ad ts.length (sX b)=b from bp _ _,show ad ts.length (sX c)=c from bp _ _,show ad ts.length (sX d)=d from bp _ _]at h;exact h
theorem OW{r e:Nat}{a b c d:Et ts}(tw:Tw ts r)(hl:lm ts.length=200000000000)(h1:Nm ts.length e (sX a))(h2:Nm ts.length e (sX b))(h3:Nm ts.length e (sX c))(h4:Nm ts.length e (sX d))(he:e+e+kB r ts.length<=100000000000) :
  FP 74 [an ts,ao (sX a) (sX b),ao (sX c) (sX d)] (.tup [nA (sX (a*d-b*c)),.v .nilIface]):=by
 have h:=F6 tw h1 h2 h3 h4 (by rw[hl];omega);rw[show ad ts.length (sX a)=a from bp _ _,show ad ts.length (sX b)=b from bp _ _,show ad ts.length (sX c)=c from bp _ _,show ad ts.length (sX d)=d from bp _ _]at h;exact h
end
section
variable{rs:List (List Rt)}{c:List Rat}{o p q:P2 (llq rs)}{z:Et (llq rs)}
theorem UM(h:TR rs 64990)(hc:be rs=0)(hn:(llq rs).length<=1)(c0:Ct (llq rs) 310000 65000)(ho1:Zu 310000 65000 o.1 40 40)(ho2:Zu 310000 65000 o.2 40 40)(p1:Zu 310000 65000 p.1 40 40)(p2:Zu 310000 65000 p.2 40 40)(q1:Zu 310000 65000 q.1 40 40)(q2:Zu 310000 65000 q.2 40 40)
  [i3:Zl (llq rs) 310000 65000 c z 3 0] (s1:0<=ak z):FP 149 [b8 rs,.agg [nA (sX o.1),nA (sX o.2),nA c],bM p.l,bM q.l] (.tup [(eI p q o z).av,bn (fy p q)]):=by
 obtain⟨tw,etw⟩:=bO h hc;haveI cy:Cy (llq rs) 310000 65000:=⟨c0.ex,by obtain⟨_,h9,_⟩:=c0;exact h9,by obtain⟨_,_,h9,_⟩:=c0;exact h9,by omega⟩
 have hlm:=cy.lm;have hck:=oO rs 64990 h;rw[hc]at hck;have P:=yX cy p1 p2 q1 q2 ho1 ho2 i3.zu;haveI:=ho1;haveI:=ho2;haveI:=p1;haveI:=p2;haveI:=q1;haveI:=q2;haveI:=P.v1;haveI:=P.v2;haveI:=P.w1;haveI:=P.w2;haveI:=P.zs;haveI:=P.ze;haveI:=P.zc;haveI:=P.zX
 have hci:=Hy (e:=40*310000+40*65000) h hc ho1.nm ho2.nm (i3.nm.mono (by decide)) (by rw[hlm];decide)
 have hra:=GN h hc [(sX o.1,sX o.2,c)] (fun y hy=>by
  rw[List.mem_singleton.1 hy];exact⟨ho1.nm.mono (by decide),ho2.nm.mono (by decide),i3.nm.mono (by decide),by show 0<=ak (dE (llq rs) c);rw[show dE (llq rs) c=z from i3.eq];exact s1⟩) (by show 1<=100;omega)
 have a1:=kV (ts:=llq rs) (u:=310000) (k:=65000) (a:=sX q.1) (b:=sX p.1) (by decide);have a2:=kV (ts:=llq rs) (u:=310000) (k:=65000) (a:=sX q.2) (b:=sX p.2) (by decide);have a3:=kV (ts:=llq rs) (u:=310000) (k:=65000) (a:=sX o.1) (b:=sX p.1) (by decide);have a4:=kV (ts:=llq rs) (u:=310000) (k:=65000) (a:=sX o.2) (b:=sX p.2) (by decide);have hkb:80*310000+81*65000+(80*310000+81*65000)+kB 64990 (llq rs).length<=100000000000:=by have:=vu hn;omega
 have b1:=CI tw hlm P.v1.nm P.v2.nm P.v1.nm P.v2.nm hkb;have b2:=CI tw hlm P.v1.nm P.v2.nm P.w1.nm P.w2.nm hkb;have b3:=OW tw hlm P.v1.nm P.v2.nm P.w1.nm P.w2.nm hkb;rw[<- etw]at b1 b2 b3;have m1:=ra (ts:=llq rs) (u:=310000) (k:=65000) (a:=sX (bu p q)) (by decide);have m2:=iU (ts:=llq rs) (u:=310000) (k:=65000) (a:=sX (bu p q)) (b:=c) (by decide);have m3:=iU (ts:=llq rs) (u:=310000) (k:=65000) (a:=sX (jr p q o)) (b:=sX (jr p q o)) (by decide);haveI zz:=i3.zu;have m4:=kV (ts:=llq rs) (u:=310000) (k:=65000) (a:=sX (bu p q*z)) (b:=sX (jr p q o*jr p q o)) (by decide);have m5:=ra (ts:=llq rs) (u:=310000) (k:=65000) (a:=sX (bc p q o z)) (by decide);have m0:=Con.sA (.cons (.refl _) (.cons (Sub.nil 2 none 0) .nil)) (mN tw []);refine af func149 ?_;refine gc hck ?_;refine gC (fun t27=>?_) (fun t27=>?_) (st1:=(3,0));cases t27;refine gc hci ?_;refine gC (fun t34=>?_) (fun t34=>?_) (st1:=(6,0));cases t34;refine ge rfl ?_;refine aM [4,5,6,7,8,39,40] [4,5,6,7,8] (fun(i:Nat)=>[(41,some (i64 i))]) (fun _=>[]) (fun i=>i<=2) (fun i=>2-i) 0 (zero_le _) ?_;rintro i hi K1 J1;refine gC (fun t42=>?_) (fun t42=>?_)
 ·have hin:i<2:=aT (b:=2) t42;obtain⟨zz2,hz2,u,v,hu,hv,rfl⟩:=KK (x:=bM p.l) (y:=bM q.l) (Q:=fun w=>∃u v,Nm (llq rs).length (40*310000+40*65000) u/\Nm (llq rs).length (40*310000+40*65000) v/\w=ao u v) hin ⟨_,_,p1.nm,p2.nm,rfl⟩ ⟨_,_,q1.nm,q2.nm,rfl⟩;refine gi hz2 ?_;refine gc (Gy h hc hu hv (by rw[hlm];decide)) ?_;refine gC (fun t49=>?_) (fun t49=>?_) (st1:=(12,0));cases t49;refine ga aH ?_;exact aG J1 (i+1) hin
 refine gc hra ?_;refine gC (fun t58=>?_) (fun t58=>?_) (st1:=(16,0)) (st2:=(18,0));cases t58;refine gW (Wk.of (sl:=[(4,some (.ptr 4 0)),(5,some (.ptr 5 0)),(6,some (.ptr 6 0)),(7,some (.ptr 7 0)),(8,some (.ptr 8 0)),(16,some (.ptr 63 0))]) (hp:=[(4,some (.box [.lst 1 (rs.map nR)])),(5,some (.box [nA (sX o.1),nA (sX o.2),nA c])),(6,some (.box [nA (sX p.1),nA (sX p.2)])),(7,some (.box [nA (sX q.1),nA (sX q.2)])),(8,some (.box [nS,nS])),(63,some (ba (llq rs)))]) aQ (.k (.k (.k (.k (.k (.cons rfl (BlkSub.bL (.cons (.of (ia etw)) (.cons (.refl _) .nil)) rfl) .nil))))))) ?_
 refine gt (aY (Con.rB 63 rfl rfl rfl rfl a1) (aK rfl rfl rfl) rfl rfl rfl) ?_;refine gt (aY (Con.rB 63 rfl rfl rfl rfl a2) (aK rfl rfl rfl) rfl rfl rfl) ?_;refine gD ?_;refine gt (aY (Con.rB 63 rfl rfl rfl rfl a3) (aK rfl rfl rfl) rfl rfl rfl) ?_;refine gt (aY (Con.rB 63 rfl rfl rfl rfl a4) (aK rfl rfl rfl) rfl rfl rfl) ?_;refine gD ?_;refine gc b1 ?_;refine gt (aY (Con.rB 63 rfl rfl rfl rfl (nP _ _)) (aK rfl rfl rfl) rfl rfl rfl) ?_;refine gu (er rfl rfl rfl (fun h=>aY (Con.rB 63 rfl rfl rfl rfl m1) (.cons (.opt rfl (o1 h)) (.cons (.opt rfl (o1 h)) .nil)) rfl rfl rfl)) ?_;refine gC (fun t117=>?_) (fun t117=>?_)
 ·have h0:ak (bu p q)=0:=NK t117;refine gR ?_;exact bH (by unfold eI fy;rw[if_pos h0,if_pos h0];exact Sub.tup (.cons uS (.cons (.refl _) .nil)))
 have h0:ak (bu p q)≠0:=SV t117;have Q:=It cy hn p1 p2 P h0;refine gc b2 ?_;refine gt (aY (Con.rB 63 rfl rfl rfl rfl (nP _ _)) (aK rfl rfl rfl) rfl rfl rfl) ?_;refine gc b3 ?_;refine gt (aY (Con.rB 63 rfl rfl rfl rfl (nP _ _)) (aK rfl rfl rfl) rfl rfl rfl) ?_;refine gt (aY (Con.rB 63 rfl rfl rfl rfl m2) (aK rfl rfl rfl) rfl rfl rfl) ?_;refine gt (aY (Con.rB 63 rfl rfl rfl rfl m3) (aK rfl rfl rfl) rfl rfl rfl) ?_;refine gt (aY (Con.rB 63 rfl rfl rfl rfl m4) (aK rfl rfl rfl) rfl rfl rfl) ?_;refine gt (aY (Con.rB 63 rfl rfl rfl rfl m5) (bC rfl rfl) rfl rfl rfl) ?_;refine gC (fun t150=>?_) (fun t150=>?_)
 ·have h1:ak (bc p q o z)=-1:=bU t150;refine gt (aY (Con.rB 63 rfl rfl rfl rfl m0) (.cons (.tmp rfl) (.cons (.const _) .nil)) rfl rfl rfl) ?_;refine a9 ?_;unfold eI fy;rw[if_neg h0,if_neg h0,if_pos h1];rfl
 have h1:¬ak (bc p q o z)=-1:=cq t150;refine gC (fun t156=>?_) (fun t156=>?_)
 ·have h2:ak (bc p q o z)=0:=bU t156;refine gt (aY (Con.rB 63 rfl rfl rfl rfl (se Q.hd)) (aK rfl rfl rfl) rfl rfl rfl) ?_;refine gt (aY (Con.rB 63 rfl rfl rfl rfl Q.al) (.cons (.tmp rfl) (aK rfl rfl rfl)) rfl rfl rfl) ?_;refine gt (aY (Con.rB 63 rfl rfl rfl rfl (mN tw [bM (d9 p (cc p q o*iE (bu p q)) (aW q p)).l])) (bC rfl rfl) rfl rfl rfl) ?_;refine gD ?_;refine a9 ?_;unfold eI fy;rw[if_neg h0,if_neg h0,if_neg h1,if_pos h2];rfl
 have h2:¬ak (bc p q o z)=0:=cq t156
 have hpos:0<=ak (bc p q o z):=by
  have:=T.sgn_cases (aj (llq rs)) (llq rs).length (bc p q o z);have e:ak (bc p q o z)=T.sgn (aj (llq rs)) (llq rs).length (bc p q o z):=rfl;omega
 have E:ExtP (bc p q o z):=nQ tw hn (zN P.zX oz oz) hpos;haveI ce:=E.cy;haveI zr:Zl (aI (llq rs) (sX (bc p q o z))) 773000000 1101400000 (bX (llq rs).length) (dE _ (bX (llq rs).length)) 1 0:=Zl.at (oL oz) (by decide);haveI ze':=gG (X:=bc p q o z) hn P.ze (by decide);haveI:=zr.zu;haveI:=ze'.zu
 have e1:=jG (ts:=aI (llq rs) (sX (bc p q o z))) (u:=773000000) (k:=1101400000) (a:=sX (cc p q o)) (b:=bX (llq rs).length) (by decide);have e2:=kV (ts:=aI (llq rs) (sX (bc p q o z))) (u:=773000000) (k:=1101400000) (a:=sX (cc p q o)) (b:=bX (llq rs).length) (by decide);have S1:=wO (p:=p) (v:=aW q p) hn E P.zs h0 p1 p2 P.v1 P.v2 (k:=aN (bc p q o z) (cc p q o)+bN (bc p q o z)) inferInstance;have S2:=wO (p:=p) (v:=aW q p) hn E P.zs h0 p1 p2 P.v1 P.v2 (k:=aN (bc p q o z) (cc p q o)-bN (bc p q o z)) inferInstance;have hex:=CQ (a:=sX (bc p q o z)) tw P.zX.nm (by rw[hlm];decide) (by rw[show ad (llq rs).length (sX (bc p q o z))=bc p q o z from bp _ _];exact hpos);refine gt (aJ (Con.rB 63 rfl rfl rfl rfl hex) (bC rfl rfl) aL rfl rfl) ?_;refine gt (aY (Con.rB 63 rfl rfl rfl rfl e1) (aK rfl rfl rfl) rfl rfl rfl) ?_;refine gt (aY (Con.rB 63 rfl rfl rfl rfl (se S1.hd)) (aK rfl rfl rfl) rfl rfl rfl) ?_;refine gt (aY (Con.rB 63 rfl rfl rfl rfl S1.al) (.cons (.tmp rfl) (aK rfl rfl rfl)) rfl rfl rfl) ?_;refine gt (aY (Con.rB 63 rfl rfl rfl rfl e2) (aK rfl rfl rfl) rfl rfl rfl) ?_;refine gt (aY (Con.rB 63 rfl rfl rfl rfl (se S2.hd)) (aK rfl rfl rfl) rfl rfl rfl) ?_;refine gt (aY (Con.rB 63 rfl rfl rfl rfl S2.al) (.cons (.tmp rfl) (aK rfl rfl rfl)) rfl rfl rfl) ?_;refine gt (aY (Con.rB 63 rfl rfl rfl rfl (mN E.tw [bM (kv (bc p q o z) p (aW q p) (ff (bc p q o z) (bu p q) (aN (bc p q o z) (cc p q o)+bN (bc p q o z)))).l,bM (kv (bc p q o z) p (aW q p) (ff (bc p q o z) (bu p q) (aN (bc p q o z) (cc p q o)-bN (bc p q o z)))).l])) (bC rfl rfl) rfl rfl rfl) ?_;refine gD ?_;refine a9 ?_;unfold eI fy;rw[if_neg h0,if_neg h0,if_neg h1,if_neg h2];rfl
end
theorem OG(o:Option Nat):aa .geq (m7 o) 0=o.isSome:=by
 cases o with
 |none=>rfl
 |some i=>exact decide_eq_true (by show(i:Int)>=0;omega)
theorem US(bs:List (Rat×Rat))(hl:bs.length<=281474976710656)(f:FuncId)(pre caps:List AV)(ok:Nat->Bool)
  (hf:∀(i:Nat)(b:Rat×Rat),bs[i]?=some b->(∀j,j<i->ok j=true)->FP f (pre++[qP b]++caps) (bl (!ok i))) :
  FP 353 [.lst 6 (bs.map qP),.cl f pre caps] (i64 (m7 (cW bs.length ok))):=by
 refine af func353 ?_;refine gl ?_;refine aM [0,1,7] [] (fun(i:Nat)=>[(8,some (i64 i))]) (fun _=>[]) (fun i=>i<=bs.length/\∀j,j<i->ok j=true) (fun i=>bs.length-i) 0 ⟨zero_le _,fun j h=>by omega⟩ ?_;rintro i ⟨hi,hj⟩ K1 J1;refine gC (fun t9=>?_) (fun t9=>?_)
 ·have hin:=aT t9;obtain⟨b,hb⟩:=az hin;refine gi (ay hb) ?_;refine gc (hf i b hb hj) ?_;refine gC (fun t16=>?_) (fun t16=>?_)
  ·have h2:=dr t16;refine ae ?_;rw[iI hin hj h2];rfl
  have h2:=dl t16;refine ga aH ?_;exact aG J1 (i+1) ⟨hin,fun j h9=>by rcases lt_or_ge j i with g |g;exact hj j g;(have:j=i:=by omega);subst this;exact h2⟩
 have hin:=a8 hi t9;subst hin;refine ae ?_;rw[iG hj];rfl
theorem Oo(bs:List (Rat×Rat))(hl:bs.length<=281474976710656)(f:FuncId)(pre caps:List AV)(ok:Nat->Bool)
  (hf:∀(i:Nat)(b:Rat×Rat),bs[i]?=some b->(∀j,j<i->ok j=true)->FP f (pre++[qP b]++caps) (bl (!ok i))) :
  FP 249 [.lst 6 (bs.map qP),.cl f pre caps] (bl (cW bs.length ok).isSome):=by
 refine af func249 ?_;refine gc (US bs hl f pre caps ok hf) ?_;refine ae ?_;rw[<- OG];rfl
theorem QQ{v:Rat×Rat}(hv:Sm 3000 v):FP 250 [qP v] (bl (decide (bG v v=0))):=by
 refine af func250 ?_;refine gc (Fk hv hv oz oz) ?_;refine gc (TX ((hv.dot hv).qs oz)) ?_;refine ae ?_;rw[<- LA];rfl
def ez(vs:List (Rat×Rat)):Bool:=(cW vs.length fun i=>!decide (bG (vs.getD i (0,0)) (vs.getD i (0,0))=0)).isSome
theorem Hi(vs:List (Rat×Rat))(hl:vs.length<=281474976710656)(hv:∀v∈vs,Sm 3000 v):FP 145 [.lst 6 (vs.map qP)] (bl (ez vs)):=by
 refine af func145 ?_;refine gc (Con.sA (.cons (.refl _) (.cons ((Sub.fn0 _).trans (wT rfl)) .nil)) (Oo vs hl 250 [] [] (fun i=>!decide (bG (vs.getD i (0,0)) (vs.getD i (0,0))=0)) (fun i b hb _=>by rw[Bool.not_not,aO hb];exact QQ (hv b (mem_of_getElem? hb))))) ?_;refine ae ?_;rfl
theorem wg{v:Rat×Rat}(h:ez [v]=false):bG v v≠0:=by
 intro h0;have h1:cW 1 (fun i=>!decide (bG ([v].getD i (0,0)) ([v].getD i (0,0))=0))=some 0:=iI oz (fun j hj=>by omega) (by show(!decide (bG v v=0))=false;rw[h0];rfl);unfold ez at h;rw[show[v].length=1 from rfl,h1]at h;cases h
theorem vz{v w:Rat×Rat}(h:ez [v,w]=false):bG v v≠0/\bG w w≠0:=by
 unfold ez at h;rw[Option.isSome_eq_false_iff,Option.isNone_iff_eq_none]at h;have h2:=Fh h;have h3:=h2 0 (by show 0<2;omega);have h4:=h2 1 (by show 1<2;omega);have h5:(!decide (bG v v=0))=true:=h3;have h6:(!decide (bG w w=0))=true:=h4;simp only[Bool.not_eq_true',decide_eq_false_iff_not]at h5 h6;exact⟨h5,h6⟩
theorem CA(i n:Nat)(hi:i<=100):FP 154 [i64 i,i64 n] (i64 (if n=1 then 0 else 1-2*(i:Int))):=by
 refine af func154 ?_;refine gC (fun t6=>?_) (fun t6=>?_)
 ·have h1 : n = 1 := by have := bU t6; omega
  refine ae ?_;rw[if_pos h1];rfl
 have h1:¬n=1:=by have:=cq t6;omega
 refine ga (show _=2*(i:Int) by exact uJ oz) ?_;refine ga (show _=1-2*(i:Int) by exact dg oz) ?_;refine ae ?_;rw[if_neg h1];rfl
section
variable{ts:LL}
abbrev wJ(u:Rat×Rat):Et ts:=qE (bG u u)
def di(u:Rat×Rat)(w:P2 ts):Et ts:=(qE u.1*w.1+qE u.2*w.2)*iE (wJ u)
def dj(u:Rat×Rat)(w:P2 ts):Et ts:=(qE u.1*w.2-qE u.2*w.1)*iE (wJ u)
def sE(u:Rat×Rat)(w:P2 ts)(p:Rat×Rat)(o:P2 ts):Et ts:=o.1-(di u w*qE p.1-dj u w*qE p.2)
def td(u:Rat×Rat)(w:P2 ts)(p:Rat×Rat)(o:P2 ts):Et ts:=o.2-(dj u w*qE p.1+di u w*qE p.2)
def lY(u:Rat×Rat)(w:P2 ts)(p:Rat×Rat)(o:P2 ts):Pq:=⟨sX (di u w),sX (dj u w),sX (sE u w p o),sX (td u w p o)⟩
theorem uB(ts:LL)(a b:List Rat):Con prog 72 [.ptr 1000 0,ao a b,.v .nilIface] [(1000,some (ba ts))] (ao a b) [(1000,some (ba ts))]:=by
 have h:=C0 (ts.map (List.map rt)) a b;rw[AO]at h;exact h
theorem fX(q:Rat):ad ts.length (sh 0 (q:Rat))=(qE q:Et ts):=kS _ q
theorem fT{e:Nat}{q:Rat}(h5:ts.length<=5)(h:Qb e q):Nm ts.length e (sh 0 (q:Rat)):=Nm.ofQ h5 (Cb.one h)
structure BdP(ts:LL)(u:Rat×Rat)(w:P2 ts)(p:Rat×Rat)(o:P2 ts):Prop where
  dot:FP 77 [an ts,ao (sh 0 (u.1:Rat)) (sh 0 (u.2:Rat)),ao (sX w.1) (sX w.2)] (.tup [nA (sX (qE u.1*w.1+qE u.2*w.2)),.v .nilIface])
  crs:FP 74 [an ts,ao (sh 0 (u.1:Rat)) (sh 0 (u.2:Rat)),ao (sX w.1) (sX w.2)] (.tup [nA (sX (qE u.1*w.2-qE u.2*w.1)),.v .nilIface])
  d1:FP 271 [an ts,nA (sX (qE u.1*w.1+qE u.2*w.2)),nA (sh 0 (bG u u:Rat))] (.tup [nA (sX (di u w)),.v .nilIface])
  d2:FP 271 [an ts,nA (sX (qE u.1*w.2-qE u.2*w.1)),nA (sh 0 (bG u u:Rat))] (.tup [nA (sX (dj u w)),.v .nilIface])
  tn:FP 178 [an ts,nA (sX (di u w)),nA (sX (dj u w)),ao (sh 0 (p.1:Rat)) (sh 0 (p.2:Rat))] (.tup [ao (sX (di u w*qE p.1-dj u w*qE p.2)) (sX (dj u w*qE p.1+di u w*qE p.2)),.v .nilIface])
  s1:FP 163 [an ts,nA (sX o.1),nA (sX (di u w*qE p.1-dj u w*qE p.2))] (.tup [nA (sX (sE u w p o)),.v .nilIface])
  s2:FP 163 [an ts,nA (sX o.2),nA (sX (dj u w*qE p.1+di u w*qE p.2))] (.tup [nA (sX (td u w p o)),.v .nilIface])
  ok:Pq.ok ts.length 80000000000 (lY u w p o)
theorem EA{r W A K F:Nat}{u p:Rat×Rat}{w o:P2 ts}(tw:Tw ts r)(h2:ts.length<=2)(hk:kB r ts.length<=K)(hu:Sm 3000 u)(hp:Sm 3000 p)(h0:bG u u≠0)
  (w1:Nm ts.length W (sX w.1)) (w2:Nm ts.length W (sX w.2)) (a1:Nm ts.length A (sX o.1)) (a2:Nm ts.length A (sX o.2)) (hW:3000<=W) (hF:4*W+10*K+A+100000<=F) (hF2:F<=80000000000):BdP ts u w p o:=by
 have hl:lm ts.length=200000000000:=by unfold lm;rw[if_pos h2]
 have h5:=tw.five;have hu1:=fT (ts:=ts) h5 hu.x;have hu2:=fT (ts:=ts) h5 hu.y;have hp1:=fT (ts:=ts) h5 hp.x;have hp2:=fT (ts:=ts) h5 hp.y;have hnn:=fT (ts:=ts) h5 (hu.dot hu);have hkE:eB r ts.length<=K:=hk;have ew:∀x:Et ts,ad ts.length (sX x)=x:=fun x=>bp _ _
 have c1:=Bm tw (hu1.mono (f:=W) oz) (hu2.mono oz) w1 w2 (by rw[hl];omega);have c2:=F6 tw (hu1.mono (f:=W) oz) (hu2.mono oz) w1 w2 (by rw[hl];omega);have n1:=Az tw hu1 hu2 w1 w2;have n2:=AG tw hu1 hu2 w1 w2;rw[fX,fX,ew,ew]at c1 c2 n1 n2
 have hs:T.sgn (aj ts) ts.length (ad ts.length (sh 0 (bG u u:Rat)))≠0:=by
  rw[kS,T.sgn_ofQ];intro h9;exact h0 (lM h9)
 have nb:Nl 0 (sh 0 (bG u u:Rat)):=ek 0 _;have d1:=AT tw n1 hnn (zero_le _) nb hs (by rw[hl];omega) (by simp only[iB];omega);have d2:=AT tw n2 hnn (zero_le _) nb hs (by rw[hl];omega) (by simp only[iB];omega);have m1:=rK tw n1 hnn (zero_le _) nb hs (by rw[hl];omega) (by simp only[iB];omega);have m2:=rK tw n2 hnn (zero_le _) nb hs (by rw[hl];omega) (by simp only[iB];omega);have e1:∀x:Et ts,ad ts.length (sh ts.length x)=x:=fun x=>bp _ _
 have f1:ad ts.length (sh ts.length (kG ts (qE u.1:Et ts) (qE u.2:Et ts) w.1 w.2))=(qE u.1*w.1+qE u.2*w.2:Et ts):=bp _ _;have f2:ad ts.length (sh ts.length (nv ts (qE u.1:Et ts) (qE u.2:Et ts) w.1 w.2))=(qE u.1*w.2-qE u.2*w.1:Et ts):=bp _ _;rw[f1,fX]at d1 m1;rw[f2,fX]at d2 m2;have k1:Nm ts.length (2*W+3*K+30000) (sX (di u w)):=Nm.mono m1 (by simp only[iB];omega);have k2:Nm ts.length (2*W+3*K+30000) (sX (dj u w)):=Nm.mono m2 (by simp only[iB];omega);have c3:=BC tw k1 k2 (hp1.mono (f:=(2*W+3*K+30000)) oz) (hp2.mono oz) (by rw[hl];omega);have n3:=qi tw k1 k2 hp1 hp2;have n4:=qz tw k1 k2 hp1 hp2;rw[fX,fX,ew,ew]at c3 n3 n4;have s1:=oP tw a1 n3 (by rw[hl];omega);have s2:=oP tw a2 n4 (by rw[hl];omega);have m3:=a1.sub n3;have m4:=a2.sub n4;have f3:ad ts.length (sh ts.length (n6 ts (di u w) (dj u w) (qE p.1:Et ts) (qE p.2:Et ts)))=(di u w*qE p.1-dj u w*qE p.2:Et ts):=bp _ _;have f4:ad ts.length (sh ts.length (oT ts (di u w) (dj u w) (qE p.1:Et ts) (qE p.2:Et ts)))=(dj u w*qE p.1+di u w*qE p.2:Et ts):=bp _ _;rw[ew,f3]at s1 m3;rw[ew,f4]at s2 m4;exact⟨c1,c2,d1,d2,c3,s1,s2,k1.mono oz,k2.mono oz,Nm.mono m3 oz,Nm.mono m4 oz⟩
theorem HL{r:Nat}{u p:Rat×Rat}{w o:P2 ts}(tw:Tw ts r)(h2:ts.length<=2)(hk:kB r ts.length<=1101400000)(hu:Sm 3000 u)(hp:Sm 3000 p)(h0:bG u u≠0)
  (w1:Nm ts.length 17000000000 (sX w.1)) (w2:Nm ts.length 17000000000 (sX w.2)) (a1:Nm ts.length 773000000 (sX o.1)) (a2:Nm ts.length 773000000 (sX o.2)):BdP ts u w p o :=
 EA (F:=80000000000) tw h2 hk hu hp h0 w1 w2 a1 a2 oz oz oz
theorem xq{a b c:List Rat}(h:FP 163 [an ts,nA a,nA b] (.tup [nA c,.v .nilIface])):Con prog 75 [.ptr 1000 0,nA a,nA b] [(1000,some (ba ts))] (nA c) [(1000,some (ba ts))]:=by
 refine gF func75 (fun k z h=>bw h) ?_;refine gc h ?_;refine gt (aJ (o6 _ _) (aK rfl rfl rfl) aL rfl rfl) ?_;refine gR ?_;exact aA.keep (bh rfl)
theorem zU{u p:Rat×Rat}{w o:P2 ts}(hu:Sm 3000 u)(hp:Sm 3000 p)(B:BdP ts u w p o) :
  Con prog 143 [.ptr 1000 0,qP u,bM w.l,qP p,bM o.l] [(1000,some (ba ts))] (lY u w p o).av [(1000,some (ba ts))]:=by
 refine gF func143 (fun k z h=>bw h) ?_;refine gc (uC (hu.x.qs oz) (hu.y.qs oz)) ?_;refine gc (zw hu oz) ?_;refine gD ?_;refine gc B.dot ?_;refine gt (aY (o6 _ _) (aK rfl rfl rfl) rfl rfl rfl) ?_;refine gt (aY (wB B.d1) (aK rfl rfl rfl) rfl rfl rfl) ?_;refine gc B.crs ?_;refine gt (aY (o6 _ _) (aK rfl rfl rfl) rfl rfl rfl) ?_;refine gt (aY (wB B.d2) (aK rfl rfl rfl) rfl rfl rfl) ?_;refine gD ?_;refine gc (uC (hp.x.qs oz) (hp.y.qs oz)) ?_;refine gc B.tn ?_;refine gt (aY (uB _ _ _) (aK rfl rfl rfl) rfl rfl rfl) ?_;refine gD ?_;refine gt (aY (xq B.s1) (aK rfl rfl rfl) rfl rfl rfl) ?_;refine gt (aY (xq B.s2) (aK rfl rfl rfl) rfl rfl rfl) ?_;refine gD ?_;refine gR ?_;exact aA.keep (bh rfl)
end
structure Sv where
  ts:LL
  ps:List Pq
  mode:Int
abbrev Sv.av(s:Sv):AV:=.agg [.lst 1 (s.ts.map nA),.lst 4 (s.ps.map Pq.av),i64 s.mode]
structure Hd where
  p:Rat×Rat
  a:List Rat×List Rat
  c:Rat×Rat
abbrev Hd.av(h:Hd):AV:=.agg [bl (rt h.p.1).neg,ws (rt h.p.1).num,ws (rt h.p.1).den,bl (rt h.p.2).neg,ws (rt h.p.2).num,ws (rt h.p.2).den,nA h.a.1,nA h.a.2,bl (rt h.c.1).neg,ws (rt h.c.1).num,ws (rt h.c.1).den,bl (rt h.c.2).neg,ws (rt h.c.2).num,ws (rt h.c.2).den]
def km(ts:LL)(h:Hd)(x:List Rat×List Rat):P2 ts:=(dE ts x.1-dE ts h.a.1,dE ts x.2-dE ts h.a.2)
def mU(ts:LL)(h:Hd):P2 ts:=(dE ts h.a.1,dE ts h.a.2)
def l0(ts:LL)(x:List Rat×List Rat)(h:Hd):Pq:=lY (bj h.c h.p) (km ts h x) h.p (mU ts h)
structure HdP(ts:LL)(x:List Rat×List Rat)(h:Hd):Prop where
  hp:Sm 1000 h.p
  hc:Sm 1000 h.c
  s1:FP 163 [an ts,nA x.1,nA h.a.1] (.tup [nA (sX (km ts h x).1),.v .nilIface])
  s2:FP 163 [an ts,nA x.2,nA h.a.2] (.tup [nA (sX (km ts h x).2),.v .nilIface])
  e1:sX (dE ts h.a.1)=h.a.1
  e2:sX (dE ts h.a.2)=h.a.2
  b:BdP ts (bj h.c h.p) (km ts h x) h.p (mU ts h)
theorem HdP.body{ts:LL}{x:List Rat×List Rat}{h:Hd}(H:HdP ts x h) :
  Con prog 143 [.ptr 1000 0,qP (bj h.c h.p),bM (km ts h x).l,qP h.p,ao h.a.1 h.a.2] [(1000,some (ba ts))] (l0 ts x h).av [(1000,some (ba ts))]:=by
 have hb:=zU (Sm.mono (H.hc.sub H.hp) oz) (Sm.mono H.hp oz) H.b
 have e:bM (mU ts h).l=ao h.a.1 h.a.2:=by
  show ao (sX (dE ts h.a.1)) (sX (dE ts h.a.2))=_;rw[H.e1,H.e2]
 rw[e]at hb;exact hb
def jP(m:Mt)(hs:List Hd)(i:Nat):Sv:=⟨m.ts,hs.map (l0 m.ts (m.ps.getD i ([],[]))),if m.ps.length=1 then 0 else 1-2*(i:Int)⟩
def fc(m:Mt)(hs:List Hd)(n:Nat):List AV:=(List.range n).map fun i=>(jP m hs i).av
theorem l8(m:Mt)(hs:List Hd)(n:Nat):(fc m hs n).length=n:=by simp[fc]
theorem Ag(m:Mt)(hs:List Hd)(n:Nat):fc m hs (n+1)=fc m hs n++[(jP m hs n).av]:=by unfold fc;rw[List.range_succ];simp
theorem Fv{m:Mt}{r:Nat}(tw:Tw m.ts r)(hs:List Hd)(hl:hs.length<=2)(ml:m.ps.length<=2)(H:∀x∈m.ps,∀h∈hs,HdP m.ts x h) :
  FP 148 [m.av,.lst 14 (hs.map Hd.av)] (.tup [.lst 3 (fc m hs m.ps.length),.v .nilIface]):=by
 refine af func148 ?_;refine gl ?_;refine gW (Wk.virt 900 3 rfl) ?_;refine aM [1,2,15,16] [2] (fun(i:Nat)=>[(6,some (.ms 900 3 0 i)),(17,some (i64 i))]) (fun i=>[(900,some (.row 3 (fc m hs i)))]) (fun i=>i<=m.ps.length) (fun i=>m.ps.length-i) 0 (zero_le _) ?_;rintro i hi K1 J1;refine gC (fun t18=>?_) (fun t18=>?_) (st2:=(17,0))
 ·have hin:=aT t18;obtain⟨x,hx⟩:=az hin;have hx9:m.ps.getD i ([],[])=x:=aO hx;have hxm:=mem_of_getElem? hx;refine gi (ay hx) ?_;refine gc (yA tw) ?_;refine gl ?_;refine gc (CA i m.ps.length oz) ?_;refine gD ?_ (7,0);refine gW (Wk.o (sl:=[(1,some (.lst 14 (hs.map Hd.av))),(2,some (.ptr 2 0)),(6,some (.ms 900 3 0 i)),(8,some (.ptr 8 0)),(9,some (.ptr 25 0)),(10,some (.ptr 10 0)),(15,some (.lst 2 (m.ps.map bM))),(16,some (i64 m.ps.length)),(17,some (i64 i))]) (hp:=[(2,some (.box [.lst 1 (m.ts.map nA),.lst 2 (m.ps.map bM)])),(8,some (.box [nA x.1,nA x.2])),(10,some (.box [.lst 1 (m.ts.map nA),nS,i64 (if m.ps.length=1 then 0 else 1-2*(i:Int))])),(25,some (ba m.ts)),(900,some (.row 3 (fc m hs i)))])) ?_
  refine gl ?_;refine gW (Wk.virt 901 4 rfl) ?_;refine aM [1,2,8,9,10,15,16,17,35,36] [2,8,25,900] (fun(k:Nat)=>[(6,some (.ms 900 3 0 i)),(37,some (i64 k))]) (fun k=>[(10,some (.box [.lst 1 (m.ts.map nA),.ms 901 4 0 k,i64 (if m.ps.length=1 then 0 else 1-2*(i:Int))])),(901,some (.row 4 (((hs.take k).map (l0 m.ts x)).map Pq.av)))]) (fun k=>k<=hs.length) (fun k=>hs.length-k) 0 (zero_le _) ?_ (h2:=(.cons rfl (BlkSub.bL (.cons (.refl _) (.cons (.nM _ _ _) (.cons (.refl _) .nil))) rfl) (.k .nil)))
  rintro k hk K2 J2;refine gC (fun t38=>?_) (fun t38=>?_) (st2:=(13,0))
  ·have hkn:=aT t38;obtain ⟨h,hh⟩:=az hkn;have Hh:=H x hxm h (mem_of_getElem? hh);refine gi (ay hh) ?_;refine gt (aY (Con.rB 25 rfl rfl rfl rfl (xq Hh.s1)) (aK rfl rfl rfl) rfl rfl rfl) ?_;refine gt (aY (Con.rB 25 rfl rfl rfl rfl (xq Hh.s2)) (aK rfl rfl rfl) rfl rfl rfl) ?_;refine gD ?_;refine gc (oE Hh.hc Hh.hp oz oz) ?_;refine gt (aY (Con.rB 25 rfl rfl rfl rfl Hh.body) (.cons (.tmp rfl) (.cons (.tmp rfl) (aK rfl rfl rfl))) rfl rfl rfl) ?_;refine gs (bK (.tmp rfl) rfl (by rw [length_map,length_map,length_take]; omega) (.tmp rfl) T38 rfl T69 rfl rfl (by dsimp only; simp only [length_cons,length_nil]; omega) rfl rfl) ?_;refine gD ?_ (12,0);refine gW (Wk.of (sl:=[(1,some (.lst 14 (hs.map Hd.av))),(2,some (.ptr 2 0)),(6,some (.ms 900 3 0 i)),(8,some (.ptr 8 0)),(9,some (.ptr 25 0)),(10,some (.ptr 10 0)),(15,some (.lst 2 (m.ps.map bM))),(16,some (i64 m.ps.length)),(17,some (i64 i)),(35,some (.lst 14 (hs.map Hd.av))),(36,some (i64 hs.length)),(37,some (i64 k))]) (hp:=[(2,some (.box [.lst 1 (m.ts.map nA),.lst 2 (m.ps.map bM)])),(8,some (.box [nA x.1,nA x.2])),(25,some (ba m.ts)),(10,some (.box [.lst 1 (m.ts.map nA),.ms 71 4 0 (k + 1),i64 (if m.ps.length = 1 then 0 else 1 - 2 * (i:Int))])),(900,some (.row 3 (fc m hs i))),(71,some (.row 4 (((hs.take (k + 1)).map (l0 m.ts x)).map Pq.av)))]) aQ (.k (.k (.k (.k (.k (.cons rfl (BlkSub.of (by rw [cC hh,map_append,map_append]; rfl)) .nil))))))) ?_ (12,0)
   refine gW (Wk.rk (k:=71) (d:=901) rfl rfl) ?_;refine ga aH ?_;exact aG J2 (k+1) hkn
  have hkn:=a8 hk t38;subst hkn;refine gW ((Wk.freeze (k:=901) rfl).trans<|Wk.of (sl:=[(1,some (.lst 14 (hs.map Hd.av))),(2,some (.ptr 2 0)),(6,some (.ms 900 3 0 i)),(9,some (.ptr 25 0)),(10,some (.ptr 10 0)),(15,some (.lst 2 (m.ps.map bM))),(16,some (i64 m.ps.length)),(17,some (i64 i))]) (hp:=[(2,some (.box [.lst 1 (m.ts.map nA),.lst 2 (m.ps.map bM)])),(25,some (ba m.ts)),(10,some (.box [.lst 1 (m.ts.map nA),.lst 4 ((hs.map (l0 m.ts x)).map Pq.av),i64 (if m.ps.length=1 then 0 else 1-2*(i:Int))])),(900,some (.row 3 (fc m hs i)))]) aQ (.k (.k (.cons rfl (BlkSub.bL (.cons (.refl _) (.cons (Sub.of (by rw[bA (by rw[length_map,length_map,length_take];omega),take_length])) (.cons (.refl _) .nil))) rfl) (.k .nil))))) ?_
  refine gC (fun t78=>?_) (fun t78=>?_) (st1:=(14,0));cases t78;refine gs (bK (.tmp rfl) rfl (l8 _ _ _).symm (.tmp rfl) T54 rfl T62 rfl rfl (by dsimp only;simp only[length_cons,length_nil];omega) rfl rfl) ?_ (16,0);refine gW (Wk.of (sl:=[(1,some (.lst 14 (hs.map Hd.av))),(2,some (.ptr 2 0)),(6,some (.ms 86 3 0 (i+1))),(15,some (.lst 2 (m.ps.map bM))),(16,some (i64 m.ps.length)),(17,some (i64 i))]) (hp:=[(2,some (.box [.lst 1 (m.ts.map nA),.lst 2 (m.ps.map bM)])),(86,some (.row 3 (fc m hs (i+1))))]) aQ (.k (.cons rfl (BlkSub.of (by rw[Ag];unfold jP;rw[hx9])) .nil))) ?_ (16,0);refine gW (Wk.rk (k:=86) (d:=900) rfl rfl) ?_;refine ga aH ?_;exact aG J1 (i+1) hin
 have hin:=a8 hi t18;subst hin;refine gW ((Wk.freeze (k:=900) rfl).trans<|Wk.of (sl:=[(6,some (.lst 3 (fc m hs m.ps.length)))]) (hp:=[]) (.cons rfl (Sub.of (by rw[bA (l8 _ _ _).symm])) .nil) .nil) ?_;refine a9 ?_;rfl
variable{P:Program}{N:Nat}{R:Array Oper}{s:AS}{pos:String}{after:Array Edge}
def xg(P:Program)(t:TypeId):Bool:=match P.underlying t with |some (.slice _)=>true |_=>false
theorem Gk{t:TypeId}(h:xg P t=true):∃e,P.underlying t=some (.slice e):=by
 unfold xg at h;split at h
 ·exact⟨_,by assumption⟩
 ·cases h
theorem G8(w:World)(t e:TypeId)(a:Option Addr)(l c:Nat)(h:P.underlying t=some (.slice e)):(binOp .eql t (.slice a l c) (.slice none 0 0)).run P w=.ok (.bool a.isNone) w:=by
 simp only[binOp];simp[run_equal_slice_nil w t e a l c h]
theorem BV{d:Nat}{x:Operand}{sz:Nat}{e:AV}{es:List AV}{S T t:TypeId}(hx:Ev s x (.lst sz (e::es)))(hS:xg P S=true)(hN:Nat.blt d N=true) :
  Step P N R s ⟨some d,.binOp .eql S x (.const (.slice none 0 0)) T,t,pos,after,none⟩ ⟨some (.v (.bool false)),[],aw x,[]⟩ :=
 dG rfl rfl hN fun s' hag C m ac w hr=>⟨.bool false,by
  have h:=(hx.agree hag (fun _ h=>h)).rep hr;obtain⟨el,hel⟩:=Gk hS;generalize hu:ac.eval x=y at h
  have hy:∃b l cap,y=.slice (some b) l cap:=by
   cases h with
   |lst u hb hc hl hs h1 hu hrr=>exact⟨_,_,_,rfl⟩
  obtain⟨b,l,cap,rfl⟩:=hy;have e1:ac.eval (.const (.slice none 0 0))=.slice none 0 0:=rfl;simp[execOp,hu,e1,eqGuard,G8 w S el (some b) l cap hel],.v _⟩
theorem HX{d:Nat}{x:Operand}{a:Option Addr}{l cap:Nat}{S T t:TypeId}(hx:Ev s x (.v (.slice a l cap)))(hS:xg P S=true)(hN:Nat.blt d N=true) :
  Step P N R s ⟨some d,.binOp .eql S x (.const (.slice none 0 0)) T,t,pos,after,none⟩ ⟨some (.v (.bool a.isNone)),[],aw x,[]⟩ :=
 dG rfl rfl hN fun s' hag C m ac w hr=>⟨.bool a.isNone,by
  have h:=(hx.agree hag (fun _ h=>h)).rep hr;obtain⟨el,hel⟩:=Gk hS;generalize hu:ac.eval x=y at h;cases h;have e1:ac.eval (.const (.slice none 0 0))=.slice none 0 0:=rfl;simp[execOp,hu,e1,eqGuard,G8 w S el a l cap hel],.v _⟩
end Go.Lw
namespace Go.Lw
theorem Con.rekeyB1{P:Program}{f:FuncId}{k off:Nat}{x x':Blk}{y0:AV}{xs:List AV}{r:AV}(d:Nat)(hx:x.nm=[])(hx':x'.nm=[])(hy0:y0.nm=[])(hxs:(xs.all fun x=>x.nm.isEmpty)=true)(hr:r.nm=[])
  (h:Con P f (y0 :: .ptr k off::xs) [(k,some x)] r [(k,some x')]):Con P f (y0 :: .ptr d off::xs) [(d,some x)] r [(d,some x')]:=by
 refine⟨h.ok,?_⟩;intro ext m w vs hext hheap hvs hrep
 have h1 := h.ret ext (fun _ => m d) w vs hext (vr (k := d) hx rfl hheap) (by simpa using hvs) (by
  intro j v y hv hy;rw[jK (d:=k) (k:=d) (y:=x) (x:=x) (m2:=fun _=>m d) (m:=m) rfl]
  match j,hy with
  |0,hy =>
   cases hy;exact iF hy0 (hrep 0 v _ hv rfl)
  |1,hy =>
   cases hy;have h2:=hrep 1 v _ hv rfl;cases h2 with
   |ptr hm=>exact .ptr hm
  |j+2,hy =>
   have h2:=hrep (j+2) v y hv hy;refine iF ?_ h2;have:=List.all_eq_true.1 hxs y (mem_of_getElem? hy);simpa using this)
 refine Calls.mono h1 ?_;rintro e w' ⟨v,m',rfl,hf,hh,hn,hk,hrr⟩
 have ho:a6 [(k,some x)] (fun _=>m d)=a6 [(d,some x)] m:=by
  funext b;apply propext;rw[jJ,jJ]
 refine⟨v,fun _=>m' k,rfl,ho▸hf,vr (k:=k) hx' rfl hh,?_,?_,?_⟩
 ·intro k' x b hx hb;rw[<- ho];exact hn k _ b (by rw[aP,if_pos rfl]) hb
 ·intro k' x y hx hy;obtain⟨rfl,_⟩:=fw hx;exact hk k _ _ (by rw[aP,if_pos rfl]) (by rw[aP,if_pos rfl])
 ·rw[jK (d:=d) (k:=k) (y:=x') (x:=x') (m2:=fun _=>m' k) (m:=m') rfl];exact iF hr hrr
open Go.Proofs
theorem lE{p q:Rat×Rat}(hp:Sm 1000 p)(hq:Sm 1000 q):Qz 310000 (bb p q) 3:=lO (UK hp hq) oz
structure MtOk(ts:LL)(m:Mt):Prop where
  tw:∃r,Tw m.ts r/\kB r m.ts.length<=1101400000
  two:m.ts.length<=2
  ln:m.ps.length<=2
  ps:∀x∈m.ps,Nm m.ts.length 15500000000 x.1/\Nm m.ts.length 15500000000 x.2
  up:∀(e:Nat)(y:Et ts),Nm ts.length e (sX y)->Nm m.ts.length e (sX y)/\sX (dE m.ts (sX y))=sX y
theorem rO{ts:LL}(e:Nat)(y:Et ts)(h:Nm ts.length e (sX y)):Nm ts.length e (sX y)/\sX (dE ts (sX y))=sX y:=⟨h,congrArg (sh ts.length) (bp _ _)⟩
theorem my{ts:LL}{X:Et ts}(hn:ts.length<=1)(e:Nat)(y:Et ts)(h:Nm ts.length e (sX y)):Nm (aI ts (sX X)).length e (sX y)/\sX (dE (aI ts (sX X)) (sX y))=sX y:=by
 refine⟨fF h oz,?_⟩;show sh (aI ts (sX X)).length (ad (aI ts (sX X)).length (sX y))=sX y;rw[d6,fV h.nl.le];show(if T.isZ ts.length (T.zero ts.length)=true then sh ts.length (ad ts.length (sX y))else _)=_;rw[if_pos ((T.isZ_iff _ _).2 rfl)];exact congrArg (sh ts.length) (bp _ _)
theorem qU{ts:LL}{ps:List (List Rat×List Rat)}(tw:Tw ts 64990)(hn:ts.length<=1)(hl:ps.length<=2)(hp:∀x∈ps,Nm ts.length 15500000000 x.1/\Nm ts.length 15500000000 x.2):MtOk ts ⟨ts,ps⟩ :=
 ⟨⟨64990,tw,by have:=vu hn;show kB 64990 ts.length<=_;omega⟩,by show ts.length<=2;omega,hl,hp,rO⟩
theorem Em{ts:LL}{X:Et ts}{ps:List (List Rat×List Rat)}(E:ExtP X)(hn:ts.length<=1)(hl:ps.length<=2)(hp:∀x∈ps,Nm (aI ts (sX X)).length 15500000000 x.1/\Nm (aI ts (sX X)).length 15500000000 x.2):MtOk ts ⟨aI ts (sX X),ps⟩ :=
 ⟨⟨366909990,E.tw,by
  have h:=gK 366909990 (show ts.length+1<=2 by omega);have h2:eB 366909990 2=1100729976:=by decide
  show eB 366909990 (aI ts (sX X)).length<=_;rw[d6];omega⟩,by show(aI ts (sX X)).length<=2;rw[d6];omega,hl,hp,my hn⟩
theorem ph{ts:LL}{m:Mt}(ok:MtOk ts m){x:List Rat×List Rat}(hx:x∈m.ps){p c:Rat×Rat}{o:P2 ts}(a1:Nm ts.length 773000000 (sX o.1))(a2:Nm ts.length 773000000 (sX o.2))(hp:Sm 1000 p)(hc:Sm 1000 c)
  (h0:bG (bj c p) (bj c p)≠0):HdP m.ts x ⟨p,o.l,c⟩:=by
 obtain⟨r,tw,hk⟩:=ok.tw;obtain⟨n1,n2⟩:=ok.ps x hx;obtain⟨b1,e1⟩:=ok.up _ _ a1;obtain⟨b2,e2⟩:=ok.up _ _ a2;have hl:lm m.ts.length=200000000000:=by unfold lm;rw[if_pos ok.two]
 refine⟨hp,hc,oP tw n1 b1 (by rw[hl];omega),oP tw n2 b2 (by rw[hl];omega),e1,e2,HL tw ok.two hk ((hc.sub hp).mono oz) (hp.mono oz) h0 ((n1.sub b1).mono oz) ((n2.sub b2).mono oz) ?_ ?_⟩
 ·show Nm m.ts.length 773000000 (sX (dE m.ts (sX o.1)));rw[e1];exact b1
 ·show Nm m.ts.length 773000000 (sX (dE m.ts (sX o.2)));rw[e2];exact b2
theorem jY{α:Type}{P:α->Prop}{x y:α}(hx:P x)(hy:P y):∀z∈[x,y],P z:=by
 intro z hz;rcases List.mem_cons.1 hz with rfl |hz
 ·exact hx
 ·rw[List.mem_singleton.1 hz];exact hy
theorem gH{α:Type}{P:α->Prop}{x:α}(hx:P x):∀z∈[x],P z:=by
 intro z hz;rw[List.mem_singleton.1 hz];exact hx
theorem BD{ts:LL}{x y z x2 y2 z2:Et ts}(tw:Tw ts 64990)(hn:ts.length<=1)(c:Ct ts 310000 65000)(h1:Zu 310000 65000 x 40 40)(h2:Zu 310000 65000 y 40 40)(h3:Zu 310000 65000 z 3 0)(h4:Zu 310000 65000 x2 40 40)(h5:Zu 310000 65000 y2 40 40)(h6:Zu 310000 65000 z2 3 0)
  (h0:eA (x,y) (x2,y2) z z2=0):MtOk ts (dT (x,y) (x2,y2) z z2):=by
 have P:=Bo c h1 h2 h3 h4 h5 h6;have ce:=c.ex;have ck:=c.k1;have cu:=c.u3;haveI cy:Cy ts 310000 65000:=⟨ce,ck,cu,by omega⟩
 unfold eA at h0;unfold dT
 by_cases hd:ak (au (x,y) (x2,y2))=0
 ·rw[if_pos hd]at h0 ⊢;unfold ke at h0;unfold jU
  by_cases hz:ak (z-z2)≠0
  ·rw[if_pos hz];exact qU tw hn (by simp) (by simp)
  ·rw[if_neg hz]
   by_cases hp:0<ak z
   ·rw[if_pos ⟨Decidable.not_not.1 hz,hp⟩]at h0;cases h0
   ·rw[if_neg hp];haveI:=h1;haveI:=h2
    refine qU tw hn (by simp) (gH ⟨?_,?_⟩)
    ·exact(inferInstance:Zu 310000 65000 (x+0*x) _ _).nm.mono (by decide)
    ·exact(inferInstance:Zu 310000 65000 (y+0*y) _ _).nm.mono (by decide)
 ·rw [if_neg hd];have ht0:ak (eg (au (x,y) (x2,y2))) ≠ 0:=by rw [vQ tw]; exact hd
  by_cases hx0:ak (cm (x,y) z (x2,y2) z2)<0
  ·rw[if_pos hx0];exact qU tw hn (by simp) (by simp)
  ·rw[if_neg hx0];obtain⟨_,_,f1,f2⟩:=CD hn h1 h2 h3 h6 P ht0
   by_cases hx1:ak (cm (x,y) z (x2,y2) z2)=0
   ·rw[if_pos hx1];exact qU tw hn (by simp) (gH ⟨f1.nm.mono (by decide),f2.nm.mono (by decide)⟩)
   ·rw[if_neg hx1];have E:ExtP (cm (x,y) z (x2,y2) z2):=nQ tw hn P.zX oz;have S:=GQ (X:=cm (x,y) z (x2,y2) z2) (d:=au (x,y) (x2,y2)) (f:=iy (x,y) (x2,y2) z z2) (v:=f0 (x,y) (x2,y2)) hn E P.zt ht0 f1 f2 P.z1 P.z2;exact Em E hn (by simp) (jY ⟨S.n1.1.nm.mono (by decide),S.n1.2.nm.mono (by decide)⟩ ⟨S.n2.1.nm.mono (by decide),S.n2.2.nm.mono (by decide)⟩)
theorem A7{ts:LL}{o p q:P2 ts}{z:Et ts}(tw:Tw ts 64990)(hn:ts.length<=1)(c:Ct ts 310000 65000)(o1:Zu 310000 65000 o.1 40 40)(o2:Zu 310000 65000 o.2 40 40)(p1:Zu 310000 65000 p.1 40 40)(p2:Zu 310000 65000 p.2 40 40)(q1:Zu 310000 65000 q.1 40 40)(q2:Zu 310000 65000 q.2 40 40)
  (i3:Zu 310000 65000 z 3 0) (h0:fy p q=0):MtOk ts (eI p q o z):=by
 have ce:=c.ex;have ck:=c.k1;have cu:=c.u3;haveI cy:Cy ts 310000 65000:=⟨ce,ck,cu,by omega⟩
 have P:=yX cy p1 p2 q1 q2 o1 o2 i3;unfold fy at h0;unfold eI
 by_cases hs:ak (bu p q)=0
 ·rw[if_pos hs]at h0;cases h0
 ·rw[if_neg hs]
  by_cases h1:ak (bc p q o z)=-1
  ·rw[if_pos h1];exact qU tw hn (by simp) (by simp)
  ·rw[if_neg h1]
   by_cases h2:ak (bc p q o z)=0
   ·rw[if_pos h2];have Q:=It cy hn p1 p2 P hs;exact qU tw hn (by simp) (gH ⟨Q.n1.nm.mono (by decide),Q.n2.nm.mono (by decide)⟩)
   ·rw[if_neg h2]
    have hpos:0<=ak (bc p q o z):=by
     have:=T.sgn_cases (aj ts) ts.length (bc p q o z);have e:ak (bc p q o z)=T.sgn (aj ts) ts.length (bc p q o z):=rfl;omega
    have E:ExtP (bc p q o z):=nQ tw hn (zN P.zX oz oz) hpos;haveI ce:=E.cy;haveI zr:Zl (aI ts (sX (bc p q o z))) 773000000 1101400000 (bX ts.length) (dE _ (bX ts.length)) 1 0:=Zl.at (oL oz) (by decide);haveI ze':=gG (X:=bc p q o z) hn P.ze (by decide);haveI:=zr.zu;haveI:=ze'.zu
    have S1:=wO (p:=p) (v:=aW q p) hn E P.zs hs p1 p2 P.v1 P.v2 (k:=aN (bc p q o z) (cc p q o)+bN (bc p q o z)) inferInstance;have S2:=wO (p:=p) (v:=aW q p) hn E P.zs hs p1 p2 P.v1 P.v2 (k:=aN (bc p q o z) (cc p q o)-bN (bc p q o z)) inferInstance;exact Em E hn (by simp) (jY ⟨S1.n1.nm.mono (by decide),S1.n2.nm.mono (by decide)⟩ ⟨S2.n1.nm.mono (by decide),S2.n2.nm.mono (by decide)⟩)
abbrev pE(r:List AV×Nat):AV:=.tup [.lst 3 r.1,bn r.2]
def ka(l:Li)(a:As)(i k:Int)(j0 j1 j2:Jt):List AV×Nat :=
  if ez [bj (ah l j2 i) (ah l j0 i),bj (ah l j2 k) (ah l j1 k)]=true then([],15)
  else if eA (am l a j0 i) (am l a j1 k) (qE (bb (ah l j2 i) (ah l j0 i))) (qE (bb (ah l j2 k) (ah l j1 k)))≠0 then([],eA (am l a j0 i) (am l a j1 k) (qE (bb (ah l j2 i) (ah l j0 i))) (qE (bb (ah l j2 k) (ah l j1 k))))
  else(fc (dT (am l a j0 i) (am l a j1 k) (qE (bb (ah l j2 i) (ah l j0 i))) (qE (bb (ah l j2 k) (ah l j1 k)))) [⟨ah l j0 i,P2.l (am l a j0 i),ah l j2 i⟩,⟨ah l j1 k,P2.l (am l a j1 k),ah l j2 k⟩]
    (dT (am l a j0 i) (am l a j1 k) (qE (bb (ah l j2 i) (ah l j0 i))) (qE (bb (ah l j2 k) (ah l j1 k)))).ps.length,0)
theorem TA{l:Li}{a:As}(D:DyR l a)(hn:(llq a.rs).length<=1){i k z0 z1 z2:Int}{j0 j1 j2:Jt}(hg:GrOk l ⟨1,[i,k],[z0,z1,z2],0⟩)(P:RrrP 3900000 l a ⟨1,[i,k],[z0,z1,z2],0⟩ i k z0 z1 z2 j0 j1 j2) :
  Con prog 63 [.ptr 1000 0] [(1000,some (cD l ⟨1,[i,k],[z0,z1,z2],0⟩ a))] (pE (ka l a i k j0 j1 j2)) [(1000,some (cD l ⟨1,[i,k],[z0,z1,z2],0⟩ a))]:=by
 haveI c:=D.s.ct D.hc;obtain⟨tw,etw⟩:=bO D.s.tr D.hc;have hq0:=dH D.hl D.li P.h0 P.p0.or;have hq1:=dH D.hl D.li P.h1 P.p1.or;have hq2:=dH D.hl D.li P.h2 P.t1;have hq3:=dH D.hl D.li P.h2 P.t2;obtain⟨y1,y2⟩:=gy D.hl D.li D.al D.s D.hc P.h0 P.p0;obtain⟨y3,y4⟩:=gy D.hl D.li D.al D.s D.hc P.h1 P.p1;haveI:=y1;haveI:=y2;haveI:=y3;haveI:=y4
 haveI q1:=lE hq2 hq0;haveI q2:=lE hq3 hq1;haveI z1:Zu 310000 65000 (qE (bb (ah l j2 i) (ah l j0 i)):Et (llq a.rs)) 3 0:=inferInstance;haveI z2:Zu 310000 65000 (qE (bb (ah l j2 k) (ah l j1 k)):Et (llq a.rs)) 3 0:=inferInstance;have hr:=TD (a:=sX (am l a j0 i).1) (b:=sX (am l a j0 i).2) (c:=sh 0 (bb (ah l j2 i) (ah l j0 i):Rat)) (a2:=sX (am l a j1 k).1) (b2:=sX (am l a j1 k).2) (c2:=sh 0 (bb (ah l j2 k) (ah l j1 k):Rat)) D.s.tr D.hc hn rfl rfl (qD _ _) (qD _ _);have hzz:=Hi [bj (ah l j2 i) (ah l j0 i),bj (ah l j2 k) (ah l j1 k)] (by show 2<=_;omega) (jY ((hq2.sub hq0).mono oz) ((hq3.sub hq1).mono oz));refine gF func63 (fun k z h=>bw h) ?_;refine gt (aY (Pu D.hl D.li D.al D.hc D.two hg P.h0 P.h1 P.h2 P.p0 P.p1 P.t1 P.t2) (cJ rfl) rfl rfl rfl) ?_;refine gC (fun t13=>?_) (fun t13=>?_) (st1:=(3,0));cases t13;refine gc (oE hq2 hq0 oz oz) ?_;refine gc (oE hq3 hq1 oz oz) ?_;refine gc hzz ?_;refine gD ?_;refine gC (fun t23=>?_) (fun t23=>?_)
 ·have h1:ez [bj (ah l j2 i) (ah l j0 i),bj (ah l j2 k) (ah l j1 k)]=true:=t23;refine gR ?_;exact(aA.keep (bh rfl)).sub (by unfold ka;rw[if_pos h1];exact Sub.tup (.cons (.nil _ _ _) (.cons (.refl _) .nil)))
 have h1:ez [bj (ah l j2 i) (ah l j0 i),bj (ah l j2 k) (ah l j1 k)]=false:=t23;obtain⟨w1,w2⟩:=vz h1;refine gc (zB hq0 hq2 _) ?_;refine gc (zB hq1 hq3 _) ?_;refine gc hr ?_;refine gD ?_;refine gC (fun t51=>?_) (fun t51=>?_)
 ·have h2:=dm t51;refine gR ?_;exact(aA.keep (bh rfl)).sub (by unfold ka;rw[if_neg (by rw[h1];decide),if_pos h2];exact Sub.tup (.cons (.nil _ _ _) (.cons (.refl _) .nil)))
 have h2:=cV t51;have ok:=BD (x:=(am l a j0 i).1) (y:=(am l a j0 i).2) (x2:=(am l a j1 k).1) (y2:=(am l a j1 k).2) tw hn c y1 y2 z1 y3 y4 z2 h2;obtain⟨r9,tw9,_⟩:=ok.tw
 have hpl:=Fv tw9 [⟨ah l j0 i,P2.l (am l a j0 i),ah l j2 i⟩,⟨ah l j1 k,P2.l (am l a j1 k),ah l j2 k⟩] (le_refl 2) ok.ln
  (fun x hx=>jY (ph ok hx (y1.nm.mono (by decide)) (y2.nm.mono (by decide)) hq0 hq2 w1) (ph ok hx (y3.nm.mono (by decide)) (y4.nm.mono (by decide)) hq1 hq3 w2))
 refine gc hpl ?_;refine gR ?_;exact(aA.keep (bh rfl)).sub (Sub.of (by unfold ka;rw[if_neg (by rw[h1];decide),if_neg (fun h=>h h2)];rfl))
def kj(l:Li)(a:As)(i:Int)(j0 j:Jt):List AV×Nat :=
  if ez [bj (ax l i j.point) (ah l j0 i)]=true then([],15)
  else if fy (aV l a j.b j.on) (aV l a j.b j.to)≠0 then([],fy (aV l a j.b j.on) (aV l a j.b j.to))
  else(fc (eI (aV l a j.b j.on) (aV l a j.b j.to) (am l a j0 i) (qE (bb (ax l i j.point) (ah l j0 i)))) [⟨ah l j0 i,P2.l (am l a j0 i),ax l i j.point⟩]
    (eI (aV l a j.b j.on) (aV l a j.b j.to) (am l a j0 i) (qE (bb (ax l i j.point) (ah l j0 i)))).ps.length,0)
theorem JM{l:Li}{a:As}(D:DyR l a)(hn:(llq a.rs).length<=1){i z0 z1:Int}{j0 j:Jt}(hg:GrOk l ⟨2,[i],[z0,z1],0⟩)(P:SlP 3900000 l a ⟨2,[i],[z0,z1],0⟩ 2 i z0 z1 j0 j)(ha:j.a=i)(hb:Pd 3900000 a j.b) :
  Con prog 64 [.ptr 1000 0] [(1000,some (cD l ⟨2,[i],[z0,z1],0⟩ a))] (pE (kj l a i j0 j)) [(1000,some (cD l ⟨2,[i],[z0,z1],0⟩ a))]:=by
 haveI c:=D.s.ct D.hc;obtain⟨tw,etw⟩:=bO D.s.tr D.hc;obtain⟨i1,i2,i3,i4,i5⟩:=dk D.li P.h1;have hq2:Sm 1000 (ax l i j.point):=by rw[<- ha];exact gN D.hl D.li i1 i3
 have hq0:=dH D.hl D.li P.h0 P.p0.or;obtain⟨y1,y2⟩:=gy D.hl D.li D.al D.s D.hc P.h0 P.p0;obtain⟨y3,y4⟩:=hO D.hl D.li D.al D.s D.hc i2 i4 hb;obtain⟨y5,y6⟩:=hO D.hl D.li D.al D.s D.hc i2 (i5 P.hk) hb;haveI q1:=lE hq2 hq0;haveI z1:Zu 310000 65000 (qE (bb (ax l i j.point) (ah l j0 i)):Et (llq a.rs)) 3 0:=inferInstance;have hr:=UM (o:=am l a j0 i) (p:=aV l a j.b j.on) (q:=aV l a j.b j.to) (c:=sh 0 (bb (ax l i j.point) (ah l j0 i):Rat)) D.s.tr D.hc hn c y1 y2 y3 y4 y5 y6 (qD _ _);have hzz:=Hi [bj (ax l i j.point) (ah l j0 i)] (by show 1<=_;omega) (gH ((hq2.sub hq0).mono oz));refine gF func64 (fun k z h=>bw h) ?_;refine gt (aY (TF D.hl D.li D.al D.hc D.two hg P.h0 P.h1 P.p0 ha P.hk hb) (cJ rfl) rfl rfl rfl) ?_;refine gC (fun t15=>?_) (fun t15=>?_) (st1:=(3,0));cases t15;refine gc (oE hq2 hq0 oz oz) ?_;refine gc hzz ?_;refine gC (fun t25=>?_) (fun t25=>?_)
 ·have h1:ez [bj (ax l i j.point) (ah l j0 i)]=true:=t25;refine gR ?_;exact(aA.keep (bh rfl)).sub (by unfold kj;rw[if_pos h1];exact Sub.tup (.cons (.nil _ _ _) (.cons (.refl _) .nil)))
 have h1:ez [bj (ax l i j.point) (ah l j0 i)]=false:=t25;have w1:=wg h1;refine gc (zB hq0 hq2 _) ?_;refine gc hr ?_;refine gD ?_;refine gC (fun t48=>?_) (fun t48=>?_)
 ·have h2:=dm t48;refine gR ?_;exact(aA.keep (bh rfl)).sub (by unfold kj;rw[if_neg (by rw[h1];decide),if_pos h2];exact Sub.tup (.cons (.nil _ _ _) (.cons (.refl _) .nil)))
 have h2:=cV t48;have ok:=A7 (o:=am l a j0 i) (p:=aV l a j.b j.on) (q:=aV l a j.b j.to) (z:=qE (bb (ax l i j.point) (ah l j0 i))) tw hn c y1 y2 y3 y4 y5 y6 z1 h2;obtain⟨r9,tw9,_⟩:=ok.tw;have hpl:=Fv tw9 [⟨ah l j0 i,P2.l (am l a j0 i),ax l i j.point⟩] (show 1<=2 by omega) ok.ln (fun x hx=>gH (ph ok hx (y1.nm.mono (by decide)) (y2.nm.mono (by decide)) hq0 hq2 w1));refine gc hpl ?_;refine gR ?_;exact(aA.keep (bh rfl)).sub (Sub.of (by unfold kj;rw[if_neg (by rw[h1];decide),if_neg (fun h=>h h2)];rfl))
end Go.Lw
