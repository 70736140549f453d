/- CertifyRigid: for any linkage, any turns and any three places the law returns true and leaves its arguments as they were. No other condition. Part 6 of 8: what the later parts need -/
import Derived.Test.YtlilpljpajeafaaGreatVe
import Derived.Laws.Cover3
set_option linter.unusedVariables false
open List (mem_of_getElem? mem_append map_cons mem_cons length_cons foldl_cons length_append length_nil getD_eq_getElem?_getD getElem?_append_left getElem?_eq_none all_eq_true getElem?_take getElem?_drop getElem?_map getElem?_append_right getElem?_eq_getElem nil_append getElem?_replicate map_append length_take take_of_length_le drop_zero take_length map_nil not_mem_nil length_map map_map length_replicate map_replicate map_set length_set)
open Nat (eq_of_beq_eq_true le_refl lt_of_lt_of_le lt_or_ge le_trans zero_le pow_add)
open Option (map_eq_some_iff)
open Bool (and_eq_true)
open Array (getD_eq_getD_getElem?)
open Int (toNat_natCast)
open Go.Proofs.Tryz
namespace Go.Lw
open Go.Proofs
theorem Gj{α:Type}{f:List Bool->α->List Bool}{k:List Bool}{l:List α}{i:Nat}{x:α}(h:l[i]?=some x):(l.drop i).foldl f k=(l.drop (i+1)).foldl f (f k x):=by
 have hi:=(List.getElem?_eq_some_iff.1 h).1;rw[List.drop_eq_getElem_cons hi,(List.getElem?_eq_some_iff.1 h).2];rfl
def gL(k:List Bool)(i:Nat):List Int:=((List.range i).filter (fun j=>!k.getD j false)).map (fun j:Nat=>((j:Nat):Int))
theorem G0{k:List Bool}{i:Nat}(h:k.getD i false=false):gL k (i+1)=gL k i++[(i:Int)]:=by
 unfold gL;rw[List.range_succ,List.filter_append,map_append,List.filter_cons,h];rfl
theorem Ht{k:List Bool}{i:Nat}(h:k.getD i false=true):gL k (i+1)=gL k i:=by
 unfold gL;rw[List.range_succ,List.filter_append,map_append,List.filter_cons,h];simp
theorem wb(k:List Bool)(i:Nat):(gL k i).length<=i:=by
 unfold gL;rw[length_map];exact le_trans (List.length_filter_le _ _) (by simp)
theorem rf{α:Type}{f:α->List Int}:∀(gs:List α)(k:List Bool),(gs.foldl (fun k g=>bi k (f g)) k).length=k.length
 |[],k=>rfl
 |g::gs,k=>by rw[foldl_cons,rf gs,jc]
theorem RG(l:Li):(eF (bI l)).length<=l.bo.length:=by
 have h:=wb (bI l) (bI l).length;have e:(bI l).length=l.bo.length:=by unfold bI;rw[rf,gM]
 rw[e]at h;unfold eF;rw[e];exact h
theorem LY(l:Li):(eF (d5 l)).length<=l.jo.length:=by
 have h:=wb (d5 l) (d5 l).length;have e:(d5 l).length=l.jo.length:=by unfold d5;rw[rf,length_replicate]
 rw[e]at h;unfold eF;rw[e];exact h
theorem J8(l:Li)(hl:l.ok)(hli:aB l=0):FP 59 [l.av] (.tup [.lst 1 ((eF (bI l)).map i64),.lst 1 ((eF (d5 l)).map i64)]):=by
 have h8:=(cO hli).2.2.2.1;have h0:=(cO hli).2.2.2.2;have hj16:l.jo.length<=16:=by have:=(cO hli).2.1;unfold eT at this;split at this;cases this;omega
 obtain⟨hgo,hgl⟩:=sj hli;refine ah func59 ?_;refine gt (ay (yU 900 rfl l oz 0 oz) (.cons (.tmp rfl) (.cons (.const _) .nil)) az rfl rfl) ?_;refine gl ?_;refine gs (gS (.tmp rfl) T218 rfl T4 rfl rfl oz (by dsimp only;omega) rfl) ?_;refine gD ?_ (2,0);refine gW (Wk.of (sl:=[(1,some (.ptr 1 0)),(2,some (nS)),(3,some (nS)),(4,some (.ms 900 1 0 (cz l.bo.length 0).length)),(5,some (.ms 21 1 0 (List.replicate l.jo.length false).length))]) (hp:=[(1,some (.box l.av.cells)),(900,some (.row 1 ((cz l.bo.length 0).map bl))),(21,some (.row 1 ((List.replicate l.jo.length false).map bl)))]) (.k (.k (.k (.cons rfl (Sub.of (by rw[gM])) (.cons rfl (Sub.of (by rw[length_replicate,toNat_natCast])) .nil))))) (.k (.k (.cons rfl (BlkSub.of (by rw[map_replicate,toNat_natCast];rfl)) .nil)))) ?_ (2,0)
 refine gW (Wk.rk (k:=21) (d:=901) rfl rfl) ?_;refine gc (Fu l hl hli) ?_;refine gl ?_;refine iR [1,2,3,23,24] [1] (fun(i:Nat)(k1 k2:List Bool)=>[(4,some (.ms 900 1 0 k1.length)),(5,some (.ms 901 1 0 k2.length)),(25,some (i64 i))]) (fun _ k1 k2=>[(900,some (.row 1 (k1.map bl))),(901,some (.row 1 (k2.map bl)))]) (fun i k1 k2=>i<=(cr l).length/\k1.length=l.bo.length/\k2.length=l.jo.length/\((cr l).drop i).foldl (fun k g=>bi k g.bo) k1=bI l/\((cr l).drop i).foldl (fun k g=>bi k g.jo) k2=d5 l) (fun i _ _=>(cr l).length-i) 0 (cz l.bo.length 0) (List.replicate l.jo.length false) ⟨zero_le _,gM _ _,length_replicate,rfl,rfl⟩ ?_
 rintro i k1 k2 ⟨hi,hk1,hk2,hf1,hf2⟩ K1 J1;refine gC (fun t26=>?_) (fun t26=>?_)
 ·have hin:=aQ t26;obtain⟨g,hg⟩:=au hin;have hgk:=hgo g (mem_of_getElem? hg);have hlb:=hgk.lb;have hlj:=hgk.lj;refine gi (ax hg) ?_;refine gl ?_;refine gx [1,2,3,7,23,24,25,30,31] [1,7,901] (fun(q:Nat)(kk:List Bool)=>[(4,some (.ms 900 1 0 kk.length)),(5,some (.ms 901 1 0 k2.length)),(32,some (i64 q))]) (fun _ kk=>[(900,some (.row 1 (kk.map bl)))]) (fun q kk=>q<=g.bo.length/\kk.length=l.bo.length/\bi kk (g.bo.drop q)=bi k1 g.bo) (fun q _=>g.bo.length-q) 0 k1 ⟨zero_le _,hk1,rfl⟩ ?_;rintro q kk ⟨hq,hkk,hmk⟩ K2 J2;refine gC (fun t33=>?_) (fun t33=>?_)
  ·have hqn:=aQ t33;obtain⟨x,hx⟩:=au hqn;have hxb:=hgk.b x (mem_of_getElem? hx);obtain⟨v,hv⟩:∃v,kk[x.toNat]?=some v:=au oz;refine gi (ax hx) ?_;refine gs (mg (.tmp rfl) (.tmp rfl) T218 rfl T4 rfl oz oz rfl) ?_;refine gs (dG (.tmp rfl) rfl (by rw[Nat.zero_add,getElem?_map,hv];rfl) rfl (.const _) rfl rfl T4 rfl rfl) ?_;refine ga aF ?_;exact fY J2 (q+1) (kk.set x.toNat true) ⟨hqn,by rw[length_set];exact hkk,by rw[<- zg hx];exact hmk⟩ (hw:=Wk.of (.cons rfl (Sub.of (by rw[length_set])) (.k (.k (.k (.k (.k (.k (.k (.k (.k (.k (.k .nil)))))))))))) (.cons rfl (BlkSub.of (by rw[map_set,Nat.zero_add];rfl)) (.k (.k (.k .nil)))))
  have hqn:=a6 hq t33;have hmk2:kk=bi k1 g.bo:=by rw[hqn,List.drop_length]at hmk;exact hmk
  refine gl ?_;refine gx [1,2,3,23,24,25,41,42] [1,900] (fun(p:Nat)(jj:List Bool)=>[(4,some (.ms 900 1 0 kk.length)),(5,some (.ms 901 1 0 jj.length)),(43,some (i64 p))]) (fun _ jj=>[(901,some (.row 1 (jj.map bl)))]) (fun p jj=>p<=g.jo.length/\jj.length=l.jo.length/\bi jj (g.jo.drop p)=bi k2 g.jo) (fun p _=>g.jo.length-p) 0 k2 ⟨zero_le _,hk2,rfl⟩ ?_;rintro p jj ⟨hp,hjj,hmj⟩ K3 J3;refine gC (fun t44=>?_) (fun t44=>?_)
  ·have hpn:=aQ t44;obtain⟨x,hx⟩:=au hpn;have hxb:=hgk.j x (mem_of_getElem? hx);obtain⟨v,hv⟩:∃v,jj[x.toNat]?=some v:=au oz;refine gi (ax hx) ?_;refine gs (mg (.tmp rfl) (.tmp rfl) T218 rfl T4 rfl oz oz rfl) ?_;refine gs (dG (.tmp rfl) rfl (by rw[Nat.zero_add,getElem?_map,hv];rfl) rfl (.const _) rfl rfl T4 rfl rfl) ?_;refine ga aF ?_;exact fY J3 (p+1) (jj.set x.toNat true) ⟨hpn,by rw[length_set];exact hjj,by rw[<- zg hx];exact hmj⟩ (hw:=Wk.of (.k (.cons rfl (Sub.of (by rw[length_set])) (.k (.k (.k (.k (.k (.k (.k (.k (.k .nil))))))))))) (.cons rfl (BlkSub.of (by rw[map_set,Nat.zero_add];rfl)) (.k (.k .nil))))
  have hpn:=a6 hp t44;have hmj2:jj=bi k2 g.jo:=by rw[hpn,List.drop_length]at hmj;exact hmj
  refine ga aF ?_;exact gP J1 (i+1) kk jj ⟨hin,hkk,hjj,by rw[hmk2,<- hf1,Gj hg],by rw[hmj2,<- hf2,Gj hg]⟩
 have hin:=a6 hi t26;have e1:k1=bI l:=by rw[hin,List.drop_length]at hf1;exact hf1
 have e2:k2=d5 l:=by rw[hin,List.drop_length]at hf2;exact hf2
 refine gW (Wk.virt 902 1 rfl) ?_;refine aI [3,53] [900,901] (fun(i:Nat)=>[(2,some (.ms 902 1 0 (gL k1 i).length)),(5,some (.ms 901 1 0 k2.length)),(52,some (.ms 900 1 0 k1.length)),(54,some (i64 i))]) (fun i=>[(902,some (.row 1 ((gL k1 i).map i64)))]) (fun i=>i<=k1.length) (fun i=>k1.length-i) 0 (zero_le _) ?_;rintro i ha K4 J4;refine gC (fun t55=>?_) (fun t55=>?_) (st2:=(22,0))
 ·have hin6:=aQ t55;obtain ⟨v,hv⟩:=au hin6;have hvd:k1.getD i false = v:=aC hv;have hul:=wb k1 i;refine gs (mg (.tmp rfl) (.tmp rfl) T218 rfl T4 rfl oz oz rfl) ?_;refine gs (dX (.tmp rfl) rfl (by rw [Nat.zero_add,toNat_natCast,getElem?_map,hv]; rfl) T4 rfl rfl rfl) ?_;refine gC (fun t60=>?_) (fun t60=>?_)
  ·have hu := G0 (k := k1) (i := i) (by rw [hvd]; exact cS t60);refine gs (cf (.tmp rfl) rfl (by rw [length_map]) (.tmp rfl) T39 rfl T3 rfl rfl (by dsimp only; simp only [length_cons,length_nil]; omega) rfl rfl) ?_ (21,0);refine gW (Wk.of (sl:=[(2,some (.ms 64 1 0 (gL k1 (i + 1)).length)),(3,some (nS)),(5,some (.ms 901 1 0 k2.length)),(52,some (.ms 900 1 0 k1.length)),(53,some (i64 k1.length)),(54,some (i64 i))]) (hp:=[(900,some (.row 1 (k1.map bl))),(901,some (.row 1 (k2.map bl))),(64,some (.row 1 ((gL k1 (i + 1)).map i64)))]) (.cons rfl (Sub.of (by rw [hu,length_append]; rfl)) (.k (.k (.k (.k (.k .nil)))))) (.k (.k (.cons rfl (BlkSub.of (by rw [hu,map_append]; rfl)) .nil)))) ?_ (21,0)
   refine gW (Wk.rk (k:=64) (d:=902) rfl rfl) ?_;refine ga aF ?_;exact aE J4 (i+1) hin6 (hw:=Wk.of (.cons rfl (Sub.of (by first |rw[hu];done |rfl)) (.k (.k (.k (.k (.k .nil)))))) (.cons rfl (BlkSub.of (by first |rw[hu];done |rfl)) (.k (.k .nil))))
  have hu:=Ht (k:=k1) (i:=i) (by rw[hvd];exact cT t60);refine ga aF ?_;exact aE J4 (i+1) hin6 (hw:=Wk.of (.cons rfl (Sub.of (by first |rw[hu];done |rfl)) (.k (.k (.k (.k (.k .nil)))))) (.cons rfl (BlkSub.of (by first |rw[hu];done |rfl)) (.k (.k .nil))))
 have hin6:=a6 ha t55;refine gW ((Wk.freeze (k:=902) rfl).trans<|Wk.of (sl:=[(2,some (.lst 1 ((eF (bI l)).map i64))),(3,some (nS)),(5,some (.ms 901 1 0 k2.length))]) (hp:=[(901,some (.row 1 (k2.map bl)))]) (.cons rfl (Sub.of (by rw[bN (by rw[length_map]),hin6,e1];rfl)) (.k (.k .nil))) (.k .nil)) ?_;refine gW (Wk.virt 902 1 rfl) ?_;refine aI [2,67] [901] (fun(i:Nat)=>[(3,some (.ms 902 1 0 (gL k2 i).length)),(66,some (.ms 901 1 0 k2.length)),(68,some (i64 i))]) (fun i=>[(902,some (.row 1 ((gL k2 i).map i64)))]) (fun i=>i<=k2.length) (fun i=>k2.length-i) 0 (zero_le _) ?_;rintro i hb K5 J5;refine gC (fun t69=>?_) (fun t69=>?_) (st2:=(28,0))
 ·have hin8:=aQ t69;obtain ⟨v,hv⟩:=au hin8;have hvd:k2.getD i false = v:=aC hv;have hul:=wb k2 i;refine gs (mg (.tmp rfl) (.tmp rfl) T218 rfl T4 rfl oz oz rfl) ?_;refine gs (dX (.tmp rfl) rfl (by rw [Nat.zero_add,toNat_natCast,getElem?_map,hv]; rfl) T4 rfl rfl rfl) ?_;refine gC (fun t74=>?_) (fun t74=>?_)
  ·have hu := G0 (k := k2) (i := i) (by rw [hvd]; exact cS t74);refine gs (cf (.tmp rfl) rfl (by rw [length_map]) (.tmp rfl) T39 rfl T3 rfl rfl (by dsimp only; simp only [length_cons,length_nil]; omega) rfl rfl) ?_ (27,0);refine gW (Wk.of (sl:=[(2,some (.lst 1 ((eF (bI l)).map i64))),(3,some (.ms 78 1 0 (gL k2 (i + 1)).length)),(66,some (.ms 901 1 0 k2.length)),(67,some (i64 k2.length)),(68,some (i64 i))]) (hp:=[(901,some (.row 1 (k2.map bl))),(78,some (.row 1 ((gL k2 (i + 1)).map i64)))]) (.k (.cons rfl (Sub.of (by rw [hu,length_append]; rfl)) (.k (.k (.k .nil))))) (.k (.cons rfl (BlkSub.of (by rw [hu,map_append]; rfl)) .nil))) ?_ (27,0)
   refine gW (Wk.rk (k:=78) (d:=902) rfl rfl) ?_;refine ga aF ?_;exact aE J5 (i+1) hin8 (hw:=Wk.of (.cons rfl (Sub.of (by first |rw[hu];done |rfl)) (.k (.k (.k (.k .nil))))) (.cons rfl (BlkSub.of (by first |rw[hu];done |rfl)) (.k .nil)))
  have hu:=Ht (k:=k2) (i:=i) (by rw[hvd];exact cT t74);refine ga aF ?_;exact aE J5 (i+1) hin8 (hw:=Wk.of (.cons rfl (Sub.of (by first |rw[hu];done |rfl)) (.k (.k (.k (.k .nil))))) (.cons rfl (BlkSub.of (by first |rw[hu];done |rfl)) (.k .nil)))
 have hin8:=a6 hb t69;refine gW ((Wk.freeze (k:=902) rfl).trans<|Wk.of (sl:=[(2,some (.lst 1 ((eF (bI l)).map i64))),(3,some (.lst 1 ((eF (d5 l)).map i64)))]) (hp:=[]) (.k (.cons rfl (Sub.of (by rw[bN (by rw[length_map]),hin8,e2];rfl)) .nil)) .nil) ?_;refine ba ?_;rfl
theorem Nh(l:Li)(hl:l.ok)(hli:aB l=0):FP 15 [l.av] (.tup [.lst 4 ((aN l).map Gr.av),i64 (cH l)]):=by
 have h8:=(cO hli).2.2.2.1;have hj16:l.jo.length<=16:=by have:=(cO hli).2.1;unfold eT at this;split at this;cases this;omega
 have u1:=RG l;have u2:=LY l;refine ah func15 ?_;refine gc (J8 l hl hli) ?_;refine gl ?_;refine gl ?_;refine ga (c9 oz) ?_;refine gC (fun t16=>?_) (fun t16=>?_)
 ·have h1:0 < (eF (bI l)).length + (eF (d5 l)).length:=jf t16;have hE:cH l = 7:=by unfold cH; rw [if_neg oz]
  refine gR ?_;exact eH (by unfold aN;rw[if_neg (by rw[hE];decide),hE];exact Sub.tup (.cons (.nil _ _ _) (.cons (.refl _) .nil)))
 have h1:(eF (bI l)).length+(eF (d5 l)).length<=0:=gH t16;have hE:cH l=0:=by unfold cH;rw[if_pos oz]
 refine gc (Fu l hl hli) ?_;refine ba ?_;unfold aN;rw[if_pos hE,hE];rfl
variable{P:Program}{N:Nat}{R:Array Oper}{s:AS}{pos:String}{after:Array Edge}
theorem xH{d:Nat}{x:Operand}{n:Nat}{z:Value}{T E t:TypeId}{ti te:TI}(hx:Ev s x (.v (.int .i64 n)))
    (hT:ao P T=some ti) (hk:ti.k=.slice E) (hE:ao P E=some te) (hz:te.zero=[z]) (hz1:z.oneCell'=true) (hs:Nat.beq te.size 1=true) (hbb:Nat.blt 0 te.bytes=true)
    (hb:(n:Int)*te.bytes<=281474976710656) (hN:Nat.blt d N=true) :
    Step P N R s ⟨some d,.makeSlice T x x,t,pos,after,none⟩
      ⟨some (.ms d 1 0 n),[(d,some (.vec (List.replicate n z)))],ak x,[]⟩ :=
  tp rfl rfl hN (by simp) fun s' hag hfr C m a w hr => by
    have hxv:=mH hr (hx.agree hag (fun _ h=>h));have hs:=eq_of_beq_eq_true hs;rw[Nat.blt_eq]at hbb;obtain⟨d2,h3,h4,-,-⟩:=dH hT w;obtain rfl:=ja (h4.trans hk);obtain⟨zv,h5,h6⟩:=qB hE w;obtain⟨ie,h7,h8,-⟩:=GD hE w;have h6':zv.cells.toList=[z]:=h6.trans hz;have hzc:zv.cells=#[z]:=by rw[<- Array.toArray_toList (xs:=zv.cells),h6']
    have hnb:(n:Int)<=281474976710656:=by
      have:(n:Int)*1<=n*te.bytes:=Int.mul_le_mul_of_nonneg_left oz oz;omega
    have hw1:IntKind.i64.wrap (n:Int)=n:=IntWalk.i64_in n oz;obtain⟨zero,hzero⟩:∃zero:Array Value,zero=(if n*te.size=0 then #[]else zv.cells):=⟨_,rfl⟩
    refine⟨.slice (some ⟨w.heap.size,0,none⟩) n n,(Array.range (n*te.size)).map (zero[· % zero.size]!),E,w.drawn,?_,?_,?_,?_⟩
    · have hmk:(Instr.makeSlice T (.int .i64 n) (.int .i64 n)).run P w =
          .ok (.slice (some ⟨w.heap.size,0,none⟩) n n) { w with heap:=w.heap.push (.cells ((Array.range (n*te.size)).map (zero[· % zero.size]!)) E) }:=by
        have hc:¬(((n:Int)<0\/281474976710656<(ie.bytes:Int)*n)\/(n:Int)<0):=by
          rw[h8,Int.mul_comm];omega
        simp only[Instr.makeSlice,Sem.run_bind,h3,Result.andThen_ok,asInt,asIntOf,Sem.run_pure,h7,hw1];rw[if_neg (by simpa using hc)];simp only[Sem.run_bind,run_askRoom,Result.andThen_ok,fv hE,toNat_natCast]
        by_cases h0:n*te.size=0
        · rw[if_pos h0]at hzero ⊢
          subst hzero;simp only[Sem.run_bind,Sem.run_pure,Result.andThen_ok,newRow,run_newObj]
        · rw[if_neg h0]at hzero ⊢
          subst hzero;simp only[Sem.run_bind,Sem.run_pure,Result.andThen_ok,h5,newRow,run_newObj]
      simp only[execOp,hxv,Sem.run_bind,hmk,Result.andThen_ok,Sem.run_pure]
    · exact fun h=>h
    · intro g S m' w' hg hS hm hw
      refine .vec hw ?_ (fun v hv=>by rw[List.eq_of_mem_replicate hv];exact hz1);apply List.ext_getElem?;intro j;rw[Array.getElem?_toList,getElem?_replicate]
      by_cases hj:j<n
      · have hpos : ¬ n * te.size = 0 := by rw [hs]; omega
        rw[if_neg hpos,hzc]at hzero;subst hzero;rw[if_pos hj];simp only[Array.getElem?_map,Array.getElem?_range,show j<n*te.size by rw[hs];omega,if_true,Option.map_some,Option.some.injEq];simp[Nat.mod_one]
      · rw[if_neg hj,Array.getElem?_eq_none (by simp[hs];omega)]
    · intro g S m' hm hS
      have:=Rep.ms (g:=g) (S:=S) (m:=m') (k:=d) (sz:=1) (off:=0) (len:=n) (cap:=n) hm (le_refl _) (by simpa[hs]using hS);simpa using this
theorem wl{x y:Operand}{k i:Nat}{vs:List Value}{v:Value}{T t:TypeId}{ti:TI}
  (hx:Ev s x (.eptr k 1 i 0)) (hk:s.blk k=some (.vec vs)) (hi:i<vs.length) (hy:Ev s y (.v v)) (hv:v.oneCell'=true) (hT:ao P T=some ti) (hsz:Nat.beq ti.size 1=true) :
  Step P N R s ⟨none,.store T x y,t,pos,after,none⟩ ⟨none,[(k,some (.vec (vs.set i v)))],ak x++ak y,[k]⟩ :=
 yI rfl rfl (by simp) hk fun s' hag C m a w hr => by
  have hsz:=eq_of_beq_eq_true hsz;obtain⟨b,hm,hxv⟩:=v7 hr (hx.agree hag (fun _ h=>List.mem_append.2 (.inl h)));have hyv:=mH hr (hy.agree hag (fun _ h=>List.mem_append.2 (.inr h)));have hb:=hr.heap.blk k _ ((hag.2 k (by simp)).trans hk);rw[hm]at hb;cases hb with
  | @vec _ _ c t2 hw hc h1 =>
   have hcs:c.size=vs.length:=by rw[<- hc];simp
   have hvc:v.cells=#[v]:=by cases v <;> simp_all [Value.cells,Value.oneCell']
   refine⟨b,c,(over c.toList i v.cells.toList).toArray,t2,hm,hw,?_,?_,?_⟩
   ·simp[over,hvc];omega
   ·have hrun := zH (P := P) (off := i) (v := v) hT hw (by rw[hvc,hsz];rfl) oz (by rw[hvc];simpa using hv);simp[execOp,Instr.storeAt,hxv,Instr.sureAddr,hyv,hrun]
   ·intro g S w' hg hS hw';refine .vec hw' ?_ (fun u hu=>?_)
    ·rw[hc,hvc];unfold over;rw[List.set_eq_take_append_cons_drop,if_pos hi];simp
    ·rcases List.mem_or_eq_of_mem_set hu with h9 |h9
     ·exact h1 u h9
     ·rw[h9];exact hv
inductive Lent(H:Hp)(hid:List Nat):AV->AV->Prop
  |same {x:AV} (h:x.nm=[]):Lent H hid x x
  |ms {k off len:Nat} {vs:List Value} (hk:lk H k=some (.vec vs)) (hh:k∉hid) (hl:off+len<=vs.length) (hm:vs.length<=aS):Lent H hid (.ms k 1 off len) (.lst 1 (((vs.drop off).take len).map .v))
theorem FJ{g:Nat->Array Value->Prop}{S:Nat->Nat->Prop}{m:Nat->Option Nat}{u y:Value}(h:Rep g S m u (.v y)):u=y:=by cases h;rfl
theorem uR{m:Nat->Option Nat}{b:Nat}:¬aW [] m b:=by rintro⟨k,x,h,_⟩;cases h
def rh(ext:Nat->Prop)(H:Hp)(hid:List Nat)(m:Nat->Option Nat)(b:Nat):Prop:=ext b\/∃k z,k∈hid/\lk H k=some z/\m k=some b
theorem Q7{ext:Nat->Prop}{H:Hp}{hid:List Nat}{m m2:Nat->Option Nat}{w:World}{b:Nat}{cs:Array Value}(h:Im ext H m w b cs):Im (rh ext H hid m) [] m2 w b cs :=
 ⟨fun h'=>h'.elim h.1 (fun⟨k,z,_,hz,hb⟩=>h.2.1 ⟨k,z,hz,hb⟩),uR,h.2.2⟩
theorem Di{ext:Nat->Prop}{H:Hp}{hid:List Nat}{m:Nat->Option Nat}{w:World}(hh:HeapRel ext H m w){k b:Nat}{z:Blk}(hk:lk H k=some z)(hb:m k=some b)(hn:k∉hid):¬rh ext H hid m b:=by
 rintro(h |⟨k',z',h1,h2,h3⟩)
 ·exact(hh.sep k z b hk hb).1 h
 ·have:=hh.inj k k' z z' b hk h2 hb h3;subst this;exact hn h1
theorem Lent.rep{ext:Nat->Prop}{H:Hp}{hid:List Nat}{m:Nat->Option Nat}{w:World}(hh:HeapRel ext H m w){x x':AV}(h:Lent H hid x x') :
  ∀{v:Value},Rep (Im ext H m w) (Sz w) m v x->∀m2:Nat->Option Nat,Rep (Im (rh ext H hid m) [] m w) (Sz w) m2 v x':=by
 cases h with
 |same hn=>intro v hv m2;exact(i9 hn hv).mono (fun _ _ h=>Q7 h) (fun _ _ h=>h) (fun _ _ _ h=>h)
 | @ms k off len vs hk hnh hl hm =>
  intro v hr m2;have hb:=hh.blk k _ hk;cases hr with
  |ms0 a=>simp only[List.take_zero];exact .lst0 _ _ _
  | @ms _ _ _ _ _ cap b hmk hc hS =>
   rw[hmk]at hb;cases hb with
   | @vec _ _ c t hw hcv h1 =>
    have hcs:c.size=vs.length:=by rw[<- hcv];simp
    have hlen:(((vs.drop off).take len).map AV.v).length=len:=by rw[length_map,length_take,List.length_drop];omega
    have he':∀(i:Nat)(e:AV),(((vs.drop off).take len).map AV.v)[i]?=some e->∃u,e=.v u/\c[off+i]?=some u/\u∈vs:=by
     intro i e he;rw[getElem?_map,map_eq_some_iff]at he;obtain⟨u,he,rfl⟩:=he;rw[getElem?_take]at he;split at he
     ·rw[getElem?_drop]at he;exact⟨u,rfl,by rw[<- Array.getElem?_toList,hcv];exact he,mem_of_getElem? he⟩
     ·cases he
    have:=Rep.lst (g:=Im (rh ext H hid m) [] m w) (S:=Sz w) (m:=m2) (b:=b) (off:=off) (cap:=cap) (sz:=1) (es:=((vs.drop off).take len).map AV.v) (cs:=c) (fun i j=>c.getD (off+i) undef)
     ⟨Di hh hk hmk hnh,uR,t,(0,0),hw⟩ oz oz ?_ ?_ ?_ ?_
    ·rw[hlen]at this;simpa using this
    ·intro i e he;obtain⟨u,rfl,_⟩:=he' i e he;rfl
    ·intro i j e x he hx;obtain⟨u,rfl,_,hm⟩:=he' i e he;cases j with
     |zero=>cases hx;exact h1 u hm
     |succ j=>cases hx
    ·intro i j e x he hx;obtain⟨u,rfl,hu,_⟩:=he' i e he;cases j with
     |zero=>rw[Nat.mul_one,Nat.add_zero,getD_eq_getD_getElem?,hu];rfl
     |succ j=>cases hx
    ·intro i j e x he hx;obtain⟨u,rfl,hu,_⟩:=he' i e he;cases j with
     |zero=>cases hx;rw[getD_eq_getD_getElem?,hu];exact .v _
     |succ j=>cases hx
def G4:AV->Bool
  | .v (.int _ _)=>true
  |_=>false
def C4:AV->Bool
  | .v (.int _ _)=>false
  | .v _=>true
  | .lst _ _=>true
  | .ms _ _ _ _=>true
  |_=>false
mutual
def AV.li:AV->Bool
  | .v _=>true
  | .agg cs=>AV.lis cs
  | .tup cs=>AV.lis cs
  | .lst sz es=>Nat.beq sz 1&&es.all G4
  |_=>false
def AV.lis:List AV->Bool
  |[]=>true
  |x::l=>x.li&&AV.lis l
end
theorem AV.lis_mem:∀{l:List AV}{c:AV},AV.lis l=true->c∈l->c.li=true
 |x::l,c,h,hc=>by
  simp only[AV.lis,and_eq_true]at h;rcases List.mem_cons.1 hc with rfl |hc
  ·exact h.1
  ·exact AV.lis_mem h.2 hc
theorem M0{g:Nat->Array Value->Prop}{S:Nat->Nat->Prop}{m:Nat->Option Nat}{u:Value}{x:AV}(hx:C4 x=true)(h:Rep g S m u x)(kk:IntKind)(z:Int):u≠.int kk z:=by
 rintro rfl;cases h <;> cases hx
theorem Oh{g g':Nat->Array Value->Prop}{S S':Nat->Nat->Prop}{m m':Nat->Option Nat}{v:Value}{x:AV}(hx:x.li=true)
  (hg:∀b cs (o:Nat)(kk:IntKind)(z:Int),cs[o]?=some (.int kk z)->g b cs->g' b cs) (h:Rep g S m v x):Rep g' S' m' v x:=by
 induction h with
 |v=>exact .v _
 |agg hn h1 hr ih=>exact .agg hn h1 (fun j u c hu hc=>ih j u c hu hc (AV.lis_mem hx (mem_of_getElem? hc)))
 |tup hn hr ih=>exact .tup hn (fun j u c hu hc=>ih j u c hu hc (AV.lis_mem hx (mem_of_getElem? hc)))
 |lst0 a cap sz=>exact .lst0 _ _ _
 | @lst _ b off cap sz es cs u hb hc hl hs h1 hu hr _ =>
  simp only[AV.li,and_eq_true]at hx;have hsz:=eq_of_beq_eq_true hx.1;subst hsz
  match es,hx,hc,hl,hs,h1,hu,hr with
  |[],_,_,_,_,_,_,_=>exact .lst0 _ _ _
  |e::es,hx,hc,hl,hs,h1,hu,hr =>
   have hcell:∀(i j:Nat)(e' c:AV),(e::es)[i]?=some e'->e'.cells[j]?=some c->∃kk z,c=.v (.int kk z):=by
    intro i j e' c he hc';have h9:=List.all_eq_true.1 hx.2 e' (mem_of_getElem? he);cases e' with
    |v y=>cases y with
     |int kk z =>
      cases j with
      |zero=>cases hc';exact⟨_,_,rfl⟩
      |succ j=>cases hc'
     |_=>cases h9
    |_=>cases h9
   have he0:∃kk z,e=.v (.int kk z):=by
    have h9:=List.all_eq_true.1 hx.2 e (by simp);cases e with
    |v y=>cases y with
     |int kk z=>exact⟨_,_,rfl⟩
     |_=>cases h9
    |_=>cases h9
   obtain⟨kk,z,rfl⟩:=he0;have h8:=hu 0 0 _ _ rfl rfl;have h7:=hr 0 0 _ _ rfl rfl;have h6:u 0 0=.int kk z:=FJ h7;rw[h6]at h8;refine .lst u (hg b cs _ kk z h8 hb) hc hl hs h1 hu (fun i j e' c he hc'=>?_);obtain⟨k2,z2,rfl⟩:=hcell i j e' c he hc';rw[FJ (hr i j _ _ he hc')];exact .v _
 |_=>cases hx
theorem Con.lend{f:FuncId}{k:Nat}{cs:List AV}{cs':Value->List AV}{H:Hp}{r:AV}(hid:List Nat)(j0:Nat)(hk:lk H k=some (.box cs))(hkh:k∉hid)
  (hc:∀v:Value,v.oneCell'=true->(cs' v).length=cs.length/\(∀(j:Nat)(x:AV),(cs' v)[j]?=some x->x.one=true) /\
   ∀(j:Nat)(x x':AV),cs[j]?=some x->(cs' v)[j]?=some x'->(j=j0/\x'=.v v)\/Lent H hid x x')
  (hj:j0<cs.length)
  (hH:∀k z,lk H k=some z->k∈hid\/(∃cs,z=.box cs/\cs.all C4=true)\/∃vs,z=.vec vs/\∀v∈vs,∀kk z,v≠.int kk z) (hr:r.li=true) (h:∀v:Value,iH P f [.iptr (cs' v)] r):Con P f [.ptr k 0] H r H:=by
 refine⟨(h undef).ok,?_⟩;intro ext m w vs hext hheap hvs hrep;have hsz:0<vs.size:=by rw[hvs];exact Nat.one_pos
 have hr0:=hrep 0 vs[0] _ (Array.getElem?_eq_getElem hsz) rfl;have hb:=hheap.blk k _ hk;generalize hv0:vs[0]=v0 at hr0;cases hr0 with
 | @ptr _ _ _ b hmk =>
  rw[hmk]at hb;cases hb with
  | @box _ _ c t hw hn h1 hrr =>
   have hj0:j0<c.size:=by omega
   have hx0:=getElem?_eq_getElem (l:=cs) (i:=j0) oz;have hone:(c[j0]).oneCell'=true:=(hrr j0 _ _ (Array.getElem?_eq_getElem hj0) hx0).one (h1 j0 _ hx0);obtain⟨g1,g2,g3⟩:=hc c[j0] hone
   have hext':∀b,rh ext H hid m b->b<w.heap.size:=by
    rintro b (h9 |⟨k',z',_,h2,h3⟩)
    ·exact hext b h9
    ·exact(hheap.sep k' z' b h2 h3).2
   have hcall := (h c[j0]).ret (rh ext H hid m) m w vs hext' ⟨fun k z hz => by (cases hz), fun k k' x x' b hx => by (cases hx), fun k x b hx => by (cases hx)⟩ (by rw [hvs]; rfl) (by
    intro j v x hv hx
    match j,hx with
    |0,hx =>
     cases hx;rw[Array.getElem?_eq_getElem hsz,hv0]at hv;cases hv;refine .iptr (cs:=c) (fun j=>c.getD j undef) ⟨Di hheap hk hmk hkh,uR,t,(0,0),hw⟩ g2 ?_ ?_
     ·intro j x hx;have hlt:j < c.size:=by rw [hn,<- g1]; exact (List.getElem?_eq_some_iff.1 hx).1
      rw[Nat.zero_add,getD_eq_getD_getElem?,Array.getElem?_eq_getElem hlt];rfl
     ·intro j x hx;have hlt:j < c.size:=by rw [hn,<- g1]; exact (List.getElem?_eq_some_iff.1 hx).1
      obtain⟨y,hy⟩:=iI g1 hx;have hcv:c[j]?=some (c.getD j undef):=by rw[getD_eq_getD_getElem?,Array.getElem?_eq_getElem hlt];rfl
      rcases g3 j y x hy hx with⟨rfl,rfl⟩ |hl
      ·have : c.getD j undef = c[j] := by rw [Array.getElem?_eq_getElem hlt] at hcv; exact (Option.some.inj hcv).symm
       rw[this];exact .v _
      ·exact hl.rep hheap (hrr j _ y hcv hy) db)
   refine Calls.mono hcall ?_;rintro e w' ⟨v,m',rfl,hf,hh,hnew,hkeep,hres⟩;have hkeepB:∀b,b<w.heap.size->w'.heap[b]?=w.heap[b]? := fun b hb=>hf.keep b hb uR
   have hframe:Frame (aW H m) w w':=⟨hf.os,hf.tape,hf.output,hf.size,hf.sz,fun b hb _=>hkeepB b hb⟩
   have him:=eP (ext:=ext) hframe (hp':=H) (m':=m) (fun k x b hk hb=>.inl ⟨k,x,hk,hb⟩);refine⟨v,m,rfl,hframe,⟨?_,hheap.inj,?_⟩,fun k x b hk hb=>.inl ⟨k,x,hk,hb⟩,fun _ _ _ _ _=>rfl,?_⟩
   ·intro k z hz;exact BlkRep.mono (w:=w) him hf.sz (fun _ _ _ h=>h) rfl (fun b hb=>hkeepB b (hheap.sep k z b hz hb).2) (hheap.blk k z hz)
   ·intro k z b hz hb;have:=hheap.sep k z b hz hb;exact⟨this.1,lt_of_lt_of_le this.2 hf.size⟩
   ·refine Oh hr ?_ hres;rintro b2 cs2 o kk z ho ⟨g1,g2,t2,fl,g3⟩;refine⟨fun h9=>g1 (.inl h9),?_,t2,fl,g3⟩;rintro⟨k2,y,hk2,hb2⟩;have hlt:=fun b hb=>(hheap.sep k2 _ b hk2 hb).2
    have h3:=hheap.blk k2 _ hk2;rw[hb2]at h3;rcases hH k2 y hk2 with h9 |⟨cl,rfl,hcl⟩ |⟨vs2,rfl,hvl⟩
    ·exact g1 (.inr ⟨k2,y,h9,hk2,hb2⟩)
    ·cases h3 with
     | @box _ _ c2 t' hw2 hn2 h12 hrr2 =>
      have hcc:c2=cs2:=by
       rw[hkeepB b2 (hlt b2 hb2),hw2]at g3
       injection g3 with g3
       injection g3
      subst hcc;have ho':o<c2.size:=(Array.getElem?_eq_some_iff.1 ho).1;have hx:=getElem?_eq_getElem (l:=cl) (i:=o) oz;exact M0 (List.all_eq_true.1 hcl _ (mem_of_getElem? hx)) (hrr2 o _ _ ho hx) kk z rfl
    ·cases h3 with
     | @vec _ _ c2 t' hw2 hc2 h12 =>
      have hcc:c2=cs2:=by
       rw[hkeepB b2 (hlt b2 hb2),hw2]at g3
       injection g3 with g3
       injection g3
      subst hcc;have:Value.int kk z∈vs2:=by rw[<- hc2];exact Array.mem_toList_iff.2 (Array.mem_of_getElem? ho)
      exact hvl _ this kk z rfl
end Go.Lw
namespace Go.Lw
open Go.Proofs
def bv(xs:List Bool):List Value:=xs.map .bool
theorem f7(xs:List Bool):(bv xs).length=xs.length:=length_map _
theorem xf(xs:List Bool)(n:Nat):(bv xs).set n (.bool true)=bv (xs.set n true):=by unfold bv;rw[map_set]
theorem AZ(xs:List Bool):∀v∈bv xs,∀kk z,v≠.int kk z:=by
 intro v hv kk z;obtain⟨b,_,rfl⟩:=List.mem_map.1 hv;exact fun h=>by cases h
theorem uW(xs:List Bool):(bv xs).map AV.v=xs.map bl:=by unfold bv;rw[map_map];rfl
theorem zT(n:Nat):List.replicate n (Value.bool false)=bv (List.replicate n false):=by unfold bv;rw[map_replicate]
theorem Tf(xs:List Int):(xs.map i64).all G4=true:=by
 rw[all_eq_true];intro x hx;obtain⟨b,_,rfl⟩:=List.mem_map.1 hx;rfl
theorem SQ(g:Gr)(b:Bool):(AV.tup [g.av,bl b]).li=true:=by
 simp only[AV.li,AV.lis,Gr.av,Tf];rfl
def oh(l:Li)(n:Nat):Blk:=.box (l.av.cells++[.ms 23 1 0 l.bo.length,.ms 27 1 0 l.bo.length,.ms 31 1 0 l.jo.length,.ms 900 4 0 n])
def nf(l:Li)(kw used:List Bool)(out:List Gr):Hp :=
  [(33,some (oh l out.length)),(23,some (.vec (bv kw))),(27,some (.vec (bv (bV l)))),(31,some (.vec (bv used))),(900,some (.row 4 (out.map Gr.av)))]
theorem Af{xs:List Bool}{n:Nat}(h:xs.length=n):AV.lst 1 ((((bv xs).drop 0).take n).map .v)=.lst 1 (xs.map bl):=by
 rw[drop_zero,take_of_length_le (by rw[f7];omega),uW]
theorem EE(l:Li)(hl:l.ok)(hli:aB l=0)(kw used:List Bool)(hk:kw.length=l.bo.length)(hu:used.length=l.jo.length)(hm:l.bo.length<=aS/\l.jo.length<=aS)(out:List Gr) :
  Con prog 334 [.ptr 33 0] (nf l kw used out) (.tup [((bY l kw).getD default).av,bl (bY l kw).isSome]) (nf l kw used out):=by
 refine Con.lend (cs:=l.av.cells++[.ms 23 1 0 l.bo.length,.ms 27 1 0 l.bo.length,.ms 31 1 0 l.jo.length,.ms 900 4 0 out.length])
  (cs':=fun v=>dN l kw (bV l) [.lst 1 (used.map bl),.v v]) [900] 7 rfl (by decide) ?_ (by simp[Li.av,AV.cells]) ?_ (SQ _ _) (fun v=>MY l hl hli kw hk _)
 ·intro v hv;refine⟨rfl,?_,?_⟩
  ·intro j x hx
   match j,hx with
   |0,hx=>cases hx;rfl
   |1,hx=>cases hx;rfl
   |2,hx=>cases hx;rfl
   |3,hx=>cases hx;rfl
   |4,hx=>cases hx;rfl
   |5,hx=>cases hx;rfl
   |6,hx=>cases hx;rfl
   |7,hx=>cases hx;exact hv
   |j+8,hx=>cases hx
  ·intro j x x' hx hx'
   match j,hx,hx' with
   |0,hx,hx'=>cases hx;cases hx';exact .inr (.same rfl)
   |1,hx,hx'=>cases hx;cases hx';exact .inr (.same rfl)
   |2,hx,hx'=>cases hx;cases hx';exact .inr (.same rfl)
   |3,hx,hx'=>cases hx;cases hx';exact .inr (.same rfl)
   |4,hx,hx' =>
    cases hx;cases hx'
    have h:=Lent.ms (H:=nf l kw used out) (hid:=[900]) (k:=23) (off:=0) (len:=l.bo.length) (vs:=bv kw) rfl (by decide) (by rw[f7];omega) (by rw[f7];omega);rw[Af hk]at h;exact .inr h
   |5,hx,hx' =>
    cases hx;cases hx'
    have h:=Lent.ms (H:=nf l kw used out) (hid:=[900]) (k:=27) (off:=0) (len:=l.bo.length) (vs:=bv (bV l)) rfl (by decide) (by rw[f7,sT];omega) (by rw[f7,sT];omega);rw[Af (sT l)]at h;exact .inr h
   |6,hx,hx' =>
    cases hx;cases hx'
    have h:=Lent.ms (H:=nf l kw used out) (hid:=[900]) (k:=31) (off:=0) (len:=l.jo.length) (vs:=bv used) rfl (by decide) (by rw[f7];omega) (by rw[f7];omega);rw[Af hu]at h;exact .inr h
   |7,hx,hx'=>cases hx;cases hx';exact .inl ⟨rfl,rfl⟩
   |j+8,hx,hx'=>cases hx
 ·intro k z hz;simp only[nf,aJ]at hz;split at hz
  ·cases hz;exact .inr (.inl ⟨_,rfl,rfl⟩)
  split at hz
  ·cases hz;exact .inr (.inr ⟨_,rfl,AZ _⟩)
  split at hz
  ·cases hz;exact .inr (.inr ⟨_,rfl,AZ _⟩)
  split at hz
  ·cases hz;exact .inr (.inr ⟨_,rfl,AZ _⟩)
  split at hz
  ·subst_vars;exact .inl (by decide)
  ·cases hz
def pU(l:Li):AV:=if aB l=0 then .iptr (dN l (bI l) (bV l) [.lst 1 ((d5 l).map bl),.lst 4 ((cr l).map Gr.av)])else .v (.pointer none)
def ju(l:Li)(out:List Gr):List Bool:=out.foldl (fun k g=>bi k g.jo) (List.replicate l.jo.length false)
theorem zN(l:Li)(out:List Gr):(ju l out).length=l.jo.length:=by unfold ju;rw[rf,length_replicate]
theorem N0(l:Li)(out:List Gr)(g:Gr):ju l (out++[g])=bi (ju l out) g.jo:=by unfold ju;rw[List.foldl_append];rfl
theorem AX{k:List Bool}{bs:List Int}{i:Nat}{b:Int}(h:bs[i]?=some b):bi k (bs.take (i+1))=(bi k (bs.take i)).set b.toNat true:=by
 unfold bi;rw[dj h,List.foldl_append];rfl
theorem RT{l:Li}(hli:aB l=0){kw:List Bool}{out:List Gr}{g:Gr}(hk:kw.length=l.bo.length)(h:cm l (dK kw) kw out=(bI l,cr l))(hg:bY l kw=some g) :
  cm l (dK (bi kw g.bo)) (bi kw g.bo) (out++[g])=(bI l,cr l):=by
 have hlt:=sV hli hk hg;obtain⟨n,hn⟩:∃n,dK kw=n+1:=⟨dK kw-1,by omega⟩
 rw[hn]at h;unfold cm at h;rw[hg]at h;rw[<- h];exact Ac hli _ _ _ _ (by rw[jc];exact hk) (le_refl _) oz
theorem P9{l:Li}{kw:List Bool}{out:List Gr}(h:cm l (dK kw) kw out=(bI l,cr l))(hg:bY l kw=none):kw=bI l/\out=cr l:=by
 cases hn:dK kw with
 |zero=>rw[hn]at h;exact⟨(Prod.mk.inj h).1,(Prod.mk.inj h).2⟩
 |succ n=>rw[hn]at h;unfold cm at h;rw[hg]at h;exact⟨(Prod.mk.inj h).1,(Prod.mk.inj h).2⟩
theorem KY{n:Nat}:dK (cz n 0)<=n:=by
 unfold dK;exact le_trans List.countP_le_length (Nat.le_of_eq (gM _ _))
theorem Ud{l:Li}(hli:aB l=0):cm l (dK (cz l.bo.length 0)) (cz l.bo.length 0) []=(bI l,cr l):=by
 rw[<- HO];exact Ac hli _ _ _ _ (gM _ _) (le_refl _) KY
theorem P0{l:Li}(hli:aB l=0){kw:List Bool}{out:List Gr}(hk:kw.length=l.bo.length)(h:cm l (dK kw) kw out=(bI l,cr l)):out.length<=8:=by
 obtain⟨gs,e⟩:=yA (l:=l) (dK kw) kw out;rw[e]at h;have h1:=(sj hli).2;have h2:out++gs=cr l:=(Prod.mk.inj h).2;rw[<- h2,length_append]at h1;omega
theorem MX(l:Li)(kw used:List Bool)(out:List Gr)(hk:kw.length=l.bo.length)(hu:used.length=l.jo.length)(hm:l.bo.length<=aS/\l.jo.length<=aS) :
  Wk ⟨[(5,some (.ptr 33 0))],nf l kw used out⟩ ⟨[(5,some (.iptr (dN l kw (bV l) [.lst 1 (used.map bl),.lst 4 (out.map Gr.av)])))],[]⟩:=by
 have hd:=sT l;have q1:.ms 23 1 0 l.bo.length=AV.ms 23 1 0 ((bv kw).map AV.v).length:=by rw[length_map,f7,hk]
 refine(Wk.of (sl:=[(5,some (.ptr 33 0))]) (hp:=[(33,some (oh l out.length)),(23,some (.row 1 ((bv kw).map .v))),(27,some (.row 1 ((bv (bV l)).map .v))),(31,some (.row 1 ((bv used).map .v))),(900,some (.row 4 (out.map Gr.av)))])
  (.k .nil) (.k (.cons rfl (.vecRow (by rw[f7];omega)) (.cons rfl (.vecRow (by rw[f7];omega)) (.cons rfl (.vecRow (by rw[f7];omega)) (.k .nil)))))).trans ?_
 refine(Wk.freeze (k:=23) rfl).trans ?_
 refine(Wk.of (sl:=[(5,some (.ptr 33 0))]) (hp:=[(33,some (.box (l.av.cells++[.lst 1 (kw.map bl),.ms 27 1 0 l.bo.length,.ms 31 1 0 l.jo.length,.ms 900 4 0 out.length]))),(27,some (.row 1 ((bv (bV l)).map .v))),(31,some (.row 1 ((bv used).map .v))),(900,some (.row 4 (out.map Gr.av)))])
  (.k .nil) (.cons rfl (BlkSub.bL (.cons (.refl _) (.cons (.refl _) (.cons (.refl _) (.cons (.refl _) (.cons (.of ((bN (by rw[length_map,f7,hk])).trans (by rw[uW]))) (.cons (.refl _) (.cons (.refl _) (.cons (.refl _) .nil)))))))) rfl) (.k (.k (.k .nil))))).trans ?_
 refine(Wk.freeze (k:=27) rfl).trans ?_
 refine(Wk.of (sl:=[(5,some (.ptr 33 0))]) (hp:=[(33,some (.box (l.av.cells++[.lst 1 (kw.map bl),.lst 1 ((bV l).map bl),.ms 31 1 0 l.jo.length,.ms 900 4 0 out.length]))),(31,some (.row 1 ((bv used).map .v))),(900,some (.row 4 (out.map Gr.av)))])
  (.k .nil) (.cons rfl (BlkSub.bL (.cons (.refl _) (.cons (.refl _) (.cons (.refl _) (.cons (.refl _) (.cons (.refl _) (.cons (.of ((bN (by rw[length_map,f7,hd])).trans (by rw[uW]))) (.cons (.refl _) (.cons (.refl _) .nil)))))))) rfl) (.k (.k .nil)))).trans ?_
 refine(Wk.freeze (k:=31) rfl).trans ?_
 refine(Wk.of (sl:=[(5,some (.ptr 33 0))]) (hp:=[(33,some (.box (l.av.cells++[.lst 1 (kw.map bl),.lst 1 ((bV l).map bl),.lst 1 (used.map bl),.ms 900 4 0 out.length]))),(900,some (.row 4 (out.map Gr.av)))])
  (.k .nil) (.cons rfl (BlkSub.bL (.cons (.refl _) (.cons (.refl _) (.cons (.refl _) (.cons (.refl _) (.cons (.refl _) (.cons (.refl _) (.cons (.of ((bN (by rw[length_map,f7,hu])).trans (by rw[uW]))) (.cons (.refl _) .nil)))))))) rfl) (.k .nil))).trans ?_
 refine(Wk.freeze (k:=900) rfl).trans ?_
 refine(Wk.of (sl:=[(5,some (.ptr 33 0))]) (hp:=[(33,some (.box (dN l kw (bV l) [.lst 1 (used.map bl),.lst 4 (out.map Gr.av)])))])
  (.k .nil) (.cons rfl (BlkSub.bL (.cons (.refl _) (.cons (.refl _) (.cons (.refl _) (.cons (.refl _) (.cons (.refl _) (.cons (.refl _) (.cons (.refl _) (.cons (.of (bN (by rw[length_map]))) .nil)))))))) rfl) .nil)).trans ?_
 refine(Wk.freezeB (k:=33) rfl rfl).trans ?_;exact Wk.of (.k .nil) .nil
theorem PN(l:Li)(hl:l.ok):FP 238 [l.av] (.tup [pU l,bj (aB l)]):=by
 refine ah func238 ?_;refine gc (Aa l hl) ?_;refine gC (fun t17=>?_) (fun t17=>?_)
 ·have h1:=cU t17;refine ba ?_;unfold pU;rw[if_neg h1]
 have hli:=cP t17;have h8:=(cO hli).2.2.2.1;have h0:=(cO hli).2.2.2.2;have hj16:l.jo.length<=16:=by have:=(cO hli).2.1;unfold eT at this;split at this;cases this;omega
 have hld:=hl.ld;have hm:l.bo.length<=aS/\l.jo.length<=aS:=by unfold aS;omega
 refine gl ?_;refine gs (xH (.tmp rfl) T218 rfl T4 rfl rfl rfl rfl (by dsimp only;omega) rfl) ?_;refine gl ?_;refine gs (xH (.tmp rfl) T218 rfl T4 rfl rfl rfl rfl (by dsimp only;omega) rfl) ?_;refine gl ?_;refine gs (xH (.tmp rfl) T218 rfl T4 rfl rfl rfl rfl (by dsimp only;omega) rfl) ?_;refine gD ?_;refine gs (bR (n:=0) (.tmp rfl) (.const _) T218 rfl T4 rfl rfl oz rfl) ?_;refine gs (wl (.tmp rfl) rfl (by rw[length_replicate];omega) (.const _) rfl T4 rfl) ?_ (6,0);refine gW (Wk.of (sl:=[(1,some (.ptr 1 0)),(5,some (.ptr 33 0))]) (hp:=[(1,some (.box l.av.cells)),(33,some (.box (l.av.cells++[.ms 23 1 0 l.bo.length,.ms 27 1 0 l.bo.length,.ms 31 1 0 l.jo.length,nS]))),(23,some (.vec (bv (cz l.bo.length 0)))),(27,some (.vec (bv (List.replicate l.bo.length false)))),(31,some (.vec (bv (List.replicate l.jo.length false))))]) aV (.k (.k (.cons rfl (BlkSub.of (by rw[zT,xf];rfl)) (.cons rfl (BlkSub.of (by rw[zT])) (.cons rfl (BlkSub.of (by rw[zT])) .nil)))))) ?_
 refine gl ?_;refine aI [1,5,40,41] [1,23,31] (fun(i:Nat)=>[(42,some (i64 i))]) (fun i=>[(33,some (.box (l.av.cells++[.ms 23 1 0 l.bo.length,.ms 27 1 0 l.bo.length,.ms 31 1 0 l.jo.length,nS]))),(27,some (.vec (bv (bi (List.replicate l.bo.length false) ((l.dv.map Dr.body).take i)))))]) (fun i=>i<=l.dv.length) (fun i=>l.dv.length-i) 0 (zero_le _) ?_;rintro i hi K1 J1;refine gC (fun t43=>?_) (fun t43=>?_) (st2:=(11,0))
 ·have hin:=aQ t43;obtain⟨d,hd⟩:=au hin;have hb:=dq (lr hli hd);have hmt:=AX (k:=List.replicate l.bo.length false) (bs:=l.dv.map Dr.body) (i:=i) (b:=d.body) (by rw[getElem?_map,hd];rfl);refine gi (ax hd) ?_;refine gs (bR (n:=d.body.toNat) (.tmp rfl) (.tmp rfl) T218 rfl T4 rfl oz oz rfl) ?_;refine gs (wl (.tmp rfl) rfl (by rw[f7,jc,length_replicate];omega) (.const _) rfl T4 rfl) ?_;refine gD ?_;refine ga aF ?_;exact aE J1 (i+1) hin (hw:=Wk.of aV (.k (.cons rfl (BlkSub.of (by rw[xf,hmt])) (.k (.k (.k .nil))))))
 have hin:=a6 hi t43;have hall:bi (List.replicate l.bo.length false) ((l.dv.map Dr.body).take i)=bV l:=by rw[hin];unfold bV;rw[take_of_length_le (by rw[length_map];omega)]
 refine gW ((Wk.virt 900 4 rfl).trans<|Wk.of (sl:=[(1,some (.ptr 1 0)),(5,some (.ptr 33 0))]) (hp:=[(33,some (oh l 0)),(23,some (.vec (bv (cz l.bo.length 0)))),(27,some (.vec (bv (bV l)))),(31,some (.vec (bv (List.replicate l.jo.length false)))),(900,some (.row 4 []))]) aV (.cons rfl (BlkSub.bL (.cons (.refl _) (.cons (.refl _) (.cons (.refl _) (.cons (.refl _) (.cons (.refl _) (.cons (.refl _) (.cons (.refl _) (.cons (Sub.nM _ _ _) .nil)))))))) rfl) (.k (.cons rfl (BlkSub.of (by rw[hall])) (.k (.k .nil)))))) ?_
 refine gt (ay (EE l hl hli (cz l.bo.length 0) (List.replicate l.jo.length false) (gM _ _) length_replicate hm []) (cR rfl) (fun k z h=>h) rfl rfl) ?_;refine gx [5,8] [] (fun(kw:List Bool)(out:List Gr)=>[(9,some (bl (bY l kw).isSome))]) (fun kw out=>[(8,some (.box ((bY l kw).getD default).av.cells)),(33,some (oh l out.length)),(23,some (.vec (bv kw))),(27,some (.vec (bv (bV l)))),(31,some (.vec (bv (ju l out)))),(900,some (.row 4 (out.map Gr.av)))]) (fun kw out=>kw.length=l.bo.length/\cm l (dK kw) kw out=(bI l,cr l)) (fun kw _=>dK kw) (cz l.bo.length 0) ([]) ⟨gM _ _,Ud hli⟩ ?_
 rintro kw out ⟨hk,hf⟩ K2 J2;refine gC (fun t59=>?_) (fun t59=>?_) (st1:=(77777,0)) (st2:=(27,0))
 ·obtain ⟨g, hg⟩:=Ao t59;have hgo:=ur hli hg;have hout:=P0 hli hk hf;refine gW (Wk.of (sl:=[(5,some (.ptr 33 0)),(8,some (.ptr 8 0))]) (hp:=[(8,some (.box g.av.cells)),(33,some (oh l out.length)),(23,some (.vec (bv kw))),(27,some (.vec (bv (bV l)))),(31,some (.vec (bv (ju l out)))),(900,some (.row 4 (out.map Gr.av)))]) aV (.cons rfl (BlkSub.of (by rw [hg]; rfl)) (.k (.k (.k (.k (.k .nil))))))) ?_;refine gl ?_;refine aI [5,8,66,67] [8,33,27,31,900] (fun (j:Nat)=>[(68,some (i64 j))]) (fun j=>[(23,some (.vec (bv (bi kw (g.bo.take j)))))]) (fun j=>j <= g.bo.length) (fun j=>g.bo.length - j) 0 (zero_le _) ?_;rintro j hj K3 J3;refine gC (fun t69=>?_) (fun t69=>?_)
  ·have hin:=aQ t69;obtain⟨b,hb⟩:=au hin;have hbb:=hgo.b b (mem_of_getElem? hb);have hlb:=hgo.lb;refine gi (ax hb) ?_;refine gs (bR (n:=b.toNat) (.tmp rfl) (.tmp rfl) T218 rfl T4 rfl oz oz rfl) ?_;refine gs (wl (.tmp rfl) rfl (by rw[f7,jc];omega) (.const _) rfl T4 rfl) ?_;refine ga aF ?_;exact aE J3 (j+1) hin (hw:=Wk.of aV (.cons rfl (BlkSub.of (by rw[xf,AX hb])) (.k (.k (.k (.k (.k .nil)))))))
  have hin:=a6 hj t69;subst hin;refine gl ?_;refine aI [5,8,80,81] [8,33,27,900] (fun(q:Nat)=>[(82,some (i64 q))]) (fun q=>[(23,some (.vec (bv (bi kw g.bo)))),(31,some (.vec (bv (bi (ju l out) (g.jo.take q)))))]) (fun q=>q<=g.jo.length) (fun q=>g.jo.length-q) 0 (zero_le _) ?_ (h2:=(.cons rfl (BlkSub.of (by rw[take_length])) (.k .nil)));rintro q hq K4 J4;refine gC (fun t83=>?_) (fun t83=>?_)
  ·have hin:=aQ t83;obtain⟨b,hb⟩:=au hin;have hbb:=hgo.j b (mem_of_getElem? hb);have hlj:=hgo.lj;refine gi (ax hb) ?_;refine gs (bR (n:=b.toNat) (.tmp rfl) (.tmp rfl) T218 rfl T4 rfl oz oz rfl) ?_;refine gs (wl (.tmp rfl) rfl (by rw[f7,jc,zN];omega) (.const _) rfl T4 rfl) ?_;refine ga aF ?_;exact aE J4 (q+1) hin (hw:=Wk.of aV (.k (.cons rfl (BlkSub.of (by rw[xf,AX hb])) (.k (.k (.k (.k .nil)))))))
  have hin:=a6 hq t83;subst hin;refine gs (cf (.tmp rfl) rfl (by rw[length_map]) (.tmp rfl) T32 rfl T53 rfl rfl (by simp only[length_cons,length_nil];omega) rfl rfl) ?_;refine gD ?_ (25,0);refine gW (Wk.of (sl:=[(5,some (.ptr 33 0)),(8,some (.ptr 8 0))]) (hp:=[(8,some (.box g.av.cells)),(33,some (.box (l.av.cells++[.ms 23 1 0 l.bo.length,.ms 27 1 0 l.bo.length,.ms 31 1 0 l.jo.length,.ms 100 4 0 (out++[g]).length]))),(100,some (.row 4 ((out++[g]).map Gr.av))),(23,some (.vec (bv (bi kw g.bo)))),(27,some (.vec (bv (bV l)))),(31,some (.vec (bv (ju l (out++[g])))))]) aV (.k (.cons rfl (BlkSub.of (by rw[length_append];rfl)) (.cons rfl (BlkSub.of (by rw[map_append];rfl)) (.k (.k (.cons rfl (BlkSub.of (by rw[N0,take_length])) .nil))))))) ?_ (25,0)
  refine gW (Wk.rk (k:=100) (d:=900) rfl rfl) ?_ (26,0);refine gW (Wk.o (sl:=[(5,some (.ptr 33 0)),(103,some (g.av))]) (hp:=[(33,some (oh l (out++[g]).length)),(23,some (.vec (bv (bi kw g.bo)))),(27,some (.vec (bv (bV l)))),(31,some (.vec (bv (ju l (out++[g]))))),(900,some (.row 4 ((out++[g]).map Gr.av)))])) ?_;refine gt (ay (EE l hl hli (bi kw g.bo) (ju l (out++[g])) (by rw[jc];exact hk) (zN _ _) hm (out++[g])) (cR rfl) (by intro k z h;simp only[nf,aJ]at h;split at h;(subst_vars;exact h);split at h;(subst_vars;exact h);split at h;(subst_vars;exact h);split at h;(subst_vars;exact h);split at h;(subst_vars;exact h);cases h) rfl rfl) ?_;exact fY J2 (bi kw g.bo) (out++[g]) ⟨by rw[jc];exact hk,RT hli hk hf hg⟩ (sV hli hk hg)
 have hg:=An t59;obtain⟨e1,e2⟩:=P9 hf hg;subst e1 e2;refine gW (Wk.o (sl:=[(5,some (.ptr 33 0))]) (hp:=[(33,some (oh l (cr l).length)),(23,some (.vec (bv (bI l)))),(27,some (.vec (bv (bV l)))),(31,some (.vec (bv (ju l (cr l))))),(900,some (.row 4 ((cr l).map Gr.av)))])) ?_ (27,0);refine gW (MX l (bI l) (ju l (cr l)) (cr l) hk (zN _ _) hm) ?_;refine ba ?_;unfold pU;rw[if_pos hli,hli];rfl
theorem Cz{α:Type}[BEq α][LawfulBEq α]{xs:List α}{b:α}{ok:Nat->Bool}(h:∀i x,xs[i]?=some x->ok i=!(b==x)):decide (0<=jB (cq xs.length ok))=xs.contains b:=by
 cases hf:cq xs.length ok with
 |some i =>
  obtain⟨h1,h2⟩:=fa hf;obtain⟨x,hx⟩:=au h1;rw[h i x hx]at h2;have:b=x:=by simpa using h2
  subst this;rw[List.contains_iff_mem.2 (mem_of_getElem? hx)];exact decide_eq_true (by show(0:Int)<=(i:Int);omega)
 |none =>
  rw[decide_eq_false (by show ¬(0:Int) <= -1;decide)]
  symm
  rw[<- Bool.not_eq_true,List.contains_iff_mem];intro hm;obtain⟨i,hi⟩:=List.mem_iff_getElem?.1 hm;have hlt:=(List.getElem?_eq_some_iff.1 hi).1;unfold cq at hf;rw[List.find?_eq_none]at hf;have:=hf i (List.mem_range.2 hlt);rw[h i b hi]at this;simp at this
theorem Mq(xs:List Bool)(b:Bool)(hl:xs.length<=281474976710656):FP 335 [.lst 1 (xs.map bl),bl b] (i64 (jB (cq xs.length (fun i=>!(b==xs.getD i false))))):=by
 refine ah func335 ?_;refine gl ?_;refine aI [0,1,7] [] (fun(i:Nat)=>[(8,some (i64 i))]) (fun _=>[]) (fun i=>i<=xs.length/\∀j,j<i->(!(b==xs.getD j false))=true) (fun i=>xs.length-i) 0 ⟨zero_le _,fun j h=>by omega⟩ ?_;rintro i ⟨hi,hj⟩ K1 J1;refine gC (fun t9=>?_) (fun t9=>?_)
 ·have hin:=aQ t9;obtain⟨x,hx⟩:=au hin;have hg:xs.getD i false=x:=aC hx;refine gi (ax hx) ?_;refine gC (fun t16=>?_) (fun t16=>?_)
  ·have h2:(b==x)=true:=t16;refine ae ?_;rw[f9 hin hj (by rw[hg,h2];rfl)];rfl
  have h2:(b==x)=false:=t16;refine ga aF ?_;exact aE J1 (i+1) ⟨hin,fun j h9=>by rcases lt_or_ge j i with g |g;exact hj j g;(have:j=i:=by omega);subst this;rw[hg,h2];rfl⟩
 have hin:=a6 hi t9;subst hin;refine ae ?_;rw[fC hj];rfl
theorem HW(xs:List Bool)(b:Bool)(hl:xs.length<=281474976710656):FP 239 [.lst 1 (xs.map bl),bl b] (bl (xs.contains b)):=by
 refine ah func239 ?_;refine gc (Mq xs b hl) ?_;refine ae ?_;rw[<- Cz (xs:=xs) (b:=b) (ok:=fun i=>!(b==xs.getD i false)) (fun i x hx=>by rw[aC hx])];rfl
theorem J9(xs:List Int)(b:Int)(hl:xs.length<=281474976710656):FP 336 [.lst 1 (xs.map i64),i64 b] (i64 (jB (cq xs.length (fun i=>!(b==xs.getD i 0))))):=by
 refine ah func336 ?_;refine gl ?_;refine aI [0,1,7] [] (fun(i:Nat)=>[(8,some (i64 i))]) (fun _=>[]) (fun i=>i<=xs.length/\∀j,j<i->(!(b==xs.getD j 0))=true) (fun i=>xs.length-i) 0 ⟨zero_le _,fun j h=>by omega⟩ ?_;rintro i ⟨hi,hj⟩ K1 J1;refine gC (fun t9=>?_) (fun t9=>?_)
 ·have hin:=aQ t9;obtain⟨x,hx⟩:=au hin;have hg:xs.getD i 0=x:=aC hx;refine gi (ax hx) ?_;refine gC (fun t16=>?_) (fun t16=>?_)
  ·have h2:(b==x)=true:=t16;refine ae ?_;rw[f9 hin hj (by rw[hg,h2];rfl)];rfl
  have h2:(b==x)=false:=t16;refine ga aF ?_;exact aE J1 (i+1) ⟨hin,fun j h9=>by rcases lt_or_ge j i with g |g;exact hj j g;(have:j=i:=by omega);subst this;rw[hg,h2];rfl⟩
 have hin:=a6 hi t9;subst hin;refine ae ?_;rw[fC hj];rfl
theorem Gb(xs:List Int)(b:Int)(hl:xs.length<=281474976710656):FP 240 [.lst 1 (xs.map i64),i64 b] (bl (xs.contains b)):=by
 refine ah func240 ?_;refine gc (J9 xs b hl) ?_;refine ae ?_;rw[<- Cz (xs:=xs) (b:=b) (ok:=fun i=>!(b==xs.getD i 0)) (fun i x hx=>by rw[aC hx])];rfl
theorem FT(l:Li)(hl:l.ok):FP 135 [l.av] (.tup [.lst 4 (((if aB l=0 then aN l else[])).map Gr.av),bj (if aB l=0 then cH l else aB l)]):=by
 refine ah func135 ?_;refine gc (PN l hl) (hnm:=(by unfold pU;split <;> rfl)) ?_;refine gC (fun t12=>?_) (fun t12=>?_) (st2:=(77777,0))
 ·have h1:=cU t12;refine gR ?_;exact eH (by rw[if_neg h1,if_neg h1];exact Sub.tup (.cons (.nil _ _ _) (.cons (.refl _) .nil)))
 have hli:=cP t12;have h8:=(cO hli).2.2.2.1;have hj16:l.jo.length<=16:=by have:=(cO hli).2.1;unfold eT at this;split at this;cases this;omega
 have lk1:(bI l).length=l.bo.length:=by unfold bI;rw[rf,gM]
 have lk2:(d5 l).length=l.jo.length:=by unfold d5;rw[rf,length_replicate]
 have e1:pU l=.iptr (dN l (bI l) (bV l) [.lst 1 ((d5 l).map bl),.lst 4 ((cr l).map Gr.av)]):=by unfold pU;rw[if_pos hli]
 have c1:=vO (k:=bI l);have c2:=vO (k:=d5 l);refine gW (Wk.of (sl:=[(4,some (.iptr (dN l (bI l) (bV l) [.lst 1 ((d5 l).map bl),.lst 4 ((cr l).map Gr.av)]))),(5,some (bj (aB l)))]) (hp:=[]) (.cons rfl (Sub.of e1) (.k .nil)) .nil) ?_;refine gc (HW (bI l) false oz) ?_;refine bJ (fun _=>(HW (d5 l) false oz)) ?_;refine gC (fun t25=>?_) (fun t25=>?_)
 ·have h2:cH l=7:=by
   unfold cH;rw[if_neg];intro h;have h3:(bI l).contains false=false:=c1.1 oz;have h4:(d5 l).contains false=false:=c2.1 oz;rw[h3,h4]at t25;cases t25
  refine gR ?_;exact eH (by rw[if_pos hli,if_pos hli];unfold aN;rw[if_neg (by rw[h2];simp),h2];exact Sub.tup (.cons (.nil _ _ _) (.cons (.refl _) .nil)))
 have h2:cH l=0:=by
  unfold cH;rw[if_pos];cases h3:(bI l).contains false <;> cases h4:(d5 l).contains false <;> rw[h3,h4]at t25 <;> first |(cases t25;done) |(have g1:=c1.2 h3;have g2:=c2.2 h4;omega)
 refine ba ?_;rw[if_pos hli,if_pos hli,h2];unfold aN;rw[if_pos h2];rfl
def SO(ys:List Int)(i:Nat):Prop:=∀p q,p<q->q<i->ys.getD p 0<=ys.getD q 0
def SI(ys:List Int)(i j:Nat):Prop:=∀p q,p<q->q<=i->q≠j->ys.getD p 0<=ys.getD q 0
theorem Q6{xs ys:List Int}{i:Nat}(hp:ys.Perm xs)(hi:ys.length<=i)(h:SO ys i):ys=eG xs:=by
 refine RD hp (List.pairwise_iff_getElem.2 fun p q hp hq hpq=>?_);have h1:=h p q hpq oz;rw[aC (getElem?_eq_getElem hp),aC (getElem?_eq_getElem hq)]at h1;exact h1
theorem NW{ys:List Int}{i:Nat}(h:SO ys i):SI ys i i:=fun p q h1 h2 h3=>h p q h1 oz
theorem Rz{ys:List Int}{i j:Nat}(h:SI ys i j)(hj:j=0\/ys.getD (j-1) 0<=ys.getD j 0):SO ys (i+1):=by
 intro p q h1 h2
 by_cases hq:q=j
 ·subst hq;rcases hj with hj |hj
  ·omega
  ·by_cases hp:p=q-1
   ·subst hp;exact hj
   ·exact Int.le_trans (h p (q-1) oz oz oz) hj
 ·exact h p q h1 oz hq
theorem Cc(ys:List Int)(i:Nat)(x:Int)(p:Nat)(hi:i<ys.length):(ys.set i x).getD p 0=if p=i then x else ys.getD p 0:=by
 rw[getD_eq_getElem?_getD,getD_eq_getElem?_getD,List.getElem?_set]
 by_cases h:i=p
 ·subst h;simp[hi]
 ·rw[if_neg h,if_neg (fun e=>h e.symm)]
theorem Vd{ys:List Int}{i j:Nat}(h:SI ys i j)(hj:0<j)(hi:j<=i)(hl:i<ys.length)(hlt:ys.getD j 0<ys.getD (j-1) 0):SI ((ys.set j (ys.getD (j-1) 0)).set (j-1) (ys.getD j 0)) i (j-1):=by
 intro p q h1 h2 h3
 have e:∀r,((ys.set j (ys.getD (j-1) 0)).set (j-1) (ys.getD j 0)).getD r 0=if r=j-1 then ys.getD j 0 else if r=j then ys.getD (j-1) 0 else ys.getD r 0:=fun r=>by
  rw[Cc _ _ _ _ (by rw[length_set];omega),Cc _ _ _ _ oz]
 rw[e,e,if_neg h3]
 by_cases hq:q=j
 ·rw[if_pos hq]
  by_cases hp:p=j-1
  ·rw[if_pos hp];omega
  ·rw[if_neg hp,if_neg oz];exact h p (j-1) oz oz oz
 ·rw[if_neg hq]
  by_cases hp:p=j-1
  ·rw[if_pos hp];exact h j q oz h2 hq
  ·rw[if_neg hp]
   by_cases hp2:p=j
   ·rw[if_pos hp2];exact h (j-1) q oz h2 hq
   ·rw[if_neg hp2];exact h p q h1 h2 hq
theorem NQ{ys:List Int}{j:Nat}{a b:Int}(ha:ys[j]?=some a)(hb:ys[j-1]?=some b):((ys.set j b).set (j-1) a).Perm ys:=by
 obtain⟨h1,rfl⟩:=List.getElem?_eq_some_iff.1 ha;obtain⟨h2,rfl⟩:=List.getElem?_eq_some_iff.1 hb;exact List.set_set_perm h1 h2
theorem VC{j:Nat}{a b:Int}(h:cond (aa .gtr (j:Int) 0) (decide (a<b)) false=true):0<j/\a<b:=by
 cases h1:aa .gtr (j:Int) 0 <;> rw[h1]at h
 ·cases h
 ·exact⟨jf (b:=0) h1,of_decide_eq_true h⟩
theorem QJ{j:Nat}{a b:Int}(h:cond (aa .gtr (j:Int) 0) (decide (a<b)) false=false):j=0\/b<=a:=by
 cases h1:aa .gtr (j:Int) 0 <;> rw[h1]at h
 ·have:=gH (b:=0) h1;omega
 ·have h2:decide (a<b)=false:=h;have:=of_decide_eq_false h2;omega
theorem NA(ys:List Int)(j:Nat)(a b:Int):((ys.map i64).set j (i64 b)).set (j-1) (i64 a)=((ys.set j b).set (j-1) a).map i64:=by rw[map_set,map_set]
theorem DW(a:Int):FP 387 [i64 a] (bl false):=by
 refine ah func387 ?_;refine ae ?_;simp[aa];rfl
theorem PQ(a b:Int):FP 343 [i64 a,i64 b] (bl (decide (a<b))):=by
 refine ah func343 ?_;refine gc (DW a) ?_;refine bJ (fun _=>(DW b)) ?_;refine ae ?_
 first |rfl |(simp;done)
theorem LC(xs:List Int)(hl:xs.length<=12):Con prog 337 [.ms 1000 1 0 xs.length,i64 0,i64 xs.length] [(1000,some (.row 1 (xs.map i64)))] (.tup []) [(1000,some (.row 1 ((eG xs).map i64)))]:=by
 refine gF func337 (fun k z h=>br h) ?_;refine ga (show _=((1:Nat):Int)from rfl) ?_;refine gx [1,2] [] (fun(ys:List Int)(i:Nat)=>[(0,some (.ms 1000 1 0 xs.length)),(6,some (i64 i))]) (fun ys _=>[(1000,some (.row 1 (ys.map i64)))]) (fun ys i=>ys.length=xs.length/\ys.Perm xs/\1<=i/\SO ys i) (fun _ i=>xs.length+1-i) xs 1 ⟨rfl,.refl _,le_refl _,fun p q h1 h2=>by omega⟩ ?_;rintro ys i ⟨hyl,hyp,hi1,hso⟩ K1 J1;refine gC (fun t12=>?_) (fun t12=>?_)
 ·have hin:=aQ t12;refine gx [1,2,6] [] (fun (zs:List Int) (j:Nat)=>[(0,some (.ms 1000 1 0 xs.length)),(7,some (i64 j))]) (fun zs _=>[(1000,some (.row 1 (zs.map i64)))]) (fun zs j=>zs.length = xs.length /\ zs.Perm xs /\ j <= i /\ SI zs i j) (fun _ j=>j) ys i ⟨hyl,hyp,le_refl _,NW hso⟩ ?_;rintro zs j ⟨hzl,hzp,hji,hsi⟩ K2 J2;obtain ⟨a,ha⟩:=au (show j < zs.length by omega);obtain ⟨b,hb⟩:=au (show j - 1 < zs.length by omega);refine gs (ee rfl rfl rfl (fun h=>bR (n:=j) (.opt rfl (o1 h)) (.opt rfl (o1 h)) T39 rfl T3 rfl oz oz rfl)) ?_;refine gs (ee rfl rfl rfl (fun h=>dX (.opt rfl (o1 h)) rfl (ax ha) T3 rfl rfl rfl)) ?_;refine oP (fun h=>(jE (jf (b:=0) h) (by unfold aS; omega))) ?_;refine gs (ee rfl rfl rfl (fun h=>bR (n:=(j - 1)) (.opt rfl (o1 h)) (.opt rfl (o1 h)) T39 rfl T3 rfl oz oz rfl)) ?_;refine gs (ee rfl rfl rfl (fun h=>dX (.opt rfl (o1 h)) rfl (ax hb) T3 rfl rfl rfl)) ?_;refine bJ (fun _=>(PQ a b)) ?_;refine gD ?_;refine gC (fun t30=>?_) (fun t30=>?_)
  ·obtain⟨hj0,hab⟩:=VC t30;refine ga (jE hj0 (by unfold aS;omega)) ?_;refine ga (jE hj0 (by unfold aS;omega)) ?_;refine gs (bR (n:=(j-1)) (.tmp rfl) (.tmp rfl) T39 rfl T3 rfl oz oz rfl) ?_;refine gs (dX (.tmp rfl) rfl (ax hb) T3 rfl rfl rfl) ?_;refine gs (bR (n:=j) (.tmp rfl) (.tmp rfl) T39 rfl T3 rfl oz oz rfl) ?_;refine gs (dX (.tmp rfl) rfl (ax ha) T3 rfl rfl rfl) ?_;refine gs (bR (n:=j) (.tmp rfl) (.tmp rfl) T39 rfl T3 rfl oz oz rfl) ?_;refine gs (dG (.tmp rfl) rfl (ax ha) rfl (.tmp rfl) rfl rfl T3 rfl rfl) ?_;refine gs (bR (n:=(j-1)) (.tmp rfl) (.tmp rfl) T39 rfl T3 rfl oz oz rfl) ?_;refine gs (dG (.tmp rfl) rfl ((List.getElem?_set_ne oz).trans (ax hb)) rfl (.tmp rfl) rfl rfl T3 rfl rfl) ?_;refine gD ?_;refine ga (jE hj0 (by unfold aS;omega)) ?_;exact fY J2 ((zs.set j b).set (j-1) a) (j-1) ⟨by rw[length_set,length_set];exact hzl,(NQ ha hb).trans hzp,by omega,by have h9:=Vd hsi hj0 hji oz (by rw[aC ha,aC hb];exact hab);rw[aC ha,aC hb]at h9;exact h9⟩ (hw:=Wk.of aV (.cons rfl (BlkSub.of (congrArg (Blk.row 1) (NA zs j a b))) .nil))
  have hs:=QJ t30;refine ga aF ?_;exact fY J1 zs (i+1) ⟨hzl,hzp,by omega,Rz hsi (by rw[aC ha,aC hb];exact hs)⟩
 have hin:=tP t12;refine gR ?_;exact aq.own2 rfl (by rw[<- Q6 hyp oz hso]) rfl
theorem Oa(xs:List Int)(hl:xs.length<=12)(m:Int):Con prog 241 [.ms 1000 1 0 xs.length,i64 0,i64 xs.length,i64 m] [(1000,some (.row 1 (xs.map i64)))] (.tup []) [(1000,some (.row 1 ((eG xs).map i64)))]:=by
 refine gF func241 (fun k z h=>br h) ?_;refine NB [1,2,3,8,9] [1000] [(0,some (.ms 1000 1 0 xs.length))] [] (True) (0) trivial ?_;rintro-K1 J1;refine ga (dD oz) ?_;refine gC (fun t23=>?_) (fun t23=>?_) (st2:=(77777,0))
 ·refine gt (ay (LC xs hl) (aA rfl rfl rfl) az rfl rfl) ?_;refine gR ?_;exact aq.own2 rfl rfl rfl
 (rw[show aa .leq ((xs.length:Int)-0) 12=true from decide_eq_true oz]at t23;cases t23)
theorem Ug(x:Nat)(hx:x<256):FP 347 [u64 x] (i64 (aX x)):=by
 refine ah func347 ?_;refine gC (fun t4=>?_) (fun t4=>?_) (st1:=(2,0))
 ·(have:=t4;simp[aa]at this;omega)
 refine gC (fun t8=>?_) (fun t8=>?_) (st1:=(5,0))
 ·(have:=t8;simp[aa]at this;omega)
 refine gC (fun t14=>?_) (fun t14=>?_) (st1:=(8,0))
 ·(have:=t14;simp[aa]at this;omega)
 refine gv (jl hx) ?_;refine gs (tf (y:=x) (.const _) (.tmp rfl) T9 rfl (by kernel_rfl) (by first |rfl |omega) oz rfl) ?_;refine gv (i64_in (by have:=iP hx;omega)) ?_;refine ga (c9 (by have:=iP hx;omega)) ?_;refine ae ?_;simp only[i64];congr 2;omega
theorem M6(x:Nat)(hx:x<256):FP 242 [u64 x] (i64 (aX x)):=by
 refine ah func242 ?_;refine gC (fun hcfalse=>?_) (fun hcfalse=>?_) (st1:=(1,0));cases hcfalse;refine gc (Ug x hx) ?_;refine ae ?_
 first |rfl |(simp;done)
theorem QY(xs:List Int)(hl:xs.length<=12):Con prog 137 [.ms 1000 1 0 xs.length] [(1000,some (.row 1 (xs.map i64)))] (.tup []) [(1000,some (.row 1 ((eG xs).map i64)))]:=by
 refine gF func137 (fun k z h=>br h) ?_;refine gv (show IntKind.u64.wrap _=((xs.length:Nat):Int)from u64_in oz) ?_;refine gc (M6 xs.length oz) ?_;refine gt (ay (Oa xs hl _) (.cons (.tmp rfl) (.cons (.const _) (bm rfl rfl))) az rfl rfl) ?_;refine gR ?_;exact aq.own2 rfl rfl rfl
theorem OG{l:Li}{g:Gr}{i:Nat}{z:Int}{j:Jt}(hz:g.jo[i]?=some z)(hj:l.jo[z.toNat]?=some j):(fJ l g)[i]?=some (jH g j):=by
 unfold fJ;rw[getElem?_map,hz,Option.map_some,aC hj]
theorem ya{l:Li}{g:Gr}{i:Nat}{z:Int}{j:Jt}{a:Int}(hz:g.jo[i]?=some z)(hj:l.jo[z.toNat]?=some j)(ha:jH g j=a):((fJ l g).take i).map i64++[i64 a]=((fJ l g).take (i+1)).map i64:=by
 rw[dj (OG hz hj),ha,map_append];rfl
theorem QI{z:Int}{n:Nat}(h0:0<=z)(h1:z<n):cond (aa .lss z 0) true (aa .geq z (n:Int))=false:=by
 rw[show aa .lss z 0=false from decide_eq_false oz];exact decide_eq_false oz
theorem Ua(l:Li)(hl:l.ok)(hli:aB l=0)(g:Gr)(hg:GrOk l g):Con prog 136 [l.av,g.av] [] (.tup [.ms 900 1 0 g.jo.length,.v .nilIface]) [(900,some (.row 1 ((fJ l g).map i64)))]:=by
 have hlb:=hg.lb;have hlj:=hg.lj;refine gF func136 (fun k z h=>by cases h) ?_;refine gc (Aa l hl) ?_;refine gC (fun t16=>?_) (fun t16=>?_) (st1:=(3,0))
 ·(rw[hli]at t16;cases t16)
 refine gl ?_;refine gW ((Wk.virt 900 1 rfl).trans<|Wk.of (sl:=[(2,some (.ptr 2 0)),(3,some (.ptr 3 0)),(7,some (.ms 900 1 0 0)),(19,some (.lst 1 (g.jo.map i64))),(20,some (i64 g.jo.length)),(21,some (i64 0))]) (hp:=[(2,some (.box l.av.cells)),(3,some (.box g.av.cells)),(900,some (.row 1 []))]) (.k (.k (.cons rfl (Sub.nM _ _ _) (.k (.k (.k .nil)))))) (.k (.k (.k .nil)))) ?_;refine aI [2,3,19,20] [2,3] (fun(i:Nat)=>[(7,some (.ms 900 1 0 i)),(21,some (i64 i))]) (fun i=>[(900,some (.row 1 (((fJ l g).take i).map i64)))]) (fun i=>i<=g.jo.length) (fun i=>g.jo.length-i) 0 (zero_le _) ?_;rintro i hi K1 J1;refine gC (fun t22=>?_) (fun t22=>?_) (st2:=(18,0))
 ·have hin:=aQ t22;obtain ⟨z,hz⟩:=au hin;obtain ⟨z0,z1⟩:=hg.j z (mem_of_getElem? hz);obtain ⟨j,hj⟩:∃ j,l.jo[z.toNat]? = some j:=au oz;have hlt:(((fJ l g).take i).map i64).length = i:=by rw [length_map,length_take,qu]; omega
  refine gi (ax hz) ?_;refine ci ?_;refine gC (fun t33=>?_) (fun t33=>?_) (st1:=(9,0))
  ·(rw[QI z0 z1]at t33;cases t33)
  refine gi (ib (n:=z.toNat) oz hj) ?_;refine gc (Gb g.bo j.a oz) ?_;refine gc (Gb g.bo j.b oz) ?_;refine gD ?_;refine gC (fun t55=>?_) (fun t55=>?_)
  ·have ha : jH g j = -1 := by unfold jH; cases h1 : g.bo.contains j.a <;> cases h2 : g.bo.contains j.b <;> rw [h1, h2] at t55 <;> first | (cases t55; done) | rfl
   refine gs (cf (.tmp rfl) rfl hlt.symm (.tmp rfl) T39 rfl T3 rfl rfl (by simp only[length_cons,length_nil];omega) rfl rfl) ?_ (17,0);refine gW (Wk.of (sl:=[(2,some (.ptr 2 0)),(3,some (.ptr 3 0)),(7,some (.ms 62 1 0 (i+1))),(19,some (.lst 1 (g.jo.map i64))),(20,some (i64 g.jo.length)),(21,some (i64 i))]) (hp:=[(2,some (.box l.av.cells)),(3,some (.box g.av.cells)),(62,some (.row 1 (((fJ l g).take (i+1)).map i64)))]) aV (.k (.k (.cons rfl (BlkSub.of (congrArg (Blk.row 1) (ya hz hj ha))) .nil)))) ?_ (17,0);refine gW (Wk.rk (k:=62) (d:=900) rfl rfl) ?_;refine ga aF ?_;exact aE J1 (i+1) hin
  refine gC (fun t63=>?_) (fun t63=>?_)
  ·have ha : jH g j = j.b := by unfold jH; cases h1 : g.bo.contains j.a <;> cases h2 : g.bo.contains j.b <;> rw [h1] at t63 <;> rw [h1, h2] at t55 <;> first | (cases t55; done) | (cases t63; done) | rfl
   refine gs (cf (.tmp rfl) rfl hlt.symm (.tmp rfl) T39 rfl T3 rfl rfl (by simp only[length_cons,length_nil];omega) rfl rfl) ?_ (17,0);refine gW (Wk.of (sl:=[(2,some (.ptr 2 0)),(3,some (.ptr 3 0)),(7,some (.ms 69 1 0 (i+1))),(19,some (.lst 1 (g.jo.map i64))),(20,some (i64 g.jo.length)),(21,some (i64 i))]) (hp:=[(2,some (.box l.av.cells)),(3,some (.box g.av.cells)),(69,some (.row 1 (((fJ l g).take (i+1)).map i64)))]) aV (.k (.k (.cons rfl (BlkSub.of (congrArg (Blk.row 1) (ya hz hj ha))) .nil)))) ?_ (17,0);refine gW (Wk.rk (k:=69) (d:=900) rfl rfl) ?_;refine ga aF ?_;exact aE J1 (i+1) hin
  have ha:jH g j=j.a:=by unfold jH;rw[if_neg (by rw[show g.bo.contains j.a=false from t63];simp)]
  refine gs (cf (.tmp rfl) rfl hlt.symm (.tmp rfl) T39 rfl T3 rfl rfl (by simp only[length_cons,length_nil];omega) rfl rfl) ?_ (17,0);refine gW (Wk.of (sl:=[(2,some (.ptr 2 0)),(3,some (.ptr 3 0)),(7,some (.ms 54 1 0 (i+1))),(19,some (.lst 1 (g.jo.map i64))),(20,some (i64 g.jo.length)),(21,some (i64 i))]) (hp:=[(2,some (.box l.av.cells)),(3,some (.box g.av.cells)),(54,some (.row 1 (((fJ l g).take (i+1)).map i64)))]) aV (.k (.k (.cons rfl (BlkSub.of (congrArg (Blk.row 1) (ya hz hj ha))) .nil)))) ?_ (17,0);refine gW (Wk.rk (k:=54) (d:=900) rfl rfl) ?_;refine ga aF ?_;exact aE J1 (i+1) hin
 have hin:=a6 hi t22;subst hin;refine gW (Wk.of (sl:=[(7,some (.ms 900 1 0 g.jo.length))]) (hp:=[(900,some (.row 1 ((fJ l g).map i64)))]) aV (.cons rfl (BlkSub.of (by rw[take_of_length_le (by rw[qu];exact le_refl _)])) .nil)) ?_;refine gR ?_;exact aq.keep (a8 rfl)
section
variable{ts:LL}{u k:Nat}{a b a2 b2:List Rat}{x y x2 y2:Et ts}{w v w' v' w2 v2 w3 v3:Nat}
theorem BC(c:Ct ts u k)(h:w+v+(w'+v')<=10000):w*u+v*k+(w'*u+v'*k)+1<=lm ts.length:=by
 have h1:=DH c (w:=w+w') (v:=v+v') (m:=10000) oz;have h2:=iu ts.length;rw[xd];omega
theorem IZ(c:Ct ts u k){R:Nat}(h:eB R ts.length<=k):2*(2500*1000000+2500*1000000+kB R ts.length)<=lm ts.length:=by
 have h1:=c.kk h;have h2:=iu ts.length;omega
theorem M8 [c : Ct ts u k] [ha : Zl ts u k a x w v] [hb : Zl ts u k b y w' v'] (h : w + v + (w' + v') <= 10000 := by decide) : FP 329 [aL ts, nA a, nA b] (.tup [nA (sX (x + y)), .v .nilIface]) := by
 obtain⟨R,tw,hk⟩:=c.ex;have h0:=BC c h;have h1:=AA tw ha.nm hb.nm oz;rw[ha.eq,hb.eq]at h1;exact h1
theorem G7 [c : Ct ts u k] [ha : Zl ts u k a x w v] [hb : Zl ts u k b y w' v'] (h : w + v + (w' + v') <= 10000 := by decide) : FP 163 [aL ts, nA a, nA b] (.tup [nA (sX (x - y)), .v .nilIface]) := by
 obtain⟨R,tw,hk⟩:=c.ex;have h0:=BC c h;have h1:=oF tw ha.nm hb.nm oz;rw[ha.eq,hb.eq]at h1;exact h1
theorem CQ [c : Ct ts u k] [ha : Zl ts u k a x w v] [hb : Zl ts u k b y w' v'] (h : w + v + (w' + v') <= 10000 := by decide) : FP 164 [aL ts, nA a, nA b] (.tup [nA (sX (x * y)), .v .nilIface]) := by
 obtain⟨R,tw,hk⟩:=c.ex;have h0:=BC c h;have h1:=zV tw ha.nm hb.nm oz;rw[ha.eq,hb.eq]at h1;exact h1
theorem U6 [c : Ct ts u k] [ha : Zl ts u k a x w v] [hb : Zl ts u k b y w' v'] [ha2 : Zl ts u k a2 x2 w2 v2] [hb2 : Zl ts u k b2 y2 w3 v3] (h : w + v + (w' + v') + (w2 + v2 + (w3 + v3)) <= 2500 := by decide) :
  FP 77 [aL ts,aG a b,aG a2 b2] (.tup [nA (sX (dotE x y x2 y2)),.v .nilIface]):=by
 obtain⟨R,tw,hk⟩:=c.ex;have h0:=IZ c hk;have h1:=xh (e:=2500*1000000) tw (ha.up c oz) (hb.up c oz) (ha2.up c oz) (hb2.up c oz) oz;rw[ha.eq,hb.eq,ha2.eq,hb2.eq]at h1;exact h1
def atXE(c s X:Et ts)(p q:Rat):Et ts:=(c*qE p-s*qE q)+X
def atYE(c s Y:Et ts)(p q:Rat):Et ts:=(s*qE p+c*qE q)+Y
instance Zu.atXE[c:Ct ts u k]{x y z:Et ts}{p q:Rat}{w1 v1 w2 v2 w3 v3 w4 w5:Nat}[Zu u k x w1 v1][Zu u k y w2 v2][Zu u k z w3 v3][Qz u p w4][Qz u q w5]:Zu u k (atXE x y z p q) (w1+w4+(w2+w5)+w3) (v1+0+1+(v2+0+1)+1+v3+1) :=
  (inferInstance:Zu u k ((x*Lw.qE p-y*Lw.qE q)+z) _ _)
instance Zu.atYE[c:Ct ts u k]{x y z:Et ts}{p q:Rat}{w1 v1 w2 v2 w3 v3 w4 w5:Nat}[Zu u k x w1 v1][Zu u k y w2 v2][Zu u k z w3 v3][Qz u p w4][Qz u q w5]:Zu u k (atYE x y z p q) (w2+w4+(w1+w5)+w3) (v2+0+1+(v1+0+1)+1+v3+1) :=
  (inferInstance:Zu u k ((y*Lw.qE p+x*Lw.qE q)+z) _ _)
end
abbrev Mw(l:Li)(g:Gr)(a:As):List AV:=[.v (.string l.name),.lst 2 (l.bo.map Bd.av),.lst 7 (l.jo.map Jt.av),.lst 2 (l.dv.map Dr.av),i64 g.kind,.lst 1 (g.bo.map i64),.lst 1 (g.jo.map i64),i64 g.driver,
  .lst 1 (a.rs.map nR),.lst 4 (a.bs.map Pl.av),.lst 1 (a.ms.map i64),.v .nilIface]
abbrev cB(l:Li)(g:Gr)(a:As):Blk:=.box (Mw l g a)
def r7(e:Nat):AV:=if e=0 then .ptr 900 0 else .v (.pointer none)
def CX(e:Nat)(l:Li)(g:Gr)(a:As):Hp:=if e=0 then[(900,some (cB l g a))]else[]
theorem lc{e:Nat}(h:e≠0):r7 e=.v (.pointer none):=if_neg h
theorem pN{e:Nat}{l:Li}{g:Gr}{a:As}(h:e≠0):CX e l g a=[]:=if_neg h
theorem GT(l:Li)(g:Gr):cK l g true=fJ l g++g.bo:=rfl
theorem Hx(l:Li)(g:Gr):cK l g false=fJ l g:=by unfold cK;simp
theorem Ks{rs:List (List Rt)}{b:Pl}{i:Nat}{x:List Rt}(h:bb rs=0)(hx:b.l[i]?=some x)(hb:∀y∈b.l.take i,bQ rs.length y=0)(hn:bQ rs.length x≠0):bn rs b.l=bQ rs.length x:=rO h hx hb hn
theorem R7{l:Li}{g:Gr}{a:As}{own:Bool}{j:Nat}{b:Int}(hb:(eG (cK l g own))[j]?=some b)(hj:∀c∈(eG (cK l g own)).take j,gE a c=0)(hn:gE a b≠0):ez ((eG (cK l g own)).map (gE a))=gE a b:=by
 have h1:eG (cK l g own)=(eG (cK l g own)).take j++b::(eG (cK l g own)).drop (j+1):=by
  obtain⟨hi,e⟩:=List.getElem?_eq_some_iff.1 hb;rw[<- e,<- List.drop_eq_getElem_cons hi,List.take_append_drop]
 generalize eG (cK l g own)=xs at *;rw[h1,map_append,sI _ _ (o9 hj),map_cons,Hv,if_pos hn]
theorem Pu(l:Li)(hl:l.ok)(k:Int)(a:As)(al:AB a)(own:Bool) :
  Con prog 61 [l.av,i64 k,a.av,bl own] [] (.tup [r7 (fE l k a own),bj (fE l k a own)]) (CX (fE l k a own) l (jk l k) a):=by
 have hbl:=al.bl;refine gF func61 (fun k z h=>by cases h) ?_;refine gc (FT l hl) ?_;refine gC (fun t27=>?_) (fun t27=>?_)
 ·have h1:=cU t27;refine gR ?_;rw[Jj rfl h1,lc h1,pN h1];exact mb rfl
 have h1:=cP t27;obtain⟨hli,hsp⟩:=Hl h1;rw[show(if aB l=0 then aN l else[])=aN l from if_pos hli];have hbs:=(cO hli).2.2.2.1;have hgl:=(sj hli).2;have hsg:aN l=cr l:=by unfold aN;rw[if_pos hsp]
 refine ci ?_;refine gC (fun t36=>?_) (fun t36=>?_)
 ·have h2:=II t36;have he:fE l k a own=9:=(qz hli).trans (Kk hsp h2);refine gR ?_;rw[he,lc (by decide),pN (by decide)];exact mb rfl
 have h2:=TW t36;refine gl ?_;refine gl ?_;refine gC (fun t44=>?_) (fun t44=>?_)
 ·have h3:=C5 t44;have he:fE l k a own=10:=(qz hli).trans (KT hsp h2 h3);refine gR ?_;rw[he,lc (by decide),pN (by decide)];exact mb rfl
 have h3:=Cj t44;refine gc (nP a.rs 400000000 al.tr) ?_;refine gC (fun t50=>?_) (fun t50=>?_)
 ·have h4:=cU t50;refine gR ?_;rw[(qz hli).trans (Q4 hsp h2 h3 h4),lc h4,pN h4];exact mb rfl
 have h4:=cP t50;obtain⟨i,rfl,hi⟩:=Pw h2;obtain⟨g,hg⟩:=au hi;obtain⟨hgd,hgo⟩:=r5 hli (mem_of_getElem? hg);have hgA:jk l (i:Nat)=g:=aC hg;rw[hgA];have he5:fE l (i:Nat) a own=ez ((eG (cK l g own)).map (gE a)):=by rw[<- hgA];exact(qz hli).trans (HB hsp h2 h3 h4)
 have hnl:(cK l g own).length<=5:=OT hgo;have hgb:=hgo.lb;have hgj:=hgo.lj;refine gi (ax hg) ?_;refine gt (ay (Ua l hl hli g hgo) (bm rfl rfl) az rfl rfl) ?_;refine gD ?_;refine gC (fun t62=>?_) (fun t62=>?_) (st1:=(13,0));cases t62;refine I8 [1,4,6,10] [4,6] [(13,some (.ms 900 1 0 (cK l g own).length))] [(900,some (.row 1 ((cK l g own).map i64)))] (True) ?_ ?_
 ·intro K1 J1;refine gC (fun t64=>?_) (fun t64=>?_)
  ·have ho:own=true:=t64;subst ho;refine gi (ax hg) ?_;refine gs (cf (.tmp rfl) rfl (by rw[length_map,qu]) (.tmp rfl) T39 rfl T3 rfl rfl (by simp only[length_map];omega) rfl rfl) ?_;exact uu J1 trivial (hw:=(Wk.of (sl:=[(1,some (i64 i)),(4,some (.ptr 4 0)),(6,some (.ptr 6 0)),(10,some (.lst 4 ((aN l).map Gr.av))),(13,some (.ms 71 1 0 (cK l g true).length))]) (hp:=[(4,some (.box l.av.cells)),(6,some (.box a.av.cells)),(71,some (.row 1 ((cK l g true).map i64)))]) (.k (.k (.k (.k (.cons rfl (Sub.of (by rw[GT,length_append,qu,length_map])) .nil))))) (.k (.k (.cons rfl (BlkSub.of (by rw[GT,map_append])) .nil)))).trans<|(Wk.rk (k:=71) (d:=900) rfl rfl).trans<|Wk.o)
  have ho:own=false:=t64;subst ho;exact uu J1 trivial (hw:=Wk.of (.cons rfl (Sub.of (by rw[Hx,qu])) (.k (.k (.k (.k .nil))))) (.cons rfl (BlkSub.of (by rw[Hx])) (.k (.k .nil))))
 rintro -;refine gt (ay (Con.rk 900 rfl rfl (QY (cK l g own) oz)) (cR rfl) az rfl rfl) ?_ (17,0);refine gW ((Wk.freeze (k:=900) rfl).trans<|Wk.of (sl:=[(1,some (i64 i)),(4,some (.ptr 4 0)),(6,some (.ptr 6 0)),(10,some (.lst 4 ((aN l).map Gr.av))),(13,some (.lst 1 ((eG (cK l g own)).map i64)))]) (hp:=[(4,some (.box l.av.cells)),(6,some (.box a.av.cells))]) (.k (.k (.k (.k (.cons rfl (Sub.of (bN (by rw[length_map,EK]))) .nil))))) (.k (.k .nil))) ?_;refine gl ?_;refine aI [1,4,6,10,74,75] [4,6] (fun(j:Nat)=>[(76,some (i64 j))]) (fun _=>[]) (fun j=>j<=(eG (cK l g own)).length/\∀b∈(eG (cK l g own)).take j,gE a b=0) (fun j=>(eG (cK l g own)).length-j) 0 ⟨zero_le _,fun b hb=>by simp at hb⟩ ?_;rintro j ⟨hj,hjz⟩ K2 J2;refine gC (fun t77=>?_) (fun t77=>?_)
 ·have hjn:=aQ t77;obtain ⟨b,hb⟩:=au hjn;have hbm:=AQ.1 (mem_of_getElem? hb);have hbr:=yi hli hgo b hbm;have hsl:(eG (cK l g own)).length <= 5:=by rw [EK]; exact hnl
  refine gi (ax hb) ?_;refine gC (fun t81=>?_) (fun t81=>?_)
  ·have hz : gE a b = 0 := by unfold gE; rw [if_pos (by simpa [aa] using t81)]
   refine ga aF ?_;exact aE J2 (j+1) ⟨hjn,fun c hc=>by rw[dj hb]at hc;rcases List.mem_append.1 hc with h9 |h9;exact hjz c h9;(rw[List.mem_singleton.1 h9];exact hz)⟩
  have hb0:0<=b:=by have:=of_decide_eq_false (p:=b<0) t81;omega
  obtain⟨p,hp⟩:=au (l:=a.bs) (i:=b.toNat) oz;have hpn:=al.nr p (mem_of_getElem? hp);have hnd:gE a b=bn a.rs p.l:=by unfold gE;rw[if_neg oz,aC hp]
  refine gi (ib (n:=b.toNat) oz hp) ?_;refine ge rfl ?_;refine aI [1,4,6,10,74,75,76,95,96] [4,6] (fun(q:Nat)=>[(97,some (i64 q))]) (fun _=>[]) (fun q=>q<=4/\∀x∈p.l.take q,bQ a.rs.length x=0) (fun q=>4-q) 0 ⟨zero_le _,fun x hx=>by simp at hx⟩ ?_;rintro q ⟨hq,hqz⟩ K3 J3;refine gC (fun t98=>?_) (fun t98=>?_)
  ·have hqn:q<4:=aQ (b:=4) t98;obtain⟨x,hx⟩:∃x,p.l[q]?=some x:=au (show q<p.l.length from hqn);have hxn:=hpn x (mem_of_getElem? hx);have hone:bn a.rs [x]=bQ a.rs.length x:=Fo h4;refine gi (ax hx) ?_;refine gc (Ai a.rs 400000000 al.tr x 50000000000 hxn (MQ _)) ?_;refine gC (fun t109=>?_) (fun t109=>?_)
   ·have h5:=cU t109;rw [hone] at h5 ⊢;have h6:gE a b = bQ a.rs.length x:=hnd.trans (Ks h4 hx hqz h5);have h7:fE l (i:Nat) a own = bQ a.rs.length x:=by rw [he5,R7 hb hjz (by rw [h6]; exact h5),h6]
    refine gR ?_;rw[h7,lc h5,pN h5];exact mb rfl
   have h5:=cP t109;rw[hone]at h5;refine ga aF ?_;exact aE J3 (q+1) ⟨hqn,fun z hz=>by rw[dj hx]at hz;rcases List.mem_append.1 hz with h9 |h9;exact hqz z h9;(rw[List.mem_singleton.1 h9];exact h5)⟩
  have hqn:q=4:=a6 (b:=4) hq t98;subst hqn;have hqz:∀x∈p.l,bQ a.rs.length x=0:=hqz;refine ga aF ?_;exact aE J2 (j+1) ⟨hjn,fun c hc=>by rw[dj hb]at hc;rcases List.mem_append.1 hc with h9 |h9;exact hjz c h9;(rw[List.mem_singleton.1 h9,hnd];exact pS h4 hqz)⟩
 have hjn:=a6 hj t77
 have h8:fE l (i:Nat) a own=0:=by
  rw[he5];exact o9 (fun b hb=>hjz b (by rw[hjn,take_length];exact hb))
 refine gi (ax hg) ?_;refine gD ?_ (77777,0);refine gW (Wk.o (sl:=[(8,some (.ptr 120 0)),(9,some (.v .nilIface))]) (hp:=[(120,some (cB l g a))])) ?_ (77777,0);refine gW (Wk.rk (k:=120) (d:=900) rfl rfl) ?_;refine gR ?_;rw[h8];exact aq.keep (a8 rfl)
theorem HJ{ts:LL}{r e:Nat}(tw:Tw ts r){a b c d:List Rat}(ha:Nm ts.length e a)(hb:Nm ts.length e b)(hc:Nm ts.length e c)(hd:Nm ts.length e d)(he:2*e<=lm ts.length) :
  FP 73 [aL ts,aG a b,aG c d] (.tup [aG (sh ts.length (subT ts (ad ts.length a) (ad ts.length c))) (sh ts.length (subT ts (ad ts.length b) (ad ts.length d))),.v .nilIface]):=by
 refine ah func73 ?_;refine gc (mL (e:=e) tw [(a,b),(c,d)] (by simp only[mem_cons,not_mem_nil,or_false];rintro p (rfl |rfl);exact⟨ha,hb⟩;exact⟨hc,hd⟩) oz (by simp)) ?_;refine gC (fun t16=>?_) (fun t16=>?_) (st1:=(3,0));cases t16;refine gt (ay (Con.rB 21 rfl rfl rfl rfl (rJ tw ha hb hc hd he)) (aA rfl rfl rfl) az rfl rfl) ?_;refine gt (ay (Con.rB 21 rfl rfl rfl rfl (vA _ _ _)) (bm rfl rfl) az rfl rfl) ?_;refine ba ?_;rfl
theorem Ff{ts:LL}{r e:Nat}(tw:Tw ts r){a b c d:List Rat}(ha:Nm ts.length e a)(hb:Nm ts.length e b)(hc:Nm ts.length e c)(hd:Nm ts.length e d)(he:2*(e+e+kB r ts.length)<=lm ts.length) :
  FP 74 [aL ts,aG a b,aG c d] (.tup [nA (sh ts.length (mU ts (ad ts.length a) (ad ts.length b) (ad ts.length c) (ad ts.length d))),.v .nilIface]):=by
 refine ah func74 ?_;refine gc (Con.sA (.cons (.refl _) (.cons (.refl _) (.cons (.refl _) (.cons (Sub.fn0 _) .nil)))) (Ey tw ha hb hc hd oz _ _ (Dp tw ha hb hc hd he))) ?_;refine ba ?_
 first |rfl |(simp;done)
section
variable{ts:LL}{u k:Nat}{a b a2 b2:List Rat}{x y x2 y2:Et ts}{w v w' v' w2 v2 w3 v3:Nat}
theorem MT [c : Ct ts u k] [ha : Zl ts u k a x w v] [hb : Zl ts u k b y w' v'] [ha2 : Zl ts u k a2 x2 w2 v2] [hb2 : Zl ts u k b2 y2 w3 v3] (h : w + v + (w' + v') + (w2 + v2 + (w3 + v3)) <= 2500 := by decide) :
  FP 73 [aL ts,aG a b,aG a2 b2] (.tup [aG (sX (x-x2)) (sX (y-y2)),.v .nilIface]):=by
 obtain⟨R,tw,hk⟩:=c.ex;have h0:=IZ c hk;have h1:=HJ (e:=2500*1000000) tw (ha.up c oz) (hb.up c oz) (ha2.up c oz) (hb2.up c oz) oz;rw[ha.eq,hb.eq,ha2.eq,hb2.eq]at h1;exact h1
end
variable{P:Program}{N:Nat}{R:Array Oper}{s:AS}{pos:String}{after:Array Edge}
theorem aR{d f k:Nat}{bx:Blk}{args:Array Operand}{ts:Array TypeId}{xs:List AV}{r:AV}{t:TypeId}
  (hcon:Con P f xs [(k,some bx)] r [(k,some bx)]) (ha:EvL s args.toList xs) (hk:s.blk k=some bx) (hok:iU s [(k,some bx)] [(k,some bx)] r=true) (hN:Nat.blt d N=true) :
  Step P N R s ⟨some d,.call ⟨.value (.func f),args,ts⟩,t,pos,after,none⟩ ⟨some r,[],eI args.toList,[k]⟩:=by
 refine Step.weaken (ay (d:=d) hcon ha (fun k' z h=>by
  obtain⟨rfl,h9⟩:=fx h;cases h9;exact hk) hok hN) (fun s' h=>h) (fun s' h k' hk'=>?_) (fun s' h=>?_)
 ·left;simp only[map_append,dg,map_cons,map_nil,mem_append,mem_cons,not_mem_nil,or_false]at hk' ⊢;rcases hk' with h9 |h9 <;> exact h9
 ·intro C m a w hr;refine⟨m,hr.weak (fun t x hx=>⟨x,hx,.refl _⟩) (fun k' x hx=>⟨x,?_,.refl _⟩)⟩;have hb:lk s'.hp k=some bx:=(h.2 k (List.mem_singleton.2 rfl)).trans hk;show lk ([(k,some bx)]++dg [(k,some bx)]++s'.hp) k'=some x;have hx':lk s'.hp k'=some x:=hx;simp only[dg,map_cons,map_nil,List.cons_append,nil_append,aJ]
  by_cases e:k'=k
  ·rw[if_pos e];rw[e,hb]at hx';exact hx'
  ·rw[if_neg e,if_neg e];exact hx'
theorem my{k1 k2 k':Nat}{x y:Option Blk}{z:Blk}(h:lk [(k1,x),(k2,y)] k'=some z):(k'=k1/\x=some z)\/(k'≠k1/\k'=k2/\y=some z):=by
 rw[aJ]at h
 by_cases e:k'=k1
 ·rw[if_pos e]at h;exact .inl ⟨e,h⟩
 ·rw[if_neg e]at h;obtain⟨h1,h2⟩:=fx h;exact .inr ⟨e,h1,h2⟩
theorem mz{k1 k2:Nat}{x y:Option Blk}:lk [(k1,x),(k2,y)] k1=x:=by rw[aJ,if_pos rfl]
theorem mC{k1 k2:Nat}{x y:Option Blk}(h:k1≠k2):lk [(k1,x),(k2,y)] k2=y:=by rw[aJ,if_neg (fun e=>h e.symm),aJ,if_pos rfl]
theorem F9{k1 k2:Nat}(hne:k1≠k2){x y:Blk}{m:Nat->Option Nat}{b:Nat}:aW [(k1,some x),(k2,some y)] m b↔m k1=some b\/m k2=some b:=by
 constructor
 ·rintro⟨k',z,hz,hb⟩;rcases my hz with⟨e,_⟩ |⟨_,e,_⟩
  ·exact .inl (e▸hb)
  ·exact .inr (e▸hb)
 ·rintro(h |h)
  ·exact⟨k1,x,mz,h⟩
  ·exact⟨k2,y,mC hne,h⟩
theorem Em{k1 k2 d1 d2:Nat}(hk:k1≠k2)(hd:d1≠d2){x y x' y':Blk}{m m2:Nat->Option Nat}(h1:m2 d1=m k1)(h2:m2 d2=m k2):aW [(d1,some x'),(d2,some y')] m2=aW [(k1,some x),(k2,some y)] m:=by
 funext b;apply propext;rw[F9 hk,F9 hd,h1,h2]
theorem y9{ext:Nat->Prop}{k1 k2 d1 d2:Nat}(hk:k1≠k2)(hd:d1≠d2){x y x' y':Blk}{m m2:Nat->Option Nat}{w:World}(h1:m2 d1=m k1)(h2:m2 d2=m k2):Im ext [(d1,some x'),(d2,some y')] m2 w=Im ext [(k1,some x),(k2,some y)] m w:=by
 funext b cs;simp only[Im,Em hk hd (x:=x) (y:=y) (x':=x') (y':=y') h1 h2]
theorem C1{ext:Nat->Prop}{k1 k2 d1 d2:Nat}(hk:k1≠k2)(hd:d1≠d2){x y:Blk}{m m2:Nat->Option Nat}{w:World}(hx:x.nm=[])(hy:y.nm=[])(h1:m2 d1=m k1)(h2:m2 d2=m k2)
  (hr:HeapRel ext [(k1,some x),(k2,some y)] m w):HeapRel ext [(d1,some x),(d2,some y)] m2 w:=by
 refine⟨?_,?_,?_⟩
 ·intro k' z hz;rw[y9 hk hd (x:=x) (y:=y) h1 h2];rcases my hz with⟨rfl,h9⟩ |⟨_,rfl,h9⟩
  ·cases h9;exact BlkRep.mono (w:=w) (fun _ _ h=>h) (fun _ _ h=>h) (fun _ _ hn=>(xI hx hn).elim) h1 (fun _ _=>rfl) (hr.blk k1 _ mz)
  ·cases h9;exact BlkRep.mono (w:=w) (fun _ _ h=>h) (fun _ _ h=>h) (fun _ _ hn=>(xI hy hn).elim) h2 (fun _ _=>rfl) (hr.blk k2 _ (mC hk))
 ·intro k k' z z' b hz hz' hb hb';rcases my hz with⟨rfl,_⟩ |⟨_,rfl,_⟩ <;> rcases my hz' with⟨rfl,_⟩ |⟨_,rfl,_⟩
  ·rfl
  ·exact absurd (hr.inj k1 k2 _ _ b mz (mC hk) (h1▸hb) (h2▸hb')) hk
  ·exact absurd (hr.inj k1 k2 _ _ b mz (mC hk) (h1▸hb') (h2▸hb)) hk
  ·rfl
 ·intro k' z b hz hb;rcases my hz with⟨rfl,h9⟩ |⟨_,rfl,h9⟩
  ·exact hr.sep k1 _ b mz (h1▸hb)
  ·exact hr.sep k2 _ b (mC hk) (h2▸hb)
theorem Con.rekeyBB{P:Program}{f:FuncId}{k1 k2 o1 o2:Nat}{x y x' y':Blk}{xs:List AV}{r:AV}(d1 d2:Nat)(hk:k1≠k2)(hd:d1≠d2)(hx:x.nm=[])(hy:y.nm=[])(hx':x'.nm=[])(hy':y'.nm=[])(hxs:(xs.all fun x=>x.nm.isEmpty)=true)(hr:r.nm=[])
  (h:Con P f (.ptr k1 o1 :: .ptr k2 o2::xs) [(k1,some x),(k2,some y)] r [(k1,some x'),(k2,some y')]):Con P f (.ptr d1 o1 :: .ptr d2 o2::xs) [(d1,some x),(d2,some y)] r [(d1,some x'),(d2,some y')]:=by
 refine⟨h.ok,?_⟩;intro ext m w vs hext hheap hvs hrep;obtain⟨m2,e1,e2⟩:∃m2:Nat->Option Nat,m2 k1=m d1/\m2 k2=m d2:=⟨fun k=>if k=k1 then m d1 else m d2,if_pos rfl,if_neg (fun e=>hk e.symm)⟩
 have h1 := h.ret ext m2 w vs hext (C1 hd hk hx hy e1 e2 hheap) (by simpa using hvs) (by
  intro j v z hv hz;rw[y9 hd hk (x:=x) (y:=y) e1 e2]
  match j,hz with
  |0,hz =>
   cases hz;have h2:=hrep 0 v _ hv rfl;cases h2 with
   |ptr hm=>exact .ptr (e1.trans hm)
  |1,hz =>
   cases hz;have h2:=hrep 1 v _ hv rfl;cases h2 with
   |ptr hm=>exact .ptr (e2.trans hm)
  |j+2,hz =>
   have h2:=hrep (j+2) v z hv hz;refine i9 ?_ h2;have:=List.all_eq_true.1 hxs z (mem_of_getElem? hz);simpa using this)
 refine Calls.mono h1 ?_;rintro e w' ⟨v,m',rfl,hf,hh,hn,hkp,hrr⟩;have ho:=Em hd hk (x:=x) (y:=y) (x':=x) (y':=y) e1 e2;obtain⟨m3,f1,f2⟩:∃m3:Nat->Option Nat,m3 d1=m' k1/\m3 d2=m' k2:=⟨fun k=>if k=d1 then m' k1 else m' k2,if_pos rfl,if_neg (fun e=>hd e.symm)⟩
 refine⟨v,m3,rfl,ho▸hf,C1 hk hd hx' hy' f1 f2 hh,?_,?_,?_⟩
 ·intro k' z b hz hb;rw[<- ho];rcases my hz with⟨rfl,_⟩ |⟨_,rfl,_⟩
  ·exact hn k1 _ b mz (f1▸hb)
  ·exact hn k2 _ b (mC hk) (f2▸hb)
 ·intro k' z z' hz hz';rcases my hz with⟨rfl,_⟩ |⟨_,rfl,_⟩
  ·rw[f1,<- e1];exact hkp k1 _ _ mz mz
  ·rw[f2,<- e2];exact hkp k2 _ _ (mC hk) (mC hk)
 ·rw[y9 hk hd (x:=x') (y:=y') f1 f2];exact i9 hr hrr
end Go.Lw
namespace Go.Lw
open Go.Proofs
theorem FR{l:Li}{body pt:Int}{n k:Nat}{bd:Bd}{m:Mk}(h:MkP l body pt n k bd m):qP (aY l body pt)=.agg [bl m.x.neg,ws m.x.num,ws m.x.den,bl m.y.neg,ws m.y.num,ws m.y.den]:=by
 rw[h.ex,h.ey]
theorem oI{p q:Rat×Rat}{e f:Nat}(hp:Sm e p)(hq:Sm f q)(he:e<=1000000)(hf:f<=1000000):FP 146 [qP p,qP q] (qP (b8 p q)):=by
 refine ah func146 ?_;refine gc (uN (hp.x.qs oz) (hq.x.qs oz)) ?_;refine gc (uN (hp.y.qs oz) (hq.y.qs oz)) ?_;refine gD ?_;refine ae ?_
 first |rfl |(simp;done)
theorem DN{p q:Rat×Rat}{e f:Nat}(hp:Sm e p)(hq:Sm f q)(he:e<=1000000)(hf:f<=1000000):FP 251 [qP p,qP q] (qA (bX p q)):=by
 refine ah func251 ?_;refine gc (sJ (hp.x.qs oz) (hq.x.qs oz)) ?_;refine gc (sJ (hp.y.qs oz) (hq.y.qs oz)) ?_;refine gc (xG ((hp.x.mul hq.x).qs oz) ((hp.y.mul hq.y).qs oz)) ?_;refine gD ?_;refine ae ?_
 first |rfl |(simp;done)
theorem QZ{p q:Rat×Rat}{e f:Nat}(hp:Sm e p)(hq:Sm f q)(he:e<=1000000)(hf:f<=1000000):FP 165 [qP p,qP q] (qA (zj p q)):=by
 refine ah func165 ?_;refine gc (sJ (hp.x.qs oz) (hq.y.qs oz)) ?_;refine gc (sJ (hp.y.qs oz) (hq.x.qs oz)) ?_;refine gc (uN ((hp.x.mul hq.y).qs oz) ((hp.y.mul hq.x).qs oz)) ?_;refine gD ?_;refine ae ?_
 first |rfl |(simp;done)
theorem xZ{p:Rat×Rat}{e:Nat}(hp:Sm e p)(he:e<=1000000):FP 158 [qP p] (nA (sh 0 (bX p p:Rat))):=by
 refine ah func158 ?_;refine gc (DN hp hp he he) ?_;refine gc (lD ((hp.dot hp).qs oz)) ?_;refine ae ?_
 first |rfl |(simp;done)
theorem nk{l:Li}(hl:l.ok)(hli:aB l=0)(g:Gr)(a:As){body pt:Int}(h1:bq body l.bo.length=true)(h2:bq pt (cI l body).length=true) :
  Con prog 159 [.ptr 1000 0,i64 body,i64 pt] [(1000,some (cB l g a))] (qP (aY l body pt)) [(1000,some (cB l g a))]:=by
 obtain⟨n,k,bd,m,mp⟩:=qY hl hli h1 h2;rw[FR mp];have hn:=mp.hn;have hk:=mp.hk;have hlb:=hl.lb;subst hn;subst hk;refine gF func159 (fun k z h=>br h) ?_;refine gi (ax mp.gbd) ?_;refine gi (ax mp.gm) ?_;refine gR ?_;exact aq.keep (a8 rfl)
theorem tD{E:Nat}{l:Li}(hl:l.ok)(hli:aB l=0)(g:Gr){a:As}(al:AB a)(hc:bb a.rs=0){body pt:Int}(h1:bq body l.bo.length=true)(h2:bq pt (cI l body).length=true)(hE:E<=20000000000)(h3:(llq a.rs).length<=2)(hb:Pd E a body) :
  Con prog 88 [.ptr 1000 0,i64 body,i64 pt] [(1000,some (cB l g a))] (aG (sX (bG l a body pt).1) (sX (bG l a body pt).2)) [(1000,some (cB l g a))]:=by
 obtain⟨n,k,bd,m,b,hp⟩:=wc hl hli al hc h1 h2 hb;obtain⟨tw,hta⟩:=dh al.tr hc
 have kb:kB 400000000 (llq a.rs).length<=1200000006:=by
  have h9:=gV 400000000 h3;have h8:eB 400000000 2=1200000006:=by decide
  show eB 400000000 _<=_;omega
 have hlm:lm (llq a.rs).length=200000000000:=by unfold lm;rw[if_pos h3]
 have hlb:=hl.lb;have hbl:=al.bl;have hmk:=nk hl hli g a h1 h2;show Con prog _ _ _ (aG (sh (llq a.rs).length (tM l a body pt).1) (sh (llq a.rs).length (tM l a body pt).2)) _;rw[hp.eq];have hn:=hp.mp.hn;rw[FR hp.mp]at hmk
 have hat:FP 86 [cZ a.rs,b.av,m.x.av,m.y.av] (.tup [aG (sh (llq a.rs).length (nO (llq a.rs) b m).1) (sh (llq a.rs).length (nO (llq a.rs) b m).2),.v .nilIface]):=by
  rw[hta,hp.av,hp.mp.ex,hp.mp.ey];have h9:=Ae tw (hp.ok.c.mono (f:=E+1000) oz) (hp.ok.s.mono oz) (hp.ok.x.mono oz) (hp.ok.y.mono oz) (hp.mp.sm.x.mono (f:=E+1000) oz) (hp.mp.sm.y.mono (f:=E+1000) oz) oz;unfold nO;rw[hp.mp.ex,hp.mp.ey,bP,bP];exact h9
 refine gF func88 (fun k z h=>br h) ?_;refine gt (ay hmk (aA rfl rfl rfl) az rfl rfl) ?_;refine gi (ib (n:=n) hn hp.gb) ?_;refine gc hat ?_;refine gD ?_;refine gC (fun t39=>?_) (fun t39=>?_) (st2:=(77777,0))
 ·refine gR ?_;exact aq.keep (a8 rfl)
 cases t39
theorem rY{E:Nat}(hE:E<=20000000000){l:Li}(hl:l.ok)(hli:aB l=0)(g:Gr)(hg:GrOk l g){a:As}(al:AB a)(hc:bb a.rs=0){k:Nat}{z b:Int}{j:Jt}(hz:g.jo[k]?=some z)(hj:l.jo[z.toNat]?=some j)(h3:(llq a.rs).length<=2)(h:PinP E l a j b) :
  Con prog 141 [.ptr 1000 0,i64 k,i64 b] [(1000,some (cB l g a))] (.tup [qP (ai l j b),aG (sX (aO l a j b).1) (sX (aO l a j b).2)]) [(1000,some (cB l g a))]:=by
 obtain⟨z0,z1⟩:=hg.j z (mem_of_getElem? hz);obtain⟨i1,i2,i3,i4,_⟩:=d7 hli hj;have hgj:=hg.lj;have hlj:=hl.lj;refine gF func141 (fun k z h=>br h) ?_;refine gi (ax hz) ?_;refine gi (ib (n:=z.toNat) oz hj) ?_;refine gD ?_;refine gC (fun t27=>?_) (fun t27=>?_)
 ·have e:j.a = b:=da t27;have hb:Pd E a j.b:=by rcases h.tie with h9 | h9; exact h9.2; exact absurd e h9.1
  have eq1:ai l j b=aY l b j.point:=if_pos e;have eq2:aO l a j b=bG l a j.b j.on:=if_pos e;rw[eq1,eq2];subst e;refine gt (ay (nk hl hli g a i1 i3) (aA rfl rfl rfl) az rfl rfl) ?_;refine gt (ay (tD hl hli g al hc i2 i4 hE h3 hb) (aA rfl rfl rfl) az rfl rfl) ?_;refine gD ?_;refine gR ?_;exact aq.keep (a8 rfl)
 have e:j.a≠b:=dZ t27;have e2:j.b=b/\Pd E a j.a:=by rcases h.tie with h9 |h9;exact absurd h9.1 e;exact h9.2
 have eq1:ai l j b=aY l b j.on:=if_neg e;have eq2:aO l a j b=bG l a j.a j.point:=if_neg e;rw[eq1,eq2];obtain⟨e2,hb⟩:=e2;subst e2;refine gt (ay (nk hl hli g a i2 i4) (aA rfl rfl rfl) az rfl rfl) ?_;refine gt (ay (tD hl hli g al hc i1 i3 hE h3 hb) (aA rfl rfl rfl) az rfl rfl) ?_;refine gD ?_;refine gR ?_;exact aq.keep (a8 rfl)
theorem Ec{l:Li}(hl:l.ok)(hli:aB l=0)(g:Gr)(hg:GrOk l g)(a:As){z b:Int}{j:Jt}(hz:g.jo[2]?=some z)(hj:l.jo[z.toNat]?=some j)(h:j.a=b\/j.b=b) :
  Con prog 155 [.ptr 1000 0,i64 b] [(1000,some (cB l g a))] (qP (ai l j b)) [(1000,some (cB l g a))]:=by
 obtain⟨z0,z1⟩:=hg.j z (mem_of_getElem? hz);obtain⟨i1,i2,i3,i4,_⟩:=d7 hli hj;have hgj:=hg.lj;have hlj:=hl.lj;have h2:=(List.getElem?_eq_some_iff.1 hz).1;refine gF func155 (fun k z h=>br h) ?_;refine gi (ax hz) ?_;refine gi (ib (n:=z.toNat) oz hj) ?_;refine gD ?_;refine gC (fun t23=>?_) (fun t23=>?_)
 ·have e:j.a=b:=da t23;have eq1:ai l j b=aY l b j.point:=if_pos e;rw[eq1];subst e;refine gt (ay (nk hl hli g a i1 i3) (aA rfl rfl rfl) az rfl rfl) ?_;refine gR ?_;exact aq.keep (a8 rfl)
 have e:j.a≠b:=dZ t23;have e2:j.b=b:=by rcases h with h9 |h9;exact absurd h9 e;exact h9
 have eq1:ai l j b=aY l b j.on:=if_neg e;rw[eq1];subst e2;refine gt (ay (nk hl hli g a i2 i4) (aA rfl rfl rfl) az rfl rfl) ?_;refine gR ?_;exact aq.keep (a8 rfl)
theorem IT{l:Li}(hl:l.ok)(g:Gr)(hg:GrOk l g)(a:As){z:Int}{j:Jt}(hz:g.jo[1]?=some z)(hj:l.jo[z.toNat]?=some j) :
  Con prog 87 [.ptr 1000 0] [(1000,some (cB l g a))] j.av [(1000,some (cB l g a))]:=by
 obtain⟨z0,z1⟩:=hg.j z (mem_of_getElem? hz);have hgj:=hg.lj;have hlj:=hl.lj;have h2:=(List.getElem?_eq_some_iff.1 hz).1;refine gF func87 (fun k z h=>br h) ?_;refine gi (ax hz) ?_;refine gi (ib (n:=z.toNat) oz hj) ?_;refine gD ?_;refine gR ?_;exact aq.keep (a8 rfl)
abbrev Pa{ts:LL}(p:Rat×Rat)(at_:Et ts×Et ts)(c:Rat×Rat):List AV :=
  [bl (rt p.1).neg,ws (rt p.1).num,ws (rt p.1).den,bl (rt p.2).neg,ws (rt p.2).num,ws (rt p.2).den,nA (sX at_.1),nA (sX at_.2),bl (rt c.1).neg,ws (rt c.1).num,ws (rt c.1).den,bl (rt c.2).neg,ws (rt c.2).num,ws (rt c.2).den]
abbrev un{ts:LL}(p:Rat×Rat)(at_:Et ts×Et ts)(c:Rat×Rat):AV:=.agg (Pa p at_ c)
abbrev Ny{ts:LL}(p:Rat×Rat)(at_:Et ts×Et ts)(c:Rat×Rat):AV:=.agg [nA (sX at_.1),nA (sX at_.2),nA (sh 0 (bT c p:Rat))]
theorem xQ{ts:LL}{p c:Rat×Rat}(hp:Sm 1000 p)(hc:Sm 1000 c)(at_:Et ts×Et ts):FP 70 [un p at_ c] (Ny p at_ c):=by
 refine ah func70 ?_;refine gc (oI hc hp oz oz) ?_;refine gc (xZ (hc.sub hp) oz) ?_;refine gD ?_;refine ae ?_
 first |rfl |(simp;done)
theorem Lu{l:Li}(hl:l.ok)(hli:aB l=0){a:As}(al:AB a)(hc:bb a.rs=0)(h3:(llq a.rs).length<=2){i k z0 z1 z2:Int}{j0 j1 j2:Jt}(hg:GrOk l ⟨1,[i,k],[z0,z1,z2],0⟩)
  (h0:l.jo[z0.toNat]?=some j0) (h1:l.jo[z1.toNat]?=some j1) (h2:l.jo[z2.toNat]?=some j2) (p0:PinP 3900000 l a j0 i) (p1:PinP 3900000 l a j1 k) (t1:j2.a=i\/j2.b=i) (t2:j2.a=k\/j2.b=k) :
  Con prog 67 [.ptr 1000 0] [(1000,some (cB l ⟨1,[i,k],[z0,z1,z2],0⟩ a))] (.tup [un (ai l j0 i) (aO l a j0 i) (ai l j2 i),un (ai l j1 k) (aO l a j1 k) (ai l j2 k)]) [(1000,some (cB l ⟨1,[i,k],[z0,z1,z2],0⟩ a))]:=by
 refine gF func67 (fun k z h=>br h) ?_;refine gi (rfl) ?_;refine gi (rfl) ?_;refine gD ?_;refine gt (ay (rY oz hl hli _ hg al hc (k:=0) rfl h0 h3 p0) (.cons (.tmp rfl) (.cons (.const _) (cR rfl))) az rfl rfl) ?_;refine gt (ay (rY oz hl hli _ hg al hc (k:=1) rfl h1 h3 p1) (.cons (.tmp rfl) (.cons (.const _) (cR rfl))) az rfl rfl) ?_;refine gt (ay (Ec hl hli _ hg a rfl h2 t1) (bm rfl rfl) az rfl rfl) ?_;refine gt (ay (Ec hl hli _ hg a rfl h2 t2) (bm rfl rfl) az rfl rfl) ?_;refine gD ?_;refine gR ?_;exact aq.keep (a8 rfl)
theorem KH{l:Li}(hl:l.ok)(hli:aB l=0){a:As}(al:AB a)(hc:bb a.rs=0)(h3:(llq a.rs).length<=2){i z0 z1:Int}{j0 j1:Jt}(hg:GrOk l ⟨2,[i],[z0,z1],0⟩)
  (h0:l.jo[z0.toNat]?=some j0) (h1:l.jo[z1.toNat]?=some j1) (p0:PinP 3900000 l a j0 i) (ha:j1.a=i) (hk:j1.kind≠0) (hb:Pd 3900000 a j1.b) :
  Con prog 71 [.ptr 1000 0] [(1000,some (cB l ⟨2,[i],[z0,z1],0⟩ a))] (.tup [un (ai l j0 i) (aO l a j0 i) (aY l i j1.point),aG (sX (bG l a j1.b j1.on).1) (sX (bG l a j1.b j1.on).2),aG (sX (bG l a j1.b j1.to).1) (sX (bG l a j1.b j1.to).2)]) [(1000,some (cB l ⟨2,[i],[z0,z1],0⟩ a))]:=by
 obtain⟨i1,i2,i3,i4,i5⟩:=d7 hli h1;rw[ha]at i1 i3;refine gF func71 (fun k z h=>br h) ?_;refine gi (rfl) ?_;refine gt (aR (IT hl _ hg a rfl h1) (cR rfl) rfl rfl rfl) ?_;refine gD ?_;refine gt (ay (rY oz hl hli _ hg al hc (k:=0) rfl h0 h3 p0) (.cons (.tmp rfl) (.cons (.const _) (cR rfl))) az rfl rfl) ?_;refine gt (ay (nk hl hli _ a i1 i3) (aA rfl rfl rfl) az rfl rfl) ?_;refine gt (ay (tD hl hli _ al hc i2 i4 oz h3 hb) (aA rfl rfl rfl) az rfl rfl) ?_;refine gt (ay (tD hl hli _ al hc i2 (i5 hk) oz h3 hb) (aA rfl rfl rfl) az rfl rfl) ?_;refine gD ?_;refine gR ?_;exact aq.keep (a8 rfl)
structure Vr where
  w:List Rt
  x:List Rt
  y:List Rt
instance:Inhabited Vr:=⟨⟨[],[],[]⟩⟩
def Vr.av(v:Vr):AV:=.agg [nR v.w,nR v.x,nR v.y]
def Vr.l(v:Vr):List (List Rt):=[v.w,v.x,v.y]
theorem AL.ct{a:As}(h:AL a)(hc:bb a.rs=0):Ct (llq a.rs) 4000 300000:=by
 obtain⟨tw,_⟩:=dh h.tr hc;exact⟨⟨40000,tw,le_trans (JQ 40000 tw.three) oz⟩,by omega,by omega,by omega,by omega⟩
abbrev dU(rs:List (List Rt)):Blk:=.box [.lst 1 (rs.map nR),.v .nilIface]
theorem wn(rs:List (List Rt))(a:List Rat):Con prog 68 [.ptr 1000 0,nA a,.v .nilIface] [(1000,some (dU rs))] (nA a) [(1000,some (dU rs))]:=by
 refine gF func68 (fun k z h=>br h) ?_;refine gC (fun t11=>?_) (fun t11=>?_) (st2:=(77777,0))
 ·refine gR ?_;exact aq.keep (a8 rfl)
 cases t11
theorem Ik(rs:List (List Rt))(a b:List Rat):Con prog 72 [.ptr 1000 0,aG a b,.v .nilIface] [(1000,some (dU rs))] (aG a b) [(1000,some (dU rs))]:=by
 refine gF func72 (fun k z h=>br h) ?_;refine gC (fun t11=>?_) (fun t11=>?_) (st2:=(77777,0))
 ·refine gR ?_;exact aq.keep (a8 rfl)
 cases t11
section
variable{rs:List (List Rt)}{r u k:Nat}{a b:List Rat}{x y:Et (llq rs)}{w v w' v':Nat}
theorem EG (h : TR rs r) (hc : bb rs = 0) [c0 : Ct (llq rs) u k] [ha : Zl (llq rs) u k a x w v] [hb : Zl (llq rs) u k b y w' v'] (hs : w + v + (w' + v') <= 10000 := by decide) :
  Con prog 76 [.ptr 1000 0,nA a,nA b] [(1000,some (dU rs))] (nA (sX (x*y))) [(1000,some (dU rs))]:=by
 have hx:=CQ (ha:=ha) (hb:=hb) hs;rw[qU h hc]at hx;refine gF func76 (fun k z h=>br h) ?_;refine gc hx ?_;refine gt (ay (wn _ _) (aA rfl rfl rfl) az rfl rfl) ?_;refine gR ?_;exact aq.keep (a8 rfl)
theorem Vz (h : TR rs r) (hc : bb rs = 0) [c0 : Ct (llq rs) u k] [ha : Zl (llq rs) u k a x w v] [hb : Zl (llq rs) u k b y w' v'] (hs : w + v + (w' + v') <= 10000 := by decide) :
  Con prog 75 [.ptr 1000 0,nA a,nA b] [(1000,some (dU rs))] (nA (sX (x-y))) [(1000,some (dU rs))]:=by
 have hx:=G7 (ha:=ha) (hb:=hb) hs;rw[qU h hc]at hx;refine gF func75 (fun k z h=>br h) ?_;refine gc hx ?_;refine gt (ay (wn _ _) (aA rfl rfl rfl) az rfl rfl) ?_;refine gR ?_;exact aq.keep (a8 rfl)
end
structure DyW(l:Li)(a:As):Prop where
  hl:l.ok
  li:aB l=0
  al:AB a
  hc:bb a.rs=0
structure DyR(l:Li)(a:As):Prop extends DyW l a where
  s:DyS a
theorem DyR.two{l:Li}{a:As}(D:DyR l a):(llq a.rs).length<=2:=le_trans (D.s.one D.hc) oz
theorem BA{n:Nat}(hn:n<=1):kB 64990 n<=65000:=by
 have h1:=gV 64990 hn;have h2:eB 64990 1=64992:=by simp only[eB]
 show eB 64990 _<=_;omega
theorem Dk{n:Nat}(h3:n<=2):kB 400000000 n<=1200000006:=by
 have h9:=gV 400000000 h3;have h8:eB 400000000 2=1200000006:=by decide
 show eB 400000000 _<=_;omega
abbrev vm(l:Li)(a:As)(i:Int)(j0 j:Jt):List AV :=
  qC (ai l j0 i)++([nA (sX (aO l a j0 i).1),nA (sX (aO l a j0 i).2)]++(qC (dt l i j)++[nA (sh 0 (cW l i j0 j:Rat)),nA (sh 0 (j6 l i j:Rat)),nA (sX (cQ l a i j0 j)),nA (sX (dz l a i j0 j).1),nA (sX (dz l a i j0 j).2)]))
theorem Cq{l:Li}{a:As}(D:DyR l a){n:Nat}{i:Int}{j0 j:Jt}(h0:l.jo[n]?=some j0)(p0:PinP 3900000 l a j0 i){m:Nat}(h1:l.jo[m]?=some j)(hb:Pd 3900000 a j.a) :
  Zu 310000 65000 (dz l a i j0 j).1 80 81/\Zu 310000 65000 (dz l a i j0 j).2 80 81:=by
 obtain⟨i1,i2,i3,i4,_⟩:=d7 D.li h1;obtain⟨z1,z2⟩:=mh D.hl D.li D.al D.s D.hc h0 p0;obtain⟨y1,y2⟩:=nv D.hl D.li D.al D.s D.hc i1 i3 hb;haveI c:=D.s.ct D.hc;haveI:=z1;haveI:=z2;haveI:=y1;haveI:=y2
 exact⟨(inferInstance:Zu 310000 65000 ((bG l a j.a j.point).1-(aO l a j0 i).1) _ _),(inferInstance:Zu 310000 65000 ((bG l a j.a j.point).2-(aO l a j0 i).2) _ _)⟩
theorem S8{l:Li}{a:As}(D:DyR l a){i z0 z1:Int}{j0 j:Jt}(hg:GrOk l ⟨3,[i],[z0,z1],0⟩)
  (h0:l.jo[z0.toNat]?=some j0) (h1:l.jo[z1.toNat]?=some j) (p0:PinP 3900000 l a j0 i) (hi:j.b=i) (hk:j.kind≠0) (hb:Pd 3900000 a j.a) :
  Con prog 78 [.ptr 1000 0,.ptr 1001 0] [(1000,some (cB l ⟨3,[i],[z0,z1],0⟩ a)),(1001,some (dU a.rs))] (.agg (vm l a i j0 j)) [(1000,some (cB l ⟨3,[i],[z0,z1],0⟩ a)),(1001,some (dU a.rs))]:=by
 obtain⟨i1,i2,i3,i4,i5⟩:=d7 D.li h1;have hs0:Sm 1000 (ai l j0 i):=iC D.hl D.li h0 (by rcases p0.tie with h9 |h9;exact .inl h9.1;exact .inr h9.2.1);subst hi;have hs1:=kR D.hl D.li i2 i4;have hs2:=kR D.hl D.li i2 (i5 hk);have hv:=hs2.sub hs1;obtain⟨z1',z2'⟩:=mh D.hl D.li D.al D.s D.hc h0 p0;obtain⟨y1,y2⟩:=nv D.hl D.li D.al D.s D.hc i1 i3 hb;obtain⟨w1,w2⟩:=Cq D h0 p0 h1 hb;haveI c:=D.s.ct D.hc;haveI:=z1';haveI:=z2';haveI:=y1;haveI:=y2;haveI:=w1;haveI:=w2
 have hsub:=MT (ts:=llq a.rs) (u:=310000) (k:=65000) (a:=sX (bG l a j.a j.point).1) (b:=sX (bG l a j.a j.point).2) (a2:=sX (aO l a j0 j.b).1) (b2:=sX (aO l a j0 j.b).2);have hdot:=U6 (ts:=llq a.rs) (u:=310000) (k:=65000) (a:=sX (dz l a j.b j0 j).1) (b:=sX (dz l a j.b j0 j).2) (a2:=sX (dz l a j.b j0 j).1) (b2:=sX (dz l a j.b j0 j).2);rw[qU D.s.tr D.hc]at hsub hdot;refine gF func78 (fun k z h=>Md h) ?_;refine gi (rfl) ?_;refine gt (aR (IT D.hl _ hg a rfl h1) (cR rfl) rfl rfl rfl) ?_;refine gD ?_;refine gt (ay (rY oz D.hl D.li _ hg D.al D.hc (k:=0) rfl h0 D.two p0) (.cons (.tmp rfl) (.cons (.const _) (cR rfl))) az rfl rfl) ?_;refine gt (aR (nk D.hl D.li _ a i2 i4) (aA rfl rfl rfl) rfl rfl rfl) ?_;refine gt (aR (nk D.hl D.li _ a i2 (i5 hk)) (aA rfl rfl rfl) rfl rfl rfl) ?_;refine gc (oI hs2 hs1 oz oz) ?_;refine gD ?_;refine gc (oI hs1 hs0 oz oz) ?_;refine gc (QZ hv (hs1.sub hs0) oz oz) ?_;refine gc (lD ((hv.cross (hs1.sub hs0)).qs oz)) ?_;refine gc (xZ hv oz) ?_;refine gD ?_;refine gt (ay (tD D.hl D.li _ D.al D.hc i1 i3 oz D.two hb) (aA rfl rfl rfl) az rfl rfl) ?_;refine gC (fun t63=>?_) (fun t63=>?_) (st2:=(77777,0))
 ·refine gc hsub ?_;refine gt (ay (Con.rB 1001 rfl rfl rfl rfl (Ik _ _ _)) (aA rfl rfl rfl) az rfl rfl) ?_;refine gD ?_;refine gc hdot ?_;refine gt (ay (Con.rB 1001 rfl rfl rfl rfl (wn _ _)) (aA rfl rfl rfl) az rfl rfl) ?_;refine gD ?_;refine gR ?_;exact aq.keep (me rfl rfl)
 cases t63
theorem NZ{l:Li}{a:As}(D:DyR l a){i:Int}{j0 j:Jt}{w v:Nat}[z1:Zl (llq a.rs) 310000 65000 (sh 0 (cW l i j0 j:Rat)) (qE (cW l i j0 j)) 3 0][z2:Zl (llq a.rs) 310000 65000 (sh 0 (j6 l i j:Rat)) (qE (j6 l i j)) 3 0][z3:Zu 310000 65000 (cQ l a i j0 j) w v](hw:w+v<=2000) :
  Con prog 79 [.agg (vm l a i j0 j),.ptr 1001 0] [(1001,some (dU a.rs))] (nA (sX (qE (j6 l i j)*cQ l a i j0 j-qE (cW l i j0 j)*qE (cW l i j0 j)))) [(1001,some (dU a.rs))]:=by
 haveI c:=D.s.ct D.hc;haveI:=z1.zu;haveI:=z2.zu
 have m1:=EG (a:=sh 0 (j6 l i j:Rat)) (b:=sX (cQ l a i j0 j)) D.s.tr D.hc oz;have m2:=EG (a:=sh 0 (cW l i j0 j:Rat)) (b:=sh 0 (cW l i j0 j:Rat)) D.s.tr D.hc oz;have m3:=Vz (a:=sX (qE (j6 l i j)*cQ l a i j0 j)) (b:=sX (qE (cW l i j0 j)*qE (cW l i j0 j):Et (llq a.rs))) D.s.tr D.hc oz;refine gF func79 (fun k z h=>by have:=(fx h).1;omega) ?_;refine gt (ay (Con.rB 1001 rfl rfl rfl rfl m1) (aA rfl rfl rfl) az rfl rfl) ?_;refine gt (ay (Con.rB 1001 rfl rfl rfl rfl m2) (aA rfl rfl rfl) az rfl rfl) ?_;refine gt (ay (Con.rB 1001 rfl rfl rfl rfl m3) (aA rfl rfl rfl) az rfl rfl) ?_;refine gD ?_;refine gR ?_;exact aq.keep (a8 rfl)
abbrev Ci:Type:=List Rat×List Rat×List Rat
abbrev Hz(c:Ci):AV:=.agg [nA c.1,nA c.2.1,nA c.2.2]
structure CiZ(rs:List (List Rt))(c:Ci):Prop where
  x:Nm (llq rs).length 2500000000 c.1
  y:Nm (llq rs).length 2500000000 c.2.1
  r:Nm (llq rs).length 2500000000 c.2.2
  sg:0<=am (dE (llq rs) c.2.2)
theorem KZ{ts:LL}(p q:Et ts×Et ts):dotE (q.1-p.1) (q.2-p.2) (q.1-p.1) (q.2-p.2)=aD p q:=by
 unfold aD qR bu dotE;dsimp only;grind
theorem Dh{ts:LL}(c:Ct ts 310000 65000){x y x2 y2:Et ts}(h1:Zu 310000 65000 x 40 40)(h2:Zu 310000 65000 y 40 40)(h3:Zu 310000 65000 x2 40 40)(h4:Zu 310000 65000 y2 40 40):Zu 310000 65000 (aD (x,y) (x2,y2)) 320 327:=by
 haveI:=c;haveI:=h1;haveI:=h2;haveI:=h3;haveI:=h4
 exact(inferInstance:Zu 310000 65000 (dotE (x-x2) (y-y2) (x-x2) (y-y2)) _ _)
section
variable{rs:List (List Rt)}{r:Nat}{a b c a2 b2 c2:List Rat}
theorem HK(h:TR rs r)(hc:bb rs=0){e:Nat}(ha:Nm (llq rs).length e a)(hb:Nm (llq rs).length e b)(he:e<=lm (llq rs).length):FP 263 [cZ rs,aG a b] (.v .nilIface):=by
 obtain⟨tw,etw⟩:=dh h hc;have hca:=mL tw [(a,b)] (fun p hp=>by rw[List.mem_singleton.1 hp];exact⟨ha,hb⟩) he (by show 1<=500;omega);rw[<- etw]at hca;refine ah func263 ?_;refine gc hca ?_;refine ae ?_;rfl
theorem GQ(h:TR rs r)(hc:bb rs=0){e:Nat}(ha:Nm (llq rs).length e a)(hb:Nm (llq rs).length e b)(hn:Nm (llq rs).length e c)(he:e+1<=lm (llq rs).length):FP 262 [cZ rs,.agg [nA a,nA b,nA c]] (.v .nilIface):=by
 obtain⟨tw,etw⟩:=dh h hc;have hneg:=BF tw hn oz;rw[<- etw]at hneg;refine ah func262 ?_;refine gc (HK h hc ha hb oz) ?_;refine gC (fun t13=>?_) (fun t13=>?_) (st1:=(3,0));cases t13;refine gc hneg ?_;refine ae ?_;rfl
theorem Iu(h:TR rs r)(hc:bb rs=0)(cs:List Ci)(hz:∀c∈cs,CiZ rs c)(hl:cs.length<=100):FP 264 [cZ rs,.lst 3 (cs.map Hz)] (.v .nilIface):=by
 obtain⟨tw,etw⟩:=dh h hc;have hlm:=iu (llq rs).length;refine ah func264 ?_;refine gl ?_;refine aI [2,9,10] [2] (fun(i:Nat)=>[(11,some (i64 i))]) (fun _=>[]) (fun i=>i<=cs.length) (fun i=>cs.length-i) 0 (zero_le _) ?_;rintro i hi K1 J1;refine gC (fun t12=>?_) (fun t12=>?_)
 ·have hin:=aQ t12;obtain⟨z,hzi⟩:=au hin;have hz9:=hz z (mem_of_getElem? hzi);have hs:=yP tw hz9.r oz;rw[<- etw]at hs;refine gi (ax hzi) ?_;refine gc hs ?_;refine gC (fun t23=>?_) (fun t23=>?_) (st1:=(6,0));cases t23;refine gC (fun t26=>?_) (fun t26=>?_) (st1:=(8,0));exact absurd t26 (by have h9:=hz9.sg;unfold am dE at h9;simp only[aa,decide_eq_true_eq];omega);refine ga aF ?_;exact aE J1 (i+1) hin
 refine ae ?_;rfl
theorem Uf(h:TR rs r)(hc:bb rs=0)(cs:List Ci)(hz:∀c∈cs,CiZ rs c)(hl:cs.length<=100):FP 156 [cZ rs,.lst 3 (cs.map Hz)] (.v .nilIface):=by
 have hlm:=iu (llq rs).length;have hck:=nP rs r h;rw[hc]at hck;refine ah func156 ?_;refine gc hck ?_;refine gC (fun t12=>?_) (fun t12=>?_) (st1:=(3,0));cases t12;refine gl ?_;refine aI [1,2,14,15] [2] (fun(i:Nat)=>[(16,some (i64 i))]) (fun _=>[]) (fun i=>i<=cs.length) (fun i=>cs.length-i) 0 (zero_le _) ?_;rintro i hi K1 J1;refine gC (fun t17=>?_) (fun t17=>?_)
 ·have hin:=aQ t17;obtain⟨z,hzi⟩:=au hin;have hz9:=hz z (mem_of_getElem? hzi);refine gi (ax hzi) ?_;refine gc (GQ h hc hz9.x hz9.y hz9.r oz) ?_;refine gC (fun t24=>?_) (fun t24=>?_) (st1:=(9,0));cases t24;refine ga aF ?_;exact aE J1 (i+1) hin
 refine gc (Iu h hc cs hz hl) ?_;refine ae ?_;rfl
theorem PU(h:TR rs r)(hc:bb rs=0){x y x2 y2:Et (llq rs)}[c0:Ct (llq rs) 310000 65000][i1:Zl (llq rs) 310000 65000 a x 40 40][i2:Zl (llq rs) 310000 65000 b y 40 40][i4:Zl (llq rs) 310000 65000 a2 x2 40 40][i5:Zl (llq rs) 310000 65000 b2 y2 40 40] :
  FP 53 [cZ rs,aG a b,aG a2 b2] (.tup [nA (sX (aD (x,y) (x2,y2))),.v .nilIface]):=by
 obtain⟨_,etw⟩:=dh h hc;obtain⟨R,tw,hk⟩:=c0.ex;have kk:=c0.kk hk;obtain⟨K,hK⟩:∃K,40*310000+40*65000=K:=⟨_,rfl⟩
 have hlm:=iu (llq rs).length;have n1:=i1.nm;have n2:=i2.nm;have n4:=i4.nm;have n5:=i5.nm
 have hca:=mL tw [(a,b),(a2,b2)] (e:=40*310000+40*65000) (fun p hp=>by
  simp only[mem_cons,not_mem_nil,or_false]at hp;rcases hp with rfl |rfl
  ·exact⟨n1,n2⟩
  ·exact⟨n4,n5⟩) oz (by show 2<=500;omega)
 rw[<- etw]at hca;have hle:=rJ tw n4 n5 n1 n2 oz;have m1:=n4.sub n1;have m2:=n5.sub n2;have hdo:=yx tw m1 m2 m1 m2 oz;rw[i1.eq,i2.eq,i4.eq,i5.eq]at hle;rw[i1.eq,i2.eq,i4.eq,i5.eq,aZ,aZ]at hdo;have hd2:=KZ (x,y) (x2,y2);refine ah func53 ?_;refine gc hca ?_;refine gC (fun t17=>?_) (fun t17=>?_) (st1:=(3,0)) (st2:=(5,0));cases t17;refine gW (Wk.of (sl:=[(4,some (.ptr 4 0)),(5,some (.ptr 5 0)),(9,some (.ptr 21 0))]) (hp:=[(4,some (.box [nA a,nA b])),(5,some (.box [nA a2,nA b2])),(21,some (.box [.lst 1 ((llq rs).map nA),.v .nilIface]))]) aV (.k (.k (.cons rfl (BlkSub.bL (.cons (.of (l0 etw)) (.cons (.refl _) .nil)) rfl) .nil)))) ?_;refine gt (ay (Con.rB 21 rfl rfl rfl rfl hle) (aA rfl rfl rfl) az rfl rfl) ?_;refine gt (ay (Con.rB 21 rfl rfl rfl rfl hdo) (aA rfl rfl rfl) az rfl rfl) ?_;refine gt (ay (Con.rB 21 rfl rfl rfl rfl (ve _ _)) (bm rfl rfl) az rfl rfl) ?_;refine ba ?_;rw[<- hd2];rfl
theorem sE(rs:List (List Rt))(a:List Rat):Con prog 265 [.ptr 1000 0,nA a,.v .nilIface] [(1000,some (dU rs))] (nA a) [(1000,some (dU rs))]:=by
 refine gF func265 (fun k z h=>br h) ?_;refine gC (fun t11=>?_) (fun t11=>?_) (st2:=(77777,0))
 ·refine gR ?_;exact aq.keep (a8 rfl)
 cases t11
end
section
variable{rs:List (List Rt)}{r u k:Nat}{a b:List Rat}{x y:Et (llq rs)}{w v w' v':Nat}
theorem Mz (h : TR rs r) (hc : bb rs = 0) [c0 : Ct (llq rs) u k] [ha : Zl (llq rs) u k a x w v] [hb : Zl (llq rs) u k b y w' v'] (hs : w + v + (w' + v') <= 10000 := by decide) :
  Con prog 260 [.ptr 1000 0,nA a,nA b] [(1000,some (dU rs))] (nA (sX (x+y))) [(1000,some (dU rs))]:=by
 have hx:=M8 (ha:=ha) (hb:=hb) hs;rw[qU h hc]at hx;refine gF func260 (fun k z h=>br h) ?_;refine gc hx ?_;refine gt (ay (sE _ _) (aA rfl rfl rfl) az rfl rfl) ?_;refine gR ?_;exact aq.keep (a8 rfl)
theorem GS (h : TR rs r) (hc : bb rs = 0) [c0 : Ct (llq rs) u k] [ha : Zl (llq rs) u k a x w v] [hb : Zl (llq rs) u k b y w' v'] (hs : w + v + (w' + v') <= 10000 := by decide) :
  Con prog 256 [.ptr 1000 0,nA a,nA b] [(1000,some (dU rs))] (nA (sX (x-y))) [(1000,some (dU rs))]:=by
 have hx:=G7 (ha:=ha) (hb:=hb) hs;rw[qU h hc]at hx;refine gF func256 (fun k z h=>br h) ?_;refine gc hx ?_;refine gt (ay (sE _ _) (aA rfl rfl rfl) az rfl rfl) ?_;refine gR ?_;exact aq.keep (a8 rfl)
theorem zZ (h : TR rs r) (hc : bb rs = 0) [c0 : Ct (llq rs) u k] [ha : Zl (llq rs) u k a x w v] [hb : Zl (llq rs) u k b y w' v'] (hs : w + v + (w' + v') <= 10000 := by decide) :
  Con prog 266 [.ptr 1000 0,nA a,nA b] [(1000,some (dU rs))] (nA (sX (x*y))) [(1000,some (dU rs))]:=by
 have hx:=CQ (ha:=ha) (hb:=hb) hs;rw[qU h hc]at hx;refine gF func266 (fun k z h=>br h) ?_;refine gc hx ?_;refine gt (ay (sE _ _) (aA rfl rfl rfl) az rfl rfl) ?_;refine gR ?_;exact aq.keep (a8 rfl)
theorem Wb (h : TR rs r) (hc : bb rs = 0) [c0 : Ct (llq rs) u k] (n : Int) (hn : -9223372036854775808 <= n /\ n <= 9223372036854775807) [hq : Qz u (n : Rat) w'] [ha : Zl (llq rs) u k a x w v] (hs : w' + 0 + (w + v) <= 10000 := by decide) :
  Con prog 257 [.ptr 1000 0,i64 n,nA a] [(1000,some (dU rs))] (nA (sX (qE (n:Rat)*x))) [(1000,some (dU rs))]:=by
 have hm:=zZ (a:=sh 0 ((n:Rat):Rat)) (b:=a) h hc hs;refine gF func257 (fun k z h=>br h) ?_;refine gc (lh n hn) ?_;refine gc (lD (qT hn)) ?_;refine gt (ay hm (aA rfl rfl rfl) az rfl rfl) ?_;refine gR ?_;exact aq.keep (a8 rfl)
end
section
variable{rs:List (List Rt)}{r:Nat}{a b c a2 b2 c2:List Rat}{x y z x2 y2 z2:Et (llq rs)}
theorem Q0(h:TR rs r)(hc:bb rs=0)[c0:Ct (llq rs) 310000 65000][i1:Zl (llq rs) 310000 65000 a x 40 40][i2:Zl (llq rs) 310000 65000 b y 40 40][i3:Zl (llq rs) 310000 65000 c z 3 0][i4:Zl (llq rs) 310000 65000 a2 x2 40 40][i5:Zl (llq rs) 310000 65000 b2 y2 40 40][i6:Zl (llq rs) 310000 65000 c2 z2 3 0] :
  Con prog 157 [.ptr 1000 0,.agg [nA a,nA b,nA c],.agg [nA a2,nA b2,nA c2]] [(1000,some (dU rs))] (.tup [nA (sX (bB (x,y) z (x2,y2) z2)),nA (sX (aD (x,y) (x2,y2)))]) [(1000,some (dU rs))]:=by
 have hd:=PU (a:=a) (b:=b) (a2:=a2) (b2:=b2) h hc;haveI:=i3.zu;haveI:=i6.zu;haveI zd:=Dh c0 i1.zu i2.zu i4.zu i5.zu;haveI q4:Qz 310000 ((4:Int):Rat) 1:=Qz.int (c:=Ct.cx (c:=c0)) (by decide);have m1:=Mz (a:=c) (b:=sX (aD (x,y) (x2,y2))) h hc (by decide);have m2:=GS (a:=sX (z+aD (x,y) (x2,y2))) (b:=c2) h hc (by decide);have m3:=zZ (a:=c) (b:=sX (aD (x,y) (x2,y2))) h hc (by decide);have m4:=Wb (a:=sX (z*aD (x,y) (x2,y2))) h hc 4 oz (by decide);have m5:=zZ (a:=sX (z+aD (x,y) (x2,y2)-z2)) (b:=sX (z+aD (x,y) (x2,y2)-z2)) h hc (by decide);have m6:=GS (a:=sX (qE ((4:Int):Rat)*(z*aD (x,y) (x2,y2)))) (b:=sX ((z+aD (x,y) (x2,y2)-z2)*(z+aD (x,y) (x2,y2)-z2))) h hc (by decide);refine gF func157 (fun k z h=>br h) ?_;refine gc hd ?_;refine gt (aR (sE _ _) (aA rfl rfl rfl) rfl rfl rfl) ?_;refine gD ?_;refine gt (aR m1 (aA rfl rfl rfl) rfl rfl rfl) ?_;refine gt (aR m2 (aA rfl rfl rfl) rfl rfl rfl) ?_;refine gD ?_;refine gt (aR m3 (aA rfl rfl rfl) rfl rfl rfl) ?_;refine gt (aR m4 (.cons (.tmp rfl) (.cons (.const _) (cR rfl))) rfl rfl rfl) ?_;refine gt (aR m5 (aA rfl rfl rfl) rfl rfl rfl) ?_;refine gt (aR m6 (aA rfl rfl rfl) rfl rfl rfl) ?_;refine gR ?_;exact aq.keep (a8 rfl)
end
class Cy(ts:LL)(u k:outParam Nat):Prop where
  ex:∃R,Tw ts R/\eB R ts.length<=k
  k1:1<=k
  u3:3<=u
  two:ts.length<=2
instance Cy.cx{ts:LL}{u k:Nat}[c:Cy ts u k]:Cx (aj ts) ts.length u k:=by
  obtain⟨R,tw,h⟩:=c.ex;exact⟨⟨R,DT tw▸tw,h⟩,c.k1,c.u3⟩
theorem Cy.zq{ts:LL}{u k:Nat}[c:Cy ts u k]{q:Rat}{w:Nat}[h:Qz u q w]:Zl ts u k (sh 0 (q:Rat)) (qE q:Et ts) w 0:=⟨ia _ q,by
 obtain⟨R,tw,_⟩:=c.ex;exact(Nm.ofQ tw.five h.cb).eq oz⟩
theorem Cy.lm{ts:LL}{u k:Nat}(c:Cy ts u k):lm ts.length=200000000000:=by unfold Go.Lw.lm;rw[if_pos c.two]
def iE{ts:LL}(y:Et ts):Et ts:=T.inv (aj ts) ts.length y
abbrev a5(ts:LL):Blk:=.box [.lst 1 (ts.map nA),.v .nilIface]
theorem ym(ts:LL):dU (ts.map (List.map rt))=a5 ts:=by
 have h:=jC ts;unfold cZ aL at h;have h1:=AV.agg.inj h
 injection h1 with h2
 show Blk.box [.lst 1 ((ts.map (List.map rt)).map nR),.v .nilIface]=_;rw[h2]
section
variable{ts:LL}{u k:Nat}{a b:List Rat}{x y:Et ts}{w v w' v':Nat}
theorem N3[c:Cy ts u k][ha:Zl ts u k a x w v][hb:Zl ts u k b y w' v'](hs:w*u+v*k+(w'*u+v'*k)<200000000000):FP 329 [aL ts,nA a,nA b] (.tup [nA (sX (x+y)),.v .nilIface]):=by
 obtain⟨R,tw,hk⟩:=c.ex;have h1:=AA tw ha.nm hb.nm (by rw[c.lm];omega);rw[ha.eq,hb.eq]at h1;exact h1
theorem SP[c:Cy ts u k][ha:Zl ts u k a x w v][hb:Zl ts u k b y w' v'](hs:w*u+v*k+(w'*u+v'*k)<200000000000):FP 163 [aL ts,nA a,nA b] (.tup [nA (sX (x-y)),.v .nilIface]):=by
 obtain⟨R,tw,hk⟩:=c.ex;have h1:=oF tw ha.nm hb.nm (by rw[c.lm];omega);rw[ha.eq,hb.eq]at h1;exact h1
theorem TO[c:Cy ts u k][ha:Zl ts u k a x w v][hb:Zl ts u k b y w' v'](hs:w*u+v*k+(w'*u+v'*k)<200000000000):FP 164 [aL ts,nA a,nA b] (.tup [nA (sX (x*y)),.v .nilIface]):=by
 obtain⟨R,tw,hk⟩:=c.ex;have h1:=zV tw ha.nm hb.nm (by rw[c.lm];omega);rw[ha.eq,hb.eq]at h1;exact h1
theorem Dt[c:Cy ts u k][ha:Zl ts u k a x w v](hs:w*u+v*k<200000000000):FP 138 [aL ts,nA a] (.tup [nA (sX (-x)),.v .nilIface]):=by
 obtain⟨R,tw,hk⟩:=c.ex;have h1:=BF tw ha.nm (by rw[c.lm];omega);rw[ha.eq]at h1;exact h1
theorem IU[c:Cy ts u k][ha:Zl ts u k a x w v](hs:w*u+v*k<200000000000):FP 267 [aL ts,nA a] (.tup [i64 (am x),.v .nilIface]):=by
 obtain⟨R,tw,hk⟩:=c.ex;have h1:=yP tw ha.nm (by rw[c.lm];omega);rw[ha.eq]at h1;exact h1
theorem Ob{j m:Nat}[c:Cy ts u k][ha:Zl ts u k a x w v][hb:Zl ts u k b y w' v'](nb:Nl j b)(hj:j<=ts.length)(h0:am y≠0)(hm:∀R,eB R ts.length<=k->iB R j (w'*u+v'*k)<=m)(hf:w'*u+v'*k<200000000000)(hs:w*u+v*k+m+k<=200000000000) :
  FP 271 [aL ts,nA a,nA b] (.tup [nA (sX (x*iE y)),.v .nilIface])/\Nm ts.length (w*u+v*k+m+k) (sX (x*iE y)):=by
 obtain⟨R,tw,hk⟩:=c.ex;have hi:=hm R hk;have he:=hb.eq;have h1:T.sgn (aj ts) ts.length (ad ts.length b)≠0:=by rw[he];exact h0
 have hd:=AT tw ha.nm hb.nm hj nb h1 (by rw[c.lm];omega) oz;have hn:=yR tw ha.nm hb.nm hj nb h1 (by rw[c.lm];omega) oz;rw[ha.eq,he]at hd hn;exact⟨hd,hn.mono oz⟩
theorem ph{j:Nat}[c:Cy ts u k][ha:Zl ts u k a x w v][hb:Zl ts u k b y w' v'](nb:Nl j b)(hj:j<=ts.length)(hj1:j<=1)(h0:am y≠0)(hs:(w+5*w')*u+(v+5*v'+3)*k<=200000000000) :
  FP 271 [aL ts,nA a,nA b] (.tup [nA (sX (x*iE y)),.v .nilIface])/\Zu u k (x*iE y) (w+5*w') (v+5*v'+3):=by
 have e:(w+5*w')*u+(v+5*v'+3)*k=w*u+v*k+(5*(w'*u+v'*k)+2*k)+k:=by
  simp only[Nat.add_mul,Nat.mul_add,Nat.mul_assoc];omega
 rw[e]at hs
 have h:=Ob (a:=a) (b:=b) (m:=5*(w'*u+v'*k)+2*k) nb hj h0 (fun R hR=>by
  have h2:=Tm R (w'*u+v'*k) hj1;have h3:=gV R hj;omega) oz hs
 exact⟨h.1,⟨h.2.eq e.symm⟩⟩
theorem oC(ts:LL)(a:List Rat):Con prog 265 [.ptr 1000 0,nA a,.v .nilIface] [(1000,some (a5 ts))] (nA a) [(1000,some (a5 ts))]:=by
 have h:=sE (ts.map (List.map rt)) a;rw[ym]at h;exact h
theorem qG(ts:LL)(a:List Rat):Con prog 68 [.ptr 1000 0,nA a,.v .nilIface] [(1000,some (a5 ts))] (nA a) [(1000,some (a5 ts))]:=by
 have h:=wn (ts.map (List.map rt)) a;rw[ym]at h;exact h
theorem j5[c:Cy ts u k][ha:Zl ts u k a x w v][hb:Zl ts u k b y w' v'](hs:w*u+v*k+(w'*u+v'*k)<200000000000) :
  Con prog 260 [.ptr 1000 0,nA a,nA b] [(1000,some (a5 ts))] (nA (sX (x+y))) [(1000,some (a5 ts))]:=by
 refine gF func260 (fun k z h=>br h) ?_;refine gc (N3 hs) ?_;refine gt (ay (oC _ _) (aA rfl rfl rfl) az rfl rfl) ?_;refine gR ?_;exact aq.keep (a8 rfl)
theorem k9[c:Cy ts u k][ha:Zl ts u k a x w v][hb:Zl ts u k b y w' v'](hs:w*u+v*k+(w'*u+v'*k)<200000000000) :
  Con prog 256 [.ptr 1000 0,nA a,nA b] [(1000,some (a5 ts))] (nA (sX (x-y))) [(1000,some (a5 ts))]:=by
 refine gF func256 (fun k z h=>br h) ?_;refine gc (SP hs) ?_;refine gt (ay (oC _ _) (aA rfl rfl rfl) az rfl rfl) ?_;refine gR ?_;exact aq.keep (a8 rfl)
theorem jq[c:Cy ts u k][ha:Zl ts u k a x w v][hb:Zl ts u k b y w' v'](hs:w*u+v*k+(w'*u+v'*k)<200000000000) :
  Con prog 266 [.ptr 1000 0,nA a,nA b] [(1000,some (a5 ts))] (nA (sX (x*y))) [(1000,some (a5 ts))]:=by
 refine gF func266 (fun k z h=>br h) ?_;refine gc (TO hs) ?_;refine gt (ay (oC _ _) (aA rfl rfl rfl) az rfl rfl) ?_;refine gR ?_;exact aq.keep (a8 rfl)
theorem tN{q:List Rat}(hd:FP 271 [aL ts,nA a,nA b] (.tup [nA q,.v .nilIface])) :
  Con prog 259 [.ptr 1000 0,nA a,nA b] [(1000,some (a5 ts))] (nA q) [(1000,some (a5 ts))]:=by
 refine gF func259 (fun k z h=>br h) ?_;refine gc hd ?_;refine gt (ay (oC _ _) (aA rfl rfl rfl) az rfl rfl) ?_;refine gR ?_;exact aq.keep (a8 rfl)
theorem qd[c:Cy ts u k][ha:Zl ts u k a x w v](hs:w*u+v*k<200000000000) :
  Con prog 253 [.ptr 1000 0,nA a] [(1000,some (a5 ts))] (i64 (am x)) [(1000,some (a5 ts))]:=by
 refine gF func253 (fun k z h=>br h) ?_;refine gC (fun t11=>?_) (fun t11=>?_) (st1:=(2,0));cases t11;refine gc (IU hs) ?_;refine gR ?_;exact aq.keep (a8 rfl)
theorem vZ{q:List Rat}(hd:FP 271 [aL ts,nA a,nA b] (.tup [nA q,.v .nilIface])) :
  Con prog 153 [.ptr 1000 0,nA a,nA b] [(1000,some (a5 ts))] (nA q) [(1000,some (a5 ts))]:=by
 refine gF func153 (fun k z h=>br h) ?_;refine gc hd ?_;refine gt (ay (qG _ _) (aA rfl rfl rfl) az rfl rfl) ?_;refine gR ?_;exact aq.keep (a8 rfl)
theorem AD[c:Cy ts u k][ha:Zl ts u k a x w v](hs:w*u+v*k<200000000000) :
  Con prog 150 [.ptr 1000 0,nA a] [(1000,some (a5 ts))] (i64 (am x)) [(1000,some (a5 ts))]:=by
 refine gF func150 (fun k z h=>br h) ?_;refine gC (fun t11=>?_) (fun t11=>?_) (st1:=(2,0));cases t11;refine gc (IU hs) ?_;refine gR ?_;exact aq.keep (a8 rfl)
theorem xq[c:Cy ts u k](n:Int)(hn:-9223372036854775808<=n/\n<=9223372036854775807)[hq:Qz u (n:Rat) w'][ha:Zl ts u k a x w v](hs:w'*u+0*k+(w*u+v*k)<200000000000) :
  Con prog 257 [.ptr 1000 0,i64 n,nA a] [(1000,some (a5 ts))] (nA (sX (qE (n:Rat)*x))) [(1000,some (a5 ts))]:=by
 haveI:=Cy.zq (ts:=ts) (u:=u) (k:=k) (q:=(n:Rat)) (w:=w');have hm:=jq (ts:=ts) (u:=u) (k:=k) (a:=sh 0 ((n:Rat):Rat)) (b:=a) (x:=qE (n:Rat)) (y:=x) hs;refine gF func257 (fun k z h=>br h) ?_;refine gc (lh n hn) ?_;refine gc (lD (qT hn)) ?_;refine gt (ay hm (aA rfl rfl rfl) az rfl rfl) ?_;refine gR ?_;exact aq.keep (a8 rfl)
theorem sW{p1 p2 v1 v2 c m1 m2 q1 q2:List Rat}(h1:Con prog 266 [.ptr 1000 0,nA c,nA v1] [(1000,some (a5 ts))] (nA m1) [(1000,some (a5 ts))])
  (h2:Con prog 266 [.ptr 1000 0,nA c,nA v2] [(1000,some (a5 ts))] (nA m2) [(1000,some (a5 ts))])
  (h3:Con prog 260 [.ptr 1000 0,nA p1,nA m1] [(1000,some (a5 ts))] (nA q1) [(1000,some (a5 ts))])
  (h4:Con prog 260 [.ptr 1000 0,nA p2,nA m2] [(1000,some (a5 ts))] (nA q2) [(1000,some (a5 ts))]) :
  Con prog 258 [.ptr 1000 0,aG p1 p2,nA c,aG v1 v2] [(1000,some (a5 ts))] (aG q1 q2) [(1000,some (a5 ts))]:=by
 refine gF func258 (fun k z h=>br h) ?_;refine gt (ay h1 (aA rfl rfl rfl) az rfl rfl) ?_;refine gt (ay h3 (aA rfl rfl rfl) az rfl rfl) ?_;refine gt (ay h2 (aA rfl rfl rfl) az rfl rfl) ?_;refine gt (ay h4 (aA rfl rfl rfl) az rfl rfl) ?_;refine gD ?_;refine gR ?_;exact aq.keep (a8 rfl)
theorem Ho{r e:Nat}(tw:Tw ts r)(ha:Nm ts.length e a)(he:e<=lm ts.length)(hs:0<=T.sgn (aj ts) ts.length (ad ts.length a)) :
  Con prog 261 [.ptr 1000 0,nA a] [(1000,some (a5 ts))] (nA (cc ts.length)) [(1000,some (a5 (aH ts a)))]:=by
 refine gF func261 (fun k z h=>br h) ?_;refine gC (fun t12=>?_) (fun t12=>?_) (st1:=(2,0));cases t12;refine gc (DV tw ha he hs) ?_;refine gC (fun t24=>?_) (fun t24=>?_) (st1:=(5,0));cases t24;refine gR ?_;exact aq.keep (a8 rfl)
abbrev x8(ts:LL)(ps:List AV):AV:=.agg [.lst 1 (ts.map nA),.lst 2 ps]
theorem LJ{r:Nat}(tw:Tw ts r):Con prog 354 [.ptr 1000 0] [(1000,some (a5 ts))] (aL ts) [(1000,some (a5 ts))]:=by
 have h3:=tw.three;have hqs:=tw.rb.qs tw.le;refine gF func354 (fun k z h=>br h) ?_;refine gl ?_;refine gW (Wk.virt 900 1 rfl) ?_;refine aI [2,3,13,14] [1000,2] (fun(i:Nat)=>[(15,some (i64 i))]) (fun i=>[(3,some (.box [.ms 900 1 0 i])),(900,some (.row 1 ((ts.take i).map nA)))]) (fun i=>i<=ts.length) (fun i=>ts.length-i) 0 (zero_le _) ?_ (h2:=(.cons rfl (BlkSub.bL (.cons (.nM _ _ _) .nil) rfl) (.k .nil)));rintro i hi K1 J1;refine gC (fun t16=>?_) (fun t16=>?_) (st2:=(13,0))
 ·have hin:=aQ t16;obtain⟨d,hd⟩:=au hin
  have hdl:d.length<=32:=by
   have h9:=tw.len i hin;rw[aC hd]at h9;have:2^i<=32:=bK (b:=5) oz;omega
  have hdq:=hqs d (mem_of_getElem? hd);refine gi (ax hd) ?_;refine gl ?_;refine gW (Wk.virt 901 3 rfl) ?_;refine aI [2,3,13,14,15,19,20] [1000,2,3,900] (fun(j:Nat)=>[(6,some (.ms 901 3 0 j)),(21,some (i64 j))]) (fun j=>[(901,some (.row 3 ((d.take j).map qA)))]) (fun j=>j<=d.length) (fun j=>d.length-j) 0 (zero_le _) ?_;rintro j hj K2 J2;refine gC (fun t22=>?_) (fun t22=>?_) (st2:=(11,0))
  ·have hjn:=aQ t22;obtain ⟨q,hq⟩:=au hjn;have hadd:=oG (rt q) (rt 0) (hdq q (mem_of_getElem? hq)).ok Qs.zero.ok;rw [sF,bP] at hadd;refine gi (ax hq) ?_;refine gc (Con.sA (.cons (.refl _) (.cons jy .nil)) hadd) ?_;refine gs (cf (.tmp rfl) rfl (by rw [length_map,length_take]; omega) (.tmp rfl) T67 rfl T45 rfl rfl (by simp only [length_cons,length_nil]; omega) rfl rfl) ?_ (10,0);refine gW (Wk.of (sl:=[(2,some (.ptr 2 0)),(3,some (.ptr 3 0)),(13,some (.lst 1 (ts.map nA))),(14,some (i64 ts.length)),(15,some (i64 i)),(6,some (.ms 30 3 0 (j + 1))),(19,some (nA d)),(20,some (i64 d.length)),(21,some (i64 j))]) (hp:=[(1000,some (a5 ts)),(2,some (.box [nS])),(3,some (.box [.ms 900 1 0 i])),(900,some (.row 1 ((ts.take i).map nA))),(30,some (.row 3 ((d.take (j + 1)).map qA)))]) aV (.k (.k (.k (.k (.cons rfl (BlkSub.of (by rw [dj hq,map_append]; rfl)) .nil)))))) ?_ (10,0)
   refine gW (Wk.rk (k:=30) (d:=901) rfl rfl) ?_;refine ga aF ?_;exact aE J2 (j+1) hjn
  have hjn:=a6 hj t22;subst hjn;refine gW ((Wk.freeze (k:=901) rfl).trans<|Wk.of (sl:=[(2,some (.ptr 2 0)),(3,some (.ptr 3 0)),(13,some (.lst 1 (ts.map nA))),(14,some (i64 ts.length)),(15,some (i64 i)),(6,some (nA d))]) (hp:=[(1000,some (a5 ts)),(2,some (.box [nS])),(3,some (.box [.ms 900 1 0 i])),(900,some (.row 1 ((ts.take i).map nA)))]) (.k (.k (.k (.k (.k (.cons rfl (Sub.of (by rw[bN (by simp)];simp[nA])) .nil)))))) (.k (.k (.k (.k .nil))))) ?_
  refine gs (cf (.tmp rfl) rfl (by rw[length_map,length_take];omega) (.tmp rfl) T35 rfl T67 rfl rfl (by simp only[length_cons,length_nil];omega) rfl rfl) ?_ (12,0);refine gW (Wk.of (sl:=[(2,some (.ptr 2 0)),(3,some (.ptr 3 0)),(13,some (.lst 1 (ts.map nA))),(14,some (i64 ts.length)),(15,some (i64 i))]) (hp:=[(1000,some (a5 ts)),(2,some (.box [nS])),(3,some (.box [.ms 36 1 0 (i+1)])),(36,some (.row 1 ((ts.take (i+1)).map nA)))]) aV (.k (.k (.k (.cons rfl (BlkSub.of (by rw[dj hd,map_append];rfl)) .nil))))) ?_ (12,0);refine gW (Wk.rk (k:=36) (d:=900) rfl rfl) ?_;refine ga aF ?_;exact aE J1 (i+1) hin
 have hin:=a6 hi t16;subst hin;refine gW ((Wk.freeze (k:=900) rfl).trans<|Wk.of (sl:=[(2,some (.ptr 2 0)),(3,some (.ptr 3 0))]) (hp:=[(1000,some (a5 ts)),(2,some (.box [nS])),(3,some (.box [.lst 1 (ts.map nA)]))]) aV (.k (.k (.cons rfl (BlkSub.bL (.cons (Sub.of (by rw[bN (by simp)];simp)) .nil) rfl) .nil)))) ?_;refine gR ?_;exact aq.keep (a8 rfl)
theorem mV{r:Nat}(tw:Tw ts r)(ps:List AV):Con prog 255 [.ptr 1000 0,.lst 2 ps] [(1000,some (a5 ts))] (.tup [x8 ts ps,.v .nilIface]) [(1000,some (a5 ts))]:=by
 refine gF func255 (fun k z h=>br h) ?_;refine gC (fun t10=>?_) (fun t10=>?_) (st1:=(2,0));cases t10;refine gt (ay (LJ tw) (cR rfl) az rfl rfl) ?_;refine gR ?_;exact aq.keep (a8 rfl)
end
theorem dO(ts:LL)(a:List Rat):(aH ts a).length=ts.length+1:=by simp[aH]
theorem IX{ts:LL}{a:List Rat}{j:Nat}(h:j<ts.length):(aH ts a).getD j []=ts.getD j []:=by
 unfold aH;rw[getD_eq_getElem?_getD,getD_eq_getElem?_getD,getElem?_append_left h]
theorem xl(ts:LL)(a:List Rat):(aH ts a).getD ts.length []=aP a (2^ts.length):=by
 unfold aH;rw[getD_eq_getElem?_getD,getElem?_append_right (le_refl _),Nat.sub_self];rfl
theorem vr{ts:LL}{a:List Rat}{j:Nat}(h:j<ts.length):aj (aH ts a) j=aj ts j:=by
 unfold aj;rw[IX h]
theorem zw{ts:LL}{a:List Rat}{j:Nat}(h:j<=ts.length)(x:T j):T.sgn (aj (aH ts a)) j x=T.sgn (aj ts) j x :=
 T.sgn_congr j (fun i hi=>vr oz) x
theorem RB.ext{r e:Nat}{ts:LL}{a:List Rat}(h:RB r ts)(ha:Cb e a):RB (r+e) (aH ts a):=by
 obtain⟨D,N,h0,h1,h2,h3⟩:=h;obtain⟨D',N',k1,k2,k3⟩:=ha.wide (n:=2^ts.length);have hN:N<=2^r:=h3;refine⟨D*D',max (N*D') (N'*D),Nat.mul_pos h0 k1.1,?_,?_,?_⟩
 ·intro d hd;rcases List.mem_append.1 hd with h9 |h9
  ·exact((h1 d h9).scale k1.1).mono (Nat.le_max_left _ _)
  ·rw[List.mem_singleton.1 h9,Nat.mul_comm D];exact(k1.scale h0).mono (Nat.le_max_right _ _)
 ·rw[pow_add];exact Nat.mul_le_mul h2 k2
 ·rw[pow_add];refine Nat.max_le.2 ⟨Nat.mul_le_mul h3 k2,?_⟩;rw[Nat.mul_comm (2^r)];exact Nat.mul_le_mul k3 h2
theorem yv{r e:Nat}{ts:LL}{a:List Rat}(tw:Tw ts r)(h2:ts.length<=2)(ha:Nm ts.length e a)(he:r+e<=5000000000)(hs:0<=T.sgn (aj ts) ts.length (ad ts.length a)):Tw (aH ts a) (r+e):=by
 refine⟨by rw[dO];omega,?_,?_,tw.rb.ext ha.cb,he⟩
 ·intro j hj;rw[dO]at hj;rcases lt_or_ge j ts.length with h |h
  ·rw[IX h];exact tw.len j h
  ·have : j = ts.length := by omega
   subst this;rw[xl];exact dC ha.nl.le
 ·intro j hj;rw[dO]at hj;rw[zw oz];rcases lt_or_ge j ts.length with h |h
  ·rw[vr h];exact tw.pos j h
  ·have : j = ts.length := by omega
   subst this
   have e1:aj (aH ts a) ts.length=ad ts.length a:=by
    show ad ts.length ((aH ts a).getD ts.length [])=_;rw[xl,oL]
   rw[e1];exact hs
theorem lT{ts:LL}{a l:List Rat}{e:Nat}(h:Nm ts.length e l)(h4:ts.length<=4):Nm (aH ts a).length e l:=by
 rw[dO];exact⟨by omega,h.nl.mono oz,h.cb⟩
theorem Oq{ts:LL}{a l:List Rat}(h:Nl ts.length l):am (dE (aH ts a) l)=am (dE ts l):=by
 unfold am dE;rw[dO];show T.sgn (aj (aH ts a)) (ts.length+1) (ad (ts.length+1) l)=_;rw[sk (aj (aH ts a)) h.le (Nat.le_succ _),zw (le_refl _)]
theorem sr{ts:LL}{a:List Rat}(h4:ts.length<=4):Nm (aH ts a).length 1 (cc ts.length):=by
 rw[dO];refine⟨by omega,.inr ⟨_,le_refl _,xN _⟩,1,1,⟨by omega,?_⟩,by omega,by omega⟩;intro q hq;unfold cc at hq;rcases List.mem_or_eq_of_mem_set hq with h |h
 ·rw[(List.mem_replicate.1 h).2];exact⟨0,by rw[Rat.zero_mul];rfl,by simp⟩
 ·rw[h];exact⟨1,by rw[Rat.one_mul];rfl,by simp⟩
theorem Ki{r e k:Nat}{ts:LL}{a:List Rat}(tw:Tw ts r)(h1:ts.length<=1)(ha:Nm ts.length e a)(he:r+e<=5000000000)(hs:0<=T.sgn (aj ts) ts.length (ad ts.length a)){u:Nat}(hu:3<=u)(hk:3*(r+e)+6<=k):Cy (aH ts a) u k :=
 ⟨⟨r+e,yv tw oz ha he hs,by
  rw[dO];have h:=gV (r+e) (show ts.length+1<=2 by omega);have h2:eB (r+e) 2=3*(r+e)+6:=by simp only[eB];omega
  omega⟩,by omega,hu,by rw[dO];omega⟩
structure Mt where
  ts:LL
  ps:List (List Rat×List Rat)
abbrev di(p:List Rat×List Rat):AV:=aG p.1 p.2
abbrev Mt.av(m:Mt):AV:=x8 m.ts (m.ps.map di)
abbrev P2(ts:LL):Type:=Et ts×Et ts
abbrev P2.l{ts:LL}(p:P2 ts):List Rat×List Rat:=(sX p.1,sX p.2)
abbrev aK{ts:LL}(X:Et ts)(x:Et ts):Et (aH ts (sX X)):=dE (aH ts (sX X)) (sX x)
section
variable{ts:LL}
def er(d:Et ts):Et ts:=qE ((2:Int):Rat)*d
def fT(p q:P2 ts):P2 ts:=(q.1-p.1,q.2-p.2)
def dT(p:P2 ts)(k:Et ts)(v:P2 ts):P2 ts:=(p.1+k*v.1,p.2+k*v.2)
def eU(p q:P2 ts)(z z2:Et ts):P2 ts:=dT p ((z+aD p q-z2)*iE (er (aD p q))) (fT p q)
def d9(X d:Et ts):Et (aH ts (sX X)):=dE _ (cc ts.length)*iE (aK X (er d))
def iD(X:Et ts)(f v:P2 ts)(c:Et (aH ts (sX X))):P2 (aH ts (sX X)):=dT (aK X f.1,aK X f.2) c (qE ((-1:Int):Rat)*aK X v.2,aK X v.1)
def lU(p:P2 ts)(z z2:Et ts):Mt:=if am (z-z2)≠0 then⟨ts,[]⟩else if 0<am z then⟨[],[]⟩else⟨ts,[(dT p 0 p).l]⟩
def eV(p q:P2 ts)(z z2:Et ts):Mt :=
  if am (aD p q)=0 then lU p z z2
  else if am (bB p z q z2)<0 then⟨ts,[]⟩
  else if am (bB p z q z2)=0 then⟨ts,[(eU p q z z2).l]⟩
  else⟨aH ts (sX (bB p z q z2)),[(iD (bB p z q z2) (eU p q z z2) (fT p q) (d9 (bB p z q z2) (aD p q))).l,
    (iD (bB p z q z2) (eU p q z z2) (fT p q) (qE ((-1:Int):Rat)*d9 (bB p z q z2) (aD p q))).l]⟩
def lZ(z z2:Et ts):Nat:=if am (z-z2)=0/\0<am z then 15 else 0
def fR(p q:P2 ts)(z z2:Et ts):Nat:=if am (aD p q)=0 then lZ z z2 else 0
theorem DD:Sub (.agg [nS,nS]) (x8 [] []):=Sub.agg (.cons (.nil _ _ _) (.cons (.nil _ _ _) .nil)) rfl
end
theorem KB {ts : LL} {u k : Nat} [c : Cy ts u k] : Zl ts u k [] (0 : Et ts) 0 0 := ⟨by rw [gp]; exact E.zero_def.symm, by
 obtain⟨R,tw,_⟩:=c.ex;exact⟨tw.five,.inl rfl,Cb.nil.mono (zero_le _)⟩⟩
section
variable{ts:LL}{a b c a2 b2 c2:List Rat}{x y z x2 y2 z2:Et ts}
theorem Tz{r:Nat}(tw:Tw ts r)[c0:Cy ts 310000 65000][i1:Zl ts 310000 65000 a x 40 40][i2:Zl ts 310000 65000 b y 40 40][i3:Zl ts 310000 65000 c z 3 0][i6:Zl ts 310000 65000 c2 z2 3 0] :
  Con prog 254 [.ptr 1000 0,.agg [nA a,nA b,nA c],.agg [nA a2,nA b2,nA c2]] [(1000,some (a5 ts))]
   (.tup [(lU (x,y) z z2).av,bj (lZ z z2)]) [(1000,some (a5 ts))]:=by
 haveI:=i1.zu;haveI:=i2.zu;haveI:=i3.zu;haveI:=i6.zu;have hm0:=Con.sA (.cons (.refl _) (.cons (Sub.nil 2 none 0) .nil)) (mV tw []);have m1:=k9 (ts:=ts) (u:=310000) (k:=65000) (a:=c) (b:=c2) (by decide);have m2:=qd (ts:=ts) (u:=310000) (k:=65000) (a:=sX (z-z2)) (by decide);have m3:=qd (ts:=ts) (u:=310000) (k:=65000) (a:=c) (by decide);haveI zn:Zl ts 310000 65000 [] (0:Et ts) 0 0:=KB;have n1:=jq (ts:=ts) (u:=310000) (k:=65000) (a:=[]) (b:=a) (by decide);have n2:=jq (ts:=ts) (u:=310000) (k:=65000) (a:=[]) (b:=b) (by decide);have n3:=j5 (ts:=ts) (u:=310000) (k:=65000) (a:=a) (b:=sX (0*x)) (by decide);have n4:=j5 (ts:=ts) (u:=310000) (k:=65000) (a:=b) (b:=sX (0*y)) (by decide);have hal:=Con.sA (.cons (.refl _) (.cons (.refl _) (.cons (Sub.nil 3 none 0) (.cons (.refl _) .nil)))) (sW n1 n2 n3 n4);refine gF func254 (fun k z h=>br h) ?_;refine gt (aR m1 (aA rfl rfl rfl) rfl rfl rfl) ?_;refine gt (aR m2 (bm rfl rfl) rfl rfl rfl) ?_;refine gC (fun t8=>?_) (fun t8=>?_)
 ·have h1:am (z-z2)≠0:=mo t8;refine gt (aR hm0 (.cons (.tmp rfl) (.cons (.const _) .nil)) rfl rfl rfl) ?_;refine gR ?_;exact(aq.keep (a8 rfl)).sub (Sub.of (by unfold lU lZ;rw[if_pos h1,if_neg (fun h=>h1 h.1)];rfl))
 have h1:am (z-z2)=0:=qf t8;refine gt (aR m3 (bm rfl rfl) rfl rfl rfl) ?_;refine gC (fun t22=>?_) (fun t22=>?_)
 ·have h2:0<am z:=of_decide_eq_true t22;refine gR ?_;exact(aq.keep (a8 rfl)).sub (by unfold lU lZ;rw[if_neg oz,if_pos h2,if_pos ⟨h1,h2⟩];exact Sub.tup (.cons DD (.cons (.refl _) .nil)))
 have h2:¬0<am z:=of_decide_eq_false t22;refine gt (aR hal (.cons (.tmp rfl) (.cons (.tmp rfl) (.cons (.const _) (cR rfl)))) rfl rfl rfl) ?_;refine gt (aR (mV tw [aG (sX (x+0*x)) (sX (y+0*y))]) (bm rfl rfl) rfl rfl rfl) ?_;refine gR ?_;exact(aq.keep (a8 rfl)).sub (Sub.of (by unfold lU lZ;rw[if_neg oz,if_neg h2,if_neg (fun h=>h2 h.2)];rfl))
end
section
variable{rs:List (List Rt)}{r:Nat}{a b c a2 b2 c2:List Rat}{x y z x2 y2 z2:Et (llq rs)}
structure CirP(ts:LL)(p q:P2 ts)(z z2:Et ts):Prop where
  zd:Zu 310000 65000 (aD p q) 320 327
  zX:Zu 310000 65000 (bB p z q z2) 976 989
  zt:Zu 310000 65000 (er (aD p q)) 321 328
  z1:Zu 310000 65000 (fT p q).1 80 81
  z2:Zu 310000 65000 (fT p q).2 80 81
theorem FU{ts:LL}{x y z x2 y2 z2:Et ts}(c:Ct ts 310000 65000)(h1:Zu 310000 65000 x 40 40)(h2:Zu 310000 65000 y 40 40)(h3:Zu 310000 65000 z 3 0)(h4:Zu 310000 65000 x2 40 40)(h5:Zu 310000 65000 y2 40 40)(h6:Zu 310000 65000 z2 3 0) :
  CirP ts (x,y) (x2,y2) z z2:=by
 haveI:=c;haveI:=h1;haveI:=h2;haveI:=h3;haveI:=h4;haveI:=h5;haveI:=h6
 haveI zd:=Dh c h1 h2 h4 h5;haveI q4:Qz 310000 ((4:Int):Rat) 1:=Qz.int (c:=Ct.cx (c:=c)) (by decide);haveI q2:Qz 310000 ((2:Int):Rat) 1:=Qz.int (c:=Ct.cx (c:=c)) (by decide)
 exact⟨zd,(inferInstance:Zu 310000 65000 (qE ((4:Int):Rat)*(z*aD (x,y) (x2,y2))-(z+aD (x,y) (x2,y2)-z2)*(z+aD (x,y) (x2,y2)-z2)) _ _),
  (inferInstance:Zu 310000 65000 (qE ((2:Int):Rat)*aD (x,y) (x2,y2)) _ _),(inferInstance:Zu 310000 65000 (x2-x) _ _),(inferInstance:Zu 310000 65000 (y2-y) _ _)⟩
theorem C6{ts:LL}{x y z x2 y2 z2:Et ts}[c0:Cy ts 310000 65000](hn:ts.length<=1)(h1:Zu 310000 65000 x 40 40)(h2:Zu 310000 65000 y 40 40)(h3:Zu 310000 65000 z 3 0)(h6:Zu 310000 65000 z2 3 0)(P:CirP ts (x,y) (x2,y2) z z2)
  (h0:am (er (aD (x,y) (x2,y2)))≠0) :
  FP 271 [aL ts,nA (sX (z+aD (x,y) (x2,y2)-z2)),nA (sX (er (aD (x,y) (x2,y2))))] (.tup [nA (sX ((z+aD (x,y) (x2,y2)-z2)*iE (er (aD (x,y) (x2,y2))))),.v .nilIface]) /\
  Zu 310000 65000 ((z+aD (x,y) (x2,y2)-z2)*iE (er (aD (x,y) (x2,y2)))) 1931 1972/\Zu 310000 65000 (eU (x,y) (x2,y2) z z2).1 2051 2095/\Zu 310000 65000 (eU (x,y) (x2,y2) z z2).2 2051 2095:=by
 haveI:=h1;haveI:=h2;haveI:=h3;haveI:=h6;haveI:=P.zd;haveI:=P.zt
 have hd:=ph (ts:=ts) (u:=310000) (k:=65000) (a:=sX (z+aD (x,y) (x2,y2)-z2)) (b:=sX (er (aD (x,y) (x2,y2)))) (j:=ts.length) P.zt.nm.nl (le_refl _) hn h0 (by decide);haveI zk:=hd.2;haveI:=P.z1;haveI:=P.z2
 exact⟨hd.1,zk,(inferInstance:Zu 310000 65000 (x+((z+aD (x,y) (x2,y2)-z2)*iE (er (aD (x,y) (x2,y2))))*(fT (x,y) (x2,y2)).1) _ _),
  (inferInstance:Zu 310000 65000 (y+((z+aD (x,y) (x2,y2)-z2)*iE (er (aD (x,y) (x2,y2))))*(fT (x,y) (x2,y2)).2) _ _)⟩
structure ExtP{ts:LL}(X:Et ts):Prop where
  tw:Tw (aH ts (sX X)) 366909990
  cy:Cy (aH ts (sX X)) 773000000 1101400000
theorem ru{ts:LL}{X:Et ts}(tw:Tw ts 64990)(hn:ts.length<=1)(hx:Zu 310000 65000 X 976 989)(hs:0<=am X):ExtP X:=by
 have h9:0<=T.sgn (aj ts) ts.length (ad ts.length (sX X)):=by rw[show ad ts.length (sX X)=X from aZ _ _];exact hs
 have hm:=hx.nm;exact⟨yv tw oz hm (by decide) h9,Ki tw hn hm (by decide) h9 oz (by decide)⟩
theorem kc{ts:LL}{X x:Et ts}{w v:Nat}(hn:ts.length<=1)(h:Zu 310000 65000 x w v)(hs:w*310000+v*65000<=773000000):Zl (aH ts (sX X)) 773000000 1101400000 (sX x) (aK X x) 1 0:=Zl.at (lT h.nm oz) hs
theorem o7{ts:LL}{X x:Et ts}:am (aK X x)=am x:=by
 show am (dE (aH ts (sX X)) (sX x))=_;rw[Oq (l:=sX x) (eg _ _)];show am (dE ts (sX x))=_;rw[show dE ts (sX x)=x from aZ _ _]
theorem wY{ts:LL}{r:Nat}(tw:Tw ts r)(d:Et ts):am (er d)=am d:=by
 have h:=gG (aj ts) ts.length tw.pos
 have h2:sg (aj ts) ts.length (qE ((2:Int):Rat):Et ts)=1:=by
  show T.sgn (aj ts) ts.length (T.ofQ ts.length ((2:Int):Rat))=1;rw[T.sgn_ofQ];rfl
 have h3:=h.mul (qE ((2:Int):Rat)) d;rw[h2,Int.one_mul]at h3;exact h3
structure SideP{ts:LL}(X d:Et ts)(f v:P2 ts):Prop where
  hd:FP 271 [aL (aH ts (sX X)),nA (cc ts.length),nA (sX (er d))] (.tup [nA (sX (d9 X d)),.v .nilIface])
  ht:Con prog 257 [.ptr 1000 0,i64 (-1),nA (sX v.2)] [(1000,some (a5 (aH ts (sX X))))] (nA (sX (qE ((-1:Int):Rat)*aK X v.2))) [(1000,some (a5 (aH ts (sX X))))]
  hu:Con prog 257 [.ptr 1000 0,i64 (-1),nA (sX (d9 X d))] [(1000,some (a5 (aH ts (sX X))))] (nA (sX (qE ((-1:Int):Rat)*d9 X d))) [(1000,some (a5 (aH ts (sX X))))]
  a1:Con prog 258 [.ptr 1000 0,aG (sX f.1) (sX f.2),nA (sX (d9 X d)),aG (sX (qE ((-1:Int):Rat)*aK X v.2)) (sX v.1)] [(1000,some (a5 (aH ts (sX X))))] (di (iD X f v (d9 X d)).l) [(1000,some (a5 (aH ts (sX X))))]
  a2:Con prog 258 [.ptr 1000 0,aG (sX f.1) (sX f.2),nA (sX (qE ((-1:Int):Rat)*d9 X d)),aG (sX (qE ((-1:Int):Rat)*aK X v.2)) (sX v.1)] [(1000,some (a5 (aH ts (sX X))))] (di (iD X f v (qE ((-1:Int):Rat)*d9 X d)).l) [(1000,some (a5 (aH ts (sX X))))]
  n1:Zu 773000000 1101400000 (iD X f v (d9 X d)).1 9 6/\Zu 773000000 1101400000 (iD X f v (d9 X d)).2 9 6
  n2:Zu 773000000 1101400000 (iD X f v (qE ((-1:Int):Rat)*d9 X d)).1 10 7/\Zu 773000000 1101400000 (iD X f v (qE ((-1:Int):Rat)*d9 X d)).2 10 7
theorem C2{ts:LL}{X d:Et ts}{f v:P2 ts}(hn:ts.length<=1)(E:ExtP X)(hd:Zu 310000 65000 (er d) 321 328)(h0:am (er d)≠0)(f1:Zu 310000 65000 f.1 2051 2095)(f2:Zu 310000 65000 f.2 2051 2095)
  (v1:Zu 310000 65000 v.1 80 81) (v2:Zu 310000 65000 v.2 80 81):SideP X d f v:=by
 haveI cy:=E.cy;haveI zr:Zl (aH ts (sX X)) 773000000 1101400000 (cc ts.length) (dE _ (cc ts.length)) 1 0:=Zl.at (sr oz) (by decide);haveI zd:=kc (X:=X) hn hd (by decide);haveI zf1:=kc (X:=X) hn f1 (by decide);haveI zf2:=kc (X:=X) hn f2 (by decide);haveI zv1:=kc (X:=X) hn v1 (by decide);haveI zv2:=kc (X:=X) hn v2 (by decide);haveI:=zf1.zu;haveI:=zf2.zu;haveI:=zv1.zu;haveI:=zv2.zu
 have hdiv:=ph (ts:=aH ts (sX X)) (u:=773000000) (k:=1101400000) (a:=cc ts.length) (b:=sX (er d)) (j:=ts.length) hd.nm.nl (by rw[dO];omega) hn (by rw[o7];exact h0) (by decide);haveI zs:Zu 773000000 1101400000 (d9 X d) 6 3:=hdiv.2;haveI qm:Qz 773000000 ((-1:Int):Rat) 1:=Qz.int (c:=Cy.cx (c:=cy)) (by decide);haveI zm:Zu 773000000 1101400000 (qE ((-1:Int):Rat)*aK X v.2) 2 1:=inferInstance;haveI zu:Zu 773000000 1101400000 (qE ((-1:Int):Rat)*d9 X d) 7 4:=inferInstance;have ht:=xq (ts:=aH ts (sX X)) (u:=773000000) (k:=1101400000) (a:=sX v.2) (-1) oz (by decide);have hu:=xq (ts:=aH ts (sX X)) (u:=773000000) (k:=1101400000) (a:=sX (d9 X d)) (-1) oz (by decide)
 have al:∀{c:Et (aH ts (sX X))}{w k:Nat}(zc:Zu 773000000 1101400000 c w k),w<=7->k<=4 ->
   Con prog 258 [.ptr 1000 0,aG (sX f.1) (sX f.2),nA (sX c),aG (sX (qE ((-1:Int):Rat)*aK X v.2)) (sX v.1)] [(1000,some (a5 (aH ts (sX X))))] (di (iD X f v c).l) [(1000,some (a5 (aH ts (sX X))))]:=by
  intro c w k zc hw hk;haveI:=zc;have m1:=jq (ts:=aH ts (sX X)) (u:=773000000) (k:=1101400000) (a:=sX c) (b:=sX (qE ((-1:Int):Rat)*aK X v.2)) oz;have m2:=jq (ts:=aH ts (sX X)) (u:=773000000) (k:=1101400000) (a:=sX c) (b:=sX v.1) oz;have m3:=j5 (ts:=aH ts (sX X)) (u:=773000000) (k:=1101400000) (a:=sX f.1) (b:=sX (c*(qE ((-1:Int):Rat)*aK X v.2))) oz;have m4:=j5 (ts:=aH ts (sX X)) (u:=773000000) (k:=1101400000) (a:=sX f.2) (b:=sX (c*aK X v.1)) oz;exact sW m1 m2 m3 m4
 exact⟨hdiv.1,ht,hu,al zs oz oz,al zu oz oz,
  ⟨(inferInstance:Zu 773000000 1101400000 (aK X f.1+d9 X d*(qE ((-1:Int):Rat)*aK X v.2)) 9 6),⟨(inferInstance:Zu 773000000 1101400000 (aK X f.2+d9 X d*aK X v.1) _ _).nm.mono (by decide)⟩⟩,
  ⟨(inferInstance:Zu 773000000 1101400000 (aK X f.1+qE ((-1:Int):Rat)*d9 X d*(qE ((-1:Int):Rat)*aK X v.2)) 10 7),⟨(inferInstance:Zu 773000000 1101400000 (aK X f.2+qE ((-1:Int):Rat)*d9 X d*aK X v.1) _ _).nm.mono (by decide)⟩⟩⟩
theorem JK(h:TR rs 64990)(hc:bb rs=0)(hn:(llq rs).length<=1)[c0:Ct (llq rs) 310000 65000][i1:Zl (llq rs) 310000 65000 a x 40 40][i2:Zl (llq rs) 310000 65000 b y 40 40][i3:Zl (llq rs) 310000 65000 c z 3 0][i4:Zl (llq rs) 310000 65000 a2 x2 40 40][i5:Zl (llq rs) 310000 65000 b2 y2 40 40][i6:Zl (llq rs) 310000 65000 c2 z2 3 0]
  (ha:a=sX x) (hb:b=sX y) (s1:0<=am z) (s2:0<=am z2):FP 147 [cZ rs,.agg [nA a,nA b,nA c],.agg [nA a2,nA b2,nA c2]] (.tup [(eV (x,y) (x2,y2) z z2).av,bj (fR (x,y) (x2,y2) z z2)]):=by
 have hz:∀q∈[(a,b,c),(a2,b2,c2)],CiZ rs q:=fun q hq=>by
  simp only[mem_cons,not_mem_nil,or_false]at hq;rcases hq with rfl |rfl
  ·exact⟨i1.nm.mono oz,i2.nm.mono oz,i3.nm.mono oz,by show 0<=am (dE (llq rs) c);rw[show dE (llq rs) c=z from i3.eq];exact s1⟩
  ·exact⟨i4.nm.mono oz,i5.nm.mono oz,i6.nm.mono oz,by show 0<=am (dE (llq rs) c2);rw[show dE (llq rs) c2=z2 from i6.eq];exact s2⟩
 have hck:=Uf h hc [(a,b,c),(a2,b2,c2)] hz (by show 2<=100;omega);obtain⟨tw,etw⟩:=dh h hc;haveI cy:Cy (llq rs) 310000 65000:=⟨c0.ex,by omega,by omega,by omega⟩
 have P:=FU c0 i1.zu i2.zu i3.zu i4.zu i5.zu i6.zu;haveI:=P.zd;haveI:=P.zX;haveI:=i3.zu;haveI:=i6.zu;have m1:=qd (ts:=llq rs) (u:=310000) (k:=65000) (a:=sX (aD (x,y) (x2,y2))) (by decide);have m2:=qd (ts:=llq rs) (u:=310000) (k:=65000) (a:=sX (bB (x,y) z (x2,y2) z2)) (by decide);have m0:=Con.sA (.cons (.refl _) (.cons (Sub.nil 2 none 0) .nil)) (mV tw []);have w1:=k9 (ts:=llq rs) (u:=310000) (k:=65000) (a:=a2) (b:=a) (by decide);have w2:=k9 (ts:=llq rs) (u:=310000) (k:=65000) (a:=b2) (b:=b) (by decide);haveI q2:Qz 310000 ((2:Int):Rat) 1:=Qz.int (c:=Cy.cx (c:=cy)) (by decide);have t2:=xq (ts:=llq rs) (u:=310000) (k:=65000) (a:=sX (aD (x,y) (x2,y2))) 2 oz (by decide);have k1:=j5 (ts:=llq rs) (u:=310000) (k:=65000) (a:=c) (b:=sX (aD (x,y) (x2,y2))) (by decide);have k2:=k9 (ts:=llq rs) (u:=310000) (k:=65000) (a:=sX (z+aD (x,y) (x2,y2))) (b:=c2) (by decide);subst ha;subst hb;refine ah func147 ?_;refine gc hck ?_;refine gC (fun t24=>?_) (fun t24=>?_) (st1:=(3,0)) (st2:=(5,0));cases t24;refine gW (Wk.o (sl:=[(4,some (.ptr 4 0)),(5,some (.ptr 5 0)),(6,some (.ptr 6 0)),(9,some (.ptr 29 0))]) (hp:=[(4,some (.box [nA (sX x),nA (sX y),nA c])),(5,some (.box [nA a2,nA b2,nA c2])),(6,some (.box [nS,nS])),(29,some (dU rs))])) ?_;refine gt (ay (Con.rB 29 rfl rfl rfl rfl (Q0 h hc)) (aA rfl rfl rfl) az rfl rfl) ?_ (6,0);refine gW (Wk.of (sl:=[(4,some (.ptr 4 0)),(5,some (.ptr 5 0)),(6,some (.ptr 6 0)),(9,some (.ptr 29 0)),(10,some (nA (sX (bB (x,y) z (x2,y2) z2)))),(11,some (nA (sX (aD (x,y) (x2,y2)))))]) (hp:=[(4,some (.box [nA (sX x),nA (sX y),nA c])),(5,some (.box [nA a2,nA b2,nA c2])),(6,some (.box [nS,nS])),(29,some (a5 (llq rs)))]) aV (.k (.k (.k (.cons rfl (BlkSub.bL (.cons (.of (l0 etw)) (.cons (.refl _) .nil)) rfl) .nil))))) ?_
 refine gt (aR (Con.rB 29 rfl rfl rfl rfl m1) (bm rfl rfl) rfl rfl rfl) ?_;refine gC (fun t40=>?_) (fun t40=>?_)
 ·have hd0:am (aD (x,y) (x2,y2))=0:=da t40;refine gt (aR (Con.rB 29 rfl rfl rfl rfl (Tz (a:=sX x) (b:=sX y) (c:=c) (a2:=a2) (b2:=b2) (c2:=c2) tw)) (aA rfl rfl rfl) rfl rfl rfl) ?_;refine ba ?_;unfold eV fR;rw[if_pos hd0,if_pos hd0]
 have hd0:¬am (aD (x,y) (x2,y2))=0:=dZ t40;refine gt (aR (Con.rB 29 rfl rfl rfl rfl m2) (bm rfl rfl) rfl rfl rfl) ?_;refine gC (fun t51=>?_) (fun t51=>?_)
 ·have hx0:am (bB (x,y) z (x2,y2) z2)<0:=of_decide_eq_true t51;refine gt (aR (Con.rB 29 rfl rfl rfl rfl m0) (.cons (.tmp rfl) (.cons (.const _) .nil)) rfl rfl rfl) ?_;refine ba ?_;unfold eV fR;rw[if_neg hd0,if_neg hd0,if_pos hx0];rfl
 have hx0:¬am (bB (x,y) z (x2,y2) z2)<0:=of_decide_eq_false t51;have ht0:am (er (aD (x,y) (x2,y2)))≠0:=by rw[wY tw];exact hd0
 obtain⟨fd,fk,f1,f2⟩:=C6 hn i1.zu i2.zu i3.zu i6.zu P ht0;haveI:=fk;haveI:=P.z1;haveI:=P.z2;have g1:=jq (ts:=llq rs) (u:=310000) (k:=65000) (a:=sX ((z+aD (x,y) (x2,y2)-z2)*iE (er (aD (x,y) (x2,y2))))) (b:=sX (fT (x,y) (x2,y2)).1) (by decide);have g2:=jq (ts:=llq rs) (u:=310000) (k:=65000) (a:=sX ((z+aD (x,y) (x2,y2)-z2)*iE (er (aD (x,y) (x2,y2))))) (b:=sX (fT (x,y) (x2,y2)).2) (by decide);have g3:=j5 (ts:=llq rs) (u:=310000) (k:=65000) (a:=sX x) (b:=sX ((z+aD (x,y) (x2,y2)-z2)*iE (er (aD (x,y) (x2,y2)))*(fT (x,y) (x2,y2)).1)) (by decide);have g4:=j5 (ts:=llq rs) (u:=310000) (k:=65000) (a:=sX y) (b:=sX ((z+aD (x,y) (x2,y2)-z2)*iE (er (aD (x,y) (x2,y2)))*(fT (x,y) (x2,y2)).2)) (by decide);have gal:=sW g1 g2 g3 g4;refine gt (aR (Con.rB 29 rfl rfl rfl rfl w1) (aA rfl rfl rfl) rfl rfl rfl) ?_;refine gt (aR (Con.rB 29 rfl rfl rfl rfl w2) (aA rfl rfl rfl) rfl rfl rfl) ?_;refine gD ?_;refine gt (aR (Con.rB 29 rfl rfl rfl rfl t2) (.cons (.tmp rfl) (.cons (.const _) (cR rfl))) rfl rfl rfl) ?_;refine gt (aR (Con.rB 29 rfl rfl rfl rfl k1) (aA rfl rfl rfl) rfl rfl rfl) ?_;refine gt (aR (Con.rB 29 rfl rfl rfl rfl k2) (aA rfl rfl rfl) rfl rfl rfl) ?_;refine gt (aR (Con.rB 29 rfl rfl rfl rfl (tN fd)) (aA rfl rfl rfl) rfl rfl rfl) ?_;refine gt (aR (Con.rB 29 rfl rfl rfl rfl gal) (.cons (.tmp rfl) (aA rfl rfl rfl)) rfl rfl rfl) ?_;refine gD ?_;refine gC (fun t94=>?_) (fun t94=>?_)
 ·have hx1:am (bB (x,y) z (x2,y2) z2)=0:=da t94;refine gt (aR (Con.rB 29 rfl rfl rfl rfl (mV tw [di (eU (x,y) (x2,y2) z z2).l])) (bm rfl rfl) rfl rfl rfl) ?_;refine ba ?_;unfold eV fR;rw[if_neg hd0,if_neg hd0,if_neg hx0,if_pos hx1];rfl
 have hx1:¬am (bB (x,y) z (x2,y2) z2)=0:=dZ t94;have E:ExtP (bB (x,y) z (x2,y2) z2):=ru tw hn P.zX oz;have S:=C2 (X:=bB (x,y) z (x2,y2) z2) (d:=aD (x,y) (x2,y2)) (f:=eU (x,y) (x2,y2) z z2) (v:=fT (x,y) (x2,y2)) hn E P.zt ht0 f1 f2 P.z1 P.z2;have hex:=Ho (a:=sX (bB (x,y) z (x2,y2) z2)) tw P.zX.nm (by rw[cy.lm];decide) (by rw[show ad (llq rs).length (sX (bB (x,y) z (x2,y2) z2))=bB (x,y) z (x2,y2) z2 from aZ _ _];show 0<=am (bB (x,y) z (x2,y2) z2);omega);refine gt (ay (Con.rB 29 rfl rfl rfl rfl hex) (bm rfl rfl) az rfl rfl) ?_;refine gt (aR (Con.rB 29 rfl rfl rfl rfl (tN S.hd)) (aA rfl rfl rfl) rfl rfl rfl) ?_;refine gt (aR (Con.rB 29 rfl rfl rfl rfl S.ht) (.cons (.tmp rfl) (.cons (.const _) (cR rfl))) rfl rfl rfl) ?_;refine gD ?_;refine gt (aR (Con.rB 29 rfl rfl rfl rfl S.a1) (.cons (.tmp rfl) (aA rfl rfl rfl)) rfl rfl rfl) ?_;refine gt (aR (Con.rB 29 rfl rfl rfl rfl S.hu) (.cons (.tmp rfl) (.cons (.const _) (cR rfl))) rfl rfl rfl) ?_;refine gt (aR (Con.rB 29 rfl rfl rfl rfl S.a2) (.cons (.tmp rfl) (aA rfl rfl rfl)) rfl rfl rfl) ?_;refine gt (aR (Con.rB 29 rfl rfl rfl rfl (mV E.tw [di (iD (bB (x,y) z (x2,y2) z2) (eU (x,y) (x2,y2) z z2) (fT (x,y) (x2,y2)) (d9 (bB (x,y) z (x2,y2) z2) (aD (x,y) (x2,y2)))).l,di (iD (bB (x,y) z (x2,y2) z2) (eU (x,y) (x2,y2) z z2) (fT (x,y) (x2,y2)) (qE ((-1:Int):Rat)*d9 (bB (x,y) z (x2,y2) z2) (aD (x,y) (x2,y2)))).l])) (bm rfl rfl) rfl rfl rfl) ?_;refine gD ?_;refine ba ?_;unfold eV fR;rw[if_neg hd0,if_neg hd0,if_neg hx0,if_neg hx1];rfl
end
section
variable{ts:LL}
abbrev bt(p q:P2 ts):Et ts:=qR (bu q p) (bu q p)
abbrev bU(p q c:P2 ts):Et ts:=qR (bu q p) (bu c p)
abbrev iX(p q c:P2 ts):Et ts:=xp (bu q p) (bu c p)
abbrev aU(p q c:P2 ts)(z:Et ts):Et ts:=bt p q*z-iX p q c*iX p q c
def fu(X:Et ts)(S:Et ts)(k:Et (aH ts (sX X))):Et (aH ts (sX X)):=k*iE (aK X S)
def kA(X:Et ts)(p v:P2 ts)(k:Et (aH ts (sX X))):P2 (aH ts (sX X)):=dT (aK X p.1,aK X p.2) k (aK X v.1,aK X v.2)
abbrev bA(X:Et ts):Et (aH ts (sX X)):=dE _ (cc ts.length)
def fg(p q c:P2 ts)(z:Et ts):Mt :=
  if am (bt p q)=0 then⟨[],[]⟩else if am (aU p q c z)=-1 then⟨ts,[]⟩else if am (aU p q c z)=0 then⟨ts,[(dT p (bU p q c*iE (bt p q)) (bu q p)).l]⟩
  else⟨aH ts (sX (aU p q c z)),[(kA (aU p q c z) p (bu q p) (fu (aU p q c z) (bt p q) (aK (aU p q c z) (bU p q c)+bA (aU p q c z)))).l,
    (kA (aU p q c z) p (bu q p) (fu (aU p q c z) (bt p q) (aK (aU p q c z) (bU p q c)-bA (aU p q c z)))).l]⟩
def fV(p q:P2 ts):Nat:=if am (bt p q)=0 then 8 else 0
structure LinP(p q c:P2 ts)(z:Et ts):Prop where
  v1:Zu 310000 65000 (bu q p).1 80 81
  v2:Zu 310000 65000 (bu q p).2 80 81
  w1:Zu 310000 65000 (bu c p).1 80 81
  w2:Zu 310000 65000 (bu c p).2 80 81
  zs:Zu 310000 65000 (bt p q) 320 327
  ze:Zu 310000 65000 (bU p q c) 320 327
  zc:Zu 310000 65000 (iX p q c) 320 327
  zX:Zu 310000 65000 (aU p q c z) 963 984
theorem Ij{p q c:P2 ts}{z:Et ts}(c0:Cy ts 310000 65000)(h1:Zu 310000 65000 p.1 40 40)(h2:Zu 310000 65000 p.2 40 40)(h3:Zu 310000 65000 q.1 40 40)(h4:Zu 310000 65000 q.2 40 40)(h5:Zu 310000 65000 c.1 40 40)(h6:Zu 310000 65000 c.2 40 40)(h7:Zu 310000 65000 z 3 0):LinP p q c z:=by
 haveI:=c0;haveI:=h1;haveI:=h2;haveI:=h3;haveI:=h4;haveI:=h5;haveI:=h6;haveI:=h7
 haveI v1:=(inferInstance:Zu 310000 65000 (q.1-p.1) 80 81)
 haveI v2:=(inferInstance:Zu 310000 65000 (q.2-p.2) 80 81)
 haveI w1:=(inferInstance:Zu 310000 65000 (c.1-p.1) 80 81)
 haveI w2:=(inferInstance:Zu 310000 65000 (c.2-p.2) 80 81)
 haveI zs:Zu 310000 65000 (bt p q) 320 327:=(inferInstance:Zu 310000 65000 ((q.1-p.1)*(q.1-p.1)+(q.2-p.2)*(q.2-p.2)) _ _)
 haveI ze:Zu 310000 65000 (bU p q c) 320 327:=(inferInstance:Zu 310000 65000 ((q.1-p.1)*(c.1-p.1)+(q.2-p.2)*(c.2-p.2)) _ _)
 haveI zc:Zu 310000 65000 (iX p q c) 320 327:=(inferInstance:Zu 310000 65000 ((q.1-p.1)*(c.2-p.2)-(q.2-p.2)*(c.1-p.1)) _ _)
 exact⟨v1,v2,w1,w2,zs,ze,zc,inferInstance⟩
structure LinQ(p q c:P2 ts):Prop where
  hd:FP 271 [aL ts,nA (sX (bU p q c)),nA (sX (bt p q))] (.tup [nA (sX (bU p q c*iE (bt p q))),.v .nilIface])
  al:Con prog 258 [.ptr 1000 0,aG (sX p.1) (sX p.2),nA (sX (bU p q c*iE (bt p q))),aG (sX (bu q p).1) (sX (bu q p).2)] [(1000,some (a5 ts))] (di (dT p (bU p q c*iE (bt p q)) (bu q p)).l) [(1000,some (a5 ts))]
  n1:Zu 310000 65000 (dT p (bU p q c*iE (bt p q)) (bu q p)).1 2040 2088
  n2:Zu 310000 65000 (dT p (bU p q c*iE (bt p q)) (bu q p)).2 2040 2088
theorem I7{p q c:P2 ts}{z:Et ts}(c0:Cy ts 310000 65000)(hn:ts.length<=1)(h1:Zu 310000 65000 p.1 40 40)(h2:Zu 310000 65000 p.2 40 40)(P:LinP p q c z)(h0:am (bt p q)≠0):LinQ p q c:=by
 haveI:=c0;haveI:=h1;haveI:=h2;haveI:=P.v1;haveI:=P.v2;haveI:=P.zs;haveI:=P.ze
 have hd:=ph (ts:=ts) (u:=310000) (k:=65000) (a:=sX (bU p q c)) (b:=sX (bt p q)) (j:=ts.length) P.zs.nm.nl (le_refl _) hn h0 (by decide);haveI:=hd.2;have m1:=jq (ts:=ts) (u:=310000) (k:=65000) (a:=sX (bU p q c*iE (bt p q))) (b:=sX (bu q p).1) (by decide);have m2:=jq (ts:=ts) (u:=310000) (k:=65000) (a:=sX (bU p q c*iE (bt p q))) (b:=sX (bu q p).2) (by decide);have m3:=j5 (ts:=ts) (u:=310000) (k:=65000) (a:=sX p.1) (b:=sX (bU p q c*iE (bt p q)*(bu q p).1)) (by decide);have m4:=j5 (ts:=ts) (u:=310000) (k:=65000) (a:=sX p.2) (b:=sX (bU p q c*iE (bt p q)*(bu q p).2)) (by decide);exact⟨hd.1,sW m1 m2 m3 m4,(inferInstance:Zu 310000 65000 (p.1+bU p q c*iE (bt p q)*(bu q p).1) _ _),(inferInstance:Zu 310000 65000 (p.2+bU p q c*iE (bt p q)*(bu q p).2) _ _)⟩
structure LinS(X:Et ts)(S:Et ts)(p v:P2 ts)(k:Et (aH ts (sX X))):Prop where
  hd:FP 271 [aL (aH ts (sX X)),nA (sX k),nA (sX S)] (.tup [nA (sX (fu X S k)),.v .nilIface])
  al:Con prog 258 [.ptr 1000 0,aG (sX p.1) (sX p.2),nA (sX (fu X S k)),aG (sX v.1) (sX v.2)] [(1000,some (a5 (aH ts (sX X))))] (di (kA X p v (fu X S k)).l) [(1000,some (a5 (aH ts (sX X))))]
  n1:Zu 773000000 1101400000 (kA X p v (fu X S k)).1 9 6
  n2:Zu 773000000 1101400000 (kA X p v (fu X S k)).2 9 6
theorem wF{X S:Et ts}{p v:P2 ts}{k:Et (aH ts (sX X))}(hn:ts.length<=1)(E:ExtP X)(hs:Zu 310000 65000 S 320 327)(h0:am S≠0)(p1:Zu 310000 65000 p.1 40 40)(p2:Zu 310000 65000 p.2 40 40)(v1:Zu 310000 65000 v.1 80 81)(v2:Zu 310000 65000 v.2 80 81)
  (hk:Zu 773000000 1101400000 k 2 1):LinS X S p v k:=by
 haveI cy:=E.cy;haveI:=hk;haveI zs:=kc (X:=X) hn hs (by decide);haveI zp1:=kc (X:=X) hn p1 (by decide);haveI zp2:=kc (X:=X) hn p2 (by decide);haveI zv1:=kc (X:=X) hn v1 (by decide);haveI zv2:=kc (X:=X) hn v2 (by decide);haveI:=zp1.zu;haveI:=zp2.zu;haveI:=zv1.zu;haveI:=zv2.zu
 have hdiv:=ph (ts:=aH ts (sX X)) (u:=773000000) (k:=1101400000) (a:=sX k) (b:=sX S) (j:=ts.length) hs.nm.nl (by rw[dO];omega) hn (by rw[o7];exact h0) (by decide);haveI zk:Zu 773000000 1101400000 (fu X S k) 7 4:=hdiv.2;have m1:=jq (ts:=aH ts (sX X)) (u:=773000000) (k:=1101400000) (a:=sX (fu X S k)) (b:=sX v.1) (by decide);have m2:=jq (ts:=aH ts (sX X)) (u:=773000000) (k:=1101400000) (a:=sX (fu X S k)) (b:=sX v.2) (by decide);have m3:=j5 (ts:=aH ts (sX X)) (u:=773000000) (k:=1101400000) (a:=sX p.1) (b:=sX (fu X S k*aK X v.1)) (by decide);have m4:=j5 (ts:=aH ts (sX X)) (u:=773000000) (k:=1101400000) (a:=sX p.2) (b:=sX (fu X S k*aK X v.2)) (by decide);exact⟨hdiv.1,sW m1 m2 m3 m4,(inferInstance:Zu 773000000 1101400000 (aK X p.1+fu X S k*aK X v.1) 9 6),(inferInstance:Zu 773000000 1101400000 (aK X p.2+fu X S k*aK X v.2) 9 6)⟩
theorem Bt{X:Et ts}{w v w' v' u k:Nat}(h:Zu u k X w v)(hw:w<=w')(hv:v<=v'):Zu u k X w' v':=⟨h.nm.mono (A4 hw hv)⟩
theorem Nr{x:Int}(h:cond (cond (dl Value.nilIface) (aa .eql x 0) false) (dl Value.nilIface) false=true):x=0:=by
 cases h9:aa .eql x 0
 ·rw[h9]at h;cases h
 ·exact da h9
theorem QG{x:Int}(h:cond (cond (dl Value.nilIface) (aa .eql x 0) false) (dl Value.nilIface) false=false):x≠0:=by
 cases h9:aa .eql x 0
 ·exact dZ h9
 ·rw[h9]at h;cases h
theorem Tj{x y:AV}{i:Nat}{Q:AV->Prop}(hi:i<2)(hx:Q x)(hy:Q y):∃z,[x,y][i]?=some z/\Q z:=by
 have h:i=0\/i=1:=by omega
 rcases h with rfl |rfl
 ·exact⟨x,rfl,hx⟩
 ·exact⟨y,rfl,hy⟩
theorem Ei{r e:Nat}{a b c d:Et ts}(tw:Tw ts r)(hl:lm ts.length=200000000000)(h1:Nm ts.length e (sX a))(h2:Nm ts.length e (sX b))(h3:Nm ts.length e (sX c))(h4:Nm ts.length e (sX d))(he:e+e+kB r ts.length<=100000000000) :
  FP 77 [aL ts,aG (sX a) (sX b),aG (sX c) (sX d)] (.tup [nA (sX (a*c+b*d)),.v .nilIface]):=by
 have h:=xh tw h1 h2 h3 h4 (by rw[hl];omega);rw[show ad ts.length (sX a)=a from aZ _ _,show ad ts.length (sX b)=b from aZ _ _,show ad ts.length (sX c)=c from aZ _ _,show ad ts.length (sX d)=d from aZ _ _]at h;exact h
theorem Qr{r e:Nat}{a b c d:Et ts}(tw:Tw ts r)(hl:lm ts.length=200000000000)(h1:Nm ts.length e (sX a))(h2:Nm ts.length e (sX b))(h3:Nm ts.length e (sX c))(h4:Nm ts.length e (sX d))(he:e+e+kB r ts.length<=100000000000) :
  FP 74 [aL ts,aG (sX a) (sX b),aG (sX c) (sX d)] (.tup [nA (sX (a*d-b*c)),.v .nilIface]):=by
 have h:=Ff tw h1 h2 h3 h4 (by rw[hl];omega);rw[show ad ts.length (sX a)=a from aZ _ _,show ad ts.length (sX b)=b from aZ _ _,show ad ts.length (sX c)=c from aZ _ _,show ad ts.length (sX d)=d from aZ _ _]at h;exact h
end
section
variable{rs:List (List Rt)}{c:List Rat}{o p q:P2 (llq rs)}{z:Et (llq rs)}
theorem Sk(h:TR rs 64990)(hc:bb rs=0)(hn:(llq rs).length<=1)(c0:Ct (llq rs) 310000 65000)(ho1:Zu 310000 65000 o.1 40 40)(ho2:Zu 310000 65000 o.2 40 40)(p1:Zu 310000 65000 p.1 40 40)(p2:Zu 310000 65000 p.2 40 40)(q1:Zu 310000 65000 q.1 40 40)(q2:Zu 310000 65000 q.2 40 40)
  [i3:Zl (llq rs) 310000 65000 c z 3 0] (s1:0<=am z):FP 149 [cZ rs,.agg [nA (sX o.1),nA (sX o.2),nA c],di p.l,di q.l] (.tup [(fg p q o z).av,bj (fV p q)]):=by
 obtain⟨tw,etw⟩:=dh h hc;haveI cy:Cy (llq rs) 310000 65000:=⟨c0.ex,by obtain⟨_,h9,_⟩:=c0;exact h9,by obtain⟨_,_,h9,_⟩:=c0;exact h9,by omega⟩
 have hlm:=cy.lm;have hck:=nP rs 64990 h;rw[hc]at hck;have P:=Ij cy p1 p2 q1 q2 ho1 ho2 i3.zu;haveI:=ho1;haveI:=ho2;haveI:=p1;haveI:=p2;haveI:=q1;haveI:=q2;haveI:=P.v1;haveI:=P.v2;haveI:=P.w1;haveI:=P.w2;haveI:=P.zs;haveI:=P.ze;haveI:=P.zc;haveI:=P.zX
 have hci:=GQ (e:=40*310000+40*65000) h hc ho1.nm ho2.nm (i3.nm.mono (by decide)) (by rw[hlm];decide)
 have hra:=Iu h hc [(sX o.1,sX o.2,c)] (fun y hy=>by
  rw[List.mem_singleton.1 hy];exact⟨ho1.nm.mono (by decide),ho2.nm.mono (by decide),i3.nm.mono (by decide),by show 0<=am (dE (llq rs) c);rw[show dE (llq rs) c=z from i3.eq];exact s1⟩) (by show 1<=100;omega)
 have a1:=k9 (ts:=llq rs) (u:=310000) (k:=65000) (a:=sX q.1) (b:=sX p.1) (by decide);have a2:=k9 (ts:=llq rs) (u:=310000) (k:=65000) (a:=sX q.2) (b:=sX p.2) (by decide);have a3:=k9 (ts:=llq rs) (u:=310000) (k:=65000) (a:=sX o.1) (b:=sX p.1) (by decide);have a4:=k9 (ts:=llq rs) (u:=310000) (k:=65000) (a:=sX o.2) (b:=sX p.2) (by decide);have hkb:80*310000+81*65000+(80*310000+81*65000)+kB 64990 (llq rs).length<=100000000000:=by have:=BA hn;omega
 have b1:=Ei tw hlm P.v1.nm P.v2.nm P.v1.nm P.v2.nm hkb;have b2:=Ei tw hlm P.v1.nm P.v2.nm P.w1.nm P.w2.nm hkb;have b3:=Qr tw hlm P.v1.nm P.v2.nm P.w1.nm P.w2.nm hkb;rw[<- etw]at b1 b2 b3;have m1:=qd (ts:=llq rs) (u:=310000) (k:=65000) (a:=sX (bt p q)) (by decide);have m2:=jq (ts:=llq rs) (u:=310000) (k:=65000) (a:=sX (bt p q)) (b:=c) (by decide);have m3:=jq (ts:=llq rs) (u:=310000) (k:=65000) (a:=sX (iX p q o)) (b:=sX (iX p q o)) (by decide);haveI zz:=i3.zu;have m4:=k9 (ts:=llq rs) (u:=310000) (k:=65000) (a:=sX (bt p q*z)) (b:=sX (iX p q o*iX p q o)) (by decide);have m5:=qd (ts:=llq rs) (u:=310000) (k:=65000) (a:=sX (aU p q o z)) (by decide);have m0:=Con.sA (.cons (.refl _) (.cons (Sub.nil 2 none 0) .nil)) (mV tw []);refine ah func149 ?_;refine gc hck ?_;refine gC (fun t27=>?_) (fun t27=>?_) (st1:=(3,0));cases t27;refine gc hci ?_;refine gC (fun t34=>?_) (fun t34=>?_) (st1:=(6,0));cases t34;refine ge rfl ?_;refine aI [4,5,6,7,8,39,40] [4,5,6,7,8] (fun(i:Nat)=>[(41,some (i64 i))]) (fun _=>[]) (fun i=>i<=2) (fun i=>2-i) 0 (zero_le _) ?_;rintro i hi K1 J1;refine gC (fun t42=>?_) (fun t42=>?_)
 ·have hin:i<2:=aQ (b:=2) t42;obtain⟨zz2,hz2,u,v,hu,hv,rfl⟩:=Tj (x:=di p.l) (y:=di q.l) (Q:=fun w=>∃u v,Nm (llq rs).length (40*310000+40*65000) u/\Nm (llq rs).length (40*310000+40*65000) v/\w=aG u v) hin ⟨_,_,p1.nm,p2.nm,rfl⟩ ⟨_,_,q1.nm,q2.nm,rfl⟩;refine gi hz2 ?_;refine gc (HK h hc hu hv (by rw[hlm];decide)) ?_;refine gC (fun t49=>?_) (fun t49=>?_) (st1:=(12,0));cases t49;refine ga aF ?_;exact aE J1 (i+1) hin
 refine gc hra ?_;refine gC (fun t58=>?_) (fun t58=>?_) (st1:=(16,0)) (st2:=(18,0));cases t58;refine gW (Wk.of (sl:=[(4,some (.ptr 4 0)),(5,some (.ptr 5 0)),(6,some (.ptr 6 0)),(7,some (.ptr 7 0)),(8,some (.ptr 8 0)),(16,some (.ptr 63 0))]) (hp:=[(4,some (.box [.lst 1 (rs.map nR)])),(5,some (.box [nA (sX o.1),nA (sX o.2),nA c])),(6,some (.box [nA (sX p.1),nA (sX p.2)])),(7,some (.box [nA (sX q.1),nA (sX q.2)])),(8,some (.box [nS,nS])),(63,some (a5 (llq rs)))]) aV (.k (.k (.k (.k (.k (.cons rfl (BlkSub.bL (.cons (.of (l0 etw)) (.cons (.refl _) .nil)) rfl) .nil))))))) ?_
 refine gt (aR (Con.rB 63 rfl rfl rfl rfl a1) (aA rfl rfl rfl) rfl rfl rfl) ?_;refine gt (aR (Con.rB 63 rfl rfl rfl rfl a2) (aA rfl rfl rfl) rfl rfl rfl) ?_;refine gD ?_;refine gt (aR (Con.rB 63 rfl rfl rfl rfl a3) (aA rfl rfl rfl) rfl rfl rfl) ?_;refine gt (aR (Con.rB 63 rfl rfl rfl rfl a4) (aA rfl rfl rfl) rfl rfl rfl) ?_;refine gD ?_;refine gc b1 ?_;refine gt (aR (Con.rB 63 rfl rfl rfl rfl (oC _ _)) (aA rfl rfl rfl) rfl rfl rfl) ?_;refine gu (ee rfl rfl rfl (fun h=>aR (Con.rB 63 rfl rfl rfl rfl m1) (.cons (.opt rfl (o1 h)) (.cons (.opt rfl (o1 h)) .nil)) rfl rfl rfl)) ?_;refine gC (fun t117=>?_) (fun t117=>?_)
 ·have h0:am (bt p q)=0:=Nr t117;refine gR ?_;exact eH (by unfold fg fV;rw[if_pos h0,if_pos h0];exact Sub.tup (.cons DD (.cons (.refl _) .nil)))
 have h0:am (bt p q)≠0:=QG t117;have Q:=I7 cy hn p1 p2 P h0;refine gc b2 ?_;refine gt (aR (Con.rB 63 rfl rfl rfl rfl (oC _ _)) (aA rfl rfl rfl) rfl rfl rfl) ?_;refine gc b3 ?_;refine gt (aR (Con.rB 63 rfl rfl rfl rfl (oC _ _)) (aA rfl rfl rfl) rfl rfl rfl) ?_;refine gt (aR (Con.rB 63 rfl rfl rfl rfl m2) (aA rfl rfl rfl) rfl rfl rfl) ?_;refine gt (aR (Con.rB 63 rfl rfl rfl rfl m3) (aA rfl rfl rfl) rfl rfl rfl) ?_;refine gt (aR (Con.rB 63 rfl rfl rfl rfl m4) (aA rfl rfl rfl) rfl rfl rfl) ?_;refine gt (aR (Con.rB 63 rfl rfl rfl rfl m5) (bm rfl rfl) rfl rfl rfl) ?_;refine gC (fun t150=>?_) (fun t150=>?_)
 ·have h1:am (aU p q o z)=-1:=da t150;refine gt (aR (Con.rB 63 rfl rfl rfl rfl m0) (.cons (.tmp rfl) (.cons (.const _) .nil)) rfl rfl rfl) ?_;refine ba ?_;unfold fg fV;rw[if_neg h0,if_neg h0,if_pos h1];rfl
 have h1:¬am (aU p q o z)=-1:=dZ t150;refine gC (fun t156=>?_) (fun t156=>?_)
 ·have h2:am (aU p q o z)=0:=da t156;refine gt (aR (Con.rB 63 rfl rfl rfl rfl (tN Q.hd)) (aA rfl rfl rfl) rfl rfl rfl) ?_;refine gt (aR (Con.rB 63 rfl rfl rfl rfl Q.al) (.cons (.tmp rfl) (aA rfl rfl rfl)) rfl rfl rfl) ?_;refine gt (aR (Con.rB 63 rfl rfl rfl rfl (mV tw [di (dT p (bU p q o*iE (bt p q)) (bu q p)).l])) (bm rfl rfl) rfl rfl rfl) ?_;refine gD ?_;refine ba ?_;unfold fg fV;rw[if_neg h0,if_neg h0,if_neg h1,if_pos h2];rfl
 have h2:¬am (aU p q o z)=0:=dZ t156
 have hpos:0<=am (aU p q o z):=by
  have:=T.sgn_cases (aj (llq rs)) (llq rs).length (aU p q o z);have e:am (aU p q o z)=T.sgn (aj (llq rs)) (llq rs).length (aU p q o z):=rfl;omega
 have E:ExtP (aU p q o z):=ru tw hn (Bt P.zX oz oz) hpos;haveI ce:=E.cy;haveI zr:Zl (aH (llq rs) (sX (aU p q o z))) 773000000 1101400000 (cc (llq rs).length) (dE _ (cc (llq rs).length)) 1 0:=Zl.at (sr oz) (by decide);haveI ze':=kc (X:=aU p q o z) hn P.ze (by decide);haveI:=zr.zu;haveI:=ze'.zu
 have e1:=j5 (ts:=aH (llq rs) (sX (aU p q o z))) (u:=773000000) (k:=1101400000) (a:=sX (bU p q o)) (b:=cc (llq rs).length) (by decide);have e2:=k9 (ts:=aH (llq rs) (sX (aU p q o z))) (u:=773000000) (k:=1101400000) (a:=sX (bU p q o)) (b:=cc (llq rs).length) (by decide);have S1:=wF (p:=p) (v:=bu q p) hn E P.zs h0 p1 p2 P.v1 P.v2 (k:=aK (aU p q o z) (bU p q o)+bA (aU p q o z)) inferInstance;have S2:=wF (p:=p) (v:=bu q p) hn E P.zs h0 p1 p2 P.v1 P.v2 (k:=aK (aU p q o z) (bU p q o)-bA (aU p q o z)) inferInstance;have hex:=Ho (a:=sX (aU p q o z)) tw P.zX.nm (by rw[hlm];decide) (by rw[show ad (llq rs).length (sX (aU p q o z))=aU p q o z from aZ _ _];exact hpos);refine gt (ay (Con.rB 63 rfl rfl rfl rfl hex) (bm rfl rfl) az rfl rfl) ?_;refine gt (aR (Con.rB 63 rfl rfl rfl rfl e1) (aA rfl rfl rfl) rfl rfl rfl) ?_;refine gt (aR (Con.rB 63 rfl rfl rfl rfl (tN S1.hd)) (aA rfl rfl rfl) rfl rfl rfl) ?_;refine gt (aR (Con.rB 63 rfl rfl rfl rfl S1.al) (.cons (.tmp rfl) (aA rfl rfl rfl)) rfl rfl rfl) ?_;refine gt (aR (Con.rB 63 rfl rfl rfl rfl e2) (aA rfl rfl rfl) rfl rfl rfl) ?_;refine gt (aR (Con.rB 63 rfl rfl rfl rfl (tN S2.hd)) (aA rfl rfl rfl) rfl rfl rfl) ?_;refine gt (aR (Con.rB 63 rfl rfl rfl rfl S2.al) (.cons (.tmp rfl) (aA rfl rfl rfl)) rfl rfl rfl) ?_;refine gt (aR (Con.rB 63 rfl rfl rfl rfl (mV E.tw [di (kA (aU p q o z) p (bu q p) (fu (aU p q o z) (bt p q) (aK (aU p q o z) (bU p q o)+bA (aU p q o z)))).l,di (kA (aU p q o z) p (bu q p) (fu (aU p q o z) (bt p q) (aK (aU p q o z) (bU p q o)-bA (aU p q o z)))).l])) (bm rfl rfl) rfl rfl rfl) ?_;refine gD ?_;refine ba ?_;unfold fg fV;rw[if_neg h0,if_neg h0,if_neg h1,if_neg h2];rfl
end
theorem La(o:Option Nat):aa .geq (jB o) 0=o.isSome:=by
 cases o with
 |none=>rfl
 |some i=>exact decide_eq_true (by show(i:Int)>=0;omega)
theorem O9(bs:List (Rat×Rat))(hl:bs.length<=281474976710656)(f:FuncId)(pre caps:List AV)(ok:Nat->Bool)
  (hf:∀(i:Nat)(b:Rat×Rat),bs[i]?=some b->(∀j,j<i->ok j=true)->FP f (pre++[qP b]++caps) (bl (!ok i))) :
  FP 353 [.lst 6 (bs.map qP),.cl f pre caps] (i64 (jB (cq bs.length ok))):=by
 refine ah func353 ?_;refine gl ?_;refine aI [0,1,7] [] (fun(i:Nat)=>[(8,some (i64 i))]) (fun _=>[]) (fun i=>i<=bs.length/\∀j,j<i->ok j=true) (fun i=>bs.length-i) 0 ⟨zero_le _,fun j h=>by omega⟩ ?_;rintro i ⟨hi,hj⟩ K1 J1;refine gC (fun t9=>?_) (fun t9=>?_)
 ·have hin:=aQ t9;obtain⟨b,hb⟩:=au hin;refine gi (ax hb) ?_;refine gc (hf i b hb hj) ?_;refine gC (fun t16=>?_) (fun t16=>?_)
  ·have h2:=cS t16;refine ae ?_;rw[f9 hin hj h2];rfl
  have h2:=cT t16;refine ga aF ?_;exact aE J1 (i+1) ⟨hin,fun j h9=>by rcases lt_or_ge j i with g |g;exact hj j g;(have:j=i:=by omega);subst this;exact h2⟩
 have hin:=a6 hi t9;subst hin;refine ae ?_;rw[fC hj];rfl
theorem Rl(bs:List (Rat×Rat))(hl:bs.length<=281474976710656)(f:FuncId)(pre caps:List AV)(ok:Nat->Bool)
  (hf:∀(i:Nat)(b:Rat×Rat),bs[i]?=some b->(∀j,j<i->ok j=true)->FP f (pre++[qP b]++caps) (bl (!ok i))) :
  FP 249 [.lst 6 (bs.map qP),.cl f pre caps] (bl (cq bs.length ok).isSome):=by
 refine ah func249 ?_;refine gc (O9 bs hl f pre caps ok hf) ?_;refine ae ?_;rw[<- La];rfl
theorem NH{v:Rat×Rat}(hv:Sm 3000 v):FP 250 [qP v] (bl (decide (bX v v=0))):=by
 refine ah func250 ?_;refine gc (DN hv hv oz oz) ?_;refine gc (OO ((hv.dot hv).qs oz)) ?_;refine ae ?_;rw[<- JB];rfl
def gj(vs:List (Rat×Rat)):Bool:=(cq vs.length fun i=>!decide (bX (vs.getD i (0,0)) (vs.getD i (0,0))=0)).isSome
theorem B3(vs:List (Rat×Rat))(hl:vs.length<=281474976710656)(hv:∀v∈vs,Sm 3000 v):FP 145 [.lst 6 (vs.map qP)] (bl (gj vs)):=by
 refine ah func145 ?_;refine gc (Con.sA (.cons (.refl _) (.cons ((Sub.fn0 _).trans (uE rfl)) .nil)) (Rl vs hl 250 [] [] (fun i=>!decide (bX (vs.getD i (0,0)) (vs.getD i (0,0))=0)) (fun i b hb _=>by rw[Bool.not_not,aC hb];exact NH (hv b (mem_of_getElem? hb))))) ?_;refine ae ?_;rfl
theorem xj{v:Rat×Rat}(h:gj [v]=false):bX v v≠0:=by
 intro h0;have h1:cq 1 (fun i=>!decide (bX ([v].getD i (0,0)) ([v].getD i (0,0))=0))=some 0:=f9 oz (fun j hj=>by omega) (by show(!decide (bX v v=0))=false;rw[h0];rfl);unfold gj at h;rw[show[v].length=1 from rfl,h1]at h;cases h
theorem we{v w:Rat×Rat}(h:gj [v,w]=false):bX v v≠0/\bX w w≠0:=by
 unfold gj at h;rw[Option.isSome_eq_false_iff,Option.isNone_iff_eq_none]at h;have h2:=JN h;have h3:=h2 0 (by show 0<2;omega);have h4:=h2 1 (by show 1<2;omega);have h5:(!decide (bX v v=0))=true:=h3;have h6:(!decide (bX w w=0))=true:=h4;simp only[Bool.not_eq_true',decide_eq_false_iff_not]at h5 h6;exact⟨h5,h6⟩
theorem EX(i n:Nat)(hi:i<=100):FP 154 [i64 i,i64 n] (i64 (if n=1 then 0 else 1-2*(i:Int))):=by
 refine ah func154 ?_;refine gC (fun t6=>?_) (fun t6=>?_)
 ·have h1 : n = 1 := by have := da t6; omega
  refine ae ?_;rw[if_pos h1];rfl
 have h1:¬n=1:=by have:=dZ t6;omega
 refine ga (show _=2*(i:Int) by exact xy oz) ?_;refine ga (show _=1-2*(i:Int) by exact dD oz) ?_;refine ae ?_;rw[if_neg h1];rfl
section
variable{ts:LL}
abbrev jY(u:Rat×Rat):Et ts:=qE (bX u u)
def dA(u:Rat×Rat)(w:P2 ts):Et ts:=(qE u.1*w.1+qE u.2*w.2)*iE (jY u)
def dw(u:Rat×Rat)(w:P2 ts):Et ts:=(qE u.1*w.2-qE u.2*w.1)*iE (jY u)
def qL(u:Rat×Rat)(w:P2 ts)(p:Rat×Rat)(o:P2 ts):Et ts:=o.1-(dA u w*qE p.1-dw u w*qE p.2)
def pu(u:Rat×Rat)(w:P2 ts)(p:Rat×Rat)(o:P2 ts):Et ts:=o.2-(dw u w*qE p.1+dA u w*qE p.2)
def gX(u:Rat×Rat)(w:P2 ts)(p:Rat×Rat)(o:P2 ts):Pq:=⟨sX (dA u w),sX (dw u w),sX (qL u w p o),sX (pu u w p o)⟩
theorem uv(ts:LL)(a b:List Rat):Con prog 72 [.ptr 1000 0,aG a b,.v .nilIface] [(1000,some (a5 ts))] (aG a b) [(1000,some (a5 ts))]:=by
 have h:=Ik (ts.map (List.map rt)) a b;rw[ym]at h;exact h
theorem o5(q:Rat):ad ts.length (sh 0 (q:Rat))=(qE q:Et ts):=ia _ q
theorem oo{e:Nat}{q:Rat}(h5:ts.length<=5)(h:Qb e q):Nm ts.length e (sh 0 (q:Rat)):=Nm.ofQ h5 (Cb.one h)
structure BdP(ts:LL)(u:Rat×Rat)(w:P2 ts)(p:Rat×Rat)(o:P2 ts):Prop where
  dot:FP 77 [aL ts,aG (sh 0 (u.1:Rat)) (sh 0 (u.2:Rat)),aG (sX w.1) (sX w.2)] (.tup [nA (sX (qE u.1*w.1+qE u.2*w.2)),.v .nilIface])
  crs:FP 74 [aL ts,aG (sh 0 (u.1:Rat)) (sh 0 (u.2:Rat)),aG (sX w.1) (sX w.2)] (.tup [nA (sX (qE u.1*w.2-qE u.2*w.1)),.v .nilIface])
  d1:FP 271 [aL ts,nA (sX (qE u.1*w.1+qE u.2*w.2)),nA (sh 0 (bX u u:Rat))] (.tup [nA (sX (dA u w)),.v .nilIface])
  d2:FP 271 [aL ts,nA (sX (qE u.1*w.2-qE u.2*w.1)),nA (sh 0 (bX u u:Rat))] (.tup [nA (sX (dw u w)),.v .nilIface])
  tn:FP 178 [aL ts,nA (sX (dA u w)),nA (sX (dw u w)),aG (sh 0 (p.1:Rat)) (sh 0 (p.2:Rat))] (.tup [aG (sX (dA u w*qE p.1-dw u w*qE p.2)) (sX (dw u w*qE p.1+dA u w*qE p.2)),.v .nilIface])
  s1:FP 163 [aL ts,nA (sX o.1),nA (sX (dA u w*qE p.1-dw u w*qE p.2))] (.tup [nA (sX (qL u w p o)),.v .nilIface])
  s2:FP 163 [aL ts,nA (sX o.2),nA (sX (dw u w*qE p.1+dA u w*qE p.2))] (.tup [nA (sX (pu u w p o)),.v .nilIface])
  ok:Pq.ok ts.length 80000000000 (gX u w p o)
theorem Dx{r W A K F:Nat}{u p:Rat×Rat}{w o:P2 ts}(tw:Tw ts r)(h2:ts.length<=2)(hk:kB r ts.length<=K)(hu:Sm 3000 u)(hp:Sm 3000 p)(h0:bX u u≠0)
  (w1:Nm ts.length W (sX w.1)) (w2:Nm ts.length W (sX w.2)) (a1:Nm ts.length A (sX o.1)) (a2:Nm ts.length A (sX o.2)) (hW:3000<=W) (hF:4*W+10*K+A+100000<=F) (hF2:F<=80000000000):BdP ts u w p o:=by
 have hl:lm ts.length=200000000000:=by unfold lm;rw[if_pos h2]
 have h5:=tw.five;have hu1:=oo (ts:=ts) h5 hu.x;have hu2:=oo (ts:=ts) h5 hu.y;have hp1:=oo (ts:=ts) h5 hp.x;have hp2:=oo (ts:=ts) h5 hp.y;have hnn:=oo (ts:=ts) h5 (hu.dot hu);have hkE:eB r ts.length<=K:=hk;have ew:∀x:Et ts,ad ts.length (sX x)=x:=fun x=>aZ _ _
 have c1:=xh tw (hu1.mono (f:=W) oz) (hu2.mono oz) w1 w2 (by rw[hl];omega);have c2:=Ff tw (hu1.mono (f:=W) oz) (hu2.mono oz) w1 w2 (by rw[hl];omega);have n1:=vW tw hu1 hu2 w1 w2;have n2:=yM tw hu1 hu2 w1 w2;rw[o5,o5,ew,ew]at c1 c2 n1 n2
 have hs:T.sgn (aj ts) ts.length (ad ts.length (sh 0 (bX u u:Rat)))≠0:=by
  rw[ia,T.sgn_ofQ];intro h9;exact h0 (nG h9)
 have nb:Nl 0 (sh 0 (bX u u:Rat)):=eg 0 _;have d1:=AT tw n1 hnn (zero_le _) nb hs (by rw[hl];omega) (by simp only[iB];omega);have d2:=AT tw n2 hnn (zero_le _) nb hs (by rw[hl];omega) (by simp only[iB];omega);have m1:=yR tw n1 hnn (zero_le _) nb hs (by rw[hl];omega) (by simp only[iB];omega);have m2:=yR tw n2 hnn (zero_le _) nb hs (by rw[hl];omega) (by simp only[iB];omega);have e1:∀x:Et ts,ad ts.length (sh ts.length x)=x:=fun x=>aZ _ _
 have f1:ad ts.length (sh ts.length (oE ts (qE u.1:Et ts) (qE u.2:Et ts) w.1 w.2))=(qE u.1*w.1+qE u.2*w.2:Et ts):=aZ _ _;have f2:ad ts.length (sh ts.length (mU ts (qE u.1:Et ts) (qE u.2:Et ts) w.1 w.2))=(qE u.1*w.2-qE u.2*w.1:Et ts):=aZ _ _;rw[f1,o5]at d1 m1;rw[f2,o5]at d2 m2;have k1:Nm ts.length (2*W+3*K+30000) (sX (dA u w)):=Nm.mono m1 (by simp only[iB];omega);have k2:Nm ts.length (2*W+3*K+30000) (sX (dw u w)):=Nm.mono m2 (by simp only[iB];omega);have c3:=Gz tw k1 k2 (hp1.mono (f:=(2*W+3*K+30000)) oz) (hp2.mono oz) (by rw[hl];omega);have n3:=xc tw k1 k2 hp1 hp2;have n4:=uK tw k1 k2 hp1 hp2;rw[o5,o5,ew,ew]at c3 n3 n4;have s1:=oF tw a1 n3 (by rw[hl];omega);have s2:=oF tw a2 n4 (by rw[hl];omega);have m3:=a1.sub n3;have m4:=a2.sub n4;have f3:ad ts.length (sh ts.length (rP ts (dA u w) (dw u w) (qE p.1:Et ts) (qE p.2:Et ts)))=(dA u w*qE p.1-dw u w*qE p.2:Et ts):=aZ _ _;have f4:ad ts.length (sh ts.length (rz ts (dA u w) (dw u w) (qE p.1:Et ts) (qE p.2:Et ts)))=(dw u w*qE p.1+dA u w*qE p.2:Et ts):=aZ _ _;rw[ew,f3]at s1 m3;rw[ew,f4]at s2 m4;exact⟨c1,c2,d1,d2,c3,s1,s2,k1.mono oz,k2.mono oz,Nm.mono m3 oz,Nm.mono m4 oz⟩
theorem CL{r:Nat}{u p:Rat×Rat}{w o:P2 ts}(tw:Tw ts r)(h2:ts.length<=2)(hk:kB r ts.length<=1101400000)(hu:Sm 3000 u)(hp:Sm 3000 p)(h0:bX u u≠0)
  (w1:Nm ts.length 17000000000 (sX w.1)) (w2:Nm ts.length 17000000000 (sX w.2)) (a1:Nm ts.length 773000000 (sX o.1)) (a2:Nm ts.length 773000000 (sX o.2)):BdP ts u w p o :=
 Dx (F:=80000000000) tw h2 hk hu hp h0 w1 w2 a1 a2 oz oz oz
theorem uI{a b c:List Rat}(h:FP 163 [aL ts,nA a,nA b] (.tup [nA c,.v .nilIface])):Con prog 75 [.ptr 1000 0,nA a,nA b] [(1000,some (a5 ts))] (nA c) [(1000,some (a5 ts))]:=by
 refine gF func75 (fun k z h=>br h) ?_;refine gc h ?_;refine gt (ay (qG _ _) (aA rfl rfl rfl) az rfl rfl) ?_;refine gR ?_;exact aq.keep (a8 rfl)
theorem xB{u p:Rat×Rat}{w o:P2 ts}(hu:Sm 3000 u)(hp:Sm 3000 p)(B:BdP ts u w p o) :
  Con prog 143 [.ptr 1000 0,qP u,di w.l,qP p,di o.l] [(1000,some (a5 ts))] (gX u w p o).av [(1000,some (a5 ts))]:=by
 refine gF func143 (fun k z h=>br h) ?_;refine gc (ud (hu.x.qs oz) (hu.y.qs oz)) ?_;refine gc (xZ hu oz) ?_;refine gD ?_;refine gc B.dot ?_;refine gt (aR (qG _ _) (aA rfl rfl rfl) rfl rfl rfl) ?_;refine gt (aR (vZ B.d1) (aA rfl rfl rfl) rfl rfl rfl) ?_;refine gc B.crs ?_;refine gt (aR (qG _ _) (aA rfl rfl rfl) rfl rfl rfl) ?_;refine gt (aR (vZ B.d2) (aA rfl rfl rfl) rfl rfl rfl) ?_;refine gD ?_;refine gc (ud (hp.x.qs oz) (hp.y.qs oz)) ?_;refine gc B.tn ?_;refine gt (aR (uv _ _ _) (aA rfl rfl rfl) rfl rfl rfl) ?_;refine gD ?_;refine gt (aR (uI B.s1) (aA rfl rfl rfl) rfl rfl rfl) ?_;refine gt (aR (uI B.s2) (aA rfl rfl rfl) rfl rfl rfl) ?_;refine gD ?_;refine gR ?_;exact aq.keep (a8 rfl)
end
structure Sv where
  ts:LL
  ps:List Pq
  mode:Int
abbrev Sv.av(s:Sv):AV:=.agg [.lst 1 (s.ts.map nA),.lst 4 (s.ps.map Pq.av),i64 s.mode]
structure Hd where
  p:Rat×Rat
  a:List Rat×List Rat
  c:Rat×Rat
abbrev Hd.av(h:Hd):AV:=.agg [bl (rt h.p.1).neg,ws (rt h.p.1).num,ws (rt h.p.1).den,bl (rt h.p.2).neg,ws (rt h.p.2).num,ws (rt h.p.2).den,nA h.a.1,nA h.a.2,bl (rt h.c.1).neg,ws (rt h.c.1).num,ws (rt h.c.1).den,bl (rt h.c.2).neg,ws (rt h.c.2).num,ws (rt h.c.2).den]
def kp(ts:LL)(h:Hd)(x:List Rat×List Rat):P2 ts:=(dE ts x.1-dE ts h.a.1,dE ts x.2-dE ts h.a.2)
def lQ(ts:LL)(h:Hd):P2 ts:=(dE ts h.a.1,dE ts h.a.2)
def mQ(ts:LL)(x:List Rat×List Rat)(h:Hd):Pq:=gX (b8 h.c h.p) (kp ts h x) h.p (lQ ts h)
structure HdP(ts:LL)(x:List Rat×List Rat)(h:Hd):Prop where
  hp:Sm 1000 h.p
  hc:Sm 1000 h.c
  s1:FP 163 [aL ts,nA x.1,nA h.a.1] (.tup [nA (sX (kp ts h x).1),.v .nilIface])
  s2:FP 163 [aL ts,nA x.2,nA h.a.2] (.tup [nA (sX (kp ts h x).2),.v .nilIface])
  e1:sX (dE ts h.a.1)=h.a.1
  e2:sX (dE ts h.a.2)=h.a.2
  b:BdP ts (b8 h.c h.p) (kp ts h x) h.p (lQ ts h)
theorem HdP.body{ts:LL}{x:List Rat×List Rat}{h:Hd}(H:HdP ts x h) :
  Con prog 143 [.ptr 1000 0,qP (b8 h.c h.p),di (kp ts h x).l,qP h.p,aG h.a.1 h.a.2] [(1000,some (a5 ts))] (mQ ts x h).av [(1000,some (a5 ts))]:=by
 have hb:=xB (Sm.mono (H.hc.sub H.hp) oz) (Sm.mono H.hp oz) H.b
 have e:di (lQ ts h).l=aG h.a.1 h.a.2:=by
  show aG (sX (dE ts h.a.1)) (sX (dE ts h.a.2))=_;rw[H.e1,H.e2]
 rw[e]at hb;exact hb
def kz(m:Mt)(hs:List Hd)(i:Nat):Sv:=⟨m.ts,hs.map (mQ m.ts (m.ps.getD i ([],[]))),if m.ps.length=1 then 0 else 1-2*(i:Int)⟩
def iL(m:Mt)(hs:List Hd)(n:Nat):List AV:=(List.range n).map fun i=>(kz m hs i).av
theorem Ba(m:Mt)(hs:List Hd)(n:Nat):(iL m hs n).length=n:=by simp[iL]
theorem RE(m:Mt)(hs:List Hd)(n:Nat):iL m hs (n+1)=iL m hs n++[(kz m hs n).av]:=by unfold iL;rw[List.range_succ];simp
theorem FC{m:Mt}{r:Nat}(tw:Tw m.ts r)(hs:List Hd)(hl:hs.length<=2)(ml:m.ps.length<=2)(H:∀x∈m.ps,∀h∈hs,HdP m.ts x h) :
  FP 148 [m.av,.lst 14 (hs.map Hd.av)] (.tup [.lst 3 (iL m hs m.ps.length),.v .nilIface]):=by
 refine ah func148 ?_;refine gl ?_;refine gW (Wk.virt 900 3 rfl) ?_;refine aI [1,2,15,16] [2] (fun(i:Nat)=>[(6,some (.ms 900 3 0 i)),(17,some (i64 i))]) (fun i=>[(900,some (.row 3 (iL m hs i)))]) (fun i=>i<=m.ps.length) (fun i=>m.ps.length-i) 0 (zero_le _) ?_;rintro i hi K1 J1;refine gC (fun t18=>?_) (fun t18=>?_) (st2:=(17,0))
 ·have hin:=aQ t18;obtain⟨x,hx⟩:=au hin;have hx9:m.ps.getD i ([],[])=x:=aC hx;have hxm:=mem_of_getElem? hx;refine gi (ax hx) ?_;refine gc (BP tw) ?_;refine gl ?_;refine gc (EX i m.ps.length oz) ?_;refine gD ?_ (7,0);refine gW (Wk.o (sl:=[(1,some (.lst 14 (hs.map Hd.av))),(2,some (.ptr 2 0)),(6,some (.ms 900 3 0 i)),(8,some (.ptr 8 0)),(9,some (.ptr 25 0)),(10,some (.ptr 10 0)),(15,some (.lst 2 (m.ps.map di))),(16,some (i64 m.ps.length)),(17,some (i64 i))]) (hp:=[(2,some (.box [.lst 1 (m.ts.map nA),.lst 2 (m.ps.map di)])),(8,some (.box [nA x.1,nA x.2])),(10,some (.box [.lst 1 (m.ts.map nA),nS,i64 (if m.ps.length=1 then 0 else 1-2*(i:Int))])),(25,some (a5 m.ts)),(900,some (.row 3 (iL m hs i)))])) ?_
  refine gl ?_;refine gW (Wk.virt 901 4 rfl) ?_;refine aI [1,2,8,9,10,15,16,17,35,36] [2,8,25,900] (fun(k:Nat)=>[(6,some (.ms 900 3 0 i)),(37,some (i64 k))]) (fun k=>[(10,some (.box [.lst 1 (m.ts.map nA),.ms 901 4 0 k,i64 (if m.ps.length=1 then 0 else 1-2*(i:Int))])),(901,some (.row 4 (((hs.take k).map (mQ m.ts x)).map Pq.av)))]) (fun k=>k<=hs.length) (fun k=>hs.length-k) 0 (zero_le _) ?_ (h2:=(.cons rfl (BlkSub.bL (.cons (.refl _) (.cons (.nM _ _ _) (.cons (.refl _) .nil))) rfl) (.k .nil)))
  rintro k hk K2 J2;refine gC (fun t38=>?_) (fun t38=>?_) (st2:=(13,0))
  ·have hkn:=aQ t38;obtain ⟨h,hh⟩:=au hkn;have Hh:=H x hxm h (mem_of_getElem? hh);refine gi (ax hh) ?_;refine gt (aR (Con.rB 25 rfl rfl rfl rfl (uI Hh.s1)) (aA rfl rfl rfl) rfl rfl rfl) ?_;refine gt (aR (Con.rB 25 rfl rfl rfl rfl (uI Hh.s2)) (aA rfl rfl rfl) rfl rfl rfl) ?_;refine gD ?_;refine gc (oI Hh.hc Hh.hp oz oz) ?_;refine gt (aR (Con.rB 25 rfl rfl rfl rfl Hh.body) (.cons (.tmp rfl) (.cons (.tmp rfl) (aA rfl rfl rfl))) rfl rfl rfl) ?_;refine gs (cf (.tmp rfl) rfl (by rw [length_map,length_map,length_take]; omega) (.tmp rfl) T38 rfl T69 rfl rfl (by dsimp only; simp only [length_cons,length_nil]; omega) rfl rfl) ?_;refine gD ?_ (12,0);refine gW (Wk.of (sl:=[(1,some (.lst 14 (hs.map Hd.av))),(2,some (.ptr 2 0)),(6,some (.ms 900 3 0 i)),(8,some (.ptr 8 0)),(9,some (.ptr 25 0)),(10,some (.ptr 10 0)),(15,some (.lst 2 (m.ps.map di))),(16,some (i64 m.ps.length)),(17,some (i64 i)),(35,some (.lst 14 (hs.map Hd.av))),(36,some (i64 hs.length)),(37,some (i64 k))]) (hp:=[(2,some (.box [.lst 1 (m.ts.map nA),.lst 2 (m.ps.map di)])),(8,some (.box [nA x.1,nA x.2])),(25,some (a5 m.ts)),(10,some (.box [.lst 1 (m.ts.map nA),.ms 71 4 0 (k + 1),i64 (if m.ps.length = 1 then 0 else 1 - 2 * (i:Int))])),(900,some (.row 3 (iL m hs i))),(71,some (.row 4 (((hs.take (k + 1)).map (mQ m.ts x)).map Pq.av)))]) aV (.k (.k (.k (.k (.k (.cons rfl (BlkSub.of (by rw [dj hh,map_append,map_append]; rfl)) .nil))))))) ?_ (12,0)
   refine gW (Wk.rk (k:=71) (d:=901) rfl rfl) ?_;refine ga aF ?_;exact aE J2 (k+1) hkn
  have hkn:=a6 hk t38;subst hkn;refine gW ((Wk.freeze (k:=901) rfl).trans<|Wk.of (sl:=[(1,some (.lst 14 (hs.map Hd.av))),(2,some (.ptr 2 0)),(6,some (.ms 900 3 0 i)),(9,some (.ptr 25 0)),(10,some (.ptr 10 0)),(15,some (.lst 2 (m.ps.map di))),(16,some (i64 m.ps.length)),(17,some (i64 i))]) (hp:=[(2,some (.box [.lst 1 (m.ts.map nA),.lst 2 (m.ps.map di)])),(25,some (a5 m.ts)),(10,some (.box [.lst 1 (m.ts.map nA),.lst 4 ((hs.map (mQ m.ts x)).map Pq.av),i64 (if m.ps.length=1 then 0 else 1-2*(i:Int))])),(900,some (.row 3 (iL m hs i)))]) aV (.k (.k (.cons rfl (BlkSub.bL (.cons (.refl _) (.cons (Sub.of (by rw[bN (by rw[length_map,length_map,length_take];omega),take_length])) (.cons (.refl _) .nil))) rfl) (.k .nil))))) ?_
  refine gC (fun t78=>?_) (fun t78=>?_) (st1:=(14,0));cases t78;refine gs (cf (.tmp rfl) rfl (Ba _ _ _).symm (.tmp rfl) T54 rfl T62 rfl rfl (by dsimp only;simp only[length_cons,length_nil];omega) rfl rfl) ?_ (16,0);refine gW (Wk.of (sl:=[(1,some (.lst 14 (hs.map Hd.av))),(2,some (.ptr 2 0)),(6,some (.ms 86 3 0 (i+1))),(15,some (.lst 2 (m.ps.map di))),(16,some (i64 m.ps.length)),(17,some (i64 i))]) (hp:=[(2,some (.box [.lst 1 (m.ts.map nA),.lst 2 (m.ps.map di)])),(86,some (.row 3 (iL m hs (i+1))))]) aV (.k (.cons rfl (BlkSub.of (by rw[RE];unfold kz;rw[hx9])) .nil))) ?_ (16,0);refine gW (Wk.rk (k:=86) (d:=900) rfl rfl) ?_;refine ga aF ?_;exact aE J1 (i+1) hin
 have hin:=a6 hi t18;subst hin;refine gW ((Wk.freeze (k:=900) rfl).trans<|Wk.of (sl:=[(6,some (.lst 3 (iL m hs m.ps.length)))]) (hp:=[]) (.cons rfl (Sub.of (by rw[bN (Ba _ _ _).symm])) .nil) .nil) ?_;refine ba ?_;rfl
variable{P:Program}{N:Nat}{R:Array Oper}{s:AS}{pos:String}{after:Array Edge}
def v9(P:Program)(t:TypeId):Bool:=match P.underlying t with |some (.slice _)=>true |_=>false
theorem FY{t:TypeId}(h:v9 P t=true):∃e,P.underlying t=some (.slice e):=by
 unfold v9 at h;split at h
 ·exact⟨_,by assumption⟩
 ·cases h
theorem Dg(w:World)(t e:TypeId)(a:Option Addr)(l c:Nat)(h:P.underlying t=some (.slice e)):(binOp .eql t (.slice a l c) (.slice none 0 0)).run P w=.ok (.bool a.isNone) w:=by
 simp only[binOp];simp[run_equal_slice_nil w t e a l c h]
theorem HX{d:Nat}{x:Operand}{sz:Nat}{e:AV}{es:List AV}{S T t:TypeId}(hx:Ev s x (.lst sz (e::es)))(hS:v9 P S=true)(hN:Nat.blt d N=true) :
  Step P N R s ⟨some d,.binOp .eql S x (.const (.slice none 0 0)) T,t,pos,after,none⟩ ⟨some (.v (.bool false)),[],ak x,[]⟩ :=
 df rfl rfl hN fun s' hag C m ac w hr=>⟨.bool false,by
  have h:=(hx.agree hag (fun _ h=>h)).rep hr;obtain⟨el,hel⟩:=FY hS;generalize hu:ac.eval x=y at h
  have hy:∃b l cap,y=.slice (some b) l cap:=by
   cases h with
   |lst u hb hc hl hs h1 hu hrr=>exact⟨_,_,_,rfl⟩
  obtain⟨b,l,cap,rfl⟩:=hy;have e1:ac.eval (.const (.slice none 0 0))=.slice none 0 0:=rfl;simp[execOp,hu,e1,eqGuard,Dg w S el (some b) l cap hel],.v _⟩
theorem Iz{d:Nat}{x:Operand}{a:Option Addr}{l cap:Nat}{S T t:TypeId}(hx:Ev s x (.v (.slice a l cap)))(hS:v9 P S=true)(hN:Nat.blt d N=true) :
  Step P N R s ⟨some d,.binOp .eql S x (.const (.slice none 0 0)) T,t,pos,after,none⟩ ⟨some (.v (.bool a.isNone)),[],ak x,[]⟩ :=
 df rfl rfl hN fun s' hag C m ac w hr=>⟨.bool a.isNone,by
  have h:=(hx.agree hag (fun _ h=>h)).rep hr;obtain⟨el,hel⟩:=FY hS;generalize hu:ac.eval x=y at h;cases h;have e1:ac.eval (.const (.slice none 0 0))=.slice none 0 0:=rfl;simp[execOp,hu,e1,eqGuard,Dg w S el a l cap hel],.v _⟩
end Go.Lw
namespace Go.Lw
theorem Con.rekeyB1{P:Program}{f:FuncId}{k off:Nat}{x x':Blk}{y0:AV}{xs:List AV}{r:AV}(d:Nat)(hx:x.nm=[])(hx':x'.nm=[])(hy0:y0.nm=[])(hxs:(xs.all fun x=>x.nm.isEmpty)=true)(hr:r.nm=[])
  (h:Con P f (y0 :: .ptr k off::xs) [(k,some x)] r [(k,some x')]):Con P f (y0 :: .ptr d off::xs) [(d,some x)] r [(d,some x')]:=by
 refine⟨h.ok,?_⟩;intro ext m w vs hext hheap hvs hrep
 have h1 := h.ret ext (fun _ => m d) w vs hext (ux (k := d) hx rfl hheap) (by simpa using hvs) (by
  intro j v y hv hy;rw[jO (d:=k) (k:=d) (y:=x) (x:=x) (m2:=fun _=>m d) (m:=m) rfl]
  match j,hy with
  |0,hy =>
   cases hy;exact i9 hy0 (hrep 0 v _ hv rfl)
  |1,hy =>
   cases hy;have h2:=hrep 1 v _ hv rfl;cases h2 with
   |ptr hm=>exact .ptr hm
  |j+2,hy =>
   have h2:=hrep (j+2) v y hv hy;refine i9 ?_ h2;have:=List.all_eq_true.1 hxs y (mem_of_getElem? hy);simpa using this)
 refine Calls.mono h1 ?_;rintro e w' ⟨v,m',rfl,hf,hh,hn,hk,hrr⟩
 have ho:aW [(k,some x)] (fun _=>m d)=aW [(d,some x)] m:=by
  funext b;apply propext;rw[jZ,jZ]
 refine⟨v,fun _=>m' k,rfl,ho▸hf,ux (k:=k) hx' rfl hh,?_,?_,?_⟩
 ·intro k' x b hx hb;rw[<- ho];exact hn k _ b (by rw[aJ,if_pos rfl]) hb
 ·intro k' x y hx hy;obtain⟨rfl,_⟩:=fx hx;exact hk k _ _ (by rw[aJ,if_pos rfl]) (by rw[aJ,if_pos rfl])
 ·rw[jO (d:=d) (k:=k) (y:=x') (x:=x') (m2:=fun _=>m' k) (m:=m') rfl];exact i9 hr hrr
open Go.Proofs
theorem pM{p q:Rat×Rat}(hp:Sm 1000 p)(hq:Sm 1000 q):Qz 310000 (bT p q) 3:=sQ (Kx hp hq) oz
structure MtOk(ts:LL)(m:Mt):Prop where
  tw:∃r,Tw m.ts r/\kB r m.ts.length<=1101400000
  two:m.ts.length<=2
  ln:m.ps.length<=2
  ps:∀x∈m.ps,Nm m.ts.length 15500000000 x.1/\Nm m.ts.length 15500000000 x.2
  up:∀(e:Nat)(y:Et ts),Nm ts.length e (sX y)->Nm m.ts.length e (sX y)/\sX (dE m.ts (sX y))=sX y
theorem xX{ts:LL}(e:Nat)(y:Et ts)(h:Nm ts.length e (sX y)):Nm ts.length e (sX y)/\sX (dE ts (sX y))=sX y:=⟨h,congrArg (sh ts.length) (aZ _ _)⟩
theorem ul{ts:LL}{X:Et ts}(hn:ts.length<=1)(e:Nat)(y:Et ts)(h:Nm ts.length e (sX y)):Nm (aH ts (sX X)).length e (sX y)/\sX (dE (aH ts (sX X)) (sX y))=sX y:=by
 refine⟨lT h oz,?_⟩;show sh (aH ts (sX X)).length (ad (aH ts (sX X)).length (sX y))=sX y;rw[dO,fP h.nl.le];show(if T.isZ ts.length (T.zero ts.length)=true then sh ts.length (ad ts.length (sX y))else _)=_;rw[if_pos ((T.isZ_iff _ _).2 rfl)];exact congrArg (sh ts.length) (aZ _ _)
theorem qj{ts:LL}{ps:List (List Rat×List Rat)}(tw:Tw ts 64990)(hn:ts.length<=1)(hl:ps.length<=2)(hp:∀x∈ps,Nm ts.length 15500000000 x.1/\Nm ts.length 15500000000 x.2):MtOk ts ⟨ts,ps⟩ :=
 ⟨⟨64990,tw,by have:=BA hn;show kB 64990 ts.length<=_;omega⟩,by show ts.length<=2;omega,hl,hp,xX⟩
theorem Fq{ts:LL}{X:Et ts}{ps:List (List Rat×List Rat)}(E:ExtP X)(hn:ts.length<=1)(hl:ps.length<=2)(hp:∀x∈ps,Nm (aH ts (sX X)).length 15500000000 x.1/\Nm (aH ts (sX X)).length 15500000000 x.2):MtOk ts ⟨aH ts (sX X),ps⟩ :=
 ⟨⟨366909990,E.tw,by
  have h:=gV 366909990 (show ts.length+1<=2 by omega);have h2:eB 366909990 2=1100729976:=by decide
  show eB 366909990 (aH ts (sX X)).length<=_;rw[dO];omega⟩,by show(aH ts (sX X)).length<=2;rw[dO];omega,hl,hp,ul hn⟩
theorem qS{ts:LL}{m:Mt}(ok:MtOk ts m){x:List Rat×List Rat}(hx:x∈m.ps){p c:Rat×Rat}{o:P2 ts}(a1:Nm ts.length 773000000 (sX o.1))(a2:Nm ts.length 773000000 (sX o.2))(hp:Sm 1000 p)(hc:Sm 1000 c)
  (h0:bX (b8 c p) (b8 c p)≠0):HdP m.ts x ⟨p,o.l,c⟩:=by
 obtain⟨r,tw,hk⟩:=ok.tw;obtain⟨n1,n2⟩:=ok.ps x hx;obtain⟨b1,e1⟩:=ok.up _ _ a1;obtain⟨b2,e2⟩:=ok.up _ _ a2;have hl:lm m.ts.length=200000000000:=by unfold lm;rw[if_pos ok.two]
 refine⟨hp,hc,oF tw n1 b1 (by rw[hl];omega),oF tw n2 b2 (by rw[hl];omega),e1,e2,CL tw ok.two hk ((hc.sub hp).mono oz) (hp.mono oz) h0 ((n1.sub b1).mono oz) ((n2.sub b2).mono oz) ?_ ?_⟩
 ·show Nm m.ts.length 773000000 (sX (dE m.ts (sX o.1)));rw[e1];exact b1
 ·show Nm m.ts.length 773000000 (sX (dE m.ts (sX o.2)));rw[e2];exact b2
theorem kV{α:Type}{P:α->Prop}{x y:α}(hx:P x)(hy:P y):∀z∈[x,y],P z:=by
 intro z hz;rcases List.mem_cons.1 hz with rfl |hz
 ·exact hx
 ·rw[List.mem_singleton.1 hz];exact hy
theorem iz{α:Type}{P:α->Prop}{x:α}(hx:P x):∀z∈[x],P z:=by
 intro z hz;rw[List.mem_singleton.1 hz];exact hx
theorem GY{ts:LL}{x y z x2 y2 z2:Et ts}(tw:Tw ts 64990)(hn:ts.length<=1)(c:Ct ts 310000 65000)(h1:Zu 310000 65000 x 40 40)(h2:Zu 310000 65000 y 40 40)(h3:Zu 310000 65000 z 3 0)(h4:Zu 310000 65000 x2 40 40)(h5:Zu 310000 65000 y2 40 40)(h6:Zu 310000 65000 z2 3 0)
  (h0:fR (x,y) (x2,y2) z z2=0):MtOk ts (eV (x,y) (x2,y2) z z2):=by
 have P:=FU c h1 h2 h3 h4 h5 h6;have ce:=c.ex;have ck:=c.k1;have cu:=c.u3;haveI cy:Cy ts 310000 65000:=⟨ce,ck,cu,by omega⟩
 unfold fR at h0;unfold eV
 by_cases hd:am (aD (x,y) (x2,y2))=0
 ·rw[if_pos hd]at h0 ⊢;unfold lZ at h0;unfold lU
  by_cases hz:am (z-z2)≠0
  ·rw[if_pos hz];exact qj tw hn (by simp) (by simp)
  ·rw[if_neg hz]
   by_cases hp:0<am z
   ·rw[if_pos ⟨Decidable.not_not.1 hz,hp⟩]at h0;cases h0
   ·rw[if_neg hp];haveI:=h1;haveI:=h2
    refine qj tw hn (by simp) (iz ⟨?_,?_⟩)
    ·exact(inferInstance:Zu 310000 65000 (x+0*x) _ _).nm.mono (by decide)
    ·exact(inferInstance:Zu 310000 65000 (y+0*y) _ _).nm.mono (by decide)
 ·rw [if_neg hd];have ht0:am (er (aD (x,y) (x2,y2))) ≠ 0:=by rw [wY tw]; exact hd
  by_cases hx0:am (bB (x,y) z (x2,y2) z2)<0
  ·rw[if_pos hx0];exact qj tw hn (by simp) (by simp)
  ·rw[if_neg hx0];obtain⟨_,_,f1,f2⟩:=C6 hn h1 h2 h3 h6 P ht0
   by_cases hx1:am (bB (x,y) z (x2,y2) z2)=0
   ·rw[if_pos hx1];exact qj tw hn (by simp) (iz ⟨f1.nm.mono (by decide),f2.nm.mono (by decide)⟩)
   ·rw[if_neg hx1];have E:ExtP (bB (x,y) z (x2,y2) z2):=ru tw hn P.zX oz;have S:=C2 (X:=bB (x,y) z (x2,y2) z2) (d:=aD (x,y) (x2,y2)) (f:=eU (x,y) (x2,y2) z z2) (v:=fT (x,y) (x2,y2)) hn E P.zt ht0 f1 f2 P.z1 P.z2;exact Fq E hn (by simp) (kV ⟨S.n1.1.nm.mono (by decide),S.n1.2.nm.mono (by decide)⟩ ⟨S.n2.1.nm.mono (by decide),S.n2.2.nm.mono (by decide)⟩)
theorem FQ{ts:LL}{o p q:P2 ts}{z:Et ts}(tw:Tw ts 64990)(hn:ts.length<=1)(c:Ct ts 310000 65000)(o1:Zu 310000 65000 o.1 40 40)(o2:Zu 310000 65000 o.2 40 40)(p1:Zu 310000 65000 p.1 40 40)(p2:Zu 310000 65000 p.2 40 40)(q1:Zu 310000 65000 q.1 40 40)(q2:Zu 310000 65000 q.2 40 40)
  (i3:Zu 310000 65000 z 3 0) (h0:fV p q=0):MtOk ts (fg p q o z):=by
 have ce:=c.ex;have ck:=c.k1;have cu:=c.u3;haveI cy:Cy ts 310000 65000:=⟨ce,ck,cu,by omega⟩
 have P:=Ij cy p1 p2 q1 q2 o1 o2 i3;unfold fV at h0;unfold fg
 by_cases hs:am (bt p q)=0
 ·rw[if_pos hs]at h0;cases h0
 ·rw[if_neg hs]
  by_cases h1:am (aU p q o z)=-1
  ·rw[if_pos h1];exact qj tw hn (by simp) (by simp)
  ·rw[if_neg h1]
   by_cases h2:am (aU p q o z)=0
   ·rw[if_pos h2];have Q:=I7 cy hn p1 p2 P hs;exact qj tw hn (by simp) (iz ⟨Q.n1.nm.mono (by decide),Q.n2.nm.mono (by decide)⟩)
   ·rw[if_neg h2]
    have hpos:0<=am (aU p q o z):=by
     have:=T.sgn_cases (aj ts) ts.length (aU p q o z);have e:am (aU p q o z)=T.sgn (aj ts) ts.length (aU p q o z):=rfl;omega
    have E:ExtP (aU p q o z):=ru tw hn (Bt P.zX oz oz) hpos;haveI ce:=E.cy;haveI zr:Zl (aH ts (sX (aU p q o z))) 773000000 1101400000 (cc ts.length) (dE _ (cc ts.length)) 1 0:=Zl.at (sr oz) (by decide);haveI ze':=kc (X:=aU p q o z) hn P.ze (by decide);haveI:=zr.zu;haveI:=ze'.zu
    have S1:=wF (p:=p) (v:=bu q p) hn E P.zs hs p1 p2 P.v1 P.v2 (k:=aK (aU p q o z) (bU p q o)+bA (aU p q o z)) inferInstance;have S2:=wF (p:=p) (v:=bu q p) hn E P.zs hs p1 p2 P.v1 P.v2 (k:=aK (aU p q o z) (bU p q o)-bA (aU p q o z)) inferInstance;exact Fq E hn (by simp) (kV ⟨S1.n1.nm.mono (by decide),S1.n2.nm.mono (by decide)⟩ ⟨S2.n1.nm.mono (by decide),S2.n2.nm.mono (by decide)⟩)
abbrev pV(r:List AV×Nat):AV:=.tup [.lst 3 r.1,bj r.2]
def nD(l:Li)(a:As)(i k:Int)(j0 j1 j2:Jt):List AV×Nat :=
  if gj [b8 (ai l j2 i) (ai l j0 i),b8 (ai l j2 k) (ai l j1 k)]=true then([],15)
  else if fR (aO l a j0 i) (aO l a j1 k) (qE (bT (ai l j2 i) (ai l j0 i))) (qE (bT (ai l j2 k) (ai l j1 k)))≠0 then([],fR (aO l a j0 i) (aO l a j1 k) (qE (bT (ai l j2 i) (ai l j0 i))) (qE (bT (ai l j2 k) (ai l j1 k))))
  else(iL (eV (aO l a j0 i) (aO l a j1 k) (qE (bT (ai l j2 i) (ai l j0 i))) (qE (bT (ai l j2 k) (ai l j1 k)))) [⟨ai l j0 i,P2.l (aO l a j0 i),ai l j2 i⟩,⟨ai l j1 k,P2.l (aO l a j1 k),ai l j2 k⟩]
    (eV (aO l a j0 i) (aO l a j1 k) (qE (bT (ai l j2 i) (ai l j0 i))) (qE (bT (ai l j2 k) (ai l j1 k)))).ps.length,0)
theorem OY{l:Li}{a:As}(D:DyR l a)(hn:(llq a.rs).length<=1){i k z0 z1 z2:Int}{j0 j1 j2:Jt}(hg:GrOk l ⟨1,[i,k],[z0,z1,z2],0⟩)(P:RrrP 3900000 l a ⟨1,[i,k],[z0,z1,z2],0⟩ i k z0 z1 z2 j0 j1 j2) :
  Con prog 63 [.ptr 1000 0] [(1000,some (cB l ⟨1,[i,k],[z0,z1,z2],0⟩ a))] (pV (nD l a i k j0 j1 j2)) [(1000,some (cB l ⟨1,[i,k],[z0,z1,z2],0⟩ a))]:=by
 haveI c:=D.s.ct D.hc;obtain⟨tw,etw⟩:=dh D.s.tr D.hc;have hq0:=iC D.hl D.li P.h0 P.p0.or;have hq1:=iC D.hl D.li P.h1 P.p1.or;have hq2:=iC D.hl D.li P.h2 P.t1;have hq3:=iC D.hl D.li P.h2 P.t2;obtain⟨y1,y2⟩:=mh D.hl D.li D.al D.s D.hc P.h0 P.p0;obtain⟨y3,y4⟩:=mh D.hl D.li D.al D.s D.hc P.h1 P.p1;haveI:=y1;haveI:=y2;haveI:=y3;haveI:=y4
 haveI q1:=pM hq2 hq0;haveI q2:=pM hq3 hq1;haveI z1:Zu 310000 65000 (qE (bT (ai l j2 i) (ai l j0 i)):Et (llq a.rs)) 3 0:=inferInstance;haveI z2:Zu 310000 65000 (qE (bT (ai l j2 k) (ai l j1 k)):Et (llq a.rs)) 3 0:=inferInstance;have hr:=JK (a:=sX (aO l a j0 i).1) (b:=sX (aO l a j0 i).2) (c:=sh 0 (bT (ai l j2 i) (ai l j0 i):Rat)) (a2:=sX (aO l a j1 k).1) (b2:=sX (aO l a j1 k).2) (c2:=sh 0 (bT (ai l j2 k) (ai l j1 k):Rat)) D.s.tr D.hc hn rfl rfl (AK _ _) (AK _ _);have hzz:=B3 [b8 (ai l j2 i) (ai l j0 i),b8 (ai l j2 k) (ai l j1 k)] (by show 2<=_;omega) (kV ((hq2.sub hq0).mono oz) ((hq3.sub hq1).mono oz));refine gF func63 (fun k z h=>br h) ?_;refine gt (aR (Lu D.hl D.li D.al D.hc D.two hg P.h0 P.h1 P.h2 P.p0 P.p1 P.t1 P.t2) (cR rfl) rfl rfl rfl) ?_;refine gC (fun t13=>?_) (fun t13=>?_) (st1:=(3,0));cases t13;refine gc (oI hq2 hq0 oz oz) ?_;refine gc (oI hq3 hq1 oz oz) ?_;refine gc hzz ?_;refine gD ?_;refine gC (fun t23=>?_) (fun t23=>?_)
 ·have h1:gj [b8 (ai l j2 i) (ai l j0 i),b8 (ai l j2 k) (ai l j1 k)]=true:=t23;refine gR ?_;exact(aq.keep (a8 rfl)).sub (by unfold nD;rw[if_pos h1];exact Sub.tup (.cons (.nil _ _ _) (.cons (.refl _) .nil)))
 have h1:gj [b8 (ai l j2 i) (ai l j0 i),b8 (ai l j2 k) (ai l j1 k)]=false:=t23;obtain⟨w1,w2⟩:=we h1;refine gc (xQ hq0 hq2 _) ?_;refine gc (xQ hq1 hq3 _) ?_;refine gc hr ?_;refine gD ?_;refine gC (fun t51=>?_) (fun t51=>?_)
 ·have h2:=cU t51;refine gR ?_;exact(aq.keep (a8 rfl)).sub (by unfold nD;rw[if_neg (by rw[h1];decide),if_pos h2];exact Sub.tup (.cons (.nil _ _ _) (.cons (.refl _) .nil)))
 have h2:=cP t51;have ok:=GY (x:=(aO l a j0 i).1) (y:=(aO l a j0 i).2) (x2:=(aO l a j1 k).1) (y2:=(aO l a j1 k).2) tw hn c y1 y2 z1 y3 y4 z2 h2;obtain⟨r9,tw9,_⟩:=ok.tw
 have hpl:=FC tw9 [⟨ai l j0 i,P2.l (aO l a j0 i),ai l j2 i⟩,⟨ai l j1 k,P2.l (aO l a j1 k),ai l j2 k⟩] (le_refl 2) ok.ln
  (fun x hx=>kV (qS ok hx (y1.nm.mono (by decide)) (y2.nm.mono (by decide)) hq0 hq2 w1) (qS ok hx (y3.nm.mono (by decide)) (y4.nm.mono (by decide)) hq1 hq3 w2))
 refine gc hpl ?_;refine gR ?_;exact(aq.keep (a8 rfl)).sub (Sub.of (by unfold nD;rw[if_neg (by rw[h1];decide),if_neg (fun h=>h h2)];rfl))
def mx(l:Li)(a:As)(i:Int)(j0 j:Jt):List AV×Nat :=
  if gj [b8 (aY l i j.point) (ai l j0 i)]=true then([],15)
  else if fV (bG l a j.b j.on) (bG l a j.b j.to)≠0 then([],fV (bG l a j.b j.on) (bG l a j.b j.to))
  else(iL (fg (bG l a j.b j.on) (bG l a j.b j.to) (aO l a j0 i) (qE (bT (aY l i j.point) (ai l j0 i)))) [⟨ai l j0 i,P2.l (aO l a j0 i),aY l i j.point⟩]
    (fg (bG l a j.b j.on) (bG l a j.b j.to) (aO l a j0 i) (qE (bT (aY l i j.point) (ai l j0 i)))).ps.length,0)
theorem Vq{l:Li}{a:As}(D:DyR l a)(hn:(llq a.rs).length<=1){i z0 z1:Int}{j0 j:Jt}(hg:GrOk l ⟨2,[i],[z0,z1],0⟩)(P:SlP 3900000 l a ⟨2,[i],[z0,z1],0⟩ 2 i z0 z1 j0 j)(ha:j.a=i)(hb:Pd 3900000 a j.b) :
  Con prog 64 [.ptr 1000 0] [(1000,some (cB l ⟨2,[i],[z0,z1],0⟩ a))] (pV (mx l a i j0 j)) [(1000,some (cB l ⟨2,[i],[z0,z1],0⟩ a))]:=by
 haveI c:=D.s.ct D.hc;obtain⟨tw,etw⟩:=dh D.s.tr D.hc;obtain⟨i1,i2,i3,i4,i5⟩:=d7 D.li P.h1;have hq2:Sm 1000 (aY l i j.point):=by rw[<- ha];exact kR D.hl D.li i1 i3
 have hq0:=iC D.hl D.li P.h0 P.p0.or;obtain⟨y1,y2⟩:=mh D.hl D.li D.al D.s D.hc P.h0 P.p0;obtain⟨y3,y4⟩:=nv D.hl D.li D.al D.s D.hc i2 i4 hb;obtain⟨y5,y6⟩:=nv D.hl D.li D.al D.s D.hc i2 (i5 P.hk) hb;haveI q1:=pM hq2 hq0;haveI z1:Zu 310000 65000 (qE (bT (aY l i j.point) (ai l j0 i)):Et (llq a.rs)) 3 0:=inferInstance;have hr:=Sk (o:=aO l a j0 i) (p:=bG l a j.b j.on) (q:=bG l a j.b j.to) (c:=sh 0 (bT (aY l i j.point) (ai l j0 i):Rat)) D.s.tr D.hc hn c y1 y2 y3 y4 y5 y6 (AK _ _);have hzz:=B3 [b8 (aY l i j.point) (ai l j0 i)] (by show 1<=_;omega) (iz ((hq2.sub hq0).mono oz));refine gF func64 (fun k z h=>br h) ?_;refine gt (aR (KH D.hl D.li D.al D.hc D.two hg P.h0 P.h1 P.p0 ha P.hk hb) (cR rfl) rfl rfl rfl) ?_;refine gC (fun t15=>?_) (fun t15=>?_) (st1:=(3,0));cases t15;refine gc (oI hq2 hq0 oz oz) ?_;refine gc hzz ?_;refine gC (fun t25=>?_) (fun t25=>?_)
 ·have h1:gj [b8 (aY l i j.point) (ai l j0 i)]=true:=t25;refine gR ?_;exact(aq.keep (a8 rfl)).sub (by unfold mx;rw[if_pos h1];exact Sub.tup (.cons (.nil _ _ _) (.cons (.refl _) .nil)))
 have h1:gj [b8 (aY l i j.point) (ai l j0 i)]=false:=t25;have w1:=xj h1;refine gc (xQ hq0 hq2 _) ?_;refine gc hr ?_;refine gD ?_;refine gC (fun t48=>?_) (fun t48=>?_)
 ·have h2:=cU t48;refine gR ?_;exact(aq.keep (a8 rfl)).sub (by unfold mx;rw[if_neg (by rw[h1];decide),if_pos h2];exact Sub.tup (.cons (.nil _ _ _) (.cons (.refl _) .nil)))
 have h2:=cP t48;have ok:=FQ (o:=aO l a j0 i) (p:=bG l a j.b j.on) (q:=bG l a j.b j.to) (z:=qE (bT (aY l i j.point) (ai l j0 i))) tw hn c y1 y2 y3 y4 y5 y6 z1 h2;obtain⟨r9,tw9,_⟩:=ok.tw;have hpl:=FC tw9 [⟨ai l j0 i,P2.l (aO l a j0 i),aY l i j.point⟩] (show 1<=2 by omega) ok.ln (fun x hx=>iz (qS ok hx (y1.nm.mono (by decide)) (y2.nm.mono (by decide)) hq0 hq2 w1));refine gc hpl ?_;refine gR ?_;exact(aq.keep (a8 rfl)).sub (Sub.of (by unfold mx;rw[if_neg (by rw[h1];decide),if_neg (fun h=>h h2)];rfl))
theorem BW{ts:LL}{r e:Nat}(tw:Tw ts r){a b c:List Rat}(ha:Nm ts.length e a)(hb:Nm ts.length e b)(hc:Nm ts.length e c)(he:2*(e+e+kB r ts.length)<=lm ts.length) :
  FP 152 [aL ts,nA a,aG b c] (.tup [aG (sh ts.length (T.mul (aj ts) ts.length (ad ts.length a) (ad ts.length b))) (sh ts.length (T.mul (aj ts) ts.length (ad ts.length a) (ad ts.length c))),.v .nilIface]):=by
 refine ah func152 ?_;refine gc (vF (e:=e) tw [a,b,c] (by simp only[mem_cons,not_mem_nil,or_false];rintro x (rfl |rfl |rfl) <;> assumption) oz (by simp)) ?_;refine gC (fun t19=>?_) (fun t19=>?_) (st1:=(3,0));cases t19;refine gt (ay (Con.rB 24 rfl rfl rfl rfl (kS tw ha hb oz)) (aA rfl rfl rfl) az rfl rfl) ?_;refine gt (ay (Con.rB 24 rfl rfl rfl rfl (kS tw ha hc oz)) (aA rfl rfl rfl) az rfl rfl) ?_;refine gt (ay (Con.rB 24 rfl rfl rfl rfl (vA _ _ _)) (bm rfl rfl) az rfl rfl) ?_;refine gD ?_;refine ba ?_;rfl
section
variable{ts:LL}
def tX(q w1 w2 h:Et ts):Et ts:=q*w1-h*-w2
def rG(q w1 w2 h:Et ts):Et ts:=q*w2-h*w1
def oA(ts:LL)(q h d:List Rat)(w:List Rat×List Rat):P2 ts:=(tX (dE ts q) (dE ts w.1) (dE ts w.2) (dE ts h)*iE (dE ts d),rG (dE ts q) (dE ts w.1) (dE ts w.2) (dE ts h)*iE (dE ts d))
structure Rp where
  v:Rat×Rat
  p:Rat×Rat
  a:List Rat×List Rat
  h:List Rat
  d:List Rat
  w:List Rat×List Rat
def qQ(ts:LL)(R:Rp)(q:List Rat):Pq:=gX R.v (oA ts q R.h R.d R.w) R.p (dE ts R.a.1,dE ts R.a.2)
structure RqP(ts:LL)(R:Rp)(q:List Rat):Prop where
  sm:Sm 3000 R.v
  sp:Sm 3000 R.p
  c1:FP 152 [aL ts,nA q,aG R.w.1 R.w.2] (.tup [aG (sX (dE ts q*dE ts R.w.1)) (sX (dE ts q*dE ts R.w.2)),.v .nilIface])
  ng:FP 138 [aL ts,nA R.w.2] (.tup [nA (sX (-dE ts R.w.2)),.v .nilIface])
  c2:FP 152 [aL ts,nA R.h,aG (sX (-dE ts R.w.2)) R.w.1] (.tup [aG (sX (dE ts R.h*-dE ts R.w.2)) (sX (dE ts R.h*dE ts R.w.1)),.v .nilIface])
  sb:FP 73 [aL ts,aG (sX (dE ts q*dE ts R.w.1)) (sX (dE ts q*dE ts R.w.2)),aG (sX (dE ts R.h*-dE ts R.w.2)) (sX (dE ts R.h*dE ts R.w.1))] (.tup [aG (sX (tX (dE ts q) (dE ts R.w.1) (dE ts R.w.2) (dE ts R.h))) (sX (rG (dE ts q) (dE ts R.w.1) (dE ts R.w.2) (dE ts R.h))),.v .nilIface])
  d1:FP 271 [aL ts,nA (sX (tX (dE ts q) (dE ts R.w.1) (dE ts R.w.2) (dE ts R.h))),nA R.d] (.tup [nA (sX (oA ts q R.h R.d R.w).1),.v .nilIface])
  d2:FP 271 [aL ts,nA (sX (rG (dE ts q) (dE ts R.w.1) (dE ts R.w.2) (dE ts R.h))),nA R.d] (.tup [nA (sX (oA ts q R.h R.d R.w).2),.v .nilIface])
  e1:sX (dE ts R.a.1)=R.a.1
  e2:sX (dE ts R.a.2)=R.a.2
  b:BdP ts R.v (oA ts q R.h R.d R.w) R.p (dE ts R.a.1,dE ts R.a.2)
theorem RqP.body{R:Rp}{q:List Rat}(H:RqP ts R q) :
  Con prog 143 [.ptr 1000 0,qP R.v,di (oA ts q R.h R.d R.w).l,qP R.p,aG R.a.1 R.a.2] [(1000,some (a5 ts))] (qQ ts R q).av [(1000,some (a5 ts))]:=by
 have hb:=xB H.sm H.sp H.b
 have e:di (P2.l ((dE ts R.a.1,dE ts R.a.2):P2 ts))=aG R.a.1 R.a.2:=by
  show aG (sX (dE ts R.a.1)) (sX (dE ts R.a.2))=_;rw[H.e1,H.e2]
 rw[e]at hb;exact hb
theorem F6{R:Rp}{q:List Rat}{j:Nat}(cy:Cy ts 773000000 1101400000)(sm:Sm 3000 R.v)(sp:Sm 3000 R.p)(h0:bX R.v R.v≠0)(nq:Nm ts.length 773000000 q)(nh:Nm ts.length 773000000 R.h)(nd:Nm ts.length 773000000 R.d)
  (n1:Nm ts.length 773000000 R.w.1) (n2:Nm ts.length 773000000 R.w.2) (a1:Nm ts.length 773000000 R.a.1) (a2:Nm ts.length 773000000 R.a.2) (e1:sX (dE ts R.a.1)=R.a.1) (e2:sX (dE ts R.a.2)=R.a.2)
  (nj:Nl j R.d) (hj:j<=ts.length) (hj1:j<=1) (hd:am (dE ts R.d)≠0):RqP ts R q:=by
 obtain⟨r,tw,hk⟩:=cy.ex;have hl:=cy.lm;haveI:=cy;haveI zq:Zl ts 773000000 1101400000 q (dE ts q) 1 0:=Zl.at nq (le_refl _);haveI zh:Zl ts 773000000 1101400000 R.h (dE ts R.h) 1 0:=Zl.at nh (le_refl _);haveI zd:Zl ts 773000000 1101400000 R.d (dE ts R.d) 1 0:=Zl.at nd (le_refl _);haveI z1:Zl ts 773000000 1101400000 R.w.1 (dE ts R.w.1) 1 0:=Zl.at n1 (le_refl _);haveI z2:Zl ts 773000000 1101400000 R.w.2 (dE ts R.w.2) 1 0:=Zl.at n2 (le_refl _);haveI:=zq.zu;haveI:=zh.zu;haveI:=z1.zu;haveI:=z2.zu
 haveI zn:Zu 773000000 1101400000 (-dE ts R.w.2) 1 0:=inferInstance;haveI y1:Zu 773000000 1101400000 (dE ts q*dE ts R.w.1) 2 1:=inferInstance;haveI y2:Zu 773000000 1101400000 (dE ts q*dE ts R.w.2) 2 1:=inferInstance;haveI y3:Zu 773000000 1101400000 (dE ts R.h*-dE ts R.w.2) 2 1:=inferInstance;haveI y4:Zu 773000000 1101400000 (dE ts R.h*dE ts R.w.1) 2 1:=inferInstance;haveI x1:Zu 773000000 1101400000 (tX (dE ts q) (dE ts R.w.1) (dE ts R.w.2) (dE ts R.h)) 4 3:=(inferInstance:Zu 773000000 1101400000 (dE ts q*dE ts R.w.1-dE ts R.h*-dE ts R.w.2) 4 3)
 haveI x2:Zu 773000000 1101400000 (rG (dE ts q) (dE ts R.w.1) (dE ts R.w.2) (dE ts R.h)) 4 3:=(inferInstance:Zu 773000000 1101400000 (dE ts q*dE ts R.w.2-dE ts R.h*dE ts R.w.1) 4 3)
 have ew:∀x:Et ts,ad ts.length (sX x)=x:=fun x=>aZ _ _
 have hkB:kB r ts.length<=1101400000:=hk;have c1:=BW tw nq n1 n2 (by rw[hl];omega);have ng:=Dt (ts:=ts) (u:=773000000) (k:=1101400000) (a:=R.w.2) (by decide);have nn:Nm ts.length 773000000 (sX (-dE ts R.w.2)):=zn.nm.mono (by decide);have c2:=BW tw nh nn n1 (by rw[hl];omega);rw[ew]at c2;have sb:=HJ (a:=sX (dE ts q*dE ts R.w.1)) (b:=sX (dE ts q*dE ts R.w.2)) (c:=sX (dE ts R.h*-dE ts R.w.2)) (d:=sX (dE ts R.h*dE ts R.w.1)) tw y1.nm y2.nm y3.nm y4.nm (by rw[hl];decide);rw[ew,ew,ew,ew]at sb;have d1:=ph (ts:=ts) (u:=773000000) (k:=1101400000) (a:=sX (tX (dE ts q) (dE ts R.w.1) (dE ts R.w.2) (dE ts R.h))) (b:=R.d) nj hj hj1 hd (by decide);have d2:=ph (ts:=ts) (u:=773000000) (k:=1101400000) (a:=sX (rG (dE ts q) (dE ts R.w.1) (dE ts R.w.2) (dE ts R.h))) (b:=R.d) nj hj hj1 hd (by decide);exact⟨sm,sp,c1,ng,c2,sb,d1.1,d2.1,e1,e2,CL tw cy.two hkB sm sp h0 (d1.2.nm.mono (by decide)) (d2.2.nm.mono (by decide)) (by show Nm ts.length 773000000 (sX (dE ts R.a.1));rw[e1];exact a1) (by show Nm ts.length 773000000 (sX (dE ts R.a.2));rw[e2];exact a2)⟩
end
def jN(ts:LL)(R:Rp)(qs:LL)(i:Nat):Sv:=⟨ts,[qQ ts R (qs.getD i [])],if qs.length=1 then 0 else 1-2*(i:Int)⟩
def kI(ts:LL)(R:Rp)(qs:LL)(n:Nat):List AV:=(List.range n).map fun i=>(jN ts R qs i).av
theorem xY(ts:LL)(R:Rp)(qs:LL)(n:Nat):(kI ts R qs n).length=n:=by simp[kI]
theorem Me(ts:LL)(R:Rp)(qs:LL)(n:Nat):kI ts R qs (n+1)=kI ts R qs n++[(jN ts R qs n).av]:=by unfold kI;rw[List.range_succ];simp
def ef(l:Li)(a:As)(i:Int)(j0 j:Jt):Rp:=⟨dt l i j,ai l j0 i,P2.l (aO l a j0 i),sh 0 (cW l i j0 j:Rat),sX (cQ l a i j0 j),P2.l (dz l a i j0 j)⟩
def bc(l:Li)(a:As)(i:Int)(j0 j:Jt):Et (llq a.rs):=qE (j6 l i j)*cQ l a i j0 j-qE (cW l i j0 j)*qE (cW l i j0 j)
def kM(l:Li)(a:As)(i:Int)(j0 j:Jt):List AV×Nat :=
  if am (cQ l a i j0 j)=0/\am (qE (cW l i j0 j):Et (llq a.rs))=0 then([],15)
  else if am (bc l a i j0 j)<0 then([],0)
  else if 0<am (bc l a i j0 j)then(kI (aH (llq a.rs) (sX (bc l a i j0 j))) (ef l a i j0 j) [cc (llq a.rs).length,sX (-bA (bc l a i j0 j))] 2,0)
  else(kI (llq a.rs) (ef l a i j0 j) [[]] 1,0)
theorem vQ{ts:LL}{r:Nat}(tw:Tw ts r){n d h:Et ts}(hs:¬am (n*d-h*h)<0)(h1:¬(am d=0/\am h=0)):am d≠0:=by
 intro h0;have S:=gG (aj ts) ts.length tw.pos
 have e1:sg (aj ts) ts.length (n*d)=0:=by
  rw[S.mul];have:sg (aj ts) ts.length d=0:=h0;rw[this];exact Int.mul_zero _
 have e2:=S.zadd (y:=-(h*h)) e1;rw[show n*d+-(h*h)=n*d-h*h by grind,S.neg,S.mul]at e2;have e3:am (n*d-h*h)=sg (aj ts) ts.length (n*d-h*h):=rfl;have e4:am h=sg (aj ts) ts.length h:=rfl;have h2:sg (aj ts) ts.length h≠0:=fun h9=>h1 ⟨h0,by rw[e4];exact h9⟩
 rw[e3,e2]at hs;rcases S.cs h with g |g |g
 ·rw[g]at hs;exact hs (by decide)
 ·exact h2 g
 ·rw[g]at hs;exact hs (by decide)
theorem JR{p q:Rat}(h:p*p+q*q=0):p=0/\q=0:=by
 have h1:=oa p;have h2:=oa q;have h3:p*p=0:=by grind
 have h4:q*q=0:=by grind
 exact⟨by rcases Rat.mul_eq_zero.1 h3 with g |g <;> exact g,by rcases Rat.mul_eq_zero.1 h4 with g |g <;> exact g⟩
theorem AY{l:Li}(hli:aB l=0){n:Nat}{j:Jt}(hj:l.jo[n]?=some j)(hk:j.kind≠0){i:Int}(hi:j.b=i):bX (dt l i j) (dt l i j)≠0:=by
 intro h0;obtain⟨h1,h2⟩:=JR h0;have h3:=Ea hli hj;subst hi;have e1:(aY l j.b j.to).1-(aY l j.b j.on).1=0:=h1;have e2:(aY l j.b j.to).2-(aY l j.b j.on).2=0:=h2;have e3:((cI l j.b).getD j.on.toNat default).x.q=((cI l j.b).getD j.to.toNat default).x.q:=by unfold aY at e1;dsimp only at e1;grind
 have e4:((cI l j.b).getD j.on.toNat default).y.q=((cI l j.b).getD j.to.toNat default).y.q:=by unfold aY at e2;dsimp only at e2;grind
 unfold ep at h3;split at h3
 ·cases h3
 ·split at h3
  ·cases h3
  ·split at h3
   ·cases h3
   ·split at h3
    ·cases h3
    ·split at h3
     ·cases h3
     ·first |(rw[if_pos ⟨e3,e4⟩]at h3;cases h3) |(split at h3 <;> first |(cases h3;done) |(rename_i g;exact absurd ⟨e3,e4⟩ g))
theorem Ro:Sub (.lst 1 [nS]) (.lst 1 [nA []]):=by
 refine Sub.lst rfl (fun i x y hx hy=>?_)
 match i,hx,hy with
 |0,hx,hy =>
  cases hx;cases hy
  refine⟨rfl,fun j x y hx hy=>?_⟩
  match j,hx,hy with
  |0,hx,hy=>cases hx;cases hy;exact⟨rfl,.nil _ _ _⟩
theorem Tu{x y:Int}(h:cond (aa .eql x 0) (aa .eql y 0) false=true):x=0/\y=0:=by
 cases h1:aa .eql x 0
 ·rw[h1]at h;cases h
 ·rw[h1]at h;exact⟨da h1,da h⟩
theorem NT{x y:Int}(h:cond (aa .eql x 0) (aa .eql y 0) false=false):¬(x=0/\y=0):=by
 rintro⟨rfl,rfl⟩;cases h
structure RpF(l:Li)(a:As)(i:Int)(j0 j:Jt):Prop where
  hv:Sm 3000 (dt l i j)
  hp:Sm 3000 (ai l j0 i)
  vv:bX (dt l i j) (dt l i j)≠0
  zl:Zl (llq a.rs) 310000 65000 (sh 0 (cW l i j0 j:Rat)) (qE (cW l i j0 j)) 3 0
  z3:Zu 310000 65000 (cQ l a i j0 j) 320 327
  zX:Zu 310000 65000 (bc l a i j0 j) 976 989
  w1:Zu 310000 65000 (dz l a i j0 j).1 80 81
  w2:Zu 310000 65000 (dz l a i j0 j).2 80 81
  y1:Zu 310000 65000 (aO l a j0 i).1 40 40
  y2:Zu 310000 65000 (aO l a j0 i).2 40 40
theorem HT{l:Li}{a:As}(D:DyR l a)(hn:(llq a.rs).length<=1){g:Gr}{i z0 z1:Int}{j0 j:Jt}(P:SlP 3900000 l a g 3 i z0 z1 j0 j)(hj:j.b=i)(hb:Pd 3900000 a j.a):RpF l a i j0 j:=by
 haveI c:=D.s.ct D.hc;have ck:=c.k1;haveI cy:Cy (llq a.rs) 310000 65000:=⟨c.ex,c.k1,c.u3,by omega⟩
 have hs0:Sm 1000 (ai l j0 i):=iC D.hl D.li P.h0 P.p0.or;obtain⟨i1,i2,i3,i4,i5⟩:=d7 D.li P.h1;have hs1:Sm 1000 (aY l i j.on):=by rw[<- hj];exact kR D.hl D.li i2 i4
 have hs2:Sm 1000 (aY l i j.to):=by rw[<- hj];exact kR D.hl D.li i2 (i5 P.hk)
 have hv:Sm _ (dt l i j):=hs2.sub hs1;haveI qn:Qz 310000 (j6 l i j) 3:=sQ (hv.dot hv) oz;haveI qh:Qz 310000 (cW l i j0 j) 3:=sQ (hv.cross (hs1.sub hs0)) oz;obtain⟨w1,w2⟩:=Cq D P.h0 P.p0 P.h1 hb;obtain⟨y1,y2⟩:=mh D.hl D.li D.al D.s D.hc P.h0 P.p0;haveI:=w1;haveI:=w2
 haveI z3:Zu 310000 65000 (cQ l a i j0 j) 320 327:=(inferInstance:Zu 310000 65000 (dotE (dz l a i j0 j).1 (dz l a i j0 j).2 (dz l a i j0 j).1 (dz l a i j0 j).2) _ _)
 exact⟨hv.mono oz,hs0.mono oz,AY D.li P.h1 P.hk hj,Cy.zq,z3,Bt (inferInstance:Zu 310000 65000 (qE (j6 l i j)*cQ l a i j0 j-qE (cW l i j0 j)*qE (cW l i j0 j)) _ _) (by decide) (by decide),w1,w2,y1,y2⟩
theorem EJ{l:Li}{a:As}{i:Int}{j0 j:Jt}(F:RpF l a i j0 j)(tw:Tw (llq a.rs) 64990)(hn:(llq a.rs).length<=1)(hd0:am (cQ l a i j0 j)≠0)(hp:0<=am (bc l a i j0 j)) :
  ExtP (bc l a i j0 j)/\RqP (aH (llq a.rs) (sX (bc l a i j0 j))) (ef l a i j0 j) (cc (llq a.rs).length)/\RqP (aH (llq a.rs) (sX (bc l a i j0 j))) (ef l a i j0 j) (sX (-bA (bc l a i j0 j))) /\
  FP 138 [aL (aH (llq a.rs) (sX (bc l a i j0 j))),nA (cc (llq a.rs).length)] (.tup [nA (sX (-bA (bc l a i j0 j))),.v .nilIface]):=by
 have E:ExtP (bc l a i j0 j):=ru tw hn F.zX hp;have ce:=E.cy;have zr:Nm (aH (llq a.rs) (sX (bc l a i j0 j))).length 773000000 (cc (llq a.rs).length):=(sr oz).mono (by decide);haveI zrl:Zl (aH (llq a.rs) (sX (bc l a i j0 j))) 773000000 1101400000 (cc (llq a.rs).length) (bA (bc l a i j0 j)) 1 0:=Zl.at zr (by decide);haveI:=zrl.zu;have hng:=Dt (ts:=aH (llq a.rs) (sX (bc l a i j0 j))) (u:=773000000) (k:=1101400000) (a:=cc (llq a.rs).length) (by decide);have zn:Nm (aH (llq a.rs) (sX (bc l a i j0 j))).length 773000000 (sX (-bA (bc l a i j0 j))):=(inferInstance:Zu 773000000 1101400000 (-bA (bc l a i j0 j)) 1 0).nm.mono (by decide)
 have hR:∀q,Nm (aH (llq a.rs) (sX (bc l a i j0 j))).length 773000000 q->RqP (aH (llq a.rs) (sX (bc l a i j0 j))) (ef l a i j0 j) q:=fun q nq =>
  F6 (R := ef l a i j0 j) (j := (llq a.rs).length) ce F.hv F.hp F.vv nq (lT (F.zl.nm.mono (by decide)) oz) (lT (F.z3.nm.mono (by decide)) oz) (lT (F.w1.nm.mono (by decide)) oz) (lT (F.w2.nm.mono (by decide)) oz)
   (lT (F.y1.nm.mono (by decide)) oz) (lT (F.y2.nm.mono (by decide)) oz) (ul hn _ _ F.y1.nm).2 (ul hn _ _ F.y2.nm).2 F.z3.nm.nl (by rw[dO];omega) hn (by rw[show am (dE (aH (llq a.rs) (sX (bc l a i j0 j))) (ef l a i j0 j).d)=am (cQ l a i j0 j)from o7];exact hd0)
 exact⟨E,hR _ zr,hR _ zn,hng⟩
theorem EC{l:Li}{a:As}{i:Int}{j0 j:Jt}(F:RpF l a i j0 j)(tw:Tw (llq a.rs) 64990)(hn:(llq a.rs).length<=1)(hd0:am (cQ l a i j0 j)≠0):Cy (llq a.rs) 773000000 1101400000/\RqP (llq a.rs) (ef l a i j0 j) []:=by
 have cs:Cy (llq a.rs) 773000000 1101400000:=⟨⟨64990,tw,by show kB 64990 (llq a.rs).length<=_;have:=BA hn;omega⟩,by omega,by omega,by omega⟩
 have nil0:Nm (llq a.rs).length 773000000 []:=⟨tw.five,.inl rfl,Cb.nil.mono oz⟩
 exact ⟨cs, F6 (R := ef l a i j0 j) (j := (llq a.rs).length) cs F.hv F.hp F.vv nil0 (F.zl.nm.mono (by decide)) (F.z3.nm.mono (by decide)) (F.w1.nm.mono (by decide)) (F.w2.nm.mono (by decide))
   (F.y1.nm.mono (by decide)) (F.y2.nm.mono (by decide)) (xX _ _ F.y1.nm).2 (xX _ _ F.y2.nm).2 F.z3.nm.nl (le_refl _) hn (by rw[show am (dE (llq a.rs) (ef l a i j0 j).d)=am (cQ l a i j0 j)from congrArg am (aZ _ _)];exact hd0)⟩
theorem RN{l:Li}{a:As}(D:DyR l a)(hn:(llq a.rs).length<=1){i z0 z1:Int}{j0 j:Jt}(hg:GrOk l ⟨3,[i],[z0,z1],0⟩)(P:SlP 3900000 l a ⟨3,[i],[z0,z1],0⟩ 3 i z0 z1 j0 j)(hj:j.b=i)(hb:Pd 3900000 a j.a) :
  Con prog 65 [.ptr 1000 0] [(1000,some (cB l ⟨3,[i],[z0,z1],0⟩ a))] (pV (kM l a i j0 j)) [(1000,some (cB l ⟨3,[i],[z0,z1],0⟩ a))]:=by
 haveI c:=D.s.ct D.hc;obtain⟨tw,etw⟩:=dh D.s.tr D.hc;haveI cy:Cy (llq a.rs) 310000 65000:=⟨c.ex,c.k1,c.u3,by omega⟩
 have hlm:=cy.lm;have F:=HT D hn P hj hb;obtain⟨i1,i2,i3,i4,i5⟩:=d7 D.li P.h1;have hs0:Sm 1000 (ai l j0 i):=iC D.hl D.li P.h0 P.p0.or;have hs1:Sm 1000 (aY l i j.on):=by rw[<- hj];exact kR D.hl D.li i2 i4
 have hs2:Sm 1000 (aY l i j.to):=by rw[<- hj];exact kR D.hl D.li i2 (i5 P.hk)
 have hv:Sm _ (dt l i j):=hs2.sub hs1;haveI qn:Qz 310000 (j6 l i j) 3:=sQ (hv.dot hv) oz;haveI qh:Qz 310000 (cW l i j0 j) 3:=sQ (hv.cross (hs1.sub hs0)) oz;haveI z3:=F.z3;haveI zX:=F.zX;haveI zl:=F.zl;have hrr:=NZ D (i:=i) (j0:=j0) (j:=j) (by decide);have m1:=AD (ts:=llq a.rs) (u:=310000) (k:=65000) (a:=sX (bc l a i j0 j)) (by decide);have m2:=AD (ts:=llq a.rs) (u:=310000) (k:=65000) (a:=sX (cQ l a i j0 j)) (by decide);have m3:=AD (ts:=llq a.rs) (u:=310000) (k:=65000) (a:=sh 0 (cW l i j0 j:Rat)) (by decide);refine gF func65 (fun k z h=>br h) ?_ (2,0);refine gW (Wk.o (sl:=[(0,some (.ptr 1000 0)),(4,some (.ptr 24 0))]) (hp:=[(1000,some (cB l ⟨3,[i],[z0,z1],0⟩ a)),(24,some (dU a.rs))])) ?_;refine gt (ay (Con.rekeyBB 1000 24 (by decide) (by decide) rfl rfl rfl rfl rfl rfl (S8 D hg P.h0 P.h1 P.p0 hj P.hk hb)) (bm rfl rfl) az rfl rfl) ?_;refine gt (ay (Con.rekeyB1 24 rfl rfl rfl rfl rfl hrr) (bm rfl rfl) az rfl rfl) ?_ (4,0);refine gW (Wk.of (sl:=[(4,some (.ptr 24 0)),(5,some (.ptr 5 0)),(6,some (nA (sX (bc l a i j0 j))))]) (hp:=[(1000,some (cB l ⟨3,[i],[z0,z1],0⟩ a)),(5,some (.box (vm l a i j0 j))),(24,some (a5 (llq a.rs)))]) aV (.k (.k (.cons rfl (BlkSub.bL (.cons (.of (l0 etw)) (.cons (.refl _) .nil)) rfl) .nil)))) ?_;refine gt (aR (Con.rB 24 rfl rfl rfl rfl m1) (bm rfl rfl) rfl rfl rfl) ?_;refine gC (fun t34=>?_) (fun t34=>?_) (st1:=(6,0));cases t34;refine gt (aR (Con.rB 24 rfl rfl rfl rfl m2) (bm rfl rfl) rfl rfl rfl) ?_;refine gu (ee rfl rfl rfl (fun h=>aR (Con.rB 24 rfl rfl rfl rfl m3) (.cons (.opt rfl (o1 h)) (.cons (.opt rfl (o1 h)) .nil)) rfl rfl rfl)) ?_;refine gC (fun t44=>?_) (fun t44=>?_)
 ·have h1:=Tu t44;refine gR ?_;exact(aq.keep (a8 rfl)).sub (by unfold kM;rw[if_pos h1];exact Sub.tup (.cons (.nil _ _ _) (.cons (.refl _) .nil)))
 have h1:=NT t44;refine gC (fun t58=>?_) (fun t58=>?_)
 ·have h2:am (bc l a i j0 j)<0:=of_decide_eq_true t58;refine gR ?_;exact(aq.keep (a8 rfl)).sub (by unfold kM;rw[if_neg h1,if_pos h2];exact Sub.tup (.cons (.nil _ _ _) (.cons (.refl _) .nil)))
 have h2:¬am (bc l a i j0 j)<0:=of_decide_eq_false t58;have hd0:am (cQ l a i j0 j)≠0:=vQ tw h2 h1;refine zE [4,5] [1000,5] (fun(T:LL)(qs:LL)=>[(8,some (.lst 1 (qs.map nA)))]) (fun T _=>[(24,some (a5 T))]) (fun T qs=>Cy T 773000000 1101400000/\qs.length<=2/\(∀q∈qs,RqP T (ef l a i j0 j) q)/\kM l a i j0 j=(kI T (ef l a i j0 j) qs qs.length,0)) ?_ ?_
 ·intro K1 J1;refine gC (fun t63=>?_) (fun t63=>?_)
  ·have h3:0<am (bc l a i j0 j):=of_decide_eq_true t63;obtain⟨E,R1,R2,hng⟩:=EJ F tw hn hd0 oz;have ce:=E.cy;have hex:=DV (a:=sX (bc l a i j0 j)) tw zX.nm (by rw[hlm];decide) (by rw[show ad (llq a.rs).length (sX (bc l a i j0 j))=bc l a i j0 j from aZ _ _];show 0<=am (bc l a i j0 j);omega);refine gc hex ?_;refine gC (fun t75=>?_) (fun t75=>?_) (st1:=(15,0));cases t75;refine gc hng ?_;refine gt (aR (Con.rB 24 rfl rfl rfl rfl (qG _ _)) (aA rfl rfl rfl) rfl rfl rfl) ?_;exact qH J1 (aH (llq a.rs) (sX (bc l a i j0 j))) ([cc (llq a.rs).length,sX (-bA (bc l a i j0 j))]) ⟨ce,le_refl 2,kV R1 R2,by unfold kM;rw[if_neg h1,if_neg h2,if_pos h3];rfl⟩
  have h3:¬0<am (bc l a i j0 j):=of_decide_eq_false t63;obtain⟨cs,R0⟩:=EC F tw hn hd0;exact qH J1 (llq a.rs) ([[]]) ⟨cs,by decide,iz R0,by unfold kM;rw[if_neg h1,if_neg h2,if_neg h3];rfl⟩ (hw:=Wk.of (.cons rfl Ro (.k (.k .nil))) (.k (.k (.k .nil))))
 rintro T qs ⟨ct,hql,hq,hR⟩;obtain⟨rr,twT,hkT⟩:=ct.ex;refine gl ?_;refine gW (Wk.virt 900 3 rfl) ?_;refine aI [4,5,8,90,91] [1000,5,24] (fun(q:Nat)=>[(12,some (.ms 900 3 0 q)),(92,some (i64 q))]) (fun q=>[(900,some (.row 3 (kI T (ef l a i j0 j) qs q)))]) (fun q=>q<=qs.length) (fun q=>qs.length-q) 0 (zero_le _) ?_;rintro q hqi K2 J2;refine gC (fun t93=>?_) (fun t93=>?_) (st2:=(28,0))
 ·have hin:=aQ t93;obtain ⟨x,hx⟩:=au hin;have hx9:qs.getD q [] = x:=aC hx;have R:=hq x (mem_of_getElem? hx);refine gi (ax hx) ?_;refine gc R.c1 ?_;refine gt (aR (Con.rB 24 rfl rfl rfl rfl (uv _ _ _)) (aA rfl rfl rfl) rfl rfl rfl) ?_;refine gD ?_;refine gc R.ng ?_;refine gt (aR (Con.rB 24 rfl rfl rfl rfl (qG _ _)) (aA rfl rfl rfl) rfl rfl rfl) ?_;refine gc R.c2 ?_;refine gt (aR (Con.rB 24 rfl rfl rfl rfl (uv _ _ _)) (aA rfl rfl rfl) rfl rfl rfl) ?_;refine gD ?_;refine gc R.sb ?_;refine gt (aR (Con.rB 24 rfl rfl rfl rfl (uv _ _ _)) (aA rfl rfl rfl) rfl rfl rfl) ?_;refine gD ?_;refine gt (aR (Con.rB 24 rfl rfl rfl rfl (vZ R.d1)) (aA rfl rfl rfl) rfl rfl rfl) ?_;refine gt (aR (Con.rB 24 rfl rfl rfl rfl (vZ R.d2)) (aA rfl rfl rfl) rfl rfl rfl) ?_;refine gD ?_;refine gc (BP twT) ?_;refine gt (aR (Con.rB 24 rfl rfl rfl rfl R.body) (.cons (.tmp rfl) (.cons (.tmp rfl) (aA rfl rfl rfl))) rfl rfl rfl) ?_;refine gl ?_;refine gc (EX q qs.length oz) ?_;refine gs (cf (.tmp rfl) rfl (xY _ _ _ _).symm (.tmp rfl) T54 rfl T62 rfl rfl (by dsimp only; simp only [length_cons,length_nil]; omega) rfl rfl) ?_;refine gD ?_ (27,0);refine gW (Wk.of (sl:=[(4,some (.ptr 24 0)),(5,some (.ptr 5 0)),(8,some (.lst 1 (qs.map nA))),(12,some (.ms 182 3 0 (q + 1))),(90,some (.lst 1 (qs.map nA))),(91,some (i64 qs.length)),(92,some (i64 q))]) (hp:=[(1000,some (cB l ⟨3,[i],[z0,z1],0⟩ a)),(5,some (.box (vm l a i j0 j))),(24,some (a5 T)),(182,some (.row 3 (kI T (ef l a i j0 j) qs (q + 1))))]) aV (.k (.k (.k (.cons rfl (BlkSub.of (by rw [Me]; unfold jN; rw [hx9]; rfl)) .nil))))) ?_ (27,0)
  refine gW (Wk.rk (k:=182) (d:=900) rfl rfl) ?_;refine ga aF ?_;exact aE J2 (q+1) hin
 have hin:=a6 hqi t93;subst hin;refine gW ((Wk.freeze (k:=900) rfl).trans<|Wk.of (sl:=[(4,some (.ptr 24 0)),(12,some (.lst 3 (kI T (ef l a i j0 j) qs qs.length)))]) (hp:=[(1000,some (cB l ⟨3,[i],[z0,z1],0⟩ a)),(24,some (a5 T))]) (.k (.cons rfl (Sub.of (by rw[bN (xY _ _ _ _).symm])) .nil)) (.k (.k .nil))) ?_;refine gC (fun t188=>?_) (fun t188=>?_) (st1:=(29,0));cases t188;refine gR ?_;exact(aq.keep (a8 rfl)).sub (Sub.of (by rw[hR];rfl))
end Go.Lw
