/- ModesFrame: for any linkage and any turns the law returns true and leaves its arguments as they were. No other condition. Part 6 of 8: what the later parts need -/
import Derived.Test.YtpdiojikejnehaaGreatWe
import Derived.Laws.Cover3
set_option linter.unusedVariables false
open List (mem_of_getElem? mem_append map_cons mem_cons all_cons length_cons foldl_cons length_append length_nil getD_eq_getElem?_getD getElem?_append_left getElem?_eq_none all_eq_true getElem?_take getElem?_drop getElem?_map getElem?_append_right getElem?_eq_getElem nil_append getElem?_replicate map_append length_take take_of_length_le drop_zero take_length map_nil not_mem_nil length_map map_map length_replicate map_replicate map_set length_set range_succ)
open Nat (eq_of_beq_eq_true le_refl lt_of_lt_of_le lt_or_ge le_trans zero_le pow_add)
open Option (map_eq_some_iff)
open Bool (and_eq_true)
open Array (getD_eq_getD_getElem?)
open Int (toNat_natCast)
open Go.Proofs.Tryz
namespace Go.Lw
open Go.Proofs
theorem Dx{α:Type}{f:List Bool->α->List Bool}{k:List Bool}{l:List α}{i:Nat}{x:α}(h:l[i]?=some x):(l.drop i).foldl f k=(l.drop (i+1)).foldl f (f k x):=by
 have hi:=(List.getElem?_eq_some_iff.1 h).1;rw[List.drop_eq_getElem_cons hi,(List.getElem?_eq_some_iff.1 h).2];rfl
def gH(k:List Bool)(i:Nat):List Int:=((List.range i).filter (fun j=>!k.getD j false)).map (fun j:Nat=>((j:Nat):Int))
theorem Iv{k:List Bool}{i:Nat}(h:k.getD i false=false):gH k (i+1)=gH k i++[(i:Int)]:=by
 unfold gH;rw[range_succ,List.filter_append,map_append,List.filter_cons,h];rfl
theorem Gb{k:List Bool}{i:Nat}(h:k.getD i false=true):gH k (i+1)=gH k i:=by
 unfold gH;rw[range_succ,List.filter_append,map_append,List.filter_cons,h];simp
theorem wL(k:List Bool)(i:Nat):(gH k i).length<=i:=by
 unfold gH;rw[length_map];exact le_trans (List.length_filter_le _ _) (by simp)
theorem p8{α:Type}{f:α->List Int}:∀(gs:List α)(k:List Bool),(gs.foldl (fun k g=>bt k (f g)) k).length=k.length
 |[],k=>rfl
 |g::gs,k=>by rw[foldl_cons,p8 gs,jz]
theorem OA(l:Li):(en (bQ l)).length<=l.bo.length:=by
 have h:=wL (bQ l) (bQ l).length;have e:(bQ l).length=l.bo.length:=by unfold bQ;rw[p8,gX]
 rw[e]at h;unfold en;rw[e];exact h
theorem ME(l:Li):(en (dQ l)).length<=l.jo.length:=by
 have h:=wL (dQ l) (dQ l).length;have e:(dQ l).length=l.jo.length:=by unfold dQ;rw[p8,length_replicate]
 rw[e]at h;unfold en;rw[e];exact h
theorem K8(l:Li)(hl:l.ok)(hli:ax l=0):FP 58 [l.av] (.tup [.lst 1 ((en (bQ l)).map i64),.lst 1 ((en (dQ l)).map i64)]):=by
 have h8:=(cA hli).2.2.2.1;have h0:=(cA hli).2.2.2.2;have hj16:l.jo.length<=16:=by have:=(cA hli).2.1;unfold ep at this;split at this;cases this;omega
 obtain⟨hgo,hgl⟩:=qe hli;refine ah func58 ?_;refine gt (aA (BI 900 rfl l oz 0 oz) (.cons (.tmp rfl) (.cons (.const _) .nil)) aC rfl rfl) ?_;refine gl ?_;refine gs (gO (.tmp rfl) T219 rfl T4 rfl rfl oz (by dsimp only;omega) rfl) ?_;refine gD ?_ (2,0);refine gW (Wk.of (sl:=[(1,some (.ptr 1 0)),(2,some (nS)),(3,some (nS)),(4,some (.ms 900 1 0 (cB l.bo.length 0).length)),(5,some (.ms 21 1 0 (List.replicate l.jo.length false).length))]) (hp:=[(1,some (.box l.av.cells)),(900,some (.row 1 ((cB l.bo.length 0).map bl))),(21,some (.row 1 ((List.replicate l.jo.length false).map bl)))]) (.k (.k (.k (.cons rfl (Sub.of (by rw[gX])) (.cons rfl (Sub.of (by rw[length_replicate,toNat_natCast])) .nil))))) (.k (.k (.cons rfl (BlkSub.of (by rw[map_replicate,toNat_natCast];rfl)) .nil)))) ?_ (2,0)
 refine gW (Wk.rk (k:=21) (d:=901) rfl rfl) ?_;refine gc (Cq l hl hli) ?_;refine gl ?_;refine iR [1,2,3,23,24] [1] (fun(i:Nat)(k1 k2:List Bool)=>[(4,some (.ms 900 1 0 k1.length)),(5,some (.ms 901 1 0 k2.length)),(25,some (i64 i))]) (fun _ k1 k2=>[(900,some (.row 1 (k1.map bl))),(901,some (.row 1 (k2.map bl)))]) (fun i k1 k2=>i<=(findG l).length/\k1.length=l.bo.length/\k2.length=l.jo.length/\((findG l).drop i).foldl (fun k g=>bt k g.bo) k1=bQ l/\((findG l).drop i).foldl (fun k g=>bt k g.jo) k2=dQ l) (fun i _ _=>(findG l).length-i) 0 (cB l.bo.length 0) (List.replicate l.jo.length false) ⟨zero_le _,gX _ _,length_replicate,rfl,rfl⟩ ?_
 rintro i k1 k2 ⟨hi,hk1,hk2,hf1,hf2⟩ K1 J1;refine gC (fun t26=>?_) (fun t26=>?_)
 ·have hin:=aT t26;obtain⟨g,hg⟩:=aq hin;have hgk:=hgo g (mem_of_getElem? hg);have hlb:=hgk.lb;have hlj:=hgk.lj;refine gi (au hg) ?_;refine gl ?_;refine gw [1,2,3,7,23,24,25,30,31] [1,7,901] (fun(q:Nat)(kk:List Bool)=>[(4,some (.ms 900 1 0 kk.length)),(5,some (.ms 901 1 0 k2.length)),(32,some (i64 q))]) (fun _ kk=>[(900,some (.row 1 (kk.map bl)))]) (fun q kk=>q<=g.bo.length/\kk.length=l.bo.length/\bt kk (g.bo.drop q)=bt k1 g.bo) (fun q _=>g.bo.length-q) 0 k1 ⟨zero_le _,hk1,rfl⟩ ?_;rintro q kk ⟨hq,hkk,hmk⟩ K2 J2;refine gC (fun t33=>?_) (fun t33=>?_)
  ·have hqn:=aT t33;obtain⟨x,hx⟩:=aq hqn;have hxb:=hgk.b x (mem_of_getElem? hx);obtain⟨v,hv⟩:∃v,kk[x.toNat]?=some v:=aq oz;refine gi (au hx) ?_;refine gs (l9 (.tmp rfl) (.tmp rfl) T219 rfl T4 rfl oz oz rfl) ?_;refine gs (dw (.tmp rfl) rfl (by rw[Nat.zero_add,getElem?_map,hv];rfl) rfl (.const _) rfl rfl T4 rfl rfl) ?_;refine ga aE ?_;exact fQ J2 (q+1) (kk.set x.toNat true) ⟨hqn,by rw[length_set];exact hkk,by rw[<- Bn hx];exact hmk⟩ (hw:=Wk.of (.cons rfl (Sub.of (by rw[length_set])) (.k (.k (.k (.k (.k (.k (.k (.k (.k (.k (.k .nil)))))))))))) (.cons rfl (BlkSub.of (by rw[map_set,Nat.zero_add];rfl)) (.k (.k (.k .nil)))))
  have hqn:=a5 hq t33;have hmk2:kk=bt k1 g.bo:=by rw[hqn,List.drop_length]at hmk;exact hmk
  refine gl ?_;refine gw [1,2,3,23,24,25,41,42] [1,900] (fun(p:Nat)(jj:List Bool)=>[(4,some (.ms 900 1 0 kk.length)),(5,some (.ms 901 1 0 jj.length)),(43,some (i64 p))]) (fun _ jj=>[(901,some (.row 1 (jj.map bl)))]) (fun p jj=>p<=g.jo.length/\jj.length=l.jo.length/\bt jj (g.jo.drop p)=bt k2 g.jo) (fun p _=>g.jo.length-p) 0 k2 ⟨zero_le _,hk2,rfl⟩ ?_;rintro p jj ⟨hp,hjj,hmj⟩ K3 J3;refine gC (fun t44=>?_) (fun t44=>?_)
  ·have hpn:=aT t44;obtain⟨x,hx⟩:=aq hpn;have hxb:=hgk.j x (mem_of_getElem? hx);obtain⟨v,hv⟩:∃v,jj[x.toNat]?=some v:=aq oz;refine gi (au hx) ?_;refine gs (l9 (.tmp rfl) (.tmp rfl) T219 rfl T4 rfl oz oz rfl) ?_;refine gs (dw (.tmp rfl) rfl (by rw[Nat.zero_add,getElem?_map,hv];rfl) rfl (.const _) rfl rfl T4 rfl rfl) ?_;refine ga aE ?_;exact fQ J3 (p+1) (jj.set x.toNat true) ⟨hpn,by rw[length_set];exact hjj,by rw[<- Bn hx];exact hmj⟩ (hw:=Wk.of (.k (.cons rfl (Sub.of (by rw[length_set])) (.k (.k (.k (.k (.k (.k (.k (.k (.k .nil))))))))))) (.cons rfl (BlkSub.of (by rw[map_set,Nat.zero_add];rfl)) (.k (.k .nil))))
  have hpn:=a5 hp t44;have hmj2:jj=bt k2 g.jo:=by rw[hpn,List.drop_length]at hmj;exact hmj
  refine ga aE ?_;exact gy J1 (i+1) kk jj ⟨hin,hkk,hjj,by rw[hmk2,<- hf1,Dx hg],by rw[hmj2,<- hf2,Dx hg]⟩
 have hin:=a5 hi t26;have e1:k1=bQ l:=by rw[hin,List.drop_length]at hf1;exact hf1
 have e2:k2=dQ l:=by rw[hin,List.drop_length]at hf2;exact hf2
 refine gW (Wk.virt 902 1 rfl) ?_;refine aJ [3,53] [900,901] (fun(i:Nat)=>[(2,some (.ms 902 1 0 (gH k1 i).length)),(5,some (.ms 901 1 0 k2.length)),(52,some (.ms 900 1 0 k1.length)),(54,some (i64 i))]) (fun i=>[(902,some (.row 1 ((gH k1 i).map i64)))]) (fun i=>i<=k1.length) (fun i=>k1.length-i) 0 (zero_le _) ?_;rintro i ha K4 J4;refine gC (fun t55=>?_) (fun t55=>?_) (st2:=(22,0))
 ·have hin6:=aT t55;obtain ⟨v,hv⟩:=aq hin6;have hvd:k1.getD i false = v:=aB hv;have hul:=wL k1 i;refine gs (l9 (.tmp rfl) (.tmp rfl) T219 rfl T4 rfl oz oz rfl) ?_;refine gs (dW (.tmp rfl) rfl (by rw [Nat.zero_add,toNat_natCast,getElem?_map,hv]; rfl) T4 rfl rfl rfl) ?_;refine gC (fun t60=>?_) (fun t60=>?_)
  ·have hu := Iv (k := k1) (i := i) (by rw [hvd]; exact cW t60);refine gs (bR (.tmp rfl) rfl (by rw [length_map]) (.tmp rfl) T39 rfl T3 rfl rfl (by dsimp only; simp only [length_cons,length_nil]; omega) rfl rfl) ?_ (21,0);refine gW (Wk.of (sl:=[(2,some (.ms 64 1 0 (gH k1 (i + 1)).length)),(3,some (nS)),(5,some (.ms 901 1 0 k2.length)),(52,some (.ms 900 1 0 k1.length)),(53,some (i64 k1.length)),(54,some (i64 i))]) (hp:=[(900,some (.row 1 (k1.map bl))),(901,some (.row 1 (k2.map bl))),(64,some (.row 1 ((gH k1 (i + 1)).map i64)))]) (.cons rfl (Sub.of (by rw [hu,length_append]; rfl)) (.k (.k (.k (.k (.k .nil)))))) (.k (.k (.cons rfl (BlkSub.of (by rw [hu,map_append]; rfl)) .nil)))) ?_ (21,0)
   refine gW (Wk.rk (k:=64) (d:=902) rfl rfl) ?_;refine ga aE ?_;exact aD J4 (i+1) hin6 (hw:=Wk.of (.cons rfl (Sub.of (by first |rw[hu];done |rfl)) (.k (.k (.k (.k (.k .nil)))))) (.cons rfl (BlkSub.of (by first |rw[hu];done |rfl)) (.k (.k .nil))))
  have hu:=Gb (k:=k1) (i:=i) (by rw[hvd];exact c9 t60);refine ga aE ?_;exact aD J4 (i+1) hin6 (hw:=Wk.of (.cons rfl (Sub.of (by first |rw[hu];done |rfl)) (.k (.k (.k (.k (.k .nil)))))) (.cons rfl (BlkSub.of (by first |rw[hu];done |rfl)) (.k (.k .nil))))
 have hin6:=a5 ha t55;refine gW ((Wk.freeze (k:=902) rfl).trans<|Wk.of (sl:=[(2,some (.lst 1 ((en (bQ l)).map i64))),(3,some (nS)),(5,some (.ms 901 1 0 k2.length))]) (hp:=[(901,some (.row 1 (k2.map bl)))]) (.cons rfl (Sub.of (by rw[bI (by rw[length_map]),hin6,e1];rfl)) (.k (.k .nil))) (.k .nil)) ?_;refine gW (Wk.virt 902 1 rfl) ?_;refine aJ [2,67] [901] (fun(i:Nat)=>[(3,some (.ms 902 1 0 (gH k2 i).length)),(66,some (.ms 901 1 0 k2.length)),(68,some (i64 i))]) (fun i=>[(902,some (.row 1 ((gH k2 i).map i64)))]) (fun i=>i<=k2.length) (fun i=>k2.length-i) 0 (zero_le _) ?_;rintro i hb K5 J5;refine gC (fun t69=>?_) (fun t69=>?_) (st2:=(28,0))
 ·have hin8:=aT t69;obtain ⟨v,hv⟩:=aq hin8;have hvd:k2.getD i false = v:=aB hv;have hul:=wL k2 i;refine gs (l9 (.tmp rfl) (.tmp rfl) T219 rfl T4 rfl oz oz rfl) ?_;refine gs (dW (.tmp rfl) rfl (by rw [Nat.zero_add,toNat_natCast,getElem?_map,hv]; rfl) T4 rfl rfl rfl) ?_;refine gC (fun t74=>?_) (fun t74=>?_)
  ·have hu := Iv (k := k2) (i := i) (by rw [hvd]; exact cW t74);refine gs (bR (.tmp rfl) rfl (by rw [length_map]) (.tmp rfl) T39 rfl T3 rfl rfl (by dsimp only; simp only [length_cons,length_nil]; omega) rfl rfl) ?_ (27,0);refine gW (Wk.of (sl:=[(2,some (.lst 1 ((en (bQ l)).map i64))),(3,some (.ms 78 1 0 (gH k2 (i + 1)).length)),(66,some (.ms 901 1 0 k2.length)),(67,some (i64 k2.length)),(68,some (i64 i))]) (hp:=[(901,some (.row 1 (k2.map bl))),(78,some (.row 1 ((gH k2 (i + 1)).map i64)))]) (.k (.cons rfl (Sub.of (by rw [hu,length_append]; rfl)) (.k (.k (.k .nil))))) (.k (.cons rfl (BlkSub.of (by rw [hu,map_append]; rfl)) .nil))) ?_ (27,0)
   refine gW (Wk.rk (k:=78) (d:=902) rfl rfl) ?_;refine ga aE ?_;exact aD J5 (i+1) hin8 (hw:=Wk.of (.cons rfl (Sub.of (by first |rw[hu];done |rfl)) (.k (.k (.k (.k .nil))))) (.cons rfl (BlkSub.of (by first |rw[hu];done |rfl)) (.k .nil)))
  have hu:=Gb (k:=k2) (i:=i) (by rw[hvd];exact c9 t74);refine ga aE ?_;exact aD J5 (i+1) hin8 (hw:=Wk.of (.cons rfl (Sub.of (by first |rw[hu];done |rfl)) (.k (.k (.k (.k .nil))))) (.cons rfl (BlkSub.of (by first |rw[hu];done |rfl)) (.k .nil)))
 have hin8:=a5 hb t69;refine gW ((Wk.freeze (k:=902) rfl).trans<|Wk.of (sl:=[(2,some (.lst 1 ((en (bQ l)).map i64))),(3,some (.lst 1 ((en (dQ l)).map i64)))]) (hp:=[]) (.k (.cons rfl (Sub.of (by rw[bI (by rw[length_map]),hin8,e2];rfl)) .nil)) .nil) ?_;refine br ?_;rfl
theorem Kq(l:Li)(hl:l.ok)(hli:ax l=0):FP 16 [l.av] (.tup [.lst 4 ((splitG l).map Gr.av),i64 (splitE l)]):=by
 have h8:=(cA hli).2.2.2.1;have hj16:l.jo.length<=16:=by have:=(cA hli).2.1;unfold ep at this;split at this;cases this;omega
 have u1:=OA l;have u2:=ME l;refine ah func16 ?_;refine gc (K8 l hl hli) ?_;refine gl ?_;refine gl ?_;refine ga (cV oz) ?_;refine gC (fun t16=>?_) (fun t16=>?_)
 ·have h1:0 < (en (bQ l)).length + (en (dQ l)).length:=jg t16;have hE:splitE l = 7:=by unfold splitE; rw [if_neg oz]
  refine gR ?_;exact dp (by unfold splitG;rw[if_neg (by rw[hE];decide),hE];exact Sub.tup (.cons (.nil _ _ _) (.cons (.refl _) .nil)))
 have h1:(en (bQ l)).length+(en (dQ l)).length<=0:=gN t16;have hE:splitE l=0:=by unfold splitE;rw[if_pos oz]
 refine gc (Cq l hl hli) ?_;refine br ?_;unfold splitG;rw[if_pos hE,hE];rfl
variable{P:Program}{N:Nat}{R:Array Oper}{s:AS}{pos:String}{after:Array Edge}
theorem Ad{d:Nat}{x:Operand}{n:Nat}{z:Value}{T E t:TypeId}{ti te:TI}(hx:Ev s x (.v (.int .i64 n)))
    (hT:az P T=some ti) (hk:ti.k=.slice E) (hE:az P E=some te) (hz:te.zero=[z]) (hz1:z.oneCell'=true) (hs:Nat.beq te.size 1=true) (hbb:Nat.blt 0 te.bytes=true)
    (hb:(n:Int)*te.bytes<=281474976710656) (hN:Nat.blt d N=true) :
    Step P N R s ⟨some d,.makeSlice T x x,t,pos,after,none⟩
      ⟨some (.ms d 1 0 n),[(d,some (.vec (List.replicate n z)))],ao x,[]⟩ :=
  rm rfl rfl hN (by simp) fun s' hag hfr C m a w hr => by
    have hxv:=nP hr (hx.agree hag (fun _ h=>h));have hs:=eq_of_beq_eq_true hs;rw[Nat.blt_eq]at hbb;obtain⟨d2,h3,h4,-,-⟩:=dX hT w;obtain rfl:=iU (h4.trans hk);obtain⟨zv,h5,h6⟩:=sj hE w;obtain⟨ie,h7,h8,-⟩:=G2 hE w;have h6':zv.cells.toList=[z]:=h6.trans hz;have hzc:zv.cells=#[z]:=by rw[<- Array.toArray_toList (xs:=zv.cells),h6']
    have hnb:(n:Int)<=281474976710656:=by
      have:(n:Int)*1<=n*te.bytes:=Int.mul_le_mul_of_nonneg_left oz oz;omega
    have hw1:IntKind.i64.wrap (n:Int)=n:=IntWalk.i64_in n oz;obtain⟨zero,hzero⟩:∃zero:Array Value,zero=(if n*te.size=0 then #[]else zv.cells):=⟨_,rfl⟩
    refine⟨.slice (some ⟨w.heap.size,0,none⟩) n n,(Array.range (n*te.size)).map (zero[· % zero.size]!),E,w.drawn,?_,?_,?_,?_⟩
    · have hmk:(Instr.makeSlice T (.int .i64 n) (.int .i64 n)).run P w =
          .ok (.slice (some ⟨w.heap.size,0,none⟩) n n) { w with heap:=w.heap.push (.cells ((Array.range (n*te.size)).map (zero[· % zero.size]!)) E) }:=by
        have hc:¬(((n:Int)<0\/281474976710656<(ie.bytes:Int)*n)\/(n:Int)<0):=by
          rw[h8,Int.mul_comm];omega
        simp only[Instr.makeSlice,Sem.run_bind,h3,Result.andThen_ok,asInt,asIntOf,Sem.run_pure,h7,hw1];rw[if_neg (by simpa using hc)];simp only[Sem.run_bind,run_askRoom,Result.andThen_ok,fU hE,toNat_natCast]
        by_cases h0:n*te.size=0
        · rw[if_pos h0]at hzero ⊢
          subst hzero;simp only[Sem.run_bind,Sem.run_pure,Result.andThen_ok,newRow,run_newObj]
        · rw[if_neg h0]at hzero ⊢
          subst hzero;simp only[Sem.run_bind,Sem.run_pure,Result.andThen_ok,h5,newRow,run_newObj]
      simp only[execOp,hxv,Sem.run_bind,hmk,Result.andThen_ok,Sem.run_pure]
    · exact fun h=>h
    · intro g S m' w' hg hS hm hw
      refine .vec hw ?_ (fun v hv=>by rw[List.eq_of_mem_replicate hv];exact hz1);apply List.ext_getElem?;intro j;rw[Array.getElem?_toList,getElem?_replicate]
      by_cases hj:j<n
      · have hpos : ¬ n * te.size = 0 := by rw [hs]; omega
        rw[if_neg hpos,hzc]at hzero;subst hzero;rw[if_pos hj];simp only[Array.getElem?_map,Array.getElem?_range,show j<n*te.size by rw[hs];omega,if_true,Option.map_some,Option.some.injEq];simp[Nat.mod_one]
      · rw[if_neg hj,Array.getElem?_eq_none (by simp[hs];omega)]
    · intro g S m' hm hS
      have:=Rep.ms (g:=g) (S:=S) (m:=m') (k:=d) (sz:=1) (off:=0) (len:=n) (cap:=n) hm (le_refl _) (by simpa[hs]using hS);simpa using this
theorem vW{x y:Operand}{k i:Nat}{vs:List Value}{v:Value}{T t:TypeId}{ti:TI}
  (hx:Ev s x (.eptr k 1 i 0)) (hk:s.blk k=some (.vec vs)) (hi:i<vs.length) (hy:Ev s y (.v v)) (hv:v.oneCell'=true) (hT:az P T=some ti) (hsz:Nat.beq ti.size 1=true) :
  Step P N R s ⟨none,.store T x y,t,pos,after,none⟩ ⟨none,[(k,some (.vec (vs.set i v)))],ao x++ao y,[k]⟩ :=
 xz rfl rfl (by simp) hk fun s' hag C m a w hr => by
  have hsz:=eq_of_beq_eq_true hsz;obtain⟨b,hm,hxv⟩:=ve hr (hx.agree hag (fun _ h=>List.mem_append.2 (.inl h)));have hyv:=nP hr (hy.agree hag (fun _ h=>List.mem_append.2 (.inr h)));have hb:=hr.heap.blk k _ ((hag.2 k (by simp)).trans hk);rw[hm]at hb;cases hb with
  | @vec _ _ c t2 hw hc h1 =>
   have hcs:c.size=vs.length:=by rw[<- hc];simp
   have hvc:v.cells=#[v]:=by cases v <;> simp_all [Value.cells,Value.oneCell']
   refine⟨b,c,(over c.toList i v.cells.toList).toArray,t2,hm,hw,?_,?_,?_⟩
   ·simp[over,hvc];omega
   ·have hrun := zO (P := P) (off := i) (v := v) hT hw (by rw[hvc,hsz];rfl) oz (by rw[hvc];simpa using hv);simp[execOp,Instr.storeAt,hxv,Instr.sureAddr,hyv,hrun]
   ·intro g S w' hg hS hw';refine .vec hw' ?_ (fun u hu=>?_)
    ·rw[hc,hvc];unfold over;rw[List.set_eq_take_append_cons_drop,if_pos hi];simp
    ·rcases List.mem_or_eq_of_mem_set hu with h9 |h9
     ·exact h1 u h9
     ·rw[h9];exact hv
inductive Lent(H:Hp)(hid:List Nat):AV->AV->Prop
  |same {x:AV} (h:x.nm=[]):Lent H hid x x
  |ms {k off len:Nat} {vs:List Value} (hk:lk H k=some (.vec vs)) (hh:k∉hid) (hl:off+len<=vs.length) (hm:vs.length<=aV):Lent H hid (.ms k 1 off len) (.lst 1 (((vs.drop off).take len).map .v))
theorem Hl{g:Nat->Array Value->Prop}{S:Nat->Nat->Prop}{m:Nat->Option Nat}{u y:Value}(h:Rep g S m u (.v y)):u=y:=by cases h;rfl
theorem v7{m:Nat->Option Nat}{b:Nat}:¬aY [] m b:=by rintro⟨k,x,h,_⟩;cases h
def pz(ext:Nat->Prop)(H:Hp)(hid:List Nat)(m:Nat->Option Nat)(b:Nat):Prop:=ext b\/∃k z,k∈hid/\lk H k=some z/\m k=some b
theorem OE{ext:Nat->Prop}{H:Hp}{hid:List Nat}{m m2:Nat->Option Nat}{w:World}{b:Nat}{cs:Array Value}(h:Im ext H m w b cs):Im (pz ext H hid m) [] m2 w b cs :=
 ⟨fun h'=>h'.elim h.1 (fun⟨k,z,_,hz,hb⟩=>h.2.1 ⟨k,z,hz,hb⟩),v7,h.2.2⟩
theorem IQ{ext:Nat->Prop}{H:Hp}{hid:List Nat}{m:Nat->Option Nat}{w:World}(hh:HeapRel ext H m w){k b:Nat}{z:Blk}(hk:lk H k=some z)(hb:m k=some b)(hn:k∉hid):¬pz ext H hid m b:=by
 rintro(h |⟨k',z',h1,h2,h3⟩)
 ·exact(hh.sep k z b hk hb).1 h
 ·have:=hh.inj k k' z z' b hk h2 hb h3;subst this;exact hn h1
theorem Lent.rep{ext:Nat->Prop}{H:Hp}{hid:List Nat}{m:Nat->Option Nat}{w:World}(hh:HeapRel ext H m w){x x':AV}(h:Lent H hid x x') :
  ∀{v:Value},Rep (Im ext H m w) (Sz w) m v x->∀m2:Nat->Option Nat,Rep (Im (pz ext H hid m) [] m w) (Sz w) m2 v x':=by
 cases h with
 |same hn=>intro v hv m2;exact(iP hn hv).mono (fun _ _ h=>OE h) (fun _ _ h=>h) (fun _ _ _ h=>h)
 | @ms k off len vs hk hnh hl hm =>
  intro v hr m2;have hb:=hh.blk k _ hk;cases hr with
  |ms0 a=>simp only[List.take_zero];exact .lst0 _ _ _
  | @ms _ _ _ _ _ cap b hmk hc hS =>
   rw[hmk]at hb;cases hb with
   | @vec _ _ c t hw hcv h1 =>
    have hcs:c.size=vs.length:=by rw[<- hcv];simp
    have hlen:(((vs.drop off).take len).map AV.v).length=len:=by rw[length_map,length_take,List.length_drop];omega
    have he':∀(i:Nat)(e:AV),(((vs.drop off).take len).map AV.v)[i]?=some e->∃u,e=.v u/\c[off+i]?=some u/\u∈vs:=by
     intro i e he;rw[getElem?_map,map_eq_some_iff]at he;obtain⟨u,he,rfl⟩:=he;rw[getElem?_take]at he;split at he
     ·rw[getElem?_drop]at he;exact⟨u,rfl,by rw[<- Array.getElem?_toList,hcv];exact he,mem_of_getElem? he⟩
     ·cases he
    have:=Rep.lst (g:=Im (pz ext H hid m) [] m w) (S:=Sz w) (m:=m2) (b:=b) (off:=off) (cap:=cap) (sz:=1) (es:=((vs.drop off).take len).map AV.v) (cs:=c) (fun i j=>c.getD (off+i) undef)
     ⟨IQ hh hk hmk hnh,v7,t,(0,0),hw⟩ oz oz ?_ ?_ ?_ ?_
    ·rw[hlen]at this;simpa using this
    ·intro i e he;obtain⟨u,rfl,_⟩:=he' i e he;rfl
    ·intro i j e x he hx;obtain⟨u,rfl,_,hm⟩:=he' i e he;cases j with
     |zero=>cases hx;exact h1 u hm
     |succ j=>cases hx
    ·intro i j e x he hx;obtain⟨u,rfl,hu,_⟩:=he' i e he;cases j with
     |zero=>rw[Nat.mul_one,Nat.add_zero,getD_eq_getD_getElem?,hu];rfl
     |succ j=>cases hx
    ·intro i j e x he hx;obtain⟨u,rfl,hu,_⟩:=he' i e he;cases j with
     |zero=>cases hx;rw[getD_eq_getD_getElem?,hu];exact .v _
     |succ j=>cases hx
def E9:AV->Bool
  | .v (.int _ _)=>true
  |_=>false
def DD:AV->Bool
  | .v (.int _ _)=>false
  | .v _=>true
  | .lst _ _=>true
  | .ms _ _ _ _=>true
  |_=>false
mutual
def AV.li:AV->Bool
  | .v _=>true
  | .agg cs=>AV.lis cs
  | .tup cs=>AV.lis cs
  | .lst sz es=>Nat.beq sz 1&&es.all E9
  |_=>false
def AV.lis:List AV->Bool
  |[]=>true
  |x::l=>x.li&&AV.lis l
end
theorem AV.lis_mem:∀{l:List AV}{c:AV},AV.lis l=true->c∈l->c.li=true
 |x::l,c,h,hc=>by
  simp only[AV.lis,and_eq_true]at h;rcases List.mem_cons.1 hc with rfl |hc
  ·exact h.1
  ·exact AV.lis_mem h.2 hc
theorem QV{g:Nat->Array Value->Prop}{S:Nat->Nat->Prop}{m:Nat->Option Nat}{u:Value}{x:AV}(hx:DD x=true)(h:Rep g S m u x)(kk:IntKind)(z:Int):u≠.int kk z:=by
 rintro rfl;cases h <;> cases hx
theorem TS{g g':Nat->Array Value->Prop}{S S':Nat->Nat->Prop}{m m':Nat->Option Nat}{v:Value}{x:AV}(hx:x.li=true)
  (hg:∀b cs (o:Nat)(kk:IntKind)(z:Int),cs[o]?=some (.int kk z)->g b cs->g' b cs) (h:Rep g S m v x):Rep g' S' m' v x:=by
 induction h with
 |v=>exact .v _
 |agg hn h1 hr ih=>exact .agg hn h1 (fun j u c hu hc=>ih j u c hu hc (AV.lis_mem hx (mem_of_getElem? hc)))
 |tup hn hr ih=>exact .tup hn (fun j u c hu hc=>ih j u c hu hc (AV.lis_mem hx (mem_of_getElem? hc)))
 |lst0 a cap sz=>exact .lst0 _ _ _
 | @lst _ b off cap sz es cs u hb hc hl hs h1 hu hr _ =>
  simp only[AV.li,and_eq_true]at hx;have hsz:=eq_of_beq_eq_true hx.1;subst hsz
  match es,hx,hc,hl,hs,h1,hu,hr with
  |[],_,_,_,_,_,_,_=>exact .lst0 _ _ _
  |e::es,hx,hc,hl,hs,h1,hu,hr =>
   have hcell:∀(i j:Nat)(e' c:AV),(e::es)[i]?=some e'->e'.cells[j]?=some c->∃kk z,c=.v (.int kk z):=by
    intro i j e' c he hc';have h9:=List.all_eq_true.1 hx.2 e' (mem_of_getElem? he);cases e' with
    |v y=>cases y with
     |int kk z =>
      cases j with
      |zero=>cases hc';exact⟨_,_,rfl⟩
      |succ j=>cases hc'
     |_=>cases h9
    |_=>cases h9
   have he0:∃kk z,e=.v (.int kk z):=by
    have h9:=List.all_eq_true.1 hx.2 e (by simp);cases e with
    |v y=>cases y with
     |int kk z=>exact⟨_,_,rfl⟩
     |_=>cases h9
    |_=>cases h9
   obtain⟨kk,z,rfl⟩:=he0;have h8:=hu 0 0 _ _ rfl rfl;have h7:=hr 0 0 _ _ rfl rfl;have h6:u 0 0=.int kk z:=Hl h7;rw[h6]at h8;refine .lst u (hg b cs _ kk z h8 hb) hc hl hs h1 hu (fun i j e' c he hc'=>?_);obtain⟨k2,z2,rfl⟩:=hcell i j e' c he hc';rw[Hl (hr i j _ _ he hc')];exact .v _
 |_=>cases hx
theorem Con.lend{f:FuncId}{k:Nat}{cs:List AV}{cs':Value->List AV}{H:Hp}{r:AV}(hid:List Nat)(j0:Nat)(hk:lk H k=some (.box cs))(hkh:k∉hid)
  (hc:∀v:Value,v.oneCell'=true->(cs' v).length=cs.length/\(∀(j:Nat)(x:AV),(cs' v)[j]?=some x->x.one=true) /\
   ∀(j:Nat)(x x':AV),cs[j]?=some x->(cs' v)[j]?=some x'->(j=j0/\x'=.v v)\/Lent H hid x x')
  (hj:j0<cs.length)
  (hH:∀k z,lk H k=some z->k∈hid\/(∃cs,z=.box cs/\cs.all DD=true)\/∃vs,z=.vec vs/\∀v∈vs,∀kk z,v≠.int kk z) (hr:r.li=true) (h:∀v:Value,gP P f [.iptr (cs' v)] r):Con P f [.ptr k 0] H r H:=by
 refine⟨(h undef).ok,?_⟩;intro ext m w vs hext hheap hvs hrep;have hsz:0<vs.size:=by rw[hvs];exact Nat.one_pos
 have hr0:=hrep 0 vs[0] _ (Array.getElem?_eq_getElem hsz) rfl;have hb:=hheap.blk k _ hk;generalize hv0:vs[0]=v0 at hr0;cases hr0 with
 | @ptr _ _ _ b hmk =>
  rw[hmk]at hb;cases hb with
  | @box _ _ c t hw hn h1 hrr =>
   have hj0:j0<c.size:=by omega
   have hx0:=getElem?_eq_getElem (l:=cs) (i:=j0) oz;have hone:(c[j0]).oneCell'=true:=(hrr j0 _ _ (Array.getElem?_eq_getElem hj0) hx0).one (h1 j0 _ hx0);obtain⟨g1,g2,g3⟩:=hc c[j0] hone
   have hext':∀b,pz ext H hid m b->b<w.heap.size:=by
    rintro b (h9 |⟨k',z',_,h2,h3⟩)
    ·exact hext b h9
    ·exact(hheap.sep k' z' b h2 h3).2
   have hcall := (h c[j0]).ret (pz ext H hid m) m w vs hext' ⟨fun k z hz => by (cases hz), fun k k' x x' b hx => by (cases hx), fun k x b hx => by (cases hx)⟩ (by rw [hvs]; rfl) (by
    intro j v x hv hx
    match j,hx with
    |0,hx =>
     cases hx;rw[Array.getElem?_eq_getElem hsz,hv0]at hv;cases hv;refine .iptr (cs:=c) (fun j=>c.getD j undef) ⟨IQ hheap hk hmk hkh,v7,t,(0,0),hw⟩ g2 ?_ ?_
     ·intro j x hx;have hlt:j < c.size:=by rw [hn,<- g1]; exact (List.getElem?_eq_some_iff.1 hx).1
      rw[Nat.zero_add,getD_eq_getD_getElem?,Array.getElem?_eq_getElem hlt];rfl
     ·intro j x hx;have hlt:j < c.size:=by rw [hn,<- g1]; exact (List.getElem?_eq_some_iff.1 hx).1
      obtain⟨y,hy⟩:=iI g1 hx;have hcv:c[j]?=some (c.getD j undef):=by rw[getD_eq_getD_getElem?,Array.getElem?_eq_getElem hlt];rfl
      rcases g3 j y x hy hx with⟨rfl,rfl⟩ |hl
      ·have : c.getD j undef = c[j] := by rw [Array.getElem?_eq_getElem hlt] at hcv; exact (Option.some.inj hcv).symm
       rw[this];exact .v _
      ·exact hl.rep hheap (hrr j _ y hcv hy) df)
   refine Calls.mono hcall ?_;rintro e w' ⟨v,m',rfl,hf,hh,hnew,hkeep,hres⟩;have hkeepB:∀b,b<w.heap.size->w'.heap[b]?=w.heap[b]? := fun b hb=>hf.keep b hb v7
   have hframe:Frame (aY H m) w w':=⟨hf.os,hf.tape,hf.output,hf.size,hf.sz,fun b hb _=>hkeepB b hb⟩
   have him:=eJ (ext:=ext) hframe (hp':=H) (m':=m) (fun k x b hk hb=>.inl ⟨k,x,hk,hb⟩);refine⟨v,m,rfl,hframe,⟨?_,hheap.inj,?_⟩,fun k x b hk hb=>.inl ⟨k,x,hk,hb⟩,fun _ _ _ _ _=>rfl,?_⟩
   ·intro k z hz;exact BlkRep.mono (w:=w) him hf.sz (fun _ _ _ h=>h) rfl (fun b hb=>hkeepB b (hheap.sep k z b hz hb).2) (hheap.blk k z hz)
   ·intro k z b hz hb;have:=hheap.sep k z b hz hb;exact⟨this.1,lt_of_lt_of_le this.2 hf.size⟩
   ·refine TS hr ?_ hres;rintro b2 cs2 o kk z ho ⟨g1,g2,t2,fl,g3⟩;refine⟨fun h9=>g1 (.inl h9),?_,t2,fl,g3⟩;rintro⟨k2,y,hk2,hb2⟩;have hlt:=fun b hb=>(hheap.sep k2 _ b hk2 hb).2
    have h3:=hheap.blk k2 _ hk2;rw[hb2]at h3;rcases hH k2 y hk2 with h9 |⟨cl,rfl,hcl⟩ |⟨vs2,rfl,hvl⟩
    ·exact g1 (.inr ⟨k2,y,h9,hk2,hb2⟩)
    ·cases h3 with
     | @box _ _ c2 t' hw2 hn2 h12 hrr2 =>
      have hcc:c2=cs2:=by
       rw[hkeepB b2 (hlt b2 hb2),hw2]at g3
       injection g3 with g3
       injection g3
      subst hcc;have ho':o<c2.size:=(Array.getElem?_eq_some_iff.1 ho).1;have hx:=getElem?_eq_getElem (l:=cl) (i:=o) oz;exact QV (List.all_eq_true.1 hcl _ (mem_of_getElem? hx)) (hrr2 o _ _ ho hx) kk z rfl
    ·cases h3 with
     | @vec _ _ c2 t' hw2 hc2 h12 =>
      have hcc:c2=cs2:=by
       rw[hkeepB b2 (hlt b2 hb2),hw2]at g3
       injection g3 with g3
       injection g3
      subst hcc;have:Value.int kk z∈vs2:=by rw[<- hc2];exact Array.mem_toList_iff.2 (Array.mem_of_getElem? ho)
      exact hvl _ this kk z rfl
end Go.Lw
namespace Go.Lw
open Go.Proofs
def bv(xs:List Bool):List Value:=xs.map .bool
theorem f7(xs:List Bool):(bv xs).length=xs.length:=length_map _
theorem xd(xs:List Bool)(n:Nat):(bv xs).set n (.bool true)=bv (xs.set n true):=by unfold bv;rw[map_set]
theorem yX(xs:List Bool):∀v∈bv xs,∀kk z,v≠.int kk z:=by
 intro v hv kk z;obtain⟨b,_,rfl⟩:=List.mem_map.1 hv;exact fun h=>by cases h
theorem vO(xs:List Bool):(bv xs).map AV.v=xs.map bl:=by unfold bv;rw[map_map];rfl
theorem At(n:Nat):List.replicate n (Value.bool false)=bv (List.replicate n false):=by unfold bv;rw[map_replicate]
theorem KG(xs:List Int):(xs.map i64).all E9=true:=by
 rw[all_eq_true];intro x hx;obtain⟨b,_,rfl⟩:=List.mem_map.1 hx;rfl
theorem PP(g:Gr)(b:Bool):(AV.tup [g.av,bl b]).li=true:=by
 simp only[AV.li,AV.lis,Gr.av,KG];rfl
def o5(l:Li)(n:Nat):Blk:=.box (l.av.cells++[.ms 23 1 0 l.bo.length,.ms 27 1 0 l.bo.length,.ms 31 1 0 l.jo.length,.ms 900 4 0 n])
def mW(l:Li)(kw used:List Bool)(out:List Gr):Hp :=
  [(33,some (o5 l out.length)),(23,some (.vec (bv kw))),(27,some (.vec (bv (bX l)))),(31,some (.vec (bv used))),(900,some (.row 4 (out.map Gr.av)))]
theorem Ae{xs:List Bool}{n:Nat}(h:xs.length=n):AV.lst 1 ((((bv xs).drop 0).take n).map .v)=.lst 1 (xs.map bl):=by
 rw[drop_zero,take_of_length_le (by rw[f7];omega),vO]
theorem HG(l:Li)(hl:l.ok)(hli:ax l=0)(kw used:List Bool)(hk:kw.length=l.bo.length)(hu:used.length=l.jo.length)(hm:l.bo.length<=aV/\l.jo.length<=aV)(out:List Gr) :
  Con prog 339 [.ptr 33 0] (mW l kw used out) (.tup [((nextG l kw).getD default).av,bl (nextG l kw).isSome]) (mW l kw used out):=by
 refine Con.lend (cs:=l.av.cells++[.ms 23 1 0 l.bo.length,.ms 27 1 0 l.bo.length,.ms 31 1 0 l.jo.length,.ms 900 4 0 out.length])
  (cs':=fun v=>dL l kw (bX l) [.lst 1 (used.map bl),.v v]) [900] 7 rfl (by decide) ?_ (by simp[Li.av,AV.cells]) ?_ (PP _ _) (fun v=>MS l hl hli kw hk _)
 ·intro v hv;refine⟨rfl,?_,?_⟩
  ·intro j x hx
   match j,hx with
   |0,hx=>cases hx;rfl
   |1,hx=>cases hx;rfl
   |2,hx=>cases hx;rfl
   |3,hx=>cases hx;rfl
   |4,hx=>cases hx;rfl
   |5,hx=>cases hx;rfl
   |6,hx=>cases hx;rfl
   |7,hx=>cases hx;exact hv
   |j+8,hx=>cases hx
  ·intro j x x' hx hx'
   match j,hx,hx' with
   |0,hx,hx'=>cases hx;cases hx';exact .inr (.same rfl)
   |1,hx,hx'=>cases hx;cases hx';exact .inr (.same rfl)
   |2,hx,hx'=>cases hx;cases hx';exact .inr (.same rfl)
   |3,hx,hx'=>cases hx;cases hx';exact .inr (.same rfl)
   |4,hx,hx' =>
    cases hx;cases hx'
    have h:=Lent.ms (H:=mW l kw used out) (hid:=[900]) (k:=23) (off:=0) (len:=l.bo.length) (vs:=bv kw) rfl (by decide) (by rw[f7];omega) (by rw[f7];omega);rw[Ae hk]at h;exact .inr h
   |5,hx,hx' =>
    cases hx;cases hx'
    have h:=Lent.ms (H:=mW l kw used out) (hid:=[900]) (k:=27) (off:=0) (len:=l.bo.length) (vs:=bv (bX l)) rfl (by decide) (by rw[f7,tB];omega) (by rw[f7,tB];omega);rw[Ae (tB l)]at h;exact .inr h
   |6,hx,hx' =>
    cases hx;cases hx'
    have h:=Lent.ms (H:=mW l kw used out) (hid:=[900]) (k:=31) (off:=0) (len:=l.jo.length) (vs:=bv used) rfl (by decide) (by rw[f7];omega) (by rw[f7];omega);rw[Ae hu]at h;exact .inr h
   |7,hx,hx'=>cases hx;cases hx';exact .inl ⟨rfl,rfl⟩
   |j+8,hx,hx'=>cases hx
 ·intro k z hz;simp only[mW,aM]at hz;split at hz
  ·cases hz;exact .inr (.inl ⟨_,rfl,rfl⟩)
  split at hz
  ·cases hz;exact .inr (.inr ⟨_,rfl,yX _⟩)
  split at hz
  ·cases hz;exact .inr (.inr ⟨_,rfl,yX _⟩)
  split at hz
  ·cases hz;exact .inr (.inr ⟨_,rfl,yX _⟩)
  split at hz
  ·subst_vars;exact .inl (by decide)
  ·cases hz
def ql(l:Li):AV:=if ax l=0 then .iptr (dL l (bQ l) (bX l) [.lst 1 ((dQ l).map bl),.lst 4 ((findG l).map Gr.av)])else .v (.pointer none)
def ju(l:Li)(out:List Gr):List Bool:=out.foldl (fun k g=>bt k g.jo) (List.replicate l.jo.length false)
theorem yq(l:Li)(out:List Gr):(ju l out).length=l.jo.length:=by unfold ju;rw[p8,length_replicate]
theorem Uc(l:Li)(out:List Gr)(g:Gr):ju l (out++[g])=bt (ju l out) g.jo:=by unfold ju;rw[List.foldl_append];rfl
theorem BU{k:List Bool}{bs:List Int}{i:Nat}{b:Int}(h:bs[i]?=some b):bt k (bs.take (i+1))=(bt k (bs.take i)).set b.toNat true:=by
 unfold bt;rw[cS h,List.foldl_append];rfl
theorem NA{l:Li}(hli:ax l=0){kw:List Bool}{out:List Gr}{g:Gr}(hk:kw.length=l.bo.length)(h:findFrom l (dG kw) kw out=(bQ l,findG l))(hg:nextG l kw=some g) :
  findFrom l (dG (bt kw g.bo)) (bt kw g.bo) (out++[g])=(bQ l,findG l):=by
 have hlt:=rN hli hk hg;obtain⟨n,hn⟩:∃n,dG kw=n+1:=⟨dG kw-1,by omega⟩
 rw[hn]at h;unfold findFrom at h;rw[hg]at h;rw[<- h];exact AO hli _ _ _ _ (by rw[jz];exact hk) (le_refl _) oz
theorem Pk{l:Li}{kw:List Bool}{out:List Gr}(h:findFrom l (dG kw) kw out=(bQ l,findG l))(hg:nextG l kw=none):kw=bQ l/\out=findG l:=by
 cases hn:dG kw with
 |zero=>rw[hn]at h;exact⟨(Prod.mk.inj h).1,(Prod.mk.inj h).2⟩
 |succ n=>rw[hn]at h;unfold findFrom at h;rw[hg]at h;exact⟨(Prod.mk.inj h).1,(Prod.mk.inj h).2⟩
theorem Ow{n:Nat}:dG (cB n 0)<=n:=by
 unfold dG;exact le_trans List.countP_le_length (Nat.le_of_eq (gX _ _))
theorem Nv{l:Li}(hli:ax l=0):findFrom l (dG (cB l.bo.length 0)) (cB l.bo.length 0) []=(bQ l,findG l):=by
 rw[<- DM];exact AO hli _ _ _ _ (gX _ _) (le_refl _) Ow
theorem OD{l:Li}(hli:ax l=0){kw:List Bool}{out:List Gr}(hk:kw.length=l.bo.length)(h:findFrom l (dG kw) kw out=(bQ l,findG l)):out.length<=8:=by
 obtain⟨gs,e⟩:=zQ (l:=l) (dG kw) kw out;rw[e]at h;have h1:=(qe hli).2;have h2:out++gs=findG l:=(Prod.mk.inj h).2;rw[<- h2,length_append]at h1;omega
theorem RO(l:Li)(kw used:List Bool)(out:List Gr)(hk:kw.length=l.bo.length)(hu:used.length=l.jo.length)(hm:l.bo.length<=aV/\l.jo.length<=aV) :
  Wk ⟨[(5,some (.ptr 33 0))],mW l kw used out⟩ ⟨[(5,some (.iptr (dL l kw (bX l) [.lst 1 (used.map bl),.lst 4 (out.map Gr.av)])))],[]⟩:=by
 have hd:=tB l;have q1:.ms 23 1 0 l.bo.length=AV.ms 23 1 0 ((bv kw).map AV.v).length:=by rw[length_map,f7,hk]
 refine(Wk.of (sl:=[(5,some (.ptr 33 0))]) (hp:=[(33,some (o5 l out.length)),(23,some (.row 1 ((bv kw).map .v))),(27,some (.row 1 ((bv (bX l)).map .v))),(31,some (.row 1 ((bv used).map .v))),(900,some (.row 4 (out.map Gr.av)))])
  (.k .nil) (.k (.cons rfl (.vecRow (by rw[f7];omega)) (.cons rfl (.vecRow (by rw[f7];omega)) (.cons rfl (.vecRow (by rw[f7];omega)) (.k .nil)))))).trans ?_
 refine(Wk.freeze (k:=23) rfl).trans ?_
 refine(Wk.of (sl:=[(5,some (.ptr 33 0))]) (hp:=[(33,some (.box (l.av.cells++[.lst 1 (kw.map bl),.ms 27 1 0 l.bo.length,.ms 31 1 0 l.jo.length,.ms 900 4 0 out.length]))),(27,some (.row 1 ((bv (bX l)).map .v))),(31,some (.row 1 ((bv used).map .v))),(900,some (.row 4 (out.map Gr.av)))])
  (.k .nil) (.cons rfl (BlkSub.bL (.cons (.refl _) (.cons (.refl _) (.cons (.refl _) (.cons (.refl _) (.cons (.of ((bI (by rw[length_map,f7,hk])).trans (by rw[vO]))) (.cons (.refl _) (.cons (.refl _) (.cons (.refl _) .nil)))))))) rfl) (.k (.k (.k .nil))))).trans ?_
 refine(Wk.freeze (k:=27) rfl).trans ?_
 refine(Wk.of (sl:=[(5,some (.ptr 33 0))]) (hp:=[(33,some (.box (l.av.cells++[.lst 1 (kw.map bl),.lst 1 ((bX l).map bl),.ms 31 1 0 l.jo.length,.ms 900 4 0 out.length]))),(31,some (.row 1 ((bv used).map .v))),(900,some (.row 4 (out.map Gr.av)))])
  (.k .nil) (.cons rfl (BlkSub.bL (.cons (.refl _) (.cons (.refl _) (.cons (.refl _) (.cons (.refl _) (.cons (.refl _) (.cons (.of ((bI (by rw[length_map,f7,hd])).trans (by rw[vO]))) (.cons (.refl _) (.cons (.refl _) .nil)))))))) rfl) (.k (.k .nil)))).trans ?_
 refine(Wk.freeze (k:=31) rfl).trans ?_
 refine(Wk.of (sl:=[(5,some (.ptr 33 0))]) (hp:=[(33,some (.box (l.av.cells++[.lst 1 (kw.map bl),.lst 1 ((bX l).map bl),.lst 1 (used.map bl),.ms 900 4 0 out.length]))),(900,some (.row 4 (out.map Gr.av)))])
  (.k .nil) (.cons rfl (BlkSub.bL (.cons (.refl _) (.cons (.refl _) (.cons (.refl _) (.cons (.refl _) (.cons (.refl _) (.cons (.refl _) (.cons (.of ((bI (by rw[length_map,f7,hu])).trans (by rw[vO]))) (.cons (.refl _) .nil)))))))) rfl) (.k .nil))).trans ?_
 refine(Wk.freeze (k:=900) rfl).trans ?_
 refine(Wk.of (sl:=[(5,some (.ptr 33 0))]) (hp:=[(33,some (.box (dL l kw (bX l) [.lst 1 (used.map bl),.lst 4 (out.map Gr.av)])))])
  (.k .nil) (.cons rfl (BlkSub.bL (.cons (.refl _) (.cons (.refl _) (.cons (.refl _) (.cons (.refl _) (.cons (.refl _) (.cons (.refl _) (.cons (.refl _) (.cons (.of (bI (by rw[length_map]))) .nil)))))))) rfl) .nil)).trans ?_
 refine(Wk.freezeB (k:=33) rfl rfl).trans ?_;exact Wk.of (.k .nil) .nil
theorem OO(l:Li)(hl:l.ok):FP 250 [l.av] (.tup [ql l,bh (ax l)]):=by
 refine ah func250 ?_;refine gc (xg l hl) ?_;refine gC (fun t17=>?_) (fun t17=>?_)
 ·have h1:=cT t17;refine br ?_;unfold ql;rw[if_neg h1]
 have hli:=da t17;have h8:=(cA hli).2.2.2.1;have h0:=(cA hli).2.2.2.2;have hj16:l.jo.length<=16:=by have:=(cA hli).2.1;unfold ep at this;split at this;cases this;omega
 have hld:=hl.ld;have hm:l.bo.length<=aV/\l.jo.length<=aV:=by unfold aV;omega
 refine gl ?_;refine gs (Ad (.tmp rfl) T219 rfl T4 rfl rfl rfl rfl (by dsimp only;omega) rfl) ?_;refine gl ?_;refine gs (Ad (.tmp rfl) T219 rfl T4 rfl rfl rfl rfl (by dsimp only;omega) rfl) ?_;refine gl ?_;refine gs (Ad (.tmp rfl) T219 rfl T4 rfl rfl rfl rfl (by dsimp only;omega) rfl) ?_;refine gD ?_;refine gs (bT (n:=0) (.tmp rfl) (.const _) T219 rfl T4 rfl rfl oz rfl) ?_;refine gs (vW (.tmp rfl) rfl (by rw[length_replicate];omega) (.const _) rfl T4 rfl) ?_ (6,0);refine gW (Wk.of (sl:=[(1,some (.ptr 1 0)),(5,some (.ptr 33 0))]) (hp:=[(1,some (.box l.av.cells)),(33,some (.box (l.av.cells++[.ms 23 1 0 l.bo.length,.ms 27 1 0 l.bo.length,.ms 31 1 0 l.jo.length,nS]))),(23,some (.vec (bv (cB l.bo.length 0)))),(27,some (.vec (bv (List.replicate l.bo.length false)))),(31,some (.vec (bv (List.replicate l.jo.length false))))]) aQ (.k (.k (.cons rfl (BlkSub.of (by rw[At,xd];rfl)) (.cons rfl (BlkSub.of (by rw[At])) (.cons rfl (BlkSub.of (by rw[At])) .nil)))))) ?_
 refine gl ?_;refine aJ [1,5,40,41] [1,23,31] (fun(i:Nat)=>[(42,some (i64 i))]) (fun i=>[(33,some (.box (l.av.cells++[.ms 23 1 0 l.bo.length,.ms 27 1 0 l.bo.length,.ms 31 1 0 l.jo.length,nS]))),(27,some (.vec (bv (bt (List.replicate l.bo.length false) ((l.dv.map Dr.body).take i)))))]) (fun i=>i<=l.dv.length) (fun i=>l.dv.length-i) 0 (zero_le _) ?_;rintro i hi K1 J1;refine gC (fun t43=>?_) (fun t43=>?_) (st2:=(11,0))
 ·have hin:=aT t43;obtain⟨d,hd⟩:=aq hin;have hb:=di (lI hli hd);have hmt:=BU (k:=List.replicate l.bo.length false) (bs:=l.dv.map Dr.body) (i:=i) (b:=d.body) (by rw[getElem?_map,hd];rfl);refine gi (au hd) ?_;refine gs (bT (n:=d.body.toNat) (.tmp rfl) (.tmp rfl) T219 rfl T4 rfl oz oz rfl) ?_;refine gs (vW (.tmp rfl) rfl (by rw[f7,jz,length_replicate];omega) (.const _) rfl T4 rfl) ?_;refine gD ?_;refine ga aE ?_;exact aD J1 (i+1) hin (hw:=Wk.of aQ (.k (.cons rfl (BlkSub.of (by rw[xd,hmt])) (.k (.k (.k .nil))))))
 have hin:=a5 hi t43;have hall:bt (List.replicate l.bo.length false) ((l.dv.map Dr.body).take i)=bX l:=by rw[hin];unfold bX;rw[take_of_length_le (by rw[length_map];omega)]
 refine gW ((Wk.virt 900 4 rfl).trans<|Wk.of (sl:=[(1,some (.ptr 1 0)),(5,some (.ptr 33 0))]) (hp:=[(33,some (o5 l 0)),(23,some (.vec (bv (cB l.bo.length 0)))),(27,some (.vec (bv (bX l)))),(31,some (.vec (bv (List.replicate l.jo.length false)))),(900,some (.row 4 []))]) aQ (.cons rfl (BlkSub.bL (.cons (.refl _) (.cons (.refl _) (.cons (.refl _) (.cons (.refl _) (.cons (.refl _) (.cons (.refl _) (.cons (.refl _) (.cons (Sub.nM _ _ _) .nil)))))))) rfl) (.k (.cons rfl (BlkSub.of (by rw[hall])) (.k (.k .nil)))))) ?_
 refine gt (aA (HG l hl hli (cB l.bo.length 0) (List.replicate l.jo.length false) (gX _ _) length_replicate hm []) (cr rfl) (fun k z h=>h) rfl rfl) ?_;refine gw [5,8] [] (fun(kw:List Bool)(out:List Gr)=>[(9,some (bl (nextG l kw).isSome))]) (fun kw out=>[(8,some (.box ((nextG l kw).getD default).av.cells)),(33,some (o5 l out.length)),(23,some (.vec (bv kw))),(27,some (.vec (bv (bX l)))),(31,some (.vec (bv (ju l out)))),(900,some (.row 4 (out.map Gr.av)))]) (fun kw out=>kw.length=l.bo.length/\findFrom l (dG kw) kw out=(bQ l,findG l)) (fun kw _=>dG kw) (cB l.bo.length 0) ([]) ⟨gX _ _,Nv hli⟩ ?_
 rintro kw out ⟨hk,hf⟩ K2 J2;refine gC (fun t59=>?_) (fun t59=>?_) (st1:=(77777,0)) (st2:=(27,0))
 ·obtain ⟨g, hg⟩:=ye t59;have hgo:=wK hli hg;have hout:=OD hli hk hf;refine gW (Wk.of (sl:=[(5,some (.ptr 33 0)),(8,some (.ptr 8 0))]) (hp:=[(8,some (.box g.av.cells)),(33,some (o5 l out.length)),(23,some (.vec (bv kw))),(27,some (.vec (bv (bX l)))),(31,some (.vec (bv (ju l out)))),(900,some (.row 4 (out.map Gr.av)))]) aQ (.cons rfl (BlkSub.of (by rw [hg]; rfl)) (.k (.k (.k (.k (.k .nil))))))) ?_;refine gl ?_;refine aJ [5,8,66,67] [8,33,27,31,900] (fun (j:Nat)=>[(68,some (i64 j))]) (fun j=>[(23,some (.vec (bv (bt kw (g.bo.take j)))))]) (fun j=>j <= g.bo.length) (fun j=>g.bo.length - j) 0 (zero_le _) ?_;rintro j hj K3 J3;refine gC (fun t69=>?_) (fun t69=>?_)
  ·have hin:=aT t69;obtain⟨b,hb⟩:=aq hin;have hbb:=hgo.b b (mem_of_getElem? hb);have hlb:=hgo.lb;refine gi (au hb) ?_;refine gs (bT (n:=b.toNat) (.tmp rfl) (.tmp rfl) T219 rfl T4 rfl oz oz rfl) ?_;refine gs (vW (.tmp rfl) rfl (by rw[f7,jz];omega) (.const _) rfl T4 rfl) ?_;refine ga aE ?_;exact aD J3 (j+1) hin (hw:=Wk.of aQ (.cons rfl (BlkSub.of (by rw[xd,BU hb])) (.k (.k (.k (.k (.k .nil)))))))
  have hin:=a5 hj t69;subst hin;refine gl ?_;refine aJ [5,8,80,81] [8,33,27,900] (fun(q:Nat)=>[(82,some (i64 q))]) (fun q=>[(23,some (.vec (bv (bt kw g.bo)))),(31,some (.vec (bv (bt (ju l out) (g.jo.take q)))))]) (fun q=>q<=g.jo.length) (fun q=>g.jo.length-q) 0 (zero_le _) ?_ (h2:=(.cons rfl (BlkSub.of (by rw[take_length])) (.k .nil)));rintro q hq K4 J4;refine gC (fun t83=>?_) (fun t83=>?_)
  ·have hin:=aT t83;obtain⟨b,hb⟩:=aq hin;have hbb:=hgo.j b (mem_of_getElem? hb);have hlj:=hgo.lj;refine gi (au hb) ?_;refine gs (bT (n:=b.toNat) (.tmp rfl) (.tmp rfl) T219 rfl T4 rfl oz oz rfl) ?_;refine gs (vW (.tmp rfl) rfl (by rw[f7,jz,yq];omega) (.const _) rfl T4 rfl) ?_;refine ga aE ?_;exact aD J4 (q+1) hin (hw:=Wk.of aQ (.k (.cons rfl (BlkSub.of (by rw[xd,BU hb])) (.k (.k (.k (.k .nil)))))))
  have hin:=a5 hq t83;subst hin;refine gs (bR (.tmp rfl) rfl (by rw[length_map]) (.tmp rfl) T32 rfl T53 rfl rfl (by simp only[length_cons,length_nil];omega) rfl rfl) ?_;refine gD ?_ (25,0);refine gW (Wk.of (sl:=[(5,some (.ptr 33 0)),(8,some (.ptr 8 0))]) (hp:=[(8,some (.box g.av.cells)),(33,some (.box (l.av.cells++[.ms 23 1 0 l.bo.length,.ms 27 1 0 l.bo.length,.ms 31 1 0 l.jo.length,.ms 100 4 0 (out++[g]).length]))),(100,some (.row 4 ((out++[g]).map Gr.av))),(23,some (.vec (bv (bt kw g.bo)))),(27,some (.vec (bv (bX l)))),(31,some (.vec (bv (ju l (out++[g])))))]) aQ (.k (.cons rfl (BlkSub.of (by rw[length_append];rfl)) (.cons rfl (BlkSub.of (by rw[map_append];rfl)) (.k (.k (.cons rfl (BlkSub.of (by rw[Uc,take_length])) .nil))))))) ?_ (25,0)
  refine gW (Wk.rk (k:=100) (d:=900) rfl rfl) ?_ (26,0);refine gW (Wk.o (sl:=[(5,some (.ptr 33 0)),(103,some (g.av))]) (hp:=[(33,some (o5 l (out++[g]).length)),(23,some (.vec (bv (bt kw g.bo)))),(27,some (.vec (bv (bX l)))),(31,some (.vec (bv (ju l (out++[g]))))),(900,some (.row 4 ((out++[g]).map Gr.av)))])) ?_;refine gt (aA (HG l hl hli (bt kw g.bo) (ju l (out++[g])) (by rw[jz];exact hk) (yq _ _) hm (out++[g])) (cr rfl) (by intro k z h;simp only[mW,aM]at h;split at h;(subst_vars;exact h);split at h;(subst_vars;exact h);split at h;(subst_vars;exact h);split at h;(subst_vars;exact h);split at h;(subst_vars;exact h);cases h) rfl rfl) ?_;exact fQ J2 (bt kw g.bo) (out++[g]) ⟨by rw[jz];exact hk,NA hli hk hf hg⟩ (rN hli hk hg)
 have hg:=BF t59;obtain⟨e1,e2⟩:=Pk hf hg;subst e1 e2;refine gW (Wk.o (sl:=[(5,some (.ptr 33 0))]) (hp:=[(33,some (o5 l (findG l).length)),(23,some (.vec (bv (bQ l)))),(27,some (.vec (bv (bX l)))),(31,some (.vec (bv (ju l (findG l))))),(900,some (.row 4 ((findG l).map Gr.av)))])) ?_ (27,0);refine gW (RO l (bQ l) (ju l (findG l)) (findG l) hk (yq _ _) hm) ?_;refine br ?_;unfold ql;rw[if_pos hli,hli];rfl
theorem Ep{α:Type}[BEq α][LawfulBEq α]{xs:List α}{b:α}{ok:Nat->Bool}(h:∀i x,xs[i]?=some x->ok i=!(b==x)):decide (0<=iY (cw xs.length ok))=xs.contains b:=by
 cases hf:cw xs.length ok with
 |some i =>
  obtain⟨h1,h2⟩:=fa hf;obtain⟨x,hx⟩:=aq h1;rw[h i x hx]at h2;have:b=x:=by simpa using h2
  subst this;rw[List.contains_iff_mem.2 (mem_of_getElem? hx)];exact decide_eq_true (by show(0:Int)<=(i:Int);omega)
 |none =>
  rw[decide_eq_false (by show ¬(0:Int) <= -1;decide)]
  symm
  rw[<- Bool.not_eq_true,List.contains_iff_mem];intro hm;obtain⟨i,hi⟩:=List.mem_iff_getElem?.1 hm;have hlt:=(List.getElem?_eq_some_iff.1 hi).1;unfold cw at hf;rw[List.find?_eq_none]at hf;have:=hf i (List.mem_range.2 hlt);rw[h i b hi]at this;simp at this
theorem Ku(xs:List Bool)(b:Bool)(hl:xs.length<=281474976710656):FP 340 [.lst 1 (xs.map bl),bl b] (i64 (iY (cw xs.length (fun i=>!(b==xs.getD i false))))):=by
 refine ah func340 ?_;refine gl ?_;refine aJ [0,1,7] [] (fun(i:Nat)=>[(8,some (i64 i))]) (fun _=>[]) (fun i=>i<=xs.length/\∀j,j<i->(!(b==xs.getD j false))=true) (fun i=>xs.length-i) 0 ⟨zero_le _,fun j h=>by omega⟩ ?_;rintro i ⟨hi,hj⟩ K1 J1;refine gC (fun t9=>?_) (fun t9=>?_)
 ·have hin:=aT t9;obtain⟨x,hx⟩:=aq hin;have hg:xs.getD i false=x:=aB hx;refine gi (au hx) ?_;refine gC (fun t16=>?_) (fun t16=>?_)
  ·have h2:(b==x)=true:=t16;refine af ?_;rw[gq hin hj (by rw[hg,h2];rfl)];rfl
  have h2:(b==x)=false:=t16;refine ga aE ?_;exact aD J1 (i+1) ⟨hin,fun j h9=>by rcases lt_or_ge j i with g |g;exact hj j g;(have:j=i:=by omega);subst this;rw[hg,h2];rfl⟩
 have hin:=a5 hi t9;subst hin;refine af ?_;rw[fC hj];rfl
theorem Gs(xs:List Bool)(b:Bool)(hl:xs.length<=281474976710656):FP 251 [.lst 1 (xs.map bl),bl b] (bl (xs.contains b)):=by
 refine ah func251 ?_;refine gc (Ku xs b hl) ?_;refine af ?_;rw[<- Ep (xs:=xs) (b:=b) (ok:=fun i=>!(b==xs.getD i false)) (fun i x hx=>by rw[aB hx])];rfl
theorem L6(xs:List Int)(b:Int)(hl:xs.length<=281474976710656):FP 341 [.lst 1 (xs.map i64),i64 b] (i64 (iY (cw xs.length (fun i=>!(b==xs.getD i 0))))):=by
 refine ah func341 ?_;refine gl ?_;refine aJ [0,1,7] [] (fun(i:Nat)=>[(8,some (i64 i))]) (fun _=>[]) (fun i=>i<=xs.length/\∀j,j<i->(!(b==xs.getD j 0))=true) (fun i=>xs.length-i) 0 ⟨zero_le _,fun j h=>by omega⟩ ?_;rintro i ⟨hi,hj⟩ K1 J1;refine gC (fun t9=>?_) (fun t9=>?_)
 ·have hin:=aT t9;obtain⟨x,hx⟩:=aq hin;have hg:xs.getD i 0=x:=aB hx;refine gi (au hx) ?_;refine gC (fun t16=>?_) (fun t16=>?_)
  ·have h2:(b==x)=true:=t16;refine af ?_;rw[gq hin hj (by rw[hg,h2];rfl)];rfl
  have h2:(b==x)=false:=t16;refine ga aE ?_;exact aD J1 (i+1) ⟨hin,fun j h9=>by rcases lt_or_ge j i with g |g;exact hj j g;(have:j=i:=by omega);subst this;rw[hg,h2];rfl⟩
 have hin:=a5 hi t9;subst hin;refine af ?_;rw[fC hj];rfl
theorem DC(xs:List Int)(b:Int)(hl:xs.length<=281474976710656):FP 253 [.lst 1 (xs.map i64),i64 b] (bl (xs.contains b)):=by
 refine ah func253 ?_;refine gc (L6 xs b hl) ?_;refine af ?_;rw[<- Ep (xs:=xs) (b:=b) (ok:=fun i=>!(b==xs.getD i 0)) (fun i x hx=>by rw[aB hx])];rfl
theorem AW(l:Li)(hl:l.ok):FP 143 [l.av] (.tup [.lst 4 (((if ax l=0 then splitG l else[])).map Gr.av),bh (if ax l=0 then splitE l else ax l)]):=by
 refine ah func143 ?_;refine gc (OO l hl) (hnm:=(by unfold ql;split <;> rfl)) ?_;refine gC (fun t12=>?_) (fun t12=>?_) (st2:=(77777,0))
 ·have h1:=cT t12;refine gR ?_;exact dp (by rw[if_neg h1,if_neg h1];exact Sub.tup (.cons (.nil _ _ _) (.cons (.refl _) .nil)))
 have hli:=da t12;have h8:=(cA hli).2.2.2.1;have hj16:l.jo.length<=16:=by have:=(cA hli).2.1;unfold ep at this;split at this;cases this;omega
 have lk1:(bQ l).length=l.bo.length:=by unfold bQ;rw[p8,gX]
 have lk2:(dQ l).length=l.jo.length:=by unfold dQ;rw[p8,length_replicate]
 have e1:ql l=.iptr (dL l (bQ l) (bX l) [.lst 1 ((dQ l).map bl),.lst 4 ((findG l).map Gr.av)]):=by unfold ql;rw[if_pos hli]
 have c1:=xh (k:=bQ l);have c2:=xh (k:=dQ l);refine gW (Wk.of (sl:=[(4,some (.iptr (dL l (bQ l) (bX l) [.lst 1 ((dQ l).map bl),.lst 4 ((findG l).map Gr.av)]))),(5,some (bh (ax l)))]) (hp:=[]) (.cons rfl (Sub.of e1) (.k .nil)) .nil) ?_;refine gc (Gs (bQ l) false oz) ?_;refine bF (fun _=>(Gs (dQ l) false oz)) ?_;refine gC (fun t25=>?_) (fun t25=>?_)
 ·have h2:splitE l=7:=by
   unfold splitE;rw[if_neg];intro h;have h3:(bQ l).contains false=false:=c1.1 oz;have h4:(dQ l).contains false=false:=c2.1 oz;rw[h3,h4]at t25;cases t25
  refine gR ?_;exact dp (by rw[if_pos hli,if_pos hli];unfold splitG;rw[if_neg (by rw[h2];simp),h2];exact Sub.tup (.cons (.nil _ _ _) (.cons (.refl _) .nil)))
 have h2:splitE l=0:=by
  unfold splitE;rw[if_pos];cases h3:(bQ l).contains false <;> cases h4:(dQ l).contains false <;> rw[h3,h4]at t25 <;> first |(cases t25;done) |(have g1:=c1.2 h3;have g2:=c2.2 h4;omega)
 refine br ?_;rw[if_pos hli,if_pos hli,h2];unfold splitG;rw[if_pos h2];rfl
def SO(ys:List Int)(i:Nat):Prop:=∀p q,p<q->q<i->ys.getD p 0<=ys.getD q 0
def SI(ys:List Int)(i j:Nat):Prop:=∀p q,p<q->q<=i->q≠j->ys.getD p 0<=ys.getD q 0
theorem Vn{xs ys:List Int}{i:Nat}(hp:ys.Perm xs)(hi:ys.length<=i)(h:SO ys i):ys=er xs:=by
 refine MU hp (List.pairwise_iff_getElem.2 fun p q hp hq hpq=>?_);have h1:=h p q hpq oz;rw[aB (getElem?_eq_getElem hp),aB (getElem?_eq_getElem hq)]at h1;exact h1
theorem Qo{ys:List Int}{i:Nat}(h:SO ys i):SI ys i i:=fun p q h1 h2 h3=>h p q h1 oz
theorem RD{ys:List Int}{i j:Nat}(h:SI ys i j)(hj:j=0\/ys.getD (j-1) 0<=ys.getD j 0):SO ys (i+1):=by
 intro p q h1 h2
 by_cases hq:q=j
 ·subst hq;rcases hj with hj |hj
  ·omega
  ·by_cases hp:p=q-1
   ·subst hp;exact hj
   ·exact Int.le_trans (h p (q-1) oz oz oz) hj
 ·exact h p q h1 oz hq
theorem I9(ys:List Int)(i:Nat)(x:Int)(p:Nat)(hi:i<ys.length):(ys.set i x).getD p 0=if p=i then x else ys.getD p 0:=by
 rw[getD_eq_getElem?_getD,getD_eq_getElem?_getD,List.getElem?_set]
 by_cases h:i=p
 ·subst h;simp[hi]
 ·rw[if_neg h,if_neg (fun e=>h e.symm)]
theorem Kp{ys:List Int}{i j:Nat}(h:SI ys i j)(hj:0<j)(hi:j<=i)(hl:i<ys.length)(hlt:ys.getD j 0<ys.getD (j-1) 0):SI ((ys.set j (ys.getD (j-1) 0)).set (j-1) (ys.getD j 0)) i (j-1):=by
 intro p q h1 h2 h3
 have e:∀r,((ys.set j (ys.getD (j-1) 0)).set (j-1) (ys.getD j 0)).getD r 0=if r=j-1 then ys.getD j 0 else if r=j then ys.getD (j-1) 0 else ys.getD r 0:=fun r=>by
  rw[I9 _ _ _ _ (by rw[length_set];omega),I9 _ _ _ _ oz]
 rw[e,e,if_neg h3]
 by_cases hq:q=j
 ·rw[if_pos hq]
  by_cases hp:p=j-1
  ·rw[if_pos hp];omega
  ·rw[if_neg hp,if_neg oz];exact h p (j-1) oz oz oz
 ·rw[if_neg hq]
  by_cases hp:p=j-1
  ·rw[if_pos hp];exact h j q oz h2 hq
  ·rw[if_neg hp]
   by_cases hp2:p=j
   ·rw[if_pos hp2];exact h (j-1) q oz h2 hq
   ·rw[if_neg hp2];exact h p q h1 h2 hq
theorem PM{ys:List Int}{j:Nat}{a b:Int}(ha:ys[j]?=some a)(hb:ys[j-1]?=some b):((ys.set j b).set (j-1) a).Perm ys:=by
 obtain⟨h1,rfl⟩:=List.getElem?_eq_some_iff.1 ha;obtain⟨h2,rfl⟩:=List.getElem?_eq_some_iff.1 hb;exact List.set_set_perm h1 h2
theorem N5{j:Nat}{a b:Int}(h:cond (aa .gtr (j:Int) 0) (decide (a<b)) false=true):0<j/\a<b:=by
 cases h1:aa .gtr (j:Int) 0 <;> rw[h1]at h
 ·cases h
 ·exact⟨jg (b:=0) h1,of_decide_eq_true h⟩
theorem Ju{j:Nat}{a b:Int}(h:cond (aa .gtr (j:Int) 0) (decide (a<b)) false=false):j=0\/b<=a:=by
 cases h1:aa .gtr (j:Int) 0 <;> rw[h1]at h
 ·have:=gN (b:=0) h1;omega
 ·have h2:decide (a<b)=false:=h;have:=of_decide_eq_false h2;omega
theorem Vx(ys:List Int)(j:Nat)(a b:Int):((ys.map i64).set j (i64 b)).set (j-1) (i64 a)=((ys.set j b).set (j-1) a).map i64:=by rw[map_set,map_set]
theorem Fb(a:Int):FP 384 [i64 a] (bl false):=by
 refine ah func384 ?_;refine af ?_;simp[aa];rfl
theorem NY(a b:Int):FP 348 [i64 a,i64 b] (bl (decide (a<b))):=by
 refine ah func348 ?_;refine gc (Fb a) ?_;refine bF (fun _=>(Fb b)) ?_;refine af ?_
 first |rfl |(simp;done)
theorem VF(xs:List Int)(hl:xs.length<=12):Con prog 342 [.ms 1000 1 0 xs.length,i64 0,i64 xs.length] [(1000,some (.row 1 (xs.map i64)))] (.tup []) [(1000,some (.row 1 ((er xs).map i64)))]:=by
 refine gF func342 (fun k z h=>bB h) ?_;refine ga (show _=((1:Nat):Int)from rfl) ?_;refine gw [1,2] [] (fun(ys:List Int)(i:Nat)=>[(0,some (.ms 1000 1 0 xs.length)),(6,some (i64 i))]) (fun ys _=>[(1000,some (.row 1 (ys.map i64)))]) (fun ys i=>ys.length=xs.length/\ys.Perm xs/\1<=i/\SO ys i) (fun _ i=>xs.length+1-i) xs 1 ⟨rfl,.refl _,le_refl _,fun p q h1 h2=>by omega⟩ ?_;rintro ys i ⟨hyl,hyp,hi1,hso⟩ K1 J1;refine gC (fun t12=>?_) (fun t12=>?_)
 ·have hin:=aT t12;refine gw [1,2,6] [] (fun (zs:List Int) (j:Nat)=>[(0,some (.ms 1000 1 0 xs.length)),(7,some (i64 j))]) (fun zs _=>[(1000,some (.row 1 (zs.map i64)))]) (fun zs j=>zs.length = xs.length /\ zs.Perm xs /\ j <= i /\ SI zs i j) (fun _ j=>j) ys i ⟨hyl,hyp,le_refl _,Qo hso⟩ ?_;rintro zs j ⟨hzl,hzp,hji,hsi⟩ K2 J2;obtain ⟨a,ha⟩:=aq (show j < zs.length by omega);obtain ⟨b,hb⟩:=aq (show j - 1 < zs.length by omega);refine gs (ef rfl rfl rfl (fun h=>bT (n:=j) (.opt rfl (o1 h)) (.opt rfl (o1 h)) T39 rfl T3 rfl oz oz rfl)) ?_;refine gs (ef rfl rfl rfl (fun h=>dW (.opt rfl (o1 h)) rfl (au ha) T3 rfl rfl rfl)) ?_;refine nK (fun h=>(jm (jg (b:=0) h) (by unfold aV; omega))) ?_;refine gs (ef rfl rfl rfl (fun h=>bT (n:=(j - 1)) (.opt rfl (o1 h)) (.opt rfl (o1 h)) T39 rfl T3 rfl oz oz rfl)) ?_;refine gs (ef rfl rfl rfl (fun h=>dW (.opt rfl (o1 h)) rfl (au hb) T3 rfl rfl rfl)) ?_;refine bF (fun _=>(NY a b)) ?_;refine gD ?_;refine gC (fun t30=>?_) (fun t30=>?_)
  ·obtain⟨hj0,hab⟩:=N5 t30;refine ga (jm hj0 (by unfold aV;omega)) ?_;refine ga (jm hj0 (by unfold aV;omega)) ?_;refine gs (bT (n:=(j-1)) (.tmp rfl) (.tmp rfl) T39 rfl T3 rfl oz oz rfl) ?_;refine gs (dW (.tmp rfl) rfl (au hb) T3 rfl rfl rfl) ?_;refine gs (bT (n:=j) (.tmp rfl) (.tmp rfl) T39 rfl T3 rfl oz oz rfl) ?_;refine gs (dW (.tmp rfl) rfl (au ha) T3 rfl rfl rfl) ?_;refine gs (bT (n:=j) (.tmp rfl) (.tmp rfl) T39 rfl T3 rfl oz oz rfl) ?_;refine gs (dw (.tmp rfl) rfl (au ha) rfl (.tmp rfl) rfl rfl T3 rfl rfl) ?_;refine gs (bT (n:=(j-1)) (.tmp rfl) (.tmp rfl) T39 rfl T3 rfl oz oz rfl) ?_;refine gs (dw (.tmp rfl) rfl ((List.getElem?_set_ne oz).trans (au hb)) rfl (.tmp rfl) rfl rfl T3 rfl rfl) ?_;refine gD ?_;refine ga (jm hj0 (by unfold aV;omega)) ?_;exact fQ J2 ((zs.set j b).set (j-1) a) (j-1) ⟨by rw[length_set,length_set];exact hzl,(PM ha hb).trans hzp,by omega,by have h9:=Kp hsi hj0 hji oz (by rw[aB ha,aB hb];exact hab);rw[aB ha,aB hb]at h9;exact h9⟩ (hw:=Wk.of aQ (.cons rfl (BlkSub.of (congrArg (Blk.row 1) (Vx zs j a b))) .nil))
  have hs:=Ju t30;refine ga aE ?_;exact fQ J1 zs (i+1) ⟨hzl,hzp,by omega,RD hsi (by rw[aB ha,aB hb];exact hs)⟩
 have hin:=tK t12;refine gR ?_;exact aw.own2 rfl (by rw[<- Vn hyp oz hso]) rfl
theorem Qy(xs:List Int)(hl:xs.length<=12)(m:Int):Con prog 254 [.ms 1000 1 0 xs.length,i64 0,i64 xs.length,i64 m] [(1000,some (.row 1 (xs.map i64)))] (.tup []) [(1000,some (.row 1 ((er xs).map i64)))]:=by
 refine gF func254 (fun k z h=>bB h) ?_;refine OU [1,2,3,8,9] [1000] [(0,some (.ms 1000 1 0 xs.length))] [] (True) (0) trivial ?_;rintro-K1 J1;refine ga (dA oz) ?_;refine gC (fun t23=>?_) (fun t23=>?_) (st2:=(77777,0))
 ·refine gt (aA (VF xs hl) (aG rfl rfl rfl) aC rfl rfl) ?_;refine gR ?_;exact aw.own2 rfl rfl rfl
 (rw[show aa .leq ((xs.length:Int)-0) 12=true from decide_eq_true oz]at t23;cases t23)
theorem JE(x:Nat)(hx:x<256):FP 352 [u64 x] (i64 (aZ x)):=by
 refine ah func352 ?_;refine gC (fun t4=>?_) (fun t4=>?_) (st1:=(2,0))
 ·(have:=t4;simp[aa]at this;omega)
 refine gC (fun t8=>?_) (fun t8=>?_) (st1:=(5,0))
 ·(have:=t8;simp[aa]at this;omega)
 refine gC (fun t14=>?_) (fun t14=>?_) (st1:=(8,0))
 ·(have:=t14;simp[aa]at this;omega)
 refine gv (jx hx) ?_;refine gs (rS (y:=x) (.const _) (.tmp rfl) T9 rfl (by kernel_rfl) (by first |rfl |omega) oz rfl) ?_;refine gv (i64_in (by have:=iy hx;omega)) ?_;refine ga (cV (by have:=iy hx;omega)) ?_;refine af ?_;simp only[i64];congr 2;omega
theorem Vc(x:Nat)(hx:x<256):FP 255 [u64 x] (i64 (aZ x)):=by
 refine ah func255 ?_;refine gC (fun hcfalse=>?_) (fun hcfalse=>?_) (st1:=(1,0));cases hcfalse;refine gc (JE x hx) ?_;refine af ?_
 first |rfl |(simp;done)
theorem JS(xs:List Int)(hl:xs.length<=12):Con prog 146 [.ms 1000 1 0 xs.length] [(1000,some (.row 1 (xs.map i64)))] (.tup []) [(1000,some (.row 1 ((er xs).map i64)))]:=by
 refine gF func146 (fun k z h=>bB h) ?_;refine gv (show IntKind.u64.wrap _=((xs.length:Nat):Int)from u64_in oz) ?_;refine gc (Vc xs.length oz) ?_;refine gt (aA (Qy xs hl _) (.cons (.tmp rfl) (.cons (.const _) (bp rfl rfl))) aC rfl rfl) ?_;refine gR ?_;exact aw.own2 rfl rfl rfl
theorem PF{l:Li}{g:Gr}{i:Nat}{z:Int}{j:Jt}(hz:g.jo[i]?=some z)(hj:l.jo[z.toNat]?=some j):(fB l g)[i]?=some (jl g j):=by
 unfold fB;rw[getElem?_map,hz,Option.map_some,aB hj]
theorem zR{l:Li}{g:Gr}{i:Nat}{z:Int}{j:Jt}{a:Int}(hz:g.jo[i]?=some z)(hj:l.jo[z.toNat]?=some j)(ha:jl g j=a):((fB l g).take i).map i64++[i64 a]=((fB l g).take (i+1)).map i64:=by
 rw[cS (PF hz hj),ha,map_append];rfl
theorem VI{z:Int}{n:Nat}(h0:0<=z)(h1:z<n):cond (aa .lss z 0) true (aa .geq z (n:Int))=false:=by
 rw[show aa .lss z 0=false from decide_eq_false oz];exact decide_eq_false oz
theorem NJ(l:Li)(hl:l.ok)(hli:ax l=0)(g:Gr)(hg:GrOk l g):Con prog 145 [l.av,g.av] [] (.tup [.ms 900 1 0 g.jo.length,.v .nilIface]) [(900,some (.row 1 ((fB l g).map i64)))]:=by
 have hlb:=hg.lb;have hlj:=hg.lj;refine gF func145 (fun k z h=>by cases h) ?_;refine gc (xg l hl) ?_;refine gC (fun t16=>?_) (fun t16=>?_) (st1:=(3,0))
 ·(rw[hli]at t16;cases t16)
 refine gl ?_;refine gW ((Wk.virt 900 1 rfl).trans<|Wk.of (sl:=[(2,some (.ptr 2 0)),(3,some (.ptr 3 0)),(7,some (.ms 900 1 0 0)),(19,some (.lst 1 (g.jo.map i64))),(20,some (i64 g.jo.length)),(21,some (i64 0))]) (hp:=[(2,some (.box l.av.cells)),(3,some (.box g.av.cells)),(900,some (.row 1 []))]) (.k (.k (.cons rfl (Sub.nM _ _ _) (.k (.k (.k .nil)))))) (.k (.k (.k .nil)))) ?_;refine aJ [2,3,19,20] [2,3] (fun(i:Nat)=>[(7,some (.ms 900 1 0 i)),(21,some (i64 i))]) (fun i=>[(900,some (.row 1 (((fB l g).take i).map i64)))]) (fun i=>i<=g.jo.length) (fun i=>g.jo.length-i) 0 (zero_le _) ?_;rintro i hi K1 J1;refine gC (fun t22=>?_) (fun t22=>?_) (st2:=(18,0))
 ·have hin:=aT t22;obtain ⟨z,hz⟩:=aq hin;obtain ⟨z0,z1⟩:=hg.j z (mem_of_getElem? hz);obtain ⟨j,hj⟩:∃ j,l.jo[z.toNat]? = some j:=aq oz;have hlt:(((fB l g).take i).map i64).length = i:=by rw [length_map,length_take,qu]; omega
  refine gi (au hz) ?_;refine bP ?_;refine gC (fun t33=>?_) (fun t33=>?_) (st1:=(9,0))
  ·(rw[VI z0 z1]at t33;cases t33)
  refine gi (f9 (n:=z.toNat) oz hj) ?_;refine gc (DC g.bo j.a oz) ?_;refine gc (DC g.bo j.b oz) ?_;refine gD ?_;refine gC (fun t55=>?_) (fun t55=>?_)
  ·have ha : jl g j = -1 := by unfold jl; cases h1 : g.bo.contains j.a <;> cases h2 : g.bo.contains j.b <;> rw [h1, h2] at t55 <;> first | (cases t55; done) | rfl
   refine gs (bR (.tmp rfl) rfl hlt.symm (.tmp rfl) T39 rfl T3 rfl rfl (by simp only[length_cons,length_nil];omega) rfl rfl) ?_ (17,0);refine gW (Wk.of (sl:=[(2,some (.ptr 2 0)),(3,some (.ptr 3 0)),(7,some (.ms 62 1 0 (i+1))),(19,some (.lst 1 (g.jo.map i64))),(20,some (i64 g.jo.length)),(21,some (i64 i))]) (hp:=[(2,some (.box l.av.cells)),(3,some (.box g.av.cells)),(62,some (.row 1 (((fB l g).take (i+1)).map i64)))]) aQ (.k (.k (.cons rfl (BlkSub.of (congrArg (Blk.row 1) (zR hz hj ha))) .nil)))) ?_ (17,0);refine gW (Wk.rk (k:=62) (d:=900) rfl rfl) ?_;refine ga aE ?_;exact aD J1 (i+1) hin
  refine gC (fun t63=>?_) (fun t63=>?_)
  ·have ha : jl g j = j.b := by unfold jl; cases h1 : g.bo.contains j.a <;> cases h2 : g.bo.contains j.b <;> rw [h1] at t63 <;> rw [h1, h2] at t55 <;> first | (cases t55; done) | (cases t63; done) | rfl
   refine gs (bR (.tmp rfl) rfl hlt.symm (.tmp rfl) T39 rfl T3 rfl rfl (by simp only[length_cons,length_nil];omega) rfl rfl) ?_ (17,0);refine gW (Wk.of (sl:=[(2,some (.ptr 2 0)),(3,some (.ptr 3 0)),(7,some (.ms 69 1 0 (i+1))),(19,some (.lst 1 (g.jo.map i64))),(20,some (i64 g.jo.length)),(21,some (i64 i))]) (hp:=[(2,some (.box l.av.cells)),(3,some (.box g.av.cells)),(69,some (.row 1 (((fB l g).take (i+1)).map i64)))]) aQ (.k (.k (.cons rfl (BlkSub.of (congrArg (Blk.row 1) (zR hz hj ha))) .nil)))) ?_ (17,0);refine gW (Wk.rk (k:=69) (d:=900) rfl rfl) ?_;refine ga aE ?_;exact aD J1 (i+1) hin
  have ha:jl g j=j.a:=by unfold jl;rw[if_neg (by rw[show g.bo.contains j.a=false from t63];simp)]
  refine gs (bR (.tmp rfl) rfl hlt.symm (.tmp rfl) T39 rfl T3 rfl rfl (by simp only[length_cons,length_nil];omega) rfl rfl) ?_ (17,0);refine gW (Wk.of (sl:=[(2,some (.ptr 2 0)),(3,some (.ptr 3 0)),(7,some (.ms 54 1 0 (i+1))),(19,some (.lst 1 (g.jo.map i64))),(20,some (i64 g.jo.length)),(21,some (i64 i))]) (hp:=[(2,some (.box l.av.cells)),(3,some (.box g.av.cells)),(54,some (.row 1 (((fB l g).take (i+1)).map i64)))]) aQ (.k (.k (.cons rfl (BlkSub.of (congrArg (Blk.row 1) (zR hz hj ha))) .nil)))) ?_ (17,0);refine gW (Wk.rk (k:=54) (d:=900) rfl rfl) ?_;refine ga aE ?_;exact aD J1 (i+1) hin
 have hin:=a5 hi t22;subst hin;refine gW (Wk.of (sl:=[(7,some (.ms 900 1 0 g.jo.length))]) (hp:=[(900,some (.row 1 ((fB l g).map i64)))]) aQ (.cons rfl (BlkSub.of (by rw[take_of_length_le (by rw[qu];exact le_refl _)])) .nil)) ?_;refine gR ?_;exact aw.keep (bc rfl)
section
variable{ts:LL}{u k:Nat}{a b a2 b2:List Rat}{x y x2 y2:Et ts}{w v w' v' w2 v2 w3 v3:Nat}
theorem xN(c:Ct ts u k)(h:w+v+(w'+v')<=10000):w*u+v*k+(w'*u+v'*k)+1<=lm ts.length:=by
 have h1:=Dz c (w:=w+w') (v:=v+v') (m:=10000) oz;have h2:=jN ts.length;rw[vE];omega
theorem G5(c:Ct ts u k){R:Nat}(h:eB R ts.length<=k):2*(2500*1000000+2500*1000000+kB R ts.length)<=lm ts.length:=by
 have h1:=c.kk h;have h2:=jN ts.length;omega
theorem Ua [c : Ct ts u k] [ha : Zl ts u k a x w v] [hb : Zl ts u k b y w' v'] (h : w + v + (w' + v') <= 10000 := by decide) : FP 356 [aN ts, nA a, nA b] (.tup [nA (sX (x + y)), .v .nilIface]) := by
 obtain⟨R,tw,hk⟩:=c.ex;have h0:=xN c h;have h1:=yy tw ha.nm hb.nm oz;rw[ha.eq,hb.eq]at h1;exact h1
theorem Em [c : Ct ts u k] [ha : Zl ts u k a x w v] [hb : Zl ts u k b y w' v'] (h : w + v + (w' + v') <= 10000 := by decide) : FP 176 [aN ts, nA a, nA b] (.tup [nA (sX (x - y)), .v .nilIface]) := by
 obtain⟨R,tw,hk⟩:=c.ex;have h0:=xN c h;have h1:=o7 tw ha.nm hb.nm oz;rw[ha.eq,hb.eq]at h1;exact h1
theorem CR [c : Ct ts u k] [ha : Zl ts u k a x w v] [hb : Zl ts u k b y w' v'] (h : w + v + (w' + v') <= 10000 := by decide) : FP 127 [aN ts, nA a, nA b] (.tup [nA (sX (x * y)), .v .nilIface]) := by
 obtain⟨R,tw,hk⟩:=c.ex;have h0:=xN c h;have h1:=AY tw ha.nm hb.nm oz;rw[ha.eq,hb.eq]at h1;exact h1
theorem Nc [c : Ct ts u k] [ha : Zl ts u k a x w v] [hb : Zl ts u k b y w' v'] [ha2 : Zl ts u k a2 x2 w2 v2] [hb2 : Zl ts u k b2 y2 w3 v3] (h : w + v + (w' + v') + (w2 + v2 + (w3 + v3)) <= 2500 := by decide) :
  FP 80 [aN ts,aI a b,aI a2 b2] (.tup [nA (sX (dotE x y x2 y2)),.v .nilIface]):=by
 obtain⟨R,tw,hk⟩:=c.ex;have h0:=G5 c hk;have h1:=tz (e:=2500*1000000) tw (ha.up c oz) (hb.up c oz) (ha2.up c oz) (hb2.up c oz) oz;rw[ha.eq,hb.eq,ha2.eq,hb2.eq]at h1;exact h1
def atXE(c s X:Et ts)(p q:Rat):Et ts:=(c*qE p-s*qE q)+X
def atYE(c s Y:Et ts)(p q:Rat):Et ts:=(s*qE p+c*qE q)+Y
instance Zu.atXE[c:Ct ts u k]{x y z:Et ts}{p q:Rat}{w1 v1 w2 v2 w3 v3 w4 w5:Nat}[Zu u k x w1 v1][Zu u k y w2 v2][Zu u k z w3 v3][Qz u p w4][Qz u q w5]:Zu u k (atXE x y z p q) (w1+w4+(w2+w5)+w3) (v1+0+1+(v2+0+1)+1+v3+1) :=
  (inferInstance:Zu u k ((x*Lw.qE p-y*Lw.qE q)+z) _ _)
instance Zu.atYE[c:Ct ts u k]{x y z:Et ts}{p q:Rat}{w1 v1 w2 v2 w3 v3 w4 w5:Nat}[Zu u k x w1 v1][Zu u k y w2 v2][Zu u k z w3 v3][Qz u p w4][Qz u q w5]:Zu u k (atYE x y z p q) (w2+w4+(w1+w5)+w3) (v2+0+1+(v1+0+1)+1+v3+1) :=
  (inferInstance:Zu u k ((y*Lw.qE p+x*Lw.qE q)+z) _ _)
end
abbrev NT(l:Li)(g:Gr)(a:As):List AV:=[.v (.string l.name),.lst 2 (l.bo.map Bd.av),.lst 7 (l.jo.map Jt.av),.lst 2 (l.dv.map Dr.av),i64 g.kind,.lst 1 (g.bo.map i64),.lst 1 (g.jo.map i64),i64 g.driver,
  .lst 1 (a.rs.map nR),.lst 4 (a.bs.map Pl.av),.lst 1 (a.ms.map i64),.v .nilIface]
abbrev b9(l:Li)(g:Gr)(a:As):Blk:=.box (NT l g a)
def qH(e:Nat):AV:=if e=0 then .ptr 900 0 else .v (.pointer none)
def Ek(e:Nat)(l:Li)(g:Gr)(a:As):Hp:=if e=0 then[(900,some (b9 l g a))]else[]
theorem lc{e:Nat}(h:e≠0):qH e=.v (.pointer none):=if_neg h
theorem qS{e:Nat}{l:Li}{g:Gr}{a:As}(h:e≠0):Ek e l g a=[]:=if_neg h
theorem DT(l:Li)(g:Gr):cP l g true=fB l g++g.bo:=rfl
theorem DA(l:Li)(g:Gr):cP l g false=fB l g:=by unfold cP;simp
theorem Ks{rs:List (List Rt)}{b:Pl}{i:Nat}{x:List Rt}(h:bA rs=0)(hx:b.l[i]?=some x)(hb:∀y∈b.l.take i,bW rs.length y=0)(hn:bW rs.length x≠0):bg rs b.l=bW rs.length x:=vt h hx hb hn
theorem J8{l:Li}{g:Gr}{a:As}{own:Bool}{j:Nat}{b:Int}(hb:(er (cP l g own))[j]?=some b)(hj:∀c∈(er (cP l g own)).take j,fY a c=0)(hn:fY a b≠0):eg ((er (cP l g own)).map (fY a))=fY a b:=by
 have h1:er (cP l g own)=(er (cP l g own)).take j++b::(er (cP l g own)).drop (j+1):=by
  obtain⟨hi,e⟩:=List.getElem?_eq_some_iff.1 hb;rw[<- e,<- List.drop_eq_getElem_cons hi,List.take_append_drop]
 generalize er (cP l g own)=xs at *;rw[h1,map_append,tD _ _ (oh hj),map_cons,HE,if_pos hn]
theorem FC(l:Li)(hl:l.ok)(k:Int)(a:As)(al:AB a)(own:Bool) :
  Con prog 63 [l.av,i64 k,a.av,bl own] [] (.tup [qH (ft l k a own),bh (ft l k a own)]) (Ek (ft l k a own) l (iN l k) a):=by
 have hbl:=al.bl;refine gF func63 (fun k z h=>by cases h) ?_;refine gc (AW l hl) ?_;refine gC (fun t27=>?_) (fun t27=>?_)
 ·have h1:=cT t27;refine gR ?_;rw[Q7 rfl h1,lc h1,qS h1];exact kD rfl
 have h1:=da t27;obtain⟨hli,hsp⟩:=H2 h1;rw[show(if ax l=0 then splitG l else[])=splitG l from if_pos hli];have hbs:=(cA hli).2.2.2.1;have hgl:=(qe hli).2;have hsg:splitG l=findG l:=by unfold splitG;rw[if_pos hsp]
 refine bP ?_;refine gC (fun t36=>?_) (fun t36=>?_)
 ·have h2:=NW t36;have he:ft l k a own=9:=(qo hli).trans (Uu hsp h2);refine gR ?_;rw[he,lc (by decide),qS (by decide)];exact kD rfl
 have h2:=Qh t36;refine gl ?_;refine gl ?_;refine gC (fun t44=>?_) (fun t44=>?_)
 ·have h3:=vQ t44;have he:ft l k a own=10:=(qo hli).trans (Pa hsp h2 h3);refine gR ?_;rw[he,lc (by decide),qS (by decide)];exact kD rfl
 have h3:=AK t44;refine gc (ri a.rs 400000000 al.tr) ?_;refine gC (fun t50=>?_) (fun t50=>?_)
 ·have h4:=cT t50;refine gR ?_;rw[(qo hli).trans (Vd hsp h2 h3 h4),lc h4,qS h4];exact kD rfl
 have h4:=da t50;obtain⟨i,rfl,hi⟩:=Tg h2;obtain⟨g,hg⟩:=aq hi;obtain⟨hgd,hgo⟩:=pM hli (mem_of_getElem? hg);have hgA:iN l (i:Nat)=g:=aB hg;rw[hgA];have he5:ft l (i:Nat) a own=eg ((er (cP l g own)).map (fY a)):=by rw[<- hgA];exact(qo hli).trans (FV hsp h2 h3 h4)
 have hnl:(cP l g own).length<=5:=VJ hgo;have hgb:=hgo.lb;have hgj:=hgo.lj;refine gi (au hg) ?_;refine gt (aA (NJ l hl hli g hgo) (bp rfl rfl) aC rfl rfl) ?_;refine gD ?_;refine gC (fun t62=>?_) (fun t62=>?_) (st1:=(13,0));cases t62;refine Ao [1,4,6,10] [4,6] [(13,some (.ms 900 1 0 (cP l g own).length))] [(900,some (.row 1 ((cP l g own).map i64)))] (True) ?_ ?_
 ·intro K1 J1;refine gC (fun t64=>?_) (fun t64=>?_)
  ·have ho:own=true:=t64;subst ho;refine gi (au hg) ?_;refine gs (bR (.tmp rfl) rfl (by rw[length_map,qu]) (.tmp rfl) T39 rfl T3 rfl rfl (by simp only[length_map];omega) rfl rfl) ?_;exact nJ J1 trivial (hw:=(Wk.of (sl:=[(1,some (i64 i)),(4,some (.ptr 4 0)),(6,some (.ptr 6 0)),(10,some (.lst 4 ((splitG l).map Gr.av))),(13,some (.ms 71 1 0 (cP l g true).length))]) (hp:=[(4,some (.box l.av.cells)),(6,some (.box a.av.cells)),(71,some (.row 1 ((cP l g true).map i64)))]) (.k (.k (.k (.k (.cons rfl (Sub.of (by rw[DT,length_append,qu,length_map])) .nil))))) (.k (.k (.cons rfl (BlkSub.of (by rw[DT,map_append])) .nil)))).trans<|(Wk.rk (k:=71) (d:=900) rfl rfl).trans<|Wk.o)
  have ho:own=false:=t64;subst ho;exact nJ J1 trivial (hw:=Wk.of (.cons rfl (Sub.of (by rw[DA,qu])) (.k (.k (.k (.k .nil))))) (.cons rfl (BlkSub.of (by rw[DA])) (.k (.k .nil))))
 rintro -;refine gt (aA (Con.rk 900 rfl rfl (JS (cP l g own) oz)) (cr rfl) aC rfl rfl) ?_ (17,0);refine gW ((Wk.freeze (k:=900) rfl).trans<|Wk.of (sl:=[(1,some (i64 i)),(4,some (.ptr 4 0)),(6,some (.ptr 6 0)),(10,some (.lst 4 ((splitG l).map Gr.av))),(13,some (.lst 1 ((er (cP l g own)).map i64)))]) (hp:=[(4,some (.box l.av.cells)),(6,some (.box a.av.cells))]) (.k (.k (.k (.k (.cons rfl (Sub.of (bI (by rw[length_map,Gk]))) .nil))))) (.k (.k .nil))) ?_;refine gl ?_;refine aJ [1,4,6,10,74,75] [4,6] (fun(j:Nat)=>[(76,some (i64 j))]) (fun _=>[]) (fun j=>j<=(er (cP l g own)).length/\∀b∈(er (cP l g own)).take j,fY a b=0) (fun j=>(er (cP l g own)).length-j) 0 ⟨zero_le _,fun b hb=>by simp at hb⟩ ?_;rintro j ⟨hj,hjz⟩ K2 J2;refine gC (fun t77=>?_) (fun t77=>?_)
 ·have hjn:=aT t77;obtain ⟨b,hb⟩:=aq hjn;have hbm:=BH.1 (mem_of_getElem? hb);have hbr:=BC hli hgo b hbm;have hsl:(er (cP l g own)).length <= 5:=by rw [Gk]; exact hnl
  refine gi (au hb) ?_;refine gC (fun t81=>?_) (fun t81=>?_)
  ·have hz : fY a b = 0 := by unfold fY; rw [if_pos (by simpa [aa] using t81)]
   refine ga aE ?_;exact aD J2 (j+1) ⟨hjn,fun c hc=>by rw[cS hb]at hc;rcases List.mem_append.1 hc with h9 |h9;exact hjz c h9;(rw[List.mem_singleton.1 h9];exact hz)⟩
  have hb0:0<=b:=by have:=of_decide_eq_false (p:=b<0) t81;omega
  obtain⟨p,hp⟩:=aq (l:=a.bs) (i:=b.toNat) oz;have hpn:=al.nr p (mem_of_getElem? hp);have hnd:fY a b=bg a.rs p.l:=by unfold fY;rw[if_neg oz,aB hp]
  refine gi (f9 (n:=b.toNat) oz hp) ?_;refine ge rfl ?_;refine aJ [1,4,6,10,74,75,76,95,96] [4,6] (fun(q:Nat)=>[(97,some (i64 q))]) (fun _=>[]) (fun q=>q<=4/\∀x∈p.l.take q,bW a.rs.length x=0) (fun q=>4-q) 0 ⟨zero_le _,fun x hx=>by simp at hx⟩ ?_;rintro q ⟨hq,hqz⟩ K3 J3;refine gC (fun t98=>?_) (fun t98=>?_)
  ·have hqn:q<4:=aT (b:=4) t98;obtain⟨x,hx⟩:∃x,p.l[q]?=some x:=aq (show q<p.l.length from hqn);have hxn:=hpn x (mem_of_getElem? hx);have hone:bg a.rs [x]=bW a.rs.length x:=Ji h4;refine gi (au hx) ?_;refine gc (Hv a.rs 400000000 al.tr x 50000000000 hxn (KU _)) ?_;refine gC (fun t109=>?_) (fun t109=>?_)
   ·have h5:=cT t109;rw [hone] at h5 ⊢;have h6:fY a b = bW a.rs.length x:=hnd.trans (Ks h4 hx hqz h5);have h7:ft l (i:Nat) a own = bW a.rs.length x:=by rw [he5,J8 hb hjz (by rw [h6]; exact h5),h6]
    refine gR ?_;rw[h7,lc h5,qS h5];exact kD rfl
   have h5:=da t109;rw[hone]at h5;refine ga aE ?_;exact aD J3 (q+1) ⟨hqn,fun z hz=>by rw[cS hx]at hz;rcases List.mem_append.1 hz with h9 |h9;exact hqz z h9;(rw[List.mem_singleton.1 h9];exact h5)⟩
  have hqn:q=4:=a5 (b:=4) hq t98;subst hqn;have hqz:∀x∈p.l,bW a.rs.length x=0:=hqz;refine ga aE ?_;exact aD J2 (j+1) ⟨hjn,fun c hc=>by rw[cS hb]at hc;rcases List.mem_append.1 hc with h9 |h9;exact hjz c h9;(rw[List.mem_singleton.1 h9,hnd];exact p7 h4 hqz)⟩
 have hjn:=a5 hj t77
 have h8:ft l (i:Nat) a own=0:=by
  rw[he5];exact oh (fun b hb=>hjz b (by rw[hjn,take_length];exact hb))
 refine gi (au hg) ?_;refine gD ?_ (77777,0);refine gW (Wk.o (sl:=[(8,some (.ptr 120 0)),(9,some (.v .nilIface))]) (hp:=[(120,some (b9 l g a))])) ?_ (77777,0);refine gW (Wk.rk (k:=120) (d:=900) rfl rfl) ?_;refine gR ?_;rw[h8];exact aw.keep (bc rfl)
theorem xy{ts:LL}{r e:Nat}(tw:Tw ts r){a b c d:List Rat}(ha:Nm ts.length e a)(hb:Nm ts.length e b)(hc:Nm ts.length e c)(hd:Nm ts.length e d)(he:2*e<=lm ts.length) :
  FP 76 [aN ts,aI a b,aI c d] (.tup [aI (sh ts.length (subT ts (ae ts.length a) (ae ts.length c))) (sh ts.length (subT ts (ae ts.length b) (ae ts.length d))),.v .nilIface]):=by
 refine ah func76 ?_;refine gc (oe (e:=e) tw [(a,b),(c,d)] (by simp only[mem_cons,not_mem_nil,or_false];rintro p (rfl |rfl);exact⟨ha,hb⟩;exact⟨hc,hd⟩) oz (by simp)) ?_;refine gC (fun t16=>?_) (fun t16=>?_) (st1:=(3,0));cases t16;refine gt (aA (Con.rB 21 rfl rfl rfl rfl (vM tw ha hb hc hd he)) (aG rfl rfl rfl) aC rfl rfl) ?_;refine gt (aA (Con.rB 21 rfl rfl rfl rfl (wc _ _ _)) (bp rfl rfl) aC rfl rfl) ?_;refine br ?_;rfl
theorem BR{ts:LL}{r e:Nat}(tw:Tw ts r){a b c d:List Rat}(ha:Nm ts.length e a)(hb:Nm ts.length e b)(hc:Nm ts.length e c)(hd:Nm ts.length e d)(he:2*(e+e+kB r ts.length)<=lm ts.length) :
  FP 77 [aN ts,aI a b,aI c d] (.tup [nA (sh ts.length (mK ts (ae ts.length a) (ae ts.length b) (ae ts.length c) (ae ts.length d))),.v .nilIface]):=by
 refine ah func77 ?_;refine gc (Con.sA (.cons (.refl _) (.cons (.refl _) (.cons (.refl _) (.cons (Sub.fn0 _) .nil)))) (CJ tw ha hb hc hd oz _ _ (FW tw ha hb hc hd he))) ?_;refine br ?_
 first |rfl |(simp;done)
section
variable{ts:LL}{u k:Nat}{a b a2 b2:List Rat}{x y x2 y2:Et ts}{w v w' v' w2 v2 w3 v3:Nat}
theorem Oe [c : Ct ts u k] [ha : Zl ts u k a x w v] [hb : Zl ts u k b y w' v'] [ha2 : Zl ts u k a2 x2 w2 v2] [hb2 : Zl ts u k b2 y2 w3 v3] (h : w + v + (w' + v') + (w2 + v2 + (w3 + v3)) <= 2500 := by decide) :
  FP 76 [aN ts,aI a b,aI a2 b2] (.tup [aI (sX (x-x2)) (sX (y-y2)),.v .nilIface]):=by
 obtain⟨R,tw,hk⟩:=c.ex;have h0:=G5 c hk;have h1:=xy (e:=2500*1000000) tw (ha.up c oz) (hb.up c oz) (ha2.up c oz) (hb2.up c oz) oz;rw[ha.eq,hb.eq,ha2.eq,hb2.eq]at h1;exact h1
end
variable{P:Program}{N:Nat}{R:Array Oper}{s:AS}{pos:String}{after:Array Edge}
theorem aR{d f k:Nat}{bx:Blk}{args:Array Operand}{ts:Array TypeId}{xs:List AV}{r:AV}{t:TypeId}
  (hcon:Con P f xs [(k,some bx)] r [(k,some bx)]) (ha:EvL s args.toList xs) (hk:s.blk k=some bx) (hok:iL s [(k,some bx)] [(k,some bx)] r=true) (hN:Nat.blt d N=true) :
  Step P N R s ⟨some d,.call ⟨.value (.func f),args,ts⟩,t,pos,after,none⟩ ⟨some r,[],ek args.toList,[k]⟩:=by
 refine Step.weaken (aA (d:=d) hcon ha (fun k' z h=>by
  obtain⟨rfl,h9⟩:=fq h;cases h9;exact hk) hok hN) (fun s' h=>h) (fun s' h k' hk'=>?_) (fun s' h=>?_)
 ·left;simp only[map_append,db,map_cons,map_nil,mem_append,mem_cons,not_mem_nil,or_false]at hk' ⊢;rcases hk' with h9 |h9 <;> exact h9
 ·intro C m a w hr;refine⟨m,hr.weak (fun t x hx=>⟨x,hx,.refl _⟩) (fun k' x hx=>⟨x,?_,.refl _⟩)⟩;have hb:lk s'.hp k=some bx:=(h.2 k (List.mem_singleton.2 rfl)).trans hk;show lk ([(k,some bx)]++db [(k,some bx)]++s'.hp) k'=some x;have hx':lk s'.hp k'=some x:=hx;simp only[db,map_cons,map_nil,List.cons_append,nil_append,aM]
  by_cases e:k'=k
  ·rw[if_pos e];rw[e,hb]at hx';exact hx'
  ·rw[if_neg e,if_neg e];exact hx'
theorem nF{k1 k2 k':Nat}{x y:Option Blk}{z:Blk}(h:lk [(k1,x),(k2,y)] k'=some z):(k'=k1/\x=some z)\/(k'≠k1/\k'=k2/\y=some z):=by
 rw[aM]at h
 by_cases e:k'=k1
 ·rw[if_pos e]at h;exact .inl ⟨e,h⟩
 ·rw[if_neg e]at h;obtain⟨h1,h2⟩:=fq h;exact .inr ⟨e,h1,h2⟩
theorem mQ{k1 k2:Nat}{x y:Option Blk}:lk [(k1,x),(k2,y)] k1=x:=by rw[aM,if_pos rfl]
theorem mV{k1 k2:Nat}{x y:Option Blk}(h:k1≠k2):lk [(k1,x),(k2,y)] k2=y:=by rw[aM,if_neg (fun e=>h e.symm),aM,if_pos rfl]
theorem Gf{k1 k2:Nat}(hne:k1≠k2){x y:Blk}{m:Nat->Option Nat}{b:Nat}:aY [(k1,some x),(k2,some y)] m b↔m k1=some b\/m k2=some b:=by
 constructor
 ·rintro⟨k',z,hz,hb⟩;rcases nF hz with⟨e,_⟩ |⟨_,e,_⟩
  ·exact .inl (e▸hb)
  ·exact .inr (e▸hb)
 ·rintro(h |h)
  ·exact⟨k1,x,mQ,h⟩
  ·exact⟨k2,y,mV hne,h⟩
theorem Fl{k1 k2 d1 d2:Nat}(hk:k1≠k2)(hd:d1≠d2){x y x' y':Blk}{m m2:Nat->Option Nat}(h1:m2 d1=m k1)(h2:m2 d2=m k2):aY [(d1,some x'),(d2,some y')] m2=aY [(k1,some x),(k2,some y)] m:=by
 funext b;apply propext;rw[Gf hk,Gf hd,h1,h2]
theorem Ax{ext:Nat->Prop}{k1 k2 d1 d2:Nat}(hk:k1≠k2)(hd:d1≠d2){x y x' y':Blk}{m m2:Nat->Option Nat}{w:World}(h1:m2 d1=m k1)(h2:m2 d2=m k2):Im ext [(d1,some x'),(d2,some y')] m2 w=Im ext [(k1,some x),(k2,some y)] m w:=by
 funext b cs;simp only[Im,Fl hk hd (x:=x) (y:=y) (x':=x') (y':=y') h1 h2]
theorem FZ{ext:Nat->Prop}{k1 k2 d1 d2:Nat}(hk:k1≠k2)(hd:d1≠d2){x y:Blk}{m m2:Nat->Option Nat}{w:World}(hx:x.nm=[])(hy:y.nm=[])(h1:m2 d1=m k1)(h2:m2 d2=m k2)
  (hr:HeapRel ext [(k1,some x),(k2,some y)] m w):HeapRel ext [(d1,some x),(d2,some y)] m2 w:=by
 refine⟨?_,?_,?_⟩
 ·intro k' z hz;rw[Ax hk hd (x:=x) (y:=y) h1 h2];rcases nF hz with⟨rfl,h9⟩ |⟨_,rfl,h9⟩
  ·cases h9;exact BlkRep.mono (w:=w) (fun _ _ h=>h) (fun _ _ h=>h) (fun _ _ hn=>(AJ hx hn).elim) h1 (fun _ _=>rfl) (hr.blk k1 _ mQ)
  ·cases h9;exact BlkRep.mono (w:=w) (fun _ _ h=>h) (fun _ _ h=>h) (fun _ _ hn=>(AJ hy hn).elim) h2 (fun _ _=>rfl) (hr.blk k2 _ (mV hk))
 ·intro k k' z z' b hz hz' hb hb';rcases nF hz with⟨rfl,_⟩ |⟨_,rfl,_⟩ <;> rcases nF hz' with⟨rfl,_⟩ |⟨_,rfl,_⟩
  ·rfl
  ·exact absurd (hr.inj k1 k2 _ _ b mQ (mV hk) (h1▸hb) (h2▸hb')) hk
  ·exact absurd (hr.inj k1 k2 _ _ b mQ (mV hk) (h1▸hb') (h2▸hb)) hk
  ·rfl
 ·intro k' z b hz hb;rcases nF hz with⟨rfl,h9⟩ |⟨_,rfl,h9⟩
  ·exact hr.sep k1 _ b mQ (h1▸hb)
  ·exact hr.sep k2 _ b (mV hk) (h2▸hb)
theorem Con.rekeyBB{P:Program}{f:FuncId}{k1 k2 o1 o2:Nat}{x y x' y':Blk}{xs:List AV}{r:AV}(d1 d2:Nat)(hk:k1≠k2)(hd:d1≠d2)(hx:x.nm=[])(hy:y.nm=[])(hx':x'.nm=[])(hy':y'.nm=[])(hxs:(xs.all fun x=>x.nm.isEmpty)=true)(hr:r.nm=[])
  (h:Con P f (.ptr k1 o1 :: .ptr k2 o2::xs) [(k1,some x),(k2,some y)] r [(k1,some x'),(k2,some y')]):Con P f (.ptr d1 o1 :: .ptr d2 o2::xs) [(d1,some x),(d2,some y)] r [(d1,some x'),(d2,some y')]:=by
 refine⟨h.ok,?_⟩;intro ext m w vs hext hheap hvs hrep;obtain⟨m2,e1,e2⟩:∃m2:Nat->Option Nat,m2 k1=m d1/\m2 k2=m d2:=⟨fun k=>if k=k1 then m d1 else m d2,if_pos rfl,if_neg (fun e=>hk e.symm)⟩
 have h1 := h.ret ext m2 w vs hext (FZ hd hk hx hy e1 e2 hheap) (by simpa using hvs) (by
  intro j v z hv hz;rw[Ax hd hk (x:=x) (y:=y) e1 e2]
  match j,hz with
  |0,hz =>
   cases hz;have h2:=hrep 0 v _ hv rfl;cases h2 with
   |ptr hm=>exact .ptr (e1.trans hm)
  |1,hz =>
   cases hz;have h2:=hrep 1 v _ hv rfl;cases h2 with
   |ptr hm=>exact .ptr (e2.trans hm)
  |j+2,hz =>
   have h2:=hrep (j+2) v z hv hz;refine iP ?_ h2;have:=List.all_eq_true.1 hxs z (mem_of_getElem? hz);simpa using this)
 refine Calls.mono h1 ?_;rintro e w' ⟨v,m',rfl,hf,hh,hn,hkp,hrr⟩;have ho:=Fl hd hk (x:=x) (y:=y) (x':=x) (y':=y) e1 e2;obtain⟨m3,f1,f2⟩:∃m3:Nat->Option Nat,m3 d1=m' k1/\m3 d2=m' k2:=⟨fun k=>if k=d1 then m' k1 else m' k2,if_pos rfl,if_neg (fun e=>hd e.symm)⟩
 refine⟨v,m3,rfl,ho▸hf,FZ hk hd hx' hy' f1 f2 hh,?_,?_,?_⟩
 ·intro k' z b hz hb;rw[<- ho];rcases nF hz with⟨rfl,_⟩ |⟨_,rfl,_⟩
  ·exact hn k1 _ b mQ (f1▸hb)
  ·exact hn k2 _ b (mV hk) (f2▸hb)
 ·intro k' z z' hz hz';rcases nF hz with⟨rfl,_⟩ |⟨_,rfl,_⟩
  ·rw[f1,<- e1];exact hkp k1 _ _ mQ mQ
  ·rw[f2,<- e2];exact hkp k2 _ _ (mV hk) (mV hk)
 ·rw[Ax hk hd (x:=x') (y:=y') f1 f2];exact iP hr hrr
end Go.Lw
namespace Go.Lw
open Go.Proofs
theorem Gg{l:Li}{body pt:Int}{n k:Nat}{bd:Bd}{m:Mk}(h:MkP l body pt n k bd m):qP (aX l body pt)=.agg [bl m.x.neg,ws m.x.num,ws m.x.den,bl m.y.neg,ws m.y.num,ws m.y.den]:=by
 rw[h.ex,h.ey]
theorem oH{p q:Rat×Rat}{e f:Nat}(hp:Sm e p)(hq:Sm f q)(he:e<=1000000)(hf:f<=1000000):FP 156 [qP p,qP q] (qP (cf p q)):=by
 refine ah func156 ?_;refine gc (uR (hp.x.qs oz) (hq.x.qs oz)) ?_;refine gc (uR (hp.y.qs oz) (hq.y.qs oz)) ?_;refine gD ?_;refine af ?_
 first |rfl |(simp;done)
theorem Ia{p q:Rat×Rat}{e f:Nat}(hp:Sm e p)(hq:Sm f q)(he:e<=1000000)(hf:f<=1000000):FP 261 [qP p,qP q] (qA (b7 p q)):=by
 refine ah func261 ?_;refine gc (tf (hp.x.qs oz) (hq.x.qs oz)) ?_;refine gc (tf (hp.y.qs oz) (hq.y.qs oz)) ?_;refine gc (Bq ((hp.x.mul hq.x).qs oz) ((hp.y.mul hq.y).qs oz)) ?_;refine gD ?_;refine af ?_
 first |rfl |(simp;done)
theorem PU{p q:Rat×Rat}{e f:Nat}(hp:Sm e p)(hq:Sm f q)(he:e<=1000000)(hf:f<=1000000):FP 178 [qP p,qP q] (qA (xP p q)):=by
 refine ah func178 ?_;refine gc (tf (hp.x.qs oz) (hq.y.qs oz)) ?_;refine gc (tf (hp.y.qs oz) (hq.x.qs oz)) ?_;refine gc (uR ((hp.x.mul hq.y).qs oz) ((hp.y.mul hq.x).qs oz)) ?_;refine gD ?_;refine af ?_
 first |rfl |(simp;done)
theorem xQ{p:Rat×Rat}{e:Nat}(hp:Sm e p)(he:e<=1000000):FP 169 [qP p] (nA (sh 0 (b7 p p:Rat))):=by
 refine ah func169 ?_;refine gc (Ia hp hp he he) ?_;refine gc (mj ((hp.dot hp).qs oz)) ?_;refine af ?_
 first |rfl |(simp;done)
theorem NQ:FP 69 [] (nA (sh 0 ((1:Int):Rat))):=by
 refine ah func69 ?_;refine gc (kF 1 oz) ?_;refine gc (mj (pR oz)) ?_;refine af ?_
 first |rfl |(simp;done)
theorem m7{l:Li}(hl:l.ok)(hli:ax l=0)(g:Gr)(a:As){body pt:Int}(h1:bw body l.bo.length=true)(h2:bw pt (cF l body).length=true) :
  Con prog 170 [.ptr 1000 0,i64 body,i64 pt] [(1000,some (b9 l g a))] (qP (aX l body pt)) [(1000,some (b9 l g a))]:=by
 obtain⟨n,k,bd,m,mp⟩:=q6 hl hli h1 h2;rw[Gg mp];have hn:=mp.hn;have hk:=mp.hk;have hlb:=hl.lb;subst hn;subst hk;refine gF func170 (fun k z h=>bB h) ?_;refine gi (au mp.gbd) ?_;refine gi (au mp.gm) ?_;refine gR ?_;exact aw.keep (bc rfl)
theorem oI{E:Nat}{l:Li}(hl:l.ok)(hli:ax l=0)(g:Gr){a:As}(al:AB a)(hc:bA a.rs=0){body pt:Int}(h1:bw body l.bo.length=true)(h2:bw pt (cF l body).length=true)(hE:E<=20000000000)(h3:(llq a.rs).length<=2)(hb:Pd E a body) :
  Con prog 91 [.ptr 1000 0,i64 body,i64 pt] [(1000,some (b9 l g a))] (aI (sX (bn l a body pt).1) (sX (bn l a body pt).2)) [(1000,some (b9 l g a))]:=by
 obtain⟨n,k,bd,m,b,hp⟩:=sH hl hli al hc h1 h2 hb;obtain⟨tw,hta⟩:=cK al.tr hc
 have kb:kB 400000000 (llq a.rs).length<=1200000006:=by
  have h9:=gV 400000000 h3;have h8:eB 400000000 2=1200000006:=by decide
  show eB 400000000 _<=_;omega
 have hlm:lm (llq a.rs).length=200000000000:=by unfold lm;rw[if_pos h3]
 have hlb:=hl.lb;have hbl:=al.bl;have hmk:=m7 hl hli g a h1 h2;show Con prog _ _ _ (aI (sh (llq a.rs).length (sO l a body pt).1) (sh (llq a.rs).length (sO l a body pt).2)) _;rw[hp.eq];have hn:=hp.mp.hn;rw[Gg hp.mp]at hmk
 have hat:FP 89 [cJ a.rs,b.av,m.x.av,m.y.av] (.tup [aI (sh (llq a.rs).length (nT (llq a.rs) b m).1) (sh (llq a.rs).length (nT (llq a.rs) b m).2),.v .nilIface]):=by
  rw[hta,hp.av,hp.mp.ex,hp.mp.ey];have h9:=yD tw (hp.ok.c.mono (f:=E+1000) oz) (hp.ok.s.mono oz) (hp.ok.x.mono oz) (hp.ok.y.mono oz) (hp.mp.sm.x.mono (f:=E+1000) oz) (hp.mp.sm.y.mono (f:=E+1000) oz) oz;unfold nT;rw[hp.mp.ex,hp.mp.ey,bM,bM];exact h9
 refine gF func91 (fun k z h=>bB h) ?_;refine gt (aA hmk (aG rfl rfl rfl) aC rfl rfl) ?_;refine gi (f9 (n:=n) hn hp.gb) ?_;refine gc hat ?_;refine gD ?_;refine gC (fun t39=>?_) (fun t39=>?_) (st2:=(77777,0))
 ·refine gR ?_;exact aw.keep (bc rfl)
 cases t39
theorem sR{E:Nat}(hE:E<=20000000000){l:Li}(hl:l.ok)(hli:ax l=0)(g:Gr)(hg:GrOk l g){a:As}(al:AB a)(hc:bA a.rs=0){k:Nat}{z b:Int}{j:Jt}(hz:g.jo[k]?=some z)(hj:l.jo[z.toNat]?=some j)(h3:(llq a.rs).length<=2)(h:PinP E l a j b) :
  Con prog 150 [.ptr 1000 0,i64 k,i64 b] [(1000,some (b9 l g a))] (.tup [qP (aj l j b),aI (sX (aK l a j b).1) (sX (aK l a j b).2)]) [(1000,some (b9 l g a))]:=by
 obtain⟨z0,z1⟩:=hg.j z (mem_of_getElem? hz);obtain⟨i1,i2,i3,i4,_⟩:=cZ hli hj;have hgj:=hg.lj;have hlj:=hl.lj;refine gF func150 (fun k z h=>bB h) ?_;refine gi (au hz) ?_;refine gi (f9 (n:=z.toNat) oz hj) ?_;refine gD ?_;refine gC (fun t27=>?_) (fun t27=>?_)
 ·have e:j.a = b:=cD t27;have hb:Pd E a j.b:=by rcases h.tie with h9 | h9; exact h9.2; exact absurd e h9.1
  have eq1:aj l j b=aX l b j.point:=if_pos e;have eq2:aK l a j b=bn l a j.b j.on:=if_pos e;rw[eq1,eq2];subst e;refine gt (aA (m7 hl hli g a i1 i3) (aG rfl rfl rfl) aC rfl rfl) ?_;refine gt (aA (oI hl hli g al hc i2 i4 hE h3 hb) (aG rfl rfl rfl) aC rfl rfl) ?_;refine gD ?_;refine gR ?_;exact aw.keep (bc rfl)
 have e:j.a≠b:=dm t27;have e2:j.b=b/\Pd E a j.a:=by rcases h.tie with h9 |h9;exact absurd h9.1 e;exact h9.2
 have eq1:aj l j b=aX l b j.on:=if_neg e;have eq2:aK l a j b=bn l a j.a j.point:=if_neg e;rw[eq1,eq2];obtain⟨e2,hb⟩:=e2;subst e2;refine gt (aA (m7 hl hli g a i2 i4) (aG rfl rfl rfl) aC rfl rfl) ?_;refine gt (aA (oI hl hli g al hc i1 i3 hE h3 hb) (aG rfl rfl rfl) aC rfl rfl) ?_;refine gD ?_;refine gR ?_;exact aw.keep (bc rfl)
theorem FK{l:Li}(hl:l.ok)(hli:ax l=0)(g:Gr)(hg:GrOk l g)(a:As){z b:Int}{j:Jt}(hz:g.jo[2]?=some z)(hj:l.jo[z.toNat]?=some j)(h:j.a=b\/j.b=b) :
  Con prog 166 [.ptr 1000 0,i64 b] [(1000,some (b9 l g a))] (qP (aj l j b)) [(1000,some (b9 l g a))]:=by
 obtain⟨z0,z1⟩:=hg.j z (mem_of_getElem? hz);obtain⟨i1,i2,i3,i4,_⟩:=cZ hli hj;have hgj:=hg.lj;have hlj:=hl.lj;have h2:=(List.getElem?_eq_some_iff.1 hz).1;refine gF func166 (fun k z h=>bB h) ?_;refine gi (au hz) ?_;refine gi (f9 (n:=z.toNat) oz hj) ?_;refine gD ?_;refine gC (fun t23=>?_) (fun t23=>?_)
 ·have e:j.a=b:=cD t23;have eq1:aj l j b=aX l b j.point:=if_pos e;rw[eq1];subst e;refine gt (aA (m7 hl hli g a i1 i3) (aG rfl rfl rfl) aC rfl rfl) ?_;refine gR ?_;exact aw.keep (bc rfl)
 have e:j.a≠b:=dm t23;have e2:j.b=b:=by rcases h with h9 |h9;exact absurd h9 e;exact h9
 have eq1:aj l j b=aX l b j.on:=if_neg e;rw[eq1];subst e2;refine gt (aA (m7 hl hli g a i2 i4) (aG rfl rfl rfl) aC rfl rfl) ?_;refine gR ?_;exact aw.keep (bc rfl)
theorem BA{l:Li}(hl:l.ok)(g:Gr)(hg:GrOk l g)(a:As){z:Int}{j:Jt}(hz:g.jo[1]?=some z)(hj:l.jo[z.toNat]?=some j) :
  Con prog 90 [.ptr 1000 0] [(1000,some (b9 l g a))] j.av [(1000,some (b9 l g a))]:=by
 obtain⟨z0,z1⟩:=hg.j z (mem_of_getElem? hz);have hgj:=hg.lj;have hlj:=hl.lj;have h2:=(List.getElem?_eq_some_iff.1 hz).1;refine gF func90 (fun k z h=>bB h) ?_;refine gi (au hz) ?_;refine gi (f9 (n:=z.toNat) oz hj) ?_;refine gD ?_;refine gR ?_;exact aw.keep (bc rfl)
abbrev M0{ts:LL}(p:Rat×Rat)(at_:Et ts×Et ts)(c:Rat×Rat):List AV :=
  [bl (rt p.1).neg,ws (rt p.1).num,ws (rt p.1).den,bl (rt p.2).neg,ws (rt p.2).num,ws (rt p.2).den,nA (sX at_.1),nA (sX at_.2),bl (rt c.1).neg,ws (rt c.1).num,ws (rt c.1).den,bl (rt c.2).neg,ws (rt c.2).num,ws (rt c.2).den]
abbrev vr{ts:LL}(p:Rat×Rat)(at_:Et ts×Et ts)(c:Rat×Rat):AV:=.agg (M0 p at_ c)
abbrev Sp{ts:LL}(p:Rat×Rat)(at_:Et ts×Et ts)(c:Rat×Rat):AV:=.agg [nA (sX at_.1),nA (sX at_.2),nA (sh 0 (bY c p:Rat))]
theorem yR{ts:LL}{p c:Rat×Rat}(hp:Sm 1000 p)(hc:Sm 1000 c)(at_:Et ts×Et ts):FP 73 [vr p at_ c] (Sp p at_ c):=by
 refine ah func73 ?_;refine gc (oH hc hp oz oz) ?_;refine gc (xQ (hc.sub hp) oz) ?_;refine gD ?_;refine af ?_
 first |rfl |(simp;done)
theorem Gq{E:Nat}{l:Li}(hl:l.ok)(hli:ax l=0){a:As}(al:AB a)(hc:bA a.rs=0)(h3:(llq a.rs).length<=2){i k z0 z1 z2:Int}{j0 j1 j2:Jt}(hg:GrOk l ⟨1,[i,k],[z0,z1,z2],0⟩)
  (h0:l.jo[z0.toNat]?=some j0) (h1:l.jo[z1.toNat]?=some j1) (h2:l.jo[z2.toNat]?=some j2) (p0:PinP E l a j0 i) (p1:PinP E l a j1 k) (t1:j2.a=i\/j2.b=i) (t2:j2.a=k\/j2.b=k) (hE:E<=20000000000:=by omega) :
  Con prog 70 [.ptr 1000 0] [(1000,some (b9 l ⟨1,[i,k],[z0,z1,z2],0⟩ a))] (.tup [vr (aj l j0 i) (aK l a j0 i) (aj l j2 i),vr (aj l j1 k) (aK l a j1 k) (aj l j2 k)]) [(1000,some (b9 l ⟨1,[i,k],[z0,z1,z2],0⟩ a))]:=by
 refine gF func70 (fun k z h=>bB h) ?_;refine gi (rfl) ?_;refine gi (rfl) ?_;refine gD ?_;refine gt (aA (sR oz hl hli _ hg al hc (k:=0) rfl h0 h3 p0) (.cons (.tmp rfl) (.cons (.const _) (cr rfl))) aC rfl rfl) ?_;refine gt (aA (sR oz hl hli _ hg al hc (k:=1) rfl h1 h3 p1) (.cons (.tmp rfl) (.cons (.const _) (cr rfl))) aC rfl rfl) ?_;refine gt (aA (FK hl hli _ hg a rfl h2 t1) (bp rfl rfl) aC rfl rfl) ?_;refine gt (aA (FK hl hli _ hg a rfl h2 t2) (bp rfl rfl) aC rfl rfl) ?_;refine gD ?_;refine gR ?_;exact aw.keep (bc rfl)
theorem Hj{E:Nat}{l:Li}(hl:l.ok)(hli:ax l=0){a:As}(al:AB a)(hc:bA a.rs=0)(h3:(llq a.rs).length<=2){i z0 z1:Int}{j0 j1:Jt}(hg:GrOk l ⟨2,[i],[z0,z1],0⟩)
  (h0:l.jo[z0.toNat]?=some j0) (h1:l.jo[z1.toNat]?=some j1) (p0:PinP E l a j0 i) (ha:j1.a=i) (hk:j1.kind≠0) (hb:Pd E a j1.b) (hE:E<=20000000000:=by omega) :
  Con prog 74 [.ptr 1000 0] [(1000,some (b9 l ⟨2,[i],[z0,z1],0⟩ a))] (.tup [vr (aj l j0 i) (aK l a j0 i) (aX l i j1.point),aI (sX (bn l a j1.b j1.on).1) (sX (bn l a j1.b j1.on).2),aI (sX (bn l a j1.b j1.to).1) (sX (bn l a j1.b j1.to).2)]) [(1000,some (b9 l ⟨2,[i],[z0,z1],0⟩ a))]:=by
 obtain⟨i1,i2,i3,i4,i5⟩:=cZ hli h1;rw[ha]at i1 i3;refine gF func74 (fun k z h=>bB h) ?_;refine gi (rfl) ?_;refine gt (aR (BA hl _ hg a rfl h1) (cr rfl) rfl rfl rfl) ?_;refine gD ?_;refine gt (aA (sR oz hl hli _ hg al hc (k:=0) rfl h0 h3 p0) (.cons (.tmp rfl) (.cons (.const _) (cr rfl))) aC rfl rfl) ?_;refine gt (aA (m7 hl hli _ a i1 i3) (aG rfl rfl rfl) aC rfl rfl) ?_;refine gt (aA (oI hl hli _ al hc i2 i4 oz h3 hb) (aG rfl rfl rfl) aC rfl rfl) ?_;refine gt (aA (oI hl hli _ al hc i2 (i5 hk) oz h3 hb) (aG rfl rfl rfl) aC rfl rfl) ?_;refine gD ?_;refine gR ?_;exact aw.keep (bc rfl)
structure Vr where
  w:List Rt
  x:List Rt
  y:List Rt
instance:Inhabited Vr:=⟨⟨[],[],[]⟩⟩
def Vr.av(v:Vr):AV:=.agg [nR v.w,nR v.x,nR v.y]
def Vr.l(v:Vr):List (List Rt):=[v.w,v.x,v.y]
abbrev dh(rs:List (List Rt)):Blk:=.box [.lst 1 (rs.map nR),.v .nilIface]
theorem oG(rs:List (List Rt))(a:List Rat):Con prog 71 [.ptr 1000 0,nA a,.v .nilIface] [(1000,some (dh rs))] (nA a) [(1000,some (dh rs))]:=by
 refine gF func71 (fun k z h=>bB h) ?_;refine gC (fun t11=>?_) (fun t11=>?_) (st2:=(77777,0))
 ·refine gR ?_;exact aw.keep (bc rfl)
 cases t11
theorem mb(rs:List (List Rt))(a b:List Rat):Con prog 75 [.ptr 1000 0,aI a b,.v .nilIface] [(1000,some (dh rs))] (aI a b) [(1000,some (dh rs))]:=by
 refine gF func75 (fun k z h=>bB h) ?_;refine gC (fun t11=>?_) (fun t11=>?_) (st2:=(77777,0))
 ·refine gR ?_;exact aw.keep (bc rfl)
 cases t11
section
variable{rs:List (List Rt)}{r u k:Nat}{a b:List Rat}{x y:Et (llq rs)}{w v w' v':Nat}
theorem G9 (h : TR rs r) (hc : bA rs = 0) [c0 : Ct (llq rs) u k] [ha : Zl (llq rs) u k a x w v] [hb : Zl (llq rs) u k b y w' v'] (hs : w + v + (w' + v') <= 10000 := by decide) :
  Con prog 79 [.ptr 1000 0,nA a,nA b] [(1000,some (dh rs))] (nA (sX (x*y))) [(1000,some (dh rs))]:=by
 have hx:=CR (ha:=ha) (hb:=hb) hs;rw[lw h hc]at hx;refine gF func79 (fun k z h=>bB h) ?_;refine gc hx ?_;refine gt (aA (oG _ _) (aG rfl rfl rfl) aC rfl rfl) ?_;refine gR ?_;exact aw.keep (bc rfl)
theorem QZ (h : TR rs r) (hc : bA rs = 0) [c0 : Ct (llq rs) u k] [ha : Zl (llq rs) u k a x w v] [hb : Zl (llq rs) u k b y w' v'] (hs : w + v + (w' + v') <= 10000 := by decide) :
  Con prog 78 [.ptr 1000 0,nA a,nA b] [(1000,some (dh rs))] (nA (sX (x-y))) [(1000,some (dh rs))]:=by
 have hx:=Em (ha:=ha) (hb:=hb) hs;rw[lw h hc]at hx;refine gF func78 (fun k z h=>bB h) ?_;refine gc hx ?_;refine gt (aA (oG _ _) (aG rfl rfl rfl) aC rfl rfl) ?_;refine gR ?_;exact aw.keep (bc rfl)
end
structure DyW(l:Li)(a:As):Prop where
  hl:l.ok
  li:ax l=0
  al:AB a
  hc:bA a.rs=0
structure DyR(l:Li)(a:As):Prop extends DyW l a where
  s:DyS a
theorem DyR.two{l:Li}{a:As}(D:DyR l a):(llq a.rs).length<=2:=le_trans (D.s.one D.hc) oz
theorem yz{n:Nat}(hn:n<=1):kB 64990 n<=65000:=by
 have h1:=gV 64990 hn;have h2:eB 64990 1=64992:=by simp only[eB]
 show eB 64990 _<=_;omega
theorem o9{n:Nat}(h3:n<=2):kB 400000000 n<=1200000006:=by
 have h9:=gV 400000000 h3;have h8:eB 400000000 2=1200000006:=by decide
 show eB 400000000 _<=_;omega
abbrev tJ(l:Li)(a:As)(i:Int)(j0 j:Jt):List AV :=
  qC (aj l j0 i)++([nA (sX (aK l a j0 i).1),nA (sX (aK l a j0 i).2)]++(qC (dl l i j)++[nA (sh 0 (cR l i j0 j:Rat)),nA (sh 0 (jS l i j:Rat)),nA (sX (cI l a i j0 j)),nA (sX (cq l a i j0 j).1),nA (sX (cq l a i j0 j).2)]))
theorem Gt{l:Li}{a:As}(D:DyR l a){n:Nat}{i:Int}{j0 j:Jt}(h0:l.jo[n]?=some j0)(p0:PinP 3900000 l a j0 i){m:Nat}(h1:l.jo[m]?=some j)(hb:Pd 3900000 a j.a) :
  Zu 310000 65000 (cq l a i j0 j).1 80 81/\Zu 310000 65000 (cq l a i j0 j).2 80 81:=by
 obtain⟨i1,i2,i3,i4,_⟩:=cZ D.li h1;obtain⟨z1,z2⟩:=lM D.hl D.li D.al D.s D.hc h0 p0;obtain⟨y1,y2⟩:=mF D.hl D.li D.al D.s D.hc i1 i3 hb;haveI c:=D.s.ct D.hc;haveI:=z1;haveI:=z2;haveI:=y1;haveI:=y2
 exact⟨(inferInstance:Zu 310000 65000 ((bn l a j.a j.point).1-(aK l a j0 i).1) _ _),(inferInstance:Zu 310000 65000 ((bn l a j.a j.point).2-(aK l a j0 i).2) _ _)⟩
theorem IB{E:Nat}(hE:E<=20000000000){l:Li}{a:As}(D:DyW l a)(h3:(llq a.rs).length<=2){i z0 z1:Int}{j0 j:Jt}(hg:GrOk l ⟨3,[i],[z0,z1],0⟩)
  (h0:l.jo[z0.toNat]?=some j0) (h1:l.jo[z1.toNat]?=some j) (p0:PinP E l a j0 i) (hi:j.b=i) (hk:j.kind≠0) (hb:Pd E a j.a)
  (hsub:FP 76 [.agg [.lst 1 (a.rs.map nR)],aI (sX (bn l a j.a j.point).1) (sX (bn l a j.a j.point).2),aI (sX (aK l a j0 i).1) (sX (aK l a j0 i).2)] (.tup [aI (sX (cq l a i j0 j).1) (sX (cq l a i j0 j).2),.v .nilIface]))
  (hdot:FP 80 [.agg [.lst 1 (a.rs.map nR)],aI (sX (cq l a i j0 j).1) (sX (cq l a i j0 j).2),aI (sX (cq l a i j0 j).1) (sX (cq l a i j0 j).2)] (.tup [nA (sX (cI l a i j0 j)),.v .nilIface])) :
  Con prog 81 [.ptr 1000 0,.ptr 1001 0] [(1000,some (b9 l ⟨3,[i],[z0,z1],0⟩ a)),(1001,some (dh a.rs))] (.agg (tJ l a i j0 j)) [(1000,some (b9 l ⟨3,[i],[z0,z1],0⟩ a)),(1001,some (dh a.rs))]:=by
 obtain⟨i1,i2,i3,i4,i5⟩:=cZ D.li h1;have hs0:Sm 1000 (aj l j0 i):=gj D.hl D.li h0 (by rcases p0.tie with h9 |h9;exact .inl h9.1;exact .inr h9.2.1);subst hi;have hs1:=jX D.hl D.li i2 i4;have hs2:=jX D.hl D.li i2 (i5 hk);have hv:=hs2.sub hs1;refine gF func81 (fun k z h=>Tp h) ?_;refine gi (rfl) ?_;refine gt (aR (BA D.hl _ hg a rfl h1) (cr rfl) rfl rfl rfl) ?_;refine gD ?_;refine gt (aA (sR hE D.hl D.li _ hg D.al D.hc (k:=0) rfl h0 h3 p0) (.cons (.tmp rfl) (.cons (.const _) (cr rfl))) aC rfl rfl) ?_;refine gt (aR (m7 D.hl D.li _ a i2 i4) (aG rfl rfl rfl) rfl rfl rfl) ?_;refine gt (aR (m7 D.hl D.li _ a i2 (i5 hk)) (aG rfl rfl rfl) rfl rfl rfl) ?_;refine gc (oH hs2 hs1 oz oz) ?_;refine gD ?_;refine gc (oH hs1 hs0 oz oz) ?_;refine gc (PU hv (hs1.sub hs0) oz oz) ?_;refine gc (mj ((hv.cross (hs1.sub hs0)).qs oz)) ?_;refine gc (xQ hv oz) ?_;refine gD ?_;refine gt (aA (oI D.hl D.li _ D.al D.hc i1 i3 hE h3 hb) (aG rfl rfl rfl) aC rfl rfl) ?_;refine gC (fun t63=>?_) (fun t63=>?_) (st2:=(77777,0))
 ·refine gc hsub ?_;refine gt (aA (Con.rB 1001 rfl rfl rfl rfl (mb _ _ _)) (aG rfl rfl rfl) aC rfl rfl) ?_;refine gD ?_;refine gc hdot ?_;refine gt (aA (Con.rB 1001 rfl rfl rfl rfl (oG _ _)) (aG rfl rfl rfl) aC rfl rfl) ?_;refine gD ?_;refine gR ?_;exact aw.keep (lN rfl rfl)
 cases t63
theorem MB{l:Li}{a:As}(D:DyR l a){i z0 z1:Int}{j0 j:Jt}(hg:GrOk l ⟨3,[i],[z0,z1],0⟩)
  (h0:l.jo[z0.toNat]?=some j0) (h1:l.jo[z1.toNat]?=some j) (p0:PinP 3900000 l a j0 i) (hi:j.b=i) (hk:j.kind≠0) (hb:Pd 3900000 a j.a) :
  Con prog 81 [.ptr 1000 0,.ptr 1001 0] [(1000,some (b9 l ⟨3,[i],[z0,z1],0⟩ a)),(1001,some (dh a.rs))] (.agg (tJ l a i j0 j)) [(1000,some (b9 l ⟨3,[i],[z0,z1],0⟩ a)),(1001,some (dh a.rs))]:=by
 obtain⟨i1,i2,i3,i4,i5⟩:=cZ D.li h1;obtain⟨z1',z2'⟩:=lM D.hl D.li D.al D.s D.hc h0 p0;obtain⟨y1,y2⟩:=mF D.hl D.li D.al D.s D.hc i1 i3 hb;obtain⟨w1,w2⟩:=Gt D h0 p0 h1 hb;haveI c:=D.s.ct D.hc;haveI:=z1';haveI:=z2';haveI:=y1;haveI:=y2;haveI:=w1;haveI:=w2
 have hsub:=Oe (ts:=llq a.rs) (u:=310000) (k:=65000) (a:=sX (bn l a j.a j.point).1) (b:=sX (bn l a j.a j.point).2) (a2:=sX (aK l a j0 i).1) (b2:=sX (aK l a j0 i).2);have hdot:=Nc (ts:=llq a.rs) (u:=310000) (k:=65000) (a:=sX (cq l a i j0 j).1) (b:=sX (cq l a i j0 j).2) (a2:=sX (cq l a i j0 j).1) (b2:=sX (cq l a i j0 j).2);rw[lw D.s.tr D.hc]at hsub hdot;exact IB oz D.toDyW D.two hg h0 h1 p0 hi hk hb hsub hdot
theorem NX{l:Li}{a:As}(D:DyR l a){i:Int}{j0 j:Jt}{w v:Nat}[z1:Zl (llq a.rs) 310000 65000 (sh 0 (cR l i j0 j:Rat)) (qE (cR l i j0 j)) 3 0][z2:Zl (llq a.rs) 310000 65000 (sh 0 (jS l i j:Rat)) (qE (jS l i j)) 3 0][z3:Zu 310000 65000 (cI l a i j0 j) w v](hw:w+v<=2000) :
  Con prog 82 [.agg (tJ l a i j0 j),.ptr 1001 0] [(1001,some (dh a.rs))] (nA (sX (qE (jS l i j)*cI l a i j0 j-qE (cR l i j0 j)*qE (cR l i j0 j)))) [(1001,some (dh a.rs))]:=by
 haveI c:=D.s.ct D.hc;haveI:=z1.zu;haveI:=z2.zu
 have m1:=G9 (a:=sh 0 (jS l i j:Rat)) (b:=sX (cI l a i j0 j)) D.s.tr D.hc oz;have m2:=G9 (a:=sh 0 (cR l i j0 j:Rat)) (b:=sh 0 (cR l i j0 j:Rat)) D.s.tr D.hc oz;have m3:=QZ (a:=sX (qE (jS l i j)*cI l a i j0 j)) (b:=sX (qE (cR l i j0 j)*qE (cR l i j0 j):Et (llq a.rs))) D.s.tr D.hc oz;refine gF func82 (fun k z h=>by have:=(fq h).1;omega) ?_;refine gt (aA (Con.rB 1001 rfl rfl rfl rfl m1) (aG rfl rfl rfl) aC rfl rfl) ?_;refine gt (aA (Con.rB 1001 rfl rfl rfl rfl m2) (aG rfl rfl rfl) aC rfl rfl) ?_;refine gt (aA (Con.rB 1001 rfl rfl rfl rfl m3) (aG rfl rfl rfl) aC rfl rfl) ?_;refine gD ?_;refine gR ?_;exact aw.keep (bc rfl)
abbrev Ci:Type:=List Rat×List Rat×List Rat
abbrev He(c:Ci):AV:=.agg [nA c.1,nA c.2.1,nA c.2.2]
structure CiZ(rs:List (List Rt))(c:Ci):Prop where
  x:Nm (llq rs).length 2500000000 c.1
  y:Nm (llq rs).length 2500000000 c.2.1
  r:Nm (llq rs).length 2500000000 c.2.2
  sg:0<=ak (dE (llq rs) c.2.2)
theorem Mv{ts:LL}(p q:Et ts×Et ts):dotE (q.1-p.1) (q.2-p.2) (q.1-p.1) (q.2-p.2)=aH p q:=by
 unfold aH jT a8 dotE;dsimp only;grind
theorem Dj{ts:LL}(c:Ct ts 310000 65000){x y x2 y2:Et ts}(h1:Zu 310000 65000 x 40 40)(h2:Zu 310000 65000 y 40 40)(h3:Zu 310000 65000 x2 40 40)(h4:Zu 310000 65000 y2 40 40):Zu 310000 65000 (aH (x,y) (x2,y2)) 320 327:=by
 haveI:=c;haveI:=h1;haveI:=h2;haveI:=h3;haveI:=h4
 exact(inferInstance:Zu 310000 65000 (dotE (x-x2) (y-y2) (x-x2) (y-y2)) _ _)
section
variable{rs:List (List Rt)}{r:Nat}{a b c a2 b2 c2:List Rat}
theorem Eb(h:TR rs r)(hc:bA rs=0){e:Nat}(ha:Nm (llq rs).length e a)(hb:Nm (llq rs).length e b)(he:e<=lm (llq rs).length):FP 273 [cJ rs,aI a b] (.v .nilIface):=by
 obtain⟨tw,etw⟩:=cK h hc;have hca:=oe tw [(a,b)] (fun p hp=>by rw[List.mem_singleton.1 hp];exact⟨ha,hb⟩) he (by show 1<=500;omega);rw[<- etw]at hca;refine ah func273 ?_;refine gc hca ?_;refine af ?_;rfl
theorem FU(h:TR rs r)(hc:bA rs=0){e:Nat}(ha:Nm (llq rs).length e a)(hb:Nm (llq rs).length e b)(hn:Nm (llq rs).length e c)(he:e+1<=lm (llq rs).length):FP 272 [cJ rs,.agg [nA a,nA b,nA c]] (.v .nilIface):=by
 obtain⟨tw,etw⟩:=cK h hc;have hneg:=ym tw hn oz;rw[<- etw]at hneg;refine ah func272 ?_;refine gc (Eb h hc ha hb oz) ?_;refine gC (fun t13=>?_) (fun t13=>?_) (st1:=(3,0));cases t13;refine gc hneg ?_;refine af ?_;rfl
theorem DW(h:TR rs r)(hc:bA rs=0)(cs:List Ci)(hz:∀c∈cs,CiZ rs c)(hl:cs.length<=100):FP 274 [cJ rs,.lst 3 (cs.map He)] (.v .nilIface):=by
 obtain⟨tw,etw⟩:=cK h hc;have hlm:=jN (llq rs).length;refine ah func274 ?_;refine gl ?_;refine aJ [2,9,10] [2] (fun(i:Nat)=>[(11,some (i64 i))]) (fun _=>[]) (fun i=>i<=cs.length) (fun i=>cs.length-i) 0 (zero_le _) ?_;rintro i hi K1 J1;refine gC (fun t12=>?_) (fun t12=>?_)
 ·have hin:=aT t12;obtain⟨z,hzi⟩:=aq hin;have hz9:=hz z (mem_of_getElem? hzi);have hs:=uU tw hz9.r oz;rw[<- etw]at hs;refine gi (au hzi) ?_;refine gc hs ?_;refine gC (fun t23=>?_) (fun t23=>?_) (st1:=(6,0));cases t23;refine gC (fun t26=>?_) (fun t26=>?_) (st1:=(8,0));exact absurd t26 (by have h9:=hz9.sg;unfold ak dE at h9;simp only[aa,decide_eq_true_eq];omega);refine ga aE ?_;exact aD J1 (i+1) hin
 refine af ?_;rfl
theorem S4(h:TR rs r)(hc:bA rs=0)(cs:List Ci)(hz:∀c∈cs,CiZ rs c)(hl:cs.length<=100):FP 167 [cJ rs,.lst 3 (cs.map He)] (.v .nilIface):=by
 have hlm:=jN (llq rs).length;have hck:=ri rs r h;rw[hc]at hck;refine ah func167 ?_;refine gc hck ?_;refine gC (fun t12=>?_) (fun t12=>?_) (st1:=(3,0));cases t12;refine gl ?_;refine aJ [1,2,14,15] [2] (fun(i:Nat)=>[(16,some (i64 i))]) (fun _=>[]) (fun i=>i<=cs.length) (fun i=>cs.length-i) 0 (zero_le _) ?_;rintro i hi K1 J1;refine gC (fun t17=>?_) (fun t17=>?_)
 ·have hin:=aT t17;obtain⟨z,hzi⟩:=aq hin;have hz9:=hz z (mem_of_getElem? hzi);refine gi (au hzi) ?_;refine gc (FU h hc hz9.x hz9.y hz9.r oz) ?_;refine gC (fun t24=>?_) (fun t24=>?_) (st1:=(9,0));cases t24;refine ga aE ?_;exact aD J1 (i+1) hin
 refine gc (DW h hc cs hz hl) ?_;refine af ?_;rfl
theorem SW(h:TR rs r)(hc:bA rs=0){x y x2 y2:Et (llq rs)}[c0:Ct (llq rs) 310000 65000][i1:Zl (llq rs) 310000 65000 a x 40 40][i2:Zl (llq rs) 310000 65000 b y 40 40][i4:Zl (llq rs) 310000 65000 a2 x2 40 40][i5:Zl (llq rs) 310000 65000 b2 y2 40 40] :
  FP 282 [cJ rs,aI a b,aI a2 b2] (.tup [nA (sX (aH (x,y) (x2,y2))),.v .nilIface]):=by
 obtain⟨_,etw⟩:=cK h hc;obtain⟨R,tw,hk⟩:=c0.ex;have kk:=c0.kk hk;obtain⟨K,hK⟩:∃K,40*310000+40*65000=K:=⟨_,rfl⟩
 have hlm:=jN (llq rs).length;have n1:=i1.nm;have n2:=i2.nm;have n4:=i4.nm;have n5:=i5.nm
 have hca:=oe tw [(a,b),(a2,b2)] (e:=40*310000+40*65000) (fun p hp=>by
  simp only[mem_cons,not_mem_nil,or_false]at hp;rcases hp with rfl |rfl
  ·exact⟨n1,n2⟩
  ·exact⟨n4,n5⟩) oz (by show 2<=500;omega)
 rw[<- etw]at hca;have hle:=vM tw n4 n5 n1 n2 oz;have m1:=n4.sub n1;have m2:=n5.sub n2;have hdo:=Gp tw m1 m2 m1 m2 oz;rw[i1.eq,i2.eq,i4.eq,i5.eq]at hle;rw[i1.eq,i2.eq,i4.eq,i5.eq,a7,a7]at hdo;have hd2:=Mv (x,y) (x2,y2);refine ah func282 ?_;refine gc hca ?_;refine gC (fun t17=>?_) (fun t17=>?_) (st1:=(3,0)) (st2:=(5,0));cases t17;refine gW (Wk.of (sl:=[(4,some (.ptr 4 0)),(5,some (.ptr 5 0)),(9,some (.ptr 21 0))]) (hp:=[(4,some (.box [nA a,nA b])),(5,some (.box [nA a2,nA b2])),(21,some (.box [.lst 1 ((llq rs).map nA),.v .nilIface]))]) aQ (.k (.k (.cons rfl (BlkSub.bL (.cons (.of (l8 etw)) (.cons (.refl _) .nil)) rfl) .nil)))) ?_;refine gt (aA (Con.rB 21 rfl rfl rfl rfl hle) (aG rfl rfl rfl) aC rfl rfl) ?_;refine gt (aA (Con.rB 21 rfl rfl rfl rfl hdo) (aG rfl rfl rfl) aC rfl rfl) ?_;refine gt (aA (Con.rB 21 rfl rfl rfl rfl (Ay _ _)) (bp rfl rfl) aC rfl rfl) ?_;refine br ?_;rw[<- hd2];rfl
theorem sM(rs:List (List Rt))(a:List Rat):Con prog 275 [.ptr 1000 0,nA a,.v .nilIface] [(1000,some (dh rs))] (nA a) [(1000,some (dh rs))]:=by
 refine gF func275 (fun k z h=>bB h) ?_;refine gC (fun t11=>?_) (fun t11=>?_) (st2:=(77777,0))
 ·refine gR ?_;exact aw.keep (bc rfl)
 cases t11
end
section
variable{rs:List (List Rt)}{r u k:Nat}{a b:List Rat}{x y:Et (llq rs)}{w v w' v':Nat}
theorem KS (h : TR rs r) (hc : bA rs = 0) [c0 : Ct (llq rs) u k] [ha : Zl (llq rs) u k a x w v] [hb : Zl (llq rs) u k b y w' v'] (hs : w + v + (w' + v') <= 10000 := by decide) :
  Con prog 270 [.ptr 1000 0,nA a,nA b] [(1000,some (dh rs))] (nA (sX (x+y))) [(1000,some (dh rs))]:=by
 have hx:=Ua (ha:=ha) (hb:=hb) hs;rw[lw h hc]at hx;refine gF func270 (fun k z h=>bB h) ?_;refine gc hx ?_;refine gt (aA (sM _ _) (aG rfl rfl rfl) aC rfl rfl) ?_;refine gR ?_;exact aw.keep (bc rfl)
theorem CT (h : TR rs r) (hc : bA rs = 0) [c0 : Ct (llq rs) u k] [ha : Zl (llq rs) u k a x w v] [hb : Zl (llq rs) u k b y w' v'] (hs : w + v + (w' + v') <= 10000 := by decide) :
  Con prog 266 [.ptr 1000 0,nA a,nA b] [(1000,some (dh rs))] (nA (sX (x-y))) [(1000,some (dh rs))]:=by
 have hx:=Em (ha:=ha) (hb:=hb) hs;rw[lw h hc]at hx;refine gF func266 (fun k z h=>bB h) ?_;refine gc hx ?_;refine gt (aA (sM _ _) (aG rfl rfl rfl) aC rfl rfl) ?_;refine gR ?_;exact aw.keep (bc rfl)
theorem AN (h : TR rs r) (hc : bA rs = 0) [c0 : Ct (llq rs) u k] [ha : Zl (llq rs) u k a x w v] [hb : Zl (llq rs) u k b y w' v'] (hs : w + v + (w' + v') <= 10000 := by decide) :
  Con prog 276 [.ptr 1000 0,nA a,nA b] [(1000,some (dh rs))] (nA (sX (x*y))) [(1000,some (dh rs))]:=by
 have hx:=CR (ha:=ha) (hb:=hb) hs;rw[lw h hc]at hx;refine gF func276 (fun k z h=>bB h) ?_;refine gc hx ?_;refine gt (aA (sM _ _) (aG rfl rfl rfl) aC rfl rfl) ?_;refine gR ?_;exact aw.keep (bc rfl)
theorem SJ (h : TR rs r) (hc : bA rs = 0) [c0 : Ct (llq rs) u k] (n : Int) (hn : -9223372036854775808 <= n /\ n <= 9223372036854775807) [hq : Qz u (n : Rat) w'] [ha : Zl (llq rs) u k a x w v] (hs : w' + 0 + (w + v) <= 10000 := by decide) :
  Con prog 267 [.ptr 1000 0,i64 n,nA a] [(1000,some (dh rs))] (nA (sX (qE (n:Rat)*x))) [(1000,some (dh rs))]:=by
 have hm:=AN (a:=sh 0 ((n:Rat):Rat)) (b:=a) h hc hs;refine gF func267 (fun k z h=>bB h) ?_;refine gc (kF n hn) ?_;refine gc (mj (pR hn)) ?_;refine gt (aA hm (aG rfl rfl rfl) aC rfl rfl) ?_;refine gR ?_;exact aw.keep (bc rfl)
end
section
variable{rs:List (List Rt)}{r:Nat}{a b c a2 b2 c2:List Rat}{x y z x2 y2 z2:Et (llq rs)}
theorem Lt(h:TR rs r)(hc:bA rs=0)[c0:Ct (llq rs) 310000 65000][i1:Zl (llq rs) 310000 65000 a x 40 40][i2:Zl (llq rs) 310000 65000 b y 40 40][i3:Zl (llq rs) 310000 65000 c z 3 0][i4:Zl (llq rs) 310000 65000 a2 x2 40 40][i5:Zl (llq rs) 310000 65000 b2 y2 40 40][i6:Zl (llq rs) 310000 65000 c2 z2 3 0] :
  Con prog 168 [.ptr 1000 0,.agg [nA a,nA b,nA c],.agg [nA a2,nA b2,nA c2]] [(1000,some (dh rs))] (.tup [nA (sX (bG (x,y) z (x2,y2) z2)),nA (sX (aH (x,y) (x2,y2)))]) [(1000,some (dh rs))]:=by
 have hd:=SW (a:=a) (b:=b) (a2:=a2) (b2:=b2) h hc;haveI:=i3.zu;haveI:=i6.zu;haveI zd:=Dj c0 i1.zu i2.zu i4.zu i5.zu;haveI q4:Qz 310000 ((4:Int):Rat) 1:=Qz.int (c:=Ct.cx (c:=c0)) (by decide);have m1:=KS (a:=c) (b:=sX (aH (x,y) (x2,y2))) h hc (by decide);have m2:=CT (a:=sX (z+aH (x,y) (x2,y2))) (b:=c2) h hc (by decide);have m3:=AN (a:=c) (b:=sX (aH (x,y) (x2,y2))) h hc (by decide);have m4:=SJ (a:=sX (z*aH (x,y) (x2,y2))) h hc 4 oz (by decide);have m5:=AN (a:=sX (z+aH (x,y) (x2,y2)-z2)) (b:=sX (z+aH (x,y) (x2,y2)-z2)) h hc (by decide);have m6:=CT (a:=sX (qE ((4:Int):Rat)*(z*aH (x,y) (x2,y2)))) (b:=sX ((z+aH (x,y) (x2,y2)-z2)*(z+aH (x,y) (x2,y2)-z2))) h hc (by decide);refine gF func168 (fun k z h=>bB h) ?_;refine gc hd ?_;refine gt (aR (sM _ _) (aG rfl rfl rfl) rfl rfl rfl) ?_;refine gD ?_;refine gt (aR m1 (aG rfl rfl rfl) rfl rfl rfl) ?_;refine gt (aR m2 (aG rfl rfl rfl) rfl rfl rfl) ?_;refine gD ?_;refine gt (aR m3 (aG rfl rfl rfl) rfl rfl rfl) ?_;refine gt (aR m4 (.cons (.tmp rfl) (.cons (.const _) (cr rfl))) rfl rfl rfl) ?_;refine gt (aR m5 (aG rfl rfl rfl) rfl rfl rfl) ?_;refine gt (aR m6 (aG rfl rfl rfl) rfl rfl rfl) ?_;refine gR ?_;exact aw.keep (bc rfl)
end
class Cy(ts:LL)(u k:outParam Nat):Prop where
  ex:∃R,Tw ts R/\eB R ts.length<=k
  k1:1<=k
  u3:3<=u
  two:ts.length<=2
instance Cy.cx{ts:LL}{u k:Nat}[c:Cy ts u k]:Cx (am ts) ts.length u k:=by
  obtain⟨R,tw,h⟩:=c.ex;exact⟨⟨R,Jb tw▸tw,h⟩,c.k1,c.u3⟩
theorem Cy.zq{ts:LL}{u k:Nat}[c:Cy ts u k]{q:Rat}{w:Nat}[h:Qz u q w]:Zl ts u k (sh 0 (q:Rat)) (qE q:Et ts) w 0:=⟨gT _ q,by
 obtain⟨R,tw,_⟩:=c.ex;exact(Nm.ofQ tw.five h.cb).eq oz⟩
theorem Cy.lm{ts:LL}{u k:Nat}(c:Cy ts u k):lm ts.length=200000000000:=by unfold Go.Lw.lm;rw[if_pos c.two]
def iE{ts:LL}(y:Et ts):Et ts:=T.inv (am ts) ts.length y
abbrev a6(ts:LL):Blk:=.box [.lst 1 (ts.map nA),.v .nilIface]
theorem yM(ts:LL):dh (ts.map (List.map rt))=a6 ts:=by
 have h:=ig ts;unfold cJ aN at h;have h1:=AV.agg.inj h
 injection h1 with h2
 show Blk.box [.lst 1 ((ts.map (List.map rt)).map nR),.v .nilIface]=_;rw[h2]
section
variable{ts:LL}{u k:Nat}{a b:List Rat}{x y:Et ts}{w v w' v':Nat}
theorem JP[c:Cy ts u k][ha:Zl ts u k a x w v][hb:Zl ts u k b y w' v'](hs:w*u+v*k+(w'*u+v'*k)<200000000000):FP 356 [aN ts,nA a,nA b] (.tup [nA (sX (x+y)),.v .nilIface]):=by
 obtain⟨R,tw,hk⟩:=c.ex;have h1:=yy tw ha.nm hb.nm (by rw[c.lm];omega);rw[ha.eq,hb.eq]at h1;exact h1
theorem ND[c:Cy ts u k][ha:Zl ts u k a x w v][hb:Zl ts u k b y w' v'](hs:w*u+v*k+(w'*u+v'*k)<200000000000):FP 176 [aN ts,nA a,nA b] (.tup [nA (sX (x-y)),.v .nilIface]):=by
 obtain⟨R,tw,hk⟩:=c.ex;have h1:=o7 tw ha.nm hb.nm (by rw[c.lm];omega);rw[ha.eq,hb.eq]at h1;exact h1
theorem OF[c:Cy ts u k][ha:Zl ts u k a x w v][hb:Zl ts u k b y w' v'](hs:w*u+v*k+(w'*u+v'*k)<200000000000):FP 127 [aN ts,nA a,nA b] (.tup [nA (sX (x*y)),.v .nilIface]):=by
 obtain⟨R,tw,hk⟩:=c.ex;have h1:=AY tw ha.nm hb.nm (by rw[c.lm];omega);rw[ha.eq,hb.eq]at h1;exact h1
theorem It[c:Cy ts u k][ha:Zl ts u k a x w v](hs:w*u+v*k<200000000000):FP 147 [aN ts,nA a] (.tup [nA (sX (-x)),.v .nilIface]):=by
 obtain⟨R,tw,hk⟩:=c.ex;have h1:=ym tw ha.nm (by rw[c.lm];omega);rw[ha.eq]at h1;exact h1
theorem GS[c:Cy ts u k][ha:Zl ts u k a x w v](hs:w*u+v*k<200000000000):FP 116 [aN ts,nA a] (.tup [i64 (ak x),.v .nilIface]):=by
 obtain⟨R,tw,hk⟩:=c.ex;have h1:=uU tw ha.nm (by rw[c.lm];omega);rw[ha.eq]at h1;exact h1
theorem Vt{j m:Nat}[c:Cy ts u k][ha:Zl ts u k a x w v][hb:Zl ts u k b y w' v'](nb:Nl j b)(hj:j<=ts.length)(h0:ak y≠0)(hm:∀R,eB R ts.length<=k->iB R j (w'*u+v'*k)<=m)(hf:w'*u+v'*k<200000000000)(hs:w*u+v*k+m+k<=200000000000) :
  FP 281 [aN ts,nA a,nA b] (.tup [nA (sX (x*iE y)),.v .nilIface])/\Nm ts.length (w*u+v*k+m+k) (sX (x*iE y)):=by
 obtain⟨R,tw,hk⟩:=c.ex;have hi:=hm R hk;have he:=hb.eq;have h1:T.sgn (am ts) ts.length (ae ts.length b)≠0:=by rw[he];exact h0
 have hd:=AL tw ha.nm hb.nm hj nb h1 (by rw[c.lm];omega) oz;have hn:=AT tw ha.nm hb.nm hj nb h1 (by rw[c.lm];omega) oz;rw[ha.eq,he]at hd hn;exact⟨hd,hn.mono oz⟩
theorem p4{j:Nat}[c:Cy ts u k][ha:Zl ts u k a x w v][hb:Zl ts u k b y w' v'](nb:Nl j b)(hj:j<=ts.length)(hj1:j<=1)(h0:ak y≠0)(hs:(w+5*w')*u+(v+5*v'+3)*k<=200000000000) :
  FP 281 [aN ts,nA a,nA b] (.tup [nA (sX (x*iE y)),.v .nilIface])/\Zu u k (x*iE y) (w+5*w') (v+5*v'+3):=by
 have e:(w+5*w')*u+(v+5*v'+3)*k=w*u+v*k+(5*(w'*u+v'*k)+2*k)+k:=by
  simp only[Nat.add_mul,Nat.mul_add,Nat.mul_assoc];omega
 rw[e]at hs
 have h:=Vt (a:=a) (b:=b) (m:=5*(w'*u+v'*k)+2*k) nb hj h0 (fun R hR=>by
  have h2:=Lv R (w'*u+v'*k) hj1;have h3:=gV R hj;omega) oz hs
 exact⟨h.1,⟨h.2.eq e.symm⟩⟩
theorem oU(ts:LL)(a:List Rat):Con prog 275 [.ptr 1000 0,nA a,.v .nilIface] [(1000,some (a6 ts))] (nA a) [(1000,some (a6 ts))]:=by
 have h:=sM (ts.map (List.map rt)) a;rw[yM]at h;exact h
theorem q5(ts:LL)(a:List Rat):Con prog 71 [.ptr 1000 0,nA a,.v .nilIface] [(1000,some (a6 ts))] (nA a) [(1000,some (a6 ts))]:=by
 have h:=oG (ts.map (List.map rt)) a;rw[yM]at h;exact h
theorem jH[c:Cy ts u k][ha:Zl ts u k a x w v][hb:Zl ts u k b y w' v'](hs:w*u+v*k+(w'*u+v'*k)<200000000000) :
  Con prog 270 [.ptr 1000 0,nA a,nA b] [(1000,some (a6 ts))] (nA (sX (x+y))) [(1000,some (a6 ts))]:=by
 refine gF func270 (fun k z h=>bB h) ?_;refine gc (JP hs) ?_;refine gt (aA (oU _ _) (aG rfl rfl rfl) aC rfl rfl) ?_;refine gR ?_;exact aw.keep (bc rfl)
theorem kI[c:Cy ts u k][ha:Zl ts u k a x w v][hb:Zl ts u k b y w' v'](hs:w*u+v*k+(w'*u+v'*k)<200000000000) :
  Con prog 266 [.ptr 1000 0,nA a,nA b] [(1000,some (a6 ts))] (nA (sX (x-y))) [(1000,some (a6 ts))]:=by
 refine gF func266 (fun k z h=>bB h) ?_;refine gc (ND hs) ?_;refine gt (aA (oU _ _) (aG rfl rfl rfl) aC rfl rfl) ?_;refine gR ?_;exact aw.keep (bc rfl)
theorem jy[c:Cy ts u k][ha:Zl ts u k a x w v][hb:Zl ts u k b y w' v'](hs:w*u+v*k+(w'*u+v'*k)<200000000000) :
  Con prog 276 [.ptr 1000 0,nA a,nA b] [(1000,some (a6 ts))] (nA (sX (x*y))) [(1000,some (a6 ts))]:=by
 refine gF func276 (fun k z h=>bB h) ?_;refine gc (OF hs) ?_;refine gt (aA (oU _ _) (aG rfl rfl rfl) aC rfl rfl) ?_;refine gR ?_;exact aw.keep (bc rfl)
theorem tX{q:List Rat}(hd:FP 281 [aN ts,nA a,nA b] (.tup [nA q,.v .nilIface])) :
  Con prog 269 [.ptr 1000 0,nA a,nA b] [(1000,some (a6 ts))] (nA q) [(1000,some (a6 ts))]:=by
 refine gF func269 (fun k z h=>bB h) ?_;refine gc hd ?_;refine gt (aA (oU _ _) (aG rfl rfl rfl) aC rfl rfl) ?_;refine gR ?_;exact aw.keep (bc rfl)
theorem qI[c:Cy ts u k][ha:Zl ts u k a x w v](hs:w*u+v*k<200000000000) :
  Con prog 263 [.ptr 1000 0,nA a] [(1000,some (a6 ts))] (i64 (ak x)) [(1000,some (a6 ts))]:=by
 refine gF func263 (fun k z h=>bB h) ?_;refine gC (fun t11=>?_) (fun t11=>?_) (st1:=(2,0));cases t11;refine gc (GS hs) ?_;refine gR ?_;exact aw.keep (bc rfl)
theorem vK{q:List Rat}(hd:FP 281 [aN ts,nA a,nA b] (.tup [nA q,.v .nilIface])) :
  Con prog 163 [.ptr 1000 0,nA a,nA b] [(1000,some (a6 ts))] (nA q) [(1000,some (a6 ts))]:=by
 refine gF func163 (fun k z h=>bB h) ?_;refine gc hd ?_;refine gt (aA (q5 _ _) (aG rfl rfl rfl) aC rfl rfl) ?_;refine gR ?_;exact aw.keep (bc rfl)
theorem BT[c:Cy ts u k][ha:Zl ts u k a x w v](hs:w*u+v*k<200000000000) :
  Con prog 160 [.ptr 1000 0,nA a] [(1000,some (a6 ts))] (i64 (ak x)) [(1000,some (a6 ts))]:=by
 refine gF func160 (fun k z h=>bB h) ?_;refine gC (fun t11=>?_) (fun t11=>?_) (st1:=(2,0));cases t11;refine gc (GS hs) ?_;refine gR ?_;exact aw.keep (bc rfl)
theorem zF[c:Cy ts u k](n:Int)(hn:-9223372036854775808<=n/\n<=9223372036854775807)[hq:Qz u (n:Rat) w'][ha:Zl ts u k a x w v](hs:w'*u+0*k+(w*u+v*k)<200000000000) :
  Con prog 267 [.ptr 1000 0,i64 n,nA a] [(1000,some (a6 ts))] (nA (sX (qE (n:Rat)*x))) [(1000,some (a6 ts))]:=by
 haveI:=Cy.zq (ts:=ts) (u:=u) (k:=k) (q:=(n:Rat)) (w:=w');have hm:=jy (ts:=ts) (u:=u) (k:=k) (a:=sh 0 ((n:Rat):Rat)) (b:=a) (x:=qE (n:Rat)) (y:=x) hs;refine gF func267 (fun k z h=>bB h) ?_;refine gc (kF n hn) ?_;refine gc (mj (pR hn)) ?_;refine gt (aA hm (aG rfl rfl rfl) aC rfl rfl) ?_;refine gR ?_;exact aw.keep (bc rfl)
theorem sQ{p1 p2 v1 v2 c m1 m2 q1 q2:List Rat}(h1:Con prog 276 [.ptr 1000 0,nA c,nA v1] [(1000,some (a6 ts))] (nA m1) [(1000,some (a6 ts))])
  (h2:Con prog 276 [.ptr 1000 0,nA c,nA v2] [(1000,some (a6 ts))] (nA m2) [(1000,some (a6 ts))])
  (h3:Con prog 270 [.ptr 1000 0,nA p1,nA m1] [(1000,some (a6 ts))] (nA q1) [(1000,some (a6 ts))])
  (h4:Con prog 270 [.ptr 1000 0,nA p2,nA m2] [(1000,some (a6 ts))] (nA q2) [(1000,some (a6 ts))]) :
  Con prog 268 [.ptr 1000 0,aI p1 p2,nA c,aI v1 v2] [(1000,some (a6 ts))] (aI q1 q2) [(1000,some (a6 ts))]:=by
 refine gF func268 (fun k z h=>bB h) ?_;refine gt (aA h1 (aG rfl rfl rfl) aC rfl rfl) ?_;refine gt (aA h3 (aG rfl rfl rfl) aC rfl rfl) ?_;refine gt (aA h2 (aG rfl rfl rfl) aC rfl rfl) ?_;refine gt (aA h4 (aG rfl rfl rfl) aC rfl rfl) ?_;refine gD ?_;refine gR ?_;exact aw.keep (bc rfl)
theorem HT{r e:Nat}(tw:Tw ts r)(ha:Nm ts.length e a)(he:e<=lm ts.length)(hs:0<=T.sgn (am ts) ts.length (ae ts.length a)) :
  Con prog 271 [.ptr 1000 0,nA a] [(1000,some (a6 ts))] (nA (cm ts.length)) [(1000,some (a6 (aL ts a)))]:=by
 refine gF func271 (fun k z h=>bB h) ?_;refine gC (fun t12=>?_) (fun t12=>?_) (st1:=(2,0));cases t12;refine gc (B6 tw ha he hs) ?_;refine gC (fun t24=>?_) (fun t24=>?_) (st1:=(5,0));cases t24;refine gR ?_;exact aw.keep (bc rfl)
abbrev xL(ts:LL)(ps:List AV):AV:=.agg [.lst 1 (ts.map nA),.lst 2 ps]
theorem Tu{r:Nat}(tw:Tw ts r):Con prog 355 [.ptr 1000 0] [(1000,some (a6 ts))] (aN ts) [(1000,some (a6 ts))]:=by
 have h3:=tw.three;have hqs:=tw.rb.qs tw.le;refine gF func355 (fun k z h=>bB h) ?_;refine gl ?_;refine gW (Wk.virt 900 1 rfl) ?_;refine aJ [2,3,13,14] [1000,2] (fun(i:Nat)=>[(15,some (i64 i))]) (fun i=>[(3,some (.box [.ms 900 1 0 i])),(900,some (.row 1 ((ts.take i).map nA)))]) (fun i=>i<=ts.length) (fun i=>ts.length-i) 0 (zero_le _) ?_ (h2:=(.cons rfl (BlkSub.bL (.cons (.nM _ _ _) .nil) rfl) (.k .nil)));rintro i hi K1 J1;refine gC (fun t16=>?_) (fun t16=>?_) (st2:=(13,0))
 ·have hin:=aT t16;obtain⟨d,hd⟩:=aq hin
  have hdl:d.length<=32:=by
   have h9:=tw.len i hin;rw[aB hd]at h9;have:2^i<=32:=bV (b:=5) oz;omega
  have hdq:=hqs d (mem_of_getElem? hd);refine gi (au hd) ?_;refine gl ?_;refine gW (Wk.virt 901 3 rfl) ?_;refine aJ [2,3,13,14,15,19,20] [1000,2,3,900] (fun(j:Nat)=>[(6,some (.ms 901 3 0 j)),(21,some (i64 j))]) (fun j=>[(901,some (.row 3 ((d.take j).map qA)))]) (fun j=>j<=d.length) (fun j=>d.length-j) 0 (zero_le _) ?_;rintro j hj K2 J2;refine gC (fun t22=>?_) (fun t22=>?_) (st2:=(11,0))
  ·have hjn:=aT t22;obtain ⟨q,hq⟩:=aq hjn;have hadd:=mN (rt q) (rt 0) (hdq q (mem_of_getElem? hq)).ok Qs.zero.ok;rw [pK,bM] at hadd;refine gi (au hq) ?_;refine gc (Con.sA (.cons (.refl _) (.cons iH .nil)) hadd) ?_;refine gs (bR (.tmp rfl) rfl (by rw [length_map,length_take]; omega) (.tmp rfl) T67 rfl T45 rfl rfl (by simp only [length_cons,length_nil]; omega) rfl rfl) ?_ (10,0);refine gW (Wk.of (sl:=[(2,some (.ptr 2 0)),(3,some (.ptr 3 0)),(13,some (.lst 1 (ts.map nA))),(14,some (i64 ts.length)),(15,some (i64 i)),(6,some (.ms 30 3 0 (j + 1))),(19,some (nA d)),(20,some (i64 d.length)),(21,some (i64 j))]) (hp:=[(1000,some (a6 ts)),(2,some (.box [nS])),(3,some (.box [.ms 900 1 0 i])),(900,some (.row 1 ((ts.take i).map nA))),(30,some (.row 3 ((d.take (j + 1)).map qA)))]) aQ (.k (.k (.k (.k (.cons rfl (BlkSub.of (by rw [cS hq,map_append]; rfl)) .nil)))))) ?_ (10,0)
   refine gW (Wk.rk (k:=30) (d:=901) rfl rfl) ?_;refine ga aE ?_;exact aD J2 (j+1) hjn
  have hjn:=a5 hj t22;subst hjn;refine gW ((Wk.freeze (k:=901) rfl).trans<|Wk.of (sl:=[(2,some (.ptr 2 0)),(3,some (.ptr 3 0)),(13,some (.lst 1 (ts.map nA))),(14,some (i64 ts.length)),(15,some (i64 i)),(6,some (nA d))]) (hp:=[(1000,some (a6 ts)),(2,some (.box [nS])),(3,some (.box [.ms 900 1 0 i])),(900,some (.row 1 ((ts.take i).map nA)))]) (.k (.k (.k (.k (.k (.cons rfl (Sub.of (by rw[bI (by simp)];simp[nA])) .nil)))))) (.k (.k (.k (.k .nil))))) ?_
  refine gs (bR (.tmp rfl) rfl (by rw[length_map,length_take];omega) (.tmp rfl) T35 rfl T67 rfl rfl (by simp only[length_cons,length_nil];omega) rfl rfl) ?_ (12,0);refine gW (Wk.of (sl:=[(2,some (.ptr 2 0)),(3,some (.ptr 3 0)),(13,some (.lst 1 (ts.map nA))),(14,some (i64 ts.length)),(15,some (i64 i))]) (hp:=[(1000,some (a6 ts)),(2,some (.box [nS])),(3,some (.box [.ms 36 1 0 (i+1)])),(36,some (.row 1 ((ts.take (i+1)).map nA)))]) aQ (.k (.k (.k (.cons rfl (BlkSub.of (by rw[cS hd,map_append];rfl)) .nil))))) ?_ (12,0);refine gW (Wk.rk (k:=36) (d:=900) rfl rfl) ?_;refine ga aE ?_;exact aD J1 (i+1) hin
 have hin:=a5 hi t16;subst hin;refine gW ((Wk.freeze (k:=900) rfl).trans<|Wk.of (sl:=[(2,some (.ptr 2 0)),(3,some (.ptr 3 0))]) (hp:=[(1000,some (a6 ts)),(2,some (.box [nS])),(3,some (.box [.lst 1 (ts.map nA)]))]) aQ (.k (.k (.cons rfl (BlkSub.bL (.cons (Sub.of (by rw[bI (by simp)];simp)) .nil) rfl) .nil)))) ?_;refine gR ?_;exact aw.keep (bc rfl)
theorem mO{r:Nat}(tw:Tw ts r)(ps:List AV):Con prog 265 [.ptr 1000 0,.lst 2 ps] [(1000,some (a6 ts))] (.tup [xL ts ps,.v .nilIface]) [(1000,some (a6 ts))]:=by
 refine gF func265 (fun k z h=>bB h) ?_;refine gC (fun t10=>?_) (fun t10=>?_) (st1:=(2,0));cases t10;refine gt (aA (Tu tw) (cr rfl) aC rfl rfl) ?_;refine gR ?_;exact aw.keep (bc rfl)
end
theorem dD(ts:LL)(a:List Rat):(aL ts a).length=ts.length+1:=by simp[aL]
theorem Hx{ts:LL}{a:List Rat}{j:Nat}(h:j<ts.length):(aL ts a).getD j []=ts.getD j []:=by
 unfold aL;rw[getD_eq_getElem?_getD,getD_eq_getElem?_getD,getElem?_append_left h]
theorem wB(ts:LL)(a:List Rat):(aL ts a).getD ts.length []=aU a (2^ts.length):=by
 unfold aL;rw[getD_eq_getElem?_getD,getElem?_append_right (le_refl _),Nat.sub_self];rfl
theorem wF{ts:LL}{a:List Rat}{j:Nat}(h:j<ts.length):am (aL ts a) j=am ts j:=by
 unfold am;rw[Hx h]
theorem yE{ts:LL}{a:List Rat}{j:Nat}(h:j<=ts.length)(x:T j):T.sgn (am (aL ts a)) j x=T.sgn (am ts) j x :=
 T.sgn_congr j (fun i hi=>wF oz) x
theorem RB.ext{r e:Nat}{ts:LL}{a:List Rat}(h:RB r ts)(ha:Cb e a):RB (r+e) (aL ts a):=by
 obtain⟨D,N,h0,h1,h2,h3⟩:=h;obtain⟨D',N',k1,k2,k3⟩:=ha.wide (n:=2^ts.length);have hN:N<=2^r:=h3;refine⟨D*D',max (N*D') (N'*D),Nat.mul_pos h0 k1.1,?_,?_,?_⟩
 ·intro d hd;rcases List.mem_append.1 hd with h9 |h9
  ·exact((h1 d h9).scale k1.1).mono (Nat.le_max_left _ _)
  ·rw[List.mem_singleton.1 h9,Nat.mul_comm D];exact(k1.scale h0).mono (Nat.le_max_right _ _)
 ·rw[pow_add];exact Nat.mul_le_mul h2 k2
 ·rw[pow_add];refine Nat.max_le.2 ⟨Nat.mul_le_mul h3 k2,?_⟩;rw[Nat.mul_comm (2^r)];exact Nat.mul_le_mul k3 h2
theorem BG{r e:Nat}{ts:LL}{a:List Rat}(tw:Tw ts r)(h2:ts.length<=2)(ha:Nm ts.length e a)(he:r+e<=5000000000)(hs:0<=T.sgn (am ts) ts.length (ae ts.length a)):Tw (aL ts a) (r+e):=by
 refine⟨by rw[dD];omega,?_,?_,tw.rb.ext ha.cb,he⟩
 ·intro j hj;rw[dD]at hj;rcases lt_or_ge j ts.length with h |h
  ·rw[Hx h];exact tw.len j h
  ·have : j = ts.length := by omega
   subst this;rw[wB];exact dz ha.nl.le
 ·intro j hj;rw[dD]at hj;rw[yE oz];rcases lt_or_ge j ts.length with h |h
  ·rw[wF h];exact tw.pos j h
  ·have : j = ts.length := by omega
   subst this
   have e1:am (aL ts a) ts.length=ae ts.length a:=by
    show ae ts.length ((aL ts a).getD ts.length [])=_;rw[wB,o8]
   rw[e1];exact hs
theorem lV{ts:LL}{a l:List Rat}{e:Nat}(h:Nm ts.length e l)(h4:ts.length<=4):Nm (aL ts a).length e l:=by
 rw[dD];exact⟨by omega,h.nl.mono oz,h.cb⟩
theorem TH{ts:LL}{a l:List Rat}(h:Nl ts.length l):ak (dE (aL ts a) l)=ak (dE ts l):=by
 unfold ak dE;rw[dD];show T.sgn (am (aL ts a)) (ts.length+1) (ae (ts.length+1) l)=_;rw[tC (am (aL ts a)) h.le (Nat.le_succ _),yE (le_refl _)]
theorem rO{ts:LL}{a:List Rat}(h4:ts.length<=4):Nm (aL ts a).length 1 (cm ts.length):=by
 rw[dD];refine⟨by omega,.inr ⟨_,le_refl _,BB _⟩,1,1,⟨by omega,?_⟩,by omega,by omega⟩;intro q hq;unfold cm at hq;rcases List.mem_or_eq_of_mem_set hq with h |h
 ·rw[(List.mem_replicate.1 h).2];exact⟨0,by rw[Rat.zero_mul];rfl,by simp⟩
 ·rw[h];exact⟨1,by rw[Rat.one_mul];rfl,by simp⟩
theorem MQ{r e k:Nat}{ts:LL}{a:List Rat}(tw:Tw ts r)(h1:ts.length<=1)(ha:Nm ts.length e a)(he:r+e<=5000000000)(hs:0<=T.sgn (am ts) ts.length (ae ts.length a)){u:Nat}(hu:3<=u)(hk:3*(r+e)+6<=k):Cy (aL ts a) u k :=
 ⟨⟨r+e,BG tw oz ha he hs,by
  rw[dD];have h:=gV (r+e) (show ts.length+1<=2 by omega);have h2:eB (r+e) 2=3*(r+e)+6:=by simp only[eB];omega
  omega⟩,by omega,hu,by rw[dD];omega⟩
structure Mt where
  ts:LL
  ps:List (List Rat×List Rat)
abbrev dc(p:List Rat×List Rat):AV:=aI p.1 p.2
abbrev Mt.av(m:Mt):AV:=xL m.ts (m.ps.map dc)
abbrev P2(ts:LL):Type:=Et ts×Et ts
abbrev P2.l{ts:LL}(p:P2 ts):List Rat×List Rat:=(sX p.1,sX p.2)
abbrev aO{ts:LL}(X:Et ts)(x:Et ts):Et (aL ts (sX X)):=dE (aL ts (sX X)) (sX x)
section
variable{ts:LL}
def d7(d:Et ts):Et ts:=qE ((2:Int):Rat)*d
def fO(p q:P2 ts):P2 ts:=(q.1-p.1,q.2-p.2)
def dS(p:P2 ts)(k:Et ts)(v:P2 ts):P2 ts:=(p.1+k*v.1,p.2+k*v.2)
def eQ(p q:P2 ts)(z z2:Et ts):P2 ts:=dS p ((z+aH p q-z2)*iE (d7 (aH p q))) (fO p q)
def d9(X d:Et ts):Et (aL ts (sX X)):=dE _ (cm ts.length)*iE (aO X (d7 d))
def ia(X:Et ts)(f v:P2 ts)(c:Et (aL ts (sX X))):P2 (aL ts (sX X)):=dS (aO X f.1,aO X f.2) c (qE ((-1:Int):Rat)*aO X v.2,aO X v.1)
def lX(p:P2 ts)(z z2:Et ts):Mt:=if ak (z-z2)≠0 then⟨ts,[]⟩else if 0<ak z then⟨[],[]⟩else⟨ts,[(dS p 0 p).l]⟩
def eU(p q:P2 ts)(z z2:Et ts):Mt :=
  if ak (aH p q)=0 then lX p z z2
  else if ak (bG p z q z2)<0 then⟨ts,[]⟩
  else if ak (bG p z q z2)=0 then⟨ts,[(eQ p q z z2).l]⟩
  else⟨aL ts (sX (bG p z q z2)),[(ia (bG p z q z2) (eQ p q z z2) (fO p q) (d9 (bG p z q z2) (aH p q))).l,
    (ia (bG p z q z2) (eQ p q z z2) (fO p q) (qE ((-1:Int):Rat)*d9 (bG p z q z2) (aH p q))).l]⟩
def mc(z z2:Et ts):Nat:=if ak (z-z2)=0/\0<ak z then 15 else 0
def fT(p q:P2 ts)(z z2:Et ts):Nat:=if ak (aH p q)=0 then mc z z2 else 0
theorem Er:Sub (.agg [nS,nS]) (xL [] []):=Sub.agg (.cons (.nil _ _ _) (.cons (.nil _ _ _) .nil)) rfl
end
theorem V7 {ts : LL} {u k : Nat} [c : Cy ts u k] : Zl ts u k [] (0 : Et ts) 0 0 := ⟨by rw [fV]; exact E.zero_def.symm, by
 obtain⟨R,tw,_⟩:=c.ex;exact⟨tw.five,.inl rfl,Cb.nil.mono (zero_le _)⟩⟩
section
variable{ts:LL}{a b c a2 b2 c2:List Rat}{x y z x2 y2 z2:Et ts}
theorem L0{r:Nat}(tw:Tw ts r)[c0:Cy ts 310000 65000][i1:Zl ts 310000 65000 a x 40 40][i2:Zl ts 310000 65000 b y 40 40][i3:Zl ts 310000 65000 c z 3 0][i6:Zl ts 310000 65000 c2 z2 3 0] :
  Con prog 264 [.ptr 1000 0,.agg [nA a,nA b,nA c],.agg [nA a2,nA b2,nA c2]] [(1000,some (a6 ts))]
   (.tup [(lX (x,y) z z2).av,bh (mc z z2)]) [(1000,some (a6 ts))]:=by
 haveI:=i1.zu;haveI:=i2.zu;haveI:=i3.zu;haveI:=i6.zu;have hm0:=Con.sA (.cons (.refl _) (.cons (Sub.nil 2 none 0) .nil)) (mO tw []);have m1:=kI (ts:=ts) (u:=310000) (k:=65000) (a:=c) (b:=c2) (by decide);have m2:=qI (ts:=ts) (u:=310000) (k:=65000) (a:=sX (z-z2)) (by decide);have m3:=qI (ts:=ts) (u:=310000) (k:=65000) (a:=c) (by decide);haveI zn:Zl ts 310000 65000 [] (0:Et ts) 0 0:=V7;have n1:=jy (ts:=ts) (u:=310000) (k:=65000) (a:=[]) (b:=a) (by decide);have n2:=jy (ts:=ts) (u:=310000) (k:=65000) (a:=[]) (b:=b) (by decide);have n3:=jH (ts:=ts) (u:=310000) (k:=65000) (a:=a) (b:=sX (0*x)) (by decide);have n4:=jH (ts:=ts) (u:=310000) (k:=65000) (a:=b) (b:=sX (0*y)) (by decide);have hal:=Con.sA (.cons (.refl _) (.cons (.refl _) (.cons (Sub.nil 3 none 0) (.cons (.refl _) .nil)))) (sQ n1 n2 n3 n4);refine gF func264 (fun k z h=>bB h) ?_;refine gt (aR m1 (aG rfl rfl rfl) rfl rfl rfl) ?_;refine gt (aR m2 (bp rfl rfl) rfl rfl rfl) ?_;refine gC (fun t8=>?_) (fun t8=>?_)
 ·have h1:ak (z-z2)≠0:=nO t8;refine gt (aR hm0 (.cons (.tmp rfl) (.cons (.const _) .nil)) rfl rfl rfl) ?_;refine gR ?_;exact(aw.keep (bc rfl)).sub (Sub.of (by unfold lX mc;rw[if_pos h1,if_neg (fun h=>h1 h.1)];rfl))
 have h1:ak (z-z2)=0:=ww t8;refine gt (aR m3 (bp rfl rfl) rfl rfl rfl) ?_;refine gC (fun t22=>?_) (fun t22=>?_)
 ·have h2:0<ak z:=of_decide_eq_true t22;refine gR ?_;exact(aw.keep (bc rfl)).sub (by unfold lX mc;rw[if_neg oz,if_pos h2,if_pos ⟨h1,h2⟩];exact Sub.tup (.cons Er (.cons (.refl _) .nil)))
 have h2:¬0<ak z:=of_decide_eq_false t22;refine gt (aR hal (.cons (.tmp rfl) (.cons (.tmp rfl) (.cons (.const _) (cr rfl)))) rfl rfl rfl) ?_;refine gt (aR (mO tw [aI (sX (x+0*x)) (sX (y+0*y))]) (bp rfl rfl) rfl rfl rfl) ?_;refine gR ?_;exact(aw.keep (bc rfl)).sub (Sub.of (by unfold lX mc;rw[if_neg oz,if_neg h2,if_neg (fun h=>h2 h.2)];rfl))
end
section
variable{rs:List (List Rt)}{r:Nat}{a b c a2 b2 c2:List Rat}{x y z x2 y2 z2:Et (llq rs)}
structure CirP(ts:LL)(p q:P2 ts)(z z2:Et ts):Prop where
  zd:Zu 310000 65000 (aH p q) 320 327
  zX:Zu 310000 65000 (bG p z q z2) 976 989
  zt:Zu 310000 65000 (d7 (aH p q)) 321 328
  z1:Zu 310000 65000 (fO p q).1 80 81
  z2:Zu 310000 65000 (fO p q).2 80 81
theorem Cn{ts:LL}{x y z x2 y2 z2:Et ts}(c:Ct ts 310000 65000)(h1:Zu 310000 65000 x 40 40)(h2:Zu 310000 65000 y 40 40)(h3:Zu 310000 65000 z 3 0)(h4:Zu 310000 65000 x2 40 40)(h5:Zu 310000 65000 y2 40 40)(h6:Zu 310000 65000 z2 3 0) :
  CirP ts (x,y) (x2,y2) z z2:=by
 haveI:=c;haveI:=h1;haveI:=h2;haveI:=h3;haveI:=h4;haveI:=h5;haveI:=h6
 haveI zd:=Dj c h1 h2 h4 h5;haveI q4:Qz 310000 ((4:Int):Rat) 1:=Qz.int (c:=Ct.cx (c:=c)) (by decide);haveI q2:Qz 310000 ((2:Int):Rat) 1:=Qz.int (c:=Ct.cx (c:=c)) (by decide)
 exact⟨zd,(inferInstance:Zu 310000 65000 (qE ((4:Int):Rat)*(z*aH (x,y) (x2,y2))-(z+aH (x,y) (x2,y2)-z2)*(z+aH (x,y) (x2,y2)-z2)) _ _),
  (inferInstance:Zu 310000 65000 (qE ((2:Int):Rat)*aH (x,y) (x2,y2)) _ _),(inferInstance:Zu 310000 65000 (x2-x) _ _),(inferInstance:Zu 310000 65000 (y2-y) _ _)⟩
theorem E0{ts:LL}{x y z x2 y2 z2:Et ts}[c0:Cy ts 310000 65000](hn:ts.length<=1)(h1:Zu 310000 65000 x 40 40)(h2:Zu 310000 65000 y 40 40)(h3:Zu 310000 65000 z 3 0)(h6:Zu 310000 65000 z2 3 0)(P:CirP ts (x,y) (x2,y2) z z2)
  (h0:ak (d7 (aH (x,y) (x2,y2)))≠0) :
  FP 281 [aN ts,nA (sX (z+aH (x,y) (x2,y2)-z2)),nA (sX (d7 (aH (x,y) (x2,y2))))] (.tup [nA (sX ((z+aH (x,y) (x2,y2)-z2)*iE (d7 (aH (x,y) (x2,y2))))),.v .nilIface]) /\
  Zu 310000 65000 ((z+aH (x,y) (x2,y2)-z2)*iE (d7 (aH (x,y) (x2,y2)))) 1931 1972/\Zu 310000 65000 (eQ (x,y) (x2,y2) z z2).1 2051 2095/\Zu 310000 65000 (eQ (x,y) (x2,y2) z z2).2 2051 2095:=by
 haveI:=h1;haveI:=h2;haveI:=h3;haveI:=h6;haveI:=P.zd;haveI:=P.zt
 have hd:=p4 (ts:=ts) (u:=310000) (k:=65000) (a:=sX (z+aH (x,y) (x2,y2)-z2)) (b:=sX (d7 (aH (x,y) (x2,y2)))) (j:=ts.length) P.zt.nm.nl (le_refl _) hn h0 (by decide);haveI zk:=hd.2;haveI:=P.z1;haveI:=P.z2
 exact⟨hd.1,zk,(inferInstance:Zu 310000 65000 (x+((z+aH (x,y) (x2,y2)-z2)*iE (d7 (aH (x,y) (x2,y2))))*(fO (x,y) (x2,y2)).1) _ _),
  (inferInstance:Zu 310000 65000 (y+((z+aH (x,y) (x2,y2)-z2)*iE (d7 (aH (x,y) (x2,y2))))*(fO (x,y) (x2,y2)).2) _ _)⟩
structure ExtP{ts:LL}(X:Et ts):Prop where
  tw:Tw (aL ts (sX X)) 366909990
  cy:Cy (aL ts (sX X)) 773000000 1101400000
theorem rQ{ts:LL}{X:Et ts}(tw:Tw ts 64990)(hn:ts.length<=1)(hx:Zu 310000 65000 X 976 989)(hs:0<=ak X):ExtP X:=by
 have h9:0<=T.sgn (am ts) ts.length (ae ts.length (sX X)):=by rw[show ae ts.length (sX X)=X from a7 _ _];exact hs
 have hm:=hx.nm;exact⟨BG tw oz hm (by decide) h9,MQ tw hn hm (by decide) h9 oz (by decide)⟩
theorem jJ{ts:LL}{X x:Et ts}{w v:Nat}(hn:ts.length<=1)(h:Zu 310000 65000 x w v)(hs:w*310000+v*65000<=773000000):Zl (aL ts (sX X)) 773000000 1101400000 (sX x) (aO X x) 1 0:=Zl.at (lV h.nm oz) hs
theorem oJ{ts:LL}{X x:Et ts}:ak (aO X x)=ak x:=by
 show ak (dE (aL ts (sX X)) (sX x))=_;rw[TH (l:=sX x) (ee _ _)];show ak (dE ts (sX x))=_;rw[show dE ts (sX x)=x from a7 _ _]
theorem wA{ts:LL}{r:Nat}(tw:Tw ts r)(d:Et ts):ak (d7 d)=ak d:=by
 have h:=gE (am ts) ts.length tw.pos
 have h2:sg (am ts) ts.length (qE ((2:Int):Rat):Et ts)=1:=by
  show T.sgn (am ts) ts.length (T.ofQ ts.length ((2:Int):Rat))=1;rw[T.sgn_ofQ];rfl
 have h3:=h.mul (qE ((2:Int):Rat)) d;rw[h2,Int.one_mul]at h3;exact h3
structure SideP{ts:LL}(X d:Et ts)(f v:P2 ts):Prop where
  hd:FP 281 [aN (aL ts (sX X)),nA (cm ts.length),nA (sX (d7 d))] (.tup [nA (sX (d9 X d)),.v .nilIface])
  ht:Con prog 267 [.ptr 1000 0,i64 (-1),nA (sX v.2)] [(1000,some (a6 (aL ts (sX X))))] (nA (sX (qE ((-1:Int):Rat)*aO X v.2))) [(1000,some (a6 (aL ts (sX X))))]
  hu:Con prog 267 [.ptr 1000 0,i64 (-1),nA (sX (d9 X d))] [(1000,some (a6 (aL ts (sX X))))] (nA (sX (qE ((-1:Int):Rat)*d9 X d))) [(1000,some (a6 (aL ts (sX X))))]
  a1:Con prog 268 [.ptr 1000 0,aI (sX f.1) (sX f.2),nA (sX (d9 X d)),aI (sX (qE ((-1:Int):Rat)*aO X v.2)) (sX v.1)] [(1000,some (a6 (aL ts (sX X))))] (dc (ia X f v (d9 X d)).l) [(1000,some (a6 (aL ts (sX X))))]
  a2:Con prog 268 [.ptr 1000 0,aI (sX f.1) (sX f.2),nA (sX (qE ((-1:Int):Rat)*d9 X d)),aI (sX (qE ((-1:Int):Rat)*aO X v.2)) (sX v.1)] [(1000,some (a6 (aL ts (sX X))))] (dc (ia X f v (qE ((-1:Int):Rat)*d9 X d)).l) [(1000,some (a6 (aL ts (sX X))))]
  n1:Zu 773000000 1101400000 (ia X f v (d9 X d)).1 9 6/\Zu 773000000 1101400000 (ia X f v (d9 X d)).2 9 6
  n2:Zu 773000000 1101400000 (ia X f v (qE ((-1:Int):Rat)*d9 X d)).1 10 7/\Zu 773000000 1101400000 (ia X f v (qE ((-1:Int):Rat)*d9 X d)).2 10 7
theorem HZ{ts:LL}{X d:Et ts}{f v:P2 ts}(hn:ts.length<=1)(E:ExtP X)(hd:Zu 310000 65000 (d7 d) 321 328)(h0:ak (d7 d)≠0)(f1:Zu 310000 65000 f.1 2051 2095)(f2:Zu 310000 65000 f.2 2051 2095)
  (v1:Zu 310000 65000 v.1 80 81) (v2:Zu 310000 65000 v.2 80 81):SideP X d f v:=by
 haveI cy:=E.cy;haveI zr:Zl (aL ts (sX X)) 773000000 1101400000 (cm ts.length) (dE _ (cm ts.length)) 1 0:=Zl.at (rO oz) (by decide);haveI zd:=jJ (X:=X) hn hd (by decide);haveI zf1:=jJ (X:=X) hn f1 (by decide);haveI zf2:=jJ (X:=X) hn f2 (by decide);haveI zv1:=jJ (X:=X) hn v1 (by decide);haveI zv2:=jJ (X:=X) hn v2 (by decide);haveI:=zf1.zu;haveI:=zf2.zu;haveI:=zv1.zu;haveI:=zv2.zu
 have hdiv:=p4 (ts:=aL ts (sX X)) (u:=773000000) (k:=1101400000) (a:=cm ts.length) (b:=sX (d7 d)) (j:=ts.length) hd.nm.nl (by rw[dD];omega) hn (by rw[oJ];exact h0) (by decide);haveI zs:Zu 773000000 1101400000 (d9 X d) 6 3:=hdiv.2;haveI qm:Qz 773000000 ((-1:Int):Rat) 1:=Qz.int (c:=Cy.cx (c:=cy)) (by decide);haveI zm:Zu 773000000 1101400000 (qE ((-1:Int):Rat)*aO X v.2) 2 1:=inferInstance;haveI zu:Zu 773000000 1101400000 (qE ((-1:Int):Rat)*d9 X d) 7 4:=inferInstance;have ht:=zF (ts:=aL ts (sX X)) (u:=773000000) (k:=1101400000) (a:=sX v.2) (-1) oz (by decide);have hu:=zF (ts:=aL ts (sX X)) (u:=773000000) (k:=1101400000) (a:=sX (d9 X d)) (-1) oz (by decide)
 have al:∀{c:Et (aL ts (sX X))}{w k:Nat}(zc:Zu 773000000 1101400000 c w k),w<=7->k<=4 ->
   Con prog 268 [.ptr 1000 0,aI (sX f.1) (sX f.2),nA (sX c),aI (sX (qE ((-1:Int):Rat)*aO X v.2)) (sX v.1)] [(1000,some (a6 (aL ts (sX X))))] (dc (ia X f v c).l) [(1000,some (a6 (aL ts (sX X))))]:=by
  intro c w k zc hw hk;haveI:=zc;have m1:=jy (ts:=aL ts (sX X)) (u:=773000000) (k:=1101400000) (a:=sX c) (b:=sX (qE ((-1:Int):Rat)*aO X v.2)) oz;have m2:=jy (ts:=aL ts (sX X)) (u:=773000000) (k:=1101400000) (a:=sX c) (b:=sX v.1) oz;have m3:=jH (ts:=aL ts (sX X)) (u:=773000000) (k:=1101400000) (a:=sX f.1) (b:=sX (c*(qE ((-1:Int):Rat)*aO X v.2))) oz;have m4:=jH (ts:=aL ts (sX X)) (u:=773000000) (k:=1101400000) (a:=sX f.2) (b:=sX (c*aO X v.1)) oz;exact sQ m1 m2 m3 m4
 exact⟨hdiv.1,ht,hu,al zs oz oz,al zu oz oz,
  ⟨(inferInstance:Zu 773000000 1101400000 (aO X f.1+d9 X d*(qE ((-1:Int):Rat)*aO X v.2)) 9 6),⟨(inferInstance:Zu 773000000 1101400000 (aO X f.2+d9 X d*aO X v.1) _ _).nm.mono (by decide)⟩⟩,
  ⟨(inferInstance:Zu 773000000 1101400000 (aO X f.1+qE ((-1:Int):Rat)*d9 X d*(qE ((-1:Int):Rat)*aO X v.2)) 10 7),⟨(inferInstance:Zu 773000000 1101400000 (aO X f.2+qE ((-1:Int):Rat)*d9 X d*aO X v.1) _ _).nm.mono (by decide)⟩⟩⟩
theorem MC(h:TR rs 64990)(hc:bA rs=0)(hn:(llq rs).length<=1)[c0:Ct (llq rs) 310000 65000][i1:Zl (llq rs) 310000 65000 a x 40 40][i2:Zl (llq rs) 310000 65000 b y 40 40][i3:Zl (llq rs) 310000 65000 c z 3 0][i4:Zl (llq rs) 310000 65000 a2 x2 40 40][i5:Zl (llq rs) 310000 65000 b2 y2 40 40][i6:Zl (llq rs) 310000 65000 c2 z2 3 0]
  (ha:a=sX x) (hb:b=sX y) (s1:0<=ak z) (s2:0<=ak z2):FP 157 [cJ rs,.agg [nA a,nA b,nA c],.agg [nA a2,nA b2,nA c2]] (.tup [(eU (x,y) (x2,y2) z z2).av,bh (fT (x,y) (x2,y2) z z2)]):=by
 have hz:∀q∈[(a,b,c),(a2,b2,c2)],CiZ rs q:=fun q hq=>by
  simp only[mem_cons,not_mem_nil,or_false]at hq;rcases hq with rfl |rfl
  ·exact⟨i1.nm.mono oz,i2.nm.mono oz,i3.nm.mono oz,by show 0<=ak (dE (llq rs) c);rw[show dE (llq rs) c=z from i3.eq];exact s1⟩
  ·exact⟨i4.nm.mono oz,i5.nm.mono oz,i6.nm.mono oz,by show 0<=ak (dE (llq rs) c2);rw[show dE (llq rs) c2=z2 from i6.eq];exact s2⟩
 have hck:=S4 h hc [(a,b,c),(a2,b2,c2)] hz (by show 2<=100;omega);obtain⟨tw,etw⟩:=cK h hc;haveI cy:Cy (llq rs) 310000 65000:=⟨c0.ex,by omega,by omega,by omega⟩
 have P:=Cn c0 i1.zu i2.zu i3.zu i4.zu i5.zu i6.zu;haveI:=P.zd;haveI:=P.zX;haveI:=i3.zu;haveI:=i6.zu;have m1:=qI (ts:=llq rs) (u:=310000) (k:=65000) (a:=sX (aH (x,y) (x2,y2))) (by decide);have m2:=qI (ts:=llq rs) (u:=310000) (k:=65000) (a:=sX (bG (x,y) z (x2,y2) z2)) (by decide);have m0:=Con.sA (.cons (.refl _) (.cons (Sub.nil 2 none 0) .nil)) (mO tw []);have w1:=kI (ts:=llq rs) (u:=310000) (k:=65000) (a:=a2) (b:=a) (by decide);have w2:=kI (ts:=llq rs) (u:=310000) (k:=65000) (a:=b2) (b:=b) (by decide);haveI q2:Qz 310000 ((2:Int):Rat) 1:=Qz.int (c:=Cy.cx (c:=cy)) (by decide);have t2:=zF (ts:=llq rs) (u:=310000) (k:=65000) (a:=sX (aH (x,y) (x2,y2))) 2 oz (by decide);have k1:=jH (ts:=llq rs) (u:=310000) (k:=65000) (a:=c) (b:=sX (aH (x,y) (x2,y2))) (by decide);have k2:=kI (ts:=llq rs) (u:=310000) (k:=65000) (a:=sX (z+aH (x,y) (x2,y2))) (b:=c2) (by decide);subst ha;subst hb;refine ah func157 ?_;refine gc hck ?_;refine gC (fun t24=>?_) (fun t24=>?_) (st1:=(3,0)) (st2:=(5,0));cases t24;refine gW (Wk.o (sl:=[(4,some (.ptr 4 0)),(5,some (.ptr 5 0)),(6,some (.ptr 6 0)),(9,some (.ptr 29 0))]) (hp:=[(4,some (.box [nA (sX x),nA (sX y),nA c])),(5,some (.box [nA a2,nA b2,nA c2])),(6,some (.box [nS,nS])),(29,some (dh rs))])) ?_;refine gt (aA (Con.rB 29 rfl rfl rfl rfl (Lt h hc)) (aG rfl rfl rfl) aC rfl rfl) ?_ (6,0);refine gW (Wk.of (sl:=[(4,some (.ptr 4 0)),(5,some (.ptr 5 0)),(6,some (.ptr 6 0)),(9,some (.ptr 29 0)),(10,some (nA (sX (bG (x,y) z (x2,y2) z2)))),(11,some (nA (sX (aH (x,y) (x2,y2)))))]) (hp:=[(4,some (.box [nA (sX x),nA (sX y),nA c])),(5,some (.box [nA a2,nA b2,nA c2])),(6,some (.box [nS,nS])),(29,some (a6 (llq rs)))]) aQ (.k (.k (.k (.cons rfl (BlkSub.bL (.cons (.of (l8 etw)) (.cons (.refl _) .nil)) rfl) .nil))))) ?_
 refine gt (aR (Con.rB 29 rfl rfl rfl rfl m1) (bp rfl rfl) rfl rfl rfl) ?_;refine gC (fun t40=>?_) (fun t40=>?_)
 ·have hd0:ak (aH (x,y) (x2,y2))=0:=cD t40;refine gt (aR (Con.rB 29 rfl rfl rfl rfl (L0 (a:=sX x) (b:=sX y) (c:=c) (a2:=a2) (b2:=b2) (c2:=c2) tw)) (aG rfl rfl rfl) rfl rfl rfl) ?_;refine br ?_;unfold eU fT;rw[if_pos hd0,if_pos hd0]
 have hd0:¬ak (aH (x,y) (x2,y2))=0:=dm t40;refine gt (aR (Con.rB 29 rfl rfl rfl rfl m2) (bp rfl rfl) rfl rfl rfl) ?_;refine gC (fun t51=>?_) (fun t51=>?_)
 ·have hx0:ak (bG (x,y) z (x2,y2) z2)<0:=of_decide_eq_true t51;refine gt (aR (Con.rB 29 rfl rfl rfl rfl m0) (.cons (.tmp rfl) (.cons (.const _) .nil)) rfl rfl rfl) ?_;refine br ?_;unfold eU fT;rw[if_neg hd0,if_neg hd0,if_pos hx0];rfl
 have hx0:¬ak (bG (x,y) z (x2,y2) z2)<0:=of_decide_eq_false t51;have ht0:ak (d7 (aH (x,y) (x2,y2)))≠0:=by rw[wA tw];exact hd0
 obtain⟨fd,fk,f1,f2⟩:=E0 hn i1.zu i2.zu i3.zu i6.zu P ht0;haveI:=fk;haveI:=P.z1;haveI:=P.z2;have g1:=jy (ts:=llq rs) (u:=310000) (k:=65000) (a:=sX ((z+aH (x,y) (x2,y2)-z2)*iE (d7 (aH (x,y) (x2,y2))))) (b:=sX (fO (x,y) (x2,y2)).1) (by decide);have g2:=jy (ts:=llq rs) (u:=310000) (k:=65000) (a:=sX ((z+aH (x,y) (x2,y2)-z2)*iE (d7 (aH (x,y) (x2,y2))))) (b:=sX (fO (x,y) (x2,y2)).2) (by decide);have g3:=jH (ts:=llq rs) (u:=310000) (k:=65000) (a:=sX x) (b:=sX ((z+aH (x,y) (x2,y2)-z2)*iE (d7 (aH (x,y) (x2,y2)))*(fO (x,y) (x2,y2)).1)) (by decide);have g4:=jH (ts:=llq rs) (u:=310000) (k:=65000) (a:=sX y) (b:=sX ((z+aH (x,y) (x2,y2)-z2)*iE (d7 (aH (x,y) (x2,y2)))*(fO (x,y) (x2,y2)).2)) (by decide);have gal:=sQ g1 g2 g3 g4;refine gt (aR (Con.rB 29 rfl rfl rfl rfl w1) (aG rfl rfl rfl) rfl rfl rfl) ?_;refine gt (aR (Con.rB 29 rfl rfl rfl rfl w2) (aG rfl rfl rfl) rfl rfl rfl) ?_;refine gD ?_;refine gt (aR (Con.rB 29 rfl rfl rfl rfl t2) (.cons (.tmp rfl) (.cons (.const _) (cr rfl))) rfl rfl rfl) ?_;refine gt (aR (Con.rB 29 rfl rfl rfl rfl k1) (aG rfl rfl rfl) rfl rfl rfl) ?_;refine gt (aR (Con.rB 29 rfl rfl rfl rfl k2) (aG rfl rfl rfl) rfl rfl rfl) ?_;refine gt (aR (Con.rB 29 rfl rfl rfl rfl (tX fd)) (aG rfl rfl rfl) rfl rfl rfl) ?_;refine gt (aR (Con.rB 29 rfl rfl rfl rfl gal) (.cons (.tmp rfl) (.cons (.tmp rfl) (.cons (.tmp rfl) (.cons (.tmp rfl) .nil)))) rfl rfl rfl) ?_;refine gD ?_;refine gC (fun t94=>?_) (fun t94=>?_)
 ·have hx1:ak (bG (x,y) z (x2,y2) z2)=0:=cD t94;refine gt (aR (Con.rB 29 rfl rfl rfl rfl (mO tw [dc (eQ (x,y) (x2,y2) z z2).l])) (bp rfl rfl) rfl rfl rfl) ?_;refine br ?_;unfold eU fT;rw[if_neg hd0,if_neg hd0,if_neg hx0,if_pos hx1];rfl
 have hx1:¬ak (bG (x,y) z (x2,y2) z2)=0:=dm t94;have E:ExtP (bG (x,y) z (x2,y2) z2):=rQ tw hn P.zX oz;have S:=HZ (X:=bG (x,y) z (x2,y2) z2) (d:=aH (x,y) (x2,y2)) (f:=eQ (x,y) (x2,y2) z z2) (v:=fO (x,y) (x2,y2)) hn E P.zt ht0 f1 f2 P.z1 P.z2;have hex:=HT (a:=sX (bG (x,y) z (x2,y2) z2)) tw P.zX.nm (by rw[cy.lm];decide) (by rw[show ae (llq rs).length (sX (bG (x,y) z (x2,y2) z2))=bG (x,y) z (x2,y2) z2 from a7 _ _];show 0<=ak (bG (x,y) z (x2,y2) z2);omega);refine gt (aA (Con.rB 29 rfl rfl rfl rfl hex) (bp rfl rfl) aC rfl rfl) ?_;refine gt (aR (Con.rB 29 rfl rfl rfl rfl (tX S.hd)) (aG rfl rfl rfl) rfl rfl rfl) ?_;refine gt (aR (Con.rB 29 rfl rfl rfl rfl S.ht) (.cons (.tmp rfl) (.cons (.const _) (cr rfl))) rfl rfl rfl) ?_;refine gD ?_;refine gt (aR (Con.rB 29 rfl rfl rfl rfl S.a1) (.cons (.tmp rfl) (.cons (.tmp rfl) (.cons (.tmp rfl) (.cons (.tmp rfl) .nil)))) rfl rfl rfl) ?_;refine gt (aR (Con.rB 29 rfl rfl rfl rfl S.hu) (.cons (.tmp rfl) (.cons (.const _) (cr rfl))) rfl rfl rfl) ?_;refine gt (aR (Con.rB 29 rfl rfl rfl rfl S.a2) (.cons (.tmp rfl) (.cons (.tmp rfl) (.cons (.tmp rfl) (.cons (.tmp rfl) .nil)))) rfl rfl rfl) ?_;refine gt (aR (Con.rB 29 rfl rfl rfl rfl (mO E.tw [dc (ia (bG (x,y) z (x2,y2) z2) (eQ (x,y) (x2,y2) z z2) (fO (x,y) (x2,y2)) (d9 (bG (x,y) z (x2,y2) z2) (aH (x,y) (x2,y2)))).l,dc (ia (bG (x,y) z (x2,y2) z2) (eQ (x,y) (x2,y2) z z2) (fO (x,y) (x2,y2)) (qE ((-1:Int):Rat)*d9 (bG (x,y) z (x2,y2) z2) (aH (x,y) (x2,y2)))).l])) (bp rfl rfl) rfl rfl rfl) ?_;refine gD ?_;refine br ?_;unfold eU fT;rw[if_neg hd0,if_neg hd0,if_neg hx0,if_neg hx1];rfl
end
section
variable{ts:LL}
abbrev bE(p q:P2 ts):Et ts:=jT (a8 q p) (a8 q p)
abbrev bU(p q c:P2 ts):Et ts:=jT (a8 q p) (a8 c p)
abbrev iD(p q c:P2 ts):Et ts:=oi (a8 q p) (a8 c p)
abbrev aW(p q c:P2 ts)(z:Et ts):Et ts:=bE p q*z-iD p q c*iD p q c
def fw(X:Et ts)(S:Et ts)(k:Et (aL ts (sX X))):Et (aL ts (sX X)):=k*iE (aO X S)
def kq(X:Et ts)(p v:P2 ts)(k:Et (aL ts (sX X))):P2 (aL ts (sX X)):=dS (aO X p.1,aO X p.2) k (aO X v.1,aO X v.2)
abbrev bC(X:Et ts):Et (aL ts (sX X)):=dE _ (cm ts.length)
def eY(p q c:P2 ts)(z:Et ts):Mt :=
  if ak (bE p q)=0 then⟨[],[]⟩else if ak (aW p q c z)=-1 then⟨ts,[]⟩else if ak (aW p q c z)=0 then⟨ts,[(dS p (bU p q c*iE (bE p q)) (a8 q p)).l]⟩
  else⟨aL ts (sX (aW p q c z)),[(kq (aW p q c z) p (a8 q p) (fw (aW p q c z) (bE p q) (aO (aW p q c z) (bU p q c)+bC (aW p q c z)))).l,
    (kq (aW p q c z) p (a8 q p) (fw (aW p q c z) (bE p q) (aO (aW p q c z) (bU p q c)-bC (aW p q c z)))).l]⟩
def fR(p q:P2 ts):Nat:=if ak (bE p q)=0 then 8 else 0
structure LinP(p q c:P2 ts)(z:Et ts):Prop where
  v1:Zu 310000 65000 (a8 q p).1 80 81
  v2:Zu 310000 65000 (a8 q p).2 80 81
  w1:Zu 310000 65000 (a8 c p).1 80 81
  w2:Zu 310000 65000 (a8 c p).2 80 81
  zs:Zu 310000 65000 (bE p q) 320 327
  ze:Zu 310000 65000 (bU p q c) 320 327
  zc:Zu 310000 65000 (iD p q c) 320 327
  zX:Zu 310000 65000 (aW p q c z) 963 984
theorem Ey{p q c:P2 ts}{z:Et ts}(c0:Cy ts 310000 65000)(h1:Zu 310000 65000 p.1 40 40)(h2:Zu 310000 65000 p.2 40 40)(h3:Zu 310000 65000 q.1 40 40)(h4:Zu 310000 65000 q.2 40 40)(h5:Zu 310000 65000 c.1 40 40)(h6:Zu 310000 65000 c.2 40 40)(h7:Zu 310000 65000 z 3 0):LinP p q c z:=by
 haveI:=c0;haveI:=h1;haveI:=h2;haveI:=h3;haveI:=h4;haveI:=h5;haveI:=h6;haveI:=h7
 haveI v1:=(inferInstance:Zu 310000 65000 (q.1-p.1) 80 81)
 haveI v2:=(inferInstance:Zu 310000 65000 (q.2-p.2) 80 81)
 haveI w1:=(inferInstance:Zu 310000 65000 (c.1-p.1) 80 81)
 haveI w2:=(inferInstance:Zu 310000 65000 (c.2-p.2) 80 81)
 haveI zs:Zu 310000 65000 (bE p q) 320 327:=(inferInstance:Zu 310000 65000 ((q.1-p.1)*(q.1-p.1)+(q.2-p.2)*(q.2-p.2)) _ _)
 haveI ze:Zu 310000 65000 (bU p q c) 320 327:=(inferInstance:Zu 310000 65000 ((q.1-p.1)*(c.1-p.1)+(q.2-p.2)*(c.2-p.2)) _ _)
 haveI zc:Zu 310000 65000 (iD p q c) 320 327:=(inferInstance:Zu 310000 65000 ((q.1-p.1)*(c.2-p.2)-(q.2-p.2)*(c.1-p.1)) _ _)
 exact⟨v1,v2,w1,w2,zs,ze,zc,inferInstance⟩
structure LinQ(p q c:P2 ts):Prop where
  hd:FP 281 [aN ts,nA (sX (bU p q c)),nA (sX (bE p q))] (.tup [nA (sX (bU p q c*iE (bE p q))),.v .nilIface])
  al:Con prog 268 [.ptr 1000 0,aI (sX p.1) (sX p.2),nA (sX (bU p q c*iE (bE p q))),aI (sX (a8 q p).1) (sX (a8 q p).2)] [(1000,some (a6 ts))] (dc (dS p (bU p q c*iE (bE p q)) (a8 q p)).l) [(1000,some (a6 ts))]
  n1:Zu 310000 65000 (dS p (bU p q c*iE (bE p q)) (a8 q p)).1 2040 2088
  n2:Zu 310000 65000 (dS p (bU p q c*iE (bE p q)) (a8 q p)).2 2040 2088
theorem Hq{p q c:P2 ts}{z:Et ts}(c0:Cy ts 310000 65000)(hn:ts.length<=1)(h1:Zu 310000 65000 p.1 40 40)(h2:Zu 310000 65000 p.2 40 40)(P:LinP p q c z)(h0:ak (bE p q)≠0):LinQ p q c:=by
 haveI:=c0;haveI:=h1;haveI:=h2;haveI:=P.v1;haveI:=P.v2;haveI:=P.zs;haveI:=P.ze
 have hd:=p4 (ts:=ts) (u:=310000) (k:=65000) (a:=sX (bU p q c)) (b:=sX (bE p q)) (j:=ts.length) P.zs.nm.nl (le_refl _) hn h0 (by decide);haveI:=hd.2;have m1:=jy (ts:=ts) (u:=310000) (k:=65000) (a:=sX (bU p q c*iE (bE p q))) (b:=sX (a8 q p).1) (by decide);have m2:=jy (ts:=ts) (u:=310000) (k:=65000) (a:=sX (bU p q c*iE (bE p q))) (b:=sX (a8 q p).2) (by decide);have m3:=jH (ts:=ts) (u:=310000) (k:=65000) (a:=sX p.1) (b:=sX (bU p q c*iE (bE p q)*(a8 q p).1)) (by decide);have m4:=jH (ts:=ts) (u:=310000) (k:=65000) (a:=sX p.2) (b:=sX (bU p q c*iE (bE p q)*(a8 q p).2)) (by decide);exact⟨hd.1,sQ m1 m2 m3 m4,(inferInstance:Zu 310000 65000 (p.1+bU p q c*iE (bE p q)*(a8 q p).1) _ _),(inferInstance:Zu 310000 65000 (p.2+bU p q c*iE (bE p q)*(a8 q p).2) _ _)⟩
structure LinS(X:Et ts)(S:Et ts)(p v:P2 ts)(k:Et (aL ts (sX X))):Prop where
  hd:FP 281 [aN (aL ts (sX X)),nA (sX k),nA (sX S)] (.tup [nA (sX (fw X S k)),.v .nilIface])
  al:Con prog 268 [.ptr 1000 0,aI (sX p.1) (sX p.2),nA (sX (fw X S k)),aI (sX v.1) (sX v.2)] [(1000,some (a6 (aL ts (sX X))))] (dc (kq X p v (fw X S k)).l) [(1000,some (a6 (aL ts (sX X))))]
  n1:Zu 773000000 1101400000 (kq X p v (fw X S k)).1 9 6
  n2:Zu 773000000 1101400000 (kq X p v (fw X S k)).2 9 6
theorem wV{X S:Et ts}{p v:P2 ts}{k:Et (aL ts (sX X))}(hn:ts.length<=1)(E:ExtP X)(hs:Zu 310000 65000 S 320 327)(h0:ak S≠0)(p1:Zu 310000 65000 p.1 40 40)(p2:Zu 310000 65000 p.2 40 40)(v1:Zu 310000 65000 v.1 80 81)(v2:Zu 310000 65000 v.2 80 81)
  (hk:Zu 773000000 1101400000 k 2 1):LinS X S p v k:=by
 haveI cy:=E.cy;haveI:=hk;haveI zs:=jJ (X:=X) hn hs (by decide);haveI zp1:=jJ (X:=X) hn p1 (by decide);haveI zp2:=jJ (X:=X) hn p2 (by decide);haveI zv1:=jJ (X:=X) hn v1 (by decide);haveI zv2:=jJ (X:=X) hn v2 (by decide);haveI:=zp1.zu;haveI:=zp2.zu;haveI:=zv1.zu;haveI:=zv2.zu
 have hdiv:=p4 (ts:=aL ts (sX X)) (u:=773000000) (k:=1101400000) (a:=sX k) (b:=sX S) (j:=ts.length) hs.nm.nl (by rw[dD];omega) hn (by rw[oJ];exact h0) (by decide);haveI zk:Zu 773000000 1101400000 (fw X S k) 7 4:=hdiv.2;have m1:=jy (ts:=aL ts (sX X)) (u:=773000000) (k:=1101400000) (a:=sX (fw X S k)) (b:=sX v.1) (by decide);have m2:=jy (ts:=aL ts (sX X)) (u:=773000000) (k:=1101400000) (a:=sX (fw X S k)) (b:=sX v.2) (by decide);have m3:=jH (ts:=aL ts (sX X)) (u:=773000000) (k:=1101400000) (a:=sX p.1) (b:=sX (fw X S k*aO X v.1)) (by decide);have m4:=jH (ts:=aL ts (sX X)) (u:=773000000) (k:=1101400000) (a:=sX p.2) (b:=sX (fw X S k*aO X v.2)) (by decide);exact⟨hdiv.1,sQ m1 m2 m3 m4,(inferInstance:Zu 773000000 1101400000 (aO X p.1+fw X S k*aO X v.1) 9 6),(inferInstance:Zu 773000000 1101400000 (aO X p.2+fw X S k*aO X v.2) 9 6)⟩
theorem A9{X:Et ts}{w v w' v' u k:Nat}(h:Zu u k X w v)(hw:w<=w')(hv:v<=v'):Zu u k X w' v':=⟨h.nm.mono (Bb hw hv)⟩
theorem OW{x:Int}(h:cond (cond (eO Value.nilIface) (aa .eql x 0) false) (eO Value.nilIface) false=true):x=0:=by
 cases h9:aa .eql x 0
 ·rw[h9]at h;cases h
 ·exact cD h9
theorem M2{x:Int}(h:cond (cond (eO Value.nilIface) (aa .eql x 0) false) (eO Value.nilIface) false=false):x≠0:=by
 cases h9:aa .eql x 0
 ·exact dm h9
 ·rw[h9]at h;cases h
theorem VE{x y:AV}{i:Nat}{Q:AV->Prop}(hi:i<2)(hx:Q x)(hy:Q y):∃z,[x,y][i]?=some z/\Q z:=by
 have h:i=0\/i=1:=by omega
 rcases h with rfl |rfl
 ·exact⟨x,rfl,hx⟩
 ·exact⟨y,rfl,hy⟩
theorem Ja{r e:Nat}{a b c d:Et ts}(tw:Tw ts r)(hl:lm ts.length=200000000000)(h1:Nm ts.length e (sX a))(h2:Nm ts.length e (sX b))(h3:Nm ts.length e (sX c))(h4:Nm ts.length e (sX d))(he:e+e+kB r ts.length<=100000000000) :
  FP 80 [aN ts,aI (sX a) (sX b),aI (sX c) (sX d)] (.tup [nA (sX (a*c+b*d)),.v .nilIface]):=by
 have h:=tz tw h1 h2 h3 h4 (by rw[hl];omega);rw[show ae ts.length (sX a)=a from a7 _ _,show ae ts.length (sX b)=b from a7 _ _,show ae ts.length (sX c)=c from a7 _ _,show ae ts.length (sX d)=d from a7 _ _]at h;exact h
theorem VG{r e:Nat}{a b c d:Et ts}(tw:Tw ts r)(hl:lm ts.length=200000000000)(h1:Nm ts.length e (sX a))(h2:Nm ts.length e (sX b))(h3:Nm ts.length e (sX c))(h4:Nm ts.length e (sX d))(he:e+e+kB r ts.length<=100000000000) :
  FP 77 [aN ts,aI (sX a) (sX b),aI (sX c) (sX d)] (.tup [nA (sX (a*d-b*c)),.v .nilIface]):=by
 have h:=BR tw h1 h2 h3 h4 (by rw[hl];omega);rw[show ae ts.length (sX a)=a from a7 _ _,show ae ts.length (sX b)=b from a7 _ _,show ae ts.length (sX c)=c from a7 _ _,show ae ts.length (sX d)=d from a7 _ _]at h;exact h
end
section
variable{rs:List (List Rt)}{c:List Rat}{o p q:P2 (llq rs)}{z:Et (llq rs)}
theorem NB(h:TR rs 64990)(hc:bA rs=0)(hn:(llq rs).length<=1)(c0:Ct (llq rs) 310000 65000)(ho1:Zu 310000 65000 o.1 40 40)(ho2:Zu 310000 65000 o.2 40 40)(p1:Zu 310000 65000 p.1 40 40)(p2:Zu 310000 65000 p.2 40 40)(q1:Zu 310000 65000 q.1 40 40)(q2:Zu 310000 65000 q.2 40 40)
  [i3:Zl (llq rs) 310000 65000 c z 3 0] (s1:0<=ak z):FP 159 [cJ rs,.agg [nA (sX o.1),nA (sX o.2),nA c],dc p.l,dc q.l] (.tup [(eY p q o z).av,bh (fR p q)]):=by
 obtain⟨tw,etw⟩:=cK h hc;haveI cy:Cy (llq rs) 310000 65000:=⟨c0.ex,by obtain⟨_,h9,_⟩:=c0;exact h9,by obtain⟨_,_,h9,_⟩:=c0;exact h9,by omega⟩
 have hlm:=cy.lm;have hck:=ri rs 64990 h;rw[hc]at hck;have P:=Ey cy p1 p2 q1 q2 ho1 ho2 i3.zu;haveI:=ho1;haveI:=ho2;haveI:=p1;haveI:=p2;haveI:=q1;haveI:=q2;haveI:=P.v1;haveI:=P.v2;haveI:=P.w1;haveI:=P.w2;haveI:=P.zs;haveI:=P.ze;haveI:=P.zc;haveI:=P.zX
 have hci:=FU (e:=40*310000+40*65000) h hc ho1.nm ho2.nm (i3.nm.mono (by decide)) (by rw[hlm];decide)
 have hra:=DW h hc [(sX o.1,sX o.2,c)] (fun y hy=>by
  rw[List.mem_singleton.1 hy];exact⟨ho1.nm.mono (by decide),ho2.nm.mono (by decide),i3.nm.mono (by decide),by show 0<=ak (dE (llq rs) c);rw[show dE (llq rs) c=z from i3.eq];exact s1⟩) (by show 1<=100;omega)
 have a1:=kI (ts:=llq rs) (u:=310000) (k:=65000) (a:=sX q.1) (b:=sX p.1) (by decide);have a2:=kI (ts:=llq rs) (u:=310000) (k:=65000) (a:=sX q.2) (b:=sX p.2) (by decide);have a3:=kI (ts:=llq rs) (u:=310000) (k:=65000) (a:=sX o.1) (b:=sX p.1) (by decide);have a4:=kI (ts:=llq rs) (u:=310000) (k:=65000) (a:=sX o.2) (b:=sX p.2) (by decide);have hkb:80*310000+81*65000+(80*310000+81*65000)+kB 64990 (llq rs).length<=100000000000:=by have:=yz hn;omega
 have b1:=Ja tw hlm P.v1.nm P.v2.nm P.v1.nm P.v2.nm hkb;have b2:=Ja tw hlm P.v1.nm P.v2.nm P.w1.nm P.w2.nm hkb;have b3:=VG tw hlm P.v1.nm P.v2.nm P.w1.nm P.w2.nm hkb;rw[<- etw]at b1 b2 b3;have m1:=qI (ts:=llq rs) (u:=310000) (k:=65000) (a:=sX (bE p q)) (by decide);have m2:=jy (ts:=llq rs) (u:=310000) (k:=65000) (a:=sX (bE p q)) (b:=c) (by decide);have m3:=jy (ts:=llq rs) (u:=310000) (k:=65000) (a:=sX (iD p q o)) (b:=sX (iD p q o)) (by decide);haveI zz:=i3.zu;have m4:=kI (ts:=llq rs) (u:=310000) (k:=65000) (a:=sX (bE p q*z)) (b:=sX (iD p q o*iD p q o)) (by decide);have m5:=qI (ts:=llq rs) (u:=310000) (k:=65000) (a:=sX (aW p q o z)) (by decide);have m0:=Con.sA (.cons (.refl _) (.cons (Sub.nil 2 none 0) .nil)) (mO tw []);refine ah func159 ?_;refine gc hck ?_;refine gC (fun t27=>?_) (fun t27=>?_) (st1:=(3,0));cases t27;refine gc hci ?_;refine gC (fun t34=>?_) (fun t34=>?_) (st1:=(6,0));cases t34;refine ge rfl ?_;refine aJ [4,5,6,7,8,39,40] [4,5,6,7,8] (fun(i:Nat)=>[(41,some (i64 i))]) (fun _=>[]) (fun i=>i<=2) (fun i=>2-i) 0 (zero_le _) ?_;rintro i hi K1 J1;refine gC (fun t42=>?_) (fun t42=>?_)
 ·have hin:i<2:=aT (b:=2) t42;obtain⟨zz2,hz2,u,v,hu,hv,rfl⟩:=VE (x:=dc p.l) (y:=dc q.l) (Q:=fun w=>∃u v,Nm (llq rs).length (40*310000+40*65000) u/\Nm (llq rs).length (40*310000+40*65000) v/\w=aI u v) hin ⟨_,_,p1.nm,p2.nm,rfl⟩ ⟨_,_,q1.nm,q2.nm,rfl⟩;refine gi hz2 ?_;refine gc (Eb h hc hu hv (by rw[hlm];decide)) ?_;refine gC (fun t49=>?_) (fun t49=>?_) (st1:=(12,0));cases t49;refine ga aE ?_;exact aD J1 (i+1) hin
 refine gc hra ?_;refine gC (fun t58=>?_) (fun t58=>?_) (st1:=(16,0)) (st2:=(18,0));cases t58;refine gW (Wk.of (sl:=[(4,some (.ptr 4 0)),(5,some (.ptr 5 0)),(6,some (.ptr 6 0)),(7,some (.ptr 7 0)),(8,some (.ptr 8 0)),(16,some (.ptr 63 0))]) (hp:=[(4,some (.box [.lst 1 (rs.map nR)])),(5,some (.box [nA (sX o.1),nA (sX o.2),nA c])),(6,some (.box [nA (sX p.1),nA (sX p.2)])),(7,some (.box [nA (sX q.1),nA (sX q.2)])),(8,some (.box [nS,nS])),(63,some (a6 (llq rs)))]) aQ (.k (.k (.k (.k (.k (.cons rfl (BlkSub.bL (.cons (.of (l8 etw)) (.cons (.refl _) .nil)) rfl) .nil))))))) ?_
 refine gt (aR (Con.rB 63 rfl rfl rfl rfl a1) (aG rfl rfl rfl) rfl rfl rfl) ?_;refine gt (aR (Con.rB 63 rfl rfl rfl rfl a2) (aG rfl rfl rfl) rfl rfl rfl) ?_;refine gD ?_;refine gt (aR (Con.rB 63 rfl rfl rfl rfl a3) (aG rfl rfl rfl) rfl rfl rfl) ?_;refine gt (aR (Con.rB 63 rfl rfl rfl rfl a4) (aG rfl rfl rfl) rfl rfl rfl) ?_;refine gD ?_;refine gc b1 ?_;refine gt (aR (Con.rB 63 rfl rfl rfl rfl (oU _ _)) (aG rfl rfl rfl) rfl rfl rfl) ?_;refine gu (ef rfl rfl rfl (fun h=>aR (Con.rB 63 rfl rfl rfl rfl m1) (.cons (.opt rfl (o1 h)) (.cons (.opt rfl (o1 h)) .nil)) rfl rfl rfl)) ?_;refine gC (fun t117=>?_) (fun t117=>?_)
 ·have h0:ak (bE p q)=0:=OW t117;refine gR ?_;exact dp (by unfold eY fR;rw[if_pos h0,if_pos h0];exact Sub.tup (.cons Er (.cons (.refl _) .nil)))
 have h0:ak (bE p q)≠0:=M2 t117;have Q:=Hq cy hn p1 p2 P h0;refine gc b2 ?_;refine gt (aR (Con.rB 63 rfl rfl rfl rfl (oU _ _)) (aG rfl rfl rfl) rfl rfl rfl) ?_;refine gc b3 ?_;refine gt (aR (Con.rB 63 rfl rfl rfl rfl (oU _ _)) (aG rfl rfl rfl) rfl rfl rfl) ?_;refine gt (aR (Con.rB 63 rfl rfl rfl rfl m2) (aG rfl rfl rfl) rfl rfl rfl) ?_;refine gt (aR (Con.rB 63 rfl rfl rfl rfl m3) (aG rfl rfl rfl) rfl rfl rfl) ?_;refine gt (aR (Con.rB 63 rfl rfl rfl rfl m4) (aG rfl rfl rfl) rfl rfl rfl) ?_;refine gt (aR (Con.rB 63 rfl rfl rfl rfl m5) (bp rfl rfl) rfl rfl rfl) ?_;refine gC (fun t150=>?_) (fun t150=>?_)
 ·have h1:ak (aW p q o z)=-1:=cD t150;refine gt (aR (Con.rB 63 rfl rfl rfl rfl m0) (.cons (.tmp rfl) (.cons (.const _) .nil)) rfl rfl rfl) ?_;refine br ?_;unfold eY fR;rw[if_neg h0,if_neg h0,if_pos h1];rfl
 have h1:¬ak (aW p q o z)=-1:=dm t150;refine gC (fun t156=>?_) (fun t156=>?_)
 ·have h2:ak (aW p q o z)=0:=cD t156;refine gt (aR (Con.rB 63 rfl rfl rfl rfl (tX Q.hd)) (aG rfl rfl rfl) rfl rfl rfl) ?_;refine gt (aR (Con.rB 63 rfl rfl rfl rfl Q.al) (.cons (.tmp rfl) (.cons (.tmp rfl) (.cons (.tmp rfl) (.cons (.tmp rfl) .nil)))) rfl rfl rfl) ?_;refine gt (aR (Con.rB 63 rfl rfl rfl rfl (mO tw [dc (dS p (bU p q o*iE (bE p q)) (a8 q p)).l])) (bp rfl rfl) rfl rfl rfl) ?_;refine gD ?_;refine br ?_;unfold eY fR;rw[if_neg h0,if_neg h0,if_neg h1,if_pos h2];rfl
 have h2:¬ak (aW p q o z)=0:=dm t156
 have hpos:0<=ak (aW p q o z):=by
  have:=T.sgn_cases (am (llq rs)) (llq rs).length (aW p q o z);have e:ak (aW p q o z)=T.sgn (am (llq rs)) (llq rs).length (aW p q o z):=rfl;omega
 have E:ExtP (aW p q o z):=rQ tw hn (A9 P.zX oz oz) hpos;haveI ce:=E.cy;haveI zr:Zl (aL (llq rs) (sX (aW p q o z))) 773000000 1101400000 (cm (llq rs).length) (dE _ (cm (llq rs).length)) 1 0:=Zl.at (rO oz) (by decide);haveI ze':=jJ (X:=aW p q o z) hn P.ze (by decide);haveI:=zr.zu;haveI:=ze'.zu
 have e1:=jH (ts:=aL (llq rs) (sX (aW p q o z))) (u:=773000000) (k:=1101400000) (a:=sX (bU p q o)) (b:=cm (llq rs).length) (by decide);have e2:=kI (ts:=aL (llq rs) (sX (aW p q o z))) (u:=773000000) (k:=1101400000) (a:=sX (bU p q o)) (b:=cm (llq rs).length) (by decide);have S1:=wV (p:=p) (v:=a8 q p) hn E P.zs h0 p1 p2 P.v1 P.v2 (k:=aO (aW p q o z) (bU p q o)+bC (aW p q o z)) inferInstance;have S2:=wV (p:=p) (v:=a8 q p) hn E P.zs h0 p1 p2 P.v1 P.v2 (k:=aO (aW p q o z) (bU p q o)-bC (aW p q o z)) inferInstance;have hex:=HT (a:=sX (aW p q o z)) tw P.zX.nm (by rw[hlm];decide) (by rw[show ae (llq rs).length (sX (aW p q o z))=aW p q o z from a7 _ _];exact hpos);refine gt (aA (Con.rB 63 rfl rfl rfl rfl hex) (bp rfl rfl) aC rfl rfl) ?_;refine gt (aR (Con.rB 63 rfl rfl rfl rfl e1) (aG rfl rfl rfl) rfl rfl rfl) ?_;refine gt (aR (Con.rB 63 rfl rfl rfl rfl (tX S1.hd)) (aG rfl rfl rfl) rfl rfl rfl) ?_;refine gt (aR (Con.rB 63 rfl rfl rfl rfl S1.al) (.cons (.tmp rfl) (.cons (.tmp rfl) (.cons (.tmp rfl) (.cons (.tmp rfl) .nil)))) rfl rfl rfl) ?_;refine gt (aR (Con.rB 63 rfl rfl rfl rfl e2) (aG rfl rfl rfl) rfl rfl rfl) ?_;refine gt (aR (Con.rB 63 rfl rfl rfl rfl (tX S2.hd)) (aG rfl rfl rfl) rfl rfl rfl) ?_;refine gt (aR (Con.rB 63 rfl rfl rfl rfl S2.al) (.cons (.tmp rfl) (.cons (.tmp rfl) (.cons (.tmp rfl) (.cons (.tmp rfl) .nil)))) rfl rfl rfl) ?_;refine gt (aR (Con.rB 63 rfl rfl rfl rfl (mO E.tw [dc (kq (aW p q o z) p (a8 q p) (fw (aW p q o z) (bE p q) (aO (aW p q o z) (bU p q o)+bC (aW p q o z)))).l,dc (kq (aW p q o z) p (a8 q p) (fw (aW p q o z) (bE p q) (aO (aW p q o z) (bU p q o)-bC (aW p q o z)))).l])) (bp rfl rfl) rfl rfl rfl) ?_;refine gD ?_;refine br ?_;unfold eY fR;rw[if_neg h0,if_neg h0,if_neg h1,if_neg h2];rfl
end
theorem T.inv_congr{r r':(k:Nat)->T k}:∀(k:Nat),(∀j,j<k->r j=r' j)->∀x,T.inv r k x=T.inv r' k x
 |0,_,x=>rfl
 |k+1,h,x=>by
  have ih:=T.inv_congr k (fun j hj=>h j oz);have hm:=T.mul_congr k (fun j hj=>h j oz);have hs:=T.sgn_congr k (fun j hj=>h j oz)
  have hn:T.norm r k x=T.norm r' k x:=by
   unfold T.norm;rw[h k oz];simp only[hm]
  conv=>lhs;unfold T.inv
  conv=>rhs;unfold T.inv
  simp only[ih,hm,hs,hn]
def iJ{n N:Nat}(x:T n):T N:=ae N (sh n x)
section
variable{n N:Nat}{r r':(k:Nat)->T k}
theorem jZ(x:T n):(iJ x:T (n+1))=(x,T.zero n):=by
 unfold iJ;rw[fS (ee n x).le,a7]
theorem RZ(hN:N=n+1)(h:∀j,j<n->r j=r' j)(x y:T n):(iJ (T.mul r n x y):T N)=T.mul r' N (iJ x) (iJ y):=by
 subst hN;rw[jZ,jZ,jZ,mul_low,T.zero_mul,T.mul_congr n h]
theorem TG(hN:N=n+1)(x y:T n):(iJ (T.add n x y):T N)=T.add N (iJ x) (iJ y):=by
 subst hN;rw[jZ,jZ,jZ];show(T.add n x y,T.zero n)=(T.add n x y,T.add n (T.zero n) (T.zero n));rw[T.zero_add]
theorem Py(hN:N=n+1)(x:T n):(iJ (T.neg n x):T N)=T.neg N (iJ x):=by
 subst hN;rw[jZ,jZ];show(T.neg n x,T.zero n)=(T.neg n x,T.neg n (T.zero n));rw[T.neg_zero]
theorem Kl(hN:N=n+1)(q:Rat):(iJ (T.ofQ n q):T N)=T.ofQ N q:=by
 subst hN;rw[jZ];rfl
theorem RI(hN:N=n+1)(h:∀j,j<n->r j=r' j)(x:T n):(iJ (T.inv r n x):T N)=T.inv r' N (iJ x):=by
 subst hN;rw[jZ,jZ,T.inv_low,T.inv_congr n h]
end
section
variable{ts:LL}(X:Et ts)
theorem Io{l:List Rat}(j:Nat)(hj:j<ts.length):am ts j=am (aL ts l) j:=(wF hj).symm
theorem fc(x y:Et ts):aO X (x*y)=aO X x*aO X y:=RZ (dD _ _) Io x y
theorem qQ(x y:Et ts):aO X (x+y)=aO X x+aO X y:=TG (dD _ _) x y
theorem EV(x:Et ts):aO X (-x)=-aO X x:=Py (dD _ _) x
theorem mP(q:Rat):aO X (qE q)=qE q:=Kl (dD _ _) q
theorem oF(x:Et ts):aO X (iE x)=iE (aO X x):=RI (dD _ _) Io x
end
theorem lK{ts:LL}:(qE ((1:Int):Rat):Et ts)=1:=rfl
theorem HV{ts:LL}:(qE ((-1:Int):Rat):Et ts)=-1:=by
 have h:=(T.ofQ_neg ts.length ((1:Nat):Rat))
 rw[show(((-1:Int):Rat))=-((1:Nat):Rat) by rfl];exact h
theorem zD{ts:LL}(d:Et ts):d7 d=d+d:=by
 have h:(qE ((2:Int):Rat):Et ts)=1+1:=by
  have h:=T.ofQ_add ts.length ((1:Nat):Rat) ((1:Nat):Rat);rw[show(((2:Int):Rat))=((1:Nat):Rat)+((1:Nat):Rat) by decide +kernel];exact h
 unfold d7;rw[h];grind
theorem zE{ts:LL}:(qE 0:Et ts)=0:=rfl
section
variable{ts:LL}
theorem Fy(p q:P2 ts)(z z2:Et ts):eQ p q z z2=dS p ((qE ((1:Int):Rat)*iE (aH p q+aH p q))*(z+aH p q-z2)) (a8 q p):=by
 unfold eQ fO dS;rw[zD,lK];refine Prod.ext ?_ ?_
 ·show p.1+(z+aH p q-z2)*iE (aH p q+aH p q)*(q.1-p.1)=p.1+1*iE (aH p q+aH p q)*(z+aH p q-z2)*(q.1-p.1);grind
 ·show p.2+(z+aH p q-z2)*iE (aH p q+aH p q)*(q.2-p.2)=p.2+1*iE (aH p q+aH p q)*(z+aH p q-z2)*(q.2-p.2);grind
def j7(p q:P2 ts):P2 ts:=(qE ((1:Int):Rat)*iE (aH p q+aH p q)*(0-(a8 q p).2),qE ((1:Int):Rat)*iE (aH p q+aH p q)*(a8 q p).1)
theorem AA(X:Et ts)(f p q:P2 ts):ia X f (fO p q) (d9 X (aH p q))=(aO X f.1+bC X*aO X (j7 p q).1,aO X f.2+bC X*aO X (j7 p q).2):=by
 unfold ia dS d9 j7;rw[zD,HV];refine Prod.ext ?_ ?_
 ·show aO X f.1+bC X*iE (aO X (aH p q+aH p q))*(-1*aO X (q.2-p.2))=aO X f.1+bC X*aO X (qE ((1:Int):Rat)*iE (aH p q+aH p q)*(0-(q.2-p.2)));rw[fc,fc,mP,oF,show(0:Et ts)-(q.2-p.2)=-(q.2-p.2) by grind,EV,lK];grind
 ·show aO X f.2+bC X*iE (aO X (aH p q+aH p q))*aO X (q.1-p.1)=aO X f.2+bC X*aO X (qE ((1:Int):Rat)*iE (aH p q+aH p q)*(q.1-p.1));rw[fc,fc,mP,oF,lK];grind
theorem EM(X:Et ts)(f p q:P2 ts):ia X f (fO p q) (qE ((-1:Int):Rat)*d9 X (aH p q))=(aO X f.1-bC X*aO X (j7 p q).1,aO X f.2-bC X*aO X (j7 p q).2):=by
 have h:=AA X f p q;have h1:=congrArg Prod.fst h;have h2:=congrArg Prod.snd h;unfold ia dS at h1 h2 ⊢;rw[HV]at h1 h2 ⊢;dsimp only at h1 h2;refine Prod.ext ?_ ?_
 ·dsimp only;grind
 ·dsimp only;grind
def jV(p q:P2 ts):P2 ts:=(qE ((1:Int):Rat)*iE (bE p q)*(a8 q p).1,qE ((1:Int):Rat)*iE (bE p q)*(a8 q p).2)
theorem CO(X:Et ts)(p q c:P2 ts):kq X p (a8 q p) (fw X (bE p q) (aO X (bU p q c)+bC X)) =
  (aO X (dS p (bU p q c*iE (bE p q)) (a8 q p)).1+bC X*aO X (jV p q).1,aO X (dS p (bU p q c*iE (bE p q)) (a8 q p)).2+bC X*aO X (jV p q).2):=by
 unfold kq fw jV dS;refine Prod.ext ?_ ?_
 ·dsimp only;rw[qQ,fc,fc,fc,fc,oF,mP,lK];grind
 ·dsimp only;rw[qQ,fc,fc,fc,fc,oF,mP,lK];grind
theorem CY(X:Et ts)(p q c:P2 ts):kq X p (a8 q p) (fw X (bE p q) (aO X (bU p q c)-bC X)) =
  (aO X (dS p (bU p q c*iE (bE p q)) (a8 q p)).1-bC X*aO X (jV p q).1,aO X (dS p (bU p q c*iE (bE p q)) (a8 q p)).2-bC X*aO X (jV p q).2):=by
 unfold kq fw jV dS;refine Prod.ext ?_ ?_
 ·dsimp only;rw[qQ,fc,fc,fc,fc,oF,mP,lK];grind
 ·dsimp only;rw[qQ,fc,fc,fc,fc,oF,mP,lK];grind
theorem wY(r:(k:Nat)->T k):∀(n:Nat)(q:Rat),T.inv r n (T.ofQ n q)=T.ofQ n (1/q)
 |0,q=>rfl
 |n+1,q=>by
  show T.inv r (n+1) (T.ofQ n q,T.zero n)=(T.ofQ n (1/q),T.zero n);rw[T.inv_low,wY r n q]
theorem AP:(iE (qE 1):Et ts)=1:=by
 show T.inv (am ts) ts.length (T.ofQ ts.length 1)=_;rw[wY,show(1:Rat)/1=((1:Nat):Rat) by decide +kernel];rfl
end
open Lean.Grind (CommRing)
section
variable{r:(k:Nat)->T k}
def fv{n:Nat}(x:E r n):E r n:=T.inv r n x
theorem tR{n:Nat}(u:E r n)(h:Sg (E r n) (sg r n)):sg r (n+1) (bH u 0)=sg r n u:=by
 rw[kG,h.zero];unfold T.sgn3;split
 ·rfl
 ·rw[if_pos (.inr rfl)]
theorem Ry{n:Nat}{x y:E r n}(hz:T.isZ n y=true):fv (bH x y:E r (n+1))=bH (fv x) 0:=by
 have e:y=T.zero n:=(T.isZ_iff n y).1 hz;subst e;have h:=T.inv_low r n x;show T.inv r (n+1) (x,T.zero n)=_;rw[h,E.zero_def];rfl
theorem Kt{n:Nat}{x y:E r n}(hz:T.isZ n y=false)(h0:sg r n (aP x y)=0):fv (bH x y:E r (n+1))=bH (fv (x+x)) 0:=by
 have h:=B5 r (i:=n) (x:=((x,y):T n×T n)) hz h0;show T.inv r (n+1) (x,y)=_;rw[h,E.zero_def];rfl
theorem Sd{n:Nat}{x y:E r n}(hz:T.isZ n y=false)(h0:sg r n (aP x y)≠0):fv (bH x y:E r (n+1))=bH (x*fv (aP x y)) (-y*fv (aP x y)):=by
 have h:=CI r (i:=n) (x:=((x,y):T n×T n)) hz h0;exact h
theorem SD{q:Rat}(hq:bN q≠0):bN ((1:Rat)/q*q+-(((1:Nat):Rat)))=0:=by
 have hq:q≠0:=by
  rintro rfl;exact hq (by decide +kernel)
 have e:(1:Rat)/q*q+-(((1:Nat):Rat))=0:=by
  rw[show(((1:Nat):Rat))=1 from rfl];grind
 rw[e];decide +kernel
theorem EP(r:(k:Nat)->T k):∀(n:Nat),eT r n->∀x:E r n,sg r n x≠0->sg r n (fv x*x-1)=0
 |0,hp,x,hx=>SD (q:=x) hx
 |n+1,hp,z,hz=>by
  have hp':eT r n:=fun j hj=>hp j oz
  have h:=gE r n hp';have H:=gE r (n+1) hp;have ih:=EP r n hp';obtain⟨x,y,rfl⟩:=jE z;cases hzy:T.isZ n y
  ·by_cases h0:sg r n (aP x y)=0
   ·rw[Kt hzy h0];have h2:=EU h (hp n oz) hz h0;have e1:=ih _ h2
    have c:sg r (n+1) (bH x (-y))=0:=by
     have m:=H.mul (bH x y) (bH x (-y))
     have e:(bH x y:E r (n+1))*bH x (-y)=bH (aP x y) 0:=by
      rw[ki];unfold aP;congr 1 <;> grind
     rw[e,tR _ h,h0]at m;rcases Int.mul_eq_zero.1 m.symm with g |g
     ·exact absurd g hz
     ·exact g
    have e2:bH (fv (x+x)) 0*bH x y-(1:E r (n+1))=-(bH (fv (x+x)) 0*bH x (-y))+bH (fv (x+x)*(x+x)-1) 0:=by
     rw[u9,show ∀a b:E r (n+1),a-b=a+-b from fun a b=>by grind,ki,ki,ud,ud,oA,oA];congr 1 <;> grind
    rw[e2];have e3:sg r (n+1) (-(bH (fv (x+x)) 0*bH x (-y)))=0:=by rw[H.neg,H.mul,c];simp
    rw[H.zadd e3,tR _ h];exact e1
   ·rw[Sd hzy h0];have e1:=ih _ h0
    have e2:bH (x*fv (aP x y)) (-y*fv (aP x y))*bH x y-(1:E r (n+1))=bH (fv (aP x y)*aP x y-1) 0:=by
     rw[u9,show ∀a b:E r (n+1),a-b=a+-b from fun a b=>by grind,ki,ud,oA];generalize fv (aP x y)=i;unfold aP;congr 1 <;> grind
    rw[e2,tR _ h];exact e1
  ·rw [Ry hzy];have e:y = 0:=by rw [(T.isZ_iff n y).1 hzy,E.zero_def]
   subst e;rw[tR _ h]at hz;have e1:=ih _ hz
   have e2:bH (fv x) 0*bH x 0-(1:E r (n+1))=bH (fv x*x-1) 0:=by
    rw[u9,show ∀a b:E r (n+1),a-b=a+-b from fun a b=>by grind,ki,ud,oA];congr 1 <;> grind
   rw[e2,tR _ h];exact e1
end
section
variable{r:(k:Nat)->T k}{n:Nat}
def zS(h:eT r n):Setoid (E r n) where
  r x y:=sg r n (x-y)=0
  iseqv:=by
    have H:=gE r n h;refine⟨fun x=>?_,fun {x y} e=>?_,fun {x y z} e f=>?_⟩
    · rw[show x-x=0 by grind];exact H.zero
    · rw[show y-x=-(x-y) by grind,H.neg,e];rfl
    · rw[show x-z=(x-y)+(y-z) by grind,H.zadd e];exact f
def Zq(h:eT r n):Type:=Quotient (zS h)
def an(h:eT r n)(x:E r n):Zq h:=Quotient.mk (zS h) x
theorem kK(h:eT r n){x y:E r n}:an h x=an h y↔sg r n (x-y)=0 :=
 ⟨fun e=>Quotient.exact (s:=zS h) e,fun e=>Quotient.sound (s:=zS h) e⟩
instance (h:eT r n):Add (Zq h):=⟨Quotient.lift₂ (fun x y=>an h (x+y)) (by
  intro a b c d e f;have H:=gE r n h;refine(kK h).2 ?_;rw[show a+b-(c+d)=(a-c)+(b-d) by grind,H.zadd (show sg r n (a-c)=0 from e)];exact f)⟩
instance (h:eT r n):Mul (Zq h):=⟨Quotient.lift₂ (fun x y=>an h (x*y)) (by
  intro a b c d e f;have H:=gE r n h;refine(kK h).2 ?_;have e':sg r n (a-c)=0:=e;have f':sg r n (b-d)=0:=f;rw[show a*b-c*d=(a-c)*b+c*(b-d) by grind,H.zadd (by rw[H.mul,e'];simp),H.mul,f'];simp)⟩
instance (h:eT r n):Neg (Zq h):=⟨Quotient.lift (fun x=>an h (-x)) (by
  intro a c e;have H:=gE r n h;refine(kK h).2 ?_;have e':sg r n (a-c)=0:=e;rw[show -a - -c=-(a-c) by grind,H.neg,e'];rfl)⟩
instance (h:eT r n):_root_.Sub (Zq h):=⟨fun x y=>x+-y⟩
instance (h:eT r n)(c:Nat):OfNat (Zq h) c:=⟨an h (OfNat.ofNat c)⟩
instance (h:eT r n):NatCast (Zq h):=⟨fun c=>an h (c:E r n)⟩
instance (h:eT r n):IntCast (Zq h):=⟨fun c=>an h (c:E r n)⟩
instance (h:eT r n):SMul Nat (Zq h):=⟨fun c x=>an h (c:E r n)*x⟩
instance (h:eT r n):SMul Int (Zq h):=⟨fun c x=>an h (c:E r n)*x⟩
def Zq.pow{h:eT r n}(x:Zq h):Nat->Zq h
  |0=>an h 1
  |c+1=>Zq.pow x c*x
instance (h:eT r n):HPow (Zq h) Nat (Zq h):=⟨Zq.pow⟩
variable(h:eT r n)
theorem kO(x y:E r n):an h (x+y)=an h x+an h y:=rfl
theorem cH(x y:E r n):an h (x*y)=an h x*an h y:=rfl
theorem Uz(x:E r n):an h (-x)=-an h x:=rfl
theorem cU(x y:E r n):an h (x-y)=an h x-an h y:=by
 rw[show x-y=x+-y by grind];rfl
theorem eL(a:Zq h):∃x,a=an h x:=Quotient.ind (motive:=fun a=>∃x,a=an h x) (fun x=>⟨x,rfl⟩) a
instance zRing:CommRing (Zq h) where
  add_zero a:=by
    obtain⟨x,rfl⟩:=eL h a;exact congrArg (an h) (show x+0=x by grind)
  add_comm a b:=by
    obtain⟨x,rfl⟩:=eL h a;obtain⟨y,rfl⟩:=eL h b;exact congrArg (an h) (show x+y=y+x by grind)
  add_assoc a b c:=by
    obtain⟨x,rfl⟩:=eL h a;obtain⟨y,rfl⟩:=eL h b;obtain⟨z,rfl⟩:=eL h c;exact congrArg (an h) (show x+y+z=x+(y+z) by grind)
  mul_assoc a b c:=by
    obtain⟨x,rfl⟩:=eL h a;obtain⟨y,rfl⟩:=eL h b;obtain⟨z,rfl⟩:=eL h c;exact congrArg (an h) (show x*y*z=x*(y*z) by grind)
  mul_one a:=by
    obtain⟨x,rfl⟩:=eL h a;exact congrArg (an h) (show x*1=x by grind)
  one_mul a:=by
    obtain⟨x,rfl⟩:=eL h a;exact congrArg (an h) (show 1*x=x by grind)
  left_distrib a b c:=by
    obtain⟨x,rfl⟩:=eL h a;obtain⟨y,rfl⟩:=eL h b;obtain⟨z,rfl⟩:=eL h c;exact congrArg (an h) (show x*(y+z)=x*y+x*z by grind)
  right_distrib a b c:=by
    obtain⟨x,rfl⟩:=eL h a;obtain⟨y,rfl⟩:=eL h b;obtain⟨z,rfl⟩:=eL h c;exact congrArg (an h) (show(x+y)*z=x*z+y*z by grind)
  zero_mul a:=by
    obtain⟨x,rfl⟩:=eL h a;exact congrArg (an h) (show 0*x=0 by grind)
  mul_zero a:=by
    obtain⟨x,rfl⟩:=eL h a;exact congrArg (an h) (show x*0=0 by grind)
  pow_zero a:=rfl
  pow_succ a c:=rfl
  ofNat_succ c:=congrArg (an h) (Lean.Grind.Semiring.ofNat_succ (α:=E r n) c)
  ofNat_eq_natCast c:=congrArg (an h) (Lean.Grind.Semiring.ofNat_eq_natCast (α:=E r n) c)
  nsmul_eq_natCast_mul c a:=rfl
  neg_add_cancel a:=by
    obtain⟨x,rfl⟩:=eL h a;exact congrArg (an h) (show -x+x=0 by grind)
  sub_eq_add_neg a b:=rfl
  neg_zsmul i a:=by
    obtain⟨x,rfl⟩:=eL h a
    exact congrArg (an h) (show((-i:Int):E r n)*x=-((i:E r n)*x) by
      rw[Lean.Grind.Ring.intCast_neg];grind)
  zsmul_natCast_eq_nsmul c a:=rfl
  intCast_ofNat c:=congrArg (an h) (Lean.Grind.Ring.intCast_ofNat (α:=E r n) c)
  intCast_neg i:=congrArg (an h) (Lean.Grind.Ring.intCast_neg (α:=E r n) i)
  mul_comm a b:=by
    obtain⟨x,rfl⟩:=eL h a;obtain⟨y,rfl⟩:=eL h b;exact congrArg (an h) (show x*y=y*x by grind)
theorem fg{x:E r n}:an h x=0↔sg r n x=0:=by
 have e:=kK h (x:=x) (y:=0);rw[show x-0=x by grind]at e;exact e
theorem BW{x:E r n}(hx:sg r n x≠0):an h (fv x)*an h x=1:=by
 have e:=(kK h (x:=fv x*x) (y:=1)).2 (EP r n h x hx);exact e
theorem PV:an h (1:E r n)=1:=rfl
end
example {r:(k:Nat)->T k} {n:Nat} (h:eT r n) (a b c:Zq h) (e:a*b=1) (f:c*a=2):c=2*b:=by grind
end Go.Lw
namespace Go.Lw
open Go.Proofs
theorem Jr(o:Option Nat):aa .geq (iY o) 0=o.isSome:=by
 cases o with
 |none=>rfl
 |some i=>exact decide_eq_true (by show(i:Int)>=0;omega)
theorem SB(bs:List (Rat×Rat))(hl:bs.length<=281474976710656)(f:FuncId)(pre caps:List AV)(ok:Nat->Bool)
  (hf:∀(i:Nat)(b:Rat×Rat),bs[i]?=some b->(∀j,j<i->ok j=true)->FP f (pre++[qP b]++caps) (bl (!ok i))) :
  FP 354 [.lst 6 (bs.map qP),.cl f pre caps] (i64 (iY (cw bs.length ok))):=by
 refine ah func354 ?_;refine gl ?_;refine aJ [0,1,7] [] (fun(i:Nat)=>[(8,some (i64 i))]) (fun _=>[]) (fun i=>i<=bs.length/\∀j,j<i->ok j=true) (fun i=>bs.length-i) 0 ⟨zero_le _,fun j h=>by omega⟩ ?_;rintro i ⟨hi,hj⟩ K1 J1;refine gC (fun t9=>?_) (fun t9=>?_)
 ·have hin:=aT t9;obtain⟨b,hb⟩:=aq hin;refine gi (au hb) ?_;refine gc (hf i b hb hj) ?_;refine gC (fun t16=>?_) (fun t16=>?_)
  ·have h2:=cW t16;refine af ?_;rw[gq hin hj h2];rfl
  have h2:=c9 t16;refine ga aE ?_;exact aD J1 (i+1) ⟨hin,fun j h9=>by rcases lt_or_ge j i with g |g;exact hj j g;(have:j=i:=by omega);subst this;exact h2⟩
 have hin:=a5 hi t9;subst hin;refine af ?_;rw[fC hj];rfl
theorem Pw(bs:List (Rat×Rat))(hl:bs.length<=281474976710656)(f:FuncId)(pre caps:List AV)(ok:Nat->Bool)
  (hf:∀(i:Nat)(b:Rat×Rat),bs[i]?=some b->(∀j,j<i->ok j=true)->FP f (pre++[qP b]++caps) (bl (!ok i))) :
  FP 259 [.lst 6 (bs.map qP),.cl f pre caps] (bl (cw bs.length ok).isSome):=by
 refine ah func259 ?_;refine gc (SB bs hl f pre caps ok hf) ?_;refine af ?_;rw[<- Jr];rfl
theorem S9{v:Rat×Rat}(hv:Sm 3000 v):FP 260 [qP v] (bl (decide (b7 v v=0))):=by
 refine ah func260 ?_;refine gc (Ia hv hv oz oz) ?_;refine gc (QT ((hv.dot hv).qs oz)) ?_;refine af ?_;rw[<- NI];rfl
def gk(vs:List (Rat×Rat)):Bool:=(cw vs.length fun i=>!decide (b7 (vs.getD i (0,0)) (vs.getD i (0,0))=0)).isSome
theorem GL(vs:List (Rat×Rat))(hl:vs.length<=281474976710656)(hv:∀v∈vs,Sm 3000 v):FP 155 [.lst 6 (vs.map qP)] (bl (gk vs)):=by
 refine ah func155 ?_;refine gc (Con.sA (.cons (.refl _) (.cons ((Sub.fn0 _).trans (tc rfl)) .nil)) (Pw vs hl 260 [] [] (fun i=>!decide (b7 (vs.getD i (0,0)) (vs.getD i (0,0))=0)) (fun i b hb _=>by rw[Bool.not_not,aB hb];exact S9 (hv b (mem_of_getElem? hb))))) ?_;refine af ?_;rfl
theorem uz{v:Rat×Rat}(h:gk [v]=false):b7 v v≠0:=by
 intro h0;have h1:cw 1 (fun i=>!decide (b7 ([v].getD i (0,0)) ([v].getD i (0,0))=0))=some 0:=gq oz (fun j hj=>by omega) (by show(!decide (b7 v v=0))=false;rw[h0];rfl);unfold gk at h;rw[show[v].length=1 from rfl,h1]at h;cases h
theorem wJ{v w:Rat×Rat}(h:gk [v,w]=false):b7 v v≠0/\b7 w w≠0:=by
 unfold gk at h;rw[Option.isSome_eq_false_iff,Option.isNone_iff_eq_none]at h;have h2:=Ub h;have h3:=h2 0 (by show 0<2;omega);have h4:=h2 1 (by show 1<2;omega);have h5:(!decide (b7 v v=0))=true:=h3;have h6:(!decide (b7 w w=0))=true:=h4;simp only[Bool.not_eq_true',decide_eq_false_iff_not]at h5 h6;exact⟨h5,h6⟩
theorem EW(i n:Nat)(hi:i<=100):FP 164 [i64 i,i64 n] (i64 (if n=1 then 0 else 1-2*(i:Int))):=by
 refine ah func164 ?_;refine gC (fun t6=>?_) (fun t6=>?_)
 ·have h1 : n = 1 := by have := cD t6; omega
  refine af ?_;rw[if_pos h1];rfl
 have h1:¬n=1:=by have:=dm t6;omega
 refine ga (show _=2*(i:Int) by exact A4 oz) ?_;refine ga (show _=1-2*(i:Int) by exact dA oz) ?_;refine af ?_;rw[if_neg h1];rfl
section
variable{ts:LL}
abbrev jO(u:Rat×Rat):Et ts:=qE (b7 u u)
def du(u:Rat×Rat)(w:P2 ts):Et ts:=(qE u.1*w.1+qE u.2*w.2)*iE (jO u)
def dq(u:Rat×Rat)(w:P2 ts):Et ts:=(qE u.1*w.2-qE u.2*w.1)*iE (jO u)
def pI(u:Rat×Rat)(w:P2 ts)(p:Rat×Rat)(o:P2 ts):Et ts:=o.1-(du u w*qE p.1-dq u w*qE p.2)
def qR(u:Rat×Rat)(w:P2 ts)(p:Rat×Rat)(o:P2 ts):Et ts:=o.2-(dq u w*qE p.1+du u w*qE p.2)
def gL(u:Rat×Rat)(w:P2 ts)(p:Rat×Rat)(o:P2 ts):Pq:=⟨sX (du u w),sX (dq u w),sX (pI u w p o),sX (qR u w p o)⟩
theorem vl(ts:LL)(a b:List Rat):Con prog 75 [.ptr 1000 0,aI a b,.v .nilIface] [(1000,some (a6 ts))] (aI a b) [(1000,some (a6 ts))]:=by
 have h:=mb (ts.map (List.map rt)) a b;rw[yM]at h;exact h
theorem pv(q:Rat):ae ts.length (sh 0 (q:Rat))=(qE q:Et ts):=gT _ q
theorem oP{e:Nat}{q:Rat}(h5:ts.length<=5)(h:Qb e q):Nm ts.length e (sh 0 (q:Rat)):=Nm.ofQ h5 (Cb.one h)
structure BdP(ts:LL)(u:Rat×Rat)(w:P2 ts)(p:Rat×Rat)(o:P2 ts):Prop where
  dot:FP 80 [aN ts,aI (sh 0 (u.1:Rat)) (sh 0 (u.2:Rat)),aI (sX w.1) (sX w.2)] (.tup [nA (sX (qE u.1*w.1+qE u.2*w.2)),.v .nilIface])
  crs:FP 77 [aN ts,aI (sh 0 (u.1:Rat)) (sh 0 (u.2:Rat)),aI (sX w.1) (sX w.2)] (.tup [nA (sX (qE u.1*w.2-qE u.2*w.1)),.v .nilIface])
  d1:FP 281 [aN ts,nA (sX (qE u.1*w.1+qE u.2*w.2)),nA (sh 0 (b7 u u:Rat))] (.tup [nA (sX (du u w)),.v .nilIface])
  d2:FP 281 [aN ts,nA (sX (qE u.1*w.2-qE u.2*w.1)),nA (sh 0 (b7 u u:Rat))] (.tup [nA (sX (dq u w)),.v .nilIface])
  tn:FP 191 [aN ts,nA (sX (du u w)),nA (sX (dq u w)),aI (sh 0 (p.1:Rat)) (sh 0 (p.2:Rat))] (.tup [aI (sX (du u w*qE p.1-dq u w*qE p.2)) (sX (dq u w*qE p.1+du u w*qE p.2)),.v .nilIface])
  s1:FP 176 [aN ts,nA (sX o.1),nA (sX (du u w*qE p.1-dq u w*qE p.2))] (.tup [nA (sX (pI u w p o)),.v .nilIface])
  s2:FP 176 [aN ts,nA (sX o.2),nA (sX (dq u w*qE p.1+du u w*qE p.2))] (.tup [nA (sX (qR u w p o)),.v .nilIface])
  ok:Pq.ok ts.length 80000000000 (gL u w p o)
theorem F3{r W A K F:Nat}{u p:Rat×Rat}{w o:P2 ts}(tw:Tw ts r)(h2:ts.length<=2)(hk:kB r ts.length<=K)(hu:Sm 3000 u)(hp:Sm 3000 p)(h0:b7 u u≠0)
  (w1:Nm ts.length W (sX w.1)) (w2:Nm ts.length W (sX w.2)) (a1:Nm ts.length A (sX o.1)) (a2:Nm ts.length A (sX o.2)) (hW:3000<=W) (hF:4*W+10*K+A+100000<=F) (hF2:F<=80000000000):BdP ts u w p o:=by
 have hl:lm ts.length=200000000000:=by unfold lm;rw[if_pos h2]
 have h5:=tw.five;have hu1:=oP (ts:=ts) h5 hu.x;have hu2:=oP (ts:=ts) h5 hu.y;have hp1:=oP (ts:=ts) h5 hp.x;have hp2:=oP (ts:=ts) h5 hp.y;have hnn:=oP (ts:=ts) h5 (hu.dot hu);have hkE:eB r ts.length<=K:=hk;have ew:∀x:Et ts,ae ts.length (sX x)=x:=fun x=>a7 _ _
 have c1:=tz tw (hu1.mono (f:=W) oz) (hu2.mono oz) w1 w2 (by rw[hl];omega);have c2:=BR tw (hu1.mono (f:=W) oz) (hu2.mono oz) w1 w2 (by rw[hl];omega);have n1:=xU tw hu1 hu2 w1 w2;have n2:=Ah tw hu1 hu2 w1 w2;rw[pv,pv,ew,ew]at c1 c2 n1 n2
 have hs:T.sgn (am ts) ts.length (ae ts.length (sh 0 (b7 u u:Rat)))≠0:=by
  rw[gT,T.sgn_ofQ];intro h9;exact h0 (oL h9)
 have nb:Nl 0 (sh 0 (b7 u u:Rat)):=ee 0 _;have d1:=AL tw n1 hnn (zero_le _) nb hs (by rw[hl];omega) (by simp only[iB];omega);have d2:=AL tw n2 hnn (zero_le _) nb hs (by rw[hl];omega) (by simp only[iB];omega);have m1:=AT tw n1 hnn (zero_le _) nb hs (by rw[hl];omega) (by simp only[iB];omega);have m2:=AT tw n2 hnn (zero_le _) nb hs (by rw[hl];omega) (by simp only[iB];omega);have e1:∀x:Et ts,ae ts.length (sh ts.length x)=x:=fun x=>a7 _ _
 have f1:ae ts.length (sh ts.length (nQ ts (qE u.1:Et ts) (qE u.2:Et ts) w.1 w.2))=(qE u.1*w.1+qE u.2*w.2:Et ts):=a7 _ _;have f2:ae ts.length (sh ts.length (mK ts (qE u.1:Et ts) (qE u.2:Et ts) w.1 w.2))=(qE u.1*w.2-qE u.2*w.1:Et ts):=a7 _ _;rw[f1,pv]at d1 m1;rw[f2,pv]at d2 m2;have k1:Nm ts.length (2*W+3*K+30000) (sX (du u w)):=Nm.mono m1 (by simp only[iB];omega);have k2:Nm ts.length (2*W+3*K+30000) (sX (dq u w)):=Nm.mono m2 (by simp only[iB];omega);have c3:=Fh tw k1 k2 (hp1.mono (f:=(2*W+3*K+30000)) oz) (hp2.mono oz) (by rw[hl];omega);have n3:=vp tw k1 k2 hp1 hp2;have n4:=vg tw k1 k2 hp1 hp2;rw[pv,pv,ew,ew]at c3 n3 n4;have s1:=o7 tw a1 n3 (by rw[hl];omega);have s2:=o7 tw a2 n4 (by rw[hl];omega);have m3:=a1.sub n3;have m4:=a2.sub n4;have f3:ae ts.length (sh ts.length (ui ts (du u w) (dq u w) (qE p.1:Et ts) (qE p.2:Et ts)))=(du u w*qE p.1-dq u w*qE p.2:Et ts):=a7 _ _;have f4:ae ts.length (sh ts.length (sD ts (du u w) (dq u w) (qE p.1:Et ts) (qE p.2:Et ts)))=(dq u w*qE p.1+du u w*qE p.2:Et ts):=a7 _ _;rw[ew,f3]at s1 m3;rw[ew,f4]at s2 m4;exact⟨c1,c2,d1,d2,c3,s1,s2,k1.mono oz,k2.mono oz,Nm.mono m3 oz,Nm.mono m4 oz⟩
theorem HI{r:Nat}{u p:Rat×Rat}{w o:P2 ts}(tw:Tw ts r)(h2:ts.length<=2)(hk:kB r ts.length<=1101400000)(hu:Sm 3000 u)(hp:Sm 3000 p)(h0:b7 u u≠0)
  (w1:Nm ts.length 17000000000 (sX w.1)) (w2:Nm ts.length 17000000000 (sX w.2)) (a1:Nm ts.length 773000000 (sX o.1)) (a2:Nm ts.length 773000000 (sX o.2)):BdP ts u w p o :=
 F3 (F:=80000000000) tw h2 hk hu hp h0 w1 w2 a1 a2 oz oz oz
theorem wm{a b c:List Rat}(h:FP 176 [aN ts,nA a,nA b] (.tup [nA c,.v .nilIface])):Con prog 78 [.ptr 1000 0,nA a,nA b] [(1000,some (a6 ts))] (nA c) [(1000,some (a6 ts))]:=by
 refine gF func78 (fun k z h=>bB h) ?_;refine gc h ?_;refine gt (aA (q5 _ _) (aG rfl rfl rfl) aC rfl rfl) ?_;refine gR ?_;exact aw.keep (bc rfl)
theorem yk{u p:Rat×Rat}{w o:P2 ts}(hu:Sm 3000 u)(hp:Sm 3000 p)(B:BdP ts u w p o) :
  Con prog 152 [.ptr 1000 0,qP u,dc w.l,qP p,dc o.l] [(1000,some (a6 ts))] (gL u w p o).av [(1000,some (a6 ts))]:=by
 refine gF func152 (fun k z h=>bB h) ?_;refine gc (uX (hu.x.qs oz) (hu.y.qs oz)) ?_;refine gc (xQ hu oz) ?_;refine gD ?_;refine gc B.dot ?_;refine gt (aR (q5 _ _) (aG rfl rfl rfl) rfl rfl rfl) ?_;refine gt (aR (vK B.d1) (aG rfl rfl rfl) rfl rfl rfl) ?_;refine gc B.crs ?_;refine gt (aR (q5 _ _) (aG rfl rfl rfl) rfl rfl rfl) ?_;refine gt (aR (vK B.d2) (aG rfl rfl rfl) rfl rfl rfl) ?_;refine gD ?_;refine gc (uX (hp.x.qs oz) (hp.y.qs oz)) ?_;refine gc B.tn ?_;refine gt (aR (vl _ _ _) (aG rfl rfl rfl) rfl rfl rfl) ?_;refine gD ?_;refine gt (aR (wm B.s1) (aG rfl rfl rfl) rfl rfl rfl) ?_;refine gt (aR (wm B.s2) (aG rfl rfl rfl) rfl rfl rfl) ?_;refine gD ?_;refine gR ?_;exact aw.keep (bc rfl)
end
structure Sv where
  ts:LL
  ps:List Pq
  mode:Int
abbrev Sv.av(s:Sv):AV:=.agg [.lst 1 (s.ts.map nA),.lst 4 (s.ps.map Pq.av),i64 s.mode]
structure Hd where
  p:Rat×Rat
  a:List Rat×List Rat
  c:Rat×Rat
abbrev Hd.av(h:Hd):AV:=.agg [bl (rt h.p.1).neg,ws (rt h.p.1).num,ws (rt h.p.1).den,bl (rt h.p.2).neg,ws (rt h.p.2).num,ws (rt h.p.2).den,nA h.a.1,nA h.a.2,bl (rt h.c.1).neg,ws (rt h.c.1).num,ws (rt h.c.1).den,bl (rt h.c.2).neg,ws (rt h.c.2).num,ws (rt h.c.2).den]
def kg(ts:LL)(h:Hd)(x:List Rat×List Rat):P2 ts:=(dE ts x.1-dE ts h.a.1,dE ts x.2-dE ts h.a.2)
def mr(ts:LL)(h:Hd):P2 ts:=(dE ts h.a.1,dE ts h.a.2)
def nD(ts:LL)(x:List Rat×List Rat)(h:Hd):Pq:=gL (cf h.c h.p) (kg ts h x) h.p (mr ts h)
structure HdP(ts:LL)(x:List Rat×List Rat)(h:Hd):Prop where
  hp:Sm 1000 h.p
  hc:Sm 1000 h.c
  s1:FP 176 [aN ts,nA x.1,nA h.a.1] (.tup [nA (sX (kg ts h x).1),.v .nilIface])
  s2:FP 176 [aN ts,nA x.2,nA h.a.2] (.tup [nA (sX (kg ts h x).2),.v .nilIface])
  e1:sX (dE ts h.a.1)=h.a.1
  e2:sX (dE ts h.a.2)=h.a.2
  b:BdP ts (cf h.c h.p) (kg ts h x) h.p (mr ts h)
theorem HdP.body{ts:LL}{x:List Rat×List Rat}{h:Hd}(H:HdP ts x h) :
  Con prog 152 [.ptr 1000 0,qP (cf h.c h.p),dc (kg ts h x).l,qP h.p,aI h.a.1 h.a.2] [(1000,some (a6 ts))] (nD ts x h).av [(1000,some (a6 ts))]:=by
 have hb:=yk (Sm.mono (H.hc.sub H.hp) oz) (Sm.mono H.hp oz) H.b
 have e:dc (mr ts h).l=aI h.a.1 h.a.2:=by
  show aI (sX (dE ts h.a.1)) (sX (dE ts h.a.2))=_;rw[H.e1,H.e2]
 rw[e]at hb;exact hb
def j9(m:Mt)(hs:List Hd)(i:Nat):Sv:=⟨m.ts,hs.map (nD m.ts (m.ps.getD i ([],[]))),if m.ps.length=1 then 0 else 1-2*(i:Int)⟩
def iT(m:Mt)(hs:List Hd)(n:Nat):List AV:=(List.range n).map fun i=>(j9 m hs i).av
theorem Av(m:Mt)(hs:List Hd)(n:Nat):(iT m hs n).length=n:=by simp[iT]
theorem K7(m:Mt)(hs:List Hd)(n:Nat):iT m hs (n+1)=iT m hs n++[(j9 m hs n).av]:=by unfold iT;rw[range_succ];simp
theorem Eh{m:Mt}{r:Nat}(tw:Tw m.ts r)(hs:List Hd)(hl:hs.length<=2)(ml:m.ps.length<=2)(H:∀x∈m.ps,∀h∈hs,HdP m.ts x h) :
  FP 158 [m.av,.lst 14 (hs.map Hd.av)] (.tup [.lst 3 (iT m hs m.ps.length),.v .nilIface]):=by
 refine ah func158 ?_;refine gl ?_;refine gW (Wk.virt 900 3 rfl) ?_;refine aJ [1,2,15,16] [2] (fun(i:Nat)=>[(6,some (.ms 900 3 0 i)),(17,some (i64 i))]) (fun i=>[(900,some (.row 3 (iT m hs i)))]) (fun i=>i<=m.ps.length) (fun i=>m.ps.length-i) 0 (zero_le _) ?_;rintro i hi K1 J1;refine gC (fun t18=>?_) (fun t18=>?_) (st2:=(17,0))
 ·have hin:=aT t18;obtain⟨x,hx⟩:=aq hin;have hx9:m.ps.getD i ([],[])=x:=aB hx;have hxm:=mem_of_getElem? hx;refine gi (au hx) ?_;refine gc (BP tw) ?_;refine gl ?_;refine gc (EW i m.ps.length oz) ?_;refine gD ?_ (7,0);refine gW (Wk.o (sl:=[(1,some (.lst 14 (hs.map Hd.av))),(2,some (.ptr 2 0)),(6,some (.ms 900 3 0 i)),(8,some (.ptr 8 0)),(9,some (.ptr 25 0)),(10,some (.ptr 10 0)),(15,some (.lst 2 (m.ps.map dc))),(16,some (i64 m.ps.length)),(17,some (i64 i))]) (hp:=[(2,some (.box [.lst 1 (m.ts.map nA),.lst 2 (m.ps.map dc)])),(8,some (.box [nA x.1,nA x.2])),(10,some (.box [.lst 1 (m.ts.map nA),nS,i64 (if m.ps.length=1 then 0 else 1-2*(i:Int))])),(25,some (a6 m.ts)),(900,some (.row 3 (iT m hs i)))])) ?_
  refine gl ?_;refine gW (Wk.virt 901 4 rfl) ?_;refine aJ [1,2,8,9,10,15,16,17,35,36] [2,8,25,900] (fun(k:Nat)=>[(6,some (.ms 900 3 0 i)),(37,some (i64 k))]) (fun k=>[(10,some (.box [.lst 1 (m.ts.map nA),.ms 901 4 0 k,i64 (if m.ps.length=1 then 0 else 1-2*(i:Int))])),(901,some (.row 4 (((hs.take k).map (nD m.ts x)).map Pq.av)))]) (fun k=>k<=hs.length) (fun k=>hs.length-k) 0 (zero_le _) ?_ (h2:=(.cons rfl (BlkSub.bL (.cons (.refl _) (.cons (.nM _ _ _) (.cons (.refl _) .nil))) rfl) (.k .nil)))
  rintro k hk K2 J2;refine gC (fun t38=>?_) (fun t38=>?_) (st2:=(13,0))
  ·have hkn:=aT t38;obtain ⟨h,hh⟩:=aq hkn;have Hh:=H x hxm h (mem_of_getElem? hh);refine gi (au hh) ?_;refine gt (aR (Con.rB 25 rfl rfl rfl rfl (wm Hh.s1)) (aG rfl rfl rfl) rfl rfl rfl) ?_;refine gt (aR (Con.rB 25 rfl rfl rfl rfl (wm Hh.s2)) (aG rfl rfl rfl) rfl rfl rfl) ?_;refine gD ?_;refine gc (oH Hh.hc Hh.hp oz oz) ?_;refine gt (aR (Con.rB 25 rfl rfl rfl rfl Hh.body) (.cons (.tmp rfl) (.cons (.tmp rfl) (.cons (.tmp rfl) (.cons (.tmp rfl) (.cons (.tmp rfl) .nil))))) rfl rfl rfl) ?_;refine gs (bR (.tmp rfl) rfl (by rw [length_map,length_map,length_take]; omega) (.tmp rfl) T38 rfl T69 rfl rfl (by dsimp only; simp only [length_cons,length_nil]; omega) rfl rfl) ?_;refine gD ?_ (12,0);refine gW (Wk.of (sl:=[(1,some (.lst 14 (hs.map Hd.av))),(2,some (.ptr 2 0)),(6,some (.ms 900 3 0 i)),(8,some (.ptr 8 0)),(9,some (.ptr 25 0)),(10,some (.ptr 10 0)),(15,some (.lst 2 (m.ps.map dc))),(16,some (i64 m.ps.length)),(17,some (i64 i)),(35,some (.lst 14 (hs.map Hd.av))),(36,some (i64 hs.length)),(37,some (i64 k))]) (hp:=[(2,some (.box [.lst 1 (m.ts.map nA),.lst 2 (m.ps.map dc)])),(8,some (.box [nA x.1,nA x.2])),(25,some (a6 m.ts)),(10,some (.box [.lst 1 (m.ts.map nA),.ms 71 4 0 (k + 1),i64 (if m.ps.length = 1 then 0 else 1 - 2 * (i:Int))])),(900,some (.row 3 (iT m hs i))),(71,some (.row 4 (((hs.take (k + 1)).map (nD m.ts x)).map Pq.av)))]) aQ (.k (.k (.k (.k (.k (.cons rfl (BlkSub.of (by rw [cS hh,map_append,map_append]; rfl)) .nil))))))) ?_ (12,0)
   refine gW (Wk.rk (k:=71) (d:=901) rfl rfl) ?_;refine ga aE ?_;exact aD J2 (k+1) hkn
  have hkn:=a5 hk t38;subst hkn;refine gW ((Wk.freeze (k:=901) rfl).trans<|Wk.of (sl:=[(1,some (.lst 14 (hs.map Hd.av))),(2,some (.ptr 2 0)),(6,some (.ms 900 3 0 i)),(9,some (.ptr 25 0)),(10,some (.ptr 10 0)),(15,some (.lst 2 (m.ps.map dc))),(16,some (i64 m.ps.length)),(17,some (i64 i))]) (hp:=[(2,some (.box [.lst 1 (m.ts.map nA),.lst 2 (m.ps.map dc)])),(25,some (a6 m.ts)),(10,some (.box [.lst 1 (m.ts.map nA),.lst 4 ((hs.map (nD m.ts x)).map Pq.av),i64 (if m.ps.length=1 then 0 else 1-2*(i:Int))])),(900,some (.row 3 (iT m hs i)))]) aQ (.k (.k (.cons rfl (BlkSub.bL (.cons (.refl _) (.cons (Sub.of (by rw[bI (by rw[length_map,length_map,length_take];omega),take_length])) (.cons (.refl _) .nil))) rfl) (.k .nil))))) ?_
  refine gC (fun t78=>?_) (fun t78=>?_) (st1:=(14,0));cases t78;refine gs (bR (.tmp rfl) rfl (Av _ _ _).symm (.tmp rfl) T54 rfl T62 rfl rfl (by dsimp only;simp only[length_cons,length_nil];omega) rfl rfl) ?_ (16,0);refine gW (Wk.of (sl:=[(1,some (.lst 14 (hs.map Hd.av))),(2,some (.ptr 2 0)),(6,some (.ms 86 3 0 (i+1))),(15,some (.lst 2 (m.ps.map dc))),(16,some (i64 m.ps.length)),(17,some (i64 i))]) (hp:=[(2,some (.box [.lst 1 (m.ts.map nA),.lst 2 (m.ps.map dc)])),(86,some (.row 3 (iT m hs (i+1))))]) aQ (.k (.cons rfl (BlkSub.of (by rw[K7];unfold j9;rw[hx9])) .nil))) ?_ (16,0);refine gW (Wk.rk (k:=86) (d:=900) rfl rfl) ?_;refine ga aE ?_;exact aD J1 (i+1) hin
 have hin:=a5 hi t18;subst hin;refine gW ((Wk.freeze (k:=900) rfl).trans<|Wk.of (sl:=[(6,some (.lst 3 (iT m hs m.ps.length)))]) (hp:=[]) (.cons rfl (Sub.of (by rw[bI (Av _ _ _).symm])) .nil) .nil) ?_;refine br ?_;rfl
variable{P:Program}{N:Nat}{R:Array Oper}{s:AS}{pos:String}{after:Array Edge}
def vk:Value->Nat
  | .int .i64 _=>1
  | .string _=>2
  |_=>0
def zZ(P:Program)(t:TypeId):Bool:=match P.underlying t with |some .string=>true |_=>false
theorem Lx{t:TypeId}(h:zZ P t=true):P.underlying t=some .string:=by
 unfold zZ at h;split at h
 ·assumption
 ·cases h
def xJ (P : Program) (ks : List Nat) (f : Field) : Bool := f.name != "_" && (match ks[f.offset]? with | some 1 => ru P f.type | some 2 => zZ P f.type | _ => false)
def Ac(P:Program)(T:TypeId)(ks:List Nat):Bool:=match P.underlying T with
  |some (.struct fs)=>fs.toList.all (xJ P ks)&&!P.stoodInHeld T&&!P.eqGuardType P.depth T
  |_=>false
theorem Ed{cs:List Value}{ks:List Nat}(hk:cs.map vk=ks)(w:World):∀{fs:List Field},fs.all (xJ P ks)=true->(Op.eqFields 9999 cs.toArray cs.toArray fs).run P w=.ok true w
 |[],_=>rfl
 |f::fs,h=>by
  rw [all_cons,and_eq_true] at h;obtain ⟨h1,h2⟩:=h;have ih:=Ed hk w h2;unfold xJ at h1;rw [and_eq_true] at h1;obtain ⟨hn,h1⟩:=h1;have n1 : f.name ≠ "_" := by simpa using hn
  have hc:∀k,ks[f.offset]?=some k->∃v,cs[f.offset]?=some v/\vk v=k:=by
   intro k hk2;rw[<- hk,getElem?_map,map_eq_some_iff]at hk2;exact hk2
  split at h1
  ·rename_i e;obtain ⟨v,hv,hvk⟩:=hc 1 e;have hu:=yw h1;have e0:cs.toArray[f.offset]? = some v:=by simpa using hv
   have e1:(part f.type cs.toArray f.offset).run P w=.ok v w:=by simp[part,isAgg,run_underlying hu,e0]
   have:∃n,v=.int .i64 n:=by unfold vk at hvk;split at hvk;exact⟨_,rfl⟩;cases hvk;cases hvk
   obtain⟨n,rfl⟩:=this;have e3:(Op.equalIn 9999 f.type (.int .i64 n) (.int .i64 n)).run P w=.ok (n==n) w:=run_equalIn_int w 9998 f.type .i64 .i64 n n hu;simp only[Op.eqFields,n1,ne_eq,not_false_eq_true,if_true,Sem.run_bind,e1,e3,Result.andThen_ok,Sem.run_ite,beq_self_eq_true,Bool.not_true,Bool.false_eq_true,if_false,ih]
  ·rename_i e;obtain ⟨v,hv,hvk⟩:=hc 2 e;have hu:=Lx h1;have e0:cs.toArray[f.offset]? = some v:=by simpa using hv
   have e1:(part f.type cs.toArray f.offset).run P w=.ok v w:=by simp[part,isAgg,run_underlying hu,e0]
   have:∃n,v=.string n:=by unfold vk at hvk;split at hvk;cases hvk;exact⟨_,rfl⟩;cases hvk
   obtain⟨n,rfl⟩:=this;have e3:(Op.equalIn 9999 f.type (.string n) (.string n)).run P w=.ok (n.toList==n.toList) w:=run_equalIn_string w 9998 f.type n n hu;simp only[Op.eqFields,n1,ne_eq,not_false_eq_true,if_true,Sem.run_bind,e1,e3,Result.andThen_ok,Sem.run_ite,beq_self_eq_true,Bool.not_true,Bool.false_eq_true,if_false,ih]
  ·cases h1
theorem Pb{T:TypeId}{cs:List Value}{ks:List Nat}(hk:cs.map vk=ks)(h:Ac P T ks=true)(w:World) :
  (Op.equalIn 10000 T (.agg cs.toArray) (.agg cs.toArray)).run P w=.ok true w/\P.eqGuardType P.depth T=false:=by
 unfold Ac at h;split at h
 ·rename_i fs hu;rw [and_eq_true,and_eq_true] at h;obtain ⟨⟨h,h1⟩,h2⟩:=h;have hF:P.fieldsOf T = fs:=by unfold Program.fieldsOf; rw [hu]
  have hs:P.stoodInHeld T=false:=by simpa using h1
  refine⟨?_,by simpa using h2⟩;rw[run_equalIn_struct w 9999 T _ _ (by rw[hF];exact hu) hs,hF];exact Ed hk w h
 ·cases h
theorem DP{g:Nat->Array Value->Prop}{S:Nat->Nat->Prop}{m:Nat->Option Nat}{u:Value}{cs:List Value}(h:Rep g S m u (.agg (cs.map .v))):u=.agg cs.toArray:=by
 cases h with
 | @agg _ vs _ hn h1 hrr =>
  rw[length_map]at hn;congr 1;refine Array.ext (by simpa using hn) (fun i hi hi2=>?_);have hi3:i<cs.length:=by simpa using hi2
  have r:=hrr i vs[i] (.v cs[i]) (by simp[hi]) (by simp[hi3]);have r2:∀{y z:Value},Rep g S m y (.v z)->y=z:=fun h=>by cases h;rfl
  rw[r2 r];simp
theorem CS{d:Nat}{x y:Operand}{cs:List Value}{ks:List Nat}{S T t:TypeId}(hx:Ev s x (.agg (cs.map .v)))(hy:Ev s y (.agg (cs.map .v)))
  (hk:cs.map vk=ks) (hS:Ac P S ks=true) (hN:Nat.blt d N=true) :
  Step P N R s ⟨some d,.binOp .neq S x y T,t,pos,after,none⟩ ⟨some (.v (.bool false)),[],ao x++ao y,[]⟩ :=
 dt rfl rfl hN fun s' hag C m ac w hr=>⟨.bool false,by
  have h:=DP ((hx.agree hag (fun _ h=>List.mem_append.2 (.inl h))).rep hr);have h':=DP ((hy.agree hag (fun _ h=>List.mem_append.2 (.inr h))).rep hr);obtain⟨r1,r2⟩:=Pb (T:=S) hk hS w;simp only[execOp,h,h',Sem.run_bind,run_eqGuard_agg w .neq S x y _ _ r2,Result.andThen_ok,run_neq_struct,r1,Sem.run_pure,Bool.not_true],.v _⟩
def wX(P:Program)(t:TypeId):Bool:=match P.underlying t with |some (.slice _)=>true |_=>false
theorem GY{t:TypeId}(h:wX P t=true):∃e,P.underlying t=some (.slice e):=by
 unfold wX at h;split at h
 ·exact⟨_,by assumption⟩
 ·cases h
theorem Dh(w:World)(t e:TypeId)(a:Option Addr)(l c:Nat)(h:P.underlying t=some (.slice e)):(binOp .eql t (.slice a l c) (.slice none 0 0)).run P w=.ok (.bool a.isNone) w:=by
 simp only[binOp];simp[run_equal_slice_nil w t e a l c h]
theorem vh{d:Nat}{x:Operand}{sz:Nat}{e:AV}{es:List AV}{S T t:TypeId}(hx:Ev s x (.lst sz (e::es)))(hS:wX P S=true)(hN:Nat.blt d N=true) :
  Step P N R s ⟨some d,.binOp .eql S x (.const (.slice none 0 0)) T,t,pos,after,none⟩ ⟨some (.v (.bool false)),[],ao x,[]⟩ :=
 dt rfl rfl hN fun s' hag C m ac w hr=>⟨.bool false,by
  have h:=(hx.agree hag (fun _ h=>h)).rep hr;obtain⟨el,hel⟩:=GY hS;generalize hu:ac.eval x=y at h
  have hy:∃b l cap,y=.slice (some b) l cap:=by
   cases h with
   |lst u hb hc hl hs h1 hu hrr=>exact⟨_,_,_,rfl⟩
  obtain⟨b,l,cap,rfl⟩:=hy;have e1:ac.eval (.const (.slice none 0 0))=.slice none 0 0:=rfl;simp[execOp,hu,e1,eqGuard,Dh w S el (some b) l cap hel],.v _⟩
theorem uP{d:Nat}{x:Operand}{a:Option Addr}{l cap:Nat}{S T t:TypeId}(hx:Ev s x (.v (.slice a l cap)))(hS:wX P S=true)(hN:Nat.blt d N=true) :
  Step P N R s ⟨some d,.binOp .eql S x (.const (.slice none 0 0)) T,t,pos,after,none⟩ ⟨some (.v (.bool a.isNone)),[],ao x,[]⟩ :=
 dt rfl rfl hN fun s' hag C m ac w hr=>⟨.bool a.isNone,by
  have h:=(hx.agree hag (fun _ h=>h)).rep hr;obtain⟨el,hel⟩:=GY hS;generalize hu:ac.eval x=y at h;cases h;have e1:ac.eval (.const (.slice none 0 0))=.slice none 0 0:=rfl;simp[execOp,hu,e1,eqGuard,Dh w S el a l cap hel],.v _⟩
theorem Co{f:FuncId}{sz:Nat}{r:AV}(h:∀(a:Option Addr)(cap:Nat),gP P f [.v (.slice a 0 cap)] r):gP P f [.lst sz []] r :=
 ⟨(h none 0).ok,fun ext m w vs he hr hn hv=>by
  have hn1:vs.size=1:=hn;have h0:=hv 0 vs[0] (.lst sz []) (by simp[hn1]) rfl
  have hy:∃a cap,vs[0]=.slice a 0 cap:=by
   generalize vs[0]=y at h0;cases h0 with
   |lst0 a cap=>exact⟨_,_,rfl⟩
   |lst u hb hc hl hs h1 hu hrr=>exact⟨_,_,rfl⟩
  obtain⟨a,cap,hy⟩:=hy;refine(h a cap).ret ext m w vs he hr hn (fun j v x hv2 hx=>?_)
  match j,hx with
  |0,hx =>
   cases hx;have:v=.slice a 0 cap:=by rw[<- hy];have:=Array.getElem?_eq_some_iff.1 hv2;exact this.2.symm
   subst this;exact .v _⟩
end Go.Lw
namespace Go.Lw
theorem Con.rekeyB1{P:Program}{f:FuncId}{k off:Nat}{x x':Blk}{y0:AV}{xs:List AV}{r:AV}(d:Nat)(hx:x.nm=[])(hx':x'.nm=[])(hy0:y0.nm=[])(hxs:(xs.all fun x=>x.nm.isEmpty)=true)(hr:r.nm=[])
  (h:Con P f (y0 :: .ptr k off::xs) [(k,some x)] r [(k,some x')]):Con P f (y0 :: .ptr d off::xs) [(d,some x)] r [(d,some x')]:=by
 refine⟨h.ok,?_⟩;intro ext m w vs hext hheap hvs hrep
 have h1 := h.ret ext (fun _ => m d) w vs hext (ur (k := d) hx rfl hheap) (by simpa using hvs) (by
  intro j v y hv hy;rw[jM (d:=k) (k:=d) (y:=x) (x:=x) (m2:=fun _=>m d) (m:=m) rfl]
  match j,hy with
  |0,hy =>
   cases hy;exact iP hy0 (hrep 0 v _ hv rfl)
  |1,hy =>
   cases hy;have h2:=hrep 1 v _ hv rfl;cases h2 with
   |ptr hm=>exact .ptr hm
  |j+2,hy =>
   have h2:=hrep (j+2) v y hv hy;refine iP ?_ h2;have:=List.all_eq_true.1 hxs y (mem_of_getElem? hy);simpa using this)
 refine Calls.mono h1 ?_;rintro e w' ⟨v,m',rfl,hf,hh,hn,hk,hrr⟩
 have ho:aY [(k,some x)] (fun _=>m d)=aY [(d,some x)] m:=by
  funext b;apply propext;rw[j4,j4]
 refine⟨v,fun _=>m' k,rfl,ho▸hf,ur (k:=k) hx' rfl hh,?_,?_,?_⟩
 ·intro k' x b hx hb;rw[<- ho];exact hn k _ b (by rw[aM,if_pos rfl]) hb
 ·intro k' x y hx hy;obtain⟨rfl,_⟩:=fq hx;exact hk k _ _ (by rw[aM,if_pos rfl]) (by rw[aM,if_pos rfl])
 ·rw[jM (d:=d) (k:=k) (y:=x') (x:=x') (m2:=fun _=>m' k) (m:=m') rfl];exact iP hr hrr
open Go.Proofs
theorem pC{p q:Rat×Rat}(hp:Sm 1000 p)(hq:Sm 1000 q):Qz 310000 (bY p q) 3:=s6 (QY hp hq) oz
structure MtOk(ts:LL)(m:Mt):Prop where
  tw:∃r,Tw m.ts r/\kB r m.ts.length<=1101400000
  two:m.ts.length<=2
  ln:m.ps.length<=2
  ps:∀x∈m.ps,Nm m.ts.length 15500000000 x.1/\Nm m.ts.length 15500000000 x.2
  up:∀(e:Nat)(y:Et ts),Nm ts.length e (sX y)->Nm m.ts.length e (sX y)/\sX (dE m.ts (sX y))=sX y
theorem zI{ts:LL}(e:Nat)(y:Et ts)(h:Nm ts.length e (sX y)):Nm ts.length e (sX y)/\sX (dE ts (sX y))=sX y:=⟨h,congrArg (sh ts.length) (a7 _ _)⟩
theorem uA{ts:LL}{X:Et ts}(hn:ts.length<=1)(e:Nat)(y:Et ts)(h:Nm ts.length e (sX y)):Nm (aL ts (sX X)).length e (sX y)/\sX (dE (aL ts (sX X)) (sX y))=sX y:=by
 refine⟨lV h oz,?_⟩;show sh (aL ts (sX X)).length (ae (aL ts (sX X)).length (sX y))=sX y;rw[dD,fS h.nl.le];show(if T.isZ ts.length (T.zero ts.length)=true then sh ts.length (ae ts.length (sX y))else _)=_;rw[if_pos ((T.isZ_iff _ _).2 rfl)];exact congrArg (sh ts.length) (a7 _ _)
theorem rg{ts:LL}{ps:List (List Rat×List Rat)}(tw:Tw ts 64990)(hn:ts.length<=1)(hl:ps.length<=2)(hp:∀x∈ps,Nm ts.length 15500000000 x.1/\Nm ts.length 15500000000 x.2):MtOk ts ⟨ts,ps⟩ :=
 ⟨⟨64990,tw,by have:=yz hn;show kB 64990 ts.length<=_;omega⟩,by show ts.length<=2;omega,hl,hp,zI⟩
theorem Dw{ts:LL}{X:Et ts}{ps:List (List Rat×List Rat)}(E:ExtP X)(hn:ts.length<=1)(hl:ps.length<=2)(hp:∀x∈ps,Nm (aL ts (sX X)).length 15500000000 x.1/\Nm (aL ts (sX X)).length 15500000000 x.2):MtOk ts ⟨aL ts (sX X),ps⟩ :=
 ⟨⟨366909990,E.tw,by
  have h:=gV 366909990 (show ts.length+1<=2 by omega);have h2:eB 366909990 2=1100729976:=by decide
  show eB 366909990 (aL ts (sX X)).length<=_;rw[dD];omega⟩,by show(aL ts (sX X)).length<=2;rw[dD];omega,hl,hp,uA hn⟩
theorem qV{ts:LL}{m:Mt}(ok:MtOk ts m){x:List Rat×List Rat}(hx:x∈m.ps){p c:Rat×Rat}{o:P2 ts}(a1:Nm ts.length 773000000 (sX o.1))(a2:Nm ts.length 773000000 (sX o.2))(hp:Sm 1000 p)(hc:Sm 1000 c)
  (h0:b7 (cf c p) (cf c p)≠0):HdP m.ts x ⟨p,o.l,c⟩:=by
 obtain⟨r,tw,hk⟩:=ok.tw;obtain⟨n1,n2⟩:=ok.ps x hx;obtain⟨b1,e1⟩:=ok.up _ _ a1;obtain⟨b2,e2⟩:=ok.up _ _ a2;have hl:lm m.ts.length=200000000000:=by unfold lm;rw[if_pos ok.two]
 refine⟨hp,hc,o7 tw n1 b1 (by rw[hl];omega),o7 tw n2 b2 (by rw[hl];omega),e1,e2,HI tw ok.two hk ((hc.sub hp).mono oz) (hp.mono oz) h0 ((n1.sub b1).mono oz) ((n2.sub b2).mono oz) ?_ ?_⟩
 ·show Nm m.ts.length 773000000 (sX (dE m.ts (sX o.1)));rw[e1];exact b1
 ·show Nm m.ts.length 773000000 (sX (dE m.ts (sX o.2)));rw[e2];exact b2
theorem kN{α:Type}{P:α->Prop}{x y:α}(hx:P x)(hy:P y):∀z∈[x,y],P z:=by
 intro z hz;rcases List.mem_cons.1 hz with rfl |hz
 ·exact hx
 ·rw[List.mem_singleton.1 hz];exact hy
theorem ip{α:Type}{P:α->Prop}{x:α}(hx:P x):∀z∈[x],P z:=by
 intro z hz;rw[List.mem_singleton.1 hz];exact hx
theorem Gj{ts:LL}{x y z x2 y2 z2:Et ts}(tw:Tw ts 64990)(hn:ts.length<=1)(c:Ct ts 310000 65000)(h1:Zu 310000 65000 x 40 40)(h2:Zu 310000 65000 y 40 40)(h3:Zu 310000 65000 z 3 0)(h4:Zu 310000 65000 x2 40 40)(h5:Zu 310000 65000 y2 40 40)(h6:Zu 310000 65000 z2 3 0)
  (h0:fT (x,y) (x2,y2) z z2=0):MtOk ts (eU (x,y) (x2,y2) z z2):=by
 have P:=Cn c h1 h2 h3 h4 h5 h6;have ce:=c.ex;have ck:=c.k1;have cu:=c.u3;haveI cy:Cy ts 310000 65000:=⟨ce,ck,cu,by omega⟩
 unfold fT at h0;unfold eU
 by_cases hd:ak (aH (x,y) (x2,y2))=0
 ·rw[if_pos hd]at h0 ⊢;unfold mc at h0;unfold lX
  by_cases hz:ak (z-z2)≠0
  ·rw[if_pos hz];exact rg tw hn (by simp) (by simp)
  ·rw[if_neg hz]
   by_cases hp:0<ak z
   ·rw[if_pos ⟨Decidable.not_not.1 hz,hp⟩]at h0;cases h0
   ·rw[if_neg hp];haveI:=h1;haveI:=h2
    refine rg tw hn (by simp) (ip ⟨?_,?_⟩)
    ·exact(inferInstance:Zu 310000 65000 (x+0*x) _ _).nm.mono (by decide)
    ·exact(inferInstance:Zu 310000 65000 (y+0*y) _ _).nm.mono (by decide)
 ·rw [if_neg hd];have ht0:ak (d7 (aH (x,y) (x2,y2))) ≠ 0:=by rw [wA tw]; exact hd
  by_cases hx0:ak (bG (x,y) z (x2,y2) z2)<0
  ·rw[if_pos hx0];exact rg tw hn (by simp) (by simp)
  ·rw[if_neg hx0];obtain⟨_,_,f1,f2⟩:=E0 hn h1 h2 h3 h6 P ht0
   by_cases hx1:ak (bG (x,y) z (x2,y2) z2)=0
   ·rw[if_pos hx1];exact rg tw hn (by simp) (ip ⟨f1.nm.mono (by decide),f2.nm.mono (by decide)⟩)
   ·rw[if_neg hx1];have E:ExtP (bG (x,y) z (x2,y2) z2):=rQ tw hn P.zX oz;have S:=HZ (X:=bG (x,y) z (x2,y2) z2) (d:=aH (x,y) (x2,y2)) (f:=eQ (x,y) (x2,y2) z z2) (v:=fO (x,y) (x2,y2)) hn E P.zt ht0 f1 f2 P.z1 P.z2;exact Dw E hn (by simp) (kN ⟨S.n1.1.nm.mono (by decide),S.n1.2.nm.mono (by decide)⟩ ⟨S.n2.1.nm.mono (by decide),S.n2.2.nm.mono (by decide)⟩)
theorem HR{ts:LL}{o p q:P2 ts}{z:Et ts}(tw:Tw ts 64990)(hn:ts.length<=1)(c:Ct ts 310000 65000)(o1:Zu 310000 65000 o.1 40 40)(o2:Zu 310000 65000 o.2 40 40)(p1:Zu 310000 65000 p.1 40 40)(p2:Zu 310000 65000 p.2 40 40)(q1:Zu 310000 65000 q.1 40 40)(q2:Zu 310000 65000 q.2 40 40)
  (i3:Zu 310000 65000 z 3 0) (h0:fR p q=0):MtOk ts (eY p q o z):=by
 have ce:=c.ex;have ck:=c.k1;have cu:=c.u3;haveI cy:Cy ts 310000 65000:=⟨ce,ck,cu,by omega⟩
 have P:=Ey cy p1 p2 q1 q2 o1 o2 i3;unfold fR at h0;unfold eY
 by_cases hs:ak (bE p q)=0
 ·rw[if_pos hs]at h0;cases h0
 ·rw[if_neg hs]
  by_cases h1:ak (aW p q o z)=-1
  ·rw[if_pos h1];exact rg tw hn (by simp) (by simp)
  ·rw[if_neg h1]
   by_cases h2:ak (aW p q o z)=0
   ·rw[if_pos h2];have Q:=Hq cy hn p1 p2 P hs;exact rg tw hn (by simp) (ip ⟨Q.n1.nm.mono (by decide),Q.n2.nm.mono (by decide)⟩)
   ·rw[if_neg h2]
    have hpos:0<=ak (aW p q o z):=by
     have:=T.sgn_cases (am ts) ts.length (aW p q o z);have e:ak (aW p q o z)=T.sgn (am ts) ts.length (aW p q o z):=rfl;omega
    have E:ExtP (aW p q o z):=rQ tw hn (A9 P.zX oz oz) hpos;haveI ce:=E.cy;haveI zr:Zl (aL ts (sX (aW p q o z))) 773000000 1101400000 (cm ts.length) (dE _ (cm ts.length)) 1 0:=Zl.at (rO oz) (by decide);haveI ze':=jJ (X:=aW p q o z) hn P.ze (by decide);haveI:=zr.zu;haveI:=ze'.zu
    have S1:=wV (p:=p) (v:=a8 q p) hn E P.zs hs p1 p2 P.v1 P.v2 (k:=aO (aW p q o z) (bU p q o)+bC (aW p q o z)) inferInstance;have S2:=wV (p:=p) (v:=a8 q p) hn E P.zs hs p1 p2 P.v1 P.v2 (k:=aO (aW p q o z) (bU p q o)-bC (aW p q o z)) inferInstance;exact Dw E hn (by simp) (kN ⟨S1.n1.nm.mono (by decide),S1.n2.nm.mono (by decide)⟩ ⟨S2.n1.nm.mono (by decide),S2.n2.nm.mono (by decide)⟩)
abbrev ph(r:List AV×Nat):AV:=.tup [.lst 3 r.1,bh r.2]
def mU(l:Li)(a:As)(i k:Int)(j0 j1 j2:Jt):List AV×Nat :=
  if gk [cf (aj l j2 i) (aj l j0 i),cf (aj l j2 k) (aj l j1 k)]=true then([],15)
  else if fT (aK l a j0 i) (aK l a j1 k) (qE (bY (aj l j2 i) (aj l j0 i))) (qE (bY (aj l j2 k) (aj l j1 k)))≠0 then([],fT (aK l a j0 i) (aK l a j1 k) (qE (bY (aj l j2 i) (aj l j0 i))) (qE (bY (aj l j2 k) (aj l j1 k))))
  else(iT (eU (aK l a j0 i) (aK l a j1 k) (qE (bY (aj l j2 i) (aj l j0 i))) (qE (bY (aj l j2 k) (aj l j1 k)))) [⟨aj l j0 i,P2.l (aK l a j0 i),aj l j2 i⟩,⟨aj l j1 k,P2.l (aK l a j1 k),aj l j2 k⟩]
    (eU (aK l a j0 i) (aK l a j1 k) (qE (bY (aj l j2 i) (aj l j0 i))) (qE (bY (aj l j2 k) (aj l j1 k)))).ps.length,0)
theorem Pm{l:Li}{a:As}(D:DyR l a)(hn:(llq a.rs).length<=1){i k z0 z1 z2:Int}{j0 j1 j2:Jt}(hg:GrOk l ⟨1,[i,k],[z0,z1,z2],0⟩)(P:RrrP 3900000 l a ⟨1,[i,k],[z0,z1,z2],0⟩ i k z0 z1 z2 j0 j1 j2) :
  Con prog 65 [.ptr 1000 0] [(1000,some (b9 l ⟨1,[i,k],[z0,z1,z2],0⟩ a))] (ph (mU l a i k j0 j1 j2)) [(1000,some (b9 l ⟨1,[i,k],[z0,z1,z2],0⟩ a))]:=by
 haveI c:=D.s.ct D.hc;obtain⟨tw,etw⟩:=cK D.s.tr D.hc;have hq0:=gj D.hl D.li P.h0 P.p0.or;have hq1:=gj D.hl D.li P.h1 P.p1.or;have hq2:=gj D.hl D.li P.h2 P.t1;have hq3:=gj D.hl D.li P.h2 P.t2;obtain⟨y1,y2⟩:=lM D.hl D.li D.al D.s D.hc P.h0 P.p0;obtain⟨y3,y4⟩:=lM D.hl D.li D.al D.s D.hc P.h1 P.p1;haveI:=y1;haveI:=y2;haveI:=y3;haveI:=y4
 haveI q1:=pC hq2 hq0;haveI q2:=pC hq3 hq1;haveI z1:Zu 310000 65000 (qE (bY (aj l j2 i) (aj l j0 i)):Et (llq a.rs)) 3 0:=inferInstance;haveI z2:Zu 310000 65000 (qE (bY (aj l j2 k) (aj l j1 k)):Et (llq a.rs)) 3 0:=inferInstance;have hr:=MC (a:=sX (aK l a j0 i).1) (b:=sX (aK l a j0 i).2) (c:=sh 0 (bY (aj l j2 i) (aj l j0 i):Rat)) (a2:=sX (aK l a j1 k).1) (b2:=sX (aK l a j1 k).2) (c2:=sh 0 (bY (aj l j2 k) (aj l j1 k):Rat)) D.s.tr D.hc hn rfl rfl (yN _ _) (yN _ _);have hzz:=GL [cf (aj l j2 i) (aj l j0 i),cf (aj l j2 k) (aj l j1 k)] (by show 2<=_;omega) (kN ((hq2.sub hq0).mono oz) ((hq3.sub hq1).mono oz));refine gF func65 (fun k z h=>bB h) ?_;refine gt (aR (Gq D.hl D.li D.al D.hc D.two hg P.h0 P.h1 P.h2 P.p0 P.p1 P.t1 P.t2) (cr rfl) rfl rfl rfl) ?_;refine gC (fun t13=>?_) (fun t13=>?_) (st1:=(3,0));cases t13;refine gc (oH hq2 hq0 oz oz) ?_;refine gc (oH hq3 hq1 oz oz) ?_;refine gc hzz ?_;refine gD ?_;refine gC (fun t23=>?_) (fun t23=>?_)
 ·have h1:gk [cf (aj l j2 i) (aj l j0 i),cf (aj l j2 k) (aj l j1 k)]=true:=t23;refine gR ?_;exact(aw.keep (bc rfl)).sub (by unfold mU;rw[if_pos h1];exact Sub.tup (.cons (.nil _ _ _) (.cons (.refl _) .nil)))
 have h1:gk [cf (aj l j2 i) (aj l j0 i),cf (aj l j2 k) (aj l j1 k)]=false:=t23;obtain⟨w1,w2⟩:=wJ h1;refine gc (yR hq0 hq2 _) ?_;refine gc (yR hq1 hq3 _) ?_;refine gc hr ?_;refine gD ?_;refine gC (fun t51=>?_) (fun t51=>?_)
 ·have h2:=cT t51;refine gR ?_;exact(aw.keep (bc rfl)).sub (by unfold mU;rw[if_neg (by rw[h1];decide),if_pos h2];exact Sub.tup (.cons (.nil _ _ _) (.cons (.refl _) .nil)))
 have h2:=da t51;have ok:=Gj (x:=(aK l a j0 i).1) (y:=(aK l a j0 i).2) (x2:=(aK l a j1 k).1) (y2:=(aK l a j1 k).2) tw hn c y1 y2 z1 y3 y4 z2 h2;obtain⟨r9,tw9,_⟩:=ok.tw
 have hpl:=Eh tw9 [⟨aj l j0 i,P2.l (aK l a j0 i),aj l j2 i⟩,⟨aj l j1 k,P2.l (aK l a j1 k),aj l j2 k⟩] (le_refl 2) ok.ln
  (fun x hx=>kN (qV ok hx (y1.nm.mono (by decide)) (y2.nm.mono (by decide)) hq0 hq2 w1) (qV ok hx (y3.nm.mono (by decide)) (y4.nm.mono (by decide)) hq1 hq3 w2))
 refine gc hpl ?_;refine gR ?_;exact(aw.keep (bc rfl)).sub (Sub.of (by unfold mU;rw[if_neg (by rw[h1];decide),if_neg (fun h=>h h2)];rfl))
def mz(l:Li)(a:As)(i:Int)(j0 j:Jt):List AV×Nat :=
  if gk [cf (aX l i j.point) (aj l j0 i)]=true then([],15)
  else if fR (bn l a j.b j.on) (bn l a j.b j.to)≠0 then([],fR (bn l a j.b j.on) (bn l a j.b j.to))
  else(iT (eY (bn l a j.b j.on) (bn l a j.b j.to) (aK l a j0 i) (qE (bY (aX l i j.point) (aj l j0 i)))) [⟨aj l j0 i,P2.l (aK l a j0 i),aX l i j.point⟩]
    (eY (bn l a j.b j.on) (bn l a j.b j.to) (aK l a j0 i) (qE (bY (aX l i j.point) (aj l j0 i)))).ps.length,0)
theorem Mn{l:Li}{a:As}(D:DyR l a)(hn:(llq a.rs).length<=1){i z0 z1:Int}{j0 j:Jt}(hg:GrOk l ⟨2,[i],[z0,z1],0⟩)(P:SlP 3900000 l a ⟨2,[i],[z0,z1],0⟩ 2 i z0 z1 j0 j)(ha:j.a=i)(hb:Pd 3900000 a j.b) :
  Con prog 66 [.ptr 1000 0] [(1000,some (b9 l ⟨2,[i],[z0,z1],0⟩ a))] (ph (mz l a i j0 j)) [(1000,some (b9 l ⟨2,[i],[z0,z1],0⟩ a))]:=by
 haveI c:=D.s.ct D.hc;obtain⟨tw,etw⟩:=cK D.s.tr D.hc;obtain⟨i1,i2,i3,i4,i5⟩:=cZ D.li P.h1;have hq2:Sm 1000 (aX l i j.point):=by rw[<- ha];exact jX D.hl D.li i1 i3
 have hq0:=gj D.hl D.li P.h0 P.p0.or;obtain⟨y1,y2⟩:=lM D.hl D.li D.al D.s D.hc P.h0 P.p0;obtain⟨y3,y4⟩:=mF D.hl D.li D.al D.s D.hc i2 i4 hb;obtain⟨y5,y6⟩:=mF D.hl D.li D.al D.s D.hc i2 (i5 P.hk) hb;haveI q1:=pC hq2 hq0;haveI z1:Zu 310000 65000 (qE (bY (aX l i j.point) (aj l j0 i)):Et (llq a.rs)) 3 0:=inferInstance;have hr:=NB (o:=aK l a j0 i) (p:=bn l a j.b j.on) (q:=bn l a j.b j.to) (c:=sh 0 (bY (aX l i j.point) (aj l j0 i):Rat)) D.s.tr D.hc hn c y1 y2 y3 y4 y5 y6 (yN _ _);have hzz:=GL [cf (aX l i j.point) (aj l j0 i)] (by show 1<=_;omega) (ip ((hq2.sub hq0).mono oz));refine gF func66 (fun k z h=>bB h) ?_;refine gt (aR (Hj D.hl D.li D.al D.hc D.two hg P.h0 P.h1 P.p0 ha P.hk hb) (cr rfl) rfl rfl rfl) ?_;refine gC (fun t15=>?_) (fun t15=>?_) (st1:=(3,0));cases t15;refine gc (oH hq2 hq0 oz oz) ?_;refine gc hzz ?_;refine gC (fun t25=>?_) (fun t25=>?_)
 ·have h1:gk [cf (aX l i j.point) (aj l j0 i)]=true:=t25;refine gR ?_;exact(aw.keep (bc rfl)).sub (by unfold mz;rw[if_pos h1];exact Sub.tup (.cons (.nil _ _ _) (.cons (.refl _) .nil)))
 have h1:gk [cf (aX l i j.point) (aj l j0 i)]=false:=t25;have w1:=uz h1;refine gc (yR hq0 hq2 _) ?_;refine gc hr ?_;refine gD ?_;refine gC (fun t48=>?_) (fun t48=>?_)
 ·have h2:=cT t48;refine gR ?_;exact(aw.keep (bc rfl)).sub (by unfold mz;rw[if_neg (by rw[h1];decide),if_pos h2];exact Sub.tup (.cons (.nil _ _ _) (.cons (.refl _) .nil)))
 have h2:=da t48;have ok:=HR (o:=aK l a j0 i) (p:=bn l a j.b j.on) (q:=bn l a j.b j.to) (z:=qE (bY (aX l i j.point) (aj l j0 i))) tw hn c y1 y2 y3 y4 y5 y6 z1 h2;obtain⟨r9,tw9,_⟩:=ok.tw;have hpl:=Eh tw9 [⟨aj l j0 i,P2.l (aK l a j0 i),aX l i j.point⟩] (show 1<=2 by omega) ok.ln (fun x hx=>ip (qV ok hx (y1.nm.mono (by decide)) (y2.nm.mono (by decide)) hq0 hq2 w1));refine gc hpl ?_;refine gR ?_;exact(aw.keep (bc rfl)).sub (Sub.of (by unfold mz;rw[if_neg (by rw[h1];decide),if_neg (fun h=>h h2)];rfl))
end Go.Lw
