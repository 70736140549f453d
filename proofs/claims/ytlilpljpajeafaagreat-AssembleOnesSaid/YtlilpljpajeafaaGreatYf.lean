/- AssembleOnes: for any linkage, any turns and any modes the law returns true and leaves its arguments as they were. No other condition. Part 6 of 8: what the later parts need -/
import Derived.Test.YtlilpljpajeafaaGreatYe
import Derived.Laws.Cover3
set_option linter.unusedVariables false
open List (mem_of_getElem? mem_append map_cons mem_cons length_cons length_append length_nil getD_eq_getElem?_getD getElem?_append_left getElem?_eq_none all_eq_true getElem?_take getElem?_drop getElem?_map getElem?_append_right getElem?_eq_getElem nil_append getElem?_replicate map_append length_take take_of_length_le drop_zero take_length map_nil not_mem_nil length_map map_map length_replicate map_replicate map_set drop_length length_set)
open Nat (eq_of_beq_eq_true le_refl lt_of_lt_of_le lt_or_ge le_trans zero_le pow_add)
open Option (map_eq_some_iff)
open Bool (and_eq_true)
open Array (getD_eq_getD_getElem?)
open Int (toNat_natCast)
open Go.Proofs.Tryz
namespace Go.Lw
open Go.Proofs
theorem HI{α:Type}{f:List Bool->α->List Bool}{k:List Bool}{l:List α}{i:Nat}{x:α}(h:l[i]?=some x):(l.drop i).foldl f k=(l.drop (i+1)).foldl f (f k x):=by
 have hi:=(List.getElem?_eq_some_iff.1 h).1;rw[List.drop_eq_getElem_cons hi,(List.getElem?_eq_some_iff.1 h).2];rfl
def gH(k:List Bool)(i:Nat):List Int:=((List.range i).filter (fun j=>!k.getD j false)).map (fun j:Nat=>((j:Nat):Int))
theorem EP{k:List Bool}{i:Nat}(h:k.getD i false=false):gH k (i+1)=gH k i++[(i:Int)]:=by
 unfold gH;rw[List.range_succ,List.filter_append,map_append,List.filter_cons,h];rfl
theorem G4{k:List Bool}{i:Nat}(h:k.getD i false=true):gH k (i+1)=gH k i:=by
 unfold gH;rw[List.range_succ,List.filter_append,map_append,List.filter_cons,h];simp
theorem vQ(k:List Bool)(i:Nat):(gH k i).length<=i:=by
 unfold gH;rw[length_map];exact le_trans (List.length_filter_le _ _) (by simp)
theorem qW{α:Type}{f:α->List Int}:∀(gs:List α)(k:List Bool),(gs.foldl (fun k g=>bE k (f g)) k).length=k.length
 |[],k=>rfl
 |g::gs,k=>by rw[List.foldl_cons,qW gs,kf]
theorem Te(l:Li):(fC (cg l)).length<=l.bo.length:=by
 have h:=vQ (cg l) (cg l).length;have e:(cg l).length=l.bo.length:=by unfold cg;rw[qW,iI]
 rw[e]at h;unfold fC;rw[e];exact h
theorem Kh(l:Li):(fC (e8 l)).length<=l.jo.length:=by
 have h:=vQ (e8 l) (e8 l).length;have e:(e8 l).length=l.jo.length:=by unfold e8;rw[qW,length_replicate]
 rw[e]at h;unfold fC;rw[e];exact h
theorem PP(l:Li)(hl:l.ok)(hli:aG l=0):FP 59 [l.av] (.tup [.lst 1 ((fC (cg l)).map i64),.lst 1 ((fC (e8 l)).map i64)]):=by
 have h8:=(dp hli).2.2.2.1;have h0:=(dp hli).2.2.2.2;have hj16:l.jo.length<=16:=by have:=(dp hli).2.1;unfold eL at this;split at this;cases this;omega
 obtain⟨hgo,hgl⟩:=sk hli;refine af func59 ?_;refine gt (aJ (yP 900 rfl l oz 0 oz) (.cons (.tmp rfl) (.cons (.const _) .nil)) aM rfl rfl) ?_;refine gl ?_;refine gs (fD (.tmp rfl) T218 rfl T4 rfl rfl oz (by dsimp only;omega) rfl) ?_;refine gD ?_ (2,0);refine gW (Wk.of (sl:=[(1,some (.ptr 1 0)),(2,some (nS)),(3,some (nS)),(4,some (.ms 900 1 0 (cU l.bo.length 0).length)),(5,some (.ms 21 1 0 (List.replicate l.jo.length false).length))]) (hp:=[(1,some (.box l.av.cells)),(900,some (.row 1 ((cU l.bo.length 0).map bl))),(21,some (.row 1 ((List.replicate l.jo.length false).map bl)))]) (.k (.k (.k (.cons rfl (Sub.of (by rw[iI])) (.cons rfl (Sub.of (by rw[length_replicate,toNat_natCast])) .nil))))) (.k (.k (.cons rfl (BlkSub.of (by rw[map_replicate,toNat_natCast];rfl)) .nil)))) ?_ (2,0)
 refine gW (Wk.rk (k:=21) (d:=901) rfl rfl) ?_;refine gc (FQ l hl hli) ?_;refine gl ?_;refine ip [1,2,3,23,24] [1] (fun(i:Nat)(k1 k2:List Bool)=>[(4,some (.ms 900 1 0 k1.length)),(5,some (.ms 901 1 0 k2.length)),(25,some (i64 i))]) (fun _ k1 k2=>[(900,some (.row 1 (k1.map bl))),(901,some (.row 1 (k2.map bl)))]) (fun i k1 k2=>i<=(cE l).length/\k1.length=l.bo.length/\k2.length=l.jo.length/\((cE l).drop i).foldl (fun k g=>bE k g.bo) k1=cg l/\((cE l).drop i).foldl (fun k g=>bE k g.jo) k2=e8 l) (fun i _ _=>(cE l).length-i) 0 (cU l.bo.length 0) (List.replicate l.jo.length false) ⟨zero_le _,iI _ _,length_replicate,rfl,rfl⟩ ?_
 rintro i k1 k2 ⟨hi,hk1,hk2,hf1,hf2⟩ K1 J1;refine gC (fun t26=>?_) (fun t26=>?_)
 ·have hin:=aT t26;obtain⟨g,hg⟩:=az hin;have hgk:=hgo g (mem_of_getElem? hg);have hlb:=hgk.lb;have hlj:=hgk.lj;refine gi (ay hg) ?_;refine gl ?_;refine fZ [1,2,3,7,23,24,25,30,31] [1,7,901] (fun(q:Nat)(kk:List Bool)=>[(4,some (.ms 900 1 0 kk.length)),(5,some (.ms 901 1 0 k2.length)),(32,some (i64 q))]) (fun _ kk=>[(900,some (.row 1 (kk.map bl)))]) (fun q kk=>q<=g.bo.length/\kk.length=l.bo.length/\bE kk (g.bo.drop q)=bE k1 g.bo) (fun q _=>g.bo.length-q) 0 k1 ⟨zero_le _,hk1,rfl⟩ ?_;rintro q kk ⟨hq,hkk,hmk⟩ K2 J2;refine gC (fun t33=>?_) (fun t33=>?_)
  ·have hqn:=aT t33;obtain⟨x,hx⟩:=az hqn;have hxb:=hgk.b x (mem_of_getElem? hx);obtain⟨v,hv⟩:∃v,kk[x.toNat]?=some v:=az oz;refine gi (ay hx) ?_;refine gs (jv (.tmp rfl) (.tmp rfl) T218 rfl T4 rfl oz oz rfl) ?_;refine gs (cO (.tmp rfl) rfl (by rw[Nat.zero_add,getElem?_map,hv];rfl) rfl (.const _) rfl rfl T4 rfl rfl) ?_;refine ga aE ?_;exact fB J2 (q+1) (kk.set x.toNat true) ⟨hqn,by rw[length_set];exact hkk,by rw[<- Bn hx];exact hmk⟩ (hw:=Wk.of (.cons rfl (Sub.of (by rw[length_set])) (.k (.k (.k (.k (.k (.k (.k (.k (.k (.k (.k .nil)))))))))))) (.cons rfl (BlkSub.of (by rw[map_set,Nat.zero_add];rfl)) (.k (.k (.k .nil)))))
  have hqn:=a8 hq t33;have hmk2:kk=bE k1 g.bo:=by rw[hqn,drop_length]at hmk;exact hmk
  refine gl ?_;refine fZ [1,2,3,23,24,25,41,42] [1,900] (fun(p:Nat)(jj:List Bool)=>[(4,some (.ms 900 1 0 kk.length)),(5,some (.ms 901 1 0 jj.length)),(43,some (i64 p))]) (fun _ jj=>[(901,some (.row 1 (jj.map bl)))]) (fun p jj=>p<=g.jo.length/\jj.length=l.jo.length/\bE jj (g.jo.drop p)=bE k2 g.jo) (fun p _=>g.jo.length-p) 0 k2 ⟨zero_le _,hk2,rfl⟩ ?_;rintro p jj ⟨hp,hjj,hmj⟩ K3 J3;refine gC (fun t44=>?_) (fun t44=>?_)
  ·have hpn:=aT t44;obtain⟨x,hx⟩:=az hpn;have hxb:=hgk.j x (mem_of_getElem? hx);obtain⟨v,hv⟩:∃v,jj[x.toNat]?=some v:=az oz;refine gi (ay hx) ?_;refine gs (jv (.tmp rfl) (.tmp rfl) T218 rfl T4 rfl oz oz rfl) ?_;refine gs (cO (.tmp rfl) rfl (by rw[Nat.zero_add,getElem?_map,hv];rfl) rfl (.const _) rfl rfl T4 rfl rfl) ?_;refine ga aE ?_;exact fB J3 (p+1) (jj.set x.toNat true) ⟨hpn,by rw[length_set];exact hjj,by rw[<- Bn hx];exact hmj⟩ (hw:=Wk.of (.k (.cons rfl (Sub.of (by rw[length_set])) (.k (.k (.k (.k (.k (.k (.k (.k (.k .nil))))))))))) (.cons rfl (BlkSub.of (by rw[map_set,Nat.zero_add];rfl)) (.k (.k .nil))))
  have hpn:=a8 hp t44;have hmj2:jj=bE k2 g.jo:=by rw[hpn,drop_length]at hmj;exact hmj
  refine ga aE ?_;exact fS J1 (i+1) kk jj ⟨hin,hkk,hjj,by rw[hmk2,<- hf1,HI hg],by rw[hmj2,<- hf2,HI hg]⟩
 have hin:=a8 hi t26;have e1:k1=cg l:=by rw[hin,drop_length]at hf1;exact hf1
 have e2:k2=e8 l:=by rw[hin,drop_length]at hf2;exact hf2
 refine gW (Wk.virt 902 1 rfl) ?_;refine aN [3,53] [900,901] (fun(i:Nat)=>[(2,some (.ms 902 1 0 (gH k1 i).length)),(5,some (.ms 901 1 0 k2.length)),(52,some (.ms 900 1 0 k1.length)),(54,some (i64 i))]) (fun i=>[(902,some (.row 1 ((gH k1 i).map i64)))]) (fun i=>i<=k1.length) (fun i=>k1.length-i) 0 (zero_le _) ?_;rintro i ha K4 J4;refine gC (fun t55=>?_) (fun t55=>?_) (st2:=(22,0))
 ·have hin6:=aT t55;obtain ⟨v,hv⟩:=az hin6;have hvd:k1.getD i false = v:=aO hv;have hul:=vQ k1 i;refine gs (jv (.tmp rfl) (.tmp rfl) T218 rfl T4 rfl oz oz rfl) ?_;refine gs (dR (.tmp rfl) rfl (by rw [Nat.zero_add,toNat_natCast,getElem?_map,hv]; rfl) T4 rfl rfl rfl) ?_;refine gC (fun t60=>?_) (fun t60=>?_)
  ·have hu := EP (k := k1) (i := i) (by rw [hvd]; exact di t60);refine gs (bO (.tmp rfl) rfl (by rw [length_map]) (.tmp rfl) T39 rfl T3 rfl rfl (by dsimp only; simp only [length_cons,length_nil]; omega) rfl rfl) ?_ (21,0);refine gW (Wk.of (sl:=[(2,some (.ms 64 1 0 (gH k1 (i + 1)).length)),(3,some (nS)),(5,some (.ms 901 1 0 k2.length)),(52,some (.ms 900 1 0 k1.length)),(53,some (i64 k1.length)),(54,some (i64 i))]) (hp:=[(900,some (.row 1 (k1.map bl))),(901,some (.row 1 (k2.map bl))),(64,some (.row 1 ((gH k1 (i + 1)).map i64)))]) (.cons rfl (Sub.of (by rw [hu,length_append]; rfl)) (.k (.k (.k (.k (.k .nil)))))) (.k (.k (.cons rfl (BlkSub.of (by rw [hu,map_append]; rfl)) .nil)))) ?_ (21,0)
   refine gW (Wk.rk (k:=64) (d:=902) rfl rfl) ?_;refine ga aE ?_;exact aH J4 (i+1) hin6 (hw:=Wk.of (.cons rfl (Sub.of (by first |rw[hu];done |rfl)) (.k (.k (.k (.k (.k .nil)))))) (.cons rfl (BlkSub.of (by first |rw[hu];done |rfl)) (.k (.k .nil))))
  have hu:=G4 (k:=k1) (i:=i) (by rw[hvd];exact dr t60);refine ga aE ?_;exact aH J4 (i+1) hin6 (hw:=Wk.of (.cons rfl (Sub.of (by first |rw[hu];done |rfl)) (.k (.k (.k (.k (.k .nil)))))) (.cons rfl (BlkSub.of (by first |rw[hu];done |rfl)) (.k (.k .nil))))
 have hin6:=a8 ha t55;refine gW ((Wk.freeze (k:=902) rfl).trans<|Wk.of (sl:=[(2,some (.lst 1 ((fC (cg l)).map i64))),(3,some (nS)),(5,some (.ms 901 1 0 k2.length))]) (hp:=[(901,some (.row 1 (k2.map bl)))]) (.cons rfl (Sub.of (by rw[bD (by rw[length_map]),hin6,e1];rfl)) (.k (.k .nil))) (.k .nil)) ?_;refine gW (Wk.virt 902 1 rfl) ?_;refine aN [2,67] [901] (fun(i:Nat)=>[(3,some (.ms 902 1 0 (gH k2 i).length)),(66,some (.ms 901 1 0 k2.length)),(68,some (i64 i))]) (fun i=>[(902,some (.row 1 ((gH k2 i).map i64)))]) (fun i=>i<=k2.length) (fun i=>k2.length-i) 0 (zero_le _) ?_;rintro i hb K5 J5;refine gC (fun t69=>?_) (fun t69=>?_) (st2:=(28,0))
 ·have hin8:=aT t69;obtain ⟨v,hv⟩:=az hin8;have hvd:k2.getD i false = v:=aO hv;have hul:=vQ k2 i;refine gs (jv (.tmp rfl) (.tmp rfl) T218 rfl T4 rfl oz oz rfl) ?_;refine gs (dR (.tmp rfl) rfl (by rw [Nat.zero_add,toNat_natCast,getElem?_map,hv]; rfl) T4 rfl rfl rfl) ?_;refine gC (fun t74=>?_) (fun t74=>?_)
  ·have hu := EP (k := k2) (i := i) (by rw [hvd]; exact di t74);refine gs (bO (.tmp rfl) rfl (by rw [length_map]) (.tmp rfl) T39 rfl T3 rfl rfl (by dsimp only; simp only [length_cons,length_nil]; omega) rfl rfl) ?_ (27,0);refine gW (Wk.of (sl:=[(2,some (.lst 1 ((fC (cg l)).map i64))),(3,some (.ms 78 1 0 (gH k2 (i + 1)).length)),(66,some (.ms 901 1 0 k2.length)),(67,some (i64 k2.length)),(68,some (i64 i))]) (hp:=[(901,some (.row 1 (k2.map bl))),(78,some (.row 1 ((gH k2 (i + 1)).map i64)))]) (.k (.cons rfl (Sub.of (by rw [hu,length_append]; rfl)) (.k (.k (.k .nil))))) (.k (.cons rfl (BlkSub.of (by rw [hu,map_append]; rfl)) .nil))) ?_ (27,0)
   refine gW (Wk.rk (k:=78) (d:=902) rfl rfl) ?_;refine ga aE ?_;exact aH J5 (i+1) hin8 (hw:=Wk.of (.cons rfl (Sub.of (by first |rw[hu];done |rfl)) (.k (.k (.k (.k .nil))))) (.cons rfl (BlkSub.of (by first |rw[hu];done |rfl)) (.k .nil)))
  have hu:=G4 (k:=k2) (i:=i) (by rw[hvd];exact dr t74);refine ga aE ?_;exact aH J5 (i+1) hin8 (hw:=Wk.of (.cons rfl (Sub.of (by first |rw[hu];done |rfl)) (.k (.k (.k (.k .nil))))) (.cons rfl (BlkSub.of (by first |rw[hu];done |rfl)) (.k .nil)))
 have hin8:=a8 hb t69;refine gW ((Wk.freeze (k:=902) rfl).trans<|Wk.of (sl:=[(2,some (.lst 1 ((fC (cg l)).map i64))),(3,some (.lst 1 ((fC (e8 l)).map i64)))]) (hp:=[]) (.k (.cons rfl (Sub.of (by rw[bD (by rw[length_map]),hin8,e2];rfl)) .nil)) .nil) ?_;refine bf ?_;rfl
theorem m9(l:Li)(hl:l.ok)(hli:aG l=0):FP 15 [l.av] (.tup [.lst 4 ((aK l).map Gr.av),i64 (cA l)]):=by
 have h8:=(dp hli).2.2.2.1;have hj16:l.jo.length<=16:=by have:=(dp hli).2.1;unfold eL at this;split at this;cases this;omega
 have u1:=Te l;have u2:=Kh l;refine af func15 ?_;refine gc (PP l hl hli) ?_;refine gl ?_;refine gl ?_;refine ga (cV oz) ?_;refine gC (fun t16=>?_) (fun t16=>?_)
 ·have h1:0 < (fC (cg l)).length + (fC (e8 l)).length:=jb t16;have hE:cA l = 7:=by unfold cA; rw [VP oz]
  refine gR ?_;exact bw (by unfold aK;rw[VP (by rw[hE];decide),hE];exact Sub.tup (.cons (.nil _ _ _) (.cons (.refl _) .nil)))
 have h1:(fC (cg l)).length+(fC (e8 l)).length<=0:=gp t16;have hE:cA l=0:=by unfold cA;rw[VQ oz]
 refine gc (FQ l hl hli) ?_;refine bf ?_;unfold aK;rw[VQ hE,hE];rfl
variable{P:Program}{N:Nat}{R:Array Oper}{s:AS}{pos:String}{after:Array Edge}
theorem BV{d:Nat}{x:Operand}{n:Nat}{z:Value}{T E t:TypeId}{ti te:TI}(hx:Ev s x (.v (.int .i64 n)))
    (hT:aB P T=some ti) (hk:ti.k=.slice E) (hE:aB P E=some te) (hz:te.zero=[z]) (hz1:z.oneCell'=true) (hs:Nat.beq te.size 1=true) (hbb:Nat.blt 0 te.bytes=true)
    (hb:(n:Int)*te.bytes<=281474976710656) (hN:Nat.blt d N=true) :
    Step P N R s ⟨some d,.makeSlice T x x,t,pos,after,none⟩
      ⟨some (.ms d 1 0 n),[(d,some (.vec (List.replicate n z)))],aw x,[]⟩ :=
  pK rfl rfl hN (by simp) fun s' hag hfr C m a w hr => by
    have hxv:=oW hr (hx.agree hag (fun _ h=>h));have hs:=eq_of_beq_eq_true hs;rw[Nat.blt_eq]at hbb;obtain⟨d2,h3,h4,-,-⟩:=dM hT w;obtain rfl:=iK (h4.trans hk);obtain⟨zv,h5,h6⟩:=tz hE w;obtain⟨ie,h7,h8,-⟩:=Du hE w;have h6':zv.cells.toList=[z]:=h6.trans hz;have hzc:zv.cells=#[z]:=by rw[<- Array.toArray_toList (xs:=zv.cells),h6']
    have hnb:(n:Int)<=281474976710656:=by
      have:(n:Int)*1<=n*te.bytes:=Int.mul_le_mul_of_nonneg_left oz oz;omega
    have hw1:IntKind.i64.wrap (n:Int)=n:=IntWalk.i64_in n oz;obtain⟨zero,hzero⟩:∃zero:Array Value,zero=(if n*te.size=0 then #[]else zv.cells):=⟨_,rfl⟩
    refine⟨.slice (some ⟨w.heap.size,0,none⟩) n n,(Array.range (n*te.size)).map (zero[· % zero.size]!),E,w.drawn,?_,?_,?_,?_⟩
    · have hmk:(Instr.makeSlice T (.int .i64 n) (.int .i64 n)).run P w =
          .ok (.slice (some ⟨w.heap.size,0,none⟩) n n) { w with heap:=w.heap.push (.cells ((Array.range (n*te.size)).map (zero[· % zero.size]!)) E) }:=by
        have hc:¬(((n:Int)<0\/281474976710656<(ie.bytes:Int)*n)\/(n:Int)<0):=by
          rw[h8,Int.mul_comm];omega
        simp only[Instr.makeSlice,Sem.run_bind,h3,Result.andThen_ok,asInt,asIntOf,Sem.run_pure,h7,hw1];rw[VP (by simpa using hc)];simp only[Sem.run_bind,run_askRoom,Result.andThen_ok,gw hE,toNat_natCast]
        by_cases h0:n*te.size=0
        · rw[VQ h0]at hzero ⊢
          subst hzero;simp only[Sem.run_bind,Sem.run_pure,Result.andThen_ok,newRow,run_newObj]
        · rw[VP h0]at hzero ⊢
          subst hzero;simp only[Sem.run_bind,Sem.run_pure,Result.andThen_ok,h5,newRow,run_newObj]
      simp only[execOp,hxv,Sem.run_bind,hmk,Result.andThen_ok,Sem.run_pure]
    · exact fun h=>h
    · intro g S m' w' hg hS hm hw
      refine .vec hw ?_ (fun v hv=>by rw[List.eq_of_mem_replicate hv];exact hz1);apply List.ext_getElem?;intro j;rw[Array.getElem?_toList,getElem?_replicate]
      by_cases hj:j<n
      · have hpos : ¬ n * te.size = 0 := by rw [hs]; omega
        rw[VP hpos,hzc]at hzero;subst hzero;rw[VQ hj];simp only[Array.getElem?_map,Array.getElem?_range,show j<n*te.size by rw[hs];omega,if_true,Option.map_some,Option.some.injEq];simp[Nat.mod_one]
      · rw[VP hj,Array.getElem?_eq_none (by simp[hs];omega)]
    · intro g S m' hm hS
      have:=Rep.ms (g:=g) (S:=S) (m:=m') (k:=d) (sz:=1) (off:=0) (len:=n) (cap:=n) hm (le_refl _) (by simpa[hs]using hS);simpa using this
theorem wC{x y:Operand}{k i:Nat}{vs:List Value}{v:Value}{T t:TypeId}{ti:TI}
  (hx:Ev s x (.eptr k 1 i 0)) (hk:s.blk k=some (.vec vs)) (hi:i<vs.length) (hy:Ev s y (.v v)) (hv:v.oneCell'=true) (hT:aB P T=some ti) (hsz:Nat.beq ti.size 1=true) :
  Step P N R s ⟨none,.store T x y,t,pos,after,none⟩ ⟨none,[(k,some (.vec (vs.set i v)))],aw x++aw y,[k]⟩ :=
 xR rfl rfl (by simp) hk fun s' hag C m a w hr => by
  have hsz:=eq_of_beq_eq_true hsz;obtain⟨b,hm,hxv⟩:=uJ hr (hx.agree hag (fun _ h=>List.mem_append.2 (.inl h)));have hyv:=oW hr (hy.agree hag (fun _ h=>List.mem_append.2 (.inr h)));have hb:=hr.heap.blk k _ ((hag.2 k (by simp)).trans hk);rw[hm]at hb;cases hb with
  | @vec _ _ c t2 hw hc h1 =>
   have hcs:c.size=vs.length:=by rw[<- hc];simp
   have hvc:v.cells=#[v]:=by cases v <;> simp_all [Value.cells,Value.oneCell']
   refine⟨b,c,(over c.toList i v.cells.toList).toArray,t2,hm,hw,?_,?_,?_⟩
   ·simp[over,hvc];omega
   ·have hrun := BG (P := P) (off := i) (v := v) hT hw (by rw[hvc,hsz];rfl) oz (by rw[hvc];simpa using hv);simp[execOp,Instr.storeAt,hxv,Instr.sureAddr,hyv,hrun]
   ·intro g S w' hg hS hw';refine .vec hw' ?_ (fun u hu=>?_)
    ·rw[hc,hvc];unfold over;rw[List.set_eq_take_append_cons_drop,VQ hi];simp
    ·rcases List.mem_or_eq_of_mem_set hu with h9 |h9
     ·exact h1 u h9
     ·rw[h9];exact hv
inductive Lent(H:Hp)(hid:List Nat):AV->AV->Prop
  |same {x:AV} (h:x.nm=[]):Lent H hid x x
  |ms {k off len:Nat} {vs:List Value} (hk:lk H k=some (.vec vs)) (hh:k∉hid) (hl:off+len<=vs.length) (hm:vs.length<=aY):Lent H hid (.ms k 1 off len) (.lst 1 (((vs.drop off).take len).map .v))
theorem IE{g:Nat->Array Value->Prop}{S:Nat->Nat->Prop}{m:Nat->Option Nat}{u y:Value}(h:Rep g S m u (.v y)):u=y:=by cases h;rfl
theorem xu{m:Nat->Option Nat}{b:Nat}:¬a6 [] m b:=by rintro⟨k,x,h,_⟩;cases h
def qL(ext:Nat->Prop)(H:Hp)(hid:List Nat)(m:Nat->Option Nat)(b:Nat):Prop:=ext b\/∃k z,k∈hid/\lk H k=some z/\m k=some b
theorem TM{ext:Nat->Prop}{H:Hp}{hid:List Nat}{m m2:Nat->Option Nat}{w:World}{b:Nat}{cs:Array Value}(h:Im ext H m w b cs):Im (qL ext H hid m) [] m2 w b cs :=
 ⟨fun h'=>h'.elim h.1 (fun⟨k,z,_,hz,hb⟩=>h.2.1 ⟨k,z,hz,hb⟩),xu,h.2.2⟩
theorem Dq{ext:Nat->Prop}{H:Hp}{hid:List Nat}{m:Nat->Option Nat}{w:World}(hh:HeapRel ext H m w){k b:Nat}{z:Blk}(hk:lk H k=some z)(hb:m k=some b)(hn:k∉hid):¬qL ext H hid m b:=by
 rintro(h |⟨k',z',h1,h2,h3⟩)
 ·exact(hh.sep k z b hk hb).1 h
 ·have:=hh.inj k k' z z' b hk h2 hb h3;subst this;exact hn h1
theorem Lent.rep{ext:Nat->Prop}{H:Hp}{hid:List Nat}{m:Nat->Option Nat}{w:World}(hh:HeapRel ext H m w){x x':AV}(h:Lent H hid x x') :
  ∀{v:Value},Rep (Im ext H m w) (Sz w) m v x->∀m2:Nat->Option Nat,Rep (Im (qL ext H hid m) [] m w) (Sz w) m2 v x':=by
 cases h with
 |same hn=>intro v hv m2;exact(iT hn hv).mono (fun _ _ h=>TM h) (fun _ _ h=>h) (fun _ _ _ h=>h)
 | @ms k off len vs hk hnh hl hm =>
  intro v hr m2;have hb:=hh.blk k _ hk;cases hr with
  |ms0 a=>simp only[List.take_zero];exact .lst0 _ _ _
  | @ms _ _ _ _ _ cap b hmk hc hS =>
   rw[hmk]at hb;cases hb with
   | @vec _ _ c t hw hcv h1 =>
    have hcs:c.size=vs.length:=by rw[<- hcv];simp
    have hlen:(((vs.drop off).take len).map AV.v).length=len:=by rw[length_map,length_take,List.length_drop];omega
    have he':∀(i:Nat)(e:AV),(((vs.drop off).take len).map AV.v)[i]?=some e->∃u,e=.v u/\c[off+i]?=some u/\u∈vs:=by
     intro i e he;rw[getElem?_map,map_eq_some_iff]at he;obtain⟨u,he,rfl⟩:=he;rw[getElem?_take]at he;split at he
     ·rw[getElem?_drop]at he;exact⟨u,rfl,by rw[<- Array.getElem?_toList,hcv];exact he,mem_of_getElem? he⟩
     ·cases he
    have:=Rep.lst (g:=Im (qL ext H hid m) [] m w) (S:=Sz w) (m:=m2) (b:=b) (off:=off) (cap:=cap) (sz:=1) (es:=((vs.drop off).take len).map AV.v) (cs:=c) (fun i j=>c.getD (off+i) undef)
     ⟨Dq hh hk hmk hnh,xu,t,(0,0),hw⟩ oz oz ?_ ?_ ?_ ?_
    ·rw[hlen]at this;simpa using this
    ·intro i e he;obtain⟨u,rfl,_⟩:=he' i e he;rfl
    ·intro i j e x he hx;obtain⟨u,rfl,_,hm⟩:=he' i e he;cases j with
     |zero=>cases hx;exact h1 u hm
     |succ j=>cases hx
    ·intro i j e x he hx;obtain⟨u,rfl,hu,_⟩:=he' i e he;cases j with
     |zero=>rw[Nat.mul_one,Nat.add_zero,getD_eq_getD_getElem?,hu];rfl
     |succ j=>cases hx
    ·intro i j e x he hx;obtain⟨u,rfl,hu,_⟩:=he' i e he;cases j with
     |zero=>cases hx;rw[getD_eq_getD_getElem?,hu];exact .v _
     |succ j=>cases hx
def Dd:AV->Bool
  | .v (.int _ _)=>true
  |_=>false
def Jl:AV->Bool
  | .v (.int _ _)=>false
  | .v _=>true
  | .lst _ _=>true
  | .ms _ _ _ _=>true
  |_=>false
mutual
def AV.li:AV->Bool
  | .v _=>true
  | .agg cs=>AV.lis cs
  | .tup cs=>AV.lis cs
  | .lst sz es=>Nat.beq sz 1&&es.all Dd
  |_=>false
def AV.lis:List AV->Bool
  |[]=>true
  |x::l=>x.li&&AV.lis l
end
theorem AV.lis_mem:∀{l:List AV}{c:AV},AV.lis l=true->c∈l->c.li=true
 |x::l,c,h,hc=>by
  simp only[AV.lis,and_eq_true]at h;rcases List.mem_cons.1 hc with rfl |hc
  ·exact h.1
  ·exact AV.lis_mem h.2 hc
theorem Lk{g:Nat->Array Value->Prop}{S:Nat->Nat->Prop}{m:Nat->Option Nat}{u:Value}{x:AV}(hx:Jl x=true)(h:Rep g S m u x)(kk:IntKind)(z:Int):u≠.int kk z:=by
 rintro rfl;cases h <;> cases hx
theorem Le{g g':Nat->Array Value->Prop}{S S':Nat->Nat->Prop}{m m':Nat->Option Nat}{v:Value}{x:AV}(hx:x.li=true)
  (hg:∀b cs (o:Nat)(kk:IntKind)(z:Int),cs[o]?=some (.int kk z)->g b cs->g' b cs) (h:Rep g S m v x):Rep g' S' m' v x:=by
 induction h with
 |v=>exact .v _
 |agg hn h1 hr ih=>exact .agg hn h1 (fun j u c hu hc=>ih j u c hu hc (AV.lis_mem hx (mem_of_getElem? hc)))
 |tup hn hr ih=>exact .tup hn (fun j u c hu hc=>ih j u c hu hc (AV.lis_mem hx (mem_of_getElem? hc)))
 |lst0 a cap sz=>exact .lst0 _ _ _
 | @lst _ b off cap sz es cs u hb hc hl hs h1 hu hr _ =>
  simp only[AV.li,and_eq_true]at hx;have hsz:=eq_of_beq_eq_true hx.1;subst hsz
  match es,hx,hc,hl,hs,h1,hu,hr with
  |[],_,_,_,_,_,_,_=>exact .lst0 _ _ _
  |e::es,hx,hc,hl,hs,h1,hu,hr =>
   have hcell:∀(i j:Nat)(e' c:AV),(e::es)[i]?=some e'->e'.cells[j]?=some c->∃kk z,c=.v (.int kk z):=by
    intro i j e' c he hc';have h9:=List.all_eq_true.1 hx.2 e' (mem_of_getElem? he);cases e' with
    |v y=>cases y with
     |int kk z =>
      cases j with
      |zero=>cases hc';exact⟨_,_,rfl⟩
      |succ j=>cases hc'
     |_=>cases h9
    |_=>cases h9
   have he0:∃kk z,e=.v (.int kk z):=by
    have h9:=List.all_eq_true.1 hx.2 e (by simp);cases e with
    |v y=>cases y with
     |int kk z=>exact⟨_,_,rfl⟩
     |_=>cases h9
    |_=>cases h9
   obtain⟨kk,z,rfl⟩:=he0;have h8:=hu 0 0 _ _ rfl rfl;have h7:=hr 0 0 _ _ rfl rfl;have h6:u 0 0=.int kk z:=IE h7;rw[h6]at h8;refine .lst u (hg b cs _ kk z h8 hb) hc hl hs h1 hu (fun i j e' c he hc'=>?_);obtain⟨k2,z2,rfl⟩:=hcell i j e' c he hc';rw[IE (hr i j _ _ he hc')];exact .v _
 |_=>cases hx
theorem Con.lend{f:FuncId}{k:Nat}{cs:List AV}{cs':Value->List AV}{H:Hp}{r:AV}(hid:List Nat)(j0:Nat)(hk:lk H k=some (.box cs))(hkh:k∉hid)
  (hc:∀v:Value,v.oneCell'=true->(cs' v).length=cs.length/\(∀(j:Nat)(x:AV),(cs' v)[j]?=some x->x.one=true) /\
   ∀(j:Nat)(x x':AV),cs[j]?=some x->(cs' v)[j]?=some x'->(j=j0/\x'=.v v)\/Lent H hid x x')
  (hj:j0<cs.length)
  (hH:∀k z,lk H k=some z->k∈hid\/(∃cs,z=.box cs/\cs.all Jl=true)\/∃vs,z=.vec vs/\∀v∈vs,∀kk z,v≠.int kk z) (hr:r.li=true) (h:∀v:Value,il P f [.iptr (cs' v)] r):Con P f [.ptr k 0] H r H:=by
 refine⟨(h undef).ok,?_⟩;intro ext m w vs hext hheap hvs hrep;have hsz:0<vs.size:=by rw[hvs];exact Nat.one_pos
 have hr0:=hrep 0 vs[0] _ (Array.getElem?_eq_getElem hsz) rfl;have hb:=hheap.blk k _ hk;generalize hv0:vs[0]=v0 at hr0;cases hr0 with
 | @ptr _ _ _ b hmk =>
  rw[hmk]at hb;cases hb with
  | @box _ _ c t hw hn h1 hrr =>
   have hj0:j0<c.size:=by omega
   have hx0:=getElem?_eq_getElem (l:=cs) (i:=j0) oz;have hone:(c[j0]).oneCell'=true:=(hrr j0 _ _ (Array.getElem?_eq_getElem hj0) hx0).one (h1 j0 _ hx0);obtain⟨g1,g2,g3⟩:=hc c[j0] hone
   have hext':∀b,qL ext H hid m b->b<w.heap.size:=by
    rintro b (h9 |⟨k',z',_,h2,h3⟩)
    ·exact hext b h9
    ·exact(hheap.sep k' z' b h2 h3).2
   have hcall := (h c[j0]).ret (qL ext H hid m) m w vs hext' ⟨fun k z hz => by (cases hz), fun k k' x x' b hx => by (cases hx), fun k x b hx => by (cases hx)⟩ (by rw [hvs]; rfl) (by
    intro j v x hv hx
    match j,hx with
    |0,hx =>
     cases hx;rw[Array.getElem?_eq_getElem hsz,hv0]at hv;cases hv;refine .iptr (cs:=c) (fun j=>c.getD j undef) ⟨Dq hheap hk hmk hkh,xu,t,(0,0),hw⟩ g2 ?_ ?_
     ·intro j x hx;have hlt:j < c.size:=by rw [hn,<- g1]; exact (List.getElem?_eq_some_iff.1 hx).1
      rw[Nat.zero_add,getD_eq_getD_getElem?,Array.getElem?_eq_getElem hlt];rfl
     ·intro j x hx;have hlt:j < c.size:=by rw [hn,<- g1]; exact (List.getElem?_eq_some_iff.1 hx).1
      obtain⟨y,hy⟩:=iD g1 hx;have hcv:c[j]?=some (c.getD j undef):=by rw[getD_eq_getD_getElem?,Array.getElem?_eq_getElem hlt];rfl
      rcases g3 j y x hy hx with⟨rfl,rfl⟩ |hl
      ·have : c.getD j undef = c[j] := by rw [Array.getElem?_eq_getElem hlt] at hcv; exact (Option.some.inj hcv).symm
       rw[this];exact .v _
      ·exact hl.rep hheap (hrr j _ y hcv hy) cS)
   refine Calls.mono hcall ?_;rintro e w' ⟨v,m',rfl,hf,hh,hnew,hkeep,hres⟩;have hkeepB:∀b,b<w.heap.size->w'.heap[b]?=w.heap[b]? := fun b hb=>hf.keep b hb xu
   have hframe:Frame (a6 H m) w w':=⟨hf.os,hf.tape,hf.output,hf.size,hf.sz,fun b hb _=>hkeepB b hb⟩
   have him:=eJ (ext:=ext) hframe (hp':=H) (m':=m) (fun k x b hk hb=>.inl ⟨k,x,hk,hb⟩);refine⟨v,m,rfl,hframe,⟨?_,hheap.inj,?_⟩,fun k x b hk hb=>.inl ⟨k,x,hk,hb⟩,fun _ _ _ _ _=>rfl,?_⟩
   ·intro k z hz;exact BlkRep.mono (w:=w) him hf.sz (fun _ _ _ h=>h) rfl (fun b hb=>hkeepB b (hheap.sep k z b hz hb).2) (hheap.blk k z hz)
   ·intro k z b hz hb;have:=hheap.sep k z b hz hb;exact⟨this.1,lt_of_lt_of_le this.2 hf.size⟩
   ·refine Le hr ?_ hres;rintro b2 cs2 o kk z ho ⟨g1,g2,t2,fl,g3⟩;refine⟨fun h9=>g1 (.inl h9),?_,t2,fl,g3⟩;rintro⟨k2,y,hk2,hb2⟩;have hlt:=fun b hb=>(hheap.sep k2 _ b hk2 hb).2
    have h3:=hheap.blk k2 _ hk2;rw[hb2]at h3;rcases hH k2 y hk2 with h9 |⟨cl,rfl,hcl⟩ |⟨vs2,rfl,hvl⟩
    ·exact g1 (.inr ⟨k2,y,h9,hk2,hb2⟩)
    ·cases h3 with
     | @box _ _ c2 t' hw2 hn2 h12 hrr2 =>
      have hcc:c2=cs2:=by
       rw[hkeepB b2 (hlt b2 hb2),hw2]at g3
       injection g3 with g3
       injection g3
      subst hcc;have ho':o<c2.size:=(Array.getElem?_eq_some_iff.1 ho).1;have hx:=getElem?_eq_getElem (l:=cl) (i:=o) oz;exact Lk (List.all_eq_true.1 hcl _ (mem_of_getElem? hx)) (hrr2 o _ _ ho hx) kk z rfl
    ·cases h3 with
     | @vec _ _ c2 t' hw2 hc2 h12 =>
      have hcc:c2=cs2:=by
       rw[hkeepB b2 (hlt b2 hb2),hw2]at g3
       injection g3 with g3
       injection g3
      subst hcc;have:Value.int kk z∈vs2:=by rw[<- hc2];exact Array.mem_toList_iff.2 (Array.mem_of_getElem? ho)
      exact hvl _ this kk z rfl
end Go.Lw
namespace Go.Lw
open Go.Proofs
def bv(xs:List Bool):List Value:=xs.map .bool
theorem gx(xs:List Bool):(bv xs).length=xs.length:=length_map _
theorem xi(xs:List Bool)(n:Nat):(bv xs).set n (.bool true)=bv (xs.set n true):=by unfold bv;rw[map_set]
theorem xC(xs:List Bool):∀v∈bv xs,∀kk z,v≠.int kk z:=by
 intro v hv kk z;obtain⟨b,_,rfl⟩:=List.mem_map.1 hv;exact fun h=>by cases h
theorem vH(xs:List Bool):(bv xs).map AV.v=xs.map bl:=by unfold bv;rw[map_map];rfl
theorem yO(n:Nat):List.replicate n (Value.bool false)=bv (List.replicate n false):=by unfold bv;rw[map_replicate]
theorem LW(xs:List Int):(xs.map i64).all Dd=true:=by
 rw[all_eq_true];intro x hx;obtain⟨b,_,rfl⟩:=List.mem_map.1 hx;rfl
theorem M3(g:Gr)(b:Bool):(AV.tup [g.av,bl b]).li=true:=by
 simp only[AV.li,AV.lis,Gr.av,LW];rfl
def oB(l:Li)(n:Nat):Blk:=.box (l.av.cells++[.ms 23 1 0 l.bo.length,.ms 27 1 0 l.bo.length,.ms 31 1 0 l.jo.length,.ms 900 4 0 n])
def mQ(l:Li)(kw used:List Bool)(out:List Gr):Hp :=
  [(33,some (oB l out.length)),(23,some (.vec (bv kw))),(27,some (.vec (bv (bX l)))),(31,some (.vec (bv used))),(900,some (.row 4 (out.map Gr.av)))]
theorem zJ{xs:List Bool}{n:Nat}(h:xs.length=n):AV.lst 1 ((((bv xs).drop 0).take n).map .v)=.lst 1 (xs.map bl):=by
 rw[drop_zero,take_of_length_le (by rw[gx];omega),vH]
theorem DI(l:Li)(hl:l.ok)(hli:aG l=0)(kw used:List Bool)(hk:kw.length=l.bo.length)(hu:used.length=l.jo.length)(hm:l.bo.length<=aY/\l.jo.length<=aY)(out:List Gr) :
  Con prog 334 [.ptr 33 0] (mQ l kw used out) (.tup [((cq l kw).getD default).av,bl (cq l kw).isSome]) (mQ l kw used out):=by
 refine Con.lend (cs:=l.av.cells++[.ms 23 1 0 l.bo.length,.ms 27 1 0 l.bo.length,.ms 31 1 0 l.jo.length,.ms 900 4 0 out.length])
  (cs':=fun v=>dJ l kw (bX l) [.lst 1 (used.map bl),.v v]) [900] 7 rfl (by decide) ?_ (by simp[Li.av,AV.cells]) ?_ (M3 _ _) (fun v=>MP l hl hli kw hk _)
 ·intro v hv;refine⟨rfl,?_,?_⟩
  ·intro j x hx
   match j,hx with
   |0,hx=>cases hx;rfl
   |1,hx=>cases hx;rfl
   |2,hx=>cases hx;rfl
   |3,hx=>cases hx;rfl
   |4,hx=>cases hx;rfl
   |5,hx=>cases hx;rfl
   |6,hx=>cases hx;rfl
   |7,hx=>cases hx;exact hv
   |j+8,hx=>cases hx
  ·intro j x x' hx hx'
   match j,hx,hx' with
   |0,hx,hx'=>cases hx;cases hx';exact .inr (.same rfl)
   |1,hx,hx'=>cases hx;cases hx';exact .inr (.same rfl)
   |2,hx,hx'=>cases hx;cases hx';exact .inr (.same rfl)
   |3,hx,hx'=>cases hx;cases hx';exact .inr (.same rfl)
   |4,hx,hx' =>
    cases hx;cases hx'
    have h:=Lent.ms (H:=mQ l kw used out) (hid:=[900]) (k:=23) (off:=0) (len:=l.bo.length) (vs:=bv kw) rfl (by decide) (by rw[gx];omega) (by rw[gx];omega);rw[zJ hk]at h;exact .inr h
   |5,hx,hx' =>
    cases hx;cases hx'
    have h:=Lent.ms (H:=mQ l kw used out) (hid:=[900]) (k:=27) (off:=0) (len:=l.bo.length) (vs:=bv (bX l)) rfl (by decide) (by rw[gx,tH];omega) (by rw[gx,tH];omega);rw[zJ (tH l)]at h;exact .inr h
   |6,hx,hx' =>
    cases hx;cases hx'
    have h:=Lent.ms (H:=mQ l kw used out) (hid:=[900]) (k:=31) (off:=0) (len:=l.jo.length) (vs:=bv used) rfl (by decide) (by rw[gx];omega) (by rw[gx];omega);rw[zJ hu]at h;exact .inr h
   |7,hx,hx'=>cases hx;cases hx';exact .inl ⟨rfl,rfl⟩
   |j+8,hx,hx'=>cases hx
 ·intro k z hz;simp only[mQ,aP]at hz;split at hz
  ·cases hz;exact .inr (.inl ⟨_,rfl,rfl⟩)
  split at hz
  ·cases hz;exact .inr (.inr ⟨_,rfl,xC _⟩)
  split at hz
  ·cases hz;exact .inr (.inr ⟨_,rfl,xC _⟩)
  split at hz
  ·cases hz;exact .inr (.inr ⟨_,rfl,xC _⟩)
  split at hz
  ·subst_vars;exact .inl (by decide)
  ·cases hz
def pc(l:Li):AV:=if aG l=0 then .iptr (dJ l (cg l) (bX l) [.lst 1 ((e8 l).map bl),.lst 4 ((cE l).map Gr.av)])else .v (.pointer none)
def ji(l:Li)(out:List Gr):List Bool:=out.foldl (fun k g=>bE k g.jo) (List.replicate l.jo.length false)
theorem x9(l:Li)(out:List Gr):(ji l out).length=l.jo.length:=by unfold ji;rw[qW,length_replicate]
theorem Ol(l:Li)(out:List Gr)(g:Gr):ji l (out++[g])=bE (ji l out) g.jo:=by unfold ji;rw[List.foldl_append];rfl
theorem zV{k:List Bool}{bs:List Int}{i:Nat}{b:Int}(h:bs[i]?=some b):bE k (bs.take (i+1))=(bE k (bs.take i)).set b.toNat true:=by
 unfold bE;rw[cD h,List.foldl_append];rfl
theorem Se{l:Li}(hli:aG l=0){kw:List Bool}{out:List Gr}{g:Gr}(hk:kw.length=l.bo.length)(h:cJ l (dK kw) kw out=(cg l,cE l))(hg:cq l kw=some g) :
  cJ l (dK (bE kw g.bo)) (bE kw g.bo) (out++[g])=(cg l,cE l):=by
 have hlt:=tR hli hk hg;obtain⟨n,hn⟩:∃n,dK kw=n+1:=⟨dK kw-1,by omega⟩
 rw[hn]at h;unfold cJ at h;rw[hg]at h;rw[<- h];exact Bj hli _ _ _ _ (by rw[kf];exact hk) (le_refl _) oz
theorem Mv{l:Li}{kw:List Bool}{out:List Gr}(h:cJ l (dK kw) kw out=(cg l,cE l))(hg:cq l kw=none):kw=cg l/\out=cE l:=by
 cases hn:dK kw with
 |zero=>rw[hn]at h;exact⟨(Prod.mk.inj h).1,(Prod.mk.inj h).2⟩
 |succ n=>rw[hn]at h;unfold cJ at h;rw[hg]at h;exact⟨(Prod.mk.inj h).1,(Prod.mk.inj h).2⟩
theorem MB{n:Nat}:dK (cU n 0)<=n:=by
 unfold dK;exact le_trans List.countP_le_length (Nat.le_of_eq (iI _ _))
theorem Qi{l:Li}(hli:aG l=0):cJ l (dK (cU l.bo.length 0)) (cU l.bo.length 0) []=(cg l,cE l):=by
 rw[<- IH];exact Bj hli _ _ _ _ (iI _ _) (le_refl _) MB
theorem S6{l:Li}(hli:aG l=0){kw:List Bool}{out:List Gr}(hk:kw.length=l.bo.length)(h:cJ l (dK kw) kw out=(cg l,cE l)):out.length<=8:=by
 obtain⟨gs,e⟩:=xV (l:=l) (dK kw) kw out;rw[e]at h;have h1:=(sk hli).2;have h2:out++gs=cE l:=(Prod.mk.inj h).2;rw[<- h2,length_append]at h1;omega
theorem Mb(l:Li)(kw used:List Bool)(out:List Gr)(hk:kw.length=l.bo.length)(hu:used.length=l.jo.length)(hm:l.bo.length<=aY/\l.jo.length<=aY) :
  Wk ⟨[(5,some (.ptr 33 0))],mQ l kw used out⟩ ⟨[(5,some (.iptr (dJ l kw (bX l) [.lst 1 (used.map bl),.lst 4 (out.map Gr.av)])))],[]⟩:=by
 have hd:=tH l;have q1:.ms 23 1 0 l.bo.length=AV.ms 23 1 0 ((bv kw).map AV.v).length:=by rw[length_map,gx,hk]
 refine(Wk.of (sl:=[(5,some (.ptr 33 0))]) (hp:=[(33,some (oB l out.length)),(23,some (.row 1 ((bv kw).map .v))),(27,some (.row 1 ((bv (bX l)).map .v))),(31,some (.row 1 ((bv used).map .v))),(900,some (.row 4 (out.map Gr.av)))])
  (.k .nil) (.k (.cons rfl (.vecRow (by rw[gx];omega)) (.cons rfl (.vecRow (by rw[gx];omega)) (.cons rfl (.vecRow (by rw[gx];omega)) (.k .nil)))))).trans ?_
 refine(Wk.freeze (k:=23) rfl).trans ?_
 refine(Wk.of (sl:=[(5,some (.ptr 33 0))]) (hp:=[(33,some (.box (l.av.cells++[.lst 1 (kw.map bl),.ms 27 1 0 l.bo.length,.ms 31 1 0 l.jo.length,.ms 900 4 0 out.length]))),(27,some (.row 1 ((bv (bX l)).map .v))),(31,some (.row 1 ((bv used).map .v))),(900,some (.row 4 (out.map Gr.av)))])
  (.k .nil) (.cons rfl (BlkSub.bL (.cons (.refl _) (.cons (.refl _) (.cons (.refl _) (.cons (.refl _) (.cons (.of ((bD (by rw[length_map,gx,hk])).trans (by rw[vH]))) (.cons (.refl _) (.cons (.refl _) (.cons (.refl _) .nil)))))))) rfl) (.k (.k (.k .nil))))).trans ?_
 refine(Wk.freeze (k:=27) rfl).trans ?_
 refine(Wk.of (sl:=[(5,some (.ptr 33 0))]) (hp:=[(33,some (.box (l.av.cells++[.lst 1 (kw.map bl),.lst 1 ((bX l).map bl),.ms 31 1 0 l.jo.length,.ms 900 4 0 out.length]))),(31,some (.row 1 ((bv used).map .v))),(900,some (.row 4 (out.map Gr.av)))])
  (.k .nil) (.cons rfl (BlkSub.bL (.cons (.refl _) (.cons (.refl _) (.cons (.refl _) (.cons (.refl _) (.cons (.refl _) (.cons (.of ((bD (by rw[length_map,gx,hd])).trans (by rw[vH]))) (.cons (.refl _) (.cons (.refl _) .nil)))))))) rfl) (.k (.k .nil)))).trans ?_
 refine(Wk.freeze (k:=31) rfl).trans ?_
 refine(Wk.of (sl:=[(5,some (.ptr 33 0))]) (hp:=[(33,some (.box (l.av.cells++[.lst 1 (kw.map bl),.lst 1 ((bX l).map bl),.lst 1 (used.map bl),.ms 900 4 0 out.length]))),(900,some (.row 4 (out.map Gr.av)))])
  (.k .nil) (.cons rfl (BlkSub.bL (.cons (.refl _) (.cons (.refl _) (.cons (.refl _) (.cons (.refl _) (.cons (.refl _) (.cons (.refl _) (.cons (.of ((bD (by rw[length_map,gx,hu])).trans (by rw[vH]))) (.cons (.refl _) .nil)))))))) rfl) (.k .nil))).trans ?_
 refine(Wk.freeze (k:=900) rfl).trans ?_
 refine(Wk.of (sl:=[(5,some (.ptr 33 0))]) (hp:=[(33,some (.box (dJ l kw (bX l) [.lst 1 (used.map bl),.lst 4 (out.map Gr.av)])))])
  (.k .nil) (.cons rfl (BlkSub.bL (.cons (.refl _) (.cons (.refl _) (.cons (.refl _) (.cons (.refl _) (.cons (.refl _) (.cons (.refl _) (.cons (.refl _) (.cons (.of (bD (by rw[length_map]))) .nil)))))))) rfl) .nil)).trans ?_
 refine(Wk.freezeB (k:=33) rfl rfl).trans ?_;exact Wk.of (.k .nil) .nil
theorem OM(l:Li)(hl:l.ok):FP 238 [l.av] (.tup [pc l,bm (aG l)]):=by
 refine af func238 ?_;refine gc (Cg l hl) ?_;refine gC (fun t17=>?_) (fun t17=>?_)
 ·have h1:=de t17;refine bf ?_;unfold pc;rw[VP h1]
 have hli:=cR t17;have h8:=(dp hli).2.2.2.1;have h0:=(dp hli).2.2.2.2;have hj16:l.jo.length<=16:=by have:=(dp hli).2.1;unfold eL at this;split at this;cases this;omega
 have hld:=hl.ld;have hm:l.bo.length<=aY/\l.jo.length<=aY:=by unfold aY;omega
 refine gl ?_;refine gs (BV (.tmp rfl) T218 rfl T4 rfl rfl rfl rfl (by dsimp only;omega) rfl) ?_;refine gl ?_;refine gs (BV (.tmp rfl) T218 rfl T4 rfl rfl rfl rfl (by dsimp only;omega) rfl) ?_;refine gl ?_;refine gs (BV (.tmp rfl) T218 rfl T4 rfl rfl rfl rfl (by dsimp only;omega) rfl) ?_;refine gD ?_;refine gs (bP (n:=0) (.tmp rfl) (.const _) T218 rfl T4 rfl rfl oz rfl) ?_;refine gs (wC (.tmp rfl) rfl (by rw[length_replicate];omega) (.const _) rfl T4 rfl) ?_ (6,0);refine gW (Wk.of (sl:=[(1,some (.ptr 1 0)),(5,some (.ptr 33 0))]) (hp:=[(1,some (.box l.av.cells)),(33,some (.box (l.av.cells++[.ms 23 1 0 l.bo.length,.ms 27 1 0 l.bo.length,.ms 31 1 0 l.jo.length,nS]))),(23,some (.vec (bv (cU l.bo.length 0)))),(27,some (.vec (bv (List.replicate l.bo.length false)))),(31,some (.vec (bv (List.replicate l.jo.length false))))]) aR (.k (.k (.cons rfl (BlkSub.of (by rw[yO,xi];rfl)) (.cons rfl (BlkSub.of (by rw[yO])) (.cons rfl (BlkSub.of (by rw[yO])) .nil)))))) ?_
 refine gl ?_;refine aN [1,5,40,41] [1,23,31] (fun(i:Nat)=>[(42,some (i64 i))]) (fun i=>[(33,some (.box (l.av.cells++[.ms 23 1 0 l.bo.length,.ms 27 1 0 l.bo.length,.ms 31 1 0 l.jo.length,nS]))),(27,some (.vec (bv (bE (List.replicate l.bo.length false) ((l.dv.map Dr.body).take i)))))]) (fun i=>i<=l.dv.length) (fun i=>l.dv.length-i) 0 (zero_le _) ?_;rintro i hi K1 J1;refine gC (fun t43=>?_) (fun t43=>?_) (st2:=(11,0))
 ·have hin:=aT t43;obtain⟨d,hd⟩:=az hin;have hb:=eK (lK hli hd);have hmt:=zV (k:=List.replicate l.bo.length false) (bs:=l.dv.map Dr.body) (i:=i) (b:=d.body) (by rw[getElem?_map,hd];rfl);refine gi (ay hd) ?_;refine gs (bP (n:=d.body.toNat) (.tmp rfl) (.tmp rfl) T218 rfl T4 rfl oz oz rfl) ?_;refine gs (wC (.tmp rfl) rfl (by rw[gx,kf,length_replicate];omega) (.const _) rfl T4 rfl) ?_;refine gD ?_;refine ga aE ?_;exact aH J1 (i+1) hin (hw:=Wk.of aR (.k (.cons rfl (BlkSub.of (by rw[xi,hmt])) (.k (.k (.k .nil))))))
 have hin:=a8 hi t43;have hall:bE (List.replicate l.bo.length false) ((l.dv.map Dr.body).take i)=bX l:=by rw[hin];unfold bX;rw[take_of_length_le (by rw[length_map];omega)]
 refine gW ((Wk.virt 900 4 rfl).trans<|Wk.of (sl:=[(1,some (.ptr 1 0)),(5,some (.ptr 33 0))]) (hp:=[(33,some (oB l 0)),(23,some (.vec (bv (cU l.bo.length 0)))),(27,some (.vec (bv (bX l)))),(31,some (.vec (bv (List.replicate l.jo.length false)))),(900,some (.row 4 []))]) aR (.cons rfl (BlkSub.bL (.cons (.refl _) (.cons (.refl _) (.cons (.refl _) (.cons (.refl _) (.cons (.refl _) (.cons (.refl _) (.cons (.refl _) (.cons (Sub.nM _ _ _) .nil)))))))) rfl) (.k (.cons rfl (BlkSub.of (by rw[hall])) (.k (.k .nil)))))) ?_
 refine gt (aJ (DI l hl hli (cU l.bo.length 0) (List.replicate l.jo.length false) (iI _ _) length_replicate hm []) (cG rfl) (fun k z h=>h) rfl rfl) ?_;refine fZ [5,8] [] (fun(kw:List Bool)(out:List Gr)=>[(9,some (bl (cq l kw).isSome))]) (fun kw out=>[(8,some (.box ((cq l kw).getD default).av.cells)),(33,some (oB l out.length)),(23,some (.vec (bv kw))),(27,some (.vec (bv (bX l)))),(31,some (.vec (bv (ji l out)))),(900,some (.row 4 (out.map Gr.av)))]) (fun kw out=>kw.length=l.bo.length/\cJ l (dK kw) kw out=(cg l,cE l)) (fun kw _=>dK kw) (cU l.bo.length 0) ([]) ⟨iI _ _,Qi hli⟩ ?_
 rintro kw out ⟨hk,hf⟩ K2 J2;refine gC (fun t59=>?_) (fun t59=>?_) (st1:=(77777,0)) (st2:=(27,0))
 ·obtain ⟨g, hg⟩:=yx t59;have hgo:=vX hli hg;have hout:=S6 hli hk hf;refine gW (Wk.of (sl:=[(5,some (.ptr 33 0)),(8,some (.ptr 8 0))]) (hp:=[(8,some (.box g.av.cells)),(33,some (oB l out.length)),(23,some (.vec (bv kw))),(27,some (.vec (bv (bX l)))),(31,some (.vec (bv (ji l out)))),(900,some (.row 4 (out.map Gr.av)))]) aR (.cons rfl (BlkSub.of (by rw [hg]; rfl)) (.k (.k (.k (.k (.k .nil))))))) ?_;refine gl ?_;refine aN [5,8,66,67] [8,33,27,31,900] (fun (j:Nat)=>[(68,some (i64 j))]) (fun j=>[(23,some (.vec (bv (bE kw (g.bo.take j)))))]) (fun j=>j <= g.bo.length) (fun j=>g.bo.length - j) 0 (zero_le _) ?_;rintro j hj K3 J3;refine gC (fun t69=>?_) (fun t69=>?_)
  ·have hin:=aT t69;obtain⟨b,hb⟩:=az hin;have hbb:=hgo.b b (mem_of_getElem? hb);have hlb:=hgo.lb;refine gi (ay hb) ?_;refine gs (bP (n:=b.toNat) (.tmp rfl) (.tmp rfl) T218 rfl T4 rfl oz oz rfl) ?_;refine gs (wC (.tmp rfl) rfl (by rw[gx,kf];omega) (.const _) rfl T4 rfl) ?_;refine ga aE ?_;exact aH J3 (j+1) hin (hw:=Wk.of aR (.cons rfl (BlkSub.of (by rw[xi,zV hb])) (.k (.k (.k (.k (.k .nil)))))))
  have hin:=a8 hj t69;subst hin;refine gl ?_;refine aN [5,8,80,81] [8,33,27,900] (fun(q:Nat)=>[(82,some (i64 q))]) (fun q=>[(23,some (.vec (bv (bE kw g.bo)))),(31,some (.vec (bv (bE (ji l out) (g.jo.take q)))))]) (fun q=>q<=g.jo.length) (fun q=>g.jo.length-q) 0 (zero_le _) ?_ (h2:=(.cons rfl (BlkSub.of (by rw[take_length])) (.k .nil)));rintro q hq K4 J4;refine gC (fun t83=>?_) (fun t83=>?_)
  ·have hin:=aT t83;obtain⟨b,hb⟩:=az hin;have hbb:=hgo.j b (mem_of_getElem? hb);have hlj:=hgo.lj;refine gi (ay hb) ?_;refine gs (bP (n:=b.toNat) (.tmp rfl) (.tmp rfl) T218 rfl T4 rfl oz oz rfl) ?_;refine gs (wC (.tmp rfl) rfl (by rw[gx,kf,x9];omega) (.const _) rfl T4 rfl) ?_;refine ga aE ?_;exact aH J4 (q+1) hin (hw:=Wk.of aR (.k (.cons rfl (BlkSub.of (by rw[xi,zV hb])) (.k (.k (.k (.k .nil)))))))
  have hin:=a8 hq t83;subst hin;refine gs (bO (.tmp rfl) rfl (by rw[length_map]) (.tmp rfl) T32 rfl T53 rfl rfl (by simp only[length_cons,length_nil];omega) rfl rfl) ?_;refine gD ?_ (25,0);refine gW (Wk.of (sl:=[(5,some (.ptr 33 0)),(8,some (.ptr 8 0))]) (hp:=[(8,some (.box g.av.cells)),(33,some (.box (l.av.cells++[.ms 23 1 0 l.bo.length,.ms 27 1 0 l.bo.length,.ms 31 1 0 l.jo.length,.ms 100 4 0 (out++[g]).length]))),(100,some (.row 4 ((out++[g]).map Gr.av))),(23,some (.vec (bv (bE kw g.bo)))),(27,some (.vec (bv (bX l)))),(31,some (.vec (bv (ji l (out++[g])))))]) aR (.k (.cons rfl (BlkSub.of (by rw[length_append];rfl)) (.cons rfl (BlkSub.of (by rw[map_append];rfl)) (.k (.k (.cons rfl (BlkSub.of (by rw[Ol,take_length])) .nil))))))) ?_ (25,0)
  refine gW (Wk.rk (k:=100) (d:=900) rfl rfl) ?_ (26,0);refine gW (Wk.o (sl:=[(5,some (.ptr 33 0)),(103,some (g.av))]) (hp:=[(33,some (oB l (out++[g]).length)),(23,some (.vec (bv (bE kw g.bo)))),(27,some (.vec (bv (bX l)))),(31,some (.vec (bv (ji l (out++[g]))))),(900,some (.row 4 ((out++[g]).map Gr.av)))])) ?_;refine gt (aJ (DI l hl hli (bE kw g.bo) (ji l (out++[g])) (by rw[kf];exact hk) (x9 _ _) hm (out++[g])) (cG rfl) (by intro k z h;simp only[mQ,aP]at h;split at h;(subst_vars;exact h);split at h;(subst_vars;exact h);split at h;(subst_vars;exact h);split at h;(subst_vars;exact h);split at h;(subst_vars;exact h);cases h) rfl rfl) ?_;exact fB J2 (bE kw g.bo) (out++[g]) ⟨by rw[kf];exact hk,Se hli hk hf hg⟩ (tR hli hk hg)
 have hg:=Al t59;obtain⟨e1,e2⟩:=Mv hf hg;subst e1 e2;refine gW (Wk.o (sl:=[(5,some (.ptr 33 0))]) (hp:=[(33,some (oB l (cE l).length)),(23,some (.vec (bv (cg l)))),(27,some (.vec (bv (bX l)))),(31,some (.vec (bv (ji l (cE l))))),(900,some (.row 4 ((cE l).map Gr.av)))])) ?_ (27,0);refine gW (Mb l (cg l) (ji l (cE l)) (cE l) hk (x9 _ _) hm) ?_;refine bf ?_;unfold pc;rw[VQ hli,hli];rfl
theorem C3{α:Type}[BEq α][LawfulBEq α]{xs:List α}{b:α}{ok:Nat->Bool}(h:∀i x,xs[i]?=some x->ok i=!(b==x)):decide (0<=mK (df xs.length ok))=xs.contains b:=by
 cases hf:df xs.length ok with
 |some i =>
  obtain⟨h1,h2⟩:=fN hf;obtain⟨x,hx⟩:=az h1;rw[h i x hx]at h2;have:b=x:=by simpa using h2
  subst this;rw[List.contains_iff_mem.2 (mem_of_getElem? hx)];exact decide_eq_true (by show(0:Int)<=(i:Int);omega)
 |none =>
  rw[decide_eq_false (by show ¬(0:Int) <= -1;decide)]
  symm
  rw[<- Bool.not_eq_true,List.contains_iff_mem];intro hm;obtain⟨i,hi⟩:=List.mem_iff_getElem?.1 hm;have hlt:=(List.getElem?_eq_some_iff.1 hi).1;unfold df at hf;rw[List.find?_eq_none]at hf;have:=hf i (List.mem_range.2 hlt);rw[h i b hi]at this;simp at this
theorem OS(xs:List Bool)(b:Bool)(hl:xs.length<=281474976710656):FP 335 [.lst 1 (xs.map bl),bl b] (i64 (mK (df xs.length (fun i=>!(b==xs.getD i false))))):=by
 refine af func335 ?_;refine gl ?_;refine aN [0,1,7] [] (fun(i:Nat)=>[(8,some (i64 i))]) (fun _=>[]) (fun i=>i<=xs.length/\∀j,j<i->(!(b==xs.getD j false))=true) (fun i=>xs.length-i) 0 ⟨zero_le _,fun j h=>by omega⟩ ?_;rintro i ⟨hi,hj⟩ K1 J1;refine gC (fun t9=>?_) (fun t9=>?_)
 ·have hin:=aT t9;obtain⟨x,hx⟩:=az hin;have hg:xs.getD i false=x:=aO hx;refine gi (ay hx) ?_;refine gC (fun t16=>?_) (fun t16=>?_)
  ·have h2:(b==x)=true:=t16;refine ae ?_;rw[iJ hin hj (by rw[hg,h2];rfl)];rfl
  have h2:(b==x)=false:=t16;refine ga aE ?_;exact aH J1 (i+1) ⟨hin,fun j h9=>by rcases lt_or_ge j i with g |g;exact hj j g;(have:j=i:=by omega);subst this;rw[hg,h2];rfl⟩
 have hin:=a8 hi t9;subst hin;refine ae ?_;rw[iQ hj];rfl
theorem CU(xs:List Bool)(b:Bool)(hl:xs.length<=281474976710656):FP 239 [.lst 1 (xs.map bl),bl b] (bl (xs.contains b)):=by
 refine af func239 ?_;refine gc (OS xs b hl) ?_;refine ae ?_;rw[<- C3 (xs:=xs) (b:=b) (ok:=fun i=>!(b==xs.getD i false)) (fun i x hx=>by rw[aO hx])];rfl
theorem VA(xs:List Int)(b:Int)(hl:xs.length<=281474976710656):FP 336 [.lst 1 (xs.map i64),i64 b] (i64 (mK (df xs.length (fun i=>!(b==xs.getD i 0))))):=by
 refine af func336 ?_;refine gl ?_;refine aN [0,1,7] [] (fun(i:Nat)=>[(8,some (i64 i))]) (fun _=>[]) (fun i=>i<=xs.length/\∀j,j<i->(!(b==xs.getD j 0))=true) (fun i=>xs.length-i) 0 ⟨zero_le _,fun j h=>by omega⟩ ?_;rintro i ⟨hi,hj⟩ K1 J1;refine gC (fun t9=>?_) (fun t9=>?_)
 ·have hin:=aT t9;obtain⟨x,hx⟩:=az hin;have hg:xs.getD i 0=x:=aO hx;refine gi (ay hx) ?_;refine gC (fun t16=>?_) (fun t16=>?_)
  ·have h2:(b==x)=true:=t16;refine ae ?_;rw[iJ hin hj (by rw[hg,h2];rfl)];rfl
  have h2:(b==x)=false:=t16;refine ga aE ?_;exact aH J1 (i+1) ⟨hin,fun j h9=>by rcases lt_or_ge j i with g |g;exact hj j g;(have:j=i:=by omega);subst this;rw[hg,h2];rfl⟩
 have hin:=a8 hi t9;subst hin;refine ae ?_;rw[iQ hj];rfl
theorem E6(xs:List Int)(b:Int)(hl:xs.length<=281474976710656):FP 240 [.lst 1 (xs.map i64),i64 b] (bl (xs.contains b)):=by
 refine af func240 ?_;refine gc (VA xs b hl) ?_;refine ae ?_;rw[<- C3 (xs:=xs) (b:=b) (ok:=fun i=>!(b==xs.getD i 0)) (fun i x hx=>by rw[aO hx])];rfl
theorem IF(l:Li)(hl:l.ok):FP 135 [l.av] (.tup [.lst 4 (((if aG l=0 then aK l else[])).map Gr.av),bm (if aG l=0 then cA l else aG l)]):=by
 refine af func135 ?_;refine gc (OM l hl) (hnm:=(by unfold pc;split <;> rfl)) ?_;refine gC (fun t12=>?_) (fun t12=>?_) (st2:=(77777,0))
 ·have h1:=de t12;refine gR ?_;exact bw (by rw[VP h1,VP h1];exact Sub.tup (.cons (.nil _ _ _) (.cons (.refl _) .nil)))
 have hli:=cR t12;have h8:=(dp hli).2.2.2.1;have hj16:l.jo.length<=16:=by have:=(dp hli).2.1;unfold eL at this;split at this;cases this;omega
 have lk1:(cg l).length=l.bo.length:=by unfold cg;rw[qW,iI]
 have lk2:(e8 l).length=l.jo.length:=by unfold e8;rw[qW,length_replicate]
 have e1:pc l=.iptr (dJ l (cg l) (bX l) [.lst 1 ((e8 l).map bl),.lst 4 ((cE l).map Gr.av)]):=by unfold pc;rw[VQ hli]
 have c1:=A8 (k:=cg l);have c2:=A8 (k:=e8 l);refine gW (Wk.of (sl:=[(4,some (.iptr (dJ l (cg l) (bX l) [.lst 1 ((e8 l).map bl),.lst 4 ((cE l).map Gr.av)]))),(5,some (bm (aG l)))]) (hp:=[]) (.cons rfl (Sub.of e1) (.k .nil)) .nil) ?_;refine gc (CU (cg l) false oz) ?_;refine bM (fun _=>(CU (e8 l) false oz)) ?_;refine gC (fun t25=>?_) (fun t25=>?_)
 ·have h2:cA l=7:=by
   unfold cA;rw[VP];intro h;have h3:(cg l).contains false=false:=c1.1 oz;have h4:(e8 l).contains false=false:=c2.1 oz;rw[h3,h4]at t25;cases t25
  refine gR ?_;exact bw (by rw[VQ hli,VQ hli];unfold aK;rw[VP (by rw[h2];simp),h2];exact Sub.tup (.cons (.nil _ _ _) (.cons (.refl _) .nil)))
 have h2:cA l=0:=by
  unfold cA;rw[VQ];cases h3:(cg l).contains false <;> cases h4:(e8 l).contains false <;> rw[h3,h4]at t25 <;> first |(cases t25;done) |(have g1:=c1.2 h3;have g2:=c2.2 h4;omega)
 refine bf ?_;rw[VQ hli,VQ hli,h2];unfold aK;rw[VQ h2];rfl
def SO(ys:List Int)(i:Nat):Prop:=∀p q,p<q->q<i->ys.getD p 0<=ys.getD q 0
def SI(ys:List Int)(i j:Nat):Prop:=∀p q,p<q->q<=i->q≠j->ys.getD p 0<=ys.getD q 0
theorem Vn{xs ys:List Int}{i:Nat}(hp:ys.Perm xs)(hi:ys.length<=i)(h:SO ys i):ys=dW xs:=by
 refine RX hp (List.pairwise_iff_getElem.2 fun p q hp hq hpq=>?_);have h1:=h p q hpq oz;rw[aO (getElem?_eq_getElem hp),aO (getElem?_eq_getElem hq)]at h1;exact h1
theorem Qe{ys:List Int}{i:Nat}(h:SO ys i):SI ys i i:=fun p q h1 h2 h3=>h p q h1 oz
theorem LN{ys:List Int}{i j:Nat}(h:SI ys i j)(hj:j=0\/ys.getD (j-1) 0<=ys.getD j 0):SO ys (i+1):=by
 intro p q h1 h2
 by_cases hq:q=j
 ·subst hq;rcases hj with hj |hj
  ·omega
  ·by_cases hp:p=q-1
   ·subst hp;exact hj
   ·exact Int.le_trans (h p (q-1) oz oz oz) hj
 ·exact h p q h1 oz hq
theorem Fn(ys:List Int)(i:Nat)(x:Int)(p:Nat)(hi:i<ys.length):(ys.set i x).getD p 0=if p=i then x else ys.getD p 0:=by
 rw[getD_eq_getElem?_getD,getD_eq_getElem?_getD,List.getElem?_set]
 by_cases h:i=p
 ·subst h;simp[hi]
 ·rw[VP h,VP (fun e=>h e.symm)]
theorem Lu{ys:List Int}{i j:Nat}(h:SI ys i j)(hj:0<j)(hi:j<=i)(hl:i<ys.length)(hlt:ys.getD j 0<ys.getD (j-1) 0):SI ((ys.set j (ys.getD (j-1) 0)).set (j-1) (ys.getD j 0)) i (j-1):=by
 intro p q h1 h2 h3
 have e:∀r,((ys.set j (ys.getD (j-1) 0)).set (j-1) (ys.getD j 0)).getD r 0=if r=j-1 then ys.getD j 0 else if r=j then ys.getD (j-1) 0 else ys.getD r 0:=fun r=>by
  rw[Fn _ _ _ _ (by rw[length_set];omega),Fn _ _ _ _ oz]
 rw[e,e,VP h3]
 by_cases hq:q=j
 ·rw[VQ hq]
  by_cases hp:p=j-1
  ·rw[VQ hp];omega
  ·rw[VP hp,VP oz];exact h p (j-1) oz oz oz
 ·rw[VP hq]
  by_cases hp:p=j-1
  ·rw[VQ hp];exact h j q oz h2 hq
  ·rw[VP hp]
   by_cases hp2:p=j
   ·rw[VQ hp2];exact h (j-1) q oz h2 hq
   ·rw[VP hp2];exact h p q h1 h2 hq
theorem TC{ys:List Int}{j:Nat}{a b:Int}(ha:ys[j]?=some a)(hb:ys[j-1]?=some b):((ys.set j b).set (j-1) a).Perm ys:=by
 obtain⟨h1,rfl⟩:=List.getElem?_eq_some_iff.1 ha;obtain⟨h2,rfl⟩:=List.getElem?_eq_some_iff.1 hb;exact List.set_set_perm h1 h2
theorem LF{j:Nat}{a b:Int}(h:cond (aa .gtr (j:Int) 0) (decide (a<b)) false=true):0<j/\a<b:=by
 cases h1:aa .gtr (j:Int) 0 <;> rw[h1]at h
 ·cases h
 ·exact⟨jb (b:=0) h1,of_decide_eq_true h⟩
theorem KU{j:Nat}{a b:Int}(h:cond (aa .gtr (j:Int) 0) (decide (a<b)) false=false):j=0\/b<=a:=by
 cases h1:aa .gtr (j:Int) 0 <;> rw[h1]at h
 ·have:=gp (b:=0) h1;omega
 ·have h2:decide (a<b)=false:=h;have:=of_decide_eq_false h2;omega
theorem SX(ys:List Int)(j:Nat)(a b:Int):((ys.map i64).set j (i64 b)).set (j-1) (i64 a)=((ys.set j b).set (j-1) a).map i64:=by rw[map_set,map_set]
theorem HD(a:Int):FP 387 [i64 a] (bl false):=by
 refine af func387 ?_;refine ae ?_;simp[aa];rfl
theorem N9(a b:Int):FP 343 [i64 a,i64 b] (bl (decide (a<b))):=by
 refine af func343 ?_;refine gc (HD a) ?_;refine bM (fun _=>(HD b)) ?_;refine ae ?_
 first |rfl |(simp;done)
theorem Lr(xs:List Int)(hl:xs.length<=12):Con prog 337 [.ms 1000 1 0 xs.length,i64 0,i64 xs.length] [(1000,some (.row 1 (xs.map i64)))] (.tup []) [(1000,some (.row 1 ((dW xs).map i64)))]:=by
 refine gF func337 (fun k z h=>bB h) ?_;refine ga (show _=((1:Nat):Int)from rfl) ?_;refine fZ [1,2] [] (fun(ys:List Int)(i:Nat)=>[(0,some (.ms 1000 1 0 xs.length)),(6,some (i64 i))]) (fun ys _=>[(1000,some (.row 1 (ys.map i64)))]) (fun ys i=>ys.length=xs.length/\ys.Perm xs/\1<=i/\SO ys i) (fun _ i=>xs.length+1-i) xs 1 ⟨rfl,.refl _,le_refl _,fun p q h1 h2=>by omega⟩ ?_;rintro ys i ⟨hyl,hyp,hi1,hso⟩ K1 J1;refine gC (fun t12=>?_) (fun t12=>?_)
 ·have hin:=aT t12;refine fZ [1,2,6] [] (fun (zs:List Int) (j:Nat)=>[(0,some (.ms 1000 1 0 xs.length)),(7,some (i64 j))]) (fun zs _=>[(1000,some (.row 1 (zs.map i64)))]) (fun zs j=>zs.length = xs.length /\ zs.Perm xs /\ j <= i /\ SI zs i j) (fun _ j=>j) ys i ⟨hyl,hyp,le_refl _,Qe hso⟩ ?_;rintro zs j ⟨hzl,hzp,hji,hsi⟩ K2 J2;obtain ⟨a,ha⟩:=az (show j < zs.length by omega);obtain ⟨b,hb⟩:=az (show j - 1 < zs.length by omega);refine gs (ez rfl rfl rfl (fun h=>bP (n:=j) (.opt rfl (o1 h)) (.opt rfl (o1 h)) T39 rfl T3 rfl oz oz rfl)) ?_;refine gs (ez rfl rfl rfl (fun h=>dR (.opt rfl (o1 h)) rfl (ay ha) T3 rfl rfl rfl)) ?_;refine l7 (fun h=>(ja (jb (b:=0) h) (by unfold aY; omega))) ?_;refine gs (ez rfl rfl rfl (fun h=>bP (n:=(j - 1)) (.opt rfl (o1 h)) (.opt rfl (o1 h)) T39 rfl T3 rfl oz oz rfl)) ?_;refine gs (ez rfl rfl rfl (fun h=>dR (.opt rfl (o1 h)) rfl (ay hb) T3 rfl rfl rfl)) ?_;refine bM (fun _=>(N9 a b)) ?_;refine gD ?_;refine gC (fun t30=>?_) (fun t30=>?_)
  ·obtain⟨hj0,hab⟩:=LF t30;refine ga (ja hj0 (by unfold aY;omega)) ?_;refine ga (ja hj0 (by unfold aY;omega)) ?_;refine gs (bP (n:=(j-1)) (.tmp rfl) (.tmp rfl) T39 rfl T3 rfl oz oz rfl) ?_;refine gs (dR (.tmp rfl) rfl (ay hb) T3 rfl rfl rfl) ?_;refine gs (bP (n:=j) (.tmp rfl) (.tmp rfl) T39 rfl T3 rfl oz oz rfl) ?_;refine gs (dR (.tmp rfl) rfl (ay ha) T3 rfl rfl rfl) ?_;refine gs (bP (n:=j) (.tmp rfl) (.tmp rfl) T39 rfl T3 rfl oz oz rfl) ?_;refine gs (cO (.tmp rfl) rfl (ay ha) rfl (.tmp rfl) rfl rfl T3 rfl rfl) ?_;refine gs (bP (n:=(j-1)) (.tmp rfl) (.tmp rfl) T39 rfl T3 rfl oz oz rfl) ?_;refine gs (cO (.tmp rfl) rfl ((List.getElem?_set_ne oz).trans (ay hb)) rfl (.tmp rfl) rfl rfl T3 rfl rfl) ?_;refine gD ?_;refine ga (ja hj0 (by unfold aY;omega)) ?_;exact fB J2 ((zs.set j b).set (j-1) a) (j-1) ⟨by rw[length_set,length_set];exact hzl,(TC ha hb).trans hzp,by omega,by have h9:=Lu hsi hj0 hji oz (by rw[aO ha,aO hb];exact hab);rw[aO ha,aO hb]at h9;exact h9⟩ (hw:=Wk.of aR (.cons rfl (BlkSub.of (congrArg (Blk.row 1) (SX zs j a b))) .nil))
  have hs:=KU t30;refine ga aE ?_;exact fB J1 zs (i+1) ⟨hzl,hzp,by omega,LN hsi (by rw[aO ha,aO hb];exact hs)⟩
 have hin:=rO t12;refine gR ?_;exact aA.own2 rfl (by rw[<- Vn hyp oz hso]) rfl
theorem Nx(xs:List Int)(hl:xs.length<=12)(m:Int):Con prog 241 [.ms 1000 1 0 xs.length,i64 0,i64 xs.length,i64 m] [(1000,some (.row 1 (xs.map i64)))] (.tup []) [(1000,some (.row 1 ((dW xs).map i64)))]:=by
 refine gF func241 (fun k z h=>bB h) ?_;refine So [1,2,3,8,9] [1000] [(0,some (.ms 1000 1 0 xs.length))] [] (True) (0) trivial ?_;rintro-K1 J1;refine ga (dq oz) ?_;refine gC (fun t23=>?_) (fun t23=>?_) (st2:=(77777,0))
 ·refine gt (aJ (Lr xs hl) (aL rfl rfl rfl) aM rfl rfl) ?_;refine gR ?_;exact aA.own2 rfl rfl rfl
 (rw[show aa .leq ((xs.length:Int)-0) 12=true from decide_eq_true oz]at t23;cases t23)
theorem UE(x:Nat)(hx:x<256):FP 347 [u64 x] (i64 (a7 x)):=by
 refine af func347 ?_;refine gC (fun t4=>?_) (fun t4=>?_) (st1:=(2,0))
 ·(have:=t4;simp[aa]at this;omega)
 refine gC (fun t8=>?_) (fun t8=>?_) (st1:=(5,0))
 ·(have:=t8;simp[aa]at this;omega)
 refine gC (fun t14=>?_) (fun t14=>?_) (st1:=(8,0))
 ·(have:=t14;simp[aa]at this;omega)
 refine gv (jl hx) ?_;refine gs (tu (y:=x) (.const _) (.tmp rfl) T9 rfl (by kernel_rfl) (by first |rfl |omega) oz rfl) ?_;refine gv (i64_in (by have:=iL hx;omega)) ?_;refine ga (cV (by have:=iL hx;omega)) ?_;refine ae ?_;simp only[i64];congr 2;omega
theorem QB(x:Nat)(hx:x<256):FP 242 [u64 x] (i64 (a7 x)):=by
 refine af func242 ?_;refine gC (fun hcfalse=>?_) (fun hcfalse=>?_) (st1:=(1,0));cases hcfalse;refine gc (UE x hx) ?_;refine ae ?_
 first |rfl |(simp;done)
theorem UC(xs:List Int)(hl:xs.length<=12):Con prog 137 [.ms 1000 1 0 xs.length] [(1000,some (.row 1 (xs.map i64)))] (.tup []) [(1000,some (.row 1 ((dW xs).map i64)))]:=by
 refine gF func137 (fun k z h=>bB h) ?_;refine gv (show IntKind.u64.wrap _=((xs.length:Nat):Int)from u64_in oz) ?_;refine gc (QB xs.length oz) ?_;refine gt (aJ (Nx xs hl _) (.cons (.tmp rfl) (.cons (.const _) (bA rfl rfl))) aM rfl rfl) ?_;refine gR ?_;exact aA.own2 rfl rfl rfl
theorem OJ{l:Li}{g:Gr}{i:Nat}{z:Int}{j:Jt}(hz:g.jo[i]?=some z)(hj:l.jo[z.toNat]?=some j):(cw l g)[i]?=some (iu g j):=by
 unfold cw;rw[getElem?_map,hz,Option.map_some,aO hj]
theorem wj{l:Li}{g:Gr}{i:Nat}{z:Int}{j:Jt}{a:Int}(hz:g.jo[i]?=some z)(hj:l.jo[z.toNat]?=some j)(ha:iu g j=a):((cw l g).take i).map i64++[i64 a]=((cw l g).take (i+1)).map i64:=by
 rw[cD (OJ hz hj),ha,map_append];rfl
theorem Hv{z:Int}{n:Nat}(h0:0<=z)(h1:z<n):cond (aa .lss z 0) true (aa .geq z (n:Int))=false:=by
 rw[show aa .lss z 0=false from decide_eq_false oz];exact decide_eq_false oz
theorem P7(l:Li)(hl:l.ok)(hli:aG l=0)(g:Gr)(hg:GrOk l g):Con prog 136 [l.av,g.av] [] (.tup [.ms 900 1 0 g.jo.length,.v .nilIface]) [(900,some (.row 1 ((cw l g).map i64)))]:=by
 have hlb:=hg.lb;have hlj:=hg.lj;refine gF func136 (fun k z h=>by cases h) ?_;refine gc (Cg l hl) ?_;refine gC (fun t16=>?_) (fun t16=>?_) (st1:=(3,0))
 ·(rw[hli]at t16;cases t16)
 refine gl ?_;refine gW ((Wk.virt 900 1 rfl).trans<|Wk.of (sl:=[(2,some (.ptr 2 0)),(3,some (.ptr 3 0)),(7,some (.ms 900 1 0 0)),(19,some (.lst 1 (g.jo.map i64))),(20,some (i64 g.jo.length)),(21,some (i64 0))]) (hp:=[(2,some (.box l.av.cells)),(3,some (.box g.av.cells)),(900,some (.row 1 []))]) (.k (.k (.cons rfl (Sub.nM _ _ _) (.k (.k (.k .nil)))))) (.k (.k (.k .nil)))) ?_;refine aN [2,3,19,20] [2,3] (fun(i:Nat)=>[(7,some (.ms 900 1 0 i)),(21,some (i64 i))]) (fun i=>[(900,some (.row 1 (((cw l g).take i).map i64)))]) (fun i=>i<=g.jo.length) (fun i=>g.jo.length-i) 0 (zero_le _) ?_;rintro i hi K1 J1;refine gC (fun t22=>?_) (fun t22=>?_) (st2:=(18,0))
 ·have hin:=aT t22;obtain ⟨z,hz⟩:=az hin;obtain ⟨z0,z1⟩:=hg.j z (mem_of_getElem? hz);obtain ⟨j,hj⟩:∃ j,l.jo[z.toNat]? = some j:=az oz;have hlt:(((cw l g).take i).map i64).length = i:=by rw [length_map,length_take,kN]; omega
  refine gi (ay hz) ?_;refine bS ?_;refine gC (fun t33=>?_) (fun t33=>?_) (st1:=(9,0))
  ·(rw[Hv z0 z1]at t33;cases t33)
  refine gi (dg (n:=z.toNat) oz hj) ?_;refine gc (E6 g.bo j.a oz) ?_;refine gc (E6 g.bo j.b oz) ?_;refine gD ?_;refine gC (fun t55=>?_) (fun t55=>?_)
  ·have ha : iu g j = -1 := by unfold iu; cases h1 : g.bo.contains j.a <;> cases h2 : g.bo.contains j.b <;> rw [h1, h2] at t55 <;> first | (cases t55; done) | rfl
   refine gs (bO (.tmp rfl) rfl hlt.symm (.tmp rfl) T39 rfl T3 rfl rfl (by simp only[length_cons,length_nil];omega) rfl rfl) ?_ (17,0);refine gW (Wk.of (sl:=[(2,some (.ptr 2 0)),(3,some (.ptr 3 0)),(7,some (.ms 62 1 0 (i+1))),(19,some (.lst 1 (g.jo.map i64))),(20,some (i64 g.jo.length)),(21,some (i64 i))]) (hp:=[(2,some (.box l.av.cells)),(3,some (.box g.av.cells)),(62,some (.row 1 (((cw l g).take (i+1)).map i64)))]) aR (.k (.k (.cons rfl (BlkSub.of (congrArg (Blk.row 1) (wj hz hj ha))) .nil)))) ?_ (17,0);refine gW (Wk.rk (k:=62) (d:=900) rfl rfl) ?_;refine ga aE ?_;exact aH J1 (i+1) hin
  refine gC (fun t63=>?_) (fun t63=>?_)
  ·have ha : iu g j = j.b := by unfold iu; cases h1 : g.bo.contains j.a <;> cases h2 : g.bo.contains j.b <;> rw [h1] at t63 <;> rw [h1, h2] at t55 <;> first | (cases t55; done) | (cases t63; done) | rfl
   refine gs (bO (.tmp rfl) rfl hlt.symm (.tmp rfl) T39 rfl T3 rfl rfl (by simp only[length_cons,length_nil];omega) rfl rfl) ?_ (17,0);refine gW (Wk.of (sl:=[(2,some (.ptr 2 0)),(3,some (.ptr 3 0)),(7,some (.ms 69 1 0 (i+1))),(19,some (.lst 1 (g.jo.map i64))),(20,some (i64 g.jo.length)),(21,some (i64 i))]) (hp:=[(2,some (.box l.av.cells)),(3,some (.box g.av.cells)),(69,some (.row 1 (((cw l g).take (i+1)).map i64)))]) aR (.k (.k (.cons rfl (BlkSub.of (congrArg (Blk.row 1) (wj hz hj ha))) .nil)))) ?_ (17,0);refine gW (Wk.rk (k:=69) (d:=900) rfl rfl) ?_;refine ga aE ?_;exact aH J1 (i+1) hin
  have ha:iu g j=j.a:=by unfold iu;rw[VP (by rw[show g.bo.contains j.a=false from t63];simp)]
  refine gs (bO (.tmp rfl) rfl hlt.symm (.tmp rfl) T39 rfl T3 rfl rfl (by simp only[length_cons,length_nil];omega) rfl rfl) ?_ (17,0);refine gW (Wk.of (sl:=[(2,some (.ptr 2 0)),(3,some (.ptr 3 0)),(7,some (.ms 54 1 0 (i+1))),(19,some (.lst 1 (g.jo.map i64))),(20,some (i64 g.jo.length)),(21,some (i64 i))]) (hp:=[(2,some (.box l.av.cells)),(3,some (.box g.av.cells)),(54,some (.row 1 (((cw l g).take (i+1)).map i64)))]) aR (.k (.k (.cons rfl (BlkSub.of (congrArg (Blk.row 1) (wj hz hj ha))) .nil)))) ?_ (17,0);refine gW (Wk.rk (k:=54) (d:=900) rfl rfl) ?_;refine ga aE ?_;exact aH J1 (i+1) hin
 have hin:=a8 hi t22;subst hin;refine gW (Wk.of (sl:=[(7,some (.ms 900 1 0 g.jo.length))]) (hp:=[(900,some (.row 1 ((cw l g).map i64)))]) aR (.cons rfl (BlkSub.of (by rw[take_of_length_le (by rw[kN];exact le_refl _)])) .nil)) ?_;refine gR ?_;exact aA.keep (bi rfl)
theorem Ov{b:List Rt}{rs:List (List Rt)}{e:Nat}(hb:NR b e)(hn:bQ rs.length b=0)(h5:rs.length<=5):Nm rs.length e (lq b):=⟨h5,(hb.num hn).2,hb.cb⟩
theorem PZ(x y:Rt)(hx:x.ok)(hy:y.ok)(qx:Qs x.q)(qy:Qs y.q):FP 54 [x.av,y.av] (ao (sh 0 (x.q:Rat)) (sh 0 (y.q:Rat))):=by
 refine af func54 ?_;refine gc (zY x hx qx) ?_;refine gc (zY y hy qy) ?_;refine gD ?_;refine ae ?_
 first |rfl |(simp;done)
theorem L7(rs:List (List Rt))(r e:Nat)(h:TR rs r)(xs:List (List Rt))(hx:∀a∈xs,NR a e)(he:e<=lm rs.length)(hl:xs.length<=1000):FP 177 [cf rs,.lst 1 (xs.map nR)] (bm (aZ rs xs)):=by
 refine af func177 ?_;refine gc (oT rs r h) ?_;refine gC (fun t13=>?_) (fun t13=>?_)
 ·have h1:=de t13;refine ae ?_;rw[vc h1]
 have h1:=cR t13;refine gl ?_;refine aN [2,15,16] [2] (fun(i:Nat)=>[(17,some (i64 i))]) (fun _=>[]) (fun i=>i<=xs.length/\∀x∈xs.take i,bQ rs.length x=0) (fun i=>xs.length-i) 0 ⟨zero_le _,fun x hx=>by simp at hx⟩ ?_;rintro i ⟨hi,hj⟩ K1 J1;refine gC (fun t18=>?_) (fun t18=>?_)
 ·have hin : i < xs.length := by simpa [aa] using t18
  obtain⟨a,ha⟩:=az hin;have hok:=hx a (mem_of_getElem? ha);have hone:aZ rs [a]=bQ rs.length a:=xK h1;refine gi (ay ha) ?_;refine gc (Ac rs r h a e hok he) ?_;refine gC (fun t28=>?_) (fun t28=>?_)
  ·have h2:=de t28;refine ae ?_;rw[hone]at h2 ⊢;rw[rZ h1 ha hj h2]
  have h2:=cR t28;rw[hone]at h2;refine ga aE ?_;exact aH J1 (i+1) ⟨hin,fun x hx=>by rw[cD ha]at hx;rcases List.mem_append.1 hx with h9 |h9;exact hj x h9;(rw[List.mem_singleton.1 h9];exact h2)⟩
 have hin:i=xs.length:=by have:xs.length<=i:=(by simpa[aa]using t18);omega
 subst hin;rw[take_length]at hj;refine ae ?_;rw[o6 h1 hj];rfl
def Ba(rs:List (List Rt))(b:Pl)(x y:Rt):List Rat:=sh (llq rs).length (r4 (llq rs) (ad (llq rs).length (lq b.c)) (ad (llq rs).length (lq b.s)) (ad (llq rs).length (lq b.x)) x.q y.q)
def zf(rs:List (List Rt))(b:Pl)(x y:Rt):List Rat:=sh (llq rs).length (sF (llq rs) (ad (llq rs).length (lq b.c)) (ad (llq rs).length (lq b.s)) (ad (llq rs).length (lq b.y)) x.q y.q)
theorem zw(rs:List (List Rt)):(llq rs).length=rs.length:=by simp[llq]
structure PlN(rs:List (List Rt))(b:Pl)(e:Nat):Prop where
  c:Nm (llq rs).length e (lq b.c)
  s:Nm (llq rs).length e (lq b.s)
  x:Nm (llq rs).length e (lq b.x)
  y:Nm (llq rs).length e (lq b.y)
  av:b.av=.agg [nA (lq b.c),nA (lq b.s),nA (lq b.x),nA (lq b.y)]
theorem Tp{rs:List (List Rt)}{b:Pl}{e r:Nat}(h:TR rs r)(hb:∀x∈b.l,NR x e)(hc:aZ rs b.l=0):PlN rs b e:=by
 obtain⟨h1,h2⟩:=iX hc;obtain⟨tw,_⟩:=bN h h1;have h5:rs.length<=5:=by have:=tw.five;rwa [zw]at this
 have k:∀x∈b.l,Nm (llq rs).length e (lq x)/\nR x=nA (lq x):=fun x hx=>by
  rw[zw];exact⟨Ov (hb x hx) (h2 x hx) h5,((hb x hx).num (h2 x hx)).1⟩
 have k1:=k b.c (by simp[Pl.l]);have k2:=k b.s (by simp[Pl.l]);have k3:=k b.x (by simp[Pl.l]);have k4:=k b.y (by simp[Pl.l]);exact⟨k1.1,k2.1,k3.1,k4.1,by unfold Pl.av;rw[k1.2,k2.2,k3.2,k4.2]⟩
theorem Mi(rs:List (List Rt))(r e:Nat)(h:TR rs r)(h1:bc rs=0)(b:Pl)(hb:∀x∈b.l,NR x e)(x y:Rt)(hx:x.ok)(hy:y.ok)(qx:Qb e x.q)(qy:Qb e y.q)(he:8*e+4*kB r rs.length+4<=lm rs.length) :
  FP 86 [cf rs,b.av,x.av,y.av] (.tup [ao (if aZ rs b.l=0 then Ba rs b x y else[]) (if aZ rs b.l=0 then zf rs b x y else[]),bm (aZ rs b.l)]):=by
 have hlm:=fg rs.length;have hbl:[b.c,b.s,b.x,b.y]=b.l:=rfl;refine af func86 ?_;refine gc (L7 rs r e h b.l hb oz (by simp[Pl.l])) ?_;refine gC (fun t25=>?_) (fun t25=>?_)
 ·have h2:=de t25;refine gR ?_;exact bw (by rw[VP h2,VP h2];exact Sub.tup (.cons (Sub.agg (.cons (.nil _ _ _) (.cons (.nil _ _ _) .nil)) rfl) (.cons (.refl _) .nil)))
 have h2:=cR t25;obtain⟨tw,etw⟩:=bN h h1;have pn:=Tp h hb h2;have ec:nR b.c=nA (lq b.c):=by have:=pn.av;unfold Pl.av at this;simp only[AV.agg.injEq,List.cons.injEq]at this;exact this.1
 have es:nR b.s=nA (lq b.s):=by have:=pn.av;unfold Pl.av at this;simp only[AV.agg.injEq,List.cons.injEq]at this;exact this.2.1
 have ex:nR b.x=nA (lq b.x):=by have:=pn.av;unfold Pl.av at this;simp only[AV.agg.injEq,List.cons.injEq]at this;exact this.2.2.1
 have ey:nR b.y=nA (lq b.y):=by have:=pn.av;unfold Pl.av at this;simp only[AV.agg.injEq,List.cons.injEq]at this;exact this.2.2.2.1
 have etl:(AV.lst 1 (rs.map nR))=.lst 1 ((llq rs).map nA):=gY etw;rw[ec,es,ex,ey,etl];rw[<- zw rs]at he;have nx:=Nm.ofQ pn.c.five (Cb.one qx);have ny:=Nm.ofQ pn.c.five (Cb.one qy);have nX:=qU tw pn.c pn.s nx ny;have nY:=pj tw pn.c pn.s nx ny;have z1:e<=2*(e+e+kB r (llq rs).length)+1:=by omega
 have z2:2*(2*(e+e+kB r (llq rs).length)+1)<=lm (llq rs).length:=zp he;have hadd:=I6 tw nX nY (pn.x.mono z1) (pn.y.mono z1) z2;have hlm2:=fg (llq rs).length;refine gc (PZ x y hx hy (qx.qs oz) (qy.qs oz)) ?_;refine gc (zI tw pn.c pn.s nx ny oz) ?_;refine gD ?_;refine gC (fun t41=>?_) (fun t41=>?_) (st1:=(6,0));cases t41;refine gc hadd ?_;refine bf ?_;rw[VQ h2,VQ h2,h2,vz,wU];rfl
section
variable{ts:LL}{u k:Nat}{a b a2 b2:List Rat}{x y x2 y2:Et ts}{w v w' v' w2 v2 w3 v3:Nat}
theorem oh(c:Ct ts u k)(h:w+v+(w'+v')<=10000):w*u+v*k+(w'*u+v'*k)+1<=lm ts.length:=by
 have h1:=yj c (w:=w+w') (v:=v+v') (m:=10000) oz;have h2:=ju ts.length;rw[wT];omega
theorem ON(c:Ct ts u k)(h:w+v<=10000):w*u+v*k<=lm ts.length:=Pu c h
theorem tp(c:Ct ts u k){R:Nat}(h:eB R ts.length<=k):2*(2500*1000000+2500*1000000+kB R ts.length)<=lm ts.length:=by
 have h1:=c.kk h;have h2:=ju ts.length;omega
theorem MC [c : Ct ts u k] [ha : Zl ts u k a x w v] [hb : Zl ts u k b y w' v'] (h : w + v + (w' + v') <= 10000 := by decide) : FP 329 [an ts, nA a, nA b] (.tup [nA (sX (x + y)), .v .nilIface]) := by
 obtain⟨R,tw,hk⟩:=c.ex;have h0:=oh c h;have h1:=yE tw ha.nm hb.nm oz;rw[ha.eq,hb.eq]at h1;exact h1
theorem Cw [c : Ct ts u k] [ha : Zl ts u k a x w v] [hb : Zl ts u k b y w' v'] (h : w + v + (w' + v') <= 10000 := by decide) : FP 163 [an ts, nA a, nA b] (.tup [nA (sX (x - y)), .v .nilIface]) := by
 obtain⟨R,tw,hk⟩:=c.ex;have h0:=oh c h;have h1:=oK tw ha.nm hb.nm oz;rw[ha.eq,hb.eq]at h1;exact h1
theorem EI [c : Ct ts u k] [ha : Zl ts u k a x w v] [hb : Zl ts u k b y w' v'] (h : w + v + (w' + v') <= 10000 := by decide) : FP 164 [an ts, nA a, nA b] (.tup [nA (sX (x * y)), .v .nilIface]) := by
 obtain⟨R,tw,hk⟩:=c.ex;have h0:=oh c h;have h1:=yV tw ha.nm hb.nm oz;rw[ha.eq,hb.eq]at h1;exact h1
theorem At [c : Ct ts u k] [ha : Zl ts u k a x w v] [hb : Zl ts u k b y w' v'] (h : w + v + (w' + v') <= 10000 := by decide) : FP 84 [an ts, nA a, nA b] (nA (sX (x + y))) := by
 obtain⟨R,tw,hk⟩:=c.ex;have h0:=oh c h;have h1:=r7 tw ha.nm hb.nm oz;rw[ha.eq,hb.eq]at h1;exact h1
theorem tZ [c : Ct ts u k] [ha : Zl ts u k a x w v] [hb : Zl ts u k b y w' v'] (h : w + v + (w' + v') <= 10000 := by decide) : FP 276 [an ts, nA a, nA b] (nA (sX (x - y))) := by
 obtain⟨R,tw,hk⟩:=c.ex;have h0:=oh c h;have h1:=qT tw ha.nm hb.nm oz;rw[ha.eq,hb.eq]at h1;exact h1
theorem nI [c : Ct ts u k] [ha : Zl ts u k a x w v] [hb : Zl ts u k b y w' v'] (h : w + v + (w' + v') <= 10000 := by decide) : FP 29 [an ts, nA a, nA b] (nA (sX (x * y))) := by
 obtain⟨R,tw,hk⟩:=c.ex;have h0:=oh c h;have h1:=jT tw ha.nm hb.nm oz;rw[ha.eq,hb.eq]at h1;exact h1
theorem Mc [c : Ct ts u k] [ha : Zl ts u k a x w v] [hb : Zl ts u k b y w' v'] (h : w + v + (w' + v') <= 10000 := by decide) : FP 23 [an ts, nA a, nA b] (bl (Aj x y)) := by
 obtain⟨R,tw,hk⟩:=c.ex;have h0:=oh c h;have h1:=nC tw ha.nm hb.nm oz;rw[ha.eq,hb.eq]at h1;exact h1
theorem jA [c : Ct ts u k] [ha : Zl ts u k a x w v] (h : w + v <= 10000 := by decide) : FP 28 [an ts, nA a] (i64 (ak x)) := by
 obtain⟨R,tw,hk⟩:=c.ex;have h0:=ON c h;have h1:=Q4 tw ha.nm oz;rw[ha.eq]at h1;exact h1
theorem nD [c : Ct ts u k] [ha : Zl ts u k a x w v] [hb : Zl ts u k b y w' v'] [ha2 : Zl ts u k a2 x2 w2 v2] [hb2 : Zl ts u k b2 y2 w3 v3] (h : w + v + (w' + v') + (w2 + v2 + (w3 + v3)) <= 2500 := by decide) :
  FP 168 [an ts,ao a b,ao a2 b2] (ao (sX (x-x2)) (sX (y-y2))):=by
 obtain⟨R,tw,hk⟩:=c.ex;have h0:=tp c hk;have h1:=tU (e:=2500*1000000) tw (ha.up c oz) (hb.up c oz) (ha2.up c oz) (hb2.up c oz) oz;rw[ha.eq,hb.eq,ha2.eq,hb2.eq]at h1;exact h1
theorem wz [c : Ct ts u k] [ha : Zl ts u k a x w v] [hb : Zl ts u k b y w' v'] [ha2 : Zl ts u k a2 x2 w2 v2] [hb2 : Zl ts u k b2 y2 w3 v3] (h : w + v + (w' + v') + (w2 + v2 + (w3 + v3)) <= 2500 := by decide) :
  FP 24 [an ts,ao a b,ao a2 b2] (nA (sX (dotE x y x2 y2))):=by
 obtain⟨R,tw,hk⟩:=c.ex;have h0:=tp c hk;have h1:=Bm (e:=2500*1000000) tw (ha.up c oz) (hb.up c oz) (ha2.up c oz) (hb2.up c oz) oz;rw[ha.eq,hb.eq,ha2.eq,hb2.eq]at h1;exact h1
theorem DJ [c : Ct ts u k] [ha : Zl ts u k a x w v] [hb : Zl ts u k b y w' v'] [ha2 : Zl ts u k a2 x2 w2 v2] [hb2 : Zl ts u k b2 y2 w3 v3] (h : w + v + (w' + v') + (w2 + v2 + (w3 + v3)) <= 2500 := by decide) :
  FP 167 [an ts,ao a b,ao a2 b2] (nA (sX (crsE x y x2 y2))):=by
 obtain⟨R,tw,hk⟩:=c.ex;have h0:=tp c hk;have h1:=Gs (e:=2500*1000000) tw (ha.up c oz) (hb.up c oz) (ha2.up c oz) (hb2.up c oz) oz;rw[ha.eq,hb.eq,ha2.eq,hb2.eq]at h1;exact h1
theorem O5 [c : Ct ts u k] [ha : Zl ts u k a x w v] [hb : Zl ts u k b y w' v'] [ha2 : Zl ts u k a2 x2 w2 v2] [hb2 : Zl ts u k b2 y2 w3 v3] (h : w + v + (w' + v') + (w2 + v2 + (w3 + v3)) <= 2500 := by decide) :
  FP 77 [an ts,ao a b,ao a2 b2] (.tup [nA (sX (dotE x y x2 y2)),.v .nilIface]):=by
 obtain⟨R,tw,hk⟩:=c.ex;have h0:=tp c hk;have h1:=yA (e:=2500*1000000) tw (ha.up c oz) (hb.up c oz) (ha2.up c oz) (hb2.up c oz) oz;rw[ha.eq,hb.eq,ha2.eq,hb2.eq]at h1;exact h1
def atXE(c s X:Et ts)(p q:Rat):Et ts:=(c*qE p-s*qE q)+X
def atYE(c s Y:Et ts)(p q:Rat):Et ts:=(s*qE p+c*qE q)+Y
instance Zu.atXE[c:Ct ts u k]{x y z:Et ts}{p q:Rat}{w1 v1 w2 v2 w3 v3 w4 w5:Nat}[Zu u k x w1 v1][Zu u k y w2 v2][Zu u k z w3 v3][Qz u p w4][Qz u q w5]:Zu u k (atXE x y z p q) (w1+w4+(w2+w5)+w3) (v1+0+1+(v2+0+1)+1+v3+1) :=
  (inferInstance:Zu u k ((x*Lw.qE p-y*Lw.qE q)+z) _ _)
instance Zu.atYE[c:Ct ts u k]{x y z:Et ts}{p q:Rat}{w1 v1 w2 v2 w3 v3 w4 w5:Nat}[Zu u k x w1 v1][Zu u k y w2 v2][Zu u k z w3 v3][Qz u p w4][Qz u q w5]:Zu u k (atYE x y z p q) (w2+w4+(w1+w5)+w3) (v2+0+1+(v1+0+1)+1+v3+1) :=
  (inferInstance:Zu u k ((y*Lw.qE p+x*Lw.qE q)+z) _ _)
end
abbrev QN(l:Li)(g:Gr)(a:As):List AV:=[.v (.string l.name),.lst 2 (l.bo.map Bd.av),.lst 7 (l.jo.map Jt.av),.lst 2 (l.dv.map Dr.av),i64 g.kind,.lst 1 (g.bo.map i64),.lst 1 (g.jo.map i64),i64 g.driver,
  .lst 1 (a.rs.map nR),.lst 4 (a.bs.map Pl.av),.lst 1 (a.ms.map i64),.v .nilIface]
abbrev cC(l:Li)(g:Gr)(a:As):Blk:=.box (QN l g a)
def p9(e:Nat):AV:=if e=0 then .ptr 900 0 else .v (.pointer none)
def CJ(e:Nat)(l:Li)(g:Gr)(a:As):Hp:=if e=0 then[(900,some (cC l g a))]else[]
theorem lr{e:Nat}(h:e≠0):p9 e=.v (.pointer none):=VP h
theorem qY{e:Nat}{l:Li}{g:Gr}{a:As}(h:e≠0):CJ e l g a=[]:=VP h
theorem GV(l:Li)(g:Gr):bZ l g true=cw l g++g.bo:=rfl
theorem Gm(l:Li)(g:Gr):bZ l g false=cw l g:=by unfold bZ;simp
theorem UW{rs:List (List Rt)}{b:Pl}{i:Nat}{x:List Rt}(h:bc rs=0)(hx:b.l[i]?=some x)(hb:∀y∈b.l.take i,bQ rs.length y=0)(hn:bQ rs.length x≠0):aZ rs b.l=bQ rs.length x:=rZ h hx hb hn
theorem SF{l:Li}{g:Gr}{a:As}{own:Bool}{j:Nat}{b:Int}(hb:(dW (bZ l g own))[j]?=some b)(hj:∀c∈(dW (bZ l g own)).take j,eT a c=0)(hn:eT a b≠0):dh ((dW (bZ l g own)).map (eT a))=eT a b:=by
 have h1:dW (bZ l g own)=(dW (bZ l g own)).take j++b::(dW (bZ l g own)).drop (j+1):=by
  obtain⟨hi,e⟩:=List.getElem?_eq_some_iff.1 hb;rw[<- e,<- List.drop_eq_getElem_cons hi,List.take_append_drop]
 generalize dW (bZ l g own)=xs at *;rw[h1,map_append,sw _ _ (lQ hj),map_cons,yq,VQ hn]
theorem Mf(l:Li)(hl:l.ok)(k:Int)(a:As)(al:AB a)(own:Bool) :
  Con prog 61 [l.av,i64 k,a.av,bl own] [] (.tup [p9 (fe l k a own),bm (fe l k a own)]) (CJ (fe l k a own) l (fI l k) a):=by
 have hbl:=al.bl;refine gF func61 (fun k z h=>by cases h) ?_;refine gc (IF l hl) ?_;refine gC (fun t27=>?_) (fun t27=>?_)
 ·have h1:=de t27;refine gR ?_;rw[Rr rfl h1,lr h1,qY h1];exact lI rfl
 have h1:=cR t27;obtain⟨hli,hsp⟩:=Gh h1;rw[show(if aG l=0 then aK l else[])=aK l from VQ hli];have hbs:=(dp hli).2.2.2.1;have hgl:=(sk hli).2;have hsg:aK l=cE l:=by unfold aK;rw[VQ hsp]
 refine bS ?_;refine gC (fun t36=>?_) (fun t36=>?_)
 ·have h2:=yU t36;have he:fe l k a own=9:=(ol hli).trans (Dy hsp h2);refine gR ?_;rw[he,lr (by decide),qY (by decide)];exact lI rfl
 have h2:=yr t36;refine gl ?_;refine gl ?_;refine gC (fun t44=>?_) (fun t44=>?_)
 ·have h3:=qr t44;have he:fe l k a own=10:=(ol hli).trans (Ez hsp h2 h3);refine gR ?_;rw[he,lr (by decide),qY (by decide)];exact lI rfl
 have h3:=qQ t44;refine gc (oT a.rs 400000000 al.tr) ?_;refine gC (fun t50=>?_) (fun t50=>?_)
 ·have h4:=de t50;refine gR ?_;rw[(ol hli).trans (DA hsp h2 h3 h4),lr h4,qY h4];exact lI rfl
 have h4:=cR t50;obtain⟨i,rfl,hi⟩:=zF h2;obtain⟨g,hg⟩:=az hi;obtain⟨hgd,hgo⟩:=nV hli (mem_of_getElem? hg);have hgA:fI l (i:Nat)=g:=aO hg;rw[hgA];have he5:fe l (i:Nat) a own=dh ((dW (bZ l g own)).map (eT a)):=by rw[<- hgA];exact(ol hli).trans (Ao hsp h2 h3 h4)
 have hnl:(bZ l g own).length<=5:=Pm hgo;have hgb:=hgo.lb;have hgj:=hgo.lj;refine gi (ay hg) ?_;refine gt (aJ (P7 l hl hli g hgo) (bA rfl rfl) aM rfl rfl) ?_;refine gD ?_;refine gC (fun t62=>?_) (fun t62=>?_) (st1:=(13,0));cases t62;refine HE [1,4,6,10] [4,6] [(13,some (.ms 900 1 0 (bZ l g own).length))] [(900,some (.row 1 ((bZ l g own).map i64)))] (True) ?_ ?_
 ·intro K1 J1;refine gC (fun t64=>?_) (fun t64=>?_)
  ·have ho:own=true:=t64;subst ho;refine gi (ay hg) ?_;refine gs (bO (.tmp rfl) rfl (by rw[length_map,kN]) (.tmp rfl) T39 rfl T3 rfl rfl (by simp only[length_map];omega) rfl rfl) ?_;exact vr J1 trivial (hw:=(Wk.of (sl:=[(1,some (i64 i)),(4,some (.ptr 4 0)),(6,some (.ptr 6 0)),(10,some (.lst 4 ((aK l).map Gr.av))),(13,some (.ms 71 1 0 (bZ l g true).length))]) (hp:=[(4,some (.box l.av.cells)),(6,some (.box a.av.cells)),(71,some (.row 1 ((bZ l g true).map i64)))]) (.k (.k (.k (.k (.cons rfl (Sub.of (by rw[GV,length_append,kN,length_map])) .nil))))) (.k (.k (.cons rfl (BlkSub.of (by rw[GV,map_append])) .nil)))).trans<|(Wk.rk (k:=71) (d:=900) rfl rfl).trans<|Wk.o)
  have ho:own=false:=t64;subst ho;exact vr J1 trivial (hw:=Wk.of (.cons rfl (Sub.of (by rw[Gm,kN])) (.k (.k (.k (.k .nil))))) (.cons rfl (BlkSub.of (by rw[Gm])) (.k (.k .nil))))
 rintro -;refine gt (aJ (Con.rk 900 rfl rfl (UC (bZ l g own) oz)) (cG rfl) aM rfl rfl) ?_ (17,0);refine gW ((Wk.freeze (k:=900) rfl).trans<|Wk.of (sl:=[(1,some (i64 i)),(4,some (.ptr 4 0)),(6,some (.ptr 6 0)),(10,some (.lst 4 ((aK l).map Gr.av))),(13,some (.lst 1 ((dW (bZ l g own)).map i64)))]) (hp:=[(4,some (.box l.av.cells)),(6,some (.box a.av.cells))]) (.k (.k (.k (.k (.cons rfl (Sub.of (bD (by rw[length_map,HL]))) .nil))))) (.k (.k .nil))) ?_;refine gl ?_;refine aN [1,4,6,10,74,75] [4,6] (fun(j:Nat)=>[(76,some (i64 j))]) (fun _=>[]) (fun j=>j<=(dW (bZ l g own)).length/\∀b∈(dW (bZ l g own)).take j,eT a b=0) (fun j=>(dW (bZ l g own)).length-j) 0 ⟨zero_le _,fun b hb=>by simp at hb⟩ ?_;rintro j ⟨hj,hjz⟩ K2 J2;refine gC (fun t77=>?_) (fun t77=>?_)
 ·have hjn:=aT t77;obtain ⟨b,hb⟩:=az hjn;have hbm:=qd.1 (mem_of_getElem? hb);have hbr:=wL hli hgo b hbm;have hsl:(dW (bZ l g own)).length <= 5:=by rw [HL]; exact hnl
  refine gi (ay hb) ?_;refine gC (fun t81=>?_) (fun t81=>?_)
  ·have hz : eT a b = 0 := by unfold eT; rw [VQ (by simpa [aa] using t81)]
   refine ga aE ?_;exact aH J2 (j+1) ⟨hjn,fun c hc=>by rw[cD hb]at hc;rcases List.mem_append.1 hc with h9 |h9;exact hjz c h9;(rw[List.mem_singleton.1 h9];exact hz)⟩
  have hb0:0<=b:=by have:=of_decide_eq_false (p:=b<0) t81;omega
  obtain⟨p,hp⟩:=az (l:=a.bs) (i:=b.toNat) oz;have hpn:=al.nr p (mem_of_getElem? hp);have hnd:eT a b=aZ a.rs p.l:=by unfold eT;rw[VP oz,aO hp]
  refine gi (dg (n:=b.toNat) oz hp) ?_;refine ge rfl ?_;refine aN [1,4,6,10,74,75,76,95,96] [4,6] (fun(q:Nat)=>[(97,some (i64 q))]) (fun _=>[]) (fun q=>q<=4/\∀x∈p.l.take q,bQ a.rs.length x=0) (fun q=>4-q) 0 ⟨zero_le _,fun x hx=>by simp at hx⟩ ?_;rintro q ⟨hq,hqz⟩ K3 J3;refine gC (fun t98=>?_) (fun t98=>?_)
  ·have hqn:q<4:=aT (b:=4) t98;obtain⟨x,hx⟩:∃x,p.l[q]?=some x:=az (show q<p.l.length from hqn);have hxn:=hpn x (mem_of_getElem? hx);have hone:aZ a.rs [x]=bQ a.rs.length x:=xK h4;refine gi (ay hx) ?_;refine gc (Ac a.rs 400000000 al.tr x 50000000000 hxn (B9 _)) ?_;refine gC (fun t109=>?_) (fun t109=>?_)
   ·have h5:=de t109;rw [hone] at h5 ⊢;have h6:eT a b = bQ a.rs.length x:=hnd.trans (UW h4 hx hqz h5);have h7:fe l (i:Nat) a own = bQ a.rs.length x:=by rw [he5,SF hb hjz (by rw [h6]; exact h5),h6]
    refine gR ?_;rw[h7,lr h5,qY h5];exact lI rfl
   have h5:=cR t109;rw[hone]at h5;refine ga aE ?_;exact aH J3 (q+1) ⟨hqn,fun z hz=>by rw[cD hx]at hz;rcases List.mem_append.1 hz with h9 |h9;exact hqz z h9;(rw[List.mem_singleton.1 h9];exact h5)⟩
  have hqn:q=4:=a8 (b:=4) hq t98;subst hqn;have hqz:∀x∈p.l,bQ a.rs.length x=0:=hqz;refine ga aE ?_;exact aH J2 (j+1) ⟨hjn,fun c hc=>by rw[cD hb]at hc;rcases List.mem_append.1 hc with h9 |h9;exact hjz c h9;(rw[List.mem_singleton.1 h9,hnd];exact o6 h4 hqz)⟩
 have hjn:=a8 hj t77
 have h8:fe l (i:Nat) a own=0:=by
  rw[he5];exact lQ (fun b hb=>hjz b (by rw[hjn,take_length];exact hb))
 refine gi (ay hg) ?_;refine gD ?_ (77777,0);refine gW (Wk.o (sl:=[(8,some (.ptr 120 0)),(9,some (.v .nilIface))]) (hp:=[(120,some (cC l g a))])) ?_ (77777,0);refine gW (Wk.rk (k:=120) (d:=900) rfl rfl) ?_;refine gR ?_;rw[h8];exact aA.keep (bi rfl)
theorem GS{ts:LL}{r e:Nat}(tw:Tw ts r){a b c d:List Rat}(ha:Nm ts.length e a)(hb:Nm ts.length e b)(hc:Nm ts.length e c)(hd:Nm ts.length e d)(he:2*e<=lm ts.length) :
  FP 73 [an ts,ao a b,ao c d] (.tup [ao (sh ts.length (subT ts (ad ts.length a) (ad ts.length c))) (sh ts.length (subT ts (ad ts.length b) (ad ts.length d))),.v .nilIface]):=by
 refine af func73 ?_;refine gc (r6 (e:=e) tw [(a,b),(c,d)] (by simp only[mem_cons,not_mem_nil,or_false];rintro p (rfl |rfl);exact⟨ha,hb⟩;exact⟨hc,hd⟩) oz (by simp)) ?_;refine gC (fun t16=>?_) (fun t16=>?_) (st1:=(3,0));cases t16;refine gt (aJ (Con.rB 21 rfl rfl rfl rfl (DC tw ha hb hc hd he)) (aL rfl rfl rfl) aM rfl rfl) ?_;refine gt (aJ (Con.rB 21 rfl rfl rfl rfl (xB _ _ _)) (bA rfl rfl) aM rfl rfl) ?_;refine bf ?_;rfl
theorem GL{ts:LL}{r e:Nat}(tw:Tw ts r){a b c d:List Rat}(ha:Nm ts.length e a)(hb:Nm ts.length e b)(hc:Nm ts.length e c)(hd:Nm ts.length e d)(he:2*(e+e+kB r ts.length)<=lm ts.length) :
  FP 74 [an ts,ao a b,ao c d] (.tup [nA (sh ts.length (mR ts (ad ts.length a) (ad ts.length b) (ad ts.length c) (ad ts.length d))),.v .nilIface]):=by
 refine af func74 ?_;refine gc (Con.sA (.cons (.refl _) (.cons (.refl _) (.cons (.refl _) (.cons (Sub.fn0 _) .nil)))) (H3 tw ha hb hc hd oz _ _ (S4 tw ha hb hc hd he))) ?_;refine bf ?_
 first |rfl |(simp;done)
section
variable{ts:LL}{u k:Nat}{a b a2 b2:List Rat}{x y x2 y2:Et ts}{w v w' v' w2 v2 w3 v3:Nat}
theorem UH [c : Ct ts u k] [ha : Zl ts u k a x w v] [hb : Zl ts u k b y w' v'] [ha2 : Zl ts u k a2 x2 w2 v2] [hb2 : Zl ts u k b2 y2 w3 v3] (h : w + v + (w' + v') + (w2 + v2 + (w3 + v3)) <= 2500 := by decide) :
  FP 73 [an ts,ao a b,ao a2 b2] (.tup [ao (sX (x-x2)) (sX (y-y2)),.v .nilIface]):=by
 obtain⟨R,tw,hk⟩:=c.ex;have h0:=tp c hk;have h1:=GS (e:=2500*1000000) tw (ha.up c oz) (hb.up c oz) (ha2.up c oz) (hb2.up c oz) oz;rw[ha.eq,hb.eq,ha2.eq,hb2.eq]at h1;exact h1
end
variable{P:Program}{N:Nat}{R:Array Oper}{s:AS}{pos:String}{after:Array Edge}
theorem aX{d f k:Nat}{bx:Blk}{args:Array Operand}{ts:Array TypeId}{xs:List AV}{r:AV}{t:TypeId}
  (hcon:Con P f xs [(k,some bx)] r [(k,some bx)]) (ha:EvL s args.toList xs) (hk:s.blk k=some bx) (hok:iF s [(k,some bx)] [(k,some bx)] r=true) (hN:Nat.blt d N=true) :
  Step P N R s ⟨some d,.call ⟨.value (.func f),args,ts⟩,t,pos,after,none⟩ ⟨some r,[],d7 args.toList,[k]⟩:=by
 refine Step.weaken (aJ (d:=d) hcon ha (fun k' z h=>by
  obtain⟨rfl,h9⟩:=fq h;cases h9;exact hk) hok hN) (fun s' h=>h) (fun s' h k' hk'=>?_) (fun s' h=>?_)
 ·left;simp only[map_append,cW,map_cons,map_nil,mem_append,mem_cons,not_mem_nil,or_false]at hk' ⊢;rcases hk' with h9 |h9 <;> exact h9
 ·intro C m a w hr;refine⟨m,hr.weak (fun t x hx=>⟨x,hx,.refl _⟩) (fun k' x hx=>⟨x,?_,.refl _⟩)⟩;have hb:lk s'.hp k=some bx:=(h.2 k (List.mem_singleton.2 rfl)).trans hk;show lk ([(k,some bx)]++cW [(k,some bx)]++s'.hp) k'=some x;have hx':lk s'.hp k'=some x:=hx;simp only[cW,map_cons,map_nil,List.cons_append,nil_append,aP]
  by_cases e:k'=k
  ·rw[VQ e];rw[e,hb]at hx';exact hx'
  ·rw[VP e,VP e];exact hx'
theorem mG{k1 k2 k':Nat}{x y:Option Blk}{z:Blk}(h:lk [(k1,x),(k2,y)] k'=some z):(k'=k1/\x=some z)\/(k'≠k1/\k'=k2/\y=some z):=by
 rw[aP]at h
 by_cases e:k'=k1
 ·rw[VQ e]at h;exact .inl ⟨e,h⟩
 ·rw[VP e]at h;obtain⟨h1,h2⟩:=fq h;exact .inr ⟨e,h1,h2⟩
theorem m7{k1 k2:Nat}{x y:Option Blk}:lk [(k1,x),(k2,y)] k1=x:=by rw[aP,VQ rfl]
theorem mF{k1 k2:Nat}{x y:Option Blk}(h:k1≠k2):lk [(k1,x),(k2,y)] k2=y:=by rw[aP,VP (fun e=>h e.symm),aP,VQ rfl]
theorem DT{k1 k2:Nat}(hne:k1≠k2){x y:Blk}{m:Nat->Option Nat}{b:Nat}:a6 [(k1,some x),(k2,some y)] m b↔m k1=some b\/m k2=some b:=by
 constructor
 ·rintro⟨k',z,hz,hb⟩;rcases mG hz with⟨e,_⟩ |⟨_,e,_⟩
  ·exact .inl (e▸hb)
  ·exact .inr (e▸hb)
 ·rintro(h |h)
  ·exact⟨k1,x,m7,h⟩
  ·exact⟨k2,y,mF hne,h⟩
theorem Hy{k1 k2 d1 d2:Nat}(hk:k1≠k2)(hd:d1≠d2){x y x' y':Blk}{m m2:Nat->Option Nat}(h1:m2 d1=m k1)(h2:m2 d2=m k2):a6 [(d1,some x'),(d2,some y')] m2=a6 [(k1,some x),(k2,some y)] m:=by
 funext b;apply propext;rw[DT hk,DT hd,h1,h2]
theorem zM{ext:Nat->Prop}{k1 k2 d1 d2:Nat}(hk:k1≠k2)(hd:d1≠d2){x y x' y':Blk}{m m2:Nat->Option Nat}{w:World}(h1:m2 d1=m k1)(h2:m2 d2=m k2):Im ext [(d1,some x'),(d2,some y')] m2 w=Im ext [(k1,some x),(k2,some y)] m w:=by
 funext b cs;simp only[Im,Hy hk hd (x:=x) (y:=y) (x':=x') (y':=y') h1 h2]
theorem F8{ext:Nat->Prop}{k1 k2 d1 d2:Nat}(hk:k1≠k2)(hd:d1≠d2){x y:Blk}{m m2:Nat->Option Nat}{w:World}(hx:x.nm=[])(hy:y.nm=[])(h1:m2 d1=m k1)(h2:m2 d2=m k2)
  (hr:HeapRel ext [(k1,some x),(k2,some y)] m w):HeapRel ext [(d1,some x),(d2,some y)] m2 w:=by
 refine⟨?_,?_,?_⟩
 ·intro k' z hz;rw[zM hk hd (x:=x) (y:=y) h1 h2];rcases mG hz with⟨rfl,h9⟩ |⟨_,rfl,h9⟩
  ·cases h9;exact BlkRep.mono (w:=w) (fun _ _ h=>h) (fun _ _ h=>h) (fun _ _ hn=>(yh hx hn).elim) h1 (fun _ _=>rfl) (hr.blk k1 _ m7)
  ·cases h9;exact BlkRep.mono (w:=w) (fun _ _ h=>h) (fun _ _ h=>h) (fun _ _ hn=>(yh hy hn).elim) h2 (fun _ _=>rfl) (hr.blk k2 _ (mF hk))
 ·intro k k' z z' b hz hz' hb hb';rcases mG hz with⟨rfl,_⟩ |⟨_,rfl,_⟩ <;> rcases mG hz' with⟨rfl,_⟩ |⟨_,rfl,_⟩
  ·rfl
  ·exact absurd (hr.inj k1 k2 _ _ b m7 (mF hk) (h1▸hb) (h2▸hb')) hk
  ·exact absurd (hr.inj k1 k2 _ _ b m7 (mF hk) (h1▸hb') (h2▸hb)) hk
  ·rfl
 ·intro k' z b hz hb;rcases mG hz with⟨rfl,h9⟩ |⟨_,rfl,h9⟩
  ·exact hr.sep k1 _ b m7 (h1▸hb)
  ·exact hr.sep k2 _ b (mF hk) (h2▸hb)
theorem Con.rekeyBB{P:Program}{f:FuncId}{k1 k2 o1 o2:Nat}{x y x' y':Blk}{xs:List AV}{r:AV}(d1 d2:Nat)(hk:k1≠k2)(hd:d1≠d2)(hx:x.nm=[])(hy:y.nm=[])(hx':x'.nm=[])(hy':y'.nm=[])(hxs:(xs.all fun x=>x.nm.isEmpty)=true)(hr:r.nm=[])
  (h:Con P f (.ptr k1 o1 :: .ptr k2 o2::xs) [(k1,some x),(k2,some y)] r [(k1,some x'),(k2,some y')]):Con P f (.ptr d1 o1 :: .ptr d2 o2::xs) [(d1,some x),(d2,some y)] r [(d1,some x'),(d2,some y')]:=by
 refine⟨h.ok,?_⟩;intro ext m w vs hext hheap hvs hrep;obtain⟨m2,e1,e2⟩:∃m2:Nat->Option Nat,m2 k1=m d1/\m2 k2=m d2:=⟨fun k=>if k=k1 then m d1 else m d2,VQ rfl,VP (fun e=>hk e.symm)⟩
 have h1 := h.ret ext m2 w vs hext (F8 hd hk hx hy e1 e2 hheap) (by simpa using hvs) (by
  intro j v z hv hz;rw[zM hd hk (x:=x) (y:=y) e1 e2]
  match j,hz with
  |0,hz =>
   cases hz;have h2:=hrep 0 v _ hv rfl;cases h2 with
   |ptr hm=>exact .ptr (e1.trans hm)
  |1,hz =>
   cases hz;have h2:=hrep 1 v _ hv rfl;cases h2 with
   |ptr hm=>exact .ptr (e2.trans hm)
  |j+2,hz =>
   have h2:=hrep (j+2) v z hv hz;refine iT ?_ h2;have:=List.all_eq_true.1 hxs z (mem_of_getElem? hz);simpa using this)
 refine Calls.mono h1 ?_;rintro e w' ⟨v,m',rfl,hf,hh,hn,hkp,hrr⟩;have ho:=Hy hd hk (x:=x) (y:=y) (x':=x) (y':=y) e1 e2;obtain⟨m3,f1,f2⟩:∃m3:Nat->Option Nat,m3 d1=m' k1/\m3 d2=m' k2:=⟨fun k=>if k=d1 then m' k1 else m' k2,VQ rfl,VP (fun e=>hd e.symm)⟩
 refine⟨v,m3,rfl,ho▸hf,F8 hk hd hx' hy' f1 f2 hh,?_,?_,?_⟩
 ·intro k' z b hz hb;rw[<- ho];rcases mG hz with⟨rfl,_⟩ |⟨_,rfl,_⟩
  ·exact hn k1 _ b m7 (f1▸hb)
  ·exact hn k2 _ b (mF hk) (f2▸hb)
 ·intro k' z z' hz hz';rcases mG hz with⟨rfl,_⟩ |⟨_,rfl,_⟩
  ·rw[f1,<- e1];exact hkp k1 _ _ m7 m7
  ·rw[f2,<- e2];exact hkp k2 _ _ (mF hk) (mF hk)
 ·rw[zM hk hd (x:=x') (y:=y') f1 f2];exact iT hr hrr
end Go.Lw
namespace Go.Lw
open Go.Proofs
theorem Fa{l:Li}{body pt:Int}{n k:Nat}{bd:Bd}{m:Mk}(h:MkP l body pt n k bd m):qP (ax l body pt)=.agg [bl m.x.neg,ws m.x.num,ws m.x.den,bl m.y.neg,ws m.y.num,ws m.y.den]:=by
 rw[h.ex,h.ey]
theorem oN{p q:Rat×Rat}{e f:Nat}(hp:Sm e p)(hq:Sm f q)(he:e<=1000000)(hf:f<=1000000):FP 146 [qP p,qP q] (qP (bn p q)):=by
 refine af func146 ?_;refine gc (xf (hp.x.qs oz) (hq.x.qs oz)) ?_;refine gc (xf (hp.y.qs oz) (hq.y.qs oz)) ?_;refine gD ?_;refine ae ?_
 first |rfl |(simp;done)
theorem FU{p q:Rat×Rat}{e f:Nat}(hp:Sm e p)(hq:Sm f q)(he:e<=1000000)(hf:f<=1000000):FP 251 [qP p,qP q] (qA (bF p q)):=by
 refine af func251 ?_;refine gc (uo (hp.x.qs oz) (hq.x.qs oz)) ?_;refine gc (uo (hp.y.qs oz) (hq.y.qs oz)) ?_;refine gc (Bf ((hp.x.mul hq.x).qs oz) ((hp.y.mul hq.y).qs oz)) ?_;refine gD ?_;refine ae ?_
 first |rfl |(simp;done)
theorem Lb{p q:Rat×Rat}{e f:Nat}(hp:Sm e p)(hq:Sm f q)(he:e<=1000000)(hf:f<=1000000):FP 165 [qP p,qP q] (qA (pX p q)):=by
 refine af func165 ?_;refine gc (uo (hp.x.qs oz) (hq.y.qs oz)) ?_;refine gc (uo (hp.y.qs oz) (hq.x.qs oz)) ?_;refine gc (xf ((hp.x.mul hq.y).qs oz) ((hp.y.mul hq.x).qs oz)) ?_;refine gD ?_;refine ae ?_
 first |rfl |(simp;done)
theorem BU{p:Rat×Rat}{e:Nat}(hp:Sm e p)(he:e<=1000000):FP 158 [qP p] (nA (sh 0 (bF p p:Rat))):=by
 refine af func158 ?_;refine gc (FU hp hp he he) ?_;refine gc (oM ((hp.dot hp).qs oz)) ?_;refine ae ?_
 first |rfl |(simp;done)
theorem mP{l:Li}(hl:l.ok)(hli:aG l=0)(g:Gr)(a:As){body pt:Int}(h1:br body l.bo.length=true)(h2:br pt (cF l body).length=true) :
  Con prog 159 [.ptr 1000 0,i64 body,i64 pt] [(1000,some (cC l g a))] (qP (ax l body pt)) [(1000,some (cC l g a))]:=by
 obtain⟨n,k,bd,m,mp⟩:=sa hl hli h1 h2;rw[Fa mp];have hn:=mp.hn;have hk:=mp.hk;have hlb:=hl.lb;subst hn;subst hk;refine gF func159 (fun k z h=>bB h) ?_;refine gi (ay mp.gbd) ?_;refine gi (ay mp.gm) ?_;refine gR ?_;exact aA.keep (bi rfl)
theorem tI{E:Nat}{l:Li}(hl:l.ok)(hli:aG l=0)(g:Gr){a:As}(al:AB a)(hc:bc a.rs=0){body pt:Int}(h1:br body l.bo.length=true)(h2:br pt (cF l body).length=true)(hE:E<=20000000000)(h3:(llq a.rs).length<=2)(hb:Pd E a body) :
  Con prog 88 [.ptr 1000 0,i64 body,i64 pt] [(1000,some (cC l g a))] (ao (sX (aV l a body pt).1) (sX (aV l a body pt).2)) [(1000,some (cC l g a))]:=by
 obtain⟨n,k,bd,m,b,hp⟩:=sU hl hli al hc h1 h2 hb;obtain⟨tw,hta⟩:=bN al.tr hc
 have kb:kB 400000000 (llq a.rs).length<=1200000006:=by
  have h9:=gz 400000000 h3;have h8:eB 400000000 2=1200000006:=by decide
  show eB 400000000 _<=_;omega
 have hlm:lm (llq a.rs).length=200000000000:=by unfold lm;rw[VQ h3]
 have hlb:=hl.lb;have hbl:=al.bl;have hmk:=mP hl hli g a h1 h2;show Con prog _ _ _ (ao (sh (llq a.rs).length (oR l a body pt).1) (sh (llq a.rs).length (oR l a body pt).2)) _;rw[hp.eq];have hn:=hp.mp.hn;rw[Fa hp.mp]at hmk
 have hat:FP 86 [cf a.rs,b.av,m.x.av,m.y.av] (.tup [ao (sh (llq a.rs).length (kZ (llq a.rs) b m).1) (sh (llq a.rs).length (kZ (llq a.rs) b m).2),.v .nilIface]):=by
  rw[hta,hp.av,hp.mp.ex,hp.mp.ey];have h9:=TA tw (hp.ok.c.mono (f:=E+1000) oz) (hp.ok.s.mono oz) (hp.ok.x.mono oz) (hp.ok.y.mono oz) (hp.mp.sm.x.mono (f:=E+1000) oz) (hp.mp.sm.y.mono (f:=E+1000) oz) oz;unfold kZ;rw[hp.mp.ex,hp.mp.ey,bt,bt];exact h9
 refine gF func88 (fun k z h=>bB h) ?_;refine gt (aJ hmk (aL rfl rfl rfl) aM rfl rfl) ?_;refine gi (dg (n:=n) hn hp.gb) ?_;refine gc hat ?_;refine gD ?_;refine gC (fun t39=>?_) (fun t39=>?_) (st2:=(77777,0))
 ·refine gR ?_;exact aA.keep (bi rfl)
 cases t39
theorem rE{E:Nat}(hE:E<=20000000000){l:Li}(hl:l.ok)(hli:aG l=0)(g:Gr)(hg:GrOk l g){a:As}(al:AB a)(hc:bc a.rs=0){k:Nat}{z b:Int}{j:Jt}(hz:g.jo[k]?=some z)(hj:l.jo[z.toNat]?=some j)(h3:(llq a.rs).length<=2)(h:PinP E l a j b) :
  Con prog 141 [.ptr 1000 0,i64 k,i64 b] [(1000,some (cC l g a))] (.tup [qP (ah l j b),ao (sX (am l a j b).1) (sX (am l a j b).2)]) [(1000,some (cC l g a))]:=by
 obtain⟨z0,z1⟩:=hg.j z (mem_of_getElem? hz);obtain⟨i1,i2,i3,i4,_⟩:=dm hli hj;have hgj:=hg.lj;have hlj:=hl.lj;refine gF func141 (fun k z h=>bB h) ?_;refine gi (ay hz) ?_;refine gi (dg (n:=z.toNat) oz hj) ?_;refine gD ?_;refine gC (fun t27=>?_) (fun t27=>?_)
 ·have e:j.a = b:=bV t27;have hb:Pd E a j.b:=by rcases h.tie with h9 | h9; exact h9.2; exact absurd e h9.1
  have eq1:ah l j b=ax l b j.point:=VQ e;have eq2:am l a j b=aV l a j.b j.on:=VQ e;rw[eq1,eq2];subst e;refine gt (aJ (mP hl hli g a i1 i3) (aL rfl rfl rfl) aM rfl rfl) ?_;refine gt (aJ (tI hl hli g al hc i2 i4 hE h3 hb) (aL rfl rfl rfl) aM rfl rfl) ?_;refine gD ?_;refine gR ?_;exact aA.keep (bi rfl)
 have e:j.a≠b:=cr t27;have e2:j.b=b/\Pd E a j.a:=by rcases h.tie with h9 |h9;exact absurd h9.1 e;exact h9.2
 have eq1:ah l j b=ax l b j.on:=VP e;have eq2:am l a j b=aV l a j.a j.point:=VP e;rw[eq1,eq2];obtain⟨e2,hb⟩:=e2;subst e2;refine gt (aJ (mP hl hli g a i2 i4) (aL rfl rfl rfl) aM rfl rfl) ?_;refine gt (aJ (tI hl hli g al hc i1 i3 hE h3 hb) (aL rfl rfl rfl) aM rfl rfl) ?_;refine gD ?_;refine gR ?_;exact aA.keep (bi rfl)
theorem Dx{l:Li}(hl:l.ok)(hli:aG l=0)(g:Gr)(hg:GrOk l g)(a:As){z b:Int}{j:Jt}(hz:g.jo[2]?=some z)(hj:l.jo[z.toNat]?=some j)(h:j.a=b\/j.b=b) :
  Con prog 155 [.ptr 1000 0,i64 b] [(1000,some (cC l g a))] (qP (ah l j b)) [(1000,some (cC l g a))]:=by
 obtain⟨z0,z1⟩:=hg.j z (mem_of_getElem? hz);obtain⟨i1,i2,i3,i4,_⟩:=dm hli hj;have hgj:=hg.lj;have hlj:=hl.lj;have h2:=(List.getElem?_eq_some_iff.1 hz).1;refine gF func155 (fun k z h=>bB h) ?_;refine gi (ay hz) ?_;refine gi (dg (n:=z.toNat) oz hj) ?_;refine gD ?_;refine gC (fun t23=>?_) (fun t23=>?_)
 ·have e:j.a=b:=bV t23;have eq1:ah l j b=ax l b j.point:=VQ e;rw[eq1];subst e;refine gt (aJ (mP hl hli g a i1 i3) (aL rfl rfl rfl) aM rfl rfl) ?_;refine gR ?_;exact aA.keep (bi rfl)
 have e:j.a≠b:=cr t23;have e2:j.b=b:=by rcases h with h9 |h9;exact absurd h9 e;exact h9
 have eq1:ah l j b=ax l b j.on:=VP e;rw[eq1];subst e2;refine gt (aJ (mP hl hli g a i2 i4) (aL rfl rfl rfl) aM rfl rfl) ?_;refine gR ?_;exact aA.keep (bi rfl)
theorem H5{l:Li}(hl:l.ok)(g:Gr)(hg:GrOk l g)(a:As){z:Int}{j:Jt}(hz:g.jo[1]?=some z)(hj:l.jo[z.toNat]?=some j) :
  Con prog 87 [.ptr 1000 0] [(1000,some (cC l g a))] j.av [(1000,some (cC l g a))]:=by
 obtain⟨z0,z1⟩:=hg.j z (mem_of_getElem? hz);have hgj:=hg.lj;have hlj:=hl.lj;have h2:=(List.getElem?_eq_some_iff.1 hz).1;refine gF func87 (fun k z h=>bB h) ?_;refine gi (ay hz) ?_;refine gi (dg (n:=z.toNat) oz hj) ?_;refine gD ?_;refine gR ?_;exact aA.keep (bi rfl)
abbrev Re{ts:LL}(p:Rat×Rat)(at_:Et ts×Et ts)(c:Rat×Rat):List AV :=
  [bl (rt p.1).neg,ws (rt p.1).num,ws (rt p.1).den,bl (rt p.2).neg,ws (rt p.2).num,ws (rt p.2).den,nA (sX at_.1),nA (sX at_.2),bl (rt c.1).neg,ws (rt c.1).num,ws (rt c.1).den,bl (rt c.2).neg,ws (rt c.2).num,ws (rt c.2).den]
abbrev wb{ts:LL}(p:Rat×Rat)(at_:Et ts×Et ts)(c:Rat×Rat):AV:=.agg (Re p at_ c)
abbrev Ve{ts:LL}(p:Rat×Rat)(at_:Et ts×Et ts)(c:Rat×Rat):AV:=.agg [nA (sX at_.1),nA (sX at_.2),nA (sh 0 (ba c p:Rat))]
theorem yZ{ts:LL}{p c:Rat×Rat}(hp:Sm 1000 p)(hc:Sm 1000 c)(at_:Et ts×Et ts):FP 70 [wb p at_ c] (Ve p at_ c):=by
 refine af func70 ?_;refine gc (oN hc hp oz oz) ?_;refine gc (BU (hc.sub hp) oz) ?_;refine gD ?_;refine ae ?_
 first |rfl |(simp;done)
theorem MS{l:Li}(hl:l.ok)(hli:aG l=0){a:As}(al:AB a)(hc:bc a.rs=0)(h3:(llq a.rs).length<=2){i k z0 z1 z2:Int}{j0 j1 j2:Jt}(hg:GrOk l ⟨1,[i,k],[z0,z1,z2],0⟩)
  (h0:l.jo[z0.toNat]?=some j0) (h1:l.jo[z1.toNat]?=some j1) (h2:l.jo[z2.toNat]?=some j2) (p0:PinP 3900000 l a j0 i) (p1:PinP 3900000 l a j1 k) (t1:j2.a=i\/j2.b=i) (t2:j2.a=k\/j2.b=k) :
  Con prog 67 [.ptr 1000 0] [(1000,some (cC l ⟨1,[i,k],[z0,z1,z2],0⟩ a))] (.tup [wb (ah l j0 i) (am l a j0 i) (ah l j2 i),wb (ah l j1 k) (am l a j1 k) (ah l j2 k)]) [(1000,some (cC l ⟨1,[i,k],[z0,z1,z2],0⟩ a))]:=by
 refine gF func67 (fun k z h=>bB h) ?_;refine gi (rfl) ?_;refine gi (rfl) ?_;refine gD ?_;refine gt (aJ (rE oz hl hli _ hg al hc (k:=0) rfl h0 h3 p0) (.cons (.tmp rfl) (.cons (.const _) (cG rfl))) aM rfl rfl) ?_;refine gt (aJ (rE oz hl hli _ hg al hc (k:=1) rfl h1 h3 p1) (.cons (.tmp rfl) (.cons (.const _) (cG rfl))) aM rfl rfl) ?_;refine gt (aJ (Dx hl hli _ hg a rfl h2 t1) (bA rfl rfl) aM rfl rfl) ?_;refine gt (aJ (Dx hl hli _ hg a rfl h2 t2) (bA rfl rfl) aM rfl rfl) ?_;refine gD ?_;refine gR ?_;exact aA.keep (bi rfl)
theorem Ln{l:Li}(hl:l.ok)(hli:aG l=0){a:As}(al:AB a)(hc:bc a.rs=0)(h3:(llq a.rs).length<=2){i z0 z1:Int}{j0 j1:Jt}(hg:GrOk l ⟨2,[i],[z0,z1],0⟩)
  (h0:l.jo[z0.toNat]?=some j0) (h1:l.jo[z1.toNat]?=some j1) (p0:PinP 3900000 l a j0 i) (ha:j1.a=i) (hk:j1.kind≠0) (hb:Pd 3900000 a j1.b) :
  Con prog 71 [.ptr 1000 0] [(1000,some (cC l ⟨2,[i],[z0,z1],0⟩ a))] (.tup [wb (ah l j0 i) (am l a j0 i) (ax l i j1.point),ao (sX (aV l a j1.b j1.on).1) (sX (aV l a j1.b j1.on).2),ao (sX (aV l a j1.b j1.to).1) (sX (aV l a j1.b j1.to).2)]) [(1000,some (cC l ⟨2,[i],[z0,z1],0⟩ a))]:=by
 obtain⟨i1,i2,i3,i4,i5⟩:=dm hli h1;rw[ha]at i1 i3;refine gF func71 (fun k z h=>bB h) ?_;refine gi (rfl) ?_;refine gt (aX (H5 hl _ hg a rfl h1) (cG rfl) rfl rfl rfl) ?_;refine gD ?_;refine gt (aJ (rE oz hl hli _ hg al hc (k:=0) rfl h0 h3 p0) (.cons (.tmp rfl) (.cons (.const _) (cG rfl))) aM rfl rfl) ?_;refine gt (aJ (mP hl hli _ a i1 i3) (aL rfl rfl rfl) aM rfl rfl) ?_;refine gt (aJ (tI hl hli _ al hc i2 i4 oz h3 hb) (aL rfl rfl rfl) aM rfl rfl) ?_;refine gt (aJ (tI hl hli _ al hc i2 (i5 hk) oz h3 hb) (aL rfl rfl rfl) aM rfl rfl) ?_;refine gD ?_;refine gR ?_;exact aA.keep (bi rfl)
structure Vr where
  w:List Rt
  x:List Rt
  y:List Rt
instance:Inhabited Vr:=⟨⟨[],[],[]⟩⟩
def Vr.av(v:Vr):AV:=.agg [nR v.w,nR v.x,nR v.y]
def Vr.l(v:Vr):List (List Rt):=[v.w,v.x,v.y]
theorem AL.ct{a:As}(h:AL a)(hc:bc a.rs=0):Ct (llq a.rs) 4000 300000:=by
 obtain⟨tw,_⟩:=bN h.tr hc;exact⟨⟨40000,tw,le_trans (F9 40000 tw.three) oz⟩,by omega,by omega,by omega,by omega⟩
abbrev dU(rs:List (List Rt)):Blk:=.box [.lst 1 (rs.map nR),.v .nilIface]
theorem wA(rs:List (List Rt))(a:List Rat):Con prog 68 [.ptr 1000 0,nA a,.v .nilIface] [(1000,some (dU rs))] (nA a) [(1000,some (dU rs))]:=by
 refine gF func68 (fun k z h=>bB h) ?_;refine gC (fun t11=>?_) (fun t11=>?_) (st2:=(77777,0))
 ·refine gR ?_;exact aA.keep (bi rfl)
 cases t11
theorem Gk(rs:List (List Rt))(a b:List Rat):Con prog 72 [.ptr 1000 0,ao a b,.v .nilIface] [(1000,some (dU rs))] (ao a b) [(1000,some (dU rs))]:=by
 refine gF func72 (fun k z h=>bB h) ?_;refine gC (fun t11=>?_) (fun t11=>?_) (st2:=(77777,0))
 ·refine gR ?_;exact aA.keep (bi rfl)
 cases t11
section
variable{rs:List (List Rt)}{r u k:Nat}{a b:List Rat}{x y:Et (llq rs)}{w v w' v':Nat}
theorem EV (h : TR rs r) (hc : bc rs = 0) [c0 : Ct (llq rs) u k] [ha : Zl (llq rs) u k a x w v] [hb : Zl (llq rs) u k b y w' v'] (hs : w + v + (w' + v') <= 10000 := by decide) :
  Con prog 76 [.ptr 1000 0,nA a,nA b] [(1000,some (dU rs))] (nA (sX (x*y))) [(1000,some (dU rs))]:=by
 have hx:=EI (ha:=ha) (hb:=hb) hs;rw[qD h hc]at hx;refine gF func76 (fun k z h=>bB h) ?_;refine gc hx ?_;refine gt (aJ (wA _ _) (aL rfl rfl rfl) aM rfl rfl) ?_;refine gR ?_;exact aA.keep (bi rfl)
theorem Nr (h : TR rs r) (hc : bc rs = 0) [c0 : Ct (llq rs) u k] [ha : Zl (llq rs) u k a x w v] [hb : Zl (llq rs) u k b y w' v'] (hs : w + v + (w' + v') <= 10000 := by decide) :
  Con prog 75 [.ptr 1000 0,nA a,nA b] [(1000,some (dU rs))] (nA (sX (x-y))) [(1000,some (dU rs))]:=by
 have hx:=Cw (ha:=ha) (hb:=hb) hs;rw[qD h hc]at hx;refine gF func75 (fun k z h=>bB h) ?_;refine gc hx ?_;refine gt (aJ (wA _ _) (aL rfl rfl rfl) aM rfl rfl) ?_;refine gR ?_;exact aA.keep (bi rfl)
end
structure DyW(l:Li)(a:As):Prop where
  hl:l.ok
  li:aG l=0
  al:AB a
  hc:bc a.rs=0
structure DyR(l:Li)(a:As):Prop extends DyW l a where
  s:DyS a
theorem DyR.two{l:Li}{a:As}(D:DyR l a):(llq a.rs).length<=2:=le_trans (D.s.one D.hc) oz
theorem uY{n:Nat}(hn:n<=1):kB 64990 n<=65000:=by
 have h1:=gz 64990 hn;have h2:eB 64990 1=64992:=by simp only[eB]
 show eB 64990 _<=_;omega
theorem u7{n:Nat}(h3:n<=2):kB 400000000 n<=1200000006:=by
 have h9:=gz 400000000 h3;have h8:eB 400000000 2=1200000006:=by decide
 show eB 400000000 _<=_;omega
abbrev v8(l:Li)(a:As)(i:Int)(j0 j:Jt):List AV :=
  qC (ah l j0 i)++([nA (sX (am l a j0 i).1),nA (sX (am l a j0 i).2)]++(qC (fF l i j)++[nA (sh 0 (cM l i j0 j:Rat)),nA (sh 0 (iz l i j:Rat)),nA (sX (cK l a i j0 j)),nA (sX (er l a i j0 j).1),nA (sX (er l a i j0 j).2)]))
theorem CC{l:Li}{a:As}(D:DyR l a){n:Nat}{i:Int}{j0 j:Jt}(h0:l.jo[n]?=some j0)(p0:PinP 3900000 l a j0 i){m:Nat}(h1:l.jo[m]?=some j)(hb:Pd 3900000 a j.a) :
  Zu 310000 65000 (er l a i j0 j).1 80 81/\Zu 310000 65000 (er l a i j0 j).2 80 81:=by
 obtain⟨i1,i2,i3,i4,_⟩:=dm D.li h1;obtain⟨z1,z2⟩:=gO D.hl D.li D.al D.s D.hc h0 p0;obtain⟨y1,y2⟩:=gV D.hl D.li D.al D.s D.hc i1 i3 hb;haveI c:=D.s.ct D.hc;haveI:=z1;haveI:=z2;haveI:=y1;haveI:=y2
 exact⟨(inferInstance:Zu 310000 65000 ((aV l a j.a j.point).1-(am l a j0 i).1) _ _),(inferInstance:Zu 310000 65000 ((aV l a j.a j.point).2-(am l a j0 i).2) _ _)⟩
theorem P6{l:Li}{a:As}(D:DyR l a){i z0 z1:Int}{j0 j:Jt}(hg:GrOk l ⟨3,[i],[z0,z1],0⟩)
  (h0:l.jo[z0.toNat]?=some j0) (h1:l.jo[z1.toNat]?=some j) (p0:PinP 3900000 l a j0 i) (hi:j.b=i) (hk:j.kind≠0) (hb:Pd 3900000 a j.a) :
  Con prog 78 [.ptr 1000 0,.ptr 1001 0] [(1000,some (cC l ⟨3,[i],[z0,z1],0⟩ a)),(1001,some (dU a.rs))] (.agg (v8 l a i j0 j)) [(1000,some (cC l ⟨3,[i],[z0,z1],0⟩ a)),(1001,some (dU a.rs))]:=by
 obtain⟨i1,i2,i3,i4,i5⟩:=dm D.li h1;have hs0:Sm 1000 (ah l j0 i):=dL D.hl D.li h0 (by rcases p0.tie with h9 |h9;exact .inl h9.1;exact .inr h9.2.1);subst hi;have hs1:=gI D.hl D.li i2 i4;have hs2:=gI D.hl D.li i2 (i5 hk);have hv:=hs2.sub hs1;obtain⟨z1',z2'⟩:=gO D.hl D.li D.al D.s D.hc h0 p0;obtain⟨y1,y2⟩:=gV D.hl D.li D.al D.s D.hc i1 i3 hb;obtain⟨w1,w2⟩:=CC D h0 p0 h1 hb;haveI c:=D.s.ct D.hc;haveI:=z1';haveI:=z2';haveI:=y1;haveI:=y2;haveI:=w1;haveI:=w2
 have hsub:=UH (ts:=llq a.rs) (u:=310000) (k:=65000) (a:=sX (aV l a j.a j.point).1) (b:=sX (aV l a j.a j.point).2) (a2:=sX (am l a j0 j.b).1) (b2:=sX (am l a j0 j.b).2);have hdot:=O5 (ts:=llq a.rs) (u:=310000) (k:=65000) (a:=sX (er l a j.b j0 j).1) (b:=sX (er l a j.b j0 j).2) (a2:=sX (er l a j.b j0 j).1) (b2:=sX (er l a j.b j0 j).2);rw[qD D.s.tr D.hc]at hsub hdot;refine gF func78 (fun k z h=>L3 h) ?_;refine gi (rfl) ?_;refine gt (aX (H5 D.hl _ hg a rfl h1) (cG rfl) rfl rfl rfl) ?_;refine gD ?_;refine gt (aJ (rE oz D.hl D.li _ hg D.al D.hc (k:=0) rfl h0 D.two p0) (.cons (.tmp rfl) (.cons (.const _) (cG rfl))) aM rfl rfl) ?_;refine gt (aX (mP D.hl D.li _ a i2 i4) (aL rfl rfl rfl) rfl rfl rfl) ?_;refine gt (aX (mP D.hl D.li _ a i2 (i5 hk)) (aL rfl rfl rfl) rfl rfl rfl) ?_;refine gc (oN hs2 hs1 oz oz) ?_;refine gD ?_;refine gc (oN hs1 hs0 oz oz) ?_;refine gc (Lb hv (hs1.sub hs0) oz oz) ?_;refine gc (oM ((hv.cross (hs1.sub hs0)).qs oz)) ?_;refine gc (BU hv oz) ?_;refine gD ?_;refine gt (aJ (tI D.hl D.li _ D.al D.hc i1 i3 oz D.two hb) (aL rfl rfl rfl) aM rfl rfl) ?_;refine gC (fun t63=>?_) (fun t63=>?_) (st2:=(77777,0))
 ·refine gc hsub ?_;refine gt (aJ (Con.rB 1001 rfl rfl rfl rfl (Gk _ _ _)) (aL rfl rfl rfl) aM rfl rfl) ?_;refine gD ?_;refine gc hdot ?_;refine gt (aJ (Con.rB 1001 rfl rfl rfl rfl (wA _ _)) (aL rfl rfl rfl) aM rfl rfl) ?_;refine gD ?_;refine gR ?_;exact aA.keep (ma rfl rfl)
 cases t63
theorem Pg{l:Li}{a:As}(D:DyR l a){i:Int}{j0 j:Jt}{w v:Nat}[z1:Zl (llq a.rs) 310000 65000 (sh 0 (cM l i j0 j:Rat)) (qE (cM l i j0 j)) 3 0][z2:Zl (llq a.rs) 310000 65000 (sh 0 (iz l i j:Rat)) (qE (iz l i j)) 3 0][z3:Zu 310000 65000 (cK l a i j0 j) w v](hw:w+v<=2000) :
  Con prog 79 [.agg (v8 l a i j0 j),.ptr 1001 0] [(1001,some (dU a.rs))] (nA (sX (qE (iz l i j)*cK l a i j0 j-qE (cM l i j0 j)*qE (cM l i j0 j)))) [(1001,some (dU a.rs))]:=by
 haveI c:=D.s.ct D.hc;haveI:=z1.zu;haveI:=z2.zu
 have m1:=EV (a:=sh 0 (iz l i j:Rat)) (b:=sX (cK l a i j0 j)) D.s.tr D.hc oz;have m2:=EV (a:=sh 0 (cM l i j0 j:Rat)) (b:=sh 0 (cM l i j0 j:Rat)) D.s.tr D.hc oz;have m3:=Nr (a:=sX (qE (iz l i j)*cK l a i j0 j)) (b:=sX (qE (cM l i j0 j)*qE (cM l i j0 j):Et (llq a.rs))) D.s.tr D.hc oz;refine gF func79 (fun k z h=>by have:=(fq h).1;omega) ?_;refine gt (aJ (Con.rB 1001 rfl rfl rfl rfl m1) (aL rfl rfl rfl) aM rfl rfl) ?_;refine gt (aJ (Con.rB 1001 rfl rfl rfl rfl m2) (aL rfl rfl rfl) aM rfl rfl) ?_;refine gt (aJ (Con.rB 1001 rfl rfl rfl rfl m3) (aL rfl rfl rfl) aM rfl rfl) ?_;refine gD ?_;refine gR ?_;exact aA.keep (bi rfl)
abbrev Ci:Type:=List Rat×List Rat×List Rat
abbrev Fl(c:Ci):AV:=.agg [nA c.1,nA c.2.1,nA c.2.2]
structure CiZ(rs:List (List Rt))(c:Ci):Prop where
  x:Nm (llq rs).length 2500000000 c.1
  y:Nm (llq rs).length 2500000000 c.2.1
  r:Nm (llq rs).length 2500000000 c.2.2
  sg:0<=ak (dE (llq rs) c.2.2)
theorem JZ{ts:LL}(p q:Et ts×Et ts):dotE (q.1-p.1) (q.2-p.2) (q.1-p.1) (q.2-p.2)=au p q:=by
 unfold au gN aW dotE;dsimp only;grind
theorem vF{ts:LL}(c:Ct ts 310000 65000){x y x2 y2:Et ts}(h1:Zu 310000 65000 x 40 40)(h2:Zu 310000 65000 y 40 40)(h3:Zu 310000 65000 x2 40 40)(h4:Zu 310000 65000 y2 40 40):Zu 310000 65000 (au (x,y) (x2,y2)) 320 327:=by
 haveI:=c;haveI:=h1;haveI:=h2;haveI:=h3;haveI:=h4
 exact(inferInstance:Zu 310000 65000 (dotE (x-x2) (y-y2) (x-x2) (y-y2)) _ _)
section
variable{rs:List (List Rt)}{r:Nat}{a b c a2 b2 c2:List Rat}
theorem Ha(h:TR rs r)(hc:bc rs=0){e:Nat}(ha:Nm (llq rs).length e a)(hb:Nm (llq rs).length e b)(he:e<=lm (llq rs).length):FP 263 [cf rs,ao a b] (.v .nilIface):=by
 obtain⟨tw,etw⟩:=bN h hc;have hca:=r6 tw [(a,b)] (fun p hp=>by rw[List.mem_singleton.1 hp];exact⟨ha,hb⟩) he (by show 1<=500;omega);rw[<- etw]at hca;refine af func263 ?_;refine gc hca ?_;refine ae ?_;rfl
theorem Jk(h:TR rs r)(hc:bc rs=0){e:Nat}(ha:Nm (llq rs).length e a)(hb:Nm (llq rs).length e b)(hn:Nm (llq rs).length e c)(he:e+1<=lm (llq rs).length):FP 262 [cf rs,.agg [nA a,nA b,nA c]] (.v .nilIface):=by
 obtain⟨tw,etw⟩:=bN h hc;have hneg:=AK tw hn oz;rw[<- etw]at hneg;refine af func262 ?_;refine gc (Ha h hc ha hb oz) ?_;refine gC (fun t13=>?_) (fun t13=>?_) (st1:=(3,0));cases t13;refine gc hneg ?_;refine ae ?_;rfl
theorem CE(h:TR rs r)(hc:bc rs=0)(cs:List Ci)(hz:∀c∈cs,CiZ rs c)(hl:cs.length<=100):FP 264 [cf rs,.lst 3 (cs.map Fl)] (.v .nilIface):=by
 obtain⟨tw,etw⟩:=bN h hc;have hlm:=ju (llq rs).length;refine af func264 ?_;refine gl ?_;refine aN [2,9,10] [2] (fun(i:Nat)=>[(11,some (i64 i))]) (fun _=>[]) (fun i=>i<=cs.length) (fun i=>cs.length-i) 0 (zero_le _) ?_;rintro i hi K1 J1;refine gC (fun t12=>?_) (fun t12=>?_)
 ·have hin:=aT t12;obtain⟨z,hzi⟩:=az hin;have hz9:=hz z (mem_of_getElem? hzi);have hs:=Hk tw hz9.r oz;rw[<- etw]at hs;refine gi (ay hzi) ?_;refine gc hs ?_;refine gC (fun t23=>?_) (fun t23=>?_) (st1:=(6,0));cases t23;refine gC (fun t26=>?_) (fun t26=>?_) (st1:=(8,0));exact absurd t26 (by have h9:=hz9.sg;unfold ak dE at h9;simp only[aa,decide_eq_true_eq];omega);refine ga aE ?_;exact aH J1 (i+1) hin
 refine ae ?_;rfl
theorem UV(h:TR rs r)(hc:bc rs=0)(cs:List Ci)(hz:∀c∈cs,CiZ rs c)(hl:cs.length<=100):FP 156 [cf rs,.lst 3 (cs.map Fl)] (.v .nilIface):=by
 have hlm:=ju (llq rs).length;have hck:=oT rs r h;rw[hc]at hck;refine af func156 ?_;refine gc hck ?_;refine gC (fun t12=>?_) (fun t12=>?_) (st1:=(3,0));cases t12;refine gl ?_;refine aN [1,2,14,15] [2] (fun(i:Nat)=>[(16,some (i64 i))]) (fun _=>[]) (fun i=>i<=cs.length) (fun i=>cs.length-i) 0 (zero_le _) ?_;rintro i hi K1 J1;refine gC (fun t17=>?_) (fun t17=>?_)
 ·have hin:=aT t17;obtain⟨z,hzi⟩:=az hin;have hz9:=hz z (mem_of_getElem? hzi);refine gi (ay hzi) ?_;refine gc (Jk h hc hz9.x hz9.y hz9.r oz) ?_;refine gC (fun t24=>?_) (fun t24=>?_) (st1:=(9,0));cases t24;refine ga aE ?_;exact aH J1 (i+1) hin
 refine gc (CE h hc cs hz hl) ?_;refine ae ?_;rfl
theorem JC(h:TR rs r)(hc:bc rs=0){x y x2 y2:Et (llq rs)}[c0:Ct (llq rs) 310000 65000][i1:Zl (llq rs) 310000 65000 a x 40 40][i2:Zl (llq rs) 310000 65000 b y 40 40][i4:Zl (llq rs) 310000 65000 a2 x2 40 40][i5:Zl (llq rs) 310000 65000 b2 y2 40 40] :
  FP 53 [cf rs,ao a b,ao a2 b2] (.tup [nA (sX (au (x,y) (x2,y2))),.v .nilIface]):=by
 obtain⟨_,etw⟩:=bN h hc;obtain⟨R,tw,hk⟩:=c0.ex;have kk:=c0.kk hk;obtain⟨K,hK⟩:∃K,40*310000+40*65000=K:=⟨_,rfl⟩
 have hlm:=ju (llq rs).length;have n1:=i1.nm;have n2:=i2.nm;have n4:=i4.nm;have n5:=i5.nm
 have hca:=r6 tw [(a,b),(a2,b2)] (e:=40*310000+40*65000) (fun p hp=>by
  simp only[mem_cons,not_mem_nil,or_false]at hp;rcases hp with rfl |rfl
  ·exact⟨n1,n2⟩
  ·exact⟨n4,n5⟩) oz (by show 2<=500;omega)
 rw[<- etw]at hca;have hle:=DC tw n4 n5 n1 n2 oz;have m1:=n4.sub n1;have m2:=n5.sub n2;have hdo:=Ee tw m1 m2 m1 m2 oz;rw[i1.eq,i2.eq,i4.eq,i5.eq]at hle;rw[i1.eq,i2.eq,i4.eq,i5.eq,bq,bq]at hdo;have hd2:=JZ (x,y) (x2,y2);refine af func53 ?_;refine gc hca ?_;refine gC (fun t17=>?_) (fun t17=>?_) (st1:=(3,0)) (st2:=(5,0));cases t17;refine gW (Wk.of (sl:=[(4,some (.ptr 4 0)),(5,some (.ptr 5 0)),(9,some (.ptr 21 0))]) (hp:=[(4,some (.box [nA a,nA b])),(5,some (.box [nA a2,nA b2])),(21,some (.box [.lst 1 ((llq rs).map nA),.v .nilIface]))]) aR (.k (.k (.cons rfl (BlkSub.bL (.cons (.of (gY etw)) (.cons (.refl _) .nil)) rfl) .nil)))) ?_;refine gt (aJ (Con.rB 21 rfl rfl rfl rfl hle) (aL rfl rfl rfl) aM rfl rfl) ?_;refine gt (aJ (Con.rB 21 rfl rfl rfl rfl hdo) (aL rfl rfl rfl) aM rfl rfl) ?_;refine gt (aJ (Con.rB 21 rfl rfl rfl rfl (EC _ _)) (bA rfl rfl) aM rfl rfl) ?_;refine bf ?_;rw[<- hd2];rfl
theorem tJ(rs:List (List Rt))(a:List Rat):Con prog 265 [.ptr 1000 0,nA a,.v .nilIface] [(1000,some (dU rs))] (nA a) [(1000,some (dU rs))]:=by
 refine gF func265 (fun k z h=>bB h) ?_;refine gC (fun t11=>?_) (fun t11=>?_) (st2:=(77777,0))
 ·refine gR ?_;exact aA.keep (bi rfl)
 cases t11
end
section
variable{rs:List (List Rt)}{r u k:Nat}{a b:List Rat}{x y:Et (llq rs)}{w v w' v':Nat}
theorem Vv (h : TR rs r) (hc : bc rs = 0) [c0 : Ct (llq rs) u k] [ha : Zl (llq rs) u k a x w v] [hb : Zl (llq rs) u k b y w' v'] (hs : w + v + (w' + v') <= 10000 := by decide) :
  Con prog 260 [.ptr 1000 0,nA a,nA b] [(1000,some (dU rs))] (nA (sX (x+y))) [(1000,some (dU rs))]:=by
 have hx:=MC (ha:=ha) (hb:=hb) hs;rw[qD h hc]at hx;refine gF func260 (fun k z h=>bB h) ?_;refine gc hx ?_;refine gt (aJ (tJ _ _) (aL rfl rfl rfl) aM rfl rfl) ?_;refine gR ?_;exact aA.keep (bi rfl)
theorem Hf (h : TR rs r) (hc : bc rs = 0) [c0 : Ct (llq rs) u k] [ha : Zl (llq rs) u k a x w v] [hb : Zl (llq rs) u k b y w' v'] (hs : w + v + (w' + v') <= 10000 := by decide) :
  Con prog 256 [.ptr 1000 0,nA a,nA b] [(1000,some (dU rs))] (nA (sX (x-y))) [(1000,some (dU rs))]:=by
 have hx:=Cw (ha:=ha) (hb:=hb) hs;rw[qD h hc]at hx;refine gF func256 (fun k z h=>bB h) ?_;refine gc hx ?_;refine gt (aJ (tJ _ _) (aL rfl rfl rfl) aM rfl rfl) ?_;refine gR ?_;exact aA.keep (bi rfl)
theorem yL (h : TR rs r) (hc : bc rs = 0) [c0 : Ct (llq rs) u k] [ha : Zl (llq rs) u k a x w v] [hb : Zl (llq rs) u k b y w' v'] (hs : w + v + (w' + v') <= 10000 := by decide) :
  Con prog 266 [.ptr 1000 0,nA a,nA b] [(1000,some (dU rs))] (nA (sX (x*y))) [(1000,some (dU rs))]:=by
 have hx:=EI (ha:=ha) (hb:=hb) hs;rw[qD h hc]at hx;refine gF func266 (fun k z h=>bB h) ?_;refine gc hx ?_;refine gt (aJ (tJ _ _) (aL rfl rfl rfl) aM rfl rfl) ?_;refine gR ?_;exact aA.keep (bi rfl)
theorem ST (h : TR rs r) (hc : bc rs = 0) [c0 : Ct (llq rs) u k] (n : Int) (hn : -9223372036854775808 <= n /\ n <= 9223372036854775807) [hq : Qz u (n : Rat) w'] [ha : Zl (llq rs) u k a x w v] (hs : w' + 0 + (w + v) <= 10000 := by decide) :
  Con prog 257 [.ptr 1000 0,i64 n,nA a] [(1000,some (dU rs))] (nA (sX (qE (n:Rat)*x))) [(1000,some (dU rs))]:=by
 have hm:=yL (a:=sh 0 ((n:Rat):Rat)) (b:=a) h hc hs;refine gF func257 (fun k z h=>bB h) ?_;refine gc (m8 n hn) ?_;refine gc (oM (nN hn)) ?_;refine gt (aJ hm (aL rfl rfl rfl) aM rfl rfl) ?_;refine gR ?_;exact aA.keep (bi rfl)
end
section
variable{rs:List (List Rt)}{r:Nat}{a b c a2 b2 c2:List Rat}{x y z x2 y2 z2:Et (llq rs)}
theorem Ty(h:TR rs r)(hc:bc rs=0)[c0:Ct (llq rs) 310000 65000][i1:Zl (llq rs) 310000 65000 a x 40 40][i2:Zl (llq rs) 310000 65000 b y 40 40][i3:Zl (llq rs) 310000 65000 c z 3 0][i4:Zl (llq rs) 310000 65000 a2 x2 40 40][i5:Zl (llq rs) 310000 65000 b2 y2 40 40][i6:Zl (llq rs) 310000 65000 c2 z2 3 0] :
  Con prog 157 [.ptr 1000 0,.agg [nA a,nA b,nA c],.agg [nA a2,nA b2,nA c2]] [(1000,some (dU rs))] (.tup [nA (sX (cm (x,y) z (x2,y2) z2)),nA (sX (au (x,y) (x2,y2)))]) [(1000,some (dU rs))]:=by
 have hd:=JC (a:=a) (b:=b) (a2:=a2) (b2:=b2) h hc;haveI:=i3.zu;haveI:=i6.zu;haveI zd:=vF c0 i1.zu i2.zu i4.zu i5.zu;haveI q4:Qz 310000 ((4:Int):Rat) 1:=Qz.int (c:=Ct.cx (c:=c0)) (by decide);have m1:=Vv (a:=c) (b:=sX (au (x,y) (x2,y2))) h hc (by decide);have m2:=Hf (a:=sX (z+au (x,y) (x2,y2))) (b:=c2) h hc (by decide);have m3:=yL (a:=c) (b:=sX (au (x,y) (x2,y2))) h hc (by decide);have m4:=ST (a:=sX (z*au (x,y) (x2,y2))) h hc 4 oz (by decide);have m5:=yL (a:=sX (z+au (x,y) (x2,y2)-z2)) (b:=sX (z+au (x,y) (x2,y2)-z2)) h hc (by decide);have m6:=Hf (a:=sX (qE ((4:Int):Rat)*(z*au (x,y) (x2,y2)))) (b:=sX ((z+au (x,y) (x2,y2)-z2)*(z+au (x,y) (x2,y2)-z2))) h hc (by decide);refine gF func157 (fun k z h=>bB h) ?_;refine gc hd ?_;refine gt (aX (tJ _ _) (aL rfl rfl rfl) rfl rfl rfl) ?_;refine gD ?_;refine gt (aX m1 (aL rfl rfl rfl) rfl rfl rfl) ?_;refine gt (aX m2 (aL rfl rfl rfl) rfl rfl rfl) ?_;refine gD ?_;refine gt (aX m3 (aL rfl rfl rfl) rfl rfl rfl) ?_;refine gt (aX m4 (.cons (.tmp rfl) (.cons (.const _) (cG rfl))) rfl rfl rfl) ?_;refine gt (aX m5 (aL rfl rfl rfl) rfl rfl rfl) ?_;refine gt (aX m6 (aL rfl rfl rfl) rfl rfl rfl) ?_;refine gR ?_;exact aA.keep (bi rfl)
end
class Cy(ts:LL)(u k:outParam Nat):Prop where
  ex:∃R,Tw ts R/\eB R ts.length<=k
  k1:1<=k
  u3:3<=u
  two:ts.length<=2
instance Cy.cx{ts:LL}{u k:Nat}[c:Cy ts u k]:Cx (aj ts) ts.length u k:=by
  obtain⟨R,tw,h⟩:=c.ex;exact⟨⟨R,EO tw▸tw,h⟩,c.k1,c.u3⟩
theorem Cy.zq{ts:LL}{u k:Nat}[c:Cy ts u k]{q:Rat}{w:Nat}[h:Qz u q w]:Zl ts u k (sh 0 (q:Rat)) (qE q:Et ts) w 0:=⟨lc _ q,by
 obtain⟨R,tw,_⟩:=c.ex;exact(Nm.ofQ tw.five h.cb).eq oz⟩
theorem Cy.lm{ts:LL}{u k:Nat}(c:Cy ts u k):lm ts.length=200000000000:=by unfold Go.Lw.lm;rw[VQ c.two]
def iE{ts:LL}(y:Et ts):Et ts:=T.inv (aj ts) ts.length y
abbrev a9(ts:LL):Blk:=.box [.lst 1 (ts.map nA),.v .nilIface]
theorem BZ(ts:LL):dU (ts.map (List.map rt))=a9 ts:=by
 have h:=gn ts;unfold cf an at h;have h1:=AV.agg.inj h
 injection h1 with h2
 show Blk.box [.lst 1 ((ts.map (List.map rt)).map nR),.v .nilIface]=_;rw[h2]
section
variable{ts:LL}{u k:Nat}{a b:List Rat}{x y:Et ts}{w v w' v':Nat}
theorem Qx[c:Cy ts u k][ha:Zl ts u k a x w v][hb:Zl ts u k b y w' v'](hs:w*u+v*k+(w'*u+v'*k)<200000000000):FP 329 [an ts,nA a,nA b] (.tup [nA (sX (x+y)),.v .nilIface]):=by
 obtain⟨R,tw,hk⟩:=c.ex;have h1:=yE tw ha.nm hb.nm (by rw[c.lm];omega);rw[ha.eq,hb.eq]at h1;exact h1
theorem P8[c:Cy ts u k][ha:Zl ts u k a x w v][hb:Zl ts u k b y w' v'](hs:w*u+v*k+(w'*u+v'*k)<200000000000):FP 163 [an ts,nA a,nA b] (.tup [nA (sX (x-y)),.v .nilIface]):=by
 obtain⟨R,tw,hk⟩:=c.ex;have h1:=oK tw ha.nm hb.nm (by rw[c.lm];omega);rw[ha.eq,hb.eq]at h1;exact h1
theorem Sh[c:Cy ts u k][ha:Zl ts u k a x w v][hb:Zl ts u k b y w' v'](hs:w*u+v*k+(w'*u+v'*k)<200000000000):FP 164 [an ts,nA a,nA b] (.tup [nA (sX (x*y)),.v .nilIface]):=by
 obtain⟨R,tw,hk⟩:=c.ex;have h1:=yV tw ha.nm hb.nm (by rw[c.lm];omega);rw[ha.eq,hb.eq]at h1;exact h1
theorem Eg[c:Cy ts u k][ha:Zl ts u k a x w v](hs:w*u+v*k<200000000000):FP 138 [an ts,nA a] (.tup [nA (sX (-x)),.v .nilIface]):=by
 obtain⟨R,tw,hk⟩:=c.ex;have h1:=AK tw ha.nm (by rw[c.lm];omega);rw[ha.eq]at h1;exact h1
theorem H8[c:Cy ts u k][ha:Zl ts u k a x w v](hs:w*u+v*k<200000000000):FP 267 [an ts,nA a] (.tup [i64 (ak x),.v .nilIface]):=by
 obtain⟨R,tw,hk⟩:=c.ex;have h1:=Hk tw ha.nm (by rw[c.lm];omega);rw[ha.eq]at h1;exact h1
theorem Oz{j m:Nat}[c:Cy ts u k][ha:Zl ts u k a x w v][hb:Zl ts u k b y w' v'](nb:Nl j b)(hj:j<=ts.length)(h0:ak y≠0)(hm:∀R,eB R ts.length<=k->iB R j (w'*u+v'*k)<=m)(hf:w'*u+v'*k<200000000000)(hs:w*u+v*k+m+k<=200000000000) :
  FP 271 [an ts,nA a,nA b] (.tup [nA (sX (x*iE y)),.v .nilIface])/\Nm ts.length (w*u+v*k+m+k) (sX (x*iE y)):=by
 obtain⟨R,tw,hk⟩:=c.ex;have hi:=hm R hk;have he:=hb.eq;have h1:T.sgn (aj ts) ts.length (ad ts.length b)≠0:=by rw[he];exact h0
 have hd:=zL tw ha.nm hb.nm hj nb h1 (by rw[c.lm];omega) oz;have hn:=s6 tw ha.nm hb.nm hj nb h1 (by rw[c.lm];omega) oz;rw[ha.eq,he]at hd hn;exact⟨hd,hn.mono oz⟩
theorem ot{j:Nat}[c:Cy ts u k][ha:Zl ts u k a x w v][hb:Zl ts u k b y w' v'](nb:Nl j b)(hj:j<=ts.length)(hj1:j<=1)(h0:ak y≠0)(hs:(w+5*w')*u+(v+5*v'+3)*k<=200000000000) :
  FP 271 [an ts,nA a,nA b] (.tup [nA (sX (x*iE y)),.v .nilIface])/\Zu u k (x*iE y) (w+5*w') (v+5*v'+3):=by
 have e:(w+5*w')*u+(v+5*v'+3)*k=w*u+v*k+(5*(w'*u+v'*k)+2*k)+k:=by
  simp only[Nat.add_mul,Nat.mul_add,Nat.mul_assoc];omega
 rw[e]at hs
 have h:=Oz (a:=a) (b:=b) (m:=5*(w'*u+v'*k)+2*k) nb hj h0 (fun R hR=>by
  have h2:=IB R (w'*u+v'*k) hj1;have h3:=gz R hj;omega) oz hs
 exact⟨h.1,⟨h.2.eq e.symm⟩⟩
theorem oo(ts:LL)(a:List Rat):Con prog 265 [.ptr 1000 0,nA a,.v .nilIface] [(1000,some (a9 ts))] (nA a) [(1000,some (a9 ts))]:=by
 have h:=tJ (ts.map (List.map rt)) a;rw[BZ]at h;exact h
theorem rh(ts:LL)(a:List Rat):Con prog 68 [.ptr 1000 0,nA a,.v .nilIface] [(1000,some (a9 ts))] (nA a) [(1000,some (a9 ts))]:=by
 have h:=wA (ts.map (List.map rt)) a;rw[BZ]at h;exact h
theorem jG[c:Cy ts u k][ha:Zl ts u k a x w v][hb:Zl ts u k b y w' v'](hs:w*u+v*k+(w'*u+v'*k)<200000000000) :
  Con prog 260 [.ptr 1000 0,nA a,nA b] [(1000,some (a9 ts))] (nA (sX (x+y))) [(1000,some (a9 ts))]:=by
 refine gF func260 (fun k z h=>bB h) ?_;refine gc (Qx hs) ?_;refine gt (aJ (oo _ _) (aL rfl rfl rfl) aM rfl rfl) ?_;refine gR ?_;exact aA.keep (bi rfl)
theorem lw[c:Cy ts u k][ha:Zl ts u k a x w v][hb:Zl ts u k b y w' v'](hs:w*u+v*k+(w'*u+v'*k)<200000000000) :
  Con prog 256 [.ptr 1000 0,nA a,nA b] [(1000,some (a9 ts))] (nA (sX (x-y))) [(1000,some (a9 ts))]:=by
 refine gF func256 (fun k z h=>bB h) ?_;refine gc (P8 hs) ?_;refine gt (aJ (oo _ _) (aL rfl rfl rfl) aM rfl rfl) ?_;refine gR ?_;exact aA.keep (bi rfl)
theorem jg[c:Cy ts u k][ha:Zl ts u k a x w v][hb:Zl ts u k b y w' v'](hs:w*u+v*k+(w'*u+v'*k)<200000000000) :
  Con prog 266 [.ptr 1000 0,nA a,nA b] [(1000,some (a9 ts))] (nA (sX (x*y))) [(1000,some (a9 ts))]:=by
 refine gF func266 (fun k z h=>bB h) ?_;refine gc (Sh hs) ?_;refine gt (aJ (oo _ _) (aL rfl rfl rfl) aM rfl rfl) ?_;refine gR ?_;exact aA.keep (bi rfl)
theorem sS{q:List Rat}(hd:FP 271 [an ts,nA a,nA b] (.tup [nA q,.v .nilIface])) :
  Con prog 259 [.ptr 1000 0,nA a,nA b] [(1000,some (a9 ts))] (nA q) [(1000,some (a9 ts))]:=by
 refine gF func259 (fun k z h=>bB h) ?_;refine gc hd ?_;refine gt (aJ (oo _ _) (aL rfl rfl rfl) aM rfl rfl) ?_;refine gR ?_;exact aA.keep (bi rfl)
theorem pH[c:Cy ts u k][ha:Zl ts u k a x w v](hs:w*u+v*k<200000000000) :
  Con prog 253 [.ptr 1000 0,nA a] [(1000,some (a9 ts))] (i64 (ak x)) [(1000,some (a9 ts))]:=by
 refine gF func253 (fun k z h=>bB h) ?_;refine gC (fun t11=>?_) (fun t11=>?_) (st1:=(2,0));cases t11;refine gc (H8 hs) ?_;refine gR ?_;exact aA.keep (bi rfl)
theorem wF{q:List Rat}(hd:FP 271 [an ts,nA a,nA b] (.tup [nA q,.v .nilIface])) :
  Con prog 153 [.ptr 1000 0,nA a,nA b] [(1000,some (a9 ts))] (nA q) [(1000,some (a9 ts))]:=by
 refine gF func153 (fun k z h=>bB h) ?_;refine gc hd ?_;refine gt (aJ (rh _ _) (aL rfl rfl rfl) aM rfl rfl) ?_;refine gR ?_;exact aA.keep (bi rfl)
theorem z6[c:Cy ts u k][ha:Zl ts u k a x w v](hs:w*u+v*k<200000000000) :
  Con prog 150 [.ptr 1000 0,nA a] [(1000,some (a9 ts))] (i64 (ak x)) [(1000,some (a9 ts))]:=by
 refine gF func150 (fun k z h=>bB h) ?_;refine gC (fun t11=>?_) (fun t11=>?_) (st1:=(2,0));cases t11;refine gc (H8 hs) ?_;refine gR ?_;exact aA.keep (bi rfl)
theorem yw[c:Cy ts u k](n:Int)(hn:-9223372036854775808<=n/\n<=9223372036854775807)[hq:Qz u (n:Rat) w'][ha:Zl ts u k a x w v](hs:w'*u+0*k+(w*u+v*k)<200000000000) :
  Con prog 257 [.ptr 1000 0,i64 n,nA a] [(1000,some (a9 ts))] (nA (sX (qE (n:Rat)*x))) [(1000,some (a9 ts))]:=by
 haveI:=Cy.zq (ts:=ts) (u:=u) (k:=k) (q:=(n:Rat)) (w:=w');have hm:=jg (ts:=ts) (u:=u) (k:=k) (a:=sh 0 ((n:Rat):Rat)) (b:=a) (x:=qE (n:Rat)) (y:=x) hs;refine gF func257 (fun k z h=>bB h) ?_;refine gc (m8 n hn) ?_;refine gc (oM (nN hn)) ?_;refine gt (aJ hm (aL rfl rfl rfl) aM rfl rfl) ?_;refine gR ?_;exact aA.keep (bi rfl)
theorem tM{p1 p2 v1 v2 c m1 m2 q1 q2:List Rat}(h1:Con prog 266 [.ptr 1000 0,nA c,nA v1] [(1000,some (a9 ts))] (nA m1) [(1000,some (a9 ts))])
  (h2:Con prog 266 [.ptr 1000 0,nA c,nA v2] [(1000,some (a9 ts))] (nA m2) [(1000,some (a9 ts))])
  (h3:Con prog 260 [.ptr 1000 0,nA p1,nA m1] [(1000,some (a9 ts))] (nA q1) [(1000,some (a9 ts))])
  (h4:Con prog 260 [.ptr 1000 0,nA p2,nA m2] [(1000,some (a9 ts))] (nA q2) [(1000,some (a9 ts))]) :
  Con prog 258 [.ptr 1000 0,ao p1 p2,nA c,ao v1 v2] [(1000,some (a9 ts))] (ao q1 q2) [(1000,some (a9 ts))]:=by
 refine gF func258 (fun k z h=>bB h) ?_;refine gt (aJ h1 (aL rfl rfl rfl) aM rfl rfl) ?_;refine gt (aJ h3 (aL rfl rfl rfl) aM rfl rfl) ?_;refine gt (aJ h2 (aL rfl rfl rfl) aM rfl rfl) ?_;refine gt (aJ h4 (aL rfl rfl rfl) aM rfl rfl) ?_;refine gD ?_;refine gR ?_;exact aA.keep (bi rfl)
theorem Gn{r e:Nat}(tw:Tw ts r)(ha:Nm ts.length e a)(he:e<=lm ts.length)(hs:0<=T.sgn (aj ts) ts.length (ad ts.length a)) :
  Con prog 261 [.ptr 1000 0,nA a] [(1000,some (a9 ts))] (nA (cc ts.length)) [(1000,some (a9 (aI ts a)))]:=by
 refine gF func261 (fun k z h=>bB h) ?_;refine gC (fun t12=>?_) (fun t12=>?_) (st1:=(2,0));cases t12;refine gc (Hs tw ha he hs) ?_;refine gC (fun t24=>?_) (fun t24=>?_) (st1:=(5,0));cases t24;refine gR ?_;exact aA.keep (bi rfl)
abbrev Ah(ts:LL)(ps:List AV):AV:=.agg [.lst 1 (ts.map nA),.lst 2 ps]
theorem N4{r:Nat}(tw:Tw ts r):Con prog 354 [.ptr 1000 0] [(1000,some (a9 ts))] (an ts) [(1000,some (a9 ts))]:=by
 have h3:=tw.three;have hqs:=tw.rb.qs tw.le;refine gF func354 (fun k z h=>bB h) ?_;refine gl ?_;refine gW (Wk.virt 900 1 rfl) ?_;refine aN [2,3,13,14] [1000,2] (fun(i:Nat)=>[(15,some (i64 i))]) (fun i=>[(3,some (.box [.ms 900 1 0 i])),(900,some (.row 1 ((ts.take i).map nA)))]) (fun i=>i<=ts.length) (fun i=>ts.length-i) 0 (zero_le _) ?_ (h2:=(.cons rfl (BlkSub.bL (.cons (.nM _ _ _) .nil) rfl) (.k .nil)));rintro i hi K1 J1;refine gC (fun t16=>?_) (fun t16=>?_) (st2:=(13,0))
 ·have hin:=aT t16;obtain⟨d,hd⟩:=az hin
  have hdl:d.length<=32:=by
   have h9:=tw.len i hin;rw[aO hd]at h9;have:2^i<=32:=bT (b:=5) oz;omega
  have hdq:=hqs d (mem_of_getElem? hd);refine gi (ay hd) ?_;refine gl ?_;refine gW (Wk.virt 901 3 rfl) ?_;refine aN [2,3,13,14,15,19,20] [1000,2,3,900] (fun(j:Nat)=>[(6,some (.ms 901 3 0 j)),(21,some (i64 j))]) (fun j=>[(901,some (.row 3 ((d.take j).map qA)))]) (fun j=>j<=d.length) (fun j=>d.length-j) 0 (zero_le _) ?_;rintro j hj K2 J2;refine gC (fun t22=>?_) (fun t22=>?_) (st2:=(11,0))
  ·have hjn:=aT t22;obtain ⟨q,hq⟩:=az hjn;have hadd:=n6 (rt q) (rt 0) (hdq q (mem_of_getElem? hq)).ok Qs.zero.ok;rw [uw,bt] at hadd;refine gi (ay hq) ?_;refine gc (Con.sA (.cons (.refl _) (.cons gL .nil)) hadd) ?_;refine gs (bO (.tmp rfl) rfl (by rw [length_map,length_take]; omega) (.tmp rfl) T67 rfl T45 rfl rfl (by simp only [length_cons,length_nil]; omega) rfl rfl) ?_ (10,0);refine gW (Wk.of (sl:=[(2,some (.ptr 2 0)),(3,some (.ptr 3 0)),(13,some (.lst 1 (ts.map nA))),(14,some (i64 ts.length)),(15,some (i64 i)),(6,some (.ms 30 3 0 (j + 1))),(19,some (nA d)),(20,some (i64 d.length)),(21,some (i64 j))]) (hp:=[(1000,some (a9 ts)),(2,some (.box [nS])),(3,some (.box [.ms 900 1 0 i])),(900,some (.row 1 ((ts.take i).map nA))),(30,some (.row 3 ((d.take (j + 1)).map qA)))]) aR (.k (.k (.k (.k (.cons rfl (BlkSub.of (by rw [cD hq,map_append]; rfl)) .nil)))))) ?_ (10,0)
   refine gW (Wk.rk (k:=30) (d:=901) rfl rfl) ?_;refine ga aE ?_;exact aH J2 (j+1) hjn
  have hjn:=a8 hj t22;subst hjn;refine gW ((Wk.freeze (k:=901) rfl).trans<|Wk.of (sl:=[(2,some (.ptr 2 0)),(3,some (.ptr 3 0)),(13,some (.lst 1 (ts.map nA))),(14,some (i64 ts.length)),(15,some (i64 i)),(6,some (nA d))]) (hp:=[(1000,some (a9 ts)),(2,some (.box [nS])),(3,some (.box [.ms 900 1 0 i])),(900,some (.row 1 ((ts.take i).map nA)))]) (.k (.k (.k (.k (.k (.cons rfl (Sub.of (by rw[bD (by simp)];simp[nA])) .nil)))))) (.k (.k (.k (.k .nil))))) ?_
  refine gs (bO (.tmp rfl) rfl (by rw[length_map,length_take];omega) (.tmp rfl) T35 rfl T67 rfl rfl (by simp only[length_cons,length_nil];omega) rfl rfl) ?_ (12,0);refine gW (Wk.of (sl:=[(2,some (.ptr 2 0)),(3,some (.ptr 3 0)),(13,some (.lst 1 (ts.map nA))),(14,some (i64 ts.length)),(15,some (i64 i))]) (hp:=[(1000,some (a9 ts)),(2,some (.box [nS])),(3,some (.box [.ms 36 1 0 (i+1)])),(36,some (.row 1 ((ts.take (i+1)).map nA)))]) aR (.k (.k (.k (.cons rfl (BlkSub.of (by rw[cD hd,map_append];rfl)) .nil))))) ?_ (12,0);refine gW (Wk.rk (k:=36) (d:=900) rfl rfl) ?_;refine ga aE ?_;exact aH J1 (i+1) hin
 have hin:=a8 hi t16;subst hin;refine gW ((Wk.freeze (k:=900) rfl).trans<|Wk.of (sl:=[(2,some (.ptr 2 0)),(3,some (.ptr 3 0))]) (hp:=[(1000,some (a9 ts)),(2,some (.box [nS])),(3,some (.box [.lst 1 (ts.map nA)]))]) aR (.k (.k (.cons rfl (BlkSub.bL (.cons (Sub.of (by rw[bD (by simp)];simp)) .nil) rfl) .nil)))) ?_;refine gR ?_;exact aA.keep (bi rfl)
theorem mn{r:Nat}(tw:Tw ts r)(ps:List AV):Con prog 255 [.ptr 1000 0,.lst 2 ps] [(1000,some (a9 ts))] (.tup [Ah ts ps,.v .nilIface]) [(1000,some (a9 ts))]:=by
 refine gF func255 (fun k z h=>bB h) ?_;refine gC (fun t10=>?_) (fun t10=>?_) (st1:=(2,0));cases t10;refine gt (aJ (N4 tw) (cG rfl) aM rfl rfl) ?_;refine gR ?_;exact aA.keep (bi rfl)
end
theorem ep(ts:LL)(a:List Rat):(aI ts a).length=ts.length+1:=by simp[aI]
theorem Ep{ts:LL}{a:List Rat}{j:Nat}(h:j<ts.length):(aI ts a).getD j []=ts.getD j []:=by
 unfold aI;rw[getD_eq_getElem?_getD,getD_eq_getElem?_getD,getElem?_append_left h]
theorem CB(ts:LL)(a:List Rat):(aI ts a).getD ts.length []=aS a (2^ts.length):=by
 unfold aI;rw[getD_eq_getElem?_getD,getElem?_append_right (le_refl _),Nat.sub_self];rfl
theorem B0{ts:LL}{a:List Rat}{j:Nat}(h:j<ts.length):aj (aI ts a) j=aj ts j:=by
 unfold aj;rw[Ep h]
theorem Ej{ts:LL}{a:List Rat}{j:Nat}(h:j<=ts.length)(x:T j):T.sgn (aj (aI ts a)) j x=T.sgn (aj ts) j x :=
 T.sgn_congr j (fun i hi=>B0 oz) x
theorem RB.ext{r e:Nat}{ts:LL}{a:List Rat}(h:RB r ts)(ha:Cb e a):RB (r+e) (aI ts a):=by
 obtain⟨D,N,h0,h1,h2,h3⟩:=h;obtain⟨D',N',k1,k2,k3⟩:=ha.wide (n:=2^ts.length);have hN:N<=2^r:=h3;refine⟨D*D',max (N*D') (N'*D),Nat.mul_pos h0 k1.1,?_,?_,?_⟩
 ·intro d hd;rcases List.mem_append.1 hd with h9 |h9
  ·exact((h1 d h9).scale k1.1).mono (Nat.le_max_left _ _)
  ·rw[List.mem_singleton.1 h9,Nat.mul_comm D];exact(k1.scale h0).mono (Nat.le_max_right _ _)
 ·rw[pow_add];exact Nat.mul_le_mul h2 k2
 ·rw[pow_add];refine Nat.max_le.2 ⟨Nat.mul_le_mul h3 k2,?_⟩;rw[Nat.mul_comm (2^r)];exact Nat.mul_le_mul k3 h2
theorem xH{r e:Nat}{ts:LL}{a:List Rat}(tw:Tw ts r)(h2:ts.length<=2)(ha:Nm ts.length e a)(he:r+e<=5000000000)(hs:0<=T.sgn (aj ts) ts.length (ad ts.length a)):Tw (aI ts a) (r+e):=by
 refine⟨by rw[ep];omega,?_,?_,tw.rb.ext ha.cb,he⟩
 ·intro j hj;rw[ep]at hj;rcases lt_or_ge j ts.length with h |h
  ·rw[Ep h];exact tw.len j h
  ·have : j = ts.length := by omega
   subst this;rw[CB];exact dw ha.nl.le
 ·intro j hj;rw[ep]at hj;rw[Ej oz];rcases lt_or_ge j ts.length with h |h
  ·rw[B0 h];exact tw.pos j h
  ·have : j = ts.length := by omega
   subst this
   have e1:aj (aI ts a) ts.length=ad ts.length a:=by
    show ad ts.length ((aI ts a).getD ts.length [])=_;rw[CB,s8]
   rw[e1];exact hs
theorem fH{ts:LL}{a l:List Rat}{e:Nat}(h:Nm ts.length e l)(h4:ts.length<=4):Nm (aI ts a).length e l:=by
 rw[ep];exact⟨by omega,h.nl.mono oz,h.cb⟩
theorem QE{ts:LL}{a l:List Rat}(h:Nl ts.length l):ak (dE (aI ts a) l)=ak (dE ts l):=by
 unfold ak dE;rw[ep];show T.sgn (aj (aI ts a)) (ts.length+1) (ad (ts.length+1) l)=_;rw[om (aj (aI ts a)) h.le (Nat.le_succ _),Ej (le_refl _)]
theorem n8{ts:LL}{a:List Rat}(h4:ts.length<=4):Nm (aI ts a).length 1 (cc ts.length):=by
 rw[ep];refine⟨by omega,.inr ⟨_,le_refl _,ul _⟩,1,1,⟨by omega,?_⟩,by omega,by omega⟩;intro q hq;unfold cc at hq;rcases List.mem_or_eq_of_mem_set hq with h |h
 ·rw[(List.mem_replicate.1 h).2];exact⟨0,by rw[Rat.zero_mul];rfl,by simp⟩
 ·rw[h];exact⟨1,by rw[Rat.one_mul];rfl,by simp⟩
theorem RP{r e k:Nat}{ts:LL}{a:List Rat}(tw:Tw ts r)(h1:ts.length<=1)(ha:Nm ts.length e a)(he:r+e<=5000000000)(hs:0<=T.sgn (aj ts) ts.length (ad ts.length a)){u:Nat}(hu:3<=u)(hk:3*(r+e)+6<=k):Cy (aI ts a) u k :=
 ⟨⟨r+e,xH tw oz ha he hs,by
  rw[ep];have h:=gz (r+e) (show ts.length+1<=2 by omega);have h2:eB (r+e) 2=3*(r+e)+6:=by simp only[eB];omega
  omega⟩,by omega,hu,by rw[ep];omega⟩
structure Mt where
  ts:LL
  ps:List (List Rat×List Rat)
abbrev bJ(p:List Rat×List Rat):AV:=ao p.1 p.2
abbrev Mt.av(m:Mt):AV:=Ah m.ts (m.ps.map bJ)
abbrev P2(ts:LL):Type:=Et ts×Et ts
abbrev P2.l{ts:LL}(p:P2 ts):List Rat×List Rat:=(sX p.1,sX p.2)
abbrev aQ{ts:LL}(X:Et ts)(x:Et ts):Et (aI ts (sX X)):=dE (aI ts (sX X)) (sX x)
section
variable{ts:LL}
def eh(d:Et ts):Et ts:=qE ((2:Int):Rat)*d
def fX(p q:P2 ts):P2 ts:=(q.1-p.1,q.2-p.2)
def en(p:P2 ts)(k:Et ts)(v:P2 ts):P2 ts:=(p.1+k*v.1,p.2+k*v.2)
def iA(p q:P2 ts)(z z2:Et ts):P2 ts:=en p ((z+au p q-z2)*iE (eh (au p q))) (fX p q)
def ek(X d:Et ts):Et (aI ts (sX X)):=dE _ (cc ts.length)*iE (aQ X (eh d))
def ic(X:Et ts)(f v:P2 ts)(c:Et (aI ts (sX X))):P2 (aI ts (sX X)):=en (aQ X f.1,aQ X f.2) c (qE ((-1:Int):Rat)*aQ X v.2,aQ X v.1)
def kc(p:P2 ts)(z z2:Et ts):Mt:=if ak (z-z2)≠0 then⟨ts,[]⟩else if 0<ak z then⟨[],[]⟩else⟨ts,[(en p 0 p).l]⟩
def dQ(p q:P2 ts)(z z2:Et ts):Mt :=
  if ak (au p q)=0 then kc p z z2
  else if ak (cm p z q z2)<0 then⟨ts,[]⟩
  else if ak (cm p z q z2)=0 then⟨ts,[(iA p q z z2).l]⟩
  else⟨aI ts (sX (cm p z q z2)),[(ic (cm p z q z2) (iA p q z z2) (fX p q) (ek (cm p z q z2) (au p q))).l,
    (ic (cm p z q z2) (iA p q z z2) (fX p q) (qE ((-1:Int):Rat)*ek (cm p z q z2) (au p q))).l]⟩
def jO(z z2:Et ts):Nat:=if ak (z-z2)=0/\0<ak z then 15 else 0
def eA(p q:P2 ts)(z z2:Et ts):Nat:=if ak (au p q)=0 then jO z z2 else 0
theorem u9:Sub (.agg [nS,nS]) (Ah [] []):=Sub.agg (.cons (.nil _ _ _) (.cons (.nil _ _ _) .nil)) rfl
end
theorem tE {ts : LL} {u k : Nat} [c : Cy ts u k] : Zl ts u k [] (0 : Et ts) 0 0 := ⟨by rw [iN]; exact E.zero_def.symm, by
 obtain⟨R,tw,_⟩:=c.ex;exact⟨tw.five,.inl rfl,Cb.nil.mono (zero_le _)⟩⟩
section
variable{ts:LL}{a b c a2 b2 c2:List Rat}{x y z x2 y2 z2:Et ts}
theorem Ug{r:Nat}(tw:Tw ts r)[c0:Cy ts 310000 65000][i1:Zl ts 310000 65000 a x 40 40][i2:Zl ts 310000 65000 b y 40 40][i3:Zl ts 310000 65000 c z 3 0][i6:Zl ts 310000 65000 c2 z2 3 0] :
  Con prog 254 [.ptr 1000 0,.agg [nA a,nA b,nA c],.agg [nA a2,nA b2,nA c2]] [(1000,some (a9 ts))]
   (.tup [(kc (x,y) z z2).av,bm (jO z z2)]) [(1000,some (a9 ts))]:=by
 haveI:=i1.zu;haveI:=i2.zu;haveI:=i3.zu;haveI:=i6.zu;have hm0:=Con.sA (.cons (.refl _) (.cons (Sub.nil 2 none 0) .nil)) (mn tw []);have m1:=lw (ts:=ts) (u:=310000) (k:=65000) (a:=c) (b:=c2) (by decide);have m2:=pH (ts:=ts) (u:=310000) (k:=65000) (a:=sX (z-z2)) (by decide);have m3:=pH (ts:=ts) (u:=310000) (k:=65000) (a:=c) (by decide);haveI zn:Zl ts 310000 65000 [] (0:Et ts) 0 0:=tE;have n1:=jg (ts:=ts) (u:=310000) (k:=65000) (a:=[]) (b:=a) (by decide);have n2:=jg (ts:=ts) (u:=310000) (k:=65000) (a:=[]) (b:=b) (by decide);have n3:=jG (ts:=ts) (u:=310000) (k:=65000) (a:=a) (b:=sX (0*x)) (by decide);have n4:=jG (ts:=ts) (u:=310000) (k:=65000) (a:=b) (b:=sX (0*y)) (by decide);have hal:=Con.sA (.cons (.refl _) (.cons (.refl _) (.cons (Sub.nil 3 none 0) (.cons (.refl _) .nil)))) (tM n1 n2 n3 n4);refine gF func254 (fun k z h=>bB h) ?_;refine gt (aX m1 (aL rfl rfl rfl) rfl rfl rfl) ?_;refine gt (aX m2 (bA rfl rfl) rfl rfl rfl) ?_;refine gC (fun t8=>?_) (fun t8=>?_)
 ·have h1:ak (z-z2)≠0:=sr t8;refine gt (aX hm0 (.cons (.tmp rfl) (.cons (.const _) .nil)) rfl rfl rfl) ?_;refine gR ?_;exact(aA.keep (bi rfl)).sub (Sub.of (by unfold kc jO;rw[VQ h1,VP (fun h=>h1 h.1)];rfl))
 have h1:ak (z-z2)=0:=Ax t8;refine gt (aX m3 (bA rfl rfl) rfl rfl rfl) ?_;refine gC (fun t22=>?_) (fun t22=>?_)
 ·have h2:0<ak z:=of_decide_eq_true t22;refine gR ?_;exact(aA.keep (bi rfl)).sub (by unfold kc jO;rw[VP oz,VQ h2,VQ ⟨h1,h2⟩];exact Sub.tup (.cons u9 (.cons (.refl _) .nil)))
 have h2:¬0<ak z:=of_decide_eq_false t22;refine gt (aX hal (.cons (.tmp rfl) (.cons (.tmp rfl) (.cons (.const _) (cG rfl)))) rfl rfl rfl) ?_;refine gt (aX (mn tw [ao (sX (x+0*x)) (sX (y+0*y))]) (bA rfl rfl) rfl rfl rfl) ?_;refine gR ?_;exact(aA.keep (bi rfl)).sub (Sub.of (by unfold kc jO;rw[VP oz,VP h2,VP (fun h=>h2 h.2)];rfl))
end
section
variable{rs:List (List Rt)}{r:Nat}{a b c a2 b2 c2:List Rat}{x y z x2 y2 z2:Et (llq rs)}
structure CirP(ts:LL)(p q:P2 ts)(z z2:Et ts):Prop where
  zd:Zu 310000 65000 (au p q) 320 327
  zX:Zu 310000 65000 (cm p z q z2) 976 989
  zt:Zu 310000 65000 (eh (au p q)) 321 328
  z1:Zu 310000 65000 (fX p q).1 80 81
  z2:Zu 310000 65000 (fX p q).2 80 81
theorem zN{ts:LL}{x y z x2 y2 z2:Et ts}(c:Ct ts 310000 65000)(h1:Zu 310000 65000 x 40 40)(h2:Zu 310000 65000 y 40 40)(h3:Zu 310000 65000 z 3 0)(h4:Zu 310000 65000 x2 40 40)(h5:Zu 310000 65000 y2 40 40)(h6:Zu 310000 65000 z2 3 0) :
  CirP ts (x,y) (x2,y2) z z2:=by
 haveI:=c;haveI:=h1;haveI:=h2;haveI:=h3;haveI:=h4;haveI:=h5;haveI:=h6
 haveI zd:=vF c h1 h2 h4 h5;haveI q4:Qz 310000 ((4:Int):Rat) 1:=Qz.int (c:=Ct.cx (c:=c)) (by decide);haveI q2:Qz 310000 ((2:Int):Rat) 1:=Qz.int (c:=Ct.cx (c:=c)) (by decide)
 exact⟨zd,(inferInstance:Zu 310000 65000 (qE ((4:Int):Rat)*(z*au (x,y) (x2,y2))-(z+au (x,y) (x2,y2)-z2)*(z+au (x,y) (x2,y2)-z2)) _ _),
  (inferInstance:Zu 310000 65000 (qE ((2:Int):Rat)*au (x,y) (x2,y2)) _ _),(inferInstance:Zu 310000 65000 (x2-x) _ _),(inferInstance:Zu 310000 65000 (y2-y) _ _)⟩
theorem Hz{ts:LL}{x y z x2 y2 z2:Et ts}[c0:Cy ts 310000 65000](hn:ts.length<=1)(h1:Zu 310000 65000 x 40 40)(h2:Zu 310000 65000 y 40 40)(h3:Zu 310000 65000 z 3 0)(h6:Zu 310000 65000 z2 3 0)(P:CirP ts (x,y) (x2,y2) z z2)
  (h0:ak (eh (au (x,y) (x2,y2)))≠0) :
  FP 271 [an ts,nA (sX (z+au (x,y) (x2,y2)-z2)),nA (sX (eh (au (x,y) (x2,y2))))] (.tup [nA (sX ((z+au (x,y) (x2,y2)-z2)*iE (eh (au (x,y) (x2,y2))))),.v .nilIface]) /\
  Zu 310000 65000 ((z+au (x,y) (x2,y2)-z2)*iE (eh (au (x,y) (x2,y2)))) 1931 1972/\Zu 310000 65000 (iA (x,y) (x2,y2) z z2).1 2051 2095/\Zu 310000 65000 (iA (x,y) (x2,y2) z z2).2 2051 2095:=by
 haveI:=h1;haveI:=h2;haveI:=h3;haveI:=h6;haveI:=P.zd;haveI:=P.zt
 have hd:=ot (ts:=ts) (u:=310000) (k:=65000) (a:=sX (z+au (x,y) (x2,y2)-z2)) (b:=sX (eh (au (x,y) (x2,y2)))) (j:=ts.length) P.zt.nm.nl (le_refl _) hn h0 (by decide);haveI zk:=hd.2;haveI:=P.z1;haveI:=P.z2
 exact⟨hd.1,zk,(inferInstance:Zu 310000 65000 (x+((z+au (x,y) (x2,y2)-z2)*iE (eh (au (x,y) (x2,y2))))*(fX (x,y) (x2,y2)).1) _ _),
  (inferInstance:Zu 310000 65000 (y+((z+au (x,y) (x2,y2)-z2)*iE (eh (au (x,y) (x2,y2))))*(fX (x,y) (x2,y2)).2) _ _)⟩
structure ExtP{ts:LL}(X:Et ts):Prop where
  tw:Tw (aI ts (sX X)) 366909990
  cy:Cy (aI ts (sX X)) 773000000 1101400000
theorem oI{ts:LL}{X:Et ts}(tw:Tw ts 64990)(hn:ts.length<=1)(hx:Zu 310000 65000 X 976 989)(hs:0<=ak X):ExtP X:=by
 have h9:0<=T.sgn (aj ts) ts.length (ad ts.length (sX X)):=by rw[show ad ts.length (sX X)=X from bq _ _];exact hs
 have hm:=hx.nm;exact⟨xH tw oz hm (by decide) h9,RP tw hn hm (by decide) h9 oz (by decide)⟩
theorem gM{ts:LL}{X x:Et ts}{w v:Nat}(hn:ts.length<=1)(h:Zu 310000 65000 x w v)(hs:w*310000+v*65000<=773000000):Zl (aI ts (sX X)) 773000000 1101400000 (sX x) (aQ X x) 1 0:=Zl.at (fH h.nm oz) hs
theorem tT{ts:LL}{X x:Et ts}:ak (aQ X x)=ak x:=by
 show ak (dE (aI ts (sX X)) (sX x))=_;rw[QE (l:=sX x) (eg _ _)];show ak (dE ts (sX x))=_;rw[show dE ts (sX x)=x from bq _ _]
theorem wQ{ts:LL}{r:Nat}(tw:Tw ts r)(d:Et ts):ak (eh d)=ak d:=by
 have h:=mu (aj ts) ts.length tw.pos
 have h2:sg (aj ts) ts.length (qE ((2:Int):Rat):Et ts)=1:=by
  show T.sgn (aj ts) ts.length (T.ofQ ts.length ((2:Int):Rat))=1;rw[T.sgn_ofQ];rfl
 have h3:=h.mul (qE ((2:Int):Rat)) d;rw[h2,Int.one_mul]at h3;exact h3
structure SideP{ts:LL}(X d:Et ts)(f v:P2 ts):Prop where
  hd:FP 271 [an (aI ts (sX X)),nA (cc ts.length),nA (sX (eh d))] (.tup [nA (sX (ek X d)),.v .nilIface])
  ht:Con prog 257 [.ptr 1000 0,i64 (-1),nA (sX v.2)] [(1000,some (a9 (aI ts (sX X))))] (nA (sX (qE ((-1:Int):Rat)*aQ X v.2))) [(1000,some (a9 (aI ts (sX X))))]
  hu:Con prog 257 [.ptr 1000 0,i64 (-1),nA (sX (ek X d))] [(1000,some (a9 (aI ts (sX X))))] (nA (sX (qE ((-1:Int):Rat)*ek X d))) [(1000,some (a9 (aI ts (sX X))))]
  a1:Con prog 258 [.ptr 1000 0,ao (sX f.1) (sX f.2),nA (sX (ek X d)),ao (sX (qE ((-1:Int):Rat)*aQ X v.2)) (sX v.1)] [(1000,some (a9 (aI ts (sX X))))] (bJ (ic X f v (ek X d)).l) [(1000,some (a9 (aI ts (sX X))))]
  a2:Con prog 258 [.ptr 1000 0,ao (sX f.1) (sX f.2),nA (sX (qE ((-1:Int):Rat)*ek X d)),ao (sX (qE ((-1:Int):Rat)*aQ X v.2)) (sX v.1)] [(1000,some (a9 (aI ts (sX X))))] (bJ (ic X f v (qE ((-1:Int):Rat)*ek X d)).l) [(1000,some (a9 (aI ts (sX X))))]
  n1:Zu 773000000 1101400000 (ic X f v (ek X d)).1 9 6/\Zu 773000000 1101400000 (ic X f v (ek X d)).2 9 6
  n2:Zu 773000000 1101400000 (ic X f v (qE ((-1:Int):Rat)*ek X d)).1 10 7/\Zu 773000000 1101400000 (ic X f v (qE ((-1:Int):Rat)*ek X d)).2 10 7
theorem Dh{ts:LL}{X d:Et ts}{f v:P2 ts}(hn:ts.length<=1)(E:ExtP X)(hd:Zu 310000 65000 (eh d) 321 328)(h0:ak (eh d)≠0)(f1:Zu 310000 65000 f.1 2051 2095)(f2:Zu 310000 65000 f.2 2051 2095)
  (v1:Zu 310000 65000 v.1 80 81) (v2:Zu 310000 65000 v.2 80 81):SideP X d f v:=by
 haveI cy:=E.cy;haveI zr:Zl (aI ts (sX X)) 773000000 1101400000 (cc ts.length) (dE _ (cc ts.length)) 1 0:=Zl.at (n8 oz) (by decide);haveI zd:=gM (X:=X) hn hd (by decide);haveI zf1:=gM (X:=X) hn f1 (by decide);haveI zf2:=gM (X:=X) hn f2 (by decide);haveI zv1:=gM (X:=X) hn v1 (by decide);haveI zv2:=gM (X:=X) hn v2 (by decide);haveI:=zf1.zu;haveI:=zf2.zu;haveI:=zv1.zu;haveI:=zv2.zu
 have hdiv:=ot (ts:=aI ts (sX X)) (u:=773000000) (k:=1101400000) (a:=cc ts.length) (b:=sX (eh d)) (j:=ts.length) hd.nm.nl (by rw[ep];omega) hn (by rw[tT];exact h0) (by decide);haveI zs:Zu 773000000 1101400000 (ek X d) 6 3:=hdiv.2;haveI qm:Qz 773000000 ((-1:Int):Rat) 1:=Qz.int (c:=Cy.cx (c:=cy)) (by decide);haveI zm:Zu 773000000 1101400000 (qE ((-1:Int):Rat)*aQ X v.2) 2 1:=inferInstance;haveI zu:Zu 773000000 1101400000 (qE ((-1:Int):Rat)*ek X d) 7 4:=inferInstance;have ht:=yw (ts:=aI ts (sX X)) (u:=773000000) (k:=1101400000) (a:=sX v.2) (-1) oz (by decide);have hu:=yw (ts:=aI ts (sX X)) (u:=773000000) (k:=1101400000) (a:=sX (ek X d)) (-1) oz (by decide)
 have al:∀{c:Et (aI ts (sX X))}{w k:Nat}(zc:Zu 773000000 1101400000 c w k),w<=7->k<=4 ->
   Con prog 258 [.ptr 1000 0,ao (sX f.1) (sX f.2),nA (sX c),ao (sX (qE ((-1:Int):Rat)*aQ X v.2)) (sX v.1)] [(1000,some (a9 (aI ts (sX X))))] (bJ (ic X f v c).l) [(1000,some (a9 (aI ts (sX X))))]:=by
  intro c w k zc hw hk;haveI:=zc;have m1:=jg (ts:=aI ts (sX X)) (u:=773000000) (k:=1101400000) (a:=sX c) (b:=sX (qE ((-1:Int):Rat)*aQ X v.2)) oz;have m2:=jg (ts:=aI ts (sX X)) (u:=773000000) (k:=1101400000) (a:=sX c) (b:=sX v.1) oz;have m3:=jG (ts:=aI ts (sX X)) (u:=773000000) (k:=1101400000) (a:=sX f.1) (b:=sX (c*(qE ((-1:Int):Rat)*aQ X v.2))) oz;have m4:=jG (ts:=aI ts (sX X)) (u:=773000000) (k:=1101400000) (a:=sX f.2) (b:=sX (c*aQ X v.1)) oz;exact tM m1 m2 m3 m4
 exact⟨hdiv.1,ht,hu,al zs oz oz,al zu oz oz,
  ⟨(inferInstance:Zu 773000000 1101400000 (aQ X f.1+ek X d*(qE ((-1:Int):Rat)*aQ X v.2)) 9 6),⟨(inferInstance:Zu 773000000 1101400000 (aQ X f.2+ek X d*aQ X v.1) _ _).nm.mono (by decide)⟩⟩,
  ⟨(inferInstance:Zu 773000000 1101400000 (aQ X f.1+qE ((-1:Int):Rat)*ek X d*(qE ((-1:Int):Rat)*aQ X v.2)) 10 7),⟨(inferInstance:Zu 773000000 1101400000 (aQ X f.2+qE ((-1:Int):Rat)*ek X d*aQ X v.1) _ _).nm.mono (by decide)⟩⟩⟩
theorem OD(h:TR rs 64990)(hc:bc rs=0)(hn:(llq rs).length<=1)[c0:Ct (llq rs) 310000 65000][i1:Zl (llq rs) 310000 65000 a x 40 40][i2:Zl (llq rs) 310000 65000 b y 40 40][i3:Zl (llq rs) 310000 65000 c z 3 0][i4:Zl (llq rs) 310000 65000 a2 x2 40 40][i5:Zl (llq rs) 310000 65000 b2 y2 40 40][i6:Zl (llq rs) 310000 65000 c2 z2 3 0]
  (ha:a=sX x) (hb:b=sX y) (s1:0<=ak z) (s2:0<=ak z2):FP 147 [cf rs,.agg [nA a,nA b,nA c],.agg [nA a2,nA b2,nA c2]] (.tup [(dQ (x,y) (x2,y2) z z2).av,bm (eA (x,y) (x2,y2) z z2)]):=by
 have hz:∀q∈[(a,b,c),(a2,b2,c2)],CiZ rs q:=fun q hq=>by
  simp only[mem_cons,not_mem_nil,or_false]at hq;rcases hq with rfl |rfl
  ·exact⟨i1.nm.mono oz,i2.nm.mono oz,i3.nm.mono oz,by show 0<=ak (dE (llq rs) c);rw[show dE (llq rs) c=z from i3.eq];exact s1⟩
  ·exact⟨i4.nm.mono oz,i5.nm.mono oz,i6.nm.mono oz,by show 0<=ak (dE (llq rs) c2);rw[show dE (llq rs) c2=z2 from i6.eq];exact s2⟩
 have hck:=UV h hc [(a,b,c),(a2,b2,c2)] hz (by show 2<=100;omega);obtain⟨tw,etw⟩:=bN h hc;haveI cy:Cy (llq rs) 310000 65000:=⟨c0.ex,by omega,by omega,by omega⟩
 have P:=zN c0 i1.zu i2.zu i3.zu i4.zu i5.zu i6.zu;haveI:=P.zd;haveI:=P.zX;haveI:=i3.zu;haveI:=i6.zu;have m1:=pH (ts:=llq rs) (u:=310000) (k:=65000) (a:=sX (au (x,y) (x2,y2))) (by decide);have m2:=pH (ts:=llq rs) (u:=310000) (k:=65000) (a:=sX (cm (x,y) z (x2,y2) z2)) (by decide);have m0:=Con.sA (.cons (.refl _) (.cons (Sub.nil 2 none 0) .nil)) (mn tw []);have w1:=lw (ts:=llq rs) (u:=310000) (k:=65000) (a:=a2) (b:=a) (by decide);have w2:=lw (ts:=llq rs) (u:=310000) (k:=65000) (a:=b2) (b:=b) (by decide);haveI q2:Qz 310000 ((2:Int):Rat) 1:=Qz.int (c:=Cy.cx (c:=cy)) (by decide);have t2:=yw (ts:=llq rs) (u:=310000) (k:=65000) (a:=sX (au (x,y) (x2,y2))) 2 oz (by decide);have k1:=jG (ts:=llq rs) (u:=310000) (k:=65000) (a:=c) (b:=sX (au (x,y) (x2,y2))) (by decide);have k2:=lw (ts:=llq rs) (u:=310000) (k:=65000) (a:=sX (z+au (x,y) (x2,y2))) (b:=c2) (by decide);subst ha;subst hb;refine af func147 ?_;refine gc hck ?_;refine gC (fun t24=>?_) (fun t24=>?_) (st1:=(3,0)) (st2:=(5,0));cases t24;refine gW (Wk.o (sl:=[(4,some (.ptr 4 0)),(5,some (.ptr 5 0)),(6,some (.ptr 6 0)),(9,some (.ptr 29 0))]) (hp:=[(4,some (.box [nA (sX x),nA (sX y),nA c])),(5,some (.box [nA a2,nA b2,nA c2])),(6,some (.box [nS,nS])),(29,some (dU rs))])) ?_;refine gt (aJ (Con.rB 29 rfl rfl rfl rfl (Ty h hc)) (aL rfl rfl rfl) aM rfl rfl) ?_ (6,0);refine gW (Wk.of (sl:=[(4,some (.ptr 4 0)),(5,some (.ptr 5 0)),(6,some (.ptr 6 0)),(9,some (.ptr 29 0)),(10,some (nA (sX (cm (x,y) z (x2,y2) z2)))),(11,some (nA (sX (au (x,y) (x2,y2)))))]) (hp:=[(4,some (.box [nA (sX x),nA (sX y),nA c])),(5,some (.box [nA a2,nA b2,nA c2])),(6,some (.box [nS,nS])),(29,some (a9 (llq rs)))]) aR (.k (.k (.k (.cons rfl (BlkSub.bL (.cons (.of (gY etw)) (.cons (.refl _) .nil)) rfl) .nil))))) ?_
 refine gt (aX (Con.rB 29 rfl rfl rfl rfl m1) (bA rfl rfl) rfl rfl rfl) ?_;refine gC (fun t40=>?_) (fun t40=>?_)
 ·have hd0:ak (au (x,y) (x2,y2))=0:=bV t40;refine gt (aX (Con.rB 29 rfl rfl rfl rfl (Ug (a:=sX x) (b:=sX y) (c:=c) (a2:=a2) (b2:=b2) (c2:=c2) tw)) (aL rfl rfl rfl) rfl rfl rfl) ?_;refine bf ?_;unfold dQ eA;rw[VQ hd0,VQ hd0]
 have hd0:¬ak (au (x,y) (x2,y2))=0:=cr t40;refine gt (aX (Con.rB 29 rfl rfl rfl rfl m2) (bA rfl rfl) rfl rfl rfl) ?_;refine gC (fun t51=>?_) (fun t51=>?_)
 ·have hx0:ak (cm (x,y) z (x2,y2) z2)<0:=of_decide_eq_true t51;refine gt (aX (Con.rB 29 rfl rfl rfl rfl m0) (.cons (.tmp rfl) (.cons (.const _) .nil)) rfl rfl rfl) ?_;refine bf ?_;unfold dQ eA;rw[VP hd0,VP hd0,VQ hx0];rfl
 have hx0:¬ak (cm (x,y) z (x2,y2) z2)<0:=of_decide_eq_false t51;have ht0:ak (eh (au (x,y) (x2,y2)))≠0:=by rw[wQ tw];exact hd0
 obtain⟨fd,fk,f1,f2⟩:=Hz hn i1.zu i2.zu i3.zu i6.zu P ht0;haveI:=fk;haveI:=P.z1;haveI:=P.z2;have g1:=jg (ts:=llq rs) (u:=310000) (k:=65000) (a:=sX ((z+au (x,y) (x2,y2)-z2)*iE (eh (au (x,y) (x2,y2))))) (b:=sX (fX (x,y) (x2,y2)).1) (by decide);have g2:=jg (ts:=llq rs) (u:=310000) (k:=65000) (a:=sX ((z+au (x,y) (x2,y2)-z2)*iE (eh (au (x,y) (x2,y2))))) (b:=sX (fX (x,y) (x2,y2)).2) (by decide);have g3:=jG (ts:=llq rs) (u:=310000) (k:=65000) (a:=sX x) (b:=sX ((z+au (x,y) (x2,y2)-z2)*iE (eh (au (x,y) (x2,y2)))*(fX (x,y) (x2,y2)).1)) (by decide);have g4:=jG (ts:=llq rs) (u:=310000) (k:=65000) (a:=sX y) (b:=sX ((z+au (x,y) (x2,y2)-z2)*iE (eh (au (x,y) (x2,y2)))*(fX (x,y) (x2,y2)).2)) (by decide);have gal:=tM g1 g2 g3 g4;refine gt (aX (Con.rB 29 rfl rfl rfl rfl w1) (aL rfl rfl rfl) rfl rfl rfl) ?_;refine gt (aX (Con.rB 29 rfl rfl rfl rfl w2) (aL rfl rfl rfl) rfl rfl rfl) ?_;refine gD ?_;refine gt (aX (Con.rB 29 rfl rfl rfl rfl t2) (.cons (.tmp rfl) (.cons (.const _) (cG rfl))) rfl rfl rfl) ?_;refine gt (aX (Con.rB 29 rfl rfl rfl rfl k1) (aL rfl rfl rfl) rfl rfl rfl) ?_;refine gt (aX (Con.rB 29 rfl rfl rfl rfl k2) (aL rfl rfl rfl) rfl rfl rfl) ?_;refine gt (aX (Con.rB 29 rfl rfl rfl rfl (sS fd)) (aL rfl rfl rfl) rfl rfl rfl) ?_;refine gt (aX (Con.rB 29 rfl rfl rfl rfl gal) (.cons (.tmp rfl) (aL rfl rfl rfl)) rfl rfl rfl) ?_;refine gD ?_;refine gC (fun t94=>?_) (fun t94=>?_)
 ·have hx1:ak (cm (x,y) z (x2,y2) z2)=0:=bV t94;refine gt (aX (Con.rB 29 rfl rfl rfl rfl (mn tw [bJ (iA (x,y) (x2,y2) z z2).l])) (bA rfl rfl) rfl rfl rfl) ?_;refine bf ?_;unfold dQ eA;rw[VP hd0,VP hd0,VP hx0,VQ hx1];rfl
 have hx1:¬ak (cm (x,y) z (x2,y2) z2)=0:=cr t94;have E:ExtP (cm (x,y) z (x2,y2) z2):=oI tw hn P.zX oz;have S:=Dh (X:=cm (x,y) z (x2,y2) z2) (d:=au (x,y) (x2,y2)) (f:=iA (x,y) (x2,y2) z z2) (v:=fX (x,y) (x2,y2)) hn E P.zt ht0 f1 f2 P.z1 P.z2;have hex:=Gn (a:=sX (cm (x,y) z (x2,y2) z2)) tw P.zX.nm (by rw[cy.lm];decide) (by rw[show ad (llq rs).length (sX (cm (x,y) z (x2,y2) z2))=cm (x,y) z (x2,y2) z2 from bq _ _];show 0<=ak (cm (x,y) z (x2,y2) z2);omega);refine gt (aJ (Con.rB 29 rfl rfl rfl rfl hex) (bA rfl rfl) aM rfl rfl) ?_;refine gt (aX (Con.rB 29 rfl rfl rfl rfl (sS S.hd)) (aL rfl rfl rfl) rfl rfl rfl) ?_;refine gt (aX (Con.rB 29 rfl rfl rfl rfl S.ht) (.cons (.tmp rfl) (.cons (.const _) (cG rfl))) rfl rfl rfl) ?_;refine gD ?_;refine gt (aX (Con.rB 29 rfl rfl rfl rfl S.a1) (.cons (.tmp rfl) (aL rfl rfl rfl)) rfl rfl rfl) ?_;refine gt (aX (Con.rB 29 rfl rfl rfl rfl S.hu) (.cons (.tmp rfl) (.cons (.const _) (cG rfl))) rfl rfl rfl) ?_;refine gt (aX (Con.rB 29 rfl rfl rfl rfl S.a2) (.cons (.tmp rfl) (aL rfl rfl rfl)) rfl rfl rfl) ?_;refine gt (aX (Con.rB 29 rfl rfl rfl rfl (mn E.tw [bJ (ic (cm (x,y) z (x2,y2) z2) (iA (x,y) (x2,y2) z z2) (fX (x,y) (x2,y2)) (ek (cm (x,y) z (x2,y2) z2) (au (x,y) (x2,y2)))).l,bJ (ic (cm (x,y) z (x2,y2) z2) (iA (x,y) (x2,y2) z z2) (fX (x,y) (x2,y2)) (qE ((-1:Int):Rat)*ek (cm (x,y) z (x2,y2) z2) (au (x,y) (x2,y2)))).l])) (bA rfl rfl) rfl rfl rfl) ?_;refine gD ?_;refine bf ?_;unfold dQ eA;rw[VP hd0,VP hd0,VP hx0,VP hx1];rfl
end
section
variable{ts:LL}
abbrev bu(p q:P2 ts):Et ts:=gN (aW q p) (aW q p)
abbrev bY(p q c:P2 ts):Et ts:=gN (aW q p) (aW c p)
abbrev jf(p q c:P2 ts):Et ts:=k9 (aW q p) (aW c p)
abbrev bb(p q c:P2 ts)(z:Et ts):Et ts:=bu p q*z-jf p q c*jf p q c
def fp(X:Et ts)(S:Et ts)(k:Et (aI ts (sX X))):Et (aI ts (sX X)):=k*iE (aQ X S)
def km(X:Et ts)(p v:P2 ts)(k:Et (aI ts (sX X))):P2 (aI ts (sX X)):=en (aQ X p.1,aQ X p.2) k (aQ X v.1,aQ X v.2)
abbrev bK(X:Et ts):Et (aI ts (sX X)):=dE _ (cc ts.length)
def eG(p q c:P2 ts)(z:Et ts):Mt :=
  if ak (bu p q)=0 then⟨[],[]⟩else if ak (bb p q c z)=-1 then⟨ts,[]⟩else if ak (bb p q c z)=0 then⟨ts,[(en p (bY p q c*iE (bu p q)) (aW q p)).l]⟩
  else⟨aI ts (sX (bb p q c z)),[(km (bb p q c z) p (aW q p) (fp (bb p q c z) (bu p q) (aQ (bb p q c z) (bY p q c)+bK (bb p q c z)))).l,
    (km (bb p q c z) p (aW q p) (fp (bb p q c z) (bu p q) (aQ (bb p q c z) (bY p q c)-bK (bb p q c z)))).l]⟩
def fw(p q:P2 ts):Nat:=if ak (bu p q)=0 then 8 else 0
structure LinP(p q c:P2 ts)(z:Et ts):Prop where
  v1:Zu 310000 65000 (aW q p).1 80 81
  v2:Zu 310000 65000 (aW q p).2 80 81
  w1:Zu 310000 65000 (aW c p).1 80 81
  w2:Zu 310000 65000 (aW c p).2 80 81
  zs:Zu 310000 65000 (bu p q) 320 327
  ze:Zu 310000 65000 (bY p q c) 320 327
  zc:Zu 310000 65000 (jf p q c) 320 327
  zX:Zu 310000 65000 (bb p q c z) 963 984
theorem Af{p q c:P2 ts}{z:Et ts}(c0:Cy ts 310000 65000)(h1:Zu 310000 65000 p.1 40 40)(h2:Zu 310000 65000 p.2 40 40)(h3:Zu 310000 65000 q.1 40 40)(h4:Zu 310000 65000 q.2 40 40)(h5:Zu 310000 65000 c.1 40 40)(h6:Zu 310000 65000 c.2 40 40)(h7:Zu 310000 65000 z 3 0):LinP p q c z:=by
 haveI:=c0;haveI:=h1;haveI:=h2;haveI:=h3;haveI:=h4;haveI:=h5;haveI:=h6;haveI:=h7
 haveI v1:=(inferInstance:Zu 310000 65000 (q.1-p.1) 80 81)
 haveI v2:=(inferInstance:Zu 310000 65000 (q.2-p.2) 80 81)
 haveI w1:=(inferInstance:Zu 310000 65000 (c.1-p.1) 80 81)
 haveI w2:=(inferInstance:Zu 310000 65000 (c.2-p.2) 80 81)
 haveI zs:Zu 310000 65000 (bu p q) 320 327:=(inferInstance:Zu 310000 65000 ((q.1-p.1)*(q.1-p.1)+(q.2-p.2)*(q.2-p.2)) _ _)
 haveI ze:Zu 310000 65000 (bY p q c) 320 327:=(inferInstance:Zu 310000 65000 ((q.1-p.1)*(c.1-p.1)+(q.2-p.2)*(c.2-p.2)) _ _)
 haveI zc:Zu 310000 65000 (jf p q c) 320 327:=(inferInstance:Zu 310000 65000 ((q.1-p.1)*(c.2-p.2)-(q.2-p.2)*(c.1-p.1)) _ _)
 exact⟨v1,v2,w1,w2,zs,ze,zc,inferInstance⟩
structure LinQ(p q c:P2 ts):Prop where
  hd:FP 271 [an ts,nA (sX (bY p q c)),nA (sX (bu p q))] (.tup [nA (sX (bY p q c*iE (bu p q))),.v .nilIface])
  al:Con prog 258 [.ptr 1000 0,ao (sX p.1) (sX p.2),nA (sX (bY p q c*iE (bu p q))),ao (sX (aW q p).1) (sX (aW q p).2)] [(1000,some (a9 ts))] (bJ (en p (bY p q c*iE (bu p q)) (aW q p)).l) [(1000,some (a9 ts))]
  n1:Zu 310000 65000 (en p (bY p q c*iE (bu p q)) (aW q p)).1 2040 2088
  n2:Zu 310000 65000 (en p (bY p q c*iE (bu p q)) (aW q p)).2 2040 2088
theorem FS{p q c:P2 ts}{z:Et ts}(c0:Cy ts 310000 65000)(hn:ts.length<=1)(h1:Zu 310000 65000 p.1 40 40)(h2:Zu 310000 65000 p.2 40 40)(P:LinP p q c z)(h0:ak (bu p q)≠0):LinQ p q c:=by
 haveI:=c0;haveI:=h1;haveI:=h2;haveI:=P.v1;haveI:=P.v2;haveI:=P.zs;haveI:=P.ze
 have hd:=ot (ts:=ts) (u:=310000) (k:=65000) (a:=sX (bY p q c)) (b:=sX (bu p q)) (j:=ts.length) P.zs.nm.nl (le_refl _) hn h0 (by decide);haveI:=hd.2;have m1:=jg (ts:=ts) (u:=310000) (k:=65000) (a:=sX (bY p q c*iE (bu p q))) (b:=sX (aW q p).1) (by decide);have m2:=jg (ts:=ts) (u:=310000) (k:=65000) (a:=sX (bY p q c*iE (bu p q))) (b:=sX (aW q p).2) (by decide);have m3:=jG (ts:=ts) (u:=310000) (k:=65000) (a:=sX p.1) (b:=sX (bY p q c*iE (bu p q)*(aW q p).1)) (by decide);have m4:=jG (ts:=ts) (u:=310000) (k:=65000) (a:=sX p.2) (b:=sX (bY p q c*iE (bu p q)*(aW q p).2)) (by decide);exact⟨hd.1,tM m1 m2 m3 m4,(inferInstance:Zu 310000 65000 (p.1+bY p q c*iE (bu p q)*(aW q p).1) _ _),(inferInstance:Zu 310000 65000 (p.2+bY p q c*iE (bu p q)*(aW q p).2) _ _)⟩
structure LinS(X:Et ts)(S:Et ts)(p v:P2 ts)(k:Et (aI ts (sX X))):Prop where
  hd:FP 271 [an (aI ts (sX X)),nA (sX k),nA (sX S)] (.tup [nA (sX (fp X S k)),.v .nilIface])
  al:Con prog 258 [.ptr 1000 0,ao (sX p.1) (sX p.2),nA (sX (fp X S k)),ao (sX v.1) (sX v.2)] [(1000,some (a9 (aI ts (sX X))))] (bJ (km X p v (fp X S k)).l) [(1000,some (a9 (aI ts (sX X))))]
  n1:Zu 773000000 1101400000 (km X p v (fp X S k)).1 9 6
  n2:Zu 773000000 1101400000 (km X p v (fp X S k)).2 9 6
theorem wW{X S:Et ts}{p v:P2 ts}{k:Et (aI ts (sX X))}(hn:ts.length<=1)(E:ExtP X)(hs:Zu 310000 65000 S 320 327)(h0:ak S≠0)(p1:Zu 310000 65000 p.1 40 40)(p2:Zu 310000 65000 p.2 40 40)(v1:Zu 310000 65000 v.1 80 81)(v2:Zu 310000 65000 v.2 80 81)
  (hk:Zu 773000000 1101400000 k 2 1):LinS X S p v k:=by
 haveI cy:=E.cy;haveI:=hk;haveI zs:=gM (X:=X) hn hs (by decide);haveI zp1:=gM (X:=X) hn p1 (by decide);haveI zp2:=gM (X:=X) hn p2 (by decide);haveI zv1:=gM (X:=X) hn v1 (by decide);haveI zv2:=gM (X:=X) hn v2 (by decide);haveI:=zp1.zu;haveI:=zp2.zu;haveI:=zv1.zu;haveI:=zv2.zu
 have hdiv:=ot (ts:=aI ts (sX X)) (u:=773000000) (k:=1101400000) (a:=sX k) (b:=sX S) (j:=ts.length) hs.nm.nl (by rw[ep];omega) hn (by rw[tT];exact h0) (by decide);haveI zk:Zu 773000000 1101400000 (fp X S k) 7 4:=hdiv.2;have m1:=jg (ts:=aI ts (sX X)) (u:=773000000) (k:=1101400000) (a:=sX (fp X S k)) (b:=sX v.1) (by decide);have m2:=jg (ts:=aI ts (sX X)) (u:=773000000) (k:=1101400000) (a:=sX (fp X S k)) (b:=sX v.2) (by decide);have m3:=jG (ts:=aI ts (sX X)) (u:=773000000) (k:=1101400000) (a:=sX p.1) (b:=sX (fp X S k*aQ X v.1)) (by decide);have m4:=jG (ts:=aI ts (sX X)) (u:=773000000) (k:=1101400000) (a:=sX p.2) (b:=sX (fp X S k*aQ X v.2)) (by decide);exact⟨hdiv.1,tM m1 m2 m3 m4,(inferInstance:Zu 773000000 1101400000 (aQ X p.1+fp X S k*aQ X v.1) 9 6),(inferInstance:Zu 773000000 1101400000 (aQ X p.2+fp X S k*aQ X v.2) 9 6)⟩
theorem BR{X:Et ts}{w v w' v' u k:Nat}(h:Zu u k X w v)(hw:w<=w')(hv:v<=v'):Zu u k X w' v':=⟨h.nm.mono (x8 hw hv)⟩
theorem KH{x:Int}(h:cond (cond (fu Value.nilIface) (aa .eql x 0) false) (fu Value.nilIface) false=true):x=0:=by
 cases h9:aa .eql x 0
 ·rw[h9]at h;cases h
 ·exact bV h9
theorem Jz{x:Int}(h:cond (cond (fu Value.nilIface) (aa .eql x 0) false) (fu Value.nilIface) false=false):x≠0:=by
 cases h9:aa .eql x 0
 ·exact cr h9
 ·rw[h9]at h;cases h
theorem Oc{x y:AV}{i:Nat}{Q:AV->Prop}(hi:i<2)(hx:Q x)(hy:Q y):∃z,[x,y][i]?=some z/\Q z:=by
 have h:i=0\/i=1:=by omega
 rcases h with rfl |rfl
 ·exact⟨x,rfl,hx⟩
 ·exact⟨y,rfl,hy⟩
theorem EY{r e:Nat}{a b c d:Et ts}(tw:Tw ts r)(hl:lm ts.length=200000000000)(h1:Nm ts.length e (sX a))(h2:Nm ts.length e (sX b))(h3:Nm ts.length e (sX c))(h4:Nm ts.length e (sX d))(he:e+e+kB r ts.length<=100000000000) :
  FP 77 [an ts,ao (sX a) (sX b),ao (sX c) (sX d)] (.tup [nA (sX (a*c+b*d)),.v .nilIface]):=by
 have h:=yA tw h1 h2 h3 h4 (by rw[hl];omega);rw[show ad ts.length (sX a)=a from bq _ _,show ad ts.length (sX b)=b from bq _ _,show ad ts.length (sX c)=c from bq _ _,show ad ts.length (sX d)=d from bq _ _]at h;exact h
theorem Vc{r e:Nat}{a b c d:Et ts}(tw:Tw ts r)(hl:lm ts.length=200000000000)(h1:Nm ts.length e (sX a))(h2:Nm ts.length e (sX b))(h3:Nm ts.length e (sX c))(h4:Nm ts.length e (sX d))(he:e+e+kB r ts.length<=100000000000) :
  FP 74 [an ts,ao (sX a) (sX b),ao (sX c) (sX d)] (.tup [nA (sX (a*d-b*c)),.v .nilIface]):=by
 have h:=GL tw h1 h2 h3 h4 (by rw[hl];omega);rw[show ad ts.length (sX a)=a from bq _ _,show ad ts.length (sX b)=b from bq _ _,show ad ts.length (sX c)=c from bq _ _,show ad ts.length (sX d)=d from bq _ _]at h;exact h
end
section
variable{rs:List (List Rt)}{c:List Rat}{o p q:P2 (llq rs)}{z:Et (llq rs)}
theorem Uk(h:TR rs 64990)(hc:bc rs=0)(hn:(llq rs).length<=1)(c0:Ct (llq rs) 310000 65000)(ho1:Zu 310000 65000 o.1 40 40)(ho2:Zu 310000 65000 o.2 40 40)(p1:Zu 310000 65000 p.1 40 40)(p2:Zu 310000 65000 p.2 40 40)(q1:Zu 310000 65000 q.1 40 40)(q2:Zu 310000 65000 q.2 40 40)
  [i3:Zl (llq rs) 310000 65000 c z 3 0] (s1:0<=ak z):FP 149 [cf rs,.agg [nA (sX o.1),nA (sX o.2),nA c],bJ p.l,bJ q.l] (.tup [(eG p q o z).av,bm (fw p q)]):=by
 obtain⟨tw,etw⟩:=bN h hc;haveI cy:Cy (llq rs) 310000 65000:=⟨c0.ex,by obtain⟨_,h9,_⟩:=c0;exact h9,by obtain⟨_,_,h9,_⟩:=c0;exact h9,by omega⟩
 have hlm:=cy.lm;have hck:=oT rs 64990 h;rw[hc]at hck;have P:=Af cy p1 p2 q1 q2 ho1 ho2 i3.zu;haveI:=ho1;haveI:=ho2;haveI:=p1;haveI:=p2;haveI:=q1;haveI:=q2;haveI:=P.v1;haveI:=P.v2;haveI:=P.w1;haveI:=P.w2;haveI:=P.zs;haveI:=P.ze;haveI:=P.zc;haveI:=P.zX
 have hci:=Jk (e:=40*310000+40*65000) h hc ho1.nm ho2.nm (i3.nm.mono (by decide)) (by rw[hlm];decide)
 have hra:=CE h hc [(sX o.1,sX o.2,c)] (fun y hy=>by
  rw[List.mem_singleton.1 hy];exact⟨ho1.nm.mono (by decide),ho2.nm.mono (by decide),i3.nm.mono (by decide),by show 0<=ak (dE (llq rs) c);rw[show dE (llq rs) c=z from i3.eq];exact s1⟩) (by show 1<=100;omega)
 have a1:=lw (ts:=llq rs) (u:=310000) (k:=65000) (a:=sX q.1) (b:=sX p.1) (by decide);have a2:=lw (ts:=llq rs) (u:=310000) (k:=65000) (a:=sX q.2) (b:=sX p.2) (by decide);have a3:=lw (ts:=llq rs) (u:=310000) (k:=65000) (a:=sX o.1) (b:=sX p.1) (by decide);have a4:=lw (ts:=llq rs) (u:=310000) (k:=65000) (a:=sX o.2) (b:=sX p.2) (by decide);have hkb:80*310000+81*65000+(80*310000+81*65000)+kB 64990 (llq rs).length<=100000000000:=by have:=uY hn;omega
 have b1:=EY tw hlm P.v1.nm P.v2.nm P.v1.nm P.v2.nm hkb;have b2:=EY tw hlm P.v1.nm P.v2.nm P.w1.nm P.w2.nm hkb;have b3:=Vc tw hlm P.v1.nm P.v2.nm P.w1.nm P.w2.nm hkb;rw[<- etw]at b1 b2 b3;have m1:=pH (ts:=llq rs) (u:=310000) (k:=65000) (a:=sX (bu p q)) (by decide);have m2:=jg (ts:=llq rs) (u:=310000) (k:=65000) (a:=sX (bu p q)) (b:=c) (by decide);have m3:=jg (ts:=llq rs) (u:=310000) (k:=65000) (a:=sX (jf p q o)) (b:=sX (jf p q o)) (by decide);haveI zz:=i3.zu;have m4:=lw (ts:=llq rs) (u:=310000) (k:=65000) (a:=sX (bu p q*z)) (b:=sX (jf p q o*jf p q o)) (by decide);have m5:=pH (ts:=llq rs) (u:=310000) (k:=65000) (a:=sX (bb p q o z)) (by decide);have m0:=Con.sA (.cons (.refl _) (.cons (Sub.nil 2 none 0) .nil)) (mn tw []);refine af func149 ?_;refine gc hck ?_;refine gC (fun t27=>?_) (fun t27=>?_) (st1:=(3,0));cases t27;refine gc hci ?_;refine gC (fun t34=>?_) (fun t34=>?_) (st1:=(6,0));cases t34;refine ge rfl ?_;refine aN [4,5,6,7,8,39,40] [4,5,6,7,8] (fun(i:Nat)=>[(41,some (i64 i))]) (fun _=>[]) (fun i=>i<=2) (fun i=>2-i) 0 (zero_le _) ?_;rintro i hi K1 J1;refine gC (fun t42=>?_) (fun t42=>?_)
 ·have hin:i<2:=aT (b:=2) t42;obtain⟨zz2,hz2,u,v,hu,hv,rfl⟩:=Oc (x:=bJ p.l) (y:=bJ q.l) (Q:=fun w=>∃u v,Nm (llq rs).length (40*310000+40*65000) u/\Nm (llq rs).length (40*310000+40*65000) v/\w=ao u v) hin ⟨_,_,p1.nm,p2.nm,rfl⟩ ⟨_,_,q1.nm,q2.nm,rfl⟩;refine gi hz2 ?_;refine gc (Ha h hc hu hv (by rw[hlm];decide)) ?_;refine gC (fun t49=>?_) (fun t49=>?_) (st1:=(12,0));cases t49;refine ga aE ?_;exact aH J1 (i+1) hin
 refine gc hra ?_;refine gC (fun t58=>?_) (fun t58=>?_) (st1:=(16,0)) (st2:=(18,0));cases t58;refine gW (Wk.of (sl:=[(4,some (.ptr 4 0)),(5,some (.ptr 5 0)),(6,some (.ptr 6 0)),(7,some (.ptr 7 0)),(8,some (.ptr 8 0)),(16,some (.ptr 63 0))]) (hp:=[(4,some (.box [.lst 1 (rs.map nR)])),(5,some (.box [nA (sX o.1),nA (sX o.2),nA c])),(6,some (.box [nA (sX p.1),nA (sX p.2)])),(7,some (.box [nA (sX q.1),nA (sX q.2)])),(8,some (.box [nS,nS])),(63,some (a9 (llq rs)))]) aR (.k (.k (.k (.k (.k (.cons rfl (BlkSub.bL (.cons (.of (gY etw)) (.cons (.refl _) .nil)) rfl) .nil))))))) ?_
 refine gt (aX (Con.rB 63 rfl rfl rfl rfl a1) (aL rfl rfl rfl) rfl rfl rfl) ?_;refine gt (aX (Con.rB 63 rfl rfl rfl rfl a2) (aL rfl rfl rfl) rfl rfl rfl) ?_;refine gD ?_;refine gt (aX (Con.rB 63 rfl rfl rfl rfl a3) (aL rfl rfl rfl) rfl rfl rfl) ?_;refine gt (aX (Con.rB 63 rfl rfl rfl rfl a4) (aL rfl rfl rfl) rfl rfl rfl) ?_;refine gD ?_;refine gc b1 ?_;refine gt (aX (Con.rB 63 rfl rfl rfl rfl (oo _ _)) (aL rfl rfl rfl) rfl rfl rfl) ?_;refine gu (ez rfl rfl rfl (fun h=>aX (Con.rB 63 rfl rfl rfl rfl m1) (.cons (.opt rfl (o1 h)) (.cons (.opt rfl (o1 h)) .nil)) rfl rfl rfl)) ?_;refine gC (fun t117=>?_) (fun t117=>?_)
 ·have h0:ak (bu p q)=0:=KH t117;refine gR ?_;exact bw (by unfold eG fw;rw[VQ h0,VQ h0];exact Sub.tup (.cons u9 (.cons (.refl _) .nil)))
 have h0:ak (bu p q)≠0:=Jz t117;have Q:=FS cy hn p1 p2 P h0;refine gc b2 ?_;refine gt (aX (Con.rB 63 rfl rfl rfl rfl (oo _ _)) (aL rfl rfl rfl) rfl rfl rfl) ?_;refine gc b3 ?_;refine gt (aX (Con.rB 63 rfl rfl rfl rfl (oo _ _)) (aL rfl rfl rfl) rfl rfl rfl) ?_;refine gt (aX (Con.rB 63 rfl rfl rfl rfl m2) (aL rfl rfl rfl) rfl rfl rfl) ?_;refine gt (aX (Con.rB 63 rfl rfl rfl rfl m3) (aL rfl rfl rfl) rfl rfl rfl) ?_;refine gt (aX (Con.rB 63 rfl rfl rfl rfl m4) (aL rfl rfl rfl) rfl rfl rfl) ?_;refine gt (aX (Con.rB 63 rfl rfl rfl rfl m5) (bA rfl rfl) rfl rfl rfl) ?_;refine gC (fun t150=>?_) (fun t150=>?_)
 ·have h1:ak (bb p q o z)=-1:=bV t150;refine gt (aX (Con.rB 63 rfl rfl rfl rfl m0) (.cons (.tmp rfl) (.cons (.const _) .nil)) rfl rfl rfl) ?_;refine bf ?_;unfold eG fw;rw[VP h0,VP h0,VQ h1];rfl
 have h1:¬ak (bb p q o z)=-1:=cr t150;refine gC (fun t156=>?_) (fun t156=>?_)
 ·have h2:ak (bb p q o z)=0:=bV t156;refine gt (aX (Con.rB 63 rfl rfl rfl rfl (sS Q.hd)) (aL rfl rfl rfl) rfl rfl rfl) ?_;refine gt (aX (Con.rB 63 rfl rfl rfl rfl Q.al) (.cons (.tmp rfl) (aL rfl rfl rfl)) rfl rfl rfl) ?_;refine gt (aX (Con.rB 63 rfl rfl rfl rfl (mn tw [bJ (en p (bY p q o*iE (bu p q)) (aW q p)).l])) (bA rfl rfl) rfl rfl rfl) ?_;refine gD ?_;refine bf ?_;unfold eG fw;rw[VP h0,VP h0,VP h1,VQ h2];rfl
 have h2:¬ak (bb p q o z)=0:=cr t156
 have hpos:0<=ak (bb p q o z):=by
  have:=T.sgn_cases (aj (llq rs)) (llq rs).length (bb p q o z);have e:ak (bb p q o z)=T.sgn (aj (llq rs)) (llq rs).length (bb p q o z):=rfl;omega
 have E:ExtP (bb p q o z):=oI tw hn (BR P.zX oz oz) hpos;haveI ce:=E.cy;haveI zr:Zl (aI (llq rs) (sX (bb p q o z))) 773000000 1101400000 (cc (llq rs).length) (dE _ (cc (llq rs).length)) 1 0:=Zl.at (n8 oz) (by decide);haveI ze':=gM (X:=bb p q o z) hn P.ze (by decide);haveI:=zr.zu;haveI:=ze'.zu
 have e1:=jG (ts:=aI (llq rs) (sX (bb p q o z))) (u:=773000000) (k:=1101400000) (a:=sX (bY p q o)) (b:=cc (llq rs).length) (by decide);have e2:=lw (ts:=aI (llq rs) (sX (bb p q o z))) (u:=773000000) (k:=1101400000) (a:=sX (bY p q o)) (b:=cc (llq rs).length) (by decide);have S1:=wW (p:=p) (v:=aW q p) hn E P.zs h0 p1 p2 P.v1 P.v2 (k:=aQ (bb p q o z) (bY p q o)+bK (bb p q o z)) inferInstance;have S2:=wW (p:=p) (v:=aW q p) hn E P.zs h0 p1 p2 P.v1 P.v2 (k:=aQ (bb p q o z) (bY p q o)-bK (bb p q o z)) inferInstance;have hex:=Gn (a:=sX (bb p q o z)) tw P.zX.nm (by rw[hlm];decide) (by rw[show ad (llq rs).length (sX (bb p q o z))=bb p q o z from bq _ _];exact hpos);refine gt (aJ (Con.rB 63 rfl rfl rfl rfl hex) (bA rfl rfl) aM rfl rfl) ?_;refine gt (aX (Con.rB 63 rfl rfl rfl rfl e1) (aL rfl rfl rfl) rfl rfl rfl) ?_;refine gt (aX (Con.rB 63 rfl rfl rfl rfl (sS S1.hd)) (aL rfl rfl rfl) rfl rfl rfl) ?_;refine gt (aX (Con.rB 63 rfl rfl rfl rfl S1.al) (.cons (.tmp rfl) (aL rfl rfl rfl)) rfl rfl rfl) ?_;refine gt (aX (Con.rB 63 rfl rfl rfl rfl e2) (aL rfl rfl rfl) rfl rfl rfl) ?_;refine gt (aX (Con.rB 63 rfl rfl rfl rfl (sS S2.hd)) (aL rfl rfl rfl) rfl rfl rfl) ?_;refine gt (aX (Con.rB 63 rfl rfl rfl rfl S2.al) (.cons (.tmp rfl) (aL rfl rfl rfl)) rfl rfl rfl) ?_;refine gt (aX (Con.rB 63 rfl rfl rfl rfl (mn E.tw [bJ (km (bb p q o z) p (aW q p) (fp (bb p q o z) (bu p q) (aQ (bb p q o z) (bY p q o)+bK (bb p q o z)))).l,bJ (km (bb p q o z) p (aW q p) (fp (bb p q o z) (bu p q) (aQ (bb p q o z) (bY p q o)-bK (bb p q o z)))).l])) (bA rfl rfl) rfl rfl rfl) ?_;refine gD ?_;refine bf ?_;unfold eG fw;rw[VP h0,VP h0,VP h1,VP h2];rfl
end
theorem LU(o:Option Nat):aa .geq (mK o) 0=o.isSome:=by
 cases o with
 |none=>rfl
 |some i=>exact decide_eq_true (by show(i:Int)>=0;omega)
theorem Pb(bs:List (Rat×Rat))(hl:bs.length<=281474976710656)(f:FuncId)(pre caps:List AV)(ok:Nat->Bool)
  (hf:∀(i:Nat)(b:Rat×Rat),bs[i]?=some b->(∀j,j<i->ok j=true)->FP f (pre++[qP b]++caps) (bl (!ok i))) :
  FP 353 [.lst 6 (bs.map qP),.cl f pre caps] (i64 (mK (df bs.length ok))):=by
 refine af func353 ?_;refine gl ?_;refine aN [0,1,7] [] (fun(i:Nat)=>[(8,some (i64 i))]) (fun _=>[]) (fun i=>i<=bs.length/\∀j,j<i->ok j=true) (fun i=>bs.length-i) 0 ⟨zero_le _,fun j h=>by omega⟩ ?_;rintro i ⟨hi,hj⟩ K1 J1;refine gC (fun t9=>?_) (fun t9=>?_)
 ·have hin:=aT t9;obtain⟨b,hb⟩:=az hin;refine gi (ay hb) ?_;refine gc (hf i b hb hj) ?_;refine gC (fun t16=>?_) (fun t16=>?_)
  ·have h2:=di t16;refine ae ?_;rw[iJ hin hj h2];rfl
  have h2:=dr t16;refine ga aE ?_;exact aH J1 (i+1) ⟨hin,fun j h9=>by rcases lt_or_ge j i with g |g;exact hj j g;(have:j=i:=by omega);subst this;exact h2⟩
 have hin:=a8 hi t9;subst hin;refine ae ?_;rw[iQ hj];rfl
theorem PA(bs:List (Rat×Rat))(hl:bs.length<=281474976710656)(f:FuncId)(pre caps:List AV)(ok:Nat->Bool)
  (hf:∀(i:Nat)(b:Rat×Rat),bs[i]?=some b->(∀j,j<i->ok j=true)->FP f (pre++[qP b]++caps) (bl (!ok i))) :
  FP 249 [.lst 6 (bs.map qP),.cl f pre caps] (bl (df bs.length ok).isSome):=by
 refine af func249 ?_;refine gc (Pb bs hl f pre caps ok hf) ?_;refine ae ?_;rw[<- LU];rfl
theorem UT{v:Rat×Rat}(hv:Sm 3000 v):FP 250 [qP v] (bl (decide (bF v v=0))):=by
 refine af func250 ?_;refine gc (FU hv hv oz oz) ?_;refine gc (TW ((hv.dot hv).qs oz)) ?_;refine ae ?_;rw[<- QC];rfl
def eC(vs:List (Rat×Rat)):Bool:=(df vs.length fun i=>!decide (bF (vs.getD i (0,0)) (vs.getD i (0,0))=0)).isSome
theorem IG(vs:List (Rat×Rat))(hl:vs.length<=281474976710656)(hv:∀v∈vs,Sm 3000 v):FP 145 [.lst 6 (vs.map qP)] (bl (eC vs)):=by
 refine af func145 ?_;refine gc (Con.sA (.cons (.refl _) (.cons ((Sub.fn0 _).trans (uq rfl)) .nil)) (PA vs hl 250 [] [] (fun i=>!decide (bF (vs.getD i (0,0)) (vs.getD i (0,0))=0)) (fun i b hb _=>by rw[Bool.not_not,aO hb];exact UT (hv b (mem_of_getElem? hb))))) ?_;refine ae ?_;rfl
theorem vf{v:Rat×Rat}(h:eC [v]=false):bF v v≠0:=by
 intro h0;have h1:df 1 (fun i=>!decide (bF ([v].getD i (0,0)) ([v].getD i (0,0))=0))=some 0:=iJ oz (fun j hj=>by omega) (by show(!decide (bF v v=0))=false;rw[h0];rfl);unfold eC at h;rw[show[v].length=1 from rfl,h1]at h;cases h
theorem xy{v w:Rat×Rat}(h:eC [v,w]=false):bF v v≠0/\bF w w≠0:=by
 unfold eC at h;rw[Option.isSome_eq_false_iff,Option.isNone_iff_eq_none]at h;have h2:=DS h;have h3:=h2 0 (by show 0<2;omega);have h4:=h2 1 (by show 1<2;omega);have h5:(!decide (bF v v=0))=true:=h3;have h6:(!decide (bF w w=0))=true:=h4;simp only[Bool.not_eq_true',decide_eq_false_iff_not]at h5 h6;exact⟨h5,h6⟩
theorem D4(i n:Nat)(hi:i<=100):FP 154 [i64 i,i64 n] (i64 (if n=1 then 0 else 1-2*(i:Int))):=by
 refine af func154 ?_;refine gC (fun t6=>?_) (fun t6=>?_)
 ·have h1 : n = 1 := by have := bV t6; omega
  refine ae ?_;rw[VQ h1];rfl
 have h1:¬n=1:=by have:=cr t6;omega
 refine ga (show _=2*(i:Int) by exact v7 oz) ?_;refine ga (show _=1-2*(i:Int) by exact dq oz) ?_;refine ae ?_;rw[VP h1];rfl
section
variable{ts:LL}
abbrev uK(u:Rat×Rat):Et ts:=qE (bF u u)
def dj(u:Rat×Rat)(w:P2 ts):Et ts:=(qE u.1*w.1+qE u.2*w.2)*iE (uK u)
def dk(u:Rat×Rat)(w:P2 ts):Et ts:=(qE u.1*w.2-qE u.2*w.1)*iE (uK u)
def um(u:Rat×Rat)(w:P2 ts)(p:Rat×Rat)(o:P2 ts):Et ts:=o.1-(dj u w*qE p.1-dk u w*qE p.2)
def tl(u:Rat×Rat)(w:P2 ts)(p:Rat×Rat)(o:P2 ts):Et ts:=o.2-(dk u w*qE p.1+dj u w*qE p.2)
def lC(u:Rat×Rat)(w:P2 ts)(p:Rat×Rat)(o:P2 ts):Pq:=⟨sX (dj u w),sX (dk u w),sX (um u w p o),sX (tl u w p o)⟩
theorem wS(ts:LL)(a b:List Rat):Con prog 72 [.ptr 1000 0,ao a b,.v .nilIface] [(1000,some (a9 ts))] (ao a b) [(1000,some (a9 ts))]:=by
 have h:=Gk (ts.map (List.map rt)) a b;rw[BZ]at h;exact h
theorem f0(q:Rat):ad ts.length (sh 0 (q:Rat))=(qE q:Et ts):=lc _ q
theorem fT{e:Nat}{q:Rat}(h5:ts.length<=5)(h:Qb e q):Nm ts.length e (sh 0 (q:Rat)):=Nm.ofQ h5 (Cb.one h)
structure BdP(ts:LL)(u:Rat×Rat)(w:P2 ts)(p:Rat×Rat)(o:P2 ts):Prop where
  dot:FP 77 [an ts,ao (sh 0 (u.1:Rat)) (sh 0 (u.2:Rat)),ao (sX w.1) (sX w.2)] (.tup [nA (sX (qE u.1*w.1+qE u.2*w.2)),.v .nilIface])
  crs:FP 74 [an ts,ao (sh 0 (u.1:Rat)) (sh 0 (u.2:Rat)),ao (sX w.1) (sX w.2)] (.tup [nA (sX (qE u.1*w.2-qE u.2*w.1)),.v .nilIface])
  d1:FP 271 [an ts,nA (sX (qE u.1*w.1+qE u.2*w.2)),nA (sh 0 (bF u u:Rat))] (.tup [nA (sX (dj u w)),.v .nilIface])
  d2:FP 271 [an ts,nA (sX (qE u.1*w.2-qE u.2*w.1)),nA (sh 0 (bF u u:Rat))] (.tup [nA (sX (dk u w)),.v .nilIface])
  tn:FP 178 [an ts,nA (sX (dj u w)),nA (sX (dk u w)),ao (sh 0 (p.1:Rat)) (sh 0 (p.2:Rat))] (.tup [ao (sX (dj u w*qE p.1-dk u w*qE p.2)) (sX (dk u w*qE p.1+dj u w*qE p.2)),.v .nilIface])
  s1:FP 163 [an ts,nA (sX o.1),nA (sX (dj u w*qE p.1-dk u w*qE p.2))] (.tup [nA (sX (um u w p o)),.v .nilIface])
  s2:FP 163 [an ts,nA (sX o.2),nA (sX (dk u w*qE p.1+dj u w*qE p.2))] (.tup [nA (sX (tl u w p o)),.v .nilIface])
  ok:Pq.ok ts.length 80000000000 (lC u w p o)
theorem Gp{r W A K F:Nat}{u p:Rat×Rat}{w o:P2 ts}(tw:Tw ts r)(h2:ts.length<=2)(hk:kB r ts.length<=K)(hu:Sm 3000 u)(hp:Sm 3000 p)(h0:bF u u≠0)
  (w1:Nm ts.length W (sX w.1)) (w2:Nm ts.length W (sX w.2)) (a1:Nm ts.length A (sX o.1)) (a2:Nm ts.length A (sX o.2)) (hW:3000<=W) (hF:4*W+10*K+A+100000<=F) (hF2:F<=80000000000):BdP ts u w p o:=by
 have hl:lm ts.length=200000000000:=by unfold lm;rw[VQ h2]
 have h5:=tw.five;have hu1:=fT (ts:=ts) h5 hu.x;have hu2:=fT (ts:=ts) h5 hu.y;have hp1:=fT (ts:=ts) h5 hp.x;have hp2:=fT (ts:=ts) h5 hp.y;have hnn:=fT (ts:=ts) h5 (hu.dot hu);have hkE:eB r ts.length<=K:=hk;have ew:∀x:Et ts,ad ts.length (sX x)=x:=fun x=>bq _ _
 have c1:=yA tw (hu1.mono (f:=W) oz) (hu2.mono oz) w1 w2 (by rw[hl];omega);have c2:=GL tw (hu1.mono (f:=W) oz) (hu2.mono oz) w1 w2 (by rw[hl];omega);have n1:=By tw hu1 hu2 w1 w2;have n2:=BD tw hu1 hu2 w1 w2;rw[f0,f0,ew,ew]at c1 c2 n1 n2
 have hs:T.sgn (aj ts) ts.length (ad ts.length (sh 0 (bF u u:Rat)))≠0:=by
  rw[lc,T.sgn_ofQ];intro h9;exact h0 (lN h9)
 have nb:Nl 0 (sh 0 (bF u u:Rat)):=eg 0 _;have d1:=zL tw n1 hnn (zero_le _) nb hs (by rw[hl];omega) (by simp only[iB];omega);have d2:=zL tw n2 hnn (zero_le _) nb hs (by rw[hl];omega) (by simp only[iB];omega);have m1:=s6 tw n1 hnn (zero_le _) nb hs (by rw[hl];omega) (by simp only[iB];omega);have m2:=s6 tw n2 hnn (zero_le _) nb hs (by rw[hl];omega) (by simp only[iB];omega);have e1:∀x:Et ts,ad ts.length (sh ts.length x)=x:=fun x=>bq _ _
 have f1:ad ts.length (sh ts.length (kH ts (qE u.1:Et ts) (qE u.2:Et ts) w.1 w.2))=(qE u.1*w.1+qE u.2*w.2:Et ts):=bq _ _;have f2:ad ts.length (sh ts.length (mR ts (qE u.1:Et ts) (qE u.2:Et ts) w.1 w.2))=(qE u.1*w.2-qE u.2*w.1:Et ts):=bq _ _;rw[f1,f0]at d1 m1;rw[f2,f0]at d2 m2;have k1:Nm ts.length (2*W+3*K+30000) (sX (dj u w)):=Nm.mono m1 (by simp only[iB];omega);have k2:Nm ts.length (2*W+3*K+30000) (sX (dk u w)):=Nm.mono m2 (by simp only[iB];omega);have c3:=zI tw k1 k2 (hp1.mono (f:=(2*W+3*K+30000)) oz) (hp2.mono oz) (by rw[hl];omega);have n3:=qU tw k1 k2 hp1 hp2;have n4:=pj tw k1 k2 hp1 hp2;rw[f0,f0,ew,ew]at c3 n3 n4;have s1:=oK tw a1 n3 (by rw[hl];omega);have s2:=oK tw a2 n4 (by rw[hl];omega);have m3:=a1.sub n3;have m4:=a2.sub n4;have f3:ad ts.length (sh ts.length (n7 ts (dj u w) (dk u w) (qE p.1:Et ts) (qE p.2:Et ts)))=(dj u w*qE p.1-dk u w*qE p.2:Et ts):=bq _ _;have f4:ad ts.length (sh ts.length (oU ts (dj u w) (dk u w) (qE p.1:Et ts) (qE p.2:Et ts)))=(dk u w*qE p.1+dj u w*qE p.2:Et ts):=bq _ _;rw[ew,f3]at s1 m3;rw[ew,f4]at s2 m4;exact⟨c1,c2,d1,d2,c3,s1,s2,k1.mono oz,k2.mono oz,Nm.mono m3 oz,Nm.mono m4 oz⟩
theorem GY{r:Nat}{u p:Rat×Rat}{w o:P2 ts}(tw:Tw ts r)(h2:ts.length<=2)(hk:kB r ts.length<=1101400000)(hu:Sm 3000 u)(hp:Sm 3000 p)(h0:bF u u≠0)
  (w1:Nm ts.length 17000000000 (sX w.1)) (w2:Nm ts.length 17000000000 (sX w.2)) (a1:Nm ts.length 773000000 (sX o.1)) (a2:Nm ts.length 773000000 (sX o.2)):BdP ts u w p o :=
 Gp (F:=80000000000) tw h2 hk hu hp h0 w1 w2 a1 a2 oz oz oz
theorem wd{a b c:List Rat}(h:FP 163 [an ts,nA a,nA b] (.tup [nA c,.v .nilIface])):Con prog 75 [.ptr 1000 0,nA a,nA b] [(1000,some (a9 ts))] (nA c) [(1000,some (a9 ts))]:=by
 refine gF func75 (fun k z h=>bB h) ?_;refine gc h ?_;refine gt (aJ (rh _ _) (aL rfl rfl rfl) aM rfl rfl) ?_;refine gR ?_;exact aA.keep (bi rfl)
theorem yM{u p:Rat×Rat}{w o:P2 ts}(hu:Sm 3000 u)(hp:Sm 3000 p)(B:BdP ts u w p o) :
  Con prog 143 [.ptr 1000 0,qP u,bJ w.l,qP p,bJ o.l] [(1000,some (a9 ts))] (lC u w p o).av [(1000,some (a9 ts))]:=by
 refine gF func143 (fun k z h=>bB h) ?_;refine gc (xn (hu.x.qs oz) (hu.y.qs oz)) ?_;refine gc (BU hu oz) ?_;refine gD ?_;refine gc B.dot ?_;refine gt (aX (rh _ _) (aL rfl rfl rfl) rfl rfl rfl) ?_;refine gt (aX (wF B.d1) (aL rfl rfl rfl) rfl rfl rfl) ?_;refine gc B.crs ?_;refine gt (aX (rh _ _) (aL rfl rfl rfl) rfl rfl rfl) ?_;refine gt (aX (wF B.d2) (aL rfl rfl rfl) rfl rfl rfl) ?_;refine gD ?_;refine gc (xn (hp.x.qs oz) (hp.y.qs oz)) ?_;refine gc B.tn ?_;refine gt (aX (wS _ _ _) (aL rfl rfl rfl) rfl rfl rfl) ?_;refine gD ?_;refine gt (aX (wd B.s1) (aL rfl rfl rfl) rfl rfl rfl) ?_;refine gt (aX (wd B.s2) (aL rfl rfl rfl) rfl rfl rfl) ?_;refine gD ?_;refine gR ?_;exact aA.keep (bi rfl)
end
structure Sv where
  ts:LL
  ps:List Pq
  mode:Int
abbrev Sv.av(s:Sv):AV:=.agg [.lst 1 (s.ts.map nA),.lst 4 (s.ps.map Pq.av),i64 s.mode]
structure Hd where
  p:Rat×Rat
  a:List Rat×List Rat
  c:Rat×Rat
abbrev Hd.av(h:Hd):AV:=.agg [bl (rt h.p.1).neg,ws (rt h.p.1).num,ws (rt h.p.1).den,bl (rt h.p.2).neg,ws (rt h.p.2).num,ws (rt h.p.2).den,nA h.a.1,nA h.a.2,bl (rt h.c.1).neg,ws (rt h.c.1).num,ws (rt h.c.1).den,bl (rt h.c.2).neg,ws (rt h.c.2).num,ws (rt h.c.2).den]
def jW(ts:LL)(h:Hd)(x:List Rat×List Rat):P2 ts:=(dE ts x.1-dE ts h.a.1,dE ts x.2-dE ts h.a.2)
def mU(ts:LL)(h:Hd):P2 ts:=(dE ts h.a.1,dE ts h.a.2)
def mc(ts:LL)(x:List Rat×List Rat)(h:Hd):Pq:=lC (bn h.c h.p) (jW ts h x) h.p (mU ts h)
structure HdP(ts:LL)(x:List Rat×List Rat)(h:Hd):Prop where
  hp:Sm 1000 h.p
  hc:Sm 1000 h.c
  s1:FP 163 [an ts,nA x.1,nA h.a.1] (.tup [nA (sX (jW ts h x).1),.v .nilIface])
  s2:FP 163 [an ts,nA x.2,nA h.a.2] (.tup [nA (sX (jW ts h x).2),.v .nilIface])
  e1:sX (dE ts h.a.1)=h.a.1
  e2:sX (dE ts h.a.2)=h.a.2
  b:BdP ts (bn h.c h.p) (jW ts h x) h.p (mU ts h)
theorem HdP.body{ts:LL}{x:List Rat×List Rat}{h:Hd}(H:HdP ts x h) :
  Con prog 143 [.ptr 1000 0,qP (bn h.c h.p),bJ (jW ts h x).l,qP h.p,ao h.a.1 h.a.2] [(1000,some (a9 ts))] (mc ts x h).av [(1000,some (a9 ts))]:=by
 have hb:=yM (Sm.mono (H.hc.sub H.hp) oz) (Sm.mono H.hp oz) H.b
 have e:bJ (mU ts h).l=ao h.a.1 h.a.2:=by
  show ao (sX (dE ts h.a.1)) (sX (dE ts h.a.2))=_;rw[H.e1,H.e2]
 rw[e]at hb;exact hb
def kv(m:Mt)(hs:List Hd)(i:Nat):Sv:=⟨m.ts,hs.map (mc m.ts (m.ps.getD i ([],[]))),if m.ps.length=1 then 0 else 1-2*(i:Int)⟩
def fa(m:Mt)(hs:List Hd)(n:Nat):List AV:=(List.range n).map fun i=>(kv m hs i).av
theorem lZ(m:Mt)(hs:List Hd)(n:Nat):(fa m hs n).length=n:=by simp[fa]
theorem Ab(m:Mt)(hs:List Hd)(n:Nat):fa m hs (n+1)=fa m hs n++[(kv m hs n).av]:=by unfold fa;rw[List.range_succ];simp
theorem Jg{m:Mt}{r:Nat}(tw:Tw m.ts r)(hs:List Hd)(hl:hs.length<=2)(ml:m.ps.length<=2)(H:∀x∈m.ps,∀h∈hs,HdP m.ts x h) :
  FP 148 [m.av,.lst 14 (hs.map Hd.av)] (.tup [.lst 3 (fa m hs m.ps.length),.v .nilIface]):=by
 refine af func148 ?_;refine gl ?_;refine gW (Wk.virt 900 3 rfl) ?_;refine aN [1,2,15,16] [2] (fun(i:Nat)=>[(6,some (.ms 900 3 0 i)),(17,some (i64 i))]) (fun i=>[(900,some (.row 3 (fa m hs i)))]) (fun i=>i<=m.ps.length) (fun i=>m.ps.length-i) 0 (zero_le _) ?_;rintro i hi K1 J1;refine gC (fun t18=>?_) (fun t18=>?_) (st2:=(17,0))
 ·have hin:=aT t18;obtain⟨x,hx⟩:=az hin;have hx9:m.ps.getD i ([],[])=x:=aO hx;have hxm:=mem_of_getElem? hx;refine gi (ay hx) ?_;refine gc (yJ tw) ?_;refine gl ?_;refine gc (D4 i m.ps.length oz) ?_;refine gD ?_ (7,0);refine gW (Wk.o (sl:=[(1,some (.lst 14 (hs.map Hd.av))),(2,some (.ptr 2 0)),(6,some (.ms 900 3 0 i)),(8,some (.ptr 8 0)),(9,some (.ptr 25 0)),(10,some (.ptr 10 0)),(15,some (.lst 2 (m.ps.map bJ))),(16,some (i64 m.ps.length)),(17,some (i64 i))]) (hp:=[(2,some (.box [.lst 1 (m.ts.map nA),.lst 2 (m.ps.map bJ)])),(8,some (.box [nA x.1,nA x.2])),(10,some (.box [.lst 1 (m.ts.map nA),nS,i64 (if m.ps.length=1 then 0 else 1-2*(i:Int))])),(25,some (a9 m.ts)),(900,some (.row 3 (fa m hs i)))])) ?_
  refine gl ?_;refine gW (Wk.virt 901 4 rfl) ?_;refine aN [1,2,8,9,10,15,16,17,35,36] [2,8,25,900] (fun(k:Nat)=>[(6,some (.ms 900 3 0 i)),(37,some (i64 k))]) (fun k=>[(10,some (.box [.lst 1 (m.ts.map nA),.ms 901 4 0 k,i64 (if m.ps.length=1 then 0 else 1-2*(i:Int))])),(901,some (.row 4 (((hs.take k).map (mc m.ts x)).map Pq.av)))]) (fun k=>k<=hs.length) (fun k=>hs.length-k) 0 (zero_le _) ?_ (h2:=(.cons rfl (BlkSub.bL (.cons (.refl _) (.cons (.nM _ _ _) (.cons (.refl _) .nil))) rfl) (.k .nil)))
  rintro k hk K2 J2;refine gC (fun t38=>?_) (fun t38=>?_) (st2:=(13,0))
  ·have hkn:=aT t38;obtain ⟨h,hh⟩:=az hkn;have Hh:=H x hxm h (mem_of_getElem? hh);refine gi (ay hh) ?_;refine gt (aX (Con.rB 25 rfl rfl rfl rfl (wd Hh.s1)) (aL rfl rfl rfl) rfl rfl rfl) ?_;refine gt (aX (Con.rB 25 rfl rfl rfl rfl (wd Hh.s2)) (aL rfl rfl rfl) rfl rfl rfl) ?_;refine gD ?_;refine gc (oN Hh.hc Hh.hp oz oz) ?_;refine gt (aX (Con.rB 25 rfl rfl rfl rfl Hh.body) (.cons (.tmp rfl) (.cons (.tmp rfl) (aL rfl rfl rfl))) rfl rfl rfl) ?_;refine gs (bO (.tmp rfl) rfl (by rw [length_map,length_map,length_take]; omega) (.tmp rfl) T38 rfl T69 rfl rfl (by dsimp only; simp only [length_cons,length_nil]; omega) rfl rfl) ?_;refine gD ?_ (12,0);refine gW (Wk.of (sl:=[(1,some (.lst 14 (hs.map Hd.av))),(2,some (.ptr 2 0)),(6,some (.ms 900 3 0 i)),(8,some (.ptr 8 0)),(9,some (.ptr 25 0)),(10,some (.ptr 10 0)),(15,some (.lst 2 (m.ps.map bJ))),(16,some (i64 m.ps.length)),(17,some (i64 i)),(35,some (.lst 14 (hs.map Hd.av))),(36,some (i64 hs.length)),(37,some (i64 k))]) (hp:=[(2,some (.box [.lst 1 (m.ts.map nA),.lst 2 (m.ps.map bJ)])),(8,some (.box [nA x.1,nA x.2])),(25,some (a9 m.ts)),(10,some (.box [.lst 1 (m.ts.map nA),.ms 71 4 0 (k + 1),i64 (if m.ps.length = 1 then 0 else 1 - 2 * (i:Int))])),(900,some (.row 3 (fa m hs i))),(71,some (.row 4 (((hs.take (k + 1)).map (mc m.ts x)).map Pq.av)))]) aR (.k (.k (.k (.k (.k (.cons rfl (BlkSub.of (by rw [cD hh,map_append,map_append]; rfl)) .nil))))))) ?_ (12,0)
   refine gW (Wk.rk (k:=71) (d:=901) rfl rfl) ?_;refine ga aE ?_;exact aH J2 (k+1) hkn
  have hkn:=a8 hk t38;subst hkn;refine gW ((Wk.freeze (k:=901) rfl).trans<|Wk.of (sl:=[(1,some (.lst 14 (hs.map Hd.av))),(2,some (.ptr 2 0)),(6,some (.ms 900 3 0 i)),(9,some (.ptr 25 0)),(10,some (.ptr 10 0)),(15,some (.lst 2 (m.ps.map bJ))),(16,some (i64 m.ps.length)),(17,some (i64 i))]) (hp:=[(2,some (.box [.lst 1 (m.ts.map nA),.lst 2 (m.ps.map bJ)])),(25,some (a9 m.ts)),(10,some (.box [.lst 1 (m.ts.map nA),.lst 4 ((hs.map (mc m.ts x)).map Pq.av),i64 (if m.ps.length=1 then 0 else 1-2*(i:Int))])),(900,some (.row 3 (fa m hs i)))]) aR (.k (.k (.cons rfl (BlkSub.bL (.cons (.refl _) (.cons (Sub.of (by rw[bD (by rw[length_map,length_map,length_take];omega),take_length])) (.cons (.refl _) .nil))) rfl) (.k .nil))))) ?_
  refine gC (fun t78=>?_) (fun t78=>?_) (st1:=(14,0));cases t78;refine gs (bO (.tmp rfl) rfl (lZ _ _ _).symm (.tmp rfl) T54 rfl T62 rfl rfl (by dsimp only;simp only[length_cons,length_nil];omega) rfl rfl) ?_ (16,0);refine gW (Wk.of (sl:=[(1,some (.lst 14 (hs.map Hd.av))),(2,some (.ptr 2 0)),(6,some (.ms 86 3 0 (i+1))),(15,some (.lst 2 (m.ps.map bJ))),(16,some (i64 m.ps.length)),(17,some (i64 i))]) (hp:=[(2,some (.box [.lst 1 (m.ts.map nA),.lst 2 (m.ps.map bJ)])),(86,some (.row 3 (fa m hs (i+1))))]) aR (.k (.cons rfl (BlkSub.of (by rw[Ab];unfold kv;rw[hx9])) .nil))) ?_ (16,0);refine gW (Wk.rk (k:=86) (d:=900) rfl rfl) ?_;refine ga aE ?_;exact aH J1 (i+1) hin
 have hin:=a8 hi t18;subst hin;refine gW ((Wk.freeze (k:=900) rfl).trans<|Wk.of (sl:=[(6,some (.lst 3 (fa m hs m.ps.length)))]) (hp:=[]) (.cons rfl (Sub.of (by rw[bD (lZ _ _ _).symm])) .nil) .nil) ?_;refine bf ?_;rfl
variable{P:Program}{N:Nat}{R:Array Oper}{s:AS}{pos:String}{after:Array Edge}
def vg(P:Program)(t:TypeId):Bool:=match P.underlying t with |some (.slice _)=>true |_=>false
theorem C0{t:TypeId}(h:vg P t=true):∃e,P.underlying t=some (.slice e):=by
 unfold vg at h;split at h
 ·exact⟨_,by assumption⟩
 ·cases h
theorem FI(w:World)(t e:TypeId)(a:Option Addr)(l c:Nat)(h:P.underlying t=some (.slice e)):(binOp .eql t (.slice a l c) (.slice none 0 0)).run P w=.ok (.bool a.isNone) w:=by
 simp only[binOp];simp[run_equal_slice_nil w t e a l c h]
theorem CS{d:Nat}{x:Operand}{sz:Nat}{e:AV}{es:List AV}{S T t:TypeId}(hx:Ev s x (.lst sz (e::es)))(hS:vg P S=true)(hN:Nat.blt d N=true) :
  Step P N R s ⟨some d,.binOp .eql S x (.const (.slice none 0 0)) T,t,pos,after,none⟩ ⟨some (.v (.bool false)),[],aw x,[]⟩ :=
 dF rfl rfl hN fun s' hag C m ac w hr=>⟨.bool false,by
  have h:=(hx.agree hag (fun _ h=>h)).rep hr;obtain⟨el,hel⟩:=C0 hS;generalize hu:ac.eval x=y at h
  have hy:∃b l cap,y=.slice (some b) l cap:=by
   cases h with
   |lst u hb hc hl hs h1 hu hrr=>exact⟨_,_,_,rfl⟩
  obtain⟨b,l,cap,rfl⟩:=hy;have e1:ac.eval (.const (.slice none 0 0))=.slice none 0 0:=rfl;simp[execOp,hu,e1,eqGuard,FI w S el (some b) l cap hel],.v _⟩
theorem DL{d:Nat}{x:Operand}{a:Option Addr}{l cap:Nat}{S T t:TypeId}(hx:Ev s x (.v (.slice a l cap)))(hS:vg P S=true)(hN:Nat.blt d N=true) :
  Step P N R s ⟨some d,.binOp .eql S x (.const (.slice none 0 0)) T,t,pos,after,none⟩ ⟨some (.v (.bool a.isNone)),[],aw x,[]⟩ :=
 dF rfl rfl hN fun s' hag C m ac w hr=>⟨.bool a.isNone,by
  have h:=(hx.agree hag (fun _ h=>h)).rep hr;obtain⟨el,hel⟩:=C0 hS;generalize hu:ac.eval x=y at h;cases h;have e1:ac.eval (.const (.slice none 0 0))=.slice none 0 0:=rfl;simp[execOp,hu,e1,eqGuard,FI w S el a l cap hel],.v _⟩
end Go.Lw
namespace Go.Lw
theorem Con.rekeyB1{P:Program}{f:FuncId}{k off:Nat}{x x':Blk}{y0:AV}{xs:List AV}{r:AV}(d:Nat)(hx:x.nm=[])(hx':x'.nm=[])(hy0:y0.nm=[])(hxs:(xs.all fun x=>x.nm.isEmpty)=true)(hr:r.nm=[])
  (h:Con P f (y0 :: .ptr k off::xs) [(k,some x)] r [(k,some x')]):Con P f (y0 :: .ptr d off::xs) [(d,some x)] r [(d,some x')]:=by
 refine⟨h.ok,?_⟩;intro ext m w vs hext hheap hvs hrep
 have h1 := h.ret ext (fun _ => m d) w vs hext (vL (k := d) hx rfl hheap) (by simpa using hvs) (by
  intro j v y hv hy;rw[jD (d:=k) (k:=d) (y:=x) (x:=x) (m2:=fun _=>m d) (m:=m) rfl]
  match j,hy with
  |0,hy =>
   cases hy;exact iT hy0 (hrep 0 v _ hv rfl)
  |1,hy =>
   cases hy;have h2:=hrep 1 v _ hv rfl;cases h2 with
   |ptr hm=>exact .ptr hm
  |j+2,hy =>
   have h2:=hrep (j+2) v y hv hy;refine iT ?_ h2;have:=List.all_eq_true.1 hxs y (mem_of_getElem? hy);simpa using this)
 refine Calls.mono h1 ?_;rintro e w' ⟨v,m',rfl,hf,hh,hn,hk,hrr⟩
 have ho:a6 [(k,some x)] (fun _=>m d)=a6 [(d,some x)] m:=by
  funext b;apply propext;rw[jy,jy]
 refine⟨v,fun _=>m' k,rfl,ho▸hf,vL (k:=k) hx' rfl hh,?_,?_,?_⟩
 ·intro k' x b hx hb;rw[<- ho];exact hn k _ b (by rw[aP,VQ rfl]) hb
 ·intro k' x y hx hy;obtain⟨rfl,_⟩:=fq hx;exact hk k _ _ (by rw[aP,VQ rfl]) (by rw[aP,VQ rfl])
 ·rw[jD (d:=d) (k:=k) (y:=x') (x:=x') (m2:=fun _=>m' k) (m:=m') rfl];exact iT hr hrr
open Go.Proofs
theorem mf{p q:Rat×Rat}(hp:Sm 1000 p)(hq:Sm 1000 q):Qz 310000 (ba p q) 3:=lU (Qf hp hq) oz
structure MtOk(ts:LL)(m:Mt):Prop where
  tw:∃r,Tw m.ts r/\kB r m.ts.length<=1101400000
  two:m.ts.length<=2
  ln:m.ps.length<=2
  ps:∀x∈m.ps,Nm m.ts.length 15500000000 x.1/\Nm m.ts.length 15500000000 x.2
  up:∀(e:Nat)(y:Et ts),Nm ts.length e (sX y)->Nm m.ts.length e (sX y)/\sX (dE m.ts (sX y))=sX y
theorem rN{ts:LL}(e:Nat)(y:Et ts)(h:Nm ts.length e (sX y)):Nm ts.length e (sX y)/\sX (dE ts (sX y))=sX y:=⟨h,congrArg (sh ts.length) (bq _ _)⟩
theorem nB{ts:LL}{X:Et ts}(hn:ts.length<=1)(e:Nat)(y:Et ts)(h:Nm ts.length e (sX y)):Nm (aI ts (sX X)).length e (sX y)/\sX (dE (aI ts (sX X)) (sX y))=sX y:=by
 refine⟨fH h oz,?_⟩;show sh (aI ts (sX X)).length (ad (aI ts (sX X)).length (sX y))=sX y;rw[ep,fV h.nl.le];show(if T.isZ ts.length (T.zero ts.length)=true then sh ts.length (ad ts.length (sX y))else _)=_;rw[VQ ((T.isZ_iff _ _).2 rfl)];exact congrArg (sh ts.length) (bq _ _)
theorem pu{ts:LL}{ps:List (List Rat×List Rat)}(tw:Tw ts 64990)(hn:ts.length<=1)(hl:ps.length<=2)(hp:∀x∈ps,Nm ts.length 15500000000 x.1/\Nm ts.length 15500000000 x.2):MtOk ts ⟨ts,ps⟩ :=
 ⟨⟨64990,tw,by have:=uY hn;show kB 64990 ts.length<=_;omega⟩,by show ts.length<=2;omega,hl,hp,rN⟩
theorem H7{ts:LL}{X:Et ts}{ps:List (List Rat×List Rat)}(E:ExtP X)(hn:ts.length<=1)(hl:ps.length<=2)(hp:∀x∈ps,Nm (aI ts (sX X)).length 15500000000 x.1/\Nm (aI ts (sX X)).length 15500000000 x.2):MtOk ts ⟨aI ts (sX X),ps⟩ :=
 ⟨⟨366909990,E.tw,by
  have h:=gz 366909990 (show ts.length+1<=2 by omega);have h2:eB 366909990 2=1100729976:=by decide
  show eB 366909990 (aI ts (sX X)).length<=_;rw[ep];omega⟩,by show(aI ts (sX X)).length<=2;rw[ep];omega,hl,hp,nB hn⟩
theorem rj{ts:LL}{m:Mt}(ok:MtOk ts m){x:List Rat×List Rat}(hx:x∈m.ps){p c:Rat×Rat}{o:P2 ts}(a1:Nm ts.length 773000000 (sX o.1))(a2:Nm ts.length 773000000 (sX o.2))(hp:Sm 1000 p)(hc:Sm 1000 c)
  (h0:bF (bn c p) (bn c p)≠0):HdP m.ts x ⟨p,o.l,c⟩:=by
 obtain⟨r,tw,hk⟩:=ok.tw;obtain⟨n1,n2⟩:=ok.ps x hx;obtain⟨b1,e1⟩:=ok.up _ _ a1;obtain⟨b2,e2⟩:=ok.up _ _ a2;have hl:lm m.ts.length=200000000000:=by unfold lm;rw[VQ ok.two]
 refine⟨hp,hc,oK tw n1 b1 (by rw[hl];omega),oK tw n2 b2 (by rw[hl];omega),e1,e2,GY tw ok.two hk ((hc.sub hp).mono oz) (hp.mono oz) h0 ((n1.sub b1).mono oz) ((n2.sub b2).mono oz) ?_ ?_⟩
 ·show Nm m.ts.length 773000000 (sX (dE m.ts (sX o.1)));rw[e1];exact b1
 ·show Nm m.ts.length 773000000 (sX (dE m.ts (sX o.2)));rw[e2];exact b2
theorem jQ{α:Type}{P:α->Prop}{x y:α}(hx:P x)(hy:P y):∀z∈[x,y],P z:=by
 intro z hz;rcases List.mem_cons.1 hz with rfl |hz
 ·exact hx
 ·rw[List.mem_singleton.1 hz];exact hy
theorem gS{α:Type}{P:α->Prop}{x:α}(hx:P x):∀z∈[x],P z:=by
 intro z hz;rw[List.mem_singleton.1 hz];exact hx
theorem xF{ts:LL}{x y z x2 y2 z2:Et ts}(tw:Tw ts 64990)(hn:ts.length<=1)(c:Ct ts 310000 65000)(h1:Zu 310000 65000 x 40 40)(h2:Zu 310000 65000 y 40 40)(h3:Zu 310000 65000 z 3 0)(h4:Zu 310000 65000 x2 40 40)(h5:Zu 310000 65000 y2 40 40)(h6:Zu 310000 65000 z2 3 0)
  (h0:eA (x,y) (x2,y2) z z2=0):MtOk ts (dQ (x,y) (x2,y2) z z2):=by
 have P:=zN c h1 h2 h3 h4 h5 h6;have ce:=c.ex;have ck:=c.k1;have cu:=c.u3;haveI cy:Cy ts 310000 65000:=⟨ce,ck,cu,by omega⟩
 unfold eA at h0;unfold dQ
 by_cases hd:ak (au (x,y) (x2,y2))=0
 ·rw[VQ hd]at h0 ⊢;unfold jO at h0;unfold kc
  by_cases hz:ak (z-z2)≠0
  ·rw[VQ hz];exact pu tw hn (by simp) (by simp)
  ·rw[VP hz]
   by_cases hp:0<ak z
   ·rw[VQ ⟨Decidable.not_not.1 hz,hp⟩]at h0;cases h0
   ·rw[VP hp];haveI:=h1;haveI:=h2
    refine pu tw hn (by simp) (gS ⟨?_,?_⟩)
    ·exact(inferInstance:Zu 310000 65000 (x+0*x) _ _).nm.mono (by decide)
    ·exact(inferInstance:Zu 310000 65000 (y+0*y) _ _).nm.mono (by decide)
 ·rw [VP hd];have ht0:ak (eh (au (x,y) (x2,y2))) ≠ 0:=by rw [wQ tw]; exact hd
  by_cases hx0:ak (cm (x,y) z (x2,y2) z2)<0
  ·rw[VQ hx0];exact pu tw hn (by simp) (by simp)
  ·rw[VP hx0];obtain⟨_,_,f1,f2⟩:=Hz hn h1 h2 h3 h6 P ht0
   by_cases hx1:ak (cm (x,y) z (x2,y2) z2)=0
   ·rw[VQ hx1];exact pu tw hn (by simp) (gS ⟨f1.nm.mono (by decide),f2.nm.mono (by decide)⟩)
   ·rw[VP hx1];have E:ExtP (cm (x,y) z (x2,y2) z2):=oI tw hn P.zX oz;have S:=Dh (X:=cm (x,y) z (x2,y2) z2) (d:=au (x,y) (x2,y2)) (f:=iA (x,y) (x2,y2) z z2) (v:=fX (x,y) (x2,y2)) hn E P.zt ht0 f1 f2 P.z1 P.z2;exact H7 E hn (by simp) (jQ ⟨S.n1.1.nm.mono (by decide),S.n1.2.nm.mono (by decide)⟩ ⟨S.n2.1.nm.mono (by decide),S.n2.2.nm.mono (by decide)⟩)
theorem Bk{ts:LL}{o p q:P2 ts}{z:Et ts}(tw:Tw ts 64990)(hn:ts.length<=1)(c:Ct ts 310000 65000)(o1:Zu 310000 65000 o.1 40 40)(o2:Zu 310000 65000 o.2 40 40)(p1:Zu 310000 65000 p.1 40 40)(p2:Zu 310000 65000 p.2 40 40)(q1:Zu 310000 65000 q.1 40 40)(q2:Zu 310000 65000 q.2 40 40)
  (i3:Zu 310000 65000 z 3 0) (h0:fw p q=0):MtOk ts (eG p q o z):=by
 have ce:=c.ex;have ck:=c.k1;have cu:=c.u3;haveI cy:Cy ts 310000 65000:=⟨ce,ck,cu,by omega⟩
 have P:=Af cy p1 p2 q1 q2 o1 o2 i3;unfold fw at h0;unfold eG
 by_cases hs:ak (bu p q)=0
 ·rw[VQ hs]at h0;cases h0
 ·rw[VP hs]
  by_cases h1:ak (bb p q o z)=-1
  ·rw[VQ h1];exact pu tw hn (by simp) (by simp)
  ·rw[VP h1]
   by_cases h2:ak (bb p q o z)=0
   ·rw[VQ h2];have Q:=FS cy hn p1 p2 P hs;exact pu tw hn (by simp) (gS ⟨Q.n1.nm.mono (by decide),Q.n2.nm.mono (by decide)⟩)
   ·rw[VP h2]
    have hpos:0<=ak (bb p q o z):=by
     have:=T.sgn_cases (aj ts) ts.length (bb p q o z);have e:ak (bb p q o z)=T.sgn (aj ts) ts.length (bb p q o z):=rfl;omega
    have E:ExtP (bb p q o z):=oI tw hn (BR P.zX oz oz) hpos;haveI ce:=E.cy;haveI zr:Zl (aI ts (sX (bb p q o z))) 773000000 1101400000 (cc ts.length) (dE _ (cc ts.length)) 1 0:=Zl.at (n8 oz) (by decide);haveI ze':=gM (X:=bb p q o z) hn P.ze (by decide);haveI:=zr.zu;haveI:=ze'.zu
    have S1:=wW (p:=p) (v:=aW q p) hn E P.zs hs p1 p2 P.v1 P.v2 (k:=aQ (bb p q o z) (bY p q o)+bK (bb p q o z)) inferInstance;have S2:=wW (p:=p) (v:=aW q p) hn E P.zs hs p1 p2 P.v1 P.v2 (k:=aQ (bb p q o z) (bY p q o)-bK (bb p q o z)) inferInstance;exact H7 E hn (by simp) (jQ ⟨S1.n1.nm.mono (by decide),S1.n2.nm.mono (by decide)⟩ ⟨S2.n1.nm.mono (by decide),S2.n2.nm.mono (by decide)⟩)
abbrev ra(r:List AV×Nat):AV:=.tup [.lst 3 r.1,bm r.2]
def j8(l:Li)(a:As)(i k:Int)(j0 j1 j2:Jt):List AV×Nat :=
  if eC [bn (ah l j2 i) (ah l j0 i),bn (ah l j2 k) (ah l j1 k)]=true then([],15)
  else if eA (am l a j0 i) (am l a j1 k) (qE (ba (ah l j2 i) (ah l j0 i))) (qE (ba (ah l j2 k) (ah l j1 k)))≠0 then([],eA (am l a j0 i) (am l a j1 k) (qE (ba (ah l j2 i) (ah l j0 i))) (qE (ba (ah l j2 k) (ah l j1 k))))
  else(fa (dQ (am l a j0 i) (am l a j1 k) (qE (ba (ah l j2 i) (ah l j0 i))) (qE (ba (ah l j2 k) (ah l j1 k)))) [⟨ah l j0 i,P2.l (am l a j0 i),ah l j2 i⟩,⟨ah l j1 k,P2.l (am l a j1 k),ah l j2 k⟩]
    (dQ (am l a j0 i) (am l a j1 k) (qE (ba (ah l j2 i) (ah l j0 i))) (qE (ba (ah l j2 k) (ah l j1 k)))).ps.length,0)
theorem Tb{l:Li}{a:As}(D:DyR l a)(hn:(llq a.rs).length<=1){i k z0 z1 z2:Int}{j0 j1 j2:Jt}(hg:GrOk l ⟨1,[i,k],[z0,z1,z2],0⟩)(P:RrrP 3900000 l a ⟨1,[i,k],[z0,z1,z2],0⟩ i k z0 z1 z2 j0 j1 j2) :
  Con prog 63 [.ptr 1000 0] [(1000,some (cC l ⟨1,[i,k],[z0,z1,z2],0⟩ a))] (ra (j8 l a i k j0 j1 j2)) [(1000,some (cC l ⟨1,[i,k],[z0,z1,z2],0⟩ a))]:=by
 haveI c:=D.s.ct D.hc;obtain⟨tw,etw⟩:=bN D.s.tr D.hc;have hq0:=dL D.hl D.li P.h0 P.p0.or;have hq1:=dL D.hl D.li P.h1 P.p1.or;have hq2:=dL D.hl D.li P.h2 P.t1;have hq3:=dL D.hl D.li P.h2 P.t2;obtain⟨y1,y2⟩:=gO D.hl D.li D.al D.s D.hc P.h0 P.p0;obtain⟨y3,y4⟩:=gO D.hl D.li D.al D.s D.hc P.h1 P.p1;haveI:=y1;haveI:=y2;haveI:=y3;haveI:=y4
 haveI q1:=mf hq2 hq0;haveI q2:=mf hq3 hq1;haveI z1:Zu 310000 65000 (qE (ba (ah l j2 i) (ah l j0 i)):Et (llq a.rs)) 3 0:=inferInstance;haveI z2:Zu 310000 65000 (qE (ba (ah l j2 k) (ah l j1 k)):Et (llq a.rs)) 3 0:=inferInstance;have hr:=OD (a:=sX (am l a j0 i).1) (b:=sX (am l a j0 i).2) (c:=sh 0 (ba (ah l j2 i) (ah l j0 i):Rat)) (a2:=sX (am l a j1 k).1) (b2:=sX (am l a j1 k).2) (c2:=sh 0 (ba (ah l j2 k) (ah l j1 k):Rat)) D.s.tr D.hc hn rfl rfl (q9 _ _) (q9 _ _);have hzz:=IG [bn (ah l j2 i) (ah l j0 i),bn (ah l j2 k) (ah l j1 k)] (by show 2<=_;omega) (jQ ((hq2.sub hq0).mono oz) ((hq3.sub hq1).mono oz));refine gF func63 (fun k z h=>bB h) ?_;refine gt (aX (MS D.hl D.li D.al D.hc D.two hg P.h0 P.h1 P.h2 P.p0 P.p1 P.t1 P.t2) (cG rfl) rfl rfl rfl) ?_;refine gC (fun t13=>?_) (fun t13=>?_) (st1:=(3,0));cases t13;refine gc (oN hq2 hq0 oz oz) ?_;refine gc (oN hq3 hq1 oz oz) ?_;refine gc hzz ?_;refine gD ?_;refine gC (fun t23=>?_) (fun t23=>?_)
 ·have h1:eC [bn (ah l j2 i) (ah l j0 i),bn (ah l j2 k) (ah l j1 k)]=true:=t23;refine gR ?_;exact(aA.keep (bi rfl)).sub (by unfold j8;rw[VQ h1];exact Sub.tup (.cons (.nil _ _ _) (.cons (.refl _) .nil)))
 have h1:eC [bn (ah l j2 i) (ah l j0 i),bn (ah l j2 k) (ah l j1 k)]=false:=t23;obtain⟨w1,w2⟩:=xy h1;refine gc (yZ hq0 hq2 _) ?_;refine gc (yZ hq1 hq3 _) ?_;refine gc hr ?_;refine gD ?_;refine gC (fun t51=>?_) (fun t51=>?_)
 ·have h2:=de t51;refine gR ?_;exact(aA.keep (bi rfl)).sub (by unfold j8;rw[VP (by rw[h1];decide),VQ h2];exact Sub.tup (.cons (.nil _ _ _) (.cons (.refl _) .nil)))
 have h2:=cR t51;have ok:=xF (x:=(am l a j0 i).1) (y:=(am l a j0 i).2) (x2:=(am l a j1 k).1) (y2:=(am l a j1 k).2) tw hn c y1 y2 z1 y3 y4 z2 h2;obtain⟨r9,tw9,_⟩:=ok.tw
 have hpl:=Jg tw9 [⟨ah l j0 i,P2.l (am l a j0 i),ah l j2 i⟩,⟨ah l j1 k,P2.l (am l a j1 k),ah l j2 k⟩] (le_refl 2) ok.ln
  (fun x hx=>jQ (rj ok hx (y1.nm.mono (by decide)) (y2.nm.mono (by decide)) hq0 hq2 w1) (rj ok hx (y3.nm.mono (by decide)) (y4.nm.mono (by decide)) hq1 hq3 w2))
 refine gc hpl ?_;refine gR ?_;exact(aA.keep (bi rfl)).sub (Sub.of (by unfold j8;rw[VP (by rw[h1];decide),VP (fun h=>h h2)];rfl))
def jR(l:Li)(a:As)(i:Int)(j0 j:Jt):List AV×Nat :=
  if eC [bn (ax l i j.point) (ah l j0 i)]=true then([],15)
  else if fw (aV l a j.b j.on) (aV l a j.b j.to)≠0 then([],fw (aV l a j.b j.on) (aV l a j.b j.to))
  else(fa (eG (aV l a j.b j.on) (aV l a j.b j.to) (am l a j0 i) (qE (ba (ax l i j.point) (ah l j0 i)))) [⟨ah l j0 i,P2.l (am l a j0 i),ax l i j.point⟩]
    (eG (aV l a j.b j.on) (aV l a j.b j.to) (am l a j0 i) (qE (ba (ax l i j.point) (ah l j0 i)))).ps.length,0)
theorem NP{l:Li}{a:As}(D:DyR l a)(hn:(llq a.rs).length<=1){i z0 z1:Int}{j0 j:Jt}(hg:GrOk l ⟨2,[i],[z0,z1],0⟩)(P:SlP 3900000 l a ⟨2,[i],[z0,z1],0⟩ 2 i z0 z1 j0 j)(ha:j.a=i)(hb:Pd 3900000 a j.b) :
  Con prog 64 [.ptr 1000 0] [(1000,some (cC l ⟨2,[i],[z0,z1],0⟩ a))] (ra (jR l a i j0 j)) [(1000,some (cC l ⟨2,[i],[z0,z1],0⟩ a))]:=by
 haveI c:=D.s.ct D.hc;obtain⟨tw,etw⟩:=bN D.s.tr D.hc;obtain⟨i1,i2,i3,i4,i5⟩:=dm D.li P.h1;have hq2:Sm 1000 (ax l i j.point):=by rw[<- ha];exact gI D.hl D.li i1 i3
 have hq0:=dL D.hl D.li P.h0 P.p0.or;obtain⟨y1,y2⟩:=gO D.hl D.li D.al D.s D.hc P.h0 P.p0;obtain⟨y3,y4⟩:=gV D.hl D.li D.al D.s D.hc i2 i4 hb;obtain⟨y5,y6⟩:=gV D.hl D.li D.al D.s D.hc i2 (i5 P.hk) hb;haveI q1:=mf hq2 hq0;haveI z1:Zu 310000 65000 (qE (ba (ax l i j.point) (ah l j0 i)):Et (llq a.rs)) 3 0:=inferInstance;have hr:=Uk (o:=am l a j0 i) (p:=aV l a j.b j.on) (q:=aV l a j.b j.to) (c:=sh 0 (ba (ax l i j.point) (ah l j0 i):Rat)) D.s.tr D.hc hn c y1 y2 y3 y4 y5 y6 (q9 _ _);have hzz:=IG [bn (ax l i j.point) (ah l j0 i)] (by show 1<=_;omega) (gS ((hq2.sub hq0).mono oz));refine gF func64 (fun k z h=>bB h) ?_;refine gt (aX (Ln D.hl D.li D.al D.hc D.two hg P.h0 P.h1 P.p0 ha P.hk hb) (cG rfl) rfl rfl rfl) ?_;refine gC (fun t15=>?_) (fun t15=>?_) (st1:=(3,0));cases t15;refine gc (oN hq2 hq0 oz oz) ?_;refine gc hzz ?_;refine gC (fun t25=>?_) (fun t25=>?_)
 ·have h1:eC [bn (ax l i j.point) (ah l j0 i)]=true:=t25;refine gR ?_;exact(aA.keep (bi rfl)).sub (by unfold jR;rw[VQ h1];exact Sub.tup (.cons (.nil _ _ _) (.cons (.refl _) .nil)))
 have h1:eC [bn (ax l i j.point) (ah l j0 i)]=false:=t25;have w1:=vf h1;refine gc (yZ hq0 hq2 _) ?_;refine gc hr ?_;refine gD ?_;refine gC (fun t48=>?_) (fun t48=>?_)
 ·have h2:=de t48;refine gR ?_;exact(aA.keep (bi rfl)).sub (by unfold jR;rw[VP (by rw[h1];decide),VQ h2];exact Sub.tup (.cons (.nil _ _ _) (.cons (.refl _) .nil)))
 have h2:=cR t48;have ok:=Bk (o:=am l a j0 i) (p:=aV l a j.b j.on) (q:=aV l a j.b j.to) (z:=qE (ba (ax l i j.point) (ah l j0 i))) tw hn c y1 y2 y3 y4 y5 y6 z1 h2;obtain⟨r9,tw9,_⟩:=ok.tw;have hpl:=Jg tw9 [⟨ah l j0 i,P2.l (am l a j0 i),ax l i j.point⟩] (show 1<=2 by omega) ok.ln (fun x hx=>gS (rj ok hx (y1.nm.mono (by decide)) (y2.nm.mono (by decide)) hq0 hq2 w1));refine gc hpl ?_;refine gR ?_;exact(aA.keep (bi rfl)).sub (Sub.of (by unfold jR;rw[VP (by rw[h1];decide),VP (fun h=>h h2)];rfl))
end Go.Lw
