/- AssembleComplete: for anything drawn the law returns true and leaves its arguments as they were. No other condition. Part 6 of 8: what the later parts need -/
import Derived.Test.YtokaoegjfpjjnaaGreatTe
import Derived.Laws.Cover3
set_option linter.unusedVariables false
open List (foldl_cons nil_append map_nil map_map)
open List renaming mem_of_getElem? → ank, mem_append → anz, map_cons → aow, mem_cons → an9, length_cons → an0, length_append → aoe, length_nil → aoa, getD_eq_getElem?_getD → anm, getElem?_append_left → an8, all_eq_true → anx, getElem?_take → aof, getElem?_drop → aop, getElem?_map → anr, getElem?_append_right → an7, getElem?_eq_getElem → ano, getElem?_replicate → aoh, map_append → aoc, length_take → an6, take_of_length_le → an1, drop_zero → aov, take_length → an3, not_mem_nil → aob, length_map → anl, length_replicate → aon, map_replicate → aoq, map_set → aou, length_set → aox, mem_replicate → ak4, cons_append → ak5, drop_length → ak7, mem_or_eq_of_mem_set → ala, contains_iff_mem → alf, take_append_drop → alg, mem_range → alh, getElem?_eq_some_iff → alj, drop_eq_getElem_cons → alq, mem_singleton → alr, replicate → als, mem_map → al0
open Nat renaming eq_of_beq_eq_true → anw, le_refl → anp, lt_of_lt_of_le → an5, lt_or_ge → anu, le_trans → an4, zero_le → ans, pow_add → aoo, mul_comm → ajt, mul_pos → aju, beq → ajx, blt_eq → aj6, mul_add → akc, add_mul → akk, add_zero → akn, blt → aks, mul_assoc → akt, zero_add → akv, mul_le_mul → akw
open Option renaming map_eq_some_iff → ann, map_some → anh
open Bool renaming and_eq_true → anq, not_eq_true' → amo
open Array renaming getD_eq_getD_getElem? → anv, getElem?_eq_getElem → amz, getElem?_eq_none → am2, getElem?_toList → ana
open Int renaming toNat_natCast → aol
open Go renaming Operand → ao8, Value → ao9, TypeId → apa, Program → apb, World → apc
open Go.Result renaming andThen_ok → apd
open Go.Sem renaming run_bind → ape, run_pure → apf
open Go.Proofs.Tryz
namespace Go.Lw
open Go.Proofs
theorem KK{α:Type}{f:List Bool->α->List Bool}{k:List Bool}{l:List α}{i:Nat}{x:α}(h:l[i]?=some x):(l.drop i).foldl f k=(l.drop (i+1)).foldl f (f k x):=by
 have hi:=(alj.1 h).1;rw[alq hi,(alj.1 h).2];rfl
def ke(k:List Bool)(i:Nat):List Int:=((List.range i).filter (fun j=>!k.getD j false)).map (fun j:Nat=>((j:Nat):Int))
theorem L6{k:List Bool}{i:Nat}(h:k.getD i false=false):ke k (i+1)=ke k i++[(i:Int)]:=by
 unfold ke;rw[List.range_succ,List.filter_append,aoc,List.filter_cons,h];rfl
theorem Nc{k:List Bool}{i:Nat}(h:k.getD i false=true):ke k (i+1)=ke k i:=by
 unfold ke;rw[List.range_succ,List.filter_append,aoc,List.filter_cons,h];simp
theorem AA(k:List Bool)(i:Nat):(ke k i).length<=i:=by
 unfold ke;rw[anl];exact an4 (List.length_filter_le _ _) (by simp)
theorem vX{α:Type}{f:α->List Int}:∀(gs:List α)(k:List Bool),(gs.foldl (fun k g=>bR k (f g)) k).length=k.length
 |[],k=>rfl
 |g::gs,k=>by rw[foldl_cons,vX gs,mV]
theorem UX(l:Li):(gz (cq l)).length<=l.bo.length:=by
 have h:=AA (cq l) (cq l).length;have e:(cq l).length=l.bo.length:=by unfold cq;rw[vX,kC]
 rw[e]at h;unfold gz;rw[e];exact h
theorem YQ(l:Li):(gz (gE l)).length<=l.jo.length:=by
 have h:=AA (gE l) (gE l).length;have e:(gE l).length=l.jo.length:=by unfold gE;rw[vX,aon]
 rw[e]at h;unfold gz;rw[e];exact h
theorem ZA(l:Li)(hl:l.ok)(au:aM l=0):FP 146 [l.av] (.tup [.lst 1 ((gz (cq l)).map i64),.lst 1 ((gz (gE l)).map i64)]):=by
 have h8:=(dC au).2.2.2.1;have h0:=(dC au).2.2.2.2;have Ih:l.jo.length<=16:=by have:=(dC au).2.1;unfold gN at this;split at this;cases this;omega
 obtain⟨ib,hgl⟩:=xJ au;refine am func146 ?_;refine gt (aR (Fs 900 rfl l oz 0 oz) (.cons (.tmp rfl) (.cons (.const _) .nil)) aT rfl rfl) ?_;refine gl ?_;refine gs (kq (.tmp rfl) T320 rfl T4 rfl rfl oz (by dsimp only;omega) rfl) ?_;refine gD ?_ (2,0);refine gW (Wk.of (sl:=[pP 1 (.ptr 1 0),pP 2 (nS),pP 3 (nS),pP 4 (.ms 900 1 0 (dh l.bo.length 0).length),pP 5 (.ms 21 1 0 (als l.jo.length false).length)]) (hp:=[pP 1 (.box l.av.cells),pP 900 (.row 1 ((dh l.bo.length 0).map bl)),pP 21 (.row 1 ((als l.jo.length false).map bl))]) (.k (.k (.k (.cons rfl (.of (by rw[kC])) (.cons rfl (.of (by rw[aon,aol])) .nil))))) (.k (.k (.cons rfl (.of (by rw[aoq,aol];rfl)) .nil)))) ?_ (2,0)
 refine gW (Wk.rk (k:=21) (d:=901) rfl rfl) ?_;refine gc (IV l hl au) ?_;refine gl ?_;refine mf [1,2,3,23,24] [1] (fun(i:Nat)(k1 k2:List Bool)=>[pP 4 (.ms 900 1 0 k1.length),pP 5 (.ms 901 1 0 k2.length),pP 25 (i64 i)]) (fun _ k1 k2=>[pP 900 (.row 1 (k1.map bl)),pP 901 (.row 1 (k2.map bl))]) (fun i k1 k2=>i<=(findG l).length/\k1.length=l.bo.length/\k2.length=l.jo.length/\((findG l).drop i).foldl (fun k g=>bR k g.bo) k1=cq l/\((findG l).drop i).foldl (fun k g=>bR k g.jo) k2=gE l) (fun i _ _=>(findG l).length-i) 0 (dh l.bo.length 0) (als l.jo.length false) ⟨ans _,kC _ _,aon,rfl,rfl⟩ ?_
 rintro i k1 k2 ⟨hi,iy,dF,Ii,Ij⟩ K1 J1;refine gC (fun z=>?_) (fun z=>?_)
 ·have ah:=bf z;obtain⟨g,hg⟩:=aB ah;have Dy:=ib g (ank hg);have dU:=Dy.lb;have tg:=Dy.lj;refine gi (aL hg) ?_;refine gl ?_;refine jZ [1,2,3,7,23,24,25,30,31] [1,7,901] (fun(q:Nat)(kk:List Bool)=>[pP 4 (.ms 900 1 0 kk.length),pP 5 (.ms 901 1 0 k2.length),pP 32 (i64 q)]) (fun _ kk=>[pP 900 (.row 1 (kk.map bl))]) (fun q kk=>q<=g.bo.length/\kk.length=l.bo.length/\bR kk (g.bo.drop q)=bR k1 g.bo) (fun q _=>g.bo.length-q) 0 k1 ⟨ans _,iy,rfl⟩ ?_;rintro q kk ⟨hq,eV,g9⟩ K2 J2;refine gC (fun z=>?_) (fun z=>?_)
  ·have dM:=bf z;obtain⟨x,hx⟩:=aB dM;have Rz:=Dy.b x (ank hx);obtain⟨v,hv⟩:∃v,kk[x.toNat]?=some v:=aB oz;refine gi (aL hx) ?_;refine gs (qY (.tmp rfl) (.tmp rfl) T320 rfl T4 rfl oz oz rfl) ?_;refine gs (eY (.tmp rfl) rfl (by rw[akv,anr,hv];rfl) rfl (.const _) rfl rfl T4 rfl rfl) ?_;refine ga aU ?_;exact jq J2 (q+1) (kk.set x.toNat true) ⟨dM,by rw[aox];exact eV,by rw[<- GZ hx];exact g9⟩ (hw:=Wk.of (.cons rfl (.of (by rw[aox])) (.k (.k (.k (.k (.k (.k (.k (.k (.k (.k (.k .nil)))))))))))) (.cons rfl (.of (by rw[aou,akv];rfl)) (.k (.k (.k .nil)))))
  have dM:=bu hq z;have Ig:kk=bR k1 g.bo:=by rw[dM,ak7]at g9;exact g9
  refine gl ?_;refine jZ [1,2,3,23,24,25,41,42] [1,900] (fun(p:Nat)(jj:List Bool)=>[pP 4 (.ms 900 1 0 kk.length),pP 5 (.ms 901 1 0 jj.length),pP 43 (i64 p)]) (fun _ jj=>[pP 901 (.row 1 (jj.map bl))]) (fun p jj=>p<=g.jo.length/\jj.length=l.jo.length/\bR jj (g.jo.drop p)=bR k2 g.jo) (fun p _=>g.jo.length-p) 0 k2 ⟨ans _,dF,rfl⟩ ?_;rintro p jj ⟨hp,uO,Ik⟩ K3 J3;refine gC (fun z=>?_) (fun z=>?_)
  ·have iA:=bf z;obtain⟨x,hx⟩:=aB iA;have Rz:=Dy.j x (ank hx);obtain⟨v,hv⟩:∃v,jj[x.toNat]?=some v:=aB oz;refine gi (aL hx) ?_;refine gs (qY (.tmp rfl) (.tmp rfl) T320 rfl T4 rfl oz oz rfl) ?_;refine gs (eY (.tmp rfl) rfl (by rw[akv,anr,hv];rfl) rfl (.const _) rfl rfl T4 rfl rfl) ?_;refine ga aU ?_;exact jq J3 (p+1) (jj.set x.toNat true) ⟨iA,by rw[aox];exact uO,by rw[<- GZ hx];exact Ik⟩ (hw:=Wk.of (.k (.cons rfl (.of (by rw[aox])) (.k (.k (.k (.k (.k (.k (.k (.k (.k .nil))))))))))) (.cons rfl (.of (by rw[aou,akv];rfl)) (.k (.k .nil))))
  have iA:=bu hp z;have ai7:jj=bR k2 g.jo:=by rw[iA,ak7]at Ik;exact Ik
  refine ga aU ?_;exact kz J1 (i+1) kk jj ⟨ah,eV,uO,by rw[Ig,<- Ii,KK hg],by rw[ai7,<- Ij,KK hg]⟩
 have ah:=bu hi z;have e1:k1=cq l:=by rw[ah,ak7]at Ii;exact Ii
 have e2:k2=gE l:=by rw[ah,ak7]at Ij;exact Ij
 refine gW (Wk.virt 902 1 rfl) ?_;refine aY [3,53] [900,901] (fun(i:Nat)=>[pP 2 (.ms 902 1 0 (ke k1 i).length),pP 5 (.ms 901 1 0 k2.length),pP 52 (.ms 900 1 0 k1.length),pP 54 (i64 i)]) (fun i=>[pP 902 (.row 1 ((ke k1 i).map i64))]) (fun i=>i<=k1.length) (fun i=>k1.length-i) 0 (ans _) ?_;rintro i ha K4 J4;refine gC (fun z=>?_) (fun z=>?_) (st2:=(22,0))
 ·have Ai:=bf z;obtain⟨v,hv⟩:=aB Ai;have Aj:k1.getD i false=v:=aw hv;have xf:=AA k1 i;refine gs (qY (.tmp rfl) (.tmp rfl) T320 rfl T4 rfl oz oz rfl) ?_;refine gs (fR (.tmp rfl) rfl (by rw[akv,aol,anr,hv]; rfl) T4 rfl rfl rfl) ?_;refine gC (fun z=>?_) (fun z=>?_)
  ·have hu:=L6 (k:=k1) (i:=i) (by rw[Aj]; exact dP z);refine gs (cZ (.tmp rfl) rfl (by rw[anl]) (.tmp rfl) T46 rfl T3 rfl rfl (by dsimp only; simp only [an0,aoa]; omega) rfl rfl) ?_ (21,0);refine gW (Wk.of (sl:=[pP 2 (.ms 64 1 0 (ke k1 (i+1)).length),pP 3 (nS),pP 5 (.ms 901 1 0 k2.length),pP 52 (.ms 900 1 0 k1.length),pP 53 (i64 k1.length),pP 54 (i64 i)]) (hp:=[pP 900 (.row 1 (k1.map bl)),pP 901 (.row 1 (k2.map bl)),pP 64 (.row 1 ((ke k1 (i+1)).map i64))]) (.cons rfl (.of (by rw[hu,aoe]; rfl)) (.k (.k (.k (.k (.k .nil)))))) (.k (.k (.cons rfl (.of (by rw[hu,aoc]; rfl)) .nil)))) ?_ (21,0)
   refine gW (Wk.rk (k:=64) (d:=902) rfl rfl) ?_;refine ga aU ?_;exact aS J4 (i+1) Ai (hw:=Wk.of (.cons rfl (.of (by first |rw[hu];done |rfl)) (.k (.k (.k (.k (.k .nil)))))) (.cons rfl (.of (by first |rw[hu];done |rfl)) (.k (.k .nil))))
  have hu:=Nc (k:=k1) (i:=i) (by rw[Aj];exact dN z);refine ga aU ?_;exact aS J4 (i+1) Ai (hw:=Wk.of (.cons rfl (.of (by first |rw[hu];done |rfl)) (.k (.k (.k (.k (.k .nil)))))) (.cons rfl (.of (by first |rw[hu];done |rfl)) (.k (.k .nil))))
 have Ai:=bu ha z;refine gW ((Wk.freeze (k:=902) rfl).trans<|Wk.of (sl:=[pP 2 (.lst 1 ((gz (cq l)).map i64)),pP 3 (nS),pP 5 (.ms 901 1 0 k2.length)]) (hp:=[pP 901 (.row 1 (k2.map bl))]) (.cons rfl (.of (by rw[cz (by rw[anl]),Ai,e1];rfl)) (.k (.k .nil))) (.k .nil)) ?_;refine gW (Wk.virt 902 1 rfl) ?_;refine aY [2,67] [901] (fun(i:Nat)=>[pP 3 (.ms 902 1 0 (ke k2 i).length),pP 66 (.ms 901 1 0 k2.length),pP 68 (i64 i)]) (fun i=>[pP 902 (.row 1 ((ke k2 i).map i64))]) (fun i=>i<=k2.length) (fun i=>k2.length-i) 0 (ans _) ?_;rintro i hb K5 J5;refine gC (fun z=>?_) (fun z=>?_) (st2:=(28,0))
 ·have Ak:=bf z;obtain⟨v,hv⟩:=aB Ak;have Aj:k2.getD i false=v:=aw hv;have xf:=AA k2 i;refine gs (qY (.tmp rfl) (.tmp rfl) T320 rfl T4 rfl oz oz rfl) ?_;refine gs (fR (.tmp rfl) rfl (by rw[akv,aol,anr,hv]; rfl) T4 rfl rfl rfl) ?_;refine gC (fun z=>?_) (fun z=>?_)
  ·have hu:=L6 (k:=k2) (i:=i) (by rw[Aj]; exact dP z);refine gs (cZ (.tmp rfl) rfl (by rw[anl]) (.tmp rfl) T46 rfl T3 rfl rfl (by dsimp only; simp only [an0,aoa]; omega) rfl rfl) ?_ (27,0);refine gW (Wk.of (sl:=[pP 2 (.lst 1 ((gz (cq l)).map i64)),pP 3 (.ms 78 1 0 (ke k2 (i+1)).length),pP 66 (.ms 901 1 0 k2.length),pP 67 (i64 k2.length),pP 68 (i64 i)]) (hp:=[pP 901 (.row 1 (k2.map bl)),pP 78 (.row 1 ((ke k2 (i+1)).map i64))]) (.k (.cons rfl (.of (by rw[hu,aoe]; rfl)) (.k (.k (.k .nil))))) (.k (.cons rfl (.of (by rw[hu,aoc]; rfl)) .nil))) ?_ (27,0)
   refine gW (Wk.rk (k:=78) (d:=902) rfl rfl) ?_;refine ga aU ?_;exact aS J5 (i+1) Ak (hw:=Wk.of (.cons rfl (.of (by first |rw[hu];done |rfl)) (.k (.k (.k (.k .nil))))) (.cons rfl (.of (by first |rw[hu];done |rfl)) (.k .nil)))
  have hu:=Nc (k:=k2) (i:=i) (by rw[Aj];exact dN z);refine ga aU ?_;exact aS J5 (i+1) Ak (hw:=Wk.of (.cons rfl (.of (by first |rw[hu];done |rfl)) (.k (.k (.k (.k .nil))))) (.cons rfl (.of (by first |rw[hu];done |rfl)) (.k .nil)))
 have Ak:=bu hb z;refine gW ((Wk.freeze (k:=902) rfl).trans<|Wk.of (sl:=[pP 2 (.lst 1 ((gz (cq l)).map i64)),pP 3 (.lst 1 ((gz (gE l)).map i64))]) (hp:=[]) (.k (.cons rfl (.of (by rw[cz (by rw[anl]),Ak,e2];rfl)) .nil)) .nil) ?_;refine bO ?_;rfl
theorem KG(l:Li)(hl:l.ok)(au:aM l=0):FP 59 [l.av] (.tup [.lst 4 ((splitG l).map Gr.av),i64 (splitE l)]):=by
 have h8:=(dC au).2.2.2.1;have Ih:l.jo.length<=16:=by have:=(dC au).2.1;unfold gN at this;split at this;cases this;omega
 have u1:=UX l;have u2:=YQ l;refine am func59 ?_;refine gc (ZA l hl au) ?_;refine gl ?_;refine gl ?_;refine ga (d5 oz) ?_;refine gC (fun z=>?_) (fun z=>?_)
 ·have h1:0<(gz (cq l)).length+(gz (gE l)).length:=lY z;have hE:splitE l=7:=by unfold splitE; rw[aoy oz]
  refine gR ?_;exact fa (by unfold splitG;rw[aoy (by rw[hE];decide),hE];exact Sub.tup (.cons (.nil _ _ _) (.cons (.refl _) .nil)))
 have h1:(gz (cq l)).length+(gz (gE l)).length<=0:=jQ z;have hE:splitE l=0:=by unfold splitE;rw[aoz oz]
 refine gc (IV l hl au) ?_;refine bO ?_;unfold splitG;rw[aoz hE,hE];rfl
variable{P:apb}{N:Nat}{R:Array Oper}{s:AS}{pos:String}{after:Array Edge}
theorem E0{d:Nat}{x:ao8}{n:Nat}{z:ao9}{T E t:apa}{ti te:TI}(hx:Ev s x (.v (.int .i64 n)))
    (hT:aI P T=some ti) (hk:ti.k=.slice E) (hE:aI P E=some te) (hz:te.zero=[z]) (jb:z.oneCell'=true) (hs:ajx te.size 1=true) (s9:aks 0 te.bytes=true)
    (hb:(n:Int)*te.bytes<=281474976710656) (hN:aks d N=true) :
    Step P N R s ⟨some d,.makeSlice T x x,t,pos,after,none⟩
      ⟨some (.ms d 1 0 n),[(d,some (.vec (als n z)))],aA x,[]⟩ :=
  xT rfl rfl hN (by simp) fun s' aK hfr C m a w hr=>by
    have gY:=ug hr (hx.agree aK (fun _ h=>h));have hs:=anw hs;rw[aj6]at s9;obtain⟨d2,h3,h4,-,-⟩:=fK hT w;obtain rfl:=lN (h4.trans hk);obtain⟨zv,h5,h6⟩:=yX hE w;obtain⟨ie,h7,h8,-⟩:=Kn hE w;have h6':zv.cells.toList=[z]:=h6.trans hz;have HJ:zv.cells=#[z]:=by rw[<- Array.toArray_toList (xs:=zv.cells),h6']
    have uD:(n:Int)<=281474976710656:=by
      have:(n:Int)*1<=n*te.bytes:=Int.mul_le_mul_of_nonneg_left oz oz;omega
    have qv:IntKind.i64.wrap (n:Int)=n:=IntWalk.i64_in n oz;obtain⟨zero,iu⟩:∃zero:Array ao9,zero=(if n*te.size=0 then #[]else zv.cells):=⟨_,rfl⟩
    refine⟨.slice (some ⟨w.heap.size,0,none⟩) n n,(Array.range (n*te.size)).map (zero[· % zero.size]!),E,w.drawn,?_,?_,?_,?_⟩
    · have g9:(Instr.makeSlice T (.int .i64 n) (.int .i64 n)).run P w =
          .ok (.slice (some ⟨w.heap.size,0,none⟩) n n) { w with heap:=w.heap.push (.cells ((Array.range (n*te.size)).map (zero[· % zero.size]!)) E) }:=by
        have hc:¬(((n:Int)<0\/281474976710656<(ie.bytes:Int)*n)\/(n:Int)<0):=by
          rw[h8,Int.mul_comm];omega
        simp only[Instr.makeSlice,ape,h3,apd,asInt,asIntOf,apf,h7,qv];rw[aoy (by simpa using hc)];simp only[ape,run_askRoom,apd,jW hE,aol]
        by_cases h0:n*te.size=0
        · rw[aoz h0]at iu ⊢
          subst iu;simp only[ape,apf,apd,newRow,run_newObj]
        · rw[aoy h0]at iu ⊢
          subst iu;simp only[ape,apf,apd,h5,newRow,run_newObj]
      simp only[execOp,gY,ape,g9,apd,apf]
    · exact fun h=>h
    · intro g S m' w' hg hS hm hw
      refine .vec hw ?_ (fun v hv=>by rw[List.eq_of_mem_replicate hv];exact jb);apply List.ext_getElem?;intro j;rw[ana,aoh]
      by_cases hj:j<n
      · have jB:¬ n*te.size=0:=by rw[hs]; omega
        rw[aoy jB,HJ]at iu;subst iu;rw[aoz hj];simp only[Array.getElem?_map,Array.getElem?_range,show j<n*te.size by rw[hs];omega,if_true,anh,Option.some.injEq];simp[Nat.mod_one]
      · rw[aoy hj,am2 (by simp[hs];omega)]
    · intro g S m' hm hS
      have:=Rep.ms (g:=g) (S:=S) (m:=m') (k:=d) (sz:=1) (off:=0) (len:=n) (cap:=n) hm (anp _) (by simpa[hs]using hS);simpa using this
theorem CI{x y:ao8}{k i:Nat}{vs:List ao9}{v:ao9}{T t:apa}{ti:TI}
  (hx:Ev s x (.eptr k 1 i 0)) (hk:s.blk k=some (.vec vs)) (hi:i<vs.length) (hy:Ev s y (.v v)) (hv:v.oneCell'=true) (hT:aI P T=some ti) (bG:ajx ti.size 1=true) :
  Step P N R s ⟨none,.store T x y,t,pos,after,none⟩ ⟨none,[(k,some (.vec (vs.set i v)))],aA x++aA y,[k]⟩ :=
 Ga rfl rfl (by simp) hk fun s' aK C m a w hr=>by
  have bG:=anw bG;obtain⟨b,hm,gY⟩:=AM hr (hx.agree aK (fun _ h=>anz.2 (.inl h)));have mn:=ug hr (hy.agree aK (fun _ h=>anz.2 (.inr h)));have hb:=hr.heap.blk k _ ((aK.2 k (by simp)).trans hk);rw[hm]at hb;cases hb with
  | @vec _ _ c t2 hw hc h1 =>
   have co:c.size=vs.length:=by rw[<- hc];simp
   have Dz:v.cells=#[v]:=by cases v <;> simp_all[Value.cells,Value.oneCell']
   refine⟨b,c,(over c.toList i v.cells.toList).toArray,t2,hm,hw,?_,?_,?_⟩
   ·simp[over,Dz];omega
   ·have gH:=EK (P:=P) (off:=i) (v:=v) hT hw (by rw[Dz,bG];rfl) oz (by rw[Dz];simpa using hv);simp[execOp,Instr.storeAt,gY,Instr.sureAddr,mn,gH]
   ·intro g S w' hg hS hw';refine .vec hw' ?_ (fun u hu=>?_)
    ·rw[hc,Dz];unfold over;rw[List.set_eq_take_append_cons_drop,aoz hi];simp
    ·rcases ala hu with h9 |h9
     ·exact h1 u h9
     ·rw[h9];exact hv
inductive Lent(H:Hp)(hid:List Nat):AV->AV->Prop
  |same {x:AV} (h:x.nm=[]):Lent H hid x x
  |ms {k off len:Nat} {vs:List ao9} (hk:lk H k=some (.vec vs)) (hh:k∉hid) (hl:off+len<=vs.length) (hm:vs.length<=bb):Lent H hid (.ms k 1 off len) (.lst 1 (((vs.drop off).take len).map .v))
theorem MS{g:Nat->Array ao9->Prop}{S:Nat->Nat->Prop}{m:Nat->Option Nat}{u y:ao9}(h:Rep g S m u (.v y)):u=y:=by cases h;rfl
theorem BV{m:Nat->Option Nat}{b:Nat}:¬bj [] m b:=by rintro⟨k,x,h,_⟩;cases h
def v9(ext:Nat->Prop)(H:Hp)(hid:List Nat)(m:Nat->Option Nat)(b:Nat):Prop:=ext b\/∃k z,k∈hid/\lk H k=some z/\m k=some b
theorem YW{ext:Nat->Prop}{H:Hp}{hid:List Nat}{m m2:Nat->Option Nat}{w:apc}{b:Nat}{cs:Array ao9}(h:Im ext H m w b cs):Im (v9 ext H hid m) [] m2 w b cs :=
 ⟨fun h'=>h'.elim h.1 (fun⟨k,z,_,hz,hb⟩=>h.2.1 ⟨k,z,hz,hb⟩),BV,h.2.2⟩
theorem LC{ext:Nat->Prop}{H:Hp}{hid:List Nat}{m:Nat->Option Nat}{w:apc}(hh:HeapRel ext H m w){k b:Nat}{z:Blk}(hk:lk H k=some z)(hb:m k=some b)(hn:k∉hid):¬v9 ext H hid m b:=by
 rintro(h |⟨k',z',h1,h2,h3⟩)
 ·exact(hh.sep k z b hk hb).1 h
 ·have:=hh.inj k k' z z' b hk h2 hb h3;subst this;exact hn h1
theorem Lent.rep{ext:Nat->Prop}{H:Hp}{hid:List Nat}{m:Nat->Option Nat}{w:apc}(hh:HeapRel ext H m w){x x':AV}(h:Lent H hid x x') :
  ∀{v:ao9},Rep (Im ext H m w) (Sz w) m v x->∀m2:Nat->Option Nat,Rep (Im (v9 ext H hid m) [] m w) (Sz w) m2 v x':=by
 cases h with
 |same hn=>intro v hv m2;exact(lU hn hv).mono (fun _ _ h=>YW h) (fun _ _ h=>h) (fun _ _ _ h=>h)
 | @ms k off len vs hk hnh hl hm =>
  intro v hr m2;have hb:=hh.blk k _ hk;cases hr with
  |ms0 a=>simp only[List.take_zero];exact .lst0 _ _ _
  | @ms _ _ _ _ _ cap b g9 hc hS =>
   rw[g9]at hb;cases hb with
   | @vec _ _ c t hw qz h1 =>
    have co:c.size=vs.length:=by rw[<- qz];simp
    have bK:(((vs.drop off).take len).map AV.v).length=len:=by rw[anl,an6,List.length_drop];omega
    have he':∀(i:Nat)(e:AV),(((vs.drop off).take len).map AV.v)[i]?=some e->∃u,e=.v u/\c[off+i]?=some u/\u∈vs:=by
     intro i e he;rw[anr,ann]at he;obtain⟨u,he,rfl⟩:=he;rw[aof]at he;split at he
     ·rw[aop]at he;exact⟨u,rfl,by rw[<- ana,qz];exact he,ank he⟩
     ·cases he
    have:=Rep.lst (g:=Im (v9 ext H hid m) [] m w) (S:=Sz w) (m:=m2) (b:=b) (off:=off) (cap:=cap) (sz:=1) (es:=((vs.drop off).take len).map AV.v) (cs:=c) (fun i j=>c.getD (off+i) undef)
     ⟨LC hh hk g9 hnh,BV,t,(0,0),hw⟩ oz oz ?_ ?_ ?_ ?_
    ·rw[bK]at this;simpa using this
    ·intro i e he;obtain⟨u,rfl,_⟩:=he' i e he;rfl
    ·intro i j e x he hx;obtain⟨u,rfl,_,hm⟩:=he' i e he;cases j with
     |zero=>cases hx;exact h1 u hm
     |succ j=>cases hx
    ·intro i j e x he hx;obtain⟨u,rfl,hu,_⟩:=he' i e he;cases j with
     |zero=>rw[Nat.mul_one,akn,anv,hu];rfl
     |succ j=>cases hx
    ·intro i j e x he hx;obtain⟨u,rfl,hu,_⟩:=he' i e he;cases j with
     |zero=>cases hx;rw[anv,hu];exact .v _
     |succ j=>cases hx
def Od:AV->Bool
  | .v (.int _ _)=>true
  |_=>false
def P5:AV->Bool
  | .v (.int _ _)=>false
  | .v _=>true
  | .lst _ _=>true
  | .ms _ _ _ _=>true
  |_=>false
mutual
def AV.li:AV->Bool
  | .v _=>true
  | .agg cs=>AV.lis cs
  | .tup cs=>AV.lis cs
  | .lst sz es=>ajx sz 1&&es.all Od
  |_=>false
def AV.lis:List AV->Bool
  |[]=>true
  |x::l=>x.li&&AV.lis l
end
theorem AV.lis_mem:∀{l:List AV}{c:AV},AV.lis l=true->c∈l->c.li=true
 |x::l,c,h,hc=>by
  simp only[AV.lis,anq]at h;rcases an9.1 hc with rfl |hc
  ·exact h.1
  ·exact AV.lis_mem h.2 hc
theorem Wz{g:Nat->Array ao9->Prop}{S:Nat->Nat->Prop}{m:Nat->Option Nat}{u:ao9}{x:AV}(hx:P5 x=true)(h:Rep g S m u x)(kk:IntKind)(z:Int):u≠.int kk z:=by
 rintro rfl;cases h <;> cases hx
theorem YG{g g':Nat->Array ao9->Prop}{S S':Nat->Nat->Prop}{m m':Nat->Option Nat}{v:ao9}{x:AV}(hx:x.li=true)
  (hg:∀b cs (o:Nat)(kk:IntKind)(z:Int),cs[o]?=some (.int kk z)->g b cs->g' b cs) (h:Rep g S m v x):Rep g' S' m' v x:=by
 induction h with
 |v=>exact .v _
 |agg hn h1 hr ih=>exact .agg hn h1 (fun j u c hu hc=>ih j u c hu hc (AV.lis_mem hx (ank hc)))
 |tup hn hr ih=>exact .tup hn (fun j u c hu hc=>ih j u c hu hc (AV.lis_mem hx (ank hc)))
 |lst0 a cap sz=>exact .lst0 _ _ _
 | @lst _ b off cap sz es cs u hb hc hl hs h1 hu hr _ =>
  simp only[AV.li,anq]at hx;have bG:=anw hx.1;subst bG
  match es,hx,hc,hl,hs,h1,hu,hr with
  |[],_,_,_,_,_,_,_=>exact .lst0 _ _ _
  |e::es,hx,hc,hl,hs,h1,hu,hr =>
   have iT:∀(i j:Nat)(e' c:AV),(e::es)[i]?=some e'->e'.cells[j]?=some c->∃kk z,c=.v (.int kk z):=by
    intro i j e' c he hc';have h9:=anx.1 hx.2 e' (ank he);cases e' with
    |v y=>cases y with
     |int kk z =>
      cases j with
      |zero=>cases hc';exact⟨_,_,rfl⟩
      |succ j=>cases hc'
     |_=>cases h9
    |_=>cases h9
   have DA:∃kk z,e=.v (.int kk z):=by
    have h9:=anx.1 hx.2 e (by simp);cases e with
    |v y=>cases y with
     |int kk z=>exact⟨_,_,rfl⟩
     |_=>cases h9
    |_=>cases h9
   obtain⟨kk,z,rfl⟩:=DA;have h8:=hu 0 0 _ _ rfl rfl;have h7:=hr 0 0 _ _ rfl rfl;have h6:u 0 0=.int kk z:=MS h7;rw[h6]at h8;refine .lst u (hg b cs _ kk z h8 hb) hc hl hs h1 hu (fun i j e' c he hc'=>?_);obtain⟨k2,z2,rfl⟩:=iT i j e' c he hc';rw[MS (hr i j _ _ he hc')];exact .v _
 |_=>cases hx
theorem Con.lend{f:FuncId}{k:Nat}{cs:List AV}{cs':ao9->List AV}{H:Hp}{r:AV}(hid:List Nat)(j0:Nat)(hk:lk H k=some (.box cs))(hkh:k∉hid)
  (hc:∀v:ao9,v.oneCell'=true->(cs' v).length=cs.length/\(∀(j:Nat)(x:AV),(cs' v)[j]?=some x->x.one=true) /\
   ∀(j:Nat)(x x':AV),cs[j]?=some x->(cs' v)[j]?=some x'->(j=j0/\x'=.v v)\/Lent H hid x x')
  (hj:j0<cs.length)
  (hH:∀k z,lk H k=some z->k∈hid\/(∃cs,z=.box cs/\cs.all P5=true)\/∃vs,z=.vec vs/\∀v∈vs,∀kk z,v≠.int kk z) (hr:r.li=true) (h:∀v:ao9,lR P f [.iptr (cs' v)] r):Con P f [.ptr k 0] H r H:=by
 refine⟨(h undef).ok,?_⟩;intro ext m w vs hext cI dG dm;have bG:0<vs.size:=by rw[dG];exact Nat.one_pos
 have nD:=dm 0 vs[0] _ (amz bG) rfl;have hb:=cI.blk k _ hk;generalize o9:vs[0]=v0 at nD;cases nD with
 | @ptr _ _ _ b g9 =>
  rw[g9]at hb;cases hb with
  | @box _ _ c t hw hn h1 bA =>
   have jd:j0<c.size:=by omega
   have iH:=ano (l:=cs) (i:=j0) oz;have lG:(c[j0]).oneCell'=true:=(bA j0 _ _ (amz jd) iH).one (h1 j0 _ iH);obtain⟨g1,g2,g3⟩:=hc c[j0] lG
   have HL:∀b,v9 ext H hid m b->b<w.heap.size:=by
    rintro b (h9 |⟨k',z',_,h2,h3⟩)
    ·exact hext b h9
    ·exact(cI.sep k' z' b h2 h3).2
   have ai8:=(h c[j0]).ret (v9 ext H hid m) m w vs HL ⟨fun k z hz=>by (cases hz),fun k k' x x' b hx=>by (cases hx),fun k x b hx=>by (cases hx)⟩ (by rw[dG]; rfl) (by
    intro j v x hv hx
    match j,hx with
    |0,hx =>
     cases hx;rw[amz bG,o9]at hv;cases hv;refine .iptr (cs:=c) (fun j=>c.getD j undef) ⟨LC cI hk g9 hkh,BV,t,(0,0),hw⟩ g2 ?_ ?_
     ·intro j x hx;have hlt:j<c.size:=by rw[hn,<- g1]; exact (alj.1 hx).1
      rw[akv,anv,amz hlt];rfl
     ·intro j x hx;have hlt:j<c.size:=by rw[hn,<- g1]; exact (alj.1 hx).1
      obtain⟨y,hy⟩:=l6 g1 hx;have qz:c[j]?=some (c.getD j undef):=by rw[anv,amz hlt];rfl
      rcases g3 j y x hy hx with⟨rfl,rfl⟩ |hl
      ·have:c.getD j undef=c[j]:=by rw[amz hlt] at qz; exact (Option.some.inj qz).symm
       rw[this];exact .v _
      ·exact hl.rep cI (bA j _ y qz hy) eQ)
   refine Calls.mono ai8 ?_;rintro e w' ⟨v,m',rfl,hf,hh,ee,uF,mr⟩;have DB:∀b,b<w.heap.size->w'.heap[b]?=w.heap[b]?:=fun b hb=>hf.keep b hb BV
   have Aa:Frame (bj H m) w w':=⟨hf.os,hf.tape,hf.output,hf.size,hf.sz,fun b hb _=>DB b hb⟩
   have ef:=gQ (ext:=ext) Aa (hp':=H) (m':=m) (fun k x b hk hb=>.inl ⟨k,x,hk,hb⟩);refine⟨v,m,rfl,Aa,⟨?_,cI.inj,?_⟩,fun k x b hk hb=>.inl ⟨k,x,hk,hb⟩,fun _ _ _ _ _=>rfl,?_⟩
   ·intro k z hz;exact BlkRep.mono (w:=w) ef hf.sz (fun _ _ _ h=>h) rfl (fun b hb=>DB b (cI.sep k z b hz hb).2) (cI.blk k z hz)
   ·intro k z b hz hb;have:=cI.sep k z b hz hb;exact⟨this.1,an5 this.2 hf.size⟩
   ·refine YG hr ?_ mr;rintro b2 cs2 o kk z ho ⟨g1,g2,t2,fl,g3⟩;refine⟨fun h9=>g1 (.inl h9),?_,t2,fl,g3⟩;rintro⟨k2,y,dF,bJ⟩;have hlt:=fun b hb=>(cI.sep k2 _ b dF hb).2
    have h3:=cI.blk k2 _ dF;rw[bJ]at h3;rcases hH k2 y dF with h9 |⟨cl,rfl,fX⟩ |⟨vs2,rfl,pa⟩
    ·exact g1 (.inr ⟨k2,y,h9,dF,bJ⟩)
    ·cases h3 with
     | @box _ _ c2 t' pg s8 h12 HW =>
      have Il:c2=cs2:=by
       rw[DB b2 (hlt b2 bJ),pg]at g3
       injection g3 with g3
       injection g3
      subst Il;have ho':o<c2.size:=(Array.getElem?_eq_some_iff.1 ho).1;have hx:=ano (l:=cl) (i:=o) oz;exact Wz (anx.1 fX _ (ank hx)) (HW o _ _ ho hx) kk z rfl
    ·cases h3 with
     | @vec _ _ c2 t' pg sV h12 =>
      have Il:c2=cs2:=by
       rw[DB b2 (hlt b2 bJ),pg]at g3
       injection g3 with g3
       injection g3
      subst Il;have:Value.int kk z∈vs2:=by rw[<- sV];exact Array.mem_toList_iff.2 (Array.mem_of_getElem? ho)
      exact pa _ this kk z rfl
end Go.Lw
namespace Go.Lw
open Go.Proofs
def bv(xs:List Bool):List ao9:=xs.map .bool
theorem jG(xs:List Bool):(bv xs).length=xs.length:=anl _
theorem BT(xs:List Bool)(n:Nat):(bv xs).set n (.bool true)=bv (xs.set n true):=by unfold bv;rw[aou]
theorem Hk(xs:List Bool):∀v∈bv xs,∀kk z,v≠.int kk z:=by
 intro v hv kk z;obtain⟨b,_,rfl⟩:=al0.1 hv;exact fun h=>by cases h
theorem Cc(xs:List Bool):(bv xs).map AV.v=xs.map bl:=by unfold bv;rw[map_map];rfl
theorem Hf(n:Nat):als n (Value.bool false)=bv (als n false):=by unfold bv;rw[aoq]
theorem abp(xs:List Int):(xs.map i64).all Od=true:=by
 rw[anx];intro x hx;obtain⟨b,_,rfl⟩:=al0.1 hx;rfl
theorem agf(g:Gr)(b:Bool):(AV.tup [g.av,bl b]).li=true:=by
 simp only[AV.li,AV.lis,Gr.av,abp];rfl
def ua(l:Li)(n:Nat):Blk:=.box (l.av.cells++[.ms 23 1 0 l.bo.length,.ms 27 1 0 l.bo.length,.ms 31 1 0 l.jo.length,.ms 900 4 0 n])
def sf(l:Li)(kw used:List Bool)(out:List Gr):Hp :=
  [pP 33 (ua l out.length),pP 23 (.vec (bv kw)),pP 27 (.vec (bv (cM l))),pP 31 (.vec (bv used)),pP 900 (.row 4 (out.map Gr.av))]
theorem Gt{xs:List Bool}{n:Nat}(h:xs.length=n):AV.lst 1 ((((bv xs).drop 0).take n).map .v)=.lst 1 (xs.map bl):=by
 rw[aov,an1 (by rw[jG];omega),Cc]
theorem O0(l:Li)(hl:l.ok)(au:aM l=0)(kw used:List Bool)(hk:kw.length=l.bo.length)(hu:used.length=l.jo.length)(hm:l.bo.length<=bb/\l.jo.length<=bb)(out:List Gr) :
  Con prog 344 [.ptr 33 0] (sf l kw used out) (.tup [((nextG l kw).getD default).av,bl (nextG l kw).isSome]) (sf l kw used out):=by
 refine Con.lend (cs:=l.av.cells++[.ms 23 1 0 l.bo.length,.ms 27 1 0 l.bo.length,.ms 31 1 0 l.jo.length,.ms 900 4 0 out.length])
  (cs':=fun v=>fx l kw (cM l) [.lst 1 (used.map bl),.v v]) [900] 7 rfl (by decide) ?_ (by simp[Li.av,AV.cells]) ?_ (agf _ _) (fun v=>Uc l hl au kw hk _)
 ·intro v hv;refine⟨rfl,?_,?_⟩
  ·intro j x hx
   match j,hx with
   |0,hx=>cases hx;rfl
   |1,hx=>cases hx;rfl
   |2,hx=>cases hx;rfl
   |3,hx=>cases hx;rfl
   |4,hx=>cases hx;rfl
   |5,hx=>cases hx;rfl
   |6,hx=>cases hx;rfl
   |7,hx=>cases hx;exact hv
   |j+8,hx=>cases hx
  ·intro j x x' hx hx'
   match j,hx,hx' with
   |0,hx,hx'=>cases hx;cases hx';exact .inr (.same rfl)
   |1,hx,hx'=>cases hx;cases hx';exact .inr (.same rfl)
   |2,hx,hx'=>cases hx;cases hx';exact .inr (.same rfl)
   |3,hx,hx'=>cases hx;cases hx';exact .inr (.same rfl)
   |4,hx,hx' =>
    cases hx;cases hx'
    have h:=Lent.ms (H:=sf l kw used out) (hid:=[900]) (k:=23) (off:=0) (len:=l.bo.length) (vs:=bv kw) rfl (by decide) (by rw[jG];omega) (by rw[jG];omega);rw[Gt hk]at h;exact .inr h
   |5,hx,hx' =>
    cases hx;cases hx'
    have h:=Lent.ms (H:=sf l kw used out) (hid:=[900]) (k:=27) (off:=0) (len:=l.bo.length) (vs:=bv (cM l)) rfl (by decide) (by rw[jG,yk];omega) (by rw[jG,yk];omega);rw[Gt (yk l)]at h;exact .inr h
   |6,hx,hx' =>
    cases hx;cases hx'
    have h:=Lent.ms (H:=sf l kw used out) (hid:=[900]) (k:=31) (off:=0) (len:=l.jo.length) (vs:=bv used) rfl (by decide) (by rw[jG];omega) (by rw[jG];omega);rw[Gt hu]at h;exact .inr h
   |7,hx,hx'=>cases hx;cases hx';exact .inl ⟨rfl,rfl⟩
   |j+8,hx,hx'=>cases hx
 ·intro k z hz;simp only[sf,a5]at hz;split at hz
  ·cases hz;exact .inr (.inl ⟨_,rfl,rfl⟩)
  split at hz
  ·cases hz;exact .inr (.inr ⟨_,rfl,Hk _⟩)
  split at hz
  ·cases hz;exact .inr (.inr ⟨_,rfl,Hk _⟩)
  split at hz
  ·cases hz;exact .inr (.inr ⟨_,rfl,Hk _⟩)
  split at hz
  ·subst_vars;exact .inl (by decide)
  ·cases hz
def wF(l:Li):AV:=if aM l=0 then .iptr (fx l (cq l) (cM l) [.lst 1 ((gE l).map bl),.lst 4 ((findG l).map Gr.av)])else .v (.pointer none)
def nk(l:Li)(out:List Gr):List Bool:=out.foldl (fun k g=>bR k g.jo) (als l.jo.length false)
theorem Hg(l:Li)(out:List Gr):(nk l out).length=l.jo.length:=by unfold nk;rw[vX,aon]
theorem agv(l:Li)(out:List Gr)(g:Gr):nk l (out++[g])=bR (nk l out) g.jo:=by unfold nk;rw[List.foldl_append];rfl
theorem Es{k:List Bool}{bs:List Int}{i:Nat}{b:Int}(h:bs[i]?=some b):bR k (bs.take (i+1))=(bR k (bs.take i)).set b.toNat true:=by
 unfold bR;rw[dR h,List.foldl_append];rfl
theorem Ug{l:Li}(au:aM l=0){kw:List Bool}{out:List Gr}{g:Gr}(hk:kw.length=l.bo.length)(h:findFrom l (fi kw) kw out=(cq l,findG l))(hg:nextG l kw=some g) :
  findFrom l (fi (bR kw g.bo)) (bR kw g.bo) (out++[g])=(cq l,findG l):=by
 have hlt:=xV au hk hg;obtain⟨n,hn⟩:∃n,fi kw=n+1:=⟨fi kw-1,by omega⟩
 rw[hn]at h;unfold findFrom at h;rw[hg]at h;rw[<- h];exact EA au _ _ _ _ (by rw[mV];exact hk) (anp _) oz
theorem UD{l:Li}{kw:List Bool}{out:List Gr}(h:findFrom l (fi kw) kw out=(cq l,findG l))(hg:nextG l kw=none):kw=cq l/\out=findG l:=by
 cases hn:fi kw with
 |zero=>rw[hn]at h;exact⟨(Prod.mk.inj h).1,(Prod.mk.inj h).2⟩
 |succ n=>rw[hn]at h;unfold findFrom at h;rw[hg]at h;exact⟨(Prod.mk.inj h).1,(Prod.mk.inj h).2⟩
theorem US{n:Nat}:fi (dh n 0)<=n:=by
 unfold fi;exact an4 List.countP_le_length (Nat.le_of_eq (kC _ _))
theorem XK{l:Li}(au:aM l=0):findFrom l (fi (dh l.bo.length 0)) (dh l.bo.length 0) []=(cq l,findG l):=by
 rw[<- Lc];exact EA au _ _ _ _ (kC _ _) (anp _) US
theorem abo{l:Li}(au:aM l=0){kw:List Bool}{out:List Gr}(hk:kw.length=l.bo.length)(h:findFrom l (fi kw) kw out=(cq l,findG l)):out.length<=8:=by
 obtain⟨gs,e⟩:=E4 (l:=l) (fi kw) kw out;rw[e]at h;have h1:=(xJ au).2;have h2:out++gs=findG l:=(Prod.mk.inj h).2;rw[<- h2,aoe]at h1;omega
theorem ae9(l:Li)(kw used:List Bool)(out:List Gr)(hk:kw.length=l.bo.length)(hu:used.length=l.jo.length)(hm:l.bo.length<=bb/\l.jo.length<=bb) :
  Wk ⟨[pP 5 (.ptr 33 0)],sf l kw used out⟩ ⟨[pP 5 (.iptr (fx l kw (cM l) [.lst 1 (used.map bl),.lst 4 (out.map Gr.av)]))],[]⟩:=by
 have hd:=yk l;have q1:.ms 23 1 0 l.bo.length=AV.ms 23 1 0 ((bv kw).map AV.v).length:=by rw[anl,jG,hk]
 refine(Wk.of (sl:=[pP 5 (.ptr 33 0)]) (hp:=[pP 33 (ua l out.length),pP 23 (.row 1 ((bv kw).map .v)),pP 27 (.row 1 ((bv (cM l)).map .v)),pP 31 (.row 1 ((bv used).map .v)),pP 900 (.row 4 (out.map Gr.av))])
  (.k .nil) (.k (.cons rfl (.vecRow (by rw[jG];omega)) (.cons rfl (.vecRow (by rw[jG];omega)) (.cons rfl (.vecRow (by rw[jG];omega)) (.k .nil)))))).trans ?_
 refine(Wk.freeze (k:=23) rfl).trans ?_
 refine(Wk.of (sl:=[pP 5 (.ptr 33 0)]) (hp:=[pP 33 (.box (l.av.cells++[.lst 1 (kw.map bl),.ms 27 1 0 l.bo.length,.ms 31 1 0 l.jo.length,.ms 900 4 0 out.length])),pP 27 (.row 1 ((bv (cM l)).map .v)),pP 31 (.row 1 ((bv used).map .v)),pP 900 (.row 4 (out.map Gr.av))])
  (.k .nil) (.cons rfl (BlkSub.bL (.cons (.refl _) (.cons (.refl _) (.cons (.refl _) (.cons (.refl _) (.cons (.of ((cz (by rw[anl,jG,hk])).trans (by rw[Cc]))) (.cons (.refl _) (.cons (.refl _) (.cons (.refl _) .nil)))))))) rfl) (.k (.k (.k .nil))))).trans ?_
 refine(Wk.freeze (k:=27) rfl).trans ?_
 refine(Wk.of (sl:=[pP 5 (.ptr 33 0)]) (hp:=[pP 33 (.box (l.av.cells++[.lst 1 (kw.map bl),.lst 1 ((cM l).map bl),.ms 31 1 0 l.jo.length,.ms 900 4 0 out.length])),pP 31 (.row 1 ((bv used).map .v)),pP 900 (.row 4 (out.map Gr.av))])
  (.k .nil) (.cons rfl (BlkSub.bL (.cons (.refl _) (.cons (.refl _) (.cons (.refl _) (.cons (.refl _) (.cons (.refl _) (.cons (.of ((cz (by rw[anl,jG,hd])).trans (by rw[Cc]))) (.cons (.refl _) (.cons (.refl _) .nil)))))))) rfl) (.k (.k .nil)))).trans ?_
 refine(Wk.freeze (k:=31) rfl).trans ?_
 refine(Wk.of (sl:=[pP 5 (.ptr 33 0)]) (hp:=[pP 33 (.box (l.av.cells++[.lst 1 (kw.map bl),.lst 1 ((cM l).map bl),.lst 1 (used.map bl),.ms 900 4 0 out.length])),pP 900 (.row 4 (out.map Gr.av))])
  (.k .nil) (.cons rfl (BlkSub.bL (.cons (.refl _) (.cons (.refl _) (.cons (.refl _) (.cons (.refl _) (.cons (.refl _) (.cons (.refl _) (.cons (.of ((cz (by rw[anl,jG,hu])).trans (by rw[Cc]))) (.cons (.refl _) .nil)))))))) rfl) (.k .nil))).trans ?_
 refine(Wk.freeze (k:=900) rfl).trans ?_
 refine(Wk.of (sl:=[pP 5 (.ptr 33 0)]) (hp:=[pP 33 (.box (fx l kw (cM l) [.lst 1 (used.map bl),.lst 4 (out.map Gr.av)]))])
  (.k .nil) (.cons rfl (BlkSub.bL (.cons (.refl _) (.cons (.refl _) (.cons (.refl _) (.cons (.refl _) (.cons (.refl _) (.cons (.refl _) (.cons (.refl _) (.cons (.of (cz (by rw[anl]))) .nil)))))))) rfl) .nil)).trans ?_
 refine(Wk.freezeB (k:=33) rfl rfl).trans ?_;exact Wk.of (.k .nil) .nil
theorem V3(l:Li)(hl:l.ok):FP 222 [l.av] (.tup [wF l,bU (aM l)]):=by
 refine am func222 ?_;refine gc (QA l hl) ?_;refine gC (fun y=>?_) (fun y=>?_)
 ·have h1:=et y;refine bO ?_;unfold wF;rw[aoy h1]
 have au:=d7 y;have h8:=(dC au).2.2.2.1;have h0:=(dC au).2.2.2.2;have Ih:l.jo.length<=16:=by have:=(dC au).2.1;unfold gN at this;split at this;cases this;omega
 have xh:=hl.ld;have hm:l.bo.length<=bb/\l.jo.length<=bb:=by unfold bb;omega
 refine gl ?_;refine gs (E0 (.tmp rfl) T320 rfl T4 rfl rfl rfl rfl (by dsimp only;omega) rfl) ?_;refine gl ?_;refine gs (E0 (.tmp rfl) T320 rfl T4 rfl rfl rfl rfl (by dsimp only;omega) rfl) ?_;refine gl ?_;refine gs (E0 (.tmp rfl) T320 rfl T4 rfl rfl rfl rfl (by dsimp only;omega) rfl) ?_;refine gD ?_;refine gs (cG (n:=0) (.tmp rfl) (.const _) T320 rfl T4 rfl rfl oz rfl) ?_;refine gs (CI (.tmp rfl) rfl (by rw[aon];omega) (.const _) rfl T4 rfl) ?_ (6,0);refine gW (Wk.of (sl:=[pP 1 (.ptr 1 0),pP 5 (.ptr 33 0)]) (hp:=[pP 1 (.box l.av.cells),pP 33 (.box (l.av.cells++[.ms 23 1 0 l.bo.length,.ms 27 1 0 l.bo.length,.ms 31 1 0 l.jo.length,nS])),pP 23 (.vec (bv (dh l.bo.length 0))),pP 27 (.vec (bv (als l.bo.length false))),pP 31 (.vec (bv (als l.jo.length false)))]) bg (.k (.k (.cons rfl (.of (by rw[Hf,BT];rfl)) (.cons rfl (.of (by rw[Hf])) (.cons rfl (.of (by rw[Hf])) .nil)))))) ?_
 refine gl ?_;refine aY [1,5,40,41] [1,23,31] (fun(i:Nat)=>[pP 42 (i64 i)]) (fun i=>[pP 33 (.box (l.av.cells++[.ms 23 1 0 l.bo.length,.ms 27 1 0 l.bo.length,.ms 31 1 0 l.jo.length,nS])),pP 27 (.vec (bv (bR (als l.bo.length false) ((l.dv.map Dr.body).take i))))]) (fun i=>i<=l.dv.length) (fun i=>l.dv.length-i) 0 (ans _) ?_;rintro i hi K1 J1;refine gC (fun y=>?_) (fun y=>?_) (st2:=(11,0))
 ·have ah:=bf y;obtain⟨d,hd⟩:=aB ah;have hb:=cS (lZ au hd);have hmt:=Es (k:=als l.bo.length false) (bs:=l.dv.map Dr.body) (i:=i) (b:=d.body) (by rw[anr,hd];rfl);refine gi (aL hd) ?_;refine gs (cG (n:=d.body.toNat) (.tmp rfl) (.tmp rfl) T320 rfl T4 rfl oz oz rfl) ?_;refine gs (CI (.tmp rfl) rfl (by rw[jG,mV,aon];omega) (.const _) rfl T4 rfl) ?_;refine gD ?_;refine ga aU ?_;exact aS J1 (i+1) ah (hw:=Wk.of bg (.k (.cons rfl (.of (by rw[BT,hmt])) (.k (.k (.k .nil))))))
 have ah:=bu hi y;have uP:bR (als l.bo.length false) ((l.dv.map Dr.body).take i)=cM l:=by rw[ah];unfold cM;rw[an1 (by rw[anl];omega)]
 refine gW ((Wk.virt 900 4 rfl).trans<|Wk.of (sl:=[pP 1 (.ptr 1 0),pP 5 (.ptr 33 0)]) (hp:=[pP 33 (ua l 0),pP 23 (.vec (bv (dh l.bo.length 0))),pP 27 (.vec (bv (cM l))),pP 31 (.vec (bv (als l.jo.length false))),pP 900 (.row 4 [])]) bg (.cons rfl (BlkSub.bL (.cons (.refl _) (.cons (.refl _) (.cons (.refl _) (.cons (.refl _) (.cons (.refl _) (.cons (.refl _) (.cons (.refl _) (.cons (Sub.nM _ _ _) .nil)))))))) rfl) (.k (.cons rfl (.of (by rw[uP])) (.k (.k .nil)))))) ?_
 refine gt (aR (O0 l hl au (dh l.bo.length 0) (als l.jo.length false) (kC _ _) aon hm []) (dJ rfl) (fun k z h=>h) rfl rfl) ?_;refine jZ [5,8] [] (fun(kw:List Bool)(out:List Gr)=>[pP 9 (bl (nextG l kw).isSome)]) (fun kw out=>[pP 8 (.box ((nextG l kw).getD default).av.cells),pP 33 (ua l out.length),pP 23 (.vec (bv kw)),pP 27 (.vec (bv (cM l))),pP 31 (.vec (bv (nk l out))),pP 900 (.row 4 (out.map Gr.av))]) (fun kw out=>kw.length=l.bo.length/\findFrom l (fi kw) kw out=(cq l,findG l)) (fun kw _=>fi kw) (dh l.bo.length 0) ([]) ⟨kC _ _,XK au⟩ ?_
 rintro kw out ⟨hk,hf⟩ K2 J2;refine gC (fun y=>?_) (fun y=>?_) (st1:=(77777,0)) (st2:=(27,0))
 ·obtain⟨g,hg⟩:=F5 y;have ib:=CQ au hg;have ajj:=abo au hk hf;refine gW (Wk.of (sl:=[pP 5 (.ptr 33 0),pP 8 (.ptr 8 0)]) (hp:=[pP 8 (.box g.av.cells),pP 33 (ua l out.length),pP 23 (.vec (bv kw)),pP 27 (.vec (bv (cM l))),pP 31 (.vec (bv (nk l out))),pP 900 (.row 4 (out.map Gr.av))]) bg (.cons rfl (.of (by rw[hg]; rfl)) (.k (.k (.k (.k (.k .nil))))))) ?_;refine gl ?_;refine aY [5,8,66,67] [8,33,27,31,900] (fun (j:Nat)=>[pP 68 (i64 j)]) (fun j=>[pP 23 (.vec (bv (bR kw (g.bo.take j))))]) (fun j=>j<=g.bo.length) (fun j=>g.bo.length - j) 0 (ans _) ?_;rintro j hj K3 J3;refine gC (fun y=>?_) (fun y=>?_)
  ·have ah:=bf y;obtain⟨b,hb⟩:=aB ah;have s9:=ib.b b (ank hb);have dU:=ib.lb;refine gi (aL hb) ?_;refine gs (cG (n:=b.toNat) (.tmp rfl) (.tmp rfl) T320 rfl T4 rfl oz oz rfl) ?_;refine gs (CI (.tmp rfl) rfl (by rw[jG,mV];omega) (.const _) rfl T4 rfl) ?_;refine ga aU ?_;exact aS J3 (j+1) ah (hw:=Wk.of bg (.cons rfl (.of (by rw[BT,Es hb])) (.k (.k (.k (.k (.k .nil)))))))
  have ah:=bu hj y;subst ah;refine gl ?_;refine aY [5,8,80,81] [8,33,27,900] (fun(q:Nat)=>[pP 82 (i64 q)]) (fun q=>[pP 23 (.vec (bv (bR kw g.bo))),pP 31 (.vec (bv (bR (nk l out) (g.jo.take q))))]) (fun q=>q<=g.jo.length) (fun q=>g.jo.length-q) 0 (ans _) ?_ (h2:=(.cons rfl (.of (by rw[an3])) (.k .nil)));rintro q hq K4 J4;refine gC (fun y=>?_) (fun y=>?_)
  ·have ah:=bf y;obtain⟨b,hb⟩:=aB ah;have s9:=ib.j b (ank hb);have tg:=ib.lj;refine gi (aL hb) ?_;refine gs (cG (n:=b.toNat) (.tmp rfl) (.tmp rfl) T320 rfl T4 rfl oz oz rfl) ?_;refine gs (CI (.tmp rfl) rfl (by rw[jG,mV,Hg];omega) (.const _) rfl T4 rfl) ?_;refine ga aU ?_;exact aS J4 (q+1) ah (hw:=Wk.of bg (.k (.cons rfl (.of (by rw[BT,Es hb])) (.k (.k (.k (.k .nil)))))))
  have ah:=bu hq y;subst ah;refine gs (cZ (.tmp rfl) rfl (by rw[anl]) (.tmp rfl) T130 rfl T169 rfl rfl (by simp only[an0,aoa];omega) rfl rfl) ?_;refine gD ?_ (25,0);refine gW (Wk.of (sl:=[pP 5 (.ptr 33 0),pP 8 (.ptr 8 0)]) (hp:=[pP 8 (.box g.av.cells),pP 33 (.box (l.av.cells++[.ms 23 1 0 l.bo.length,.ms 27 1 0 l.bo.length,.ms 31 1 0 l.jo.length,.ms 100 4 0 (out++[g]).length])),pP 100 (.row 4 ((out++[g]).map Gr.av)),pP 23 (.vec (bv (bR kw g.bo))),pP 27 (.vec (bv (cM l))),pP 31 (.vec (bv (nk l (out++[g]))))]) bg (.k (.cons rfl (.of (by rw[aoe];rfl)) (.cons rfl (.of (by rw[aoc];rfl)) (.k (.k (.cons rfl (.of (by rw[agv,an3])) .nil))))))) ?_ (25,0)
  refine gW (Wk.rk (k:=100) (d:=900) rfl rfl) ?_ (26,0);refine gW (Wk.o (sl:=[pP 5 (.ptr 33 0),pP 103 (g.av)]) (hp:=[pP 33 (ua l (out++[g]).length),pP 23 (.vec (bv (bR kw g.bo))),pP 27 (.vec (bv (cM l))),pP 31 (.vec (bv (nk l (out++[g])))),pP 900 (.row 4 ((out++[g]).map Gr.av))])) ?_;refine gt (aR (O0 l hl au (bR kw g.bo) (nk l (out++[g])) (by rw[mV];exact hk) (Hg _ _) hm (out++[g])) (dJ rfl) (by intro k z h;simp only[sf,a5]at h;split at h;(subst_vars;exact h);split at h;(subst_vars;exact h);split at h;(subst_vars;exact h);split at h;(subst_vars;exact h);split at h;(subst_vars;exact h);cases h) rfl rfl) ?_;exact jq J2 (bR kw g.bo) (out++[g]) ⟨by rw[mV];exact hk,Ug au hk hf hg⟩ (xV au hk hg)
 have hg:=G7 y;obtain⟨e1,e2⟩:=UD hf hg;subst e1 e2;refine gW (Wk.o (sl:=[pP 5 (.ptr 33 0)]) (hp:=[pP 33 (ua l (findG l).length),pP 23 (.vec (bv (cq l))),pP 27 (.vec (bv (cM l))),pP 31 (.vec (bv (nk l (findG l)))),pP 900 (.row 4 ((findG l).map Gr.av))])) ?_ (27,0);refine gW (ae9 l (cq l) (nk l (findG l)) (findG l) hk (Hg _ _) hm) ?_;refine bO ?_;unfold wF;rw[aoz au,au];rfl
theorem Pa{α:Type}[BEq α][LawfulBEq α]{xs:List α}{b:α}{ok:Nat->Bool}(h:∀i x,xs[i]?=some x->ok i=!(b==x)):decide (0<=sT (fe xs.length ok))=xs.contains b:=by
 cases hf:fe xs.length ok with
 |some i =>
  obtain⟨h1,h2⟩:=ii hf;obtain⟨x,hx⟩:=aB h1;rw[h i x hx]at h2;have:b=x:=by simpa using h2
  subst this;rw[alf.2 (ank hx)];exact ao3 (by show(0:Int)<=(i:Int);omega)
 |none =>
  rw[ao4 (by show ¬(0:Int)<=-1;decide)]
  symm
  rw[<- Bool.not_eq_true,alf];intro hm;obtain⟨i,hi⟩:=List.mem_iff_getElem?.1 hm;have hlt:=(alj.1 hi).1;unfold fe at hf;rw[List.find?_eq_none]at hf;have:=hf i (alh.2 hlt);rw[h i b hi]at this;simp at this
theorem YN(xs:List Bool)(b:Bool)(hl:xs.length<=281474976710656):FP 345 [.lst 1 (xs.map bl),bl b] (i64 (sT (fe xs.length (fun i=>!(b==xs.getD i false))))):=by
 refine am func345 ?_;refine gl ?_;refine aY [0,1,7] [] (fun(i:Nat)=>[pP 8 (i64 i)]) (fun _=>[]) (fun i=>i<=xs.length/\∀j,j<i->(!(b==xs.getD j false))=true) (fun i=>xs.length-i) 0 ⟨ans _,fun j h=>by omega⟩ ?_;rintro i ⟨hi,hj⟩ K1 J1;refine gC (fun z=>?_) (fun z=>?_)
 ·have ah:=bf z;obtain⟨x,hx⟩:=aB ah;have hg:xs.getD i false=x:=aw hx;refine gi (aL hx) ?_;refine gC (fun z=>?_) (fun z=>?_)
  ·have h2:(b==x)=true:=z;refine ai ?_;rw[lL ah hj (by rw[hg,h2];rfl)];rfl
  have h2:(b==x)=false:=z;refine ga aU ?_;exact aS J1 (i+1) ⟨ah,fun j h9=>by rcases anu j i with g |g;exact hj j g;(have:j=i:=by omega);subst this;rw[hg,h2];rfl⟩
 have ah:=bu hi z;subst ah;refine ai ?_;rw[mI hj];rfl
theorem JD(xs:List Bool)(b:Bool)(hl:xs.length<=281474976710656):FP 223 [.lst 1 (xs.map bl),bl b] (bl (xs.contains b)):=by
 refine am func223 ?_;refine gc (YN xs b hl) ?_;refine ai ?_;rw[<- Pa (xs:=xs) (b:=b) (ok:=fun i=>!(b==xs.getD i false)) (fun i x hx=>by rw[aw hx])];rfl
theorem WT(xs:List Int)(b:Int)(hl:xs.length<=281474976710656):FP 401 [.lst 1 (xs.map i64),i64 b] (i64 (sT (fe xs.length (fun i=>!(b==xs.getD i 0))))):=by
 refine am func401 ?_;refine gl ?_;refine aY [0,1,7] [] (fun(i:Nat)=>[pP 8 (i64 i)]) (fun _=>[]) (fun i=>i<=xs.length/\∀j,j<i->(!(b==xs.getD j 0))=true) (fun i=>xs.length-i) 0 ⟨ans _,fun j h=>by omega⟩ ?_;rintro i ⟨hi,hj⟩ K1 J1;refine gC (fun z=>?_) (fun z=>?_)
 ·have ah:=bf z;obtain⟨x,hx⟩:=aB ah;have hg:xs.getD i 0=x:=aw hx;refine gi (aL hx) ?_;refine gC (fun z=>?_) (fun z=>?_)
  ·have h2:(b==x)=true:=z;refine ai ?_;rw[lL ah hj (by rw[hg,h2];rfl)];rfl
  have h2:(b==x)=false:=z;refine ga aU ?_;exact aS J1 (i+1) ⟨ah,fun j h9=>by rcases anu j i with g |g;exact hj j g;(have:j=i:=by omega);subst this;rw[hg,h2];rfl⟩
 have ah:=bu hi z;subst ah;refine ai ?_;rw[mI hj];rfl
theorem PA(xs:List Int)(b:Int)(hl:xs.length<=281474976710656):FP 318 [.lst 1 (xs.map i64),i64 b] (bl (xs.contains b)):=by
 refine am func318 ?_;refine gc (WT xs b hl) ?_;refine ai ?_;rw[<- Pa (xs:=xs) (b:=b) (ok:=fun i=>!(b==xs.getD i 0)) (fun i x hx=>by rw[aw hx])];rfl
theorem Mi(l:Li)(hl:l.ok):FP 113 [l.av] (.tup [.lst 4 (((if aM l=0 then splitG l else[])).map Gr.av),bU (if aM l=0 then splitE l else aM l)]):=by
 refine am func113 ?_;refine gc (V3 l hl) (hnm:=(by unfold wF;split <;> rfl)) ?_;refine gC (fun z=>?_) (fun z=>?_) (st2:=(77777,0))
 ·have h1:=et z;refine gR ?_;exact fa (by rw[aoy h1,aoy h1];exact Sub.tup (.cons (.nil _ _ _) (.cons (.refl _) .nil)))
 have au:=d7 z;have h8:=(dC au).2.2.2.1;have Ih:l.jo.length<=16:=by have:=(dC au).2.1;unfold gN at this;split at this;cases this;omega
 have lk1:(cq l).length=l.bo.length:=by unfold cq;rw[vX,kC]
 have lk2:(gE l).length=l.jo.length:=by unfold gE;rw[vX,aon]
 have e1:wF l=.iptr (fx l (cq l) (cM l) [.lst 1 ((gE l).map bl),.lst 4 ((findG l).map Gr.av)]):=by unfold wF;rw[aoz au]
 have c1:=AH (k:=cq l);have c2:=AH (k:=gE l);refine gW (Wk.of (sl:=[pP 4 (.iptr (fx l (cq l) (cM l) [.lst 1 ((gE l).map bl),.lst 4 ((findG l).map Gr.av)])),pP 5 (bU (aM l))]) (hp:=[]) (.cons rfl (.of e1) (.k .nil)) .nil) ?_;refine gc (JD (cq l) false oz) ?_;refine cm (fun _=>(JD (gE l) false oz)) ?_;refine gC (fun t25=>?_) (fun t25=>?_)
 ·have h2:splitE l=7:=by
   unfold splitE;rw[aoy];intro h;have h3:(cq l).contains false=false:=c1.1 oz;have h4:(gE l).contains false=false:=c2.1 oz;rw[h3,h4]at t25;cases t25
  refine gR ?_;exact fa (by rw[aoz au,aoz au];unfold splitG;rw[aoy (by rw[h2];simp),h2];exact Sub.tup (.cons (.nil _ _ _) (.cons (.refl _) .nil)))
 have h2:splitE l=0:=by
  unfold splitE;rw[aoz];cases h3:(cq l).contains false <;> cases h4:(gE l).contains false <;> rw[h3,h4]at t25 <;> first |(cases t25;done) |(have g1:=c1.2 h3;have g2:=c2.2 h4;omega)
 refine bO ?_;rw[aoz au,aoz au,h2];unfold splitG;rw[aoz h2];rfl
def SO(ys:List Int)(i:Nat):Prop:=∀p q,p<q->q<i->ys.getD p 0<=ys.getD q 0
def SI(ys:List Int)(i j:Nat):Prop:=∀p q,p<q->q<=i->q≠j->ys.getD p 0<=ys.getD q 0
theorem Wo{xs ys:List Int}{i:Nat}(hp:ys.Perm xs)(hi:ys.length<=i)(h:SO ys i):ys=gw xs:=by
 refine abb hp (List.pairwise_iff_getElem.2 fun p q hp hq hpq=>?_);have h1:=h p q hpq oz;rw[aw (ano hp),aw (ano hq)]at h1;exact h1
theorem V5{ys:List Int}{i:Nat}(h:SO ys i):SI ys i i:=fun p q h1 h2 h3=>h p q h1 oz
theorem Xl{ys:List Int}{i j:Nat}(h:SI ys i j)(hj:j=0\/ys.getD (j-1) 0<=ys.getD j 0):SO ys (i+1):=by
 intro p q h1 h2
 by_cases hq:q=j
 ·subst hq;rcases hj with hj |hj
  ·omega
  ·by_cases hp:p=q-1
   ·subst hp;exact hj
   ·exact Int.le_trans (h p (q-1) oz oz oz) hj
 ·exact h p q h1 oz hq
theorem Nn(ys:List Int)(i:Nat)(x:Int)(p:Nat)(hi:i<ys.length):(ys.set i x).getD p 0=if p=i then x else ys.getD p 0:=by
 rw[anm,anm,List.getElem?_set]
 by_cases h:i=p
 ·subst h;simp[hi]
 ·rw[aoy h,aoy (fun e=>h e.symm)]
theorem WD{ys:List Int}{i j:Nat}(h:SI ys i j)(hj:0<j)(hi:j<=i)(hl:i<ys.length)(hlt:ys.getD j 0<ys.getD (j-1) 0):SI ((ys.set j (ys.getD (j-1) 0)).set (j-1) (ys.getD j 0)) i (j-1):=by
 intro p q h1 h2 h3
 have e:∀r,((ys.set j (ys.getD (j-1) 0)).set (j-1) (ys.getD j 0)).getD r 0=if r=j-1 then ys.getD j 0 else if r=j then ys.getD (j-1) 0 else ys.getD r 0:=fun r=>by
  rw[Nn _ _ _ _ (by rw[aox];omega),Nn _ _ _ _ oz]
 rw[e,e,aoy h3]
 by_cases hq:q=j
 ·rw[aoz hq]
  by_cases hp:p=j-1
  ·rw[aoz hp];omega
  ·rw[aoy hp,aoy oz];exact h p (j-1) oz oz oz
 ·rw[aoy hq]
  by_cases hp:p=j-1
  ·rw[aoz hp];exact h j q oz h2 hq
  ·rw[aoy hp]
   by_cases j8:p=j
   ·rw[aoz j8];exact h (j-1) q oz h2 hq
   ·rw[aoy j8];exact h p q h1 h2 hq
theorem ahm{ys:List Int}{j:Nat}{a b:Int}(ha:ys[j]?=some a)(hb:ys[j-1]?=some b):((ys.set j b).set (j-1) a).Perm ys:=by
 obtain⟨h1,rfl⟩:=alj.1 ha;obtain⟨h2,rfl⟩:=alj.1 hb;exact List.set_set_perm h1 h2
theorem acu{j:Nat}{a b:Int}(h:cond (aa .gtr (j:Int) 0) (decide (a<b)) false=true):0<j/\a<b:=by
 cases h1:aa .gtr (j:Int) 0 <;> rw[h1]at h
 ·cases h
 ·exact⟨lY (b:=0) h1,ao1 h⟩
theorem Z6{j:Nat}{a b:Int}(h:cond (aa .gtr (j:Int) 0) (decide (a<b)) false=false):j=0\/b<=a:=by
 cases h1:aa .gtr (j:Int) 0 <;> rw[h1]at h
 ·have:=jQ (b:=0) h1;omega
 ·have h2:decide (a<b)=false:=h;have:=ao2 h2;omega
theorem afp(ys:List Int)(j:Nat)(a b:Int):((ys.map i64).set j (i64 b)).set (j-1) (i64 a)=((ys.set j b).set (j-1) a).map i64:=by rw[aou,aou]
theorem Of(a:Int):FP 454 [i64 a] (bl false):=by
 refine am func454 ?_;refine ai ?_;simp[aa];rfl
theorem Tv(a b:Int):FP 408 [i64 a,i64 b] (bl (decide (a<b))):=by
 refine am func408 ?_;refine gc (Of a) ?_;refine cm (fun _=>(Of b)) ?_;refine ai ?_
 first |rfl |(simp;done)
theorem UH(xs:List Int)(hl:xs.length<=12):Con prog 402 [.ms 1000 1 0 xs.length,i64 0,i64 xs.length] [pP 1000 (.row 1 (xs.map i64))] (.tup []) [pP 1000 (.row 1 ((gw xs).map i64))]:=by
 refine gF func402 (fun k z h=>bW h) ?_;refine ga (show _=((1:Nat):Int)from rfl) ?_;refine jZ [1,2] [] (fun(ys:List Int)(i:Nat)=>[pP 0 (.ms 1000 1 0 xs.length),pP 6 (i64 i)]) (fun ys _=>[pP 1000 (.row 1 (ys.map i64))]) (fun ys i=>ys.length=xs.length/\ys.Perm xs/\1<=i/\SO ys i) (fun _ i=>xs.length+1-i) xs 1 ⟨rfl,.refl _,anp _,fun p q h1 h2=>by omega⟩ ?_;rintro ys i ⟨Dv,RA,H3,RC⟩ K1 J1;refine gC (fun y=>?_) (fun y=>?_)
 ·have ah:=bf y;refine jZ [1,2,6] [] (fun (zs:List Int) (j:Nat)=>[pP 0 (.ms 1000 1 0 xs.length),pP 7 (i64 j)]) (fun zs _=>[pP 1000 (.row 1 (zs.map i64))]) (fun zs j=>zs.length=xs.length/\zs.Perm xs/\j<=i/\SI zs i j) (fun _ j=>j) ys i ⟨Dv,RA,anp _,V5 RC⟩ ?_;rintro zs j ⟨RD,RE,ry,RF⟩ K2 J2;obtain⟨a,ha⟩:=aB (show j<zs.length by omega);obtain⟨b,hb⟩:=aB (show j - 1<zs.length by omega);refine gs (gy rfl rfl rfl (fun h=>cG (n:=j) (.opt rfl (o1 h)) (.opt rfl (o1 h)) T46 rfl T3 rfl oz oz rfl)) ?_;refine gs (gy rfl rfl rfl (fun h=>fR (.opt rfl (o1 h)) rfl (aL ha) T3 rfl rfl rfl)) ?_;refine uk (fun h=>(mL (lY (b:=0) h) (by unfold bb; omega))) ?_;refine gs (gy rfl rfl rfl (fun h=>cG (n:=(j - 1)) (.opt rfl (o1 h)) (.opt rfl (o1 h)) T46 rfl T3 rfl oz oz rfl)) ?_;refine gs (gy rfl rfl rfl (fun h=>fR (.opt rfl (o1 h)) rfl (aL hb) T3 rfl rfl rfl)) ?_;refine cm (fun _=>(Tv a b)) ?_;refine gD ?_;refine gC (fun y=>?_) (fun y=>?_)
  ·obtain⟨jd,Rd⟩:=acu y;refine ga (mL jd (by unfold bb;omega)) ?_;refine ga (mL jd (by unfold bb;omega)) ?_;refine gs (cG (n:=(j-1)) (.tmp rfl) (.tmp rfl) T46 rfl T3 rfl oz oz rfl) ?_;refine gs (fR (.tmp rfl) rfl (aL hb) T3 rfl rfl rfl) ?_;refine gs (cG (n:=j) (.tmp rfl) (.tmp rfl) T46 rfl T3 rfl oz oz rfl) ?_;refine gs (fR (.tmp rfl) rfl (aL ha) T3 rfl rfl rfl) ?_;refine gs (cG (n:=j) (.tmp rfl) (.tmp rfl) T46 rfl T3 rfl oz oz rfl) ?_;refine gs (eY (.tmp rfl) rfl (aL ha) rfl (.tmp rfl) rfl rfl T3 rfl rfl) ?_;refine gs (cG (n:=(j-1)) (.tmp rfl) (.tmp rfl) T46 rfl T3 rfl oz oz rfl) ?_;refine gs (eY (.tmp rfl) rfl ((List.getElem?_set_ne oz).trans (aL hb)) rfl (.tmp rfl) rfl rfl T3 rfl rfl) ?_;refine gD ?_;refine ga (mL jd (by unfold bb;omega)) ?_;exact jq J2 ((zs.set j b).set (j-1) a) (j-1) ⟨by rw[aox,aox];exact RD,(ahm ha hb).trans RE,by omega,by have h9:=WD RF jd ry oz (by rw[aw ha,aw hb];exact Rd);rw[aw ha,aw hb]at h9;exact h9⟩ (hw:=Wk.of bg (.cons rfl (.of (ao6 (Blk.row 1) (afp zs j a b))) .nil))
  have hs:=Z6 y;refine ga aU ?_;exact jq J1 zs (i+1) ⟨RD,RE,by omega,Xl RF (by rw[aw ha,aw hb];exact hs)⟩
 have ah:=wE y;refine gR ?_;exact aD.own2 rfl (by rw[<- Wo RA oz RC]) rfl
theorem Uo(xs:List Int)(hl:xs.length<=12)(m:Int):Con prog 319 [.ms 1000 1 0 xs.length,i64 0,i64 xs.length,i64 m] [pP 1000 (.row 1 (xs.map i64))] (.tup []) [pP 1000 (.row 1 ((gw xs).map i64))]:=by
 refine gF func319 (fun k z h=>bW h) ?_;refine VX [1,2,3,8,9] [1000] [pP 0 (.ms 1000 1 0 xs.length)] [] (True) (0) trivial ?_;rintro-K1 J1;refine ga (fc oz) ?_;refine gC (fun y=>?_) (fun y=>?_) (st2:=(77777,0))
 ·refine gt (aR (UH xs hl) (aV rfl rfl rfl) aT rfl rfl) ?_;refine gR ?_;exact aD.own2 rfl rfl rfl
 (rw[show aa .leq ((xs.length:Int)-0) 12=true from ao3 oz]at y;cases y)
theorem Uz(x:Nat)(hx:x<256):FP 412 [u64 x] (i64 (bp x)):=by
 refine am func412 ?_;refine gC (fun z=>?_) (fun z=>?_) (st1:=(2,0))
 ·(have:=z;simp[aa]at this;omega)
 refine gC (fun z=>?_) (fun z=>?_) (st1:=(5,0))
 ·(have:=z;simp[aa]at this;omega)
 refine gC (fun z=>?_) (fun z=>?_) (st1:=(8,0))
 ·(have:=z;simp[aa]at this;omega)
 refine gv (mQ hx) ?_;refine gs (x5 (y:=x) (.const _) (.tmp rfl) T9 rfl (by kernel_rfl) (by first |rfl |omega) oz rfl) ?_;refine gv (i64_in (by have:=mb hx;omega)) ?_;refine ga (d5 (by have:=mb hx;omega)) ?_;refine ai ?_;simp only[i64];congr 2;omega
theorem aei(x:Nat)(hx:x<256):FP 320 [u64 x] (i64 (bp x)):=by
 refine am func320 ?_;refine gC (fun RG=>?_) (fun RG=>?_) (st1:=(1,0));cases RG;refine gc (Uz x hx) ?_;refine ai ?_
 first |rfl |(simp;done)
theorem Tb(xs:List Int)(hl:xs.length<=12):Con prog 196 [.ms 1000 1 0 xs.length] [pP 1000 (.row 1 (xs.map i64))] (.tup []) [pP 1000 (.row 1 ((gw xs).map i64))]:=by
 refine gF func196 (fun k z h=>bW h) ?_;refine gv (show IntKind.u64.wrap _=((xs.length:Nat):Int)from u64_in oz) ?_;refine gc (aei xs.length oz) ?_;refine gt (aR (Uo xs hl _) (.cons (.tmp rfl) (.cons (.const _) (b8 rfl rfl))) aT rfl rfl) ?_;refine gR ?_;exact aD.own2 rfl rfl rfl
theorem Tg{l:Li}{g:Gr}{i:Nat}{z:Int}{j:Jt}(hz:g.jo[i]?=some z)(hj:l.jo[z.toNat]?=some j):(ja l g)[i]?=some (mT g j):=by
 unfold ja;rw[anr,hz,anh,aw hj]
theorem DM{l:Li}{g:Gr}{i:Nat}{z:Int}{j:Jt}{a:Int}(hz:g.jo[i]?=some z)(hj:l.jo[z.toNat]?=some j)(ha:mT g j=a):((ja l g).take i).map i64++[i64 a]=((ja l g).take (i+1)).map i64:=by
 rw[dR (Tg hz hj),ha,aoc];rfl
theorem ady{z:Int}{n:Nat}(h0:0<=z)(h1:z<n):cond (aa .lss z 0) true (aa .geq z (n:Int))=false:=by
 rw[show aa .lss z 0=false from ao4 oz];exact ao4 oz
theorem SS(l:Li)(hl:l.ok)(au:aM l=0)(g:Gr)(hg:GrOk l g):Con prog 195 [l.av,g.av] [] (.tup [.ms 900 1 0 g.jo.length,.v .nilIface]) [pP 900 (.row 1 ((ja l g).map i64))]:=by
 have dU:=hg.lb;have tg:=hg.lj;refine gF func195 (fun k z h=>by cases h) ?_;refine gc (QA l hl) ?_;refine gC (fun y=>?_) (fun y=>?_) (st1:=(3,0))
 ·(rw[au]at y;cases y)
 refine gl ?_;refine gW ((Wk.virt 900 1 rfl).trans<|Wk.of (sl:=[pP 2 (.ptr 2 0),pP 3 (.ptr 3 0),pP 7 (.ms 900 1 0 0),pP 19 (.lst 1 (g.jo.map i64)),pP 20 (i64 g.jo.length),pP 21 (i64 0)]) (hp:=[pP 2 (.box l.av.cells),pP 3 (.box g.av.cells),pP 900 (.row 1 [])]) (.k (.k (.cons rfl (Sub.nM _ _ _) (.k (.k (.k .nil)))))) (.k (.k (.k .nil)))) ?_;refine aY [2,3,19,20] [2,3] (fun(i:Nat)=>[pP 7 (.ms 900 1 0 i),pP 21 (i64 i)]) (fun i=>[pP 900 (.row 1 (((ja l g).take i).map i64))]) (fun i=>i<=g.jo.length) (fun i=>g.jo.length-i) 0 (ans _) ?_;rintro i hi K1 J1;refine gC (fun y=>?_) (fun y=>?_) (st2:=(18,0))
 ·have ah:=bf y;obtain⟨z,hz⟩:=aB ah;obtain⟨z0,z1⟩:=hg.j z (ank hz);obtain⟨j,hj⟩:∃ j,l.jo[z.toNat]?=some j:=aB oz;have hlt:(((ja l g).take i).map i64).length=i:=by rw[anl,an6,wQ]; omega
  refine gi (aL hz) ?_;refine cV ?_;refine gC (fun y=>?_) (fun y=>?_) (st1:=(9,0))
  ·(rw[ady z0 z1]at y;cases y)
  refine gi (lc (n:=z.toNat) oz hj) ?_;refine gc (PA g.bo j.a oz) ?_;refine gc (PA g.bo j.b oz) ?_;refine gD ?_;refine gC (fun t55=>?_) (fun t55=>?_)
  ·have ha:mT g j=-1:=by unfold mT; cases h1:g.bo.contains j.a <;> cases h2:g.bo.contains j.b <;> rw[h1,h2] at t55 <;> first | (cases t55; done) | rfl
   refine gs (cZ (.tmp rfl) rfl hlt.symm (.tmp rfl) T46 rfl T3 rfl rfl (by simp only[an0,aoa];omega) rfl rfl) ?_ (17,0);refine gW (Wk.of (sl:=[pP 2 (.ptr 2 0),pP 3 (.ptr 3 0),pP 7 (.ms 62 1 0 (i+1)),pP 19 (.lst 1 (g.jo.map i64)),pP 20 (i64 g.jo.length),pP 21 (i64 i)]) (hp:=[pP 2 (.box l.av.cells),pP 3 (.box g.av.cells),pP 62 (.row 1 (((ja l g).take (i+1)).map i64))]) bg (.k (.k (.cons rfl (.of (ao6 (Blk.row 1) (DM hz hj ha))) .nil)))) ?_ (17,0);refine gW (Wk.rk (k:=62) (d:=900) rfl rfl) ?_;refine ga aU ?_;exact aS J1 (i+1) ah
  refine gC (fun y=>?_) (fun y=>?_)
  ·have ha:mT g j=j.b:=by unfold mT; cases h1:g.bo.contains j.a <;> cases h2:g.bo.contains j.b <;> rw[h1] at y <;> rw[h1,h2] at t55 <;> first | (cases t55; done) | (cases y; done) | rfl
   refine gs (cZ (.tmp rfl) rfl hlt.symm (.tmp rfl) T46 rfl T3 rfl rfl (by simp only[an0,aoa];omega) rfl rfl) ?_ (17,0);refine gW (Wk.of (sl:=[pP 2 (.ptr 2 0),pP 3 (.ptr 3 0),pP 7 (.ms 69 1 0 (i+1)),pP 19 (.lst 1 (g.jo.map i64)),pP 20 (i64 g.jo.length),pP 21 (i64 i)]) (hp:=[pP 2 (.box l.av.cells),pP 3 (.box g.av.cells),pP 69 (.row 1 (((ja l g).take (i+1)).map i64))]) bg (.k (.k (.cons rfl (.of (ao6 (Blk.row 1) (DM hz hj ha))) .nil)))) ?_ (17,0);refine gW (Wk.rk (k:=69) (d:=900) rfl rfl) ?_;refine ga aU ?_;exact aS J1 (i+1) ah
  have ha:mT g j=j.a:=by unfold mT;rw[aoy (by rw[show g.bo.contains j.a=false from y];simp)]
  refine gs (cZ (.tmp rfl) rfl hlt.symm (.tmp rfl) T46 rfl T3 rfl rfl (by simp only[an0,aoa];omega) rfl rfl) ?_ (17,0);refine gW (Wk.of (sl:=[pP 2 (.ptr 2 0),pP 3 (.ptr 3 0),pP 7 (.ms 54 1 0 (i+1)),pP 19 (.lst 1 (g.jo.map i64)),pP 20 (i64 g.jo.length),pP 21 (i64 i)]) (hp:=[pP 2 (.box l.av.cells),pP 3 (.box g.av.cells),pP 54 (.row 1 (((ja l g).take (i+1)).map i64))]) bg (.k (.k (.cons rfl (.of (ao6 (Blk.row 1) (DM hz hj ha))) .nil)))) ?_ (17,0);refine gW (Wk.rk (k:=54) (d:=900) rfl rfl) ?_;refine ga aU ?_;exact aS J1 (i+1) ah
 have ah:=bu hi y;subst ah;refine gW (Wk.of (sl:=[pP 7 (.ms 900 1 0 g.jo.length)]) (hp:=[pP 900 (.row 1 ((ja l g).map i64))]) bg (.cons rfl (.of (by rw[an1 (by rw[wQ];exact anp _)])) .nil)) ?_;refine gR ?_;exact aD.keep (bH rfl)
theorem XH{b:List Rt}{rs:List (List Rt)}{e:Nat}(hb:NR b e)(hn:cA rs.length b=0)(h5:rs.length<=5):Nm rs.length e (lq b):=⟨h5,(hb.num hn).2,hb.cb⟩
theorem ab2(x y:Rt)(hx:x.ok)(hy:y.ok)(qx:Qs x.q)(qy:Qs y.q):FP 256 [x.av,y.av] (aP (sh 0 (x.q:Rat)) (sh 0 (y.q:Rat))):=by
 refine am func256 ?_;refine gc (GT x hx qx) ?_;refine gc (GT y hy qy) ?_;refine gD ?_;refine ai ?_
 first |rfl |(simp;done)
theorem Vw(rs:List (List Rt))(r e:Nat)(h:TR rs r)(xs:List (List Rt))(hx:∀a∈xs,NR a e)(he:e<=lm rs.length)(hl:xs.length<=1000):FP 264 [cJ rs,.lst 1 (xs.map nR)] (bU (bc rs xs)):=by
 refine am func264 ?_;refine gc (tZ rs r h) ?_;refine gC (fun z=>?_) (fun z=>?_)
 ·have h1:=et z;refine ai ?_;rw[C5 h1]
 have h1:=d7 z;refine gl ?_;refine aY [2,15,16] [2] (fun(i:Nat)=>[pP 17 (i64 i)]) (fun _=>[]) (fun i=>i<=xs.length/\∀x∈xs.take i,cA rs.length x=0) (fun i=>xs.length-i) 0 ⟨ans _,fun x hx=>by simp at hx⟩ ?_;rintro i ⟨hi,hj⟩ K1 J1;refine gC (fun z=>?_) (fun z=>?_)
 ·have ah:i<xs.length:=by simpa[aa] using z
  obtain⟨a,ha⟩:=aB ah;have ci:=hx a (ank ha);have lG:bc rs [a]=cA rs.length a:=GA h1;refine gi (aL ha) ?_;refine gc (Ho rs r h a e ci he) ?_;refine gC (fun z=>?_) (fun z=>?_)
  ·have h2:=et z;refine ai ?_;rw[lG]at h2 ⊢;rw[yW h1 ha hj h2]
  have h2:=d7 z;rw[lG]at h2;refine ga aU ?_;exact aS J1 (i+1) ⟨ah,fun x hx=>by rw[dR ha]at hx;rcases anz.1 hx with h9 |h9;exact hj x h9;(rw[alr.1 h9];exact h2)⟩
 have ah:i=xs.length:=by have:xs.length<=i:=(by simpa[aa]using z);omega
 subst ah;rw[an3]at hj;refine ai ?_;rw[rK h1 hj];rfl
def Ed(rs:List (List Rt))(b:Pl)(x y:Rt):List Rat:=sh (llq rs).length (vo (llq rs) (af (llq rs).length (lq b.c)) (af (llq rs).length (lq b.s)) (af (llq rs).length (lq b.x)) x.q y.q)
def Ee(rs:List (List Rt))(b:Pl)(x y:Rt):List Rat:=sh (llq rs).length (wW (llq rs) (af (llq rs).length (lq b.c)) (af (llq rs).length (lq b.s)) (af (llq rs).length (lq b.y)) x.q y.q)
theorem G3(rs:List (List Rt)):(llq rs).length=rs.length:=by simp[llq]
structure PlN(rs:List (List Rt))(b:Pl)(e:Nat):Prop where
  c:Nm (llq rs).length e (lq b.c)
  s:Nm (llq rs).length e (lq b.s)
  x:Nm (llq rs).length e (lq b.x)
  y:Nm (llq rs).length e (lq b.y)
  av:b.av=.agg [nA (lq b.c),nA (lq b.s),nA (lq b.x),nA (lq b.y)]
theorem YY{rs:List (List Rt)}{b:Pl}{e r:Nat}(h:TR rs r)(hb:∀x∈b.l,NR x e)(hc:bc rs b.l=0):PlN rs b e:=by
 obtain⟨h1,h2⟩:=l9 hc;obtain⟨tw,_⟩:=dg h h1;have h5:rs.length<=5:=by have:=tw.five;rwa [G3]at this
 have k:∀x∈b.l,Nm (llq rs).length e (lq x)/\nR x=nA (lq x):=fun x hx=>by
  rw[G3];exact⟨XH (hb x hx) (h2 x hx) h5,((hb x hx).num (h2 x hx)).1⟩
 have k1:=k b.c (by simp[Pl.l]);have k2:=k b.s (by simp[Pl.l]);have k3:=k b.x (by simp[Pl.l]);have k4:=k b.y (by simp[Pl.l]);exact⟨k1.1,k2.1,k3.1,k4.1,by unfold Pl.av;rw[k1.2,k2.2,k3.2,k4.2]⟩
theorem ZG(rs:List (List Rt))(r e:Nat)(h:TR rs r)(h1:bB rs=0)(b:Pl)(hb:∀x∈b.l,NR x e)(x y:Rt)(hx:x.ok)(hy:y.ok)(qx:Qb e x.q)(qy:Qb e y.q)(he:8*e+4*kB r rs.length+4<=lm rs.length) :
  FP 139 [cJ rs,b.av,x.av,y.av] (.tup [aP (if bc rs b.l=0 then Ed rs b x y else[]) (if bc rs b.l=0 then Ee rs b x y else[]),bU (bc rs b.l)]):=by
 have dW:=jA rs.length;have pb:[b.c,b.s,b.x,b.y]=b.l:=rfl;refine am func139 ?_;refine gc (Vw rs r e h b.l hb oz (by simp[Pl.l])) ?_;refine gC (fun z=>?_) (fun z=>?_)
 ·have h2:=et z;refine gR ?_;exact fa (by rw[aoy h2,aoy h2];exact Sub.tup (.cons (Sub.agg (.cons (.nil _ _ _) (.cons (.nil _ _ _) .nil)) rfl) (.cons (.refl _) .nil)))
 have h2:=d7 z;obtain⟨tw,etw⟩:=dg h h1;have pn:=YY h hb h2;have ec:nR b.c=nA (lq b.c):=by have:=pn.av;unfold Pl.av at this;simp only[AV.agg.injEq,List.cons.injEq]at this;exact this.1
 have es:nR b.s=nA (lq b.s):=by have:=pn.av;unfold Pl.av at this;simp only[AV.agg.injEq,List.cons.injEq]at this;exact this.2.1
 have ex:nR b.x=nA (lq b.x):=by have:=pn.av;unfold Pl.av at this;simp only[AV.agg.injEq,List.cons.injEq]at this;exact this.2.2.1
 have ey:nR b.y=nA (lq b.y):=by have:=pn.av;unfold Pl.av at this;simp only[AV.agg.injEq,List.cons.injEq]at this;exact this.2.2.2.1
 have etl:(AV.lst 1 (rs.map nR))=.lst 1 ((llq rs).map nA):=oV etw;rw[ec,es,ex,ey,etl];rw[<- G3 rs]at he;have nx:=Nm.ofQ pn.c.five (Cb.one qx);have ny:=Nm.ofQ pn.c.five (Cb.one qy);have nX:=wR tw pn.c pn.s nx ny;have nY:=vR tw pn.c pn.s nx ny;have z1:e<=2*(e+e+kB r (llq rs).length)+1:=by omega
 have z2:2*(2*(e+e+kB r (llq rs).length)+1)<=lm (llq rs).length:=DQ he;have gL:=Qt tw nX nY (pn.x.mono z1) (pn.y.mono z1) z2;have ajk:=jA (llq rs).length;refine gc (ab2 x y hx hy (qx.qs oz) (qy.qs oz)) ?_;refine gc (EU tw pn.c pn.s nx ny oz) ?_;refine gD ?_;refine gf ?_;refine gc gL ?_;refine bO ?_;rw[aoz h2,aoz h2,h2,xI,yw];rfl
section
variable{ts:LL}{u k:Nat}{a b a2 b2:List Rat}{x y x2 y2:Et ts}{w v w' v' w2 v2 w3 v3:Nat}
theorem D8(c:Ct ts u k)(h:w+v+(w'+v')<=10000):w*u+v*k+(w'*u+v'*k)+1<=lm ts.length:=by
 have h1:=Om c (w:=w+w') (v:=v+v') (m:=10000) oz;have h2:=oT ts.length;rw[C8];omega
theorem Mu(c:Ct ts u k){R:Nat}(h:eB R ts.length<=k):2*(2500*1000000+2500*1000000+kB R ts.length)<=lm ts.length:=by
 have h1:=c.kk h;have h2:=oT ts.length;omega
theorem So [c:Ct ts u k] [ha:Zl ts u k a x w v] [hb:Zl ts u k b y w' v'] (h:w+v+(w'+v')<=10000:=by decide):FP 250 [aZ ts,nA a,nA b] (.tup [nA (sX (x+y)),.v .nilIface]):=by
 obtain⟨R,tw,hk⟩:=c.ex;have h0:=D8 c h;have h1:=Hz tw ha.nm hb.nm oz;rw[ha.eq,hb.eq]at h1;exact h1
theorem KR [c:Ct ts u k] [ha:Zl ts u k a x w v] [hb:Zl ts u k b y w' v'] (h:w+v+(w'+v')<=10000:=by decide):FP 209 [aZ ts,nA a,nA b] (.tup [nA (sX (x - y)),.v .nilIface]):=by
 obtain⟨R,tw,hk⟩:=c.ex;have h0:=D8 c h;have h1:=tF tw ha.nm hb.nm oz;rw[ha.eq,hb.eq]at h1;exact h1
theorem Qu [c:Ct ts u k] [ha:Zl ts u k a x w v] [hb:Zl ts u k b y w' v'] (h:w+v+(w'+v')<=10000:=by decide):FP 210 [aZ ts,nA a,nA b] (.tup [nA (sX (x*y)),.v .nilIface]):=by
 obtain⟨R,tw,hk⟩:=c.ex;have h0:=D8 c h;have h1:=FI tw ha.nm hb.nm oz;rw[ha.eq,hb.eq]at h1;exact h1
theorem S8 [c:Ct ts u k] [ha:Zl ts u k a x w v] [hb:Zl ts u k b y w' v'] [Al:Zl ts u k a2 x2 w2 v2] [bJ:Zl ts u k b2 y2 w3 v3] (h:w+v+(w'+v')+(w2+v2+(w3+v3))<=2500:=by decide) :
  FP 102 [aZ ts,aP a b,aP a2 b2] (.tup [nA (sX (dotE x y x2 y2)),.v .nilIface]):=by
 obtain⟨R,tw,hk⟩:=c.ex;have h0:=Mu c hk;have h1:=Gl (e:=2500*1000000) tw (ha.up c oz) (hb.up c oz) (Al.up c oz) (bJ.up c oz) oz;rw[ha.eq,hb.eq,Al.eq,bJ.eq]at h1;exact h1
def atXE(c s X:Et ts)(p q:Rat):Et ts:=(c*qE p-s*qE q)+X
def atYE(c s Y:Et ts)(p q:Rat):Et ts:=(s*qE p+c*qE q)+Y
instance Zu.atXE[c:Ct ts u k]{x y z:Et ts}{p q:Rat}{w1 v1 w2 v2 w3 v3 w4 w5:Nat}[Zu u k x w1 v1][Zu u k y w2 v2][Zu u k z w3 v3][Qz u p w4][Qz u q w5]:Zu u k (atXE x y z p q) (w1+w4+(w2+w5)+w3) (v1+0+1+(v2+0+1)+1+v3+1) :=
  (ao7:Zu u k ((x*Lw.qE p-y*Lw.qE q)+z) _ _)
instance Zu.atYE[c:Ct ts u k]{x y z:Et ts}{p q:Rat}{w1 v1 w2 v2 w3 v3 w4 w5:Nat}[Zu u k x w1 v1][Zu u k y w2 v2][Zu u k z w3 v3][Qz u p w4][Qz u q w5]:Zu u k (atYE x y z p q) (w2+w4+(w1+w5)+w3) (v2+0+1+(v1+0+1)+1+v3+1) :=
  (ao7:Zu u k ((y*Lw.qE p+x*Lw.qE q)+z) _ _)
end
abbrev Yf(l:Li)(g:Gr)(a:As):List AV:=[.v (.string l.name),.lst 2 (l.bo.map Bd.av),.lst 7 (l.jo.map Jt.av),.lst 2 (l.dv.map Dr.av),i64 g.kind,.lst 1 (g.bo.map i64),.lst 1 (g.jo.map i64),i64 g.driver,
  .lst 1 (a.rs.map nR),.lst 4 (a.bs.map Pl.av),.lst 1 (a.ms.map i64),.v .nilIface]
abbrev de(l:Li)(g:Gr)(a:As):Blk:=.box (Yf l g a)
def CZ(e:Nat):AV:=if e=0 then .ptr 900 0 else .v (.pointer none)
def Le(e:Nat)(l:Li)(g:Gr)(a:As):Hp:=if e=0 then[pP 900 (de l g a)]else[]
theorem qN{e:Nat}(h:e≠0):CZ e=.v (.pointer none):=aoy h
theorem wM{e:Nat}{l:Li}{g:Gr}{a:As}(h:e≠0):Le e l g a=[]:=aoy h
theorem LI(l:Li)(g:Gr):dK l g true=ja l g++g.bo:=rfl
theorem Jr(l:Li)(g:Gr):dK l g false=ja l g:=by unfold dK;simp
theorem SC{rs:List (List Rt)}{b:Pl}{i:Nat}{x:List Rt}(h:bB rs=0)(hx:b.l[i]?=some x)(hb:∀y∈b.l.take i,cA rs.length y=0)(hn:cA rs.length x≠0):bc rs b.l=cA rs.length x:=yW h hx hb hn
theorem ZR{l:Li}{g:Gr}{a:As}{own:Bool}{j:Nat}{b:Int}(hb:(gw (dK l g own))[j]?=some b)(hj:∀c∈(gw (dK l g own)).take j,jP a c=0)(hn:jP a b≠0):gO ((gw (dK l g own)).map (jP a))=jP a b:=by
 have h1:gw (dK l g own)=(gw (dK l g own)).take j++b::(gw (dK l g own)).drop (j+1):=by
  obtain⟨hi,e⟩:=alj.1 hb;rw[<- e,<- alq hi,alg]
 generalize gw (dK l g own)=xs at *;rw[h1,aoc,zJ _ _ (tQ hj),aow,QD,aoz hn]
theorem Xf(l:Li)(hl:l.ok)(k:Int)(a:As)(al:AB a)(own:Bool) :
  Con prog 90 [l.av,i64 k,a.av,bl own] [] (.tup [CZ (iZ l k a own),bU (iZ l k a own)]) (Le (iZ l k a own) l (mY l k) a):=by
 have pb:=al.bl;refine gF func90 (fun k z h=>by cases h) ?_;refine gc (Mi l hl) ?_;refine gC (fun y=>?_) (fun y=>?_)
 ·have h1:=et y;refine gR ?_;rw[ae7 rfl h1,qN h1,wM h1];exact q6 rfl
 have h1:=d7 y;obtain⟨au,iC⟩:=L8 h1;rw[show(if aM l=0 then splitG l else[])=splitG l from aoz au];have dV:=(dC au).2.2.2.1;have hgl:=(xJ au).2;have lI:splitG l=findG l:=by unfold splitG;rw[aoz iC]
 refine cV ?_;refine gC (fun y=>?_) (fun y=>?_)
 ·have h2:=I4 y;have he:iZ l k a own=9:=(wg au).trans (afn iC h2);refine gR ?_;rw[he,qN (by decide),wM (by decide)];exact q6 rfl
 have h2:=NB y;refine gl ?_;refine gl ?_;refine gC (fun y=>?_) (fun y=>?_)
 ·have h3:=E3 y;have he:iZ l k a own=10:=(wg au).trans (Yb iC h2 h3);refine gR ?_;rw[he,qN (by decide),wM (by decide)];exact q6 rfl
 have h3:=FC y;refine gc (tZ a.rs 400000000 al.tr) ?_;refine gC (fun y=>?_) (fun y=>?_)
 ·have h4:=et y;refine gR ?_;rw[(wg au).trans (adv iC h2 h3 h4),qN h4,wM h4];exact q6 rfl
 have h4:=d7 y;obtain⟨i,rfl,hi⟩:=Lo h2;obtain⟨g,hg⟩:=aB hi;obtain⟨hgd,ib⟩:=xq au (ank hg);have ox:mY l (i:Nat)=g:=aw hg;rw[ox];have RH:iZ l (i:Nat) a own=gO ((gw (dK l g own)).map (jP a)):=by rw[<- ox];exact(wg au).trans (Qj iC h2 h3 h4)
 have fA:(dK l g own).length<=5:=ah9 ib;have jC:=ib.lb;have In:=ib.lj;refine gi (aL hg) ?_;refine gt (aR (SS l hl au g ib) (b8 rfl rfl) aT rfl rfl) ?_;refine gD ?_;refine gf ?_;refine Ke [1,4,6,10] [4,6] [pP 13 (.ms 900 1 0 (dK l g own).length)] [pP 900 (.row 1 ((dK l g own).map i64))] (True) ?_ ?_
 ·intro K1 J1;refine gC (fun y=>?_) (fun y=>?_)
  ·have ho:own=true:=y;subst ho;refine gi (aL hg) ?_;refine gs (cZ (.tmp rfl) rfl (by rw[anl,wQ]) (.tmp rfl) T46 rfl T3 rfl rfl (by simp only[anl];omega) rfl rfl) ?_;exact Cg J1 trivial (hw:=(Wk.of (sl:=[pP 1 (i64 i),pP 4 (.ptr 4 0),pP 6 (.ptr 6 0),pP 10 (.lst 4 ((splitG l).map Gr.av)),pP 13 (.ms 71 1 0 (dK l g true).length)]) (hp:=[pP 4 (.box l.av.cells),pP 6 (.box a.av.cells),pP 71 (.row 1 ((dK l g true).map i64))]) (.k (.k (.k (.k (.cons rfl (.of (by rw[LI,aoe,wQ,anl])) .nil))))) (.k (.k (.cons rfl (.of (by rw[LI,aoc])) .nil)))).trans<|(Wk.rk (k:=71) (d:=900) rfl rfl).trans<|Wk.o)
  have ho:own=false:=y;subst ho;exact Cg J1 trivial (hw:=Wk.of (.cons rfl (.of (by rw[Jr,wQ])) (.k (.k (.k (.k .nil))))) (.cons rfl (.of (by rw[Jr])) (.k (.k .nil))))
 rintro -;refine gt (aR (Con.rk 900 rfl rfl (Tb (dK l g own) oz)) (dJ rfl) aT rfl rfl) ?_ (17,0);refine gW ((Wk.freeze (k:=900) rfl).trans<|Wk.of (sl:=[pP 1 (i64 i),pP 4 (.ptr 4 0),pP 6 (.ptr 6 0),pP 10 (.lst 4 ((splitG l).map Gr.av)),pP 13 (.lst 1 ((gw (dK l g own)).map i64))]) (hp:=[pP 4 (.box l.av.cells),pP 6 (.box a.av.cells)]) (.k (.k (.k (.k (.cons rfl (.of (cz (by rw[anl,Qq]))) .nil))))) (.k (.k .nil))) ?_;refine gl ?_;refine aY [1,4,6,10,74,75] [4,6] (fun(j:Nat)=>[pP 76 (i64 j)]) (fun _=>[]) (fun j=>j<=(gw (dK l g own)).length/\∀b∈(gw (dK l g own)).take j,jP a b=0) (fun j=>(gw (dK l g own)).length-j) 0 ⟨ans _,fun b hb=>by simp at hb⟩ ?_;rintro j ⟨hj,xk⟩ K2 J2;refine gC (fun y=>?_) (fun y=>?_)
 ·have fC:=bf y;obtain⟨b,hb⟩:=aB fC;have Am:=EE.1 (ank hb);have hbr:=FO au ib b Am;have dB:(gw (dK l g own)).length<=5:=by rw[Qq]; exact fA
  refine gi (aL hb) ?_;refine gC (fun y=>?_) (fun y=>?_)
  ·have hz:jP a b=0:=by unfold jP; rw[aoz (by simpa[aa] using y)]
   refine ga aU ?_;exact aS J2 (j+1) ⟨fC,fun c hc=>by rw[dR hb]at hc;rcases anz.1 hc with h9 |h9;exact xk c h9;(rw[alr.1 h9];exact hz)⟩
  have ow:0<=b:=by have:=ao2 (p:=b<0) y;omega
  obtain⟨p,hp⟩:=aB (l:=a.bs) (i:=b.toNat) oz;have iA:=al.nr p (ank hp);have dA:jP a b=bc a.rs p.l:=by unfold jP;rw[aoy oz,aw hp]
  refine gi (lc (n:=b.toNat) oz hp) ?_;refine ge rfl ?_;refine aY [1,4,6,10,74,75,76,95,96] [4,6] (fun(q:Nat)=>[pP 97 (i64 q)]) (fun _=>[]) (fun q=>q<=4/\∀x∈p.l.take q,cA a.rs.length x=0) (fun q=>4-q) 0 ⟨ans _,fun x hx=>by simp at hx⟩ ?_;rintro q ⟨hq,An⟩ K3 J3;refine gC (fun y=>?_) (fun y=>?_)
  ·have dM:q<4:=bf (b:=4) y;obtain⟨x,hx⟩:∃x,p.l[q]?=some x:=aB (show q<p.l.length from dM);have hxn:=iA x (ank hx);have lG:bc a.rs [x]=cA a.rs.length x:=GA h4;refine gi (aL hx) ?_;refine gc (Ho a.rs 400000000 al.tr x 50000000000 hxn (TG _)) ?_;refine gC (fun y=>?_) (fun y=>?_)
   ·have h5:=et y;rw[lG] at h5 ⊢;have h6:jP a b=cA a.rs.length x:=dA.trans (SC h4 hx An h5);have h7:iZ l (i:Nat) a own=cA a.rs.length x:=by rw[RH,ZR hb xk (by rw[h6]; exact h5),h6]
    refine gR ?_;rw[h7,qN h5,wM h5];exact q6 rfl
   have h5:=d7 y;rw[lG]at h5;refine ga aU ?_;exact aS J3 (q+1) ⟨dM,fun z hz=>by rw[dR hx]at hz;rcases anz.1 hz with h9 |h9;exact An z h9;(rw[alr.1 h9];exact h5)⟩
  have dM:q=4:=bu (b:=4) hq y;subst dM;have An:∀x∈p.l,cA a.rs.length x=0:=An;refine ga aU ?_;exact aS J2 (j+1) ⟨fC,fun c hc=>by rw[dR hb]at hc;rcases anz.1 hc with h9 |h9;exact xk c h9;(rw[alr.1 h9,dA];exact rK h4 An)⟩
 have fC:=bu hj y
 have h8:iZ l (i:Nat) a own=0:=by
  rw[RH];exact tQ (fun b hb=>xk b (by rw[fC,an3];exact hb))
 refine gi (aL hg) ?_;refine gD ?_ (77777,0);refine gW (Wk.o (sl:=[pP 8 (.ptr 120 0),pP 9 (.v .nilIface)]) (hp:=[pP 120 (de l g a)])) ?_ (77777,0);refine gW (Wk.rk (k:=120) (d:=900) rfl rfl) ?_;refine gR ?_;rw[h8];exact aD.keep (bH rfl)
theorem OA{ts:LL}{r e:Nat}(tw:Tw ts r){a b c d:List Rat}(ha:Nm ts.length e a)(hb:Nm ts.length e b)(hc:Nm ts.length e c)(hd:Nm ts.length e d)(he:2*e<=lm ts.length) :
  FP 98 [aZ ts,aP a b,aP c d] (.tup [aP (sh ts.length (subT ts (af ts.length a) (af ts.length c))) (sh ts.length (subT ts (af ts.length b) (af ts.length d))),.v .nilIface]):=by
 refine am func98 ?_;refine gc (yd (e:=e) tw [(a,b),(c,d)] (by simp only[an9,aob,or_false];rintro p (rfl |rfl);exact⟨ha,hb⟩;exact⟨hc,hd⟩) oz (by simp)) ?_;refine gf ?_;refine gt (aR (Con.rB 21 rfl rfl rfl rfl (MR tw ha hb hc hd he)) (aV rfl rfl rfl) aT rfl rfl) ?_;refine gt (aR (Con.rB 21 rfl rfl rfl rfl (B6 _ _ _)) (b8 rfl rfl) aT rfl rfl) ?_;refine bO ?_;rfl
theorem Kv{ts:LL}{r e:Nat}(tw:Tw ts r){a b c d:List Rat}(ha:Nm ts.length e a)(hb:Nm ts.length e b)(hc:Nm ts.length e c)(hd:Nm ts.length e d)(he:2*(e+e+kB r ts.length)<=lm ts.length) :
  FP 99 [aZ ts,aP a b,aP c d] (.tup [nA (sh ts.length (q5 ts (af ts.length a) (af ts.length b) (af ts.length c) (af ts.length d))),.v .nilIface]):=by
 refine am func99 ?_;refine gc (Con.sA (.cons (.refl _) (.cons (.refl _) (.cons (.refl _) (.cons (Sub.fn0 _) .nil)))) (PY tw ha hb hc hd oz _ _ (ZE tw ha hb hc hd he))) ?_;refine bO ?_
 first |rfl |(simp;done)
section
variable{ts:LL}{u k:Nat}{a b a2 b2:List Rat}{x y x2 y2:Et ts}{w v w' v' w2 v2 w3 v3:Nat}
theorem WW [c:Ct ts u k] [ha:Zl ts u k a x w v] [hb:Zl ts u k b y w' v'] [Al:Zl ts u k a2 x2 w2 v2] [bJ:Zl ts u k b2 y2 w3 v3] (h:w+v+(w'+v')+(w2+v2+(w3+v3))<=2500:=by decide) :
  FP 98 [aZ ts,aP a b,aP a2 b2] (.tup [aP (sX (x-x2)) (sX (y-y2)),.v .nilIface]):=by
 obtain⟨R,tw,hk⟩:=c.ex;have h0:=Mu c hk;have h1:=OA (e:=2500*1000000) tw (ha.up c oz) (hb.up c oz) (Al.up c oz) (bJ.up c oz) oz;rw[ha.eq,hb.eq,Al.eq,bJ.eq]at h1;exact h1
end
variable{P:apb}{N:Nat}{R:Array Oper}{s:AS}{pos:String}{after:Array Edge}
theorem ba{d f k:Nat}{bx:Blk}{args:Array ao8}{ts:Array apa}{xs:List AV}{r:AV}{t:apa}
  (eW:Con P f xs [(k,some bx)] r [(k,some bx)]) (ha:EvL s args.toList xs) (hk:s.blk k=some bx) (ci:l0 s [(k,some bx)] [(k,some bx)] r=true) (hN:aks d N=true) :
  Step P N R s ⟨some d,.call ⟨.value (.func f),args,ts⟩,t,pos,after,none⟩ ⟨some r,[],gB args.toList,[k]⟩:=by
 refine Step.weaken (aR (d:=d) eW ha (fun k' z h=>by
  obtain⟨rfl,h9⟩:=iQ h;cases h9;exact hk) ci hN) (fun s' h=>h) (fun s' h k' hk'=>?_) (fun s' h=>?_)
 ·left;simp only[aoc,eA,aow,map_nil,anz,an9,aob,or_false]at hk' ⊢;rcases hk' with h9 |h9 <;> exact h9
 ·intro C m a w hr;refine⟨m,hr.weak (fun t x hx=>⟨x,hx,.refl _⟩) (fun k' x hx=>⟨x,?_,.refl _⟩)⟩;have hb:lk s'.hp k=some bx:=(h.2 k (alr.2 rfl)).trans hk;show lk ([(k,some bx)]++eA [(k,some bx)]++s'.hp) k'=some x;have hx':lk s'.hp k'=some x:=hx;simp only[eA,aow,map_nil,ak5,nil_append,a5]
  by_cases e:k'=k
  ·rw[aoz e];rw[e,hb]at hx';exact hx'
  ·rw[aoy e,aoy e];exact hx'
theorem sF{k1 k2 k':Nat}{x y:Option Blk}{z:Blk}(h:lk [(k1,x),(k2,y)] k'=some z):(k'=k1/\x=some z)\/(k'≠k1/\k'=k2/\y=some z):=by
 rw[a5]at h
 by_cases e:k'=k1
 ·rw[aoz e]at h;exact .inl ⟨e,h⟩
 ·rw[aoy e]at h;obtain⟨h1,h2⟩:=iQ h;exact .inr ⟨e,h1,h2⟩
theorem rP{k1 k2:Nat}{x y:Option Blk}:lk [(k1,x),(k2,y)] k1=x:=by rw[a5,aoz rfl]
theorem r7{k1 k2:Nat}{x y:Option Blk}(h:k1≠k2):lk [(k1,x),(k2,y)] k2=y:=by rw[a5,aoy (fun e=>h e.symm),a5,aoz rfl]
theorem Oc{k1 k2:Nat}(bV:k1≠k2){x y:Blk}{m:Nat->Option Nat}{b:Nat}:bj [(k1,some x),(k2,some y)] m b↔m k1=some b\/m k2=some b:=by
 constructor
 ·rintro⟨k',z,hz,hb⟩;rcases sF hz with⟨e,_⟩ |⟨_,e,_⟩
  ·exact .inl (e▸hb)
  ·exact .inr (e▸hb)
 ·rintro(h |h)
  ·exact⟨k1,x,rP,h⟩
  ·exact⟨k2,y,r7 bV,h⟩
theorem N0{k1 k2 d1 d2:Nat}(hk:k1≠k2)(hd:d1≠d2){x y x' y':Blk}{m m2:Nat->Option Nat}(h1:m2 d1=m k1)(h2:m2 d2=m k2):bj [(d1,some x'),(d2,some y')] m2=bj [(k1,some x),(k2,some y)] m:=by
 funext b;apply propext;rw[Oc hk,Oc hd,h1,h2]
theorem Eo{ext:Nat->Prop}{k1 k2 d1 d2:Nat}(hk:k1≠k2)(hd:d1≠d2){x y x' y':Blk}{m m2:Nat->Option Nat}{w:apc}(h1:m2 d1=m k1)(h2:m2 d2=m k2):Im ext [(d1,some x'),(d2,some y')] m2 w=Im ext [(k1,some x),(k2,some y)] m w:=by
 funext b cs;simp only[Im,N0 hk hd (x:=x) (y:=y) (x':=x') (y':=y') h1 h2]
theorem OB{ext:Nat->Prop}{k1 k2 d1 d2:Nat}(hk:k1≠k2)(hd:d1≠d2){x y:Blk}{m m2:Nat->Option Nat}{w:apc}(hx:x.nm=[])(hy:y.nm=[])(h1:m2 d1=m k1)(h2:m2 d2=m k2)
  (hr:HeapRel ext [(k1,some x),(k2,some y)] m w):HeapRel ext [(d1,some x),(d2,some y)] m2 w:=by
 refine⟨?_,?_,?_⟩
 ·intro k' z hz;rw[Eo hk hd (x:=x) (y:=y) h1 h2];rcases sF hz with⟨rfl,h9⟩ |⟨_,rfl,h9⟩
  ·cases h9;exact BlkRep.mono (w:=w) (fun _ _ h=>h) (fun _ _ h=>h) (fun _ _ hn=>(F9 hx hn).elim) h1 (fun _ _=>rfl) (hr.blk k1 _ rP)
  ·cases h9;exact BlkRep.mono (w:=w) (fun _ _ h=>h) (fun _ _ h=>h) (fun _ _ hn=>(F9 hy hn).elim) h2 (fun _ _=>rfl) (hr.blk k2 _ (r7 hk))
 ·intro k k' z z' b hz hz' hb hb';rcases sF hz with⟨rfl,_⟩ |⟨_,rfl,_⟩ <;> rcases sF hz' with⟨rfl,_⟩ |⟨_,rfl,_⟩
  ·rfl
  ·exact ao5 (hr.inj k1 k2 _ _ b rP (r7 hk) (h1▸hb) (h2▸hb')) hk
  ·exact ao5 (hr.inj k1 k2 _ _ b rP (r7 hk) (h1▸hb') (h2▸hb)) hk
  ·rfl
 ·intro k' z b hz hb;rcases sF hz with⟨rfl,h9⟩ |⟨_,rfl,h9⟩
  ·exact hr.sep k1 _ b rP (h1▸hb)
  ·exact hr.sep k2 _ b (r7 hk) (h2▸hb)
theorem Con.rekeyBB{P:apb}{f:FuncId}{k1 k2 o1 o2:Nat}{x y x' y':Blk}{xs:List AV}{r:AV}(d1 d2:Nat)(hk:k1≠k2)(hd:d1≠d2)(hx:x.nm=[])(hy:y.nm=[])(hx':x'.nm=[])(hy':y'.nm=[])(iV:(xs.all fun x=>x.nm.isEmpty)=true)(hr:r.nm=[])
  (h:Con P f (.ptr k1 o1 :: .ptr k2 o2::xs) [(k1,some x),(k2,some y)] r [(k1,some x'),(k2,some y')]):Con P f (.ptr d1 o1 :: .ptr d2 o2::xs) [(d1,some x),(d2,some y)] r [(d1,some x'),(d2,some y')]:=by
 refine⟨h.ok,?_⟩;intro ext m w vs hext cI dG dm;obtain⟨m2,e1,e2⟩:∃m2:Nat->Option Nat,m2 k1=m d1/\m2 k2=m d2:=⟨fun k=>if k=k1 then m d1 else m d2,aoz rfl,aoy (fun e=>hk e.symm)⟩
 have h1:=h.ret ext m2 w vs hext (OB hd hk hx hy e1 e2 cI) (by simpa using dG) (by
  intro j v z hv hz;rw[Eo hd hk (x:=x) (y:=y) e1 e2]
  match j,hz with
  |0,hz =>
   cases hz;have h2:=dm 0 v _ hv rfl;cases h2 with
   |ptr hm=>exact .ptr (e1.trans hm)
  |1,hz =>
   cases hz;have h2:=dm 1 v _ hv rfl;cases h2 with
   |ptr hm=>exact .ptr (e2.trans hm)
  |j+2,hz =>
   have h2:=dm (j+2) v z hv hz;refine lU ?_ h2;have:=anx.1 iV z (ank hz);simpa using this)
 refine Calls.mono h1 ?_;rintro e w' ⟨v,m',rfl,hf,hh,hn,Dc,bA⟩;have ho:=N0 hd hk (x:=x) (y:=y) (x':=x) (y':=y) e1 e2;obtain⟨m3,f1,f2⟩:∃m3:Nat->Option Nat,m3 d1=m' k1/\m3 d2=m' k2:=⟨fun k=>if k=d1 then m' k1 else m' k2,aoz rfl,aoy (fun e=>hd e.symm)⟩
 refine⟨v,m3,rfl,ho▸hf,OB hk hd hx' hy' f1 f2 hh,?_,?_,?_⟩
 ·intro k' z b hz hb;rw[<- ho];rcases sF hz with⟨rfl,_⟩ |⟨_,rfl,_⟩
  ·exact hn k1 _ b rP (f1▸hb)
  ·exact hn k2 _ b (r7 hk) (f2▸hb)
 ·intro k' z z' hz hz';rcases sF hz with⟨rfl,_⟩ |⟨_,rfl,_⟩
  ·rw[f1,<- e1];exact Dc k1 _ _ rP rP
  ·rw[f2,<- e2];exact Dc k2 _ _ (r7 hk) (r7 hk)
 ·rw[Eo hk hd (x:=x') (y:=y') f1 f2];exact lU hr bA
end Go.Lw
namespace Go.Lw
open Go.Proofs
theorem MM{l:Li}{body pt:Int}{n k:Nat}{bd:Bd}{m:Mk}(h:MkP l body pt n k bd m):qP (aE l body pt)=.agg [bl m.x.neg,ws m.x.num,ws m.x.den,bl m.y.neg,ws m.y.num,ws m.y.den]:=by
 rw[h.ex,h.ey]
theorem uc{p q:Rat×Rat}{e f:Nat}(hp:Sm e p)(hq:Sm f q)(he:e<=1000000)(hf:f<=1000000):FP 202 [qP p,qP q] (qP (bS p q)):=by
 refine am func202 ?_;refine gc (Ch (hp.x.qs oz) (hq.x.qs oz)) ?_;refine gc (Ch (hp.y.qs oz) (hq.y.qs oz)) ?_;refine gD ?_;refine ai ?_
 first |rfl |(simp;done)
theorem K9{p q:Rat×Rat}{e f:Nat}(hp:Sm e p)(hq:Sm f q)(he:e<=1000000)(hf:f<=1000000):FP 329 [qP p,qP q] (qA (cf p q)):=by
 refine am func329 ?_;refine gc (zN (hp.x.qs oz) (hq.x.qs oz)) ?_;refine gc (zN (hp.y.qs oz) (hq.y.qs oz)) ?_;refine gc (GG ((hp.x.mul hq.x).qs oz) ((hp.y.mul hq.y).qs oz)) ?_;refine gD ?_;refine ai ?_
 first |rfl |(simp;done)
theorem S6{p q:Rat×Rat}{e f:Nat}(hp:Sm e p)(hq:Sm f q)(he:e<=1000000)(hf:f<=1000000):FP 212 [qP p,qP q] (qA (vc p q)):=by
 refine am func212 ?_;refine gc (zN (hp.x.qs oz) (hq.y.qs oz)) ?_;refine gc (zN (hp.y.qs oz) (hq.x.qs oz)) ?_;refine gc (Ch ((hp.x.mul hq.y).qs oz) ((hp.y.mul hq.x).qs oz)) ?_;refine gD ?_;refine ai ?_
 first |rfl |(simp;done)
theorem GD{p:Rat×Rat}{e:Nat}(hp:Sm e p)(he:e<=1000000):FP 201 [qP p] (nA (sh 0 (cf p p:Rat))):=by
 refine am func201 ?_;refine gc (K9 hp hp he he) ?_;refine gc (tt ((hp.dot hp).qs oz)) ?_;refine ai ?_
 first |rfl |(simp;done)
theorem sG{l:Li}(hl:l.ok)(au:aM l=0)(g:Gr)(a:As){body pt:Int}(h1:bT body l.bo.length=true)(h2:bT pt (dw l body).length=true) :
  Con prog 203 [.ptr 1000 0,i64 body,i64 pt] [pP 1000 (de l g a)] (qP (aE l body pt)) [pP 1000 (de l g a)]:=by
 obtain⟨n,k,bd,m,mp⟩:=v6 hl au h1 h2;rw[MM mp];have hn:=mp.hn;have hk:=mp.hk;have dU:=hl.lb;subst hn;subst hk;refine gF func203 (fun k z h=>bW h) ?_;refine gi (aL mp.gbd) ?_;refine gi (aL mp.gm) ?_;refine gR ?_;exact aD.keep (bH rfl)
theorem xQ{E:Nat}{l:Li}(hl:l.ok)(au:aM l=0)(g:Gr){a:As}(al:AB a)(hc:bB a.rs=0){body pt:Int}(h1:bT body l.bo.length=true)(h2:bT pt (dw l body).length=true)(hE:E<=20000000000)(h3:(llq a.rs).length<=2)(hb:Pd E a body) :
  Con prog 191 [.ptr 1000 0,i64 body,i64 pt] [pP 1000 (de l g a)] (aP (sX (bh l a body pt).1) (sX (bh l a body pt).2)) [pP 1000 (de l g a)]:=by
 obtain⟨n,k,bd,m,b,hp⟩:=B9 hl au al hc h1 h2 hb;obtain⟨tw,Ib⟩:=dg al.tr hc
 have kb:kB 400000000 (llq a.rs).length<=1200000006:=by
  have h9:=kl 400000000 h3;have h8:eB 400000000 2=1200000006:=by decide
  show eB 400000000 _<=_;omega
 have dW:lm (llq a.rs).length=200000000000:=by unfold lm;rw[aoz h3]
 have dU:=hl.lb;have pb:=al.bl;have g9:=sG hl au g a h1 h2;show Con prog _ _ _ (aP (sh (llq a.rs).length (i9 l a body pt).1) (sh (llq a.rs).length (i9 l a body pt).2)) _;rw[hp.eq];have hn:=hp.mp.hn;rw[MM hp.mp]at g9
 have nG:FP 139 [cJ a.rs,b.av,m.x.av,m.y.av] (.tup [aP (sh (llq a.rs).length (rU (llq a.rs) b m).1) (sh (llq a.rs).length (rU (llq a.rs) b m).2),.v .nilIface]):=by
  rw[Ib,hp.av,hp.mp.ex,hp.mp.ey];have h9:=Zg tw (hp.ok.c.mono (f:=E+1000) oz) (hp.ok.s.mono oz) (hp.ok.x.mono oz) (hp.ok.y.mono oz) (hp.mp.sm.x.mono (f:=E+1000) oz) (hp.mp.sm.y.mono (f:=E+1000) oz) oz;unfold rU;rw[hp.mp.ex,hp.mp.ey,b7,b7];exact h9
 refine gF func191 (fun k z h=>bW h) ?_;refine gt (aR g9 (aV rfl rfl rfl) aT rfl rfl) ?_;refine gi (lc (n:=n) hn hp.gb) ?_;refine gc nG ?_;refine gD ?_;refine gC (fun y=>?_) (fun y=>?_) (st2:=(77777,0))
 ·refine gR ?_;exact aD.keep (bH rfl)
 cases y
theorem zy{E:Nat}(hE:E<=20000000000){l:Li}(hl:l.ok)(au:aM l=0)(g:Gr)(hg:GrOk l g){a:As}(al:AB a)(hc:bB a.rs=0){k:Nat}{z b:Int}{j:Jt}(hz:g.jo[k]?=some z)(hj:l.jo[z.toNat]?=some j)(h3:(llq a.rs).length<=2)(h:PinP E l a j b) :
  Con prog 197 [.ptr 1000 0,i64 k,i64 b] [pP 1000 (de l g a)] (.tup [qP (ak l j b),aP (sX (aH l a j b).1) (sX (aH l a j b).2)]) [pP 1000 (de l g a)]:=by
 obtain⟨z0,z1⟩:=hg.j z (ank hz);obtain⟨i1,i2,i3,i4,_⟩:=dZ au hj;have In:=hg.lj;have tg:=hl.lj;refine gF func197 (fun k z h=>bW h) ?_;refine gi (aL hz) ?_;refine gi (lc (n:=z.toNat) oz hj) ?_;refine gD ?_;refine gC (fun y=>?_) (fun y=>?_)
 ·have e:j.a=b:=dI y;have hb:Pd E a j.b:=by rcases h.tie with h9 | h9; exact h9.2; exact ao5 e h9.1
  have eq1:ak l j b=aE l b j.point:=aoz e;have eq2:aH l a j b=bh l a j.b j.on:=aoz e;rw[eq1,eq2];subst e;refine gt (aR (sG hl au g a i1 i3) (aV rfl rfl rfl) aT rfl rfl) ?_;refine gt (aR (xQ hl au g al hc i2 i4 hE h3 hb) (aV rfl rfl rfl) aT rfl rfl) ?_;refine gD ?_;refine gR ?_;exact aD.keep (bH rfl)
 have e:j.a≠b:=fq y;have e2:j.b=b/\Pd E a j.a:=by rcases h.tie with h9 |h9;exact ao5 h9.1 e;exact h9.2
 have eq1:ak l j b=aE l b j.on:=aoy e;have eq2:aH l a j b=bh l a j.a j.point:=aoy e;rw[eq1,eq2];obtain⟨e2,hb⟩:=e2;subst e2;refine gt (aR (sG hl au g a i2 i4) (aV rfl rfl rfl) aT rfl rfl) ?_;refine gt (aR (xQ hl au g al hc i1 i3 hE h3 hb) (aV rfl rfl rfl) aT rfl rfl) ?_;refine gD ?_;refine gR ?_;exact aD.keep (bH rfl)
theorem KN{l:Li}(hl:l.ok)(au:aM l=0)(g:Gr)(hg:GrOk l g)(a:As){z b:Int}{j:Jt}(hz:g.jo[2]?=some z)(hj:l.jo[z.toNat]?=some j)(h:j.a=b\/j.b=b) :
  Con prog 198 [.ptr 1000 0,i64 b] [pP 1000 (de l g a)] (qP (ak l j b)) [pP 1000 (de l g a)]:=by
 obtain⟨z0,z1⟩:=hg.j z (ank hz);obtain⟨i1,i2,i3,i4,_⟩:=dZ au hj;have In:=hg.lj;have tg:=hl.lj;have h2:=(alj.1 hz).1;refine gF func198 (fun k z h=>bW h) ?_;refine gi (aL hz) ?_;refine gi (lc (n:=z.toNat) oz hj) ?_;refine gD ?_;refine gC (fun y=>?_) (fun y=>?_)
 ·have e:j.a=b:=dI y;have eq1:ak l j b=aE l b j.point:=aoz e;rw[eq1];subst e;refine gt (aR (sG hl au g a i1 i3) (aV rfl rfl rfl) aT rfl rfl) ?_;refine gR ?_;exact aD.keep (bH rfl)
 have e:j.a≠b:=fq y;have e2:j.b=b:=by rcases h with h9 |h9;exact ao5 h9 e;exact h9
 have eq1:ak l j b=aE l b j.on:=aoy e;rw[eq1];subst e2;refine gt (aR (sG hl au g a i2 i4) (aV rfl rfl rfl) aT rfl rfl) ?_;refine gR ?_;exact aD.keep (bH rfl)
theorem MW{l:Li}(hl:l.ok)(g:Gr)(hg:GrOk l g)(a:As){z:Int}{j:Jt}(hz:g.jo[1]?=some z)(hj:l.jo[z.toNat]?=some j) :
  Con prog 190 [.ptr 1000 0] [pP 1000 (de l g a)] j.av [pP 1000 (de l g a)]:=by
 obtain⟨z0,z1⟩:=hg.j z (ank hz);have In:=hg.lj;have tg:=hl.lj;have h2:=(alj.1 hz).1;refine gF func190 (fun k z h=>bW h) ?_;refine gi (aL hz) ?_;refine gi (lc (n:=z.toNat) oz hj) ?_;refine gD ?_;refine gR ?_;exact aD.keep (bH rfl)
abbrev Vf{ts:LL}(p:Rat×Rat)(at_:Et ts×Et ts)(c:Rat×Rat):List AV :=
  [bl (rt p.1).neg,ws (rt p.1).num,ws (rt p.1).den,bl (rt p.2).neg,ws (rt p.2).num,ws (rt p.2).den,nA (sX at_.1),nA (sX at_.2),bl (rt c.1).neg,ws (rt c.1).num,ws (rt c.1).den,bl (rt c.2).neg,ws (rt c.2).num,ws (rt c.2).den]
abbrev BR{ts:LL}(p:Rat×Rat)(at_:Et ts×Et ts)(c:Rat×Rat):AV:=.agg (Vf p at_ c)
abbrev crA{ts:LL}(p:Rat×Rat)(at_:Et ts×Et ts)(c:Rat×Rat):AV:=.agg [nA (sX at_.1),nA (sX at_.2),nA (sh 0 (bq c p:Rat))]
theorem F6{ts:LL}{p c:Rat×Rat}(hp:Sm 1000 p)(hc:Sm 1000 c)(at_:Et ts×Et ts):FP 95 [BR p at_ c] (crA p at_ c):=by
 refine am func95 ?_;refine gc (uc hc hp oz oz) ?_;refine gc (GD (hc.sub hp) oz) ?_;refine gD ?_;refine ai ?_
 first |rfl |(simp;done)
theorem Z8{E:Nat}{l:Li}(hl:l.ok)(au:aM l=0){a:As}(al:AB a)(hc:bB a.rs=0)(h3:(llq a.rs).length<=2){i k z0 z1 z2:Int}{j0 j1 j2:Jt}(hg:GrOk l ⟨1,[i,k],[z0,z1,z2],0⟩)
  (h0:l.jo[z0.toNat]?=some j0) (h1:l.jo[z1.toNat]?=some j1) (h2:l.jo[z2.toNat]?=some j2) (p0:PinP E l a j0 i) (p1:PinP E l a j1 k) (t1:j2.a=i\/j2.b=i) (t2:j2.a=k\/j2.b=k) (hE:E<=20000000000:=by omega) :
  Con prog 92 [.ptr 1000 0] [pP 1000 (de l ⟨1,[i,k],[z0,z1,z2],0⟩ a)] (.tup [BR (ak l j0 i) (aH l a j0 i) (ak l j2 i),BR (ak l j1 k) (aH l a j1 k) (ak l j2 k)]) [pP 1000 (de l ⟨1,[i,k],[z0,z1,z2],0⟩ a)]:=by
 refine gF func92 (fun k z h=>bW h) ?_;refine gi (rfl) ?_;refine gi (rfl) ?_;refine gD ?_;refine gt (aR (zy oz hl au _ hg al hc (k:=0) rfl h0 h3 p0) (.cons (.tmp rfl) (.cons (.const _) (dJ rfl))) aT rfl rfl) ?_;refine gt (aR (zy oz hl au _ hg al hc (k:=1) rfl h1 h3 p1) (.cons (.tmp rfl) (.cons (.const _) (dJ rfl))) aT rfl rfl) ?_;refine gt (aR (KN hl au _ hg a rfl h2 t1) (b8 rfl rfl) aT rfl rfl) ?_;refine gt (aR (KN hl au _ hg a rfl h2 t2) (b8 rfl rfl) aT rfl rfl) ?_;refine gD ?_;refine gR ?_;exact aD.keep (bH rfl)
theorem Up{E:Nat}{l:Li}(hl:l.ok)(au:aM l=0){a:As}(al:AB a)(hc:bB a.rs=0)(h3:(llq a.rs).length<=2){i z0 z1:Int}{j0 j1:Jt}(hg:GrOk l ⟨2,[i],[z0,z1],0⟩)
  (h0:l.jo[z0.toNat]?=some j0) (h1:l.jo[z1.toNat]?=some j1) (p0:PinP E l a j0 i) (ha:j1.a=i) (hk:j1.kind≠0) (hb:Pd E a j1.b) (hE:E<=20000000000:=by omega) :
  Con prog 96 [.ptr 1000 0] [pP 1000 (de l ⟨2,[i],[z0,z1],0⟩ a)] (.tup [BR (ak l j0 i) (aH l a j0 i) (aE l i j1.point),aP (sX (bh l a j1.b j1.on).1) (sX (bh l a j1.b j1.on).2),aP (sX (bh l a j1.b j1.to).1) (sX (bh l a j1.b j1.to).2)]) [pP 1000 (de l ⟨2,[i],[z0,z1],0⟩ a)]:=by
 obtain⟨i1,i2,i3,i4,i5⟩:=dZ au h1;rw[ha]at i1 i3;refine gF func96 (fun k z h=>bW h) ?_;refine gi (rfl) ?_;refine gt (ba (MW hl _ hg a rfl h1) (dJ rfl) rfl rfl rfl) ?_;refine gD ?_;refine gt (aR (zy oz hl au _ hg al hc (k:=0) rfl h0 h3 p0) (.cons (.tmp rfl) (.cons (.const _) (dJ rfl))) aT rfl rfl) ?_;refine gt (aR (sG hl au _ a i1 i3) (aV rfl rfl rfl) aT rfl rfl) ?_;refine gt (aR (xQ hl au _ al hc i2 i4 oz h3 hb) (aV rfl rfl rfl) aT rfl rfl) ?_;refine gt (aR (xQ hl au _ al hc i2 (i5 hk) oz h3 hb) (aV rfl rfl rfl) aT rfl rfl) ?_;refine gD ?_;refine gR ?_;exact aD.keep (bH rfl)
structure Vr where
  w:List Rt
  x:List Rt
  y:List Rt
instance:Inhabited Vr:=⟨⟨[],[],[]⟩⟩
def Vr.av(v:Vr):AV:=.agg [nR v.w,nR v.x,nR v.y]
def Vr.l(v:Vr):List (List Rt):=[v.w,v.x,v.y]
theorem AL.ct{a:As}(h:AL a)(hc:bB a.rs=0):Ct (llq a.rs) 4000 300000:=by
 obtain⟨tw,_⟩:=dg h.tr hc;exact⟨⟨40000,tw,an4 (La 40000 tw.three) oz⟩,by omega,by omega,by omega,by omega⟩
abbrev cr(rs:List (List Rt)):Blk:=.box [.lst 1 (rs.map nR),.v .nilIface]
theorem CW(rs:List (List Rt))(a:List Rat):Con prog 93 [.ptr 1000 0,nA a,.v .nilIface] [pP 1000 (cr rs)] (nA a) [pP 1000 (cr rs)]:=by
 refine gF func93 (fun k z h=>bW h) ?_;refine gC (fun y=>?_) (fun y=>?_) (st2:=(77777,0))
 ·refine gR ?_;exact aD.keep (bH rfl)
 cases y
theorem L7(rs:List (List Rt))(a b:List Rat):Con prog 97 [.ptr 1000 0,aP a b,.v .nilIface] [pP 1000 (cr rs)] (aP a b) [pP 1000 (cr rs)]:=by
 refine gF func97 (fun k z h=>bW h) ?_;refine gC (fun q=>?_) (fun q=>?_) (st2:=(77777,0))
 ·refine gR ?_;exact aD.keep (bH rfl)
 cases q
abbrev D4(f:FuncId)(rs:List (List Rt))(a b c:List Rat):Prop:=Con prog f [.ptr 1000 0,nA a,nA b] [pP 1000 (cr rs)] (nA c) [pP 1000 (cr rs)]
section
variable{rs:List (List Rt)}{r u k:Nat}{a b c:List Rat}{x y:Et (llq rs)}{w v w' v':Nat}
theorem ac1(hx:FP 210 [.agg [.lst 1 (rs.map nR)],nA a,nA b] (.tup [nA c,.v .nilIface])):Con prog 101 [.ptr 1000 0,nA a,nA b] [pP 1000 (cr rs)] (nA c) [pP 1000 (cr rs)]:=by
 refine gF func101 (fun k z h=>bW h) ?_;refine gc hx ?_;refine gt (aR (CW _ _) (aV rfl rfl rfl) aT rfl rfl) ?_;refine gR ?_;exact aD.keep (bH rfl)
theorem afy(hx:FP 209 [.agg [.lst 1 (rs.map nR)],nA a,nA b] (.tup [nA c,.v .nilIface])):Con prog 100 [.ptr 1000 0,nA a,nA b] [pP 1000 (cr rs)] (nA c) [pP 1000 (cr rs)]:=by
 refine gF func100 (fun k z h=>bW h) ?_;refine gc hx ?_;refine gt (aR (CW _ _) (aV rfl rfl rfl) aT rfl rfl) ?_;refine gR ?_;exact aD.keep (bH rfl)
theorem PB (h:TR rs r) (hc:bB rs=0) [c0:Ct (llq rs) u k] [ha:Zl (llq rs) u k a x w v] [hb:Zl (llq rs) u k b y w' v'] (hs:w+v+(w'+v')<=10000:=by decide) :
  Con prog 101 [.ptr 1000 0,nA a,nA b] [pP 1000 (cr rs)] (nA (sX (x*y))) [pP 1000 (cr rs)]:=by
 have hx:=Qu (ha:=ha) (hb:=hb) hs;rw[vr h hc]at hx;exact ac1 hx
theorem aeo (h:TR rs r) (hc:bB rs=0) [c0:Ct (llq rs) u k] [ha:Zl (llq rs) u k a x w v] [hb:Zl (llq rs) u k b y w' v'] (hs:w+v+(w'+v')<=10000:=by decide) :
  Con prog 100 [.ptr 1000 0,nA a,nA b] [pP 1000 (cr rs)] (nA (sX (x-y))) [pP 1000 (cr rs)]:=by
 have hx:=KR (ha:=ha) (hb:=hb) hs;rw[vr h hc]at hx;exact afy hx
end
structure DyW(l:Li)(a:As):Prop where
  hl:l.ok
  li:aM l=0
  al:AB a
  hc:bB a.rs=0
structure DyR(l:Li)(a:As):Prop extends DyW l a where
  s:DyS a
theorem DyR.two{l:Li}{a:As}(D:DyR l a):(llq a.rs).length<=2:=an4 (D.s.one D.hc) oz
theorem Gh{n:Nat}(hn:n<=1):kB 132000 n<=132100:=by
 have h1:=kl 132000 hn;have h2:eB 132000 1=132002:=by simp only[eB]
 show eB 132000 _<=_;omega
theorem Ph{n:Nat}(h3:n<=2):kB 400000000 n<=1200000006:=by
 have h9:=kl 400000000 h3;have h8:eB 400000000 2=1200000006:=by decide
 show eB 400000000 _<=_;omega
abbrev vT(l:Li)(a:As)(i:Int)(j0 j:Jt):List AV :=
  qC (ak l j0 i)++([nA (sX (aH l a j0 i).1),nA (sX (aH l a j0 i).2)]++(qC (cP l i j)++[nA (sh 0 (cB l i j0 j:Rat)),nA (sh 0 (jY l i j:Rat)),nA (sX (cH l a i j0 j)),nA (sX (cE l a i j0 j).1),nA (sX (cE l a i j0 j).2)]))
theorem Ov{l:Li}{a:As}(D:DyR l a){n:Nat}{i:Int}{j0 j:Jt}(h0:l.jo[n]?=some j0)(p0:PinP 3900000 l a j0 i){m:Nat}(h1:l.jo[m]?=some j)(hb:Pd 3900000 a j.a) :
  Zu 310000 132100 (cE l a i j0 j).1 80 81/\Zu 310000 132100 (cE l a i j0 j).2 80 81:=by
 obtain⟨i1,i2,i3,i4,_⟩:=dZ D.li h1;obtain⟨z1,z2⟩:=re D.hl D.li D.al D.s D.hc h0 p0;obtain⟨y1,y2⟩:=rD D.hl D.li D.al D.s D.hc i1 i3 hb;haveI c:=D.s.ct D.hc;haveI:=z1;haveI:=z2;haveI:=y1;haveI:=y2
 exact⟨(ao7:Zu 310000 132100 ((bh l a j.a j.point).1-(aH l a j0 i).1) _ _),(ao7:Zu 310000 132100 ((bh l a j.a j.point).2-(aH l a j0 i).2) _ _)⟩
theorem Z4{E:Nat}(hE:E<=20000000000){l:Li}{a:As}(D:DyW l a)(h3:(llq a.rs).length<=2){i z0 z1:Int}{j0 j:Jt}(hg:GrOk l ⟨3,[i],[z0,z1],0⟩)
  (h0:l.jo[z0.toNat]?=some j0) (h1:l.jo[z1.toNat]?=some j) (p0:PinP E l a j0 i) (hi:j.b=i) (hk:j.kind≠0) (hb:Pd E a j.a)
  (lB:FP 98 [.agg [.lst 1 (a.rs.map nR)],aP (sX (bh l a j.a j.point).1) (sX (bh l a j.a j.point).2),aP (sX (aH l a j0 i).1) (sX (aH l a j0 i).2)] (.tup [aP (sX (cE l a i j0 j).1) (sX (cE l a i j0 j).2),.v .nilIface]))
  (DC:FP 102 [.agg [.lst 1 (a.rs.map nR)],aP (sX (cE l a i j0 j).1) (sX (cE l a i j0 j).2),aP (sX (cE l a i j0 j).1) (sX (cE l a i j0 j).2)] (.tup [nA (sX (cH l a i j0 j)),.v .nilIface])) :
  Con prog 103 [.ptr 1000 0,.ptr 1001 0] [pP 1000 (de l ⟨3,[i],[z0,z1],0⟩ a),pP 1001 (cr a.rs)] (.agg (vT l a i j0 j)) [pP 1000 (de l ⟨3,[i],[z0,z1],0⟩ a),pP 1001 (cr a.rs)]:=by
 obtain⟨i1,i2,i3,i4,i5⟩:=dZ D.li h1;have iw:Sm 1000 (ak l j0 i):=kO D.hl D.li h0 (by rcases p0.tie with h9 |h9;exact .inl h9.1;exact .inr h9.2.1);subst hi;have gK:=p6 D.hl D.li i2 i4;have oy:=p6 D.hl D.li i2 (i5 hk);have hv:=oy.sub gK;refine gF func103 (fun k z h=>ahj h) ?_;refine gi (rfl) ?_;refine gt (ba (MW D.hl _ hg a rfl h1) (dJ rfl) rfl rfl rfl) ?_;refine gD ?_;refine gt (aR (zy hE D.hl D.li _ hg D.al D.hc (k:=0) rfl h0 h3 p0) (.cons (.tmp rfl) (.cons (.const _) (dJ rfl))) aT rfl rfl) ?_;refine gt (ba (sG D.hl D.li _ a i2 i4) (aV rfl rfl rfl) rfl rfl rfl) ?_;refine gt (ba (sG D.hl D.li _ a i2 (i5 hk)) (aV rfl rfl rfl) rfl rfl rfl) ?_;refine gc (uc oy gK oz oz) ?_;refine gD ?_;refine gc (uc gK iw oz oz) ?_;refine gc (S6 hv (gK.sub iw) oz oz) ?_;refine gc (tt ((hv.cross (gK.sub iw)).qs oz)) ?_;refine gc (GD hv oz) ?_;refine gD ?_;refine gt (aR (xQ D.hl D.li _ D.al D.hc i1 i3 hE h3 hb) (aV rfl rfl rfl) aT rfl rfl) ?_;refine gC (fun y=>?_) (fun y=>?_) (st2:=(77777,0))
 ·refine gc lB ?_;refine gt (aR (Con.rB 1001 rfl rfl rfl rfl (L7 _ _ _)) (aV rfl rfl rfl) aT rfl rfl) ?_;refine gD ?_;refine gc DC ?_;refine gt (aR (Con.rB 1001 rfl rfl rfl rfl (CW _ _)) (aV rfl rfl rfl) aT rfl rfl) ?_;refine gD ?_;refine gR ?_;exact aD.keep (qH rfl rfl)
 cases y
theorem YJ{l:Li}{a:As}(D:DyR l a){i z0 z1:Int}{j0 j:Jt}(hg:GrOk l ⟨3,[i],[z0,z1],0⟩)
  (h0:l.jo[z0.toNat]?=some j0) (h1:l.jo[z1.toNat]?=some j) (p0:PinP 3900000 l a j0 i) (hi:j.b=i) (hk:j.kind≠0) (hb:Pd 3900000 a j.a) :
  Con prog 103 [.ptr 1000 0,.ptr 1001 0] [pP 1000 (de l ⟨3,[i],[z0,z1],0⟩ a),pP 1001 (cr a.rs)] (.agg (vT l a i j0 j)) [pP 1000 (de l ⟨3,[i],[z0,z1],0⟩ a),pP 1001 (cr a.rs)]:=by
 obtain⟨i1,i2,i3,i4,i5⟩:=dZ D.li h1;obtain⟨z1',z2'⟩:=re D.hl D.li D.al D.s D.hc h0 p0;obtain⟨y1,y2⟩:=rD D.hl D.li D.al D.s D.hc i1 i3 hb;obtain⟨w1,w2⟩:=Ov D h0 p0 h1 hb;haveI c:=D.s.ct D.hc;haveI:=z1';haveI:=z2';haveI:=y1;haveI:=y2;haveI:=w1;haveI:=w2
 have lB:=WW (ts:=llq a.rs) (u:=310000) (k:=132100) (a:=sX (bh l a j.a j.point).1) (b:=sX (bh l a j.a j.point).2) (a2:=sX (aH l a j0 i).1) (b2:=sX (aH l a j0 i).2);have DC:=S8 (ts:=llq a.rs) (u:=310000) (k:=132100) (a:=sX (cE l a i j0 j).1) (b:=sX (cE l a i j0 j).2) (a2:=sX (cE l a i j0 j).1) (b2:=sX (cE l a i j0 j).2);rw[vr D.s.tr D.hc]at lB DC;exact Z4 oz D.toDyW D.two hg h0 h1 p0 hi hk hb lB DC
theorem ahs{l:Li}{a:As}{i:Int}{j0 j:Jt}{p1 p2 p3:List Rat}(m1:D4 101 a.rs (sh 0 (jY l i j:Rat)) (sX (cH l a i j0 j)) p1)(m2:D4 101 a.rs (sh 0 (cB l i j0 j:Rat)) (sh 0 (cB l i j0 j:Rat)) p2)(m3:D4 100 a.rs p1 p2 p3) :
  Con prog 104 [.agg (vT l a i j0 j),.ptr 1001 0] [pP 1001 (cr a.rs)] (nA p3) [pP 1001 (cr a.rs)]:=by
 refine gF func104 (fun k z h=>by have:=(iQ h).1;omega) ?_;refine gt (aR (Con.rB 1001 rfl rfl rfl rfl m1) (aV rfl rfl rfl) aT rfl rfl) ?_;refine gt (aR (Con.rB 1001 rfl rfl rfl rfl m2) (aV rfl rfl rfl) aT rfl rfl) ?_;refine gt (aR (Con.rB 1001 rfl rfl rfl rfl m3) (aV rfl rfl rfl) aT rfl rfl) ?_;refine gD ?_;refine gR ?_;exact aD.keep (bH rfl)
theorem V9{l:Li}{a:As}(D:DyR l a){i:Int}{j0 j:Jt}{w v:Nat}[z1:Zl (llq a.rs) 310000 132100 (sh 0 (cB l i j0 j:Rat)) (qE (cB l i j0 j)) 3 0][z2:Zl (llq a.rs) 310000 132100 (sh 0 (jY l i j:Rat)) (qE (jY l i j)) 3 0][z3:Zu 310000 132100 (cH l a i j0 j) w v](hw:w+v<=2000) :
  Con prog 104 [.agg (vT l a i j0 j),.ptr 1001 0] [pP 1001 (cr a.rs)] (nA (sX (qE (jY l i j)*cH l a i j0 j-qE (cB l i j0 j)*qE (cB l i j0 j)))) [pP 1001 (cr a.rs)]:=by
 haveI c:=D.s.ct D.hc;haveI:=z1.zu;haveI:=z2.zu
 exact ahs (PB (a:=sh 0 (jY l i j:Rat)) (b:=sX (cH l a i j0 j)) D.s.tr D.hc oz) (PB (a:=sh 0 (cB l i j0 j:Rat)) (b:=sh 0 (cB l i j0 j:Rat)) D.s.tr D.hc oz)
  (aeo (a:=sX (qE (jY l i j)*cH l a i j0 j)) (b:=sX (qE (cB l i j0 j)*qE (cB l i j0 j):Et (llq a.rs))) D.s.tr D.hc oz)
abbrev Ci:Type:=List Rat×List Rat×List Rat
abbrev JW(c:Ci):AV:=.agg [nA c.1,nA c.2.1,nA c.2.2]
structure CiZ(rs:List (List Rt))(c:Ci):Prop where
  x:Nm (llq rs).length 2500000000 c.1
  y:Nm (llq rs).length 2500000000 c.2.1
  r:Nm (llq rs).length 2500000000 c.2.2
  sg:0<=ao (dE (llq rs) c.2.2)
theorem aav{ts:LL}(p q:Et ts×Et ts):dotE (q.1-p.1) (q.2-p.2) (q.1-p.1) (q.2-p.2)=aC p q:=by
 unfold aC db aO dotE;dsimp only;grind
theorem Ns{ts:LL}(c:Ct ts 310000 132100){x y x2 y2:Et ts}(h1:Zu 310000 132100 x 40 40)(h2:Zu 310000 132100 y 40 40)(h3:Zu 310000 132100 x2 40 40)(h4:Zu 310000 132100 y2 40 40):Zu 310000 132100 (aC (x,y) (x2,y2)) 320 327:=by
 haveI:=c;haveI:=h1;haveI:=h2;haveI:=h3;haveI:=h4
 exact(ao7:Zu 310000 132100 (dotE (x-x2) (y-y2) (x-x2) (y-y2)) _ _)
section
variable{rs:List (List Rt)}{r:Nat}{a b c a2 b2 c2:List Rat}
theorem Mr(h:TR rs r)(hc:bB rs=0){e:Nat}(ha:Nm (llq rs).length e a)(hb:Nm (llq rs).length e b)(he:e<=lm (llq rs).length):FP 342 [cJ rs,aP a b] (.v .nilIface):=by
 obtain⟨tw,etw⟩:=dg h hc;have Ao:=yd tw [(a,b)] (fun p hp=>by rw[alr.1 hp];exact⟨ha,hb⟩) he (by show 1<=500;omega);rw[<- etw]at Ao;refine am func342 ?_;refine gc Ao ?_;refine ai ?_;rfl
theorem PP(h:TR rs r)(hc:bB rs=0){e:Nat}(ha:Nm (llq rs).length e a)(hb:Nm (llq rs).length e b)(hn:Nm (llq rs).length e c)(he:e+1<=lm (llq rs).length):FP 321 [cJ rs,.agg [nA a,nA b,nA c]] (.v .nilIface):=by
 obtain⟨tw,etw⟩:=dg h hc;have je:=Fg tw hn oz;rw[<- etw]at je;refine am func321 ?_;refine gc (Mr h hc ha hb oz) ?_;refine gf ?_;refine gc je ?_;refine ai ?_;rfl
theorem NU(h:TR rs r)(hc:bB rs=0)(cs:List Ci)(hz:∀c∈cs,CiZ rs c)(hl:cs.length<=100):FP 322 [cJ rs,.lst 3 (cs.map JW)] (.v .nilIface):=by
 obtain⟨tw,etw⟩:=dg h hc;have dW:=oT (llq rs).length;refine am func322 ?_;refine gl ?_;refine aY [2,9,10] [2] (fun(i:Nat)=>[pP 11 (i64 i)]) (fun _=>[]) (fun i=>i<=cs.length) (fun i=>cs.length-i) 0 (ans _) ?_;rintro i hi K1 J1;refine gC (fun y=>?_) (fun y=>?_)
 ·have ah:=bf y;obtain⟨z,Ap⟩:=aB ah;have xl:=hz z (ank Ap);have hs:=KV tw xl.r oz;rw[<- etw]at hs;refine gi (aL Ap) ?_;refine gc hs ?_;refine gf ?_;refine gC (fun y=>?_) (fun y=>?_) (st1:=(8,0));exact ao5 y (by have h9:=xl.sg;unfold ao dE at h9;simp only[aa,ao0];omega);refine ga aU ?_;exact aS J1 (i+1) ah
 refine ai ?_;rfl
theorem abh(h:TR rs r)(hc:bB rs=0)(cs:List Ci)(hz:∀c∈cs,CiZ rs c)(hl:cs.length<=100):FP 199 [cJ rs,.lst 3 (cs.map JW)] (.v .nilIface):=by
 have dW:=oT (llq rs).length;have nF:=tZ rs r h;rw[hc]at nF;refine am func199 ?_;refine gc nF ?_;refine gf ?_;refine gl ?_;refine aY [1,2,14,15] [2] (fun(i:Nat)=>[pP 16 (i64 i)]) (fun _=>[]) (fun i=>i<=cs.length) (fun i=>cs.length-i) 0 (ans _) ?_;rintro i hi K1 J1;refine gC (fun y=>?_) (fun y=>?_)
 ·have ah:=bf y;obtain⟨z,Ap⟩:=aB ah;have xl:=hz z (ank Ap);refine gi (aL Ap) ?_;refine gc (PP h hc xl.x xl.y xl.r oz) ?_;refine gf ?_;refine ga aU ?_;exact aS J1 (i+1) ah
 refine gc (NU h hc cs hz hl) ?_;refine ai ?_;rfl
theorem Um(hc:bB rs=0)(h:TR rs r){R e:Nat}(tw:Tw (llq rs) R){x y x2 y2:Et (llq rs)}(n1:Nm (llq rs).length e a)(n2:Nm (llq rs).length e b)(n4:Nm (llq rs).length e a2)(n5:Nm (llq rs).length e b2)(e1:af (llq rs).length a=x)(e2:af (llq rs).length b=y)(e4:af (llq rs).length a2=x2)(e5:af (llq rs).length b2=y2)(he:8*e+2*kB R (llq rs).length+8<=lm (llq rs).length) :
  FP 324 [cJ rs,aP a b,aP a2 b2] (.tup [nA (sX (aC (x,y) (x2,y2))),.v .nilIface]):=by
 obtain⟨_,etw⟩:=dg h hc
 have Ao:=yd tw [(a,b),(a2,b2)] (e:=e) (fun p hp=>by
  simp only[an9,aob,or_false]at hp;rcases hp with rfl |rfl
  ·exact⟨n1,n2⟩
  ·exact⟨n4,n5⟩) oz (by show 2<=500;omega)
 rw[<- etw]at Ao;have cF:=MR tw n4 n5 n1 n2 oz;have m1:=n4.sub n1;have m2:=n5.sub n2;have RI:=Ng tw m1 m2 m1 m2 oz;rw[e1,e2,e4,e5]at cF;rw[e1,e2,e4,e5,bn,bn]at RI;have df:=aav (x,y) (x2,y2);refine am func324 ?_;refine gc Ao ?_;refine gf ?_ (5,0);refine gW (Wk.of (sl:=[pP 4 (.ptr 4 0),pP 5 (.ptr 5 0),pP 9 (.ptr 21 0)]) (hp:=[pP 4 (.box [nA a,nA b]),pP 5 (.box [nA a2,nA b2]),pP 21 (.box [.lst 1 ((llq rs).map nA),.v .nilIface])]) bg (.k (.k (.cons rfl (BlkSub.bL (.cons (.of (oV etw)) (.cons (.refl _) .nil)) rfl) .nil)))) ?_;refine gt (aR (Con.rB 21 rfl rfl rfl rfl cF) (aV rfl rfl rfl) aT rfl rfl) ?_;refine gt (aR (Con.rB 21 rfl rfl rfl rfl RI) (aV rfl rfl rfl) aT rfl rfl) ?_;refine gt (aR (Con.rB 21 rfl rfl rfl rfl (PM _ _)) (b8 rfl rfl) aT rfl rfl) ?_;refine bO ?_;rw[<- df];rfl
theorem R6(h:TR rs r)(hc:bB rs=0){x y x2 y2:Et (llq rs)}[c0:Ct (llq rs) 310000 132100][i1:Zl (llq rs) 310000 132100 a x 40 40][i2:Zl (llq rs) 310000 132100 b y 40 40][i4:Zl (llq rs) 310000 132100 a2 x2 40 40][i5:Zl (llq rs) 310000 132100 b2 y2 40 40] :
  FP 324 [cJ rs,aP a b,aP a2 b2] (.tup [nA (sX (aC (x,y) (x2,y2))),.v .nilIface]):=by
 obtain⟨R,tw,hk⟩:=c0.ex;have kk:=c0.kk hk;have dW:=oT (llq rs).length;exact Um hc h tw (e:=40*310000+40*132100) i1.nm i2.nm i4.nm i5.nm i1.eq i2.eq i4.eq i5.eq oz
theorem zV(rs:List (List Rt))(a:List Rat):Con prog 323 [.ptr 1000 0,nA a,.v .nilIface] [pP 1000 (cr rs)] (nA a) [pP 1000 (cr rs)]:=by
 refine gF func323 (fun k z h=>bW h) ?_;refine gC (fun y=>?_) (fun y=>?_) (st2:=(77777,0))
 ·refine gR ?_;exact aD.keep (bH rfl)
 cases y
abbrev tM(f:FuncId)(rs:List (List Rt))(v:AV)(b c:List Rat):Prop:=Con prog f [.ptr 1000 0,v,nA b] [pP 1000 (cr rs)] (nA c) [pP 1000 (cr rs)]
theorem V2(hx:FP 250 [.agg [.lst 1 (rs.map nR)],nA a,nA b] (.tup [nA c,.v .nilIface])):Con prog 326 [.ptr 1000 0,nA a,nA b] [pP 1000 (cr rs)] (nA c) [pP 1000 (cr rs)]:=by
 refine gF func326 (fun k z h=>bW h) ?_;refine gc hx ?_;refine gt (aR (zV _ _) (aV rfl rfl rfl) aT rfl rfl) ?_;refine gR ?_;exact aD.keep (bH rfl)
theorem ab1(hx:FP 209 [.agg [.lst 1 (rs.map nR)],nA a,nA b] (.tup [nA c,.v .nilIface])):Con prog 325 [.ptr 1000 0,nA a,nA b] [pP 1000 (cr rs)] (nA c) [pP 1000 (cr rs)]:=by
 refine gF func325 (fun k z h=>bW h) ?_;refine gc hx ?_;refine gt (aR (zV _ _) (aV rfl rfl rfl) aT rfl rfl) ?_;refine gR ?_;exact aD.keep (bH rfl)
theorem Yn(hx:FP 210 [.agg [.lst 1 (rs.map nR)],nA a,nA b] (.tup [nA c,.v .nilIface])):Con prog 328 [.ptr 1000 0,nA a,nA b] [pP 1000 (cr rs)] (nA c) [pP 1000 (cr rs)]:=by
 refine gF func328 (fun k z h=>bW h) ?_;refine gc hx ?_;refine gt (aR (zV _ _) (aV rfl rfl rfl) aT rfl rfl) ?_;refine gR ?_;exact aD.keep (bH rfl)
theorem Wd(n:Int)(hn:-9223372036854775808<=n/\n<=9223372036854775807)(hm:tM 328 rs (nA (sh 0 ((n:Rat):Rat))) a c):Con prog 327 [.ptr 1000 0,i64 n,nA a] [pP 1000 (cr rs)] (nA c) [pP 1000 (cr rs)]:=by
 refine gF func327 (fun k z h=>bW h) ?_;refine gc (sR n hn) ?_;refine gc (tt (uz hn)) ?_;refine gt (aR hm (aV rfl rfl rfl) aT rfl rfl) ?_;refine gR ?_;exact aD.keep (bH rfl)
end
section
variable{rs:List (List Rt)}{r u k:Nat}{a b:List Rat}{x y:Et (llq rs)}{w v w' v':Nat}
theorem TC (h:TR rs r) (hc:bB rs=0) [c0:Ct (llq rs) u k] [ha:Zl (llq rs) u k a x w v] [hb:Zl (llq rs) u k b y w' v'] (hs:w+v+(w'+v')<=10000:=by decide) :
  Con prog 326 [.ptr 1000 0,nA a,nA b] [pP 1000 (cr rs)] (nA (sX (x+y))) [pP 1000 (cr rs)]:=by
 have hx:=So (ha:=ha) (hb:=hb) hs;rw[vr h hc]at hx;exact V2 hx
theorem Lx (h:TR rs r) (hc:bB rs=0) [c0:Ct (llq rs) u k] [ha:Zl (llq rs) u k a x w v] [hb:Zl (llq rs) u k b y w' v'] (hs:w+v+(w'+v')<=10000:=by decide) :
  Con prog 325 [.ptr 1000 0,nA a,nA b] [pP 1000 (cr rs)] (nA (sX (x-y))) [pP 1000 (cr rs)]:=by
 have hx:=KR (ha:=ha) (hb:=hb) hs;rw[vr h hc]at hx;exact ab1 hx
theorem FA (h:TR rs r) (hc:bB rs=0) [c0:Ct (llq rs) u k] [ha:Zl (llq rs) u k a x w v] [hb:Zl (llq rs) u k b y w' v'] (hs:w+v+(w'+v')<=10000:=by decide) :
  Con prog 328 [.ptr 1000 0,nA a,nA b] [pP 1000 (cr rs)] (nA (sX (x*y))) [pP 1000 (cr rs)]:=by
 have hx:=Qu (ha:=ha) (hb:=hb) hs;rw[vr h hc]at hx;exact Yn hx
theorem ZH (h:TR rs r) (hc:bB rs=0) [c0:Ct (llq rs) u k] (n:Int) (hn:-9223372036854775808<=n/\n<=9223372036854775807) [hq:Qz u (n:Rat) w'] [ha:Zl (llq rs) u k a x w v] (hs:w'+0+(w+v)<=10000:=by decide) :
  Con prog 327 [.ptr 1000 0,i64 n,nA a] [pP 1000 (cr rs)] (nA (sX (qE (n:Rat)*x))) [pP 1000 (cr rs)]:=by
 have hm:=FA (a:=sh 0 ((n:Rat):Rat)) (b:=a) h hc hs;exact Wd n hn hm
end
section
variable{rs:List (List Rt)}{r:Nat}{a b c a2 b2 c2:List Rat}{x y z x2 y2 z2:Et (llq rs)}
theorem ahi{dd s1 s2 p1 p2 p3 p4:List Rat}(hd:FP 324 [cJ rs,aP a b,aP a2 b2] (.tup [nA dd,.v .nilIface]))(m1:tM 326 rs (nA c) dd s1)(m2:tM 325 rs (nA s1) c2 s2)
  (m3:tM 328 rs (nA c) dd p1) (m4:tM 327 rs (i64 4) p1 p2) (m5:tM 328 rs (nA s2) s2 p3) (m6:tM 325 rs (nA p2) p3 p4) :
  Con prog 200 [.ptr 1000 0,.agg [nA a,nA b,nA c],.agg [nA a2,nA b2,nA c2]] [pP 1000 (cr rs)] (.tup [nA p4,nA dd]) [pP 1000 (cr rs)]:=by
 refine gF func200 (fun k z h=>bW h) ?_;refine gc hd ?_;refine gt (ba (zV _ _) (aV rfl rfl rfl) rfl rfl rfl) ?_;refine gD ?_;refine gt (ba m1 (aV rfl rfl rfl) rfl rfl rfl) ?_;refine gt (ba m2 (aV rfl rfl rfl) rfl rfl rfl) ?_;refine gD ?_;refine gt (ba m3 (aV rfl rfl rfl) rfl rfl rfl) ?_;refine gt (ba m4 (.cons (.tmp rfl) (.cons (.const _) (dJ rfl))) rfl rfl rfl) ?_;refine gt (ba m5 (aV rfl rfl rfl) rfl rfl rfl) ?_;refine gt (ba m6 (aV rfl rfl rfl) rfl rfl rfl) ?_;refine gR ?_;exact aD.keep (bH rfl)
theorem Wl(h:TR rs r)(hc:bB rs=0)[c0:Ct (llq rs) 310000 132100][i1:Zl (llq rs) 310000 132100 a x 40 40][i2:Zl (llq rs) 310000 132100 b y 40 40][i3:Zl (llq rs) 310000 132100 c z 3 0][i4:Zl (llq rs) 310000 132100 a2 x2 40 40][i5:Zl (llq rs) 310000 132100 b2 y2 40 40][i6:Zl (llq rs) 310000 132100 c2 z2 3 0] :
  Con prog 200 [.ptr 1000 0,.agg [nA a,nA b,nA c],.agg [nA a2,nA b2,nA c2]] [pP 1000 (cr rs)] (.tup [nA (sX (bC (x,y) z (x2,y2) z2)),nA (sX (aC (x,y) (x2,y2)))]) [pP 1000 (cr rs)]:=by
 have hd:=R6 (a:=a) (b:=b) (a2:=a2) (b2:=b2) h hc;haveI:=i3.zu;haveI:=i6.zu;haveI zd:=Ns c0 i1.zu i2.zu i4.zu i5.zu;haveI q4:Qz 310000 ((4:Int):Rat) 1:=Qz.int (c:=Ct.cx (c:=c0)) (by decide);have m1:=TC (a:=c) (b:=sX (aC (x,y) (x2,y2))) h hc (by decide);have m2:=Lx (a:=sX (z+aC (x,y) (x2,y2))) (b:=c2) h hc (by decide);have m3:=FA (a:=c) (b:=sX (aC (x,y) (x2,y2))) h hc (by decide);have m4:=ZH (a:=sX (z*aC (x,y) (x2,y2))) h hc 4 oz (by decide);have m5:=FA (a:=sX (z+aC (x,y) (x2,y2)-z2)) (b:=sX (z+aC (x,y) (x2,y2)-z2)) h hc (by decide);have m6:=Lx (a:=sX (qE ((4:Int):Rat)*(z*aC (x,y) (x2,y2)))) (b:=sX ((z+aC (x,y) (x2,y2)-z2)*(z+aC (x,y) (x2,y2)-z2))) h hc (by decide);exact ahi hd m1 m2 m3 m4 m5 m6
end
class Cy(ts:LL)(u k:outParam Nat):Prop where
  ex:∃R,Tw ts R/\eB R ts.length<=k
  k1:1<=k
  u3:3<=u
  two:ts.length<=2
instance Cy.cx{ts:LL}{u k:Nat}[c:Cy ts u k]:Cx (az ts) ts.length u k:=by
  obtain⟨R,tw,h⟩:=c.ex;exact⟨⟨R,Pu tw▸tw,h⟩,c.k1,c.u3⟩
theorem Cy.zq{ts:LL}{u k:Nat}[c:Cy ts u k]{q:Rat}{w:Nat}[h:Qz u q w]:Zl ts u k (sh 0 (q:Rat)) (qE q:Et ts) w 0:=⟨kM _ q,by
 obtain⟨R,tw,_⟩:=c.ex;exact(Nm.ofQ tw.five h.cb).eq oz⟩
theorem Cy.lm{ts:LL}{u k:Nat}(c:Cy ts u k):lm ts.length=200000000000:=by unfold Go.Lw.lm;rw[aoz c.two]
def iE{ts:LL}(y:Et ts):Et ts:=T.inv (az ts) ts.length y
abbrev bt(ts:LL):Blk:=.box [.lst 1 (ts.map nA),.v .nilIface]
theorem Ft(ts:LL):cr (ts.map (List.map rt))=bt ts:=by
 have h:=ko ts;unfold cJ aZ at h;have h1:=AV.agg.inj h
 injection h1 with h2
 show Blk.box [.lst 1 ((ts.map (List.map rt)).map nR),.v .nilIface]=_;rw[h2]
section
variable{ts:LL}{u k:Nat}{a b:List Rat}{x y:Et ts}{w v w' v':Nat}
theorem aa8[c:Cy ts u k][ha:Zl ts u k a x w v][hb:Zl ts u k b y w' v'](hs:w*u+v*k+(w'*u+v'*k)<200000000000):FP 250 [aZ ts,nA a,nA b] (.tup [nA (sX (x+y)),.v .nilIface]):=by
 obtain⟨R,tw,hk⟩:=c.ex;have h1:=Hz tw ha.nm hb.nm (by rw[c.lm];omega);rw[ha.eq,hb.eq]at h1;exact h1
theorem YK[c:Cy ts u k][ha:Zl ts u k a x w v][hb:Zl ts u k b y w' v'](hs:w*u+v*k+(w'*u+v'*k)<200000000000):FP 209 [aZ ts,nA a,nA b] (.tup [nA (sX (x-y)),.v .nilIface]):=by
 obtain⟨R,tw,hk⟩:=c.ex;have h1:=tF tw ha.nm hb.nm (by rw[c.lm];omega);rw[ha.eq,hb.eq]at h1;exact h1
theorem aeb[c:Cy ts u k][ha:Zl ts u k a x w v][hb:Zl ts u k b y w' v'](hs:w*u+v*k+(w'*u+v'*k)<200000000000):FP 210 [aZ ts,nA a,nA b] (.tup [nA (sX (x*y)),.v .nilIface]):=by
 obtain⟨R,tw,hk⟩:=c.ex;have h1:=FI tw ha.nm hb.nm (by rw[c.lm];omega);rw[ha.eq,hb.eq]at h1;exact h1
theorem Ki[c:Cy ts u k][ha:Zl ts u k a x w v](hs:w*u+v*k<200000000000):FP 128 [aZ ts,nA a] (.tup [nA (sX (-x)),.v .nilIface]):=by
 obtain⟨R,tw,hk⟩:=c.ex;have h1:=Fg tw ha.nm (by rw[c.lm];omega);rw[ha.eq]at h1;exact h1
theorem Jh[c:Cy ts u k][ha:Zl ts u k a x w v](hs:w*u+v*k<200000000000):FP 87 [aZ ts,nA a] (.tup [i64 (ao x),.v .nilIface]):=by
 obtain⟨R,tw,hk⟩:=c.ex;have h1:=KV tw ha.nm (by rw[c.lm];omega);rw[ha.eq]at h1;exact h1
theorem Zm{j m:Nat}[c:Cy ts u k][ha:Zl ts u k a x w v][hb:Zl ts u k b y w' v'](nb:Nl j b)(hj:j<=ts.length)(h0:ao y≠0)(hm:∀R,eB R ts.length<=k->iB R j (w'*u+v'*k)<=m)(hf:w'*u+v'*k<200000000000)(hs:w*u+v*k+m+k<=200000000000) :
  FP 350 [aZ ts,nA a,nA b] (.tup [nA (sX (x*iE y)),.v .nilIface])/\Nm ts.length (w*u+v*k+m+k) (sX (x*iE y)):=by
 obtain⟨R,tw,hk⟩:=c.ex;have hi:=hm R hk;have he:=hb.eq;have h1:T.sgn (az ts) ts.length (af ts.length b)≠0:=by rw[he];exact h0
 have hd:=EX tw ha.nm hb.nm hj nb h1 (by rw[c.lm];omega) oz;have hn:=Hy tw ha.nm hb.nm hj nb h1 (by rw[c.lm];omega) oz;rw[ha.eq,he]at hd hn;exact⟨hd,hn.mono oz⟩
theorem vm{j:Nat}[c:Cy ts u k][ha:Zl ts u k a x w v][hb:Zl ts u k b y w' v'](nb:Nl j b)(hj:j<=ts.length)(xd:j<=1)(h0:ao y≠0)(hs:(w+5*w')*u+(v+5*v'+3)*k<=200000000000) :
  FP 350 [aZ ts,nA a,nA b] (.tup [nA (sX (x*iE y)),.v .nilIface])/\Zu u k (x*iE y) (w+5*w') (v+5*v'+3):=by
 have e:(w+5*w')*u+(v+5*v'+3)*k=w*u+v*k+(5*(w'*u+v'*k)+2*k)+k:=by
  simp only[akk,akc,akt];omega
 rw[e]at hs
 have h:=Zm (a:=a) (b:=b) (m:=5*(w'*u+v'*k)+2*k) nb hj h0 (fun R hR=>by
  have h2:=SM R (w'*u+v'*k) xd;have h3:=kl R hj;omega) oz hs
 exact⟨h.1,⟨h.2.eq e.symm⟩⟩
theorem tx(ts:LL)(a:List Rat):Con prog 323 [.ptr 1000 0,nA a,.v .nilIface] [pP 1000 (bt ts)] (nA a) [pP 1000 (bt ts)]:=by
 have h:=zV (ts.map (List.map rt)) a;rw[Ft]at h;exact h
theorem vS(ts:LL)(a:List Rat):Con prog 93 [.ptr 1000 0,nA a,.v .nilIface] [pP 1000 (bt ts)] (nA a) [pP 1000 (bt ts)]:=by
 have h:=CW (ts.map (List.map rt)) a;rw[Ft]at h;exact h
theorem nT[c:Cy ts u k][ha:Zl ts u k a x w v][hb:Zl ts u k b y w' v'](hs:w*u+v*k+(w'*u+v'*k)<200000000000) :
  Con prog 326 [.ptr 1000 0,nA a,nA b] [pP 1000 (bt ts)] (nA (sX (x+y))) [pP 1000 (bt ts)]:=by
 refine gF func326 (fun k z h=>bW h) ?_;refine gc (aa8 hs) ?_;refine gt (aR (tx _ _) (aV rfl rfl rfl) aT rfl rfl) ?_;refine gR ?_;exact aD.keep (bH rfl)
theorem p7[c:Cy ts u k][ha:Zl ts u k a x w v][hb:Zl ts u k b y w' v'](hs:w*u+v*k+(w'*u+v'*k)<200000000000) :
  Con prog 325 [.ptr 1000 0,nA a,nA b] [pP 1000 (bt ts)] (nA (sX (x-y))) [pP 1000 (bt ts)]:=by
 refine gF func325 (fun k z h=>bW h) ?_;refine gc (YK hs) ?_;refine gt (aR (tx _ _) (aV rfl rfl rfl) aT rfl rfl) ?_;refine gR ?_;exact aD.keep (bH rfl)
theorem mF[c:Cy ts u k][ha:Zl ts u k a x w v][hb:Zl ts u k b y w' v'](hs:w*u+v*k+(w'*u+v'*k)<200000000000) :
  Con prog 328 [.ptr 1000 0,nA a,nA b] [pP 1000 (bt ts)] (nA (sX (x*y))) [pP 1000 (bt ts)]:=by
 refine gF func328 (fun k z h=>bW h) ?_;refine gc (aeb hs) ?_;refine gt (aR (tx _ _) (aV rfl rfl rfl) aT rfl rfl) ?_;refine gR ?_;exact aD.keep (bH rfl)
theorem xK{q:List Rat}(hd:FP 350 [aZ ts,nA a,nA b] (.tup [nA q,.v .nilIface])) :
  Con prog 436 [.ptr 1000 0,nA a,nA b] [pP 1000 (bt ts)] (nA q) [pP 1000 (bt ts)]:=by
 refine gF func436 (fun k z h=>bW h) ?_;refine gc hd ?_;refine gt (aR (tx _ _) (aV rfl rfl rfl) aT rfl rfl) ?_;refine gR ?_;exact aD.keep (bH rfl)
theorem vQ[c:Cy ts u k][ha:Zl ts u k a x w v](hs:w*u+v*k<200000000000) :
  Con prog 432 [.ptr 1000 0,nA a] [pP 1000 (bt ts)] (i64 (ao x)) [pP 1000 (bt ts)]:=by
 refine gF func432 (fun k z h=>bW h) ?_;refine gf ?_;refine gc (Jh hs) ?_;refine gR ?_;exact aD.keep (bH rfl)
theorem CA{q:List Rat}(hd:FP 350 [aZ ts,nA a,nA b] (.tup [nA q,.v .nilIface])) :
  Con prog 383 [.ptr 1000 0,nA a,nA b] [pP 1000 (bt ts)] (nA q) [pP 1000 (bt ts)]:=by
 refine gF func383 (fun k z h=>bW h) ?_;refine gc hd ?_;refine gt (aR (vS _ _) (aV rfl rfl rfl) aT rfl rfl) ?_;refine gR ?_;exact aD.keep (bH rfl)
theorem Gc[c:Cy ts u k][ha:Zl ts u k a x w v](hs:w*u+v*k<200000000000) :
  Con prog 380 [.ptr 1000 0,nA a] [pP 1000 (bt ts)] (i64 (ao x)) [pP 1000 (bt ts)]:=by
 refine gF func380 (fun k z h=>bW h) ?_;refine gf ?_;refine gc (Jh hs) ?_;refine gR ?_;exact aD.keep (bH rfl)
theorem DL[c:Cy ts u k](n:Int)(hn:-9223372036854775808<=n/\n<=9223372036854775807)[hq:Qz u (n:Rat) w'][ha:Zl ts u k a x w v](hs:w'*u+0*k+(w*u+v*k)<200000000000) :
  Con prog 327 [.ptr 1000 0,i64 n,nA a] [pP 1000 (bt ts)] (nA (sX (qE (n:Rat)*x))) [pP 1000 (bt ts)]:=by
 haveI:=Cy.zq (ts:=ts) (u:=u) (k:=k) (q:=(n:Rat)) (w:=w');have hm:=mF (ts:=ts) (u:=u) (k:=k) (a:=sh 0 ((n:Rat):Rat)) (b:=a) (x:=qE (n:Rat)) (y:=x) hs;refine gF func327 (fun k z h=>bW h) ?_;refine gc (sR n hn) ?_;refine gc (tt (uz hn)) ?_;refine gt (aR hm (aV rfl rfl rfl) aT rfl rfl) ?_;refine gR ?_;exact aD.keep (bH rfl)
theorem xp{p1 p2 v1 v2 c m1 m2 q1 q2:List Rat}(h1:Con prog 328 [.ptr 1000 0,nA c,nA v1] [pP 1000 (bt ts)] (nA m1) [pP 1000 (bt ts)])
  (h2:Con prog 328 [.ptr 1000 0,nA c,nA v2] [pP 1000 (bt ts)] (nA m2) [pP 1000 (bt ts)])
  (h3:Con prog 326 [.ptr 1000 0,nA p1,nA m1] [pP 1000 (bt ts)] (nA q1) [pP 1000 (bt ts)])
  (h4:Con prog 326 [.ptr 1000 0,nA p2,nA m2] [pP 1000 (bt ts)] (nA q2) [pP 1000 (bt ts)]) :
  Con prog 435 [.ptr 1000 0,aP p1 p2,nA c,aP v1 v2] [pP 1000 (bt ts)] (aP q1 q2) [pP 1000 (bt ts)]:=by
 refine gF func435 (fun k z h=>bW h) ?_;refine gt (aR h1 (aV rfl rfl rfl) aT rfl rfl) ?_;refine gt (aR h3 (aV rfl rfl rfl) aT rfl rfl) ?_;refine gt (aR h2 (aV rfl rfl rfl) aT rfl rfl) ?_;refine gt (aR h4 (aV rfl rfl rfl) aT rfl rfl) ?_;refine gD ?_;refine gR ?_;exact aD.keep (bH rfl)
theorem LY{r e:Nat}(tw:Tw ts r)(ha:Nm ts.length e a)(he:e<=lm ts.length)(hs:0<=T.sgn (az ts) ts.length (af ts.length a)) :
  Con prog 437 [.ptr 1000 0,nA a] [pP 1000 (bt ts)] (nA (cW ts.length)) [pP 1000 (bt (aX ts a))]:=by
 refine gF func437 (fun k z h=>bW h) ?_;refine gf ?_;refine gc (PZ tw ha he hs) ?_;refine gf ?_;refine gR ?_;exact aD.keep (bH rfl)
abbrev GP(ts:LL)(ps:List AV):AV:=.agg [.lst 1 (ts.map nA),.lst 2 ps]
theorem V7{r:Nat}(tw:Tw ts r):Con prog 461 [.ptr 1000 0] [pP 1000 (bt ts)] (aZ ts) [pP 1000 (bt ts)]:=by
 have h3:=tw.three;have mw:=tw.rb.qs tw.le;refine gF func461 (fun k z h=>bW h) ?_;refine gl ?_;refine gW (Wk.virt 900 1 rfl) ?_;refine aY [2,3,13,14] [1000,2] (fun(i:Nat)=>[pP 15 (i64 i)]) (fun i=>[pP 3 (.box [.ms 900 1 0 i]),pP 900 (.row 1 ((ts.take i).map nA))]) (fun i=>i<=ts.length) (fun i=>ts.length-i) 0 (ans _) ?_ (h2:=(.cons rfl (BlkSub.bL (.cons (.nM _ _ _) .nil) rfl) (.k .nil)));rintro i hi K1 J1;refine gC (fun y=>?_) (fun y=>?_) (st2:=(13,0))
 ·have ah:=bf y;obtain⟨d,hd⟩:=aB ah
  have pu:d.length<=32:=by
   have h9:=tw.len i ah;rw[aw hd]at h9;have:2^i<=32:=cK (b:=5) oz;omega
  have If:=mw d (ank hd);refine gi (aL hd) ?_;refine gl ?_;refine gW (Wk.virt 901 3 rfl) ?_;refine aY [2,3,13,14,15,19,20] [1000,2,3,900] (fun(j:Nat)=>[pP 6 (.ms 901 3 0 j),pP 21 (i64 j)]) (fun j=>[pP 901 (.row 3 ((d.take j).map qA))]) (fun j=>j<=d.length) (fun j=>d.length-j) 0 (ans _) ?_;rintro j hj K2 J2;refine gC (fun y=>?_) (fun y=>?_) (st2:=(11,0))
  ·have fC:=bf y;obtain⟨q,hq⟩:=aB fC;have gL:=tW (rt q) (rt 0) (If q (ank hq)).ok Qs.zero.ok;rw[yv,b7] at gL;refine gi (aL hq) ?_;refine gc (Con.sA (.cons (.refl _) (.cons kA .nil)) gL) ?_;refine gs (cZ (.tmp rfl) rfl (by rw[anl,an6]; omega) (.tmp rfl) T53 rfl T106 rfl rfl (by simp only [an0,aoa]; omega) rfl rfl) ?_ (10,0);refine gW (Wk.of (sl:=[pP 2 (.ptr 2 0),pP 3 (.ptr 3 0),pP 13 (.lst 1 (ts.map nA)),pP 14 (i64 ts.length),pP 15 (i64 i),pP 6 (.ms 30 3 0 (j+1)),pP 19 (nA d),pP 20 (i64 d.length),pP 21 (i64 j)]) (hp:=[pP 1000 (bt ts),pP 2 (.box [nS]),pP 3 (.box [.ms 900 1 0 i]),pP 900 (.row 1 ((ts.take i).map nA)),pP 30 (.row 3 ((d.take (j+1)).map qA))]) bg (.k (.k (.k (.k (.cons rfl (.of (by rw[dR hq,aoc]; rfl)) .nil)))))) ?_ (10,0)
   refine gW (Wk.rk (k:=30) (d:=901) rfl rfl) ?_;refine ga aU ?_;exact aS J2 (j+1) fC
  have fC:=bu hj y;subst fC;refine gW ((Wk.freeze (k:=901) rfl).trans<|Wk.of (sl:=[pP 2 (.ptr 2 0),pP 3 (.ptr 3 0),pP 13 (.lst 1 (ts.map nA)),pP 14 (i64 ts.length),pP 15 (i64 i),pP 6 (nA d)]) (hp:=[pP 1000 (bt ts),pP 2 (.box [nS]),pP 3 (.box [.ms 900 1 0 i]),pP 900 (.row 1 ((ts.take i).map nA))]) (.k (.k (.k (.k (.k (.cons rfl (.of (by rw[cz (by simp)];simp[nA])) .nil)))))) (.k (.k (.k (.k .nil))))) ?_
  refine gs (cZ (.tmp rfl) rfl (by rw[anl,an6];omega) (.tmp rfl) T42 rfl T53 rfl rfl (by simp only[an0,aoa];omega) rfl rfl) ?_ (12,0);refine gW (Wk.of (sl:=[pP 2 (.ptr 2 0),pP 3 (.ptr 3 0),pP 13 (.lst 1 (ts.map nA)),pP 14 (i64 ts.length),pP 15 (i64 i)]) (hp:=[pP 1000 (bt ts),pP 2 (.box [nS]),pP 3 (.box [.ms 36 1 0 (i+1)]),pP 36 (.row 1 ((ts.take (i+1)).map nA))]) bg (.k (.k (.k (.cons rfl (.of (by rw[dR hd,aoc];rfl)) .nil))))) ?_ (12,0);refine gW (Wk.rk (k:=36) (d:=900) rfl rfl) ?_;refine ga aU ?_;exact aS J1 (i+1) ah
 have ah:=bu hi y;subst ah;refine gW ((Wk.freeze (k:=900) rfl).trans<|Wk.of (sl:=[pP 2 (.ptr 2 0),pP 3 (.ptr 3 0)]) (hp:=[pP 1000 (bt ts),pP 2 (.box [nS]),pP 3 (.box [.lst 1 (ts.map nA)])]) bg (.k (.k (.cons rfl (BlkSub.bL (.cons (.of (by rw[cz (by simp)];simp)) .nil) rfl) .nil)))) ?_;refine gR ?_;exact aD.keep (bH rfl)
theorem sw{r:Nat}(tw:Tw ts r)(ps:List AV):Con prog 434 [.ptr 1000 0,.lst 2 ps] [pP 1000 (bt ts)] (.tup [GP ts ps,.v .nilIface]) [pP 1000 (bt ts)]:=by
 refine gF func434 (fun k z h=>bW h) ?_;refine gf ?_;refine gt (aR (V7 tw) (dJ rfl) aT rfl rfl) ?_;refine gR ?_;exact aD.keep (bH rfl)
end
theorem e8(ts:LL)(a:List Rat):(aX ts a).length=ts.length+1:=by simp[aX]
theorem Kk{ts:LL}{a:List Rat}{j:Nat}(h:j<ts.length):(aX ts a).getD j []=ts.getD j []:=by
 unfold aX;rw[anm,anm,an8 h]
theorem zx(ts:LL)(a:List Rat):(aX ts a).getD ts.length []=a7 a (2^ts.length):=by
 unfold aX;rw[anm,an7 (anp _),Nat.sub_self];rfl
theorem A5{ts:LL}{a:List Rat}{j:Nat}(h:j<ts.length):az (aX ts a) j=az ts j:=by
 unfold az;rw[Kk h]
theorem AP{ts:LL}{a:List Rat}{j:Nat}(h:j<=ts.length)(x:T j):T.sgn (az (aX ts a)) j x=T.sgn (az ts) j x :=
 T.sgn_congr j (fun i hi=>A5 oz) x
theorem RB.ext{r e:Nat}{ts:LL}{a:List Rat}(h:RB r ts)(ha:Cb e a):RB (r+e) (aX ts a):=by
 obtain⟨D,N,h0,h1,h2,h3⟩:=h;obtain⟨D',N',k1,k2,k3⟩:=ha.wide (n:=2^ts.length);have hN:N<=2^r:=h3;refine⟨D*D',max (N*D') (N'*D),aju h0 k1.1,?_,?_,?_⟩
 ·intro d hd;rcases anz.1 hd with h9 |h9
  ·exact((h1 d h9).scale k1.1).mono (Nat.le_max_left _ _)
  ·rw[alr.1 h9,ajt D];exact(k1.scale h0).mono (Nat.le_max_right _ _)
 ·rw[aoo];exact akw h2 k2
 ·rw[aoo];refine Nat.max_le.2 ⟨akw h3 k2,?_⟩;rw[ajt (2^r)];exact akw k3 h2
theorem Gx{r e:Nat}{ts:LL}{a:List Rat}(tw:Tw ts r)(h2:ts.length<=2)(ha:Nm ts.length e a)(he:r+e<=5000000000)(hs:0<=T.sgn (az ts) ts.length (af ts.length a)):Tw (aX ts a) (r+e):=by
 refine⟨by rw[e8];omega,?_,?_,tw.rb.ext ha.cb,he⟩
 ·intro j hj;rw[e8]at hj;rcases anu j ts.length with h |h
  ·rw[Kk h];exact tw.len j h
  ·have:j=ts.length:=by omega
   subst this;rw[zx];exact fg ha.nl.le
 ·intro j hj;rw[e8]at hj;rw[AP oz];rcases anu j ts.length with h |h
  ·rw[A5 h];exact tw.pos j h
  ·have:j=ts.length:=by omega
   subst this
   have e1:az (aX ts a) ts.length=af ts.length a:=by
    show af ts.length ((aX ts a).getD ts.length [])=_;rw[zx,rO]
   rw[e1];exact hs
theorem qX{ts:LL}{a l:List Rat}{e:Nat}(h:Nm ts.length e l)(h4:ts.length<=4):Nm (aX ts a).length e l:=by
 rw[e8];exact⟨by omega,h.nl.mono oz,h.cb⟩
theorem Y1{ts:LL}{a l:List Rat}(h:Nl ts.length l):ao (dE (aX ts a) l)=ao (dE ts l):=by
 unfold ao dE;rw[e8];show T.sgn (az (aX ts a)) (ts.length+1) (af (ts.length+1) l)=_;rw[xt (az (aX ts a)) h.le (Nat.le_succ _),AP (anp _)]
theorem yq{ts:LL}{a:List Rat}(h4:ts.length<=4):Nm (aX ts a).length 1 (cW ts.length):=by
 rw[e8];refine⟨by omega,.inr ⟨_,anp _,D5 _⟩,1,1,⟨by omega,?_⟩,by omega,by omega⟩;intro q hq;unfold cW at hq;rcases ala hq with h |h
 ·rw[(ak4.1 h).2];exact⟨0,by rw[Rat.zero_mul];rfl,by simp⟩
 ·rw[h];exact⟨1,by rw[Rat.one_mul];rfl,by simp⟩
theorem YM{r e k:Nat}{ts:LL}{a:List Rat}(tw:Tw ts r)(h1:ts.length<=1)(ha:Nm ts.length e a)(he:r+e<=5000000000)(hs:0<=T.sgn (az ts) ts.length (af ts.length a)){u:Nat}(hu:3<=u)(hk:3*(r+e)+6<=k):Cy (aX ts a) u k :=
 ⟨⟨r+e,Gx tw oz ha he hs,by
  rw[e8];have h:=kl (r+e) (show ts.length+1<=2 by omega);have h2:eB (r+e) 2=3*(r+e)+6:=by simp only[eB];omega
  omega⟩,by omega,hu,by rw[e8];omega⟩
structure Mt where
  ts:LL
  ps:List (List Rat×List Rat)
abbrev eH(p:List Rat×List Rat):AV:=aP p.1 p.2
abbrev Mt.av(m:Mt):AV:=GP m.ts (m.ps.map eH)
abbrev P2(ts:LL):Type:=Et ts×Et ts
abbrev P2.l{ts:LL}(p:P2 ts):List Rat×List Rat:=(sX p.1,sX p.2)
abbrev aQ{ts:LL}(X:Et ts)(x:Et ts):Et (aX ts (sX X)):=dE (aX ts (sX X)) (sX x)
section
variable{ts:LL}
def f9(d:Et ts):Et ts:=qE ((2:Int):Rat)*d
def iO(p q:P2 ts):P2 ts:=(q.1-p.1,q.2-p.2)
def dz(p:P2 ts)(k:Et ts)(v:P2 ts):P2 ts:=(p.1+k*v.1,p.2+k*v.2)
def dT(p q:P2 ts)(z z2:Et ts):P2 ts:=dz p ((z+aC p q-z2)*iE (f9 (aC p q))) (iO p q)
def fM(X d:Et ts):Et (aX ts (sX X)):=dE _ (cW ts.length)*iE (aQ X (f9 d))
def jE(X:Et ts)(f v:P2 ts)(c:Et (aX ts (sX X))):P2 (aX ts (sX X)):=dz (aQ X f.1,aQ X f.2) c (qE ((-1:Int):Rat)*aQ X v.2,aQ X v.1)
def pY(p:P2 ts)(z z2:Et ts):Mt:=if ao (z-z2)≠0 then⟨ts,[]⟩else if 0<ao z then⟨[],[]⟩else⟨ts,[(dz p 0 p).l]⟩
def eP(p q:P2 ts)(z z2:Et ts):Mt :=
  if ao (aC p q)=0 then pY p z z2
  else if ao (bC p z q z2)<0 then⟨ts,[]⟩
  else if ao (bC p z q z2)=0 then⟨ts,[(dT p q z z2).l]⟩
  else⟨aX ts (sX (bC p z q z2)),[(jE (bC p z q z2) (dT p q z z2) (iO p q) (fM (bC p z q z2) (aC p q))).l,
    (jE (bC p z q z2) (dT p q z z2) (iO p q) (qE ((-1:Int):Rat)*fM (bC p z q z2) (aC p q))).l]⟩
def mJ(z z2:Et ts):Nat:=if ao (z-z2)=0/\0<ao z then 15 else 0
def gh(p q:P2 ts)(z z2:Et ts):Nat:=if ao (aC p q)=0 then mJ z z2 else 0
theorem Pf:Sub (.agg [nS,nS]) (GP [] []):=Sub.agg (.cons (.nil _ _ _) (.cons (.nil _ _ _) .nil)) rfl
end
theorem Z5 {ts:LL} {u k:Nat} [c:Cy ts u k]:Zl ts u k [] (0:Et ts) 0 0:=⟨by rw[jX]; exact E.zero_def.symm,by
 obtain⟨R,tw,_⟩:=c.ex;exact⟨tw.five,.inl rfl,Cb.nil.mono (ans _)⟩⟩
section
variable{ts:LL}{a b c a2 b2 c2:List Rat}{x y z x2 y2 z2:Et ts}
theorem YD{r:Nat}(tw:Tw ts r)[c0:Cy ts 310000 132100][i1:Zl ts 310000 132100 a x 40 40][i2:Zl ts 310000 132100 b y 40 40][i3:Zl ts 310000 132100 c z 3 0][i6:Zl ts 310000 132100 c2 z2 3 0] :
  Con prog 433 [.ptr 1000 0,.agg [nA a,nA b,nA c],.agg [nA a2,nA b2,nA c2]] [pP 1000 (bt ts)]
   (.tup [(pY (x,y) z z2).av,bU (mJ z z2)]) [pP 1000 (bt ts)]:=by
 haveI:=i1.zu;haveI:=i2.zu;haveI:=i3.zu;haveI:=i6.zu;have HR:=Con.sA (.cons (.refl _) (.cons (Sub.nil 2 none 0) .nil)) (sw tw []);have m1:=p7 (ts:=ts) (u:=310000) (k:=132100) (a:=c) (b:=c2) (by decide);have m2:=vQ (ts:=ts) (u:=310000) (k:=132100) (a:=sX (z-z2)) (by decide);have m3:=vQ (ts:=ts) (u:=310000) (k:=132100) (a:=c) (by decide);haveI zn:Zl ts 310000 132100 [] (0:Et ts) 0 0:=Z5;have n1:=mF (ts:=ts) (u:=310000) (k:=132100) (a:=[]) (b:=a) (by decide);have n2:=mF (ts:=ts) (u:=310000) (k:=132100) (a:=[]) (b:=b) (by decide);have n3:=nT (ts:=ts) (u:=310000) (k:=132100) (a:=a) (b:=sX (0*x)) (by decide);have n4:=nT (ts:=ts) (u:=310000) (k:=132100) (a:=b) (b:=sX (0*y)) (by decide);have bQ:=Con.sA (.cons (.refl _) (.cons (.refl _) (.cons (Sub.nil 3 none 0) (.cons (.refl _) .nil)))) (xp n1 n2 n3 n4);refine gF func433 (fun k z h=>bW h) ?_;refine gt (ba m1 (aV rfl rfl rfl) rfl rfl rfl) ?_;refine gt (ba m2 (b8 rfl rfl) rfl rfl rfl) ?_;refine gC (fun v=>?_) (fun v=>?_)
 ·have h1:ao (z-z2)≠0:=xu v;refine gt (ba HR (.cons (.tmp rfl) (.cons (.const _) .nil)) rfl rfl rfl) ?_;refine gR ?_;exact(aD.keep (bH rfl)).sub (.of (by unfold pY mJ;rw[aoz h1,aoy (fun h=>h1 h.1)];rfl))
 have h1:ao (z-z2)=0:=C9 v;refine gt (ba m3 (b8 rfl rfl) rfl rfl rfl) ?_;refine gC (fun v=>?_) (fun v=>?_)
 ·have h2:0<ao z:=ao1 v;refine gR ?_;exact(aD.keep (bH rfl)).sub (by unfold pY mJ;rw[aoy oz,aoz h2,aoz ⟨h1,h2⟩];exact Sub.tup (.cons Pf (.cons (.refl _) .nil)))
 have h2:¬0<ao z:=ao2 v;refine gt (ba bQ (.cons (.tmp rfl) (.cons (.tmp rfl) (.cons (.const _) (dJ rfl)))) rfl rfl rfl) ?_;refine gt (ba (sw tw [aP (sX (x+0*x)) (sX (y+0*y))]) (b8 rfl rfl) rfl rfl rfl) ?_;refine gR ?_;exact(aD.keep (bH rfl)).sub (.of (by unfold pY mJ;rw[aoy oz,aoy h2,aoy (fun h=>h2 h.2)];rfl))
end
section
variable{rs:List (List Rt)}{r:Nat}{a b c a2 b2 c2:List Rat}{x y z x2 y2 z2:Et (llq rs)}
structure CirP(ts:LL)(p q:P2 ts)(z z2:Et ts):Prop where
  zd:Zu 310000 132100 (aC p q) 320 327
  zX:Zu 310000 132100 (bC p z q z2) 976 989
  zt:Zu 310000 132100 (f9 (aC p q)) 321 328
  z1:Zu 310000 132100 (iO p q).1 80 81
  z2:Zu 310000 132100 (iO p q).2 80 81
theorem LV{ts:LL}{x y z x2 y2 z2:Et ts}(c:Ct ts 310000 132100)(h1:Zu 310000 132100 x 40 40)(h2:Zu 310000 132100 y 40 40)(h3:Zu 310000 132100 z 3 0)(h4:Zu 310000 132100 x2 40 40)(h5:Zu 310000 132100 y2 40 40)(h6:Zu 310000 132100 z2 3 0) :
  CirP ts (x,y) (x2,y2) z z2:=by
 haveI:=c;haveI:=h1;haveI:=h2;haveI:=h3;haveI:=h4;haveI:=h5;haveI:=h6
 haveI zd:=Ns c h1 h2 h4 h5;haveI q4:Qz 310000 ((4:Int):Rat) 1:=Qz.int (c:=Ct.cx (c:=c)) (by decide);haveI q2:Qz 310000 ((2:Int):Rat) 1:=Qz.int (c:=Ct.cx (c:=c)) (by decide)
 exact⟨zd,(ao7:Zu 310000 132100 (qE ((4:Int):Rat)*(z*aC (x,y) (x2,y2))-(z+aC (x,y) (x2,y2)-z2)*(z+aC (x,y) (x2,y2)-z2)) _ _),
  (ao7:Zu 310000 132100 (qE ((2:Int):Rat)*aC (x,y) (x2,y2)) _ _),(ao7:Zu 310000 132100 (x2-x) _ _),(ao7:Zu 310000 132100 (y2-y) _ _)⟩
theorem PC{ts:LL}{x y z x2 y2 z2:Et ts}[c0:Cy ts 310000 132100](hn:ts.length<=1)(h1:Zu 310000 132100 x 40 40)(h2:Zu 310000 132100 y 40 40)(h3:Zu 310000 132100 z 3 0)(h6:Zu 310000 132100 z2 3 0)(P:CirP ts (x,y) (x2,y2) z z2)
  (h0:ao (f9 (aC (x,y) (x2,y2)))≠0) :
  FP 350 [aZ ts,nA (sX (z+aC (x,y) (x2,y2)-z2)),nA (sX (f9 (aC (x,y) (x2,y2))))] (.tup [nA (sX ((z+aC (x,y) (x2,y2)-z2)*iE (f9 (aC (x,y) (x2,y2))))),.v .nilIface]) /\
  Zu 310000 132100 ((z+aC (x,y) (x2,y2)-z2)*iE (f9 (aC (x,y) (x2,y2)))) 1931 1972/\Zu 310000 132100 (dT (x,y) (x2,y2) z z2).1 2051 2095/\Zu 310000 132100 (dT (x,y) (x2,y2) z z2).2 2051 2095:=by
 haveI:=h1;haveI:=h2;haveI:=h3;haveI:=h6;haveI:=P.zd;haveI:=P.zt
 have hd:=vm (ts:=ts) (u:=310000) (k:=132100) (a:=sX (z+aC (x,y) (x2,y2)-z2)) (b:=sX (f9 (aC (x,y) (x2,y2)))) (j:=ts.length) P.zt.nm.nl (anp _) hn h0 (by decide);haveI zk:=hd.2;haveI:=P.z1;haveI:=P.z2
 exact⟨hd.1,zk,(ao7:Zu 310000 132100 (x+((z+aC (x,y) (x2,y2)-z2)*iE (f9 (aC (x,y) (x2,y2))))*(iO (x,y) (x2,y2)).1) _ _),
  (ao7:Zu 310000 132100 (y+((z+aC (x,y) (x2,y2)-z2)*iE (f9 (aC (x,y) (x2,y2))))*(iO (x,y) (x2,y2)).2) _ _)⟩
structure ExtP{ts:LL}(X:Et ts):Prop where
  tw:Tw (aX ts (sX X)) 433338900
  cy:Cy (aX ts (sX X)) 915000000 1301000000
theorem x9{ts:LL}{X:Et ts}(tw:Tw ts 132000)(hn:ts.length<=1)(hx:Zu 310000 132100 X 976 989)(hs:0<=ao X):ExtP X:=by
 have h9:0<=T.sgn (az ts) ts.length (af ts.length (sX X)):=by rw[show af ts.length (sX X)=X from bn _ _];exact hs
 have hm:=hx.nm;exact⟨Gx tw oz hm (by decide) h9,YM tw hn hm (by decide) h9 oz (by decide)⟩
theorem oa{ts:LL}{X x:Et ts}{w v:Nat}(hn:ts.length<=1)(h:Zu 310000 132100 x w v)(hs:w*310000+v*132100<=915000000):Zl (aX ts (sX X)) 915000000 1301000000 (sX x) (aQ X x) 1 0:=Zl.at (qX h.nm oz) hs
theorem um{ts:LL}{X x:Et ts}:ao (aQ X x)=ao x:=by
 show ao (dE (aX ts (sX X)) (sX x))=_;rw[Y1 (l:=sX x) (ek _ _)];show ao (dE ts (sX x))=_;rw[show dE ts (sX x)=x from bn _ _]
theorem A9{ts:LL}{r:Nat}(tw:Tw ts r)(d:Et ts):ao (f9 d)=ao d:=by
 have h:=eG (az ts) ts.length tw.pos
 have h2:sg (az ts) ts.length (qE ((2:Int):Rat):Et ts)=1:=by
  show T.sgn (az ts) ts.length (T.ofQ ts.length ((2:Int):Rat))=1;rw[T.sgn_ofQ];rfl
 have h3:=h.mul (qE ((2:Int):Rat)) d;rw[h2,Int.one_mul]at h3;exact h3
structure SideP{ts:LL}(X d:Et ts)(f v:P2 ts):Prop where
  hd:FP 350 [aZ (aX ts (sX X)),nA (cW ts.length),nA (sX (f9 d))] (.tup [nA (sX (fM X d)),.v .nilIface])
  ht:Con prog 327 [.ptr 1000 0,i64 (-1),nA (sX v.2)] [pP 1000 (bt (aX ts (sX X)))] (nA (sX (qE ((-1:Int):Rat)*aQ X v.2))) [pP 1000 (bt (aX ts (sX X)))]
  hu:Con prog 327 [.ptr 1000 0,i64 (-1),nA (sX (fM X d))] [pP 1000 (bt (aX ts (sX X)))] (nA (sX (qE ((-1:Int):Rat)*fM X d))) [pP 1000 (bt (aX ts (sX X)))]
  a1:Con prog 435 [.ptr 1000 0,aP (sX f.1) (sX f.2),nA (sX (fM X d)),aP (sX (qE ((-1:Int):Rat)*aQ X v.2)) (sX v.1)] [pP 1000 (bt (aX ts (sX X)))] (eH (jE X f v (fM X d)).l) [pP 1000 (bt (aX ts (sX X)))]
  a2:Con prog 435 [.ptr 1000 0,aP (sX f.1) (sX f.2),nA (sX (qE ((-1:Int):Rat)*fM X d)),aP (sX (qE ((-1:Int):Rat)*aQ X v.2)) (sX v.1)] [pP 1000 (bt (aX ts (sX X)))] (eH (jE X f v (qE ((-1:Int):Rat)*fM X d)).l) [pP 1000 (bt (aX ts (sX X)))]
  n1:Zu 915000000 1301000000 (jE X f v (fM X d)).1 9 6/\Zu 915000000 1301000000 (jE X f v (fM X d)).2 9 6
  n2:Zu 915000000 1301000000 (jE X f v (qE ((-1:Int):Rat)*fM X d)).1 10 7/\Zu 915000000 1301000000 (jE X f v (qE ((-1:Int):Rat)*fM X d)).2 10 7
theorem M0{ts:LL}{X d:Et ts}{f v:P2 ts}(hn:ts.length<=1)(E:ExtP X)(hd:Zu 310000 132100 (f9 d) 321 328)(h0:ao (f9 d)≠0)(f1:Zu 310000 132100 f.1 2051 2095)(f2:Zu 310000 132100 f.2 2051 2095)
  (v1:Zu 310000 132100 v.1 80 81) (v2:Zu 310000 132100 v.2 80 81):SideP X d f v:=by
 haveI cy:=E.cy;haveI zr:Zl (aX ts (sX X)) 915000000 1301000000 (cW ts.length) (dE _ (cW ts.length)) 1 0:=Zl.at (yq oz) (by decide);haveI zd:=oa (X:=X) hn hd (by decide);haveI zf1:=oa (X:=X) hn f1 (by decide);haveI zf2:=oa (X:=X) hn f2 (by decide);haveI zv1:=oa (X:=X) hn v1 (by decide);haveI zv2:=oa (X:=X) hn v2 (by decide);haveI:=zf1.zu;haveI:=zf2.zu;haveI:=zv1.zu;haveI:=zv2.zu
 have Ar:=vm (ts:=aX ts (sX X)) (u:=915000000) (k:=1301000000) (a:=cW ts.length) (b:=sX (f9 d)) (j:=ts.length) hd.nm.nl (by rw[e8];omega) hn (by rw[um];exact h0) (by decide);haveI zs:Zu 915000000 1301000000 (fM X d) 6 3:=Ar.2;haveI qm:Qz 915000000 ((-1:Int):Rat) 1:=Qz.int (c:=Cy.cx (c:=cy)) (by decide);haveI zm:Zu 915000000 1301000000 (qE ((-1:Int):Rat)*aQ X v.2) 2 1:=ao7;haveI zu:Zu 915000000 1301000000 (qE ((-1:Int):Rat)*fM X d) 7 4:=ao7;have ht:=DL (ts:=aX ts (sX X)) (u:=915000000) (k:=1301000000) (a:=sX v.2) (-1) oz (by decide);have hu:=DL (ts:=aX ts (sX X)) (u:=915000000) (k:=1301000000) (a:=sX (fM X d)) (-1) oz (by decide)
 have al:∀{c:Et (aX ts (sX X))}{w k:Nat}(zc:Zu 915000000 1301000000 c w k),w<=7->k<=4 ->
   Con prog 435 [.ptr 1000 0,aP (sX f.1) (sX f.2),nA (sX c),aP (sX (qE ((-1:Int):Rat)*aQ X v.2)) (sX v.1)] [pP 1000 (bt (aX ts (sX X)))] (eH (jE X f v c).l) [pP 1000 (bt (aX ts (sX X)))]:=by
  intro c w k zc hw hk;haveI:=zc;have m1:=mF (ts:=aX ts (sX X)) (u:=915000000) (k:=1301000000) (a:=sX c) (b:=sX (qE ((-1:Int):Rat)*aQ X v.2)) oz;have m2:=mF (ts:=aX ts (sX X)) (u:=915000000) (k:=1301000000) (a:=sX c) (b:=sX v.1) oz;have m3:=nT (ts:=aX ts (sX X)) (u:=915000000) (k:=1301000000) (a:=sX f.1) (b:=sX (c*(qE ((-1:Int):Rat)*aQ X v.2))) oz;have m4:=nT (ts:=aX ts (sX X)) (u:=915000000) (k:=1301000000) (a:=sX f.2) (b:=sX (c*aQ X v.1)) oz;exact xp m1 m2 m3 m4
 exact⟨Ar.1,ht,hu,al zs oz oz,al zu oz oz,
  ⟨(ao7:Zu 915000000 1301000000 (aQ X f.1+fM X d*(qE ((-1:Int):Rat)*aQ X v.2)) 9 6),⟨(ao7:Zu 915000000 1301000000 (aQ X f.2+fM X d*aQ X v.1) _ _).nm.mono (by decide)⟩⟩,
  ⟨(ao7:Zu 915000000 1301000000 (aQ X f.1+qE ((-1:Int):Rat)*fM X d*(qE ((-1:Int):Rat)*aQ X v.2)) 10 7),⟨(ao7:Zu 915000000 1301000000 (aQ X f.2+qE ((-1:Int):Rat)*fM X d*aQ X v.1) _ _).nm.mono (by decide)⟩⟩⟩
theorem Z0(h:TR rs 132000)(hc:bB rs=0)(hn:(llq rs).length<=1)[c0:Ct (llq rs) 310000 132100][i1:Zl (llq rs) 310000 132100 a x 40 40][i2:Zl (llq rs) 310000 132100 b y 40 40][i3:Zl (llq rs) 310000 132100 c z 3 0][i4:Zl (llq rs) 310000 132100 a2 x2 40 40][i5:Zl (llq rs) 310000 132100 b2 y2 40 40][i6:Zl (llq rs) 310000 132100 c2 z2 3 0]
  (ha:a=sX x) (hb:b=sX y) (s1:0<=ao z) (s2:0<=ao z2):FP 377 [cJ rs,.agg [nA a,nA b,nA c],.agg [nA a2,nA b2,nA c2]] (.tup [(eP (x,y) (x2,y2) z z2).av,bU (gh (x,y) (x2,y2) z z2)]):=by
 have hz:∀q∈[(a,b,c),(a2,b2,c2)],CiZ rs q:=fun q hq=>by
  simp only[an9,aob,or_false]at hq;rcases hq with rfl |rfl
  ·exact⟨i1.nm.mono oz,i2.nm.mono oz,i3.nm.mono oz,by show 0<=ao (dE (llq rs) c);rw[show dE (llq rs) c=z from i3.eq];exact s1⟩
  ·exact⟨i4.nm.mono oz,i5.nm.mono oz,i6.nm.mono oz,by show 0<=ao (dE (llq rs) c2);rw[show dE (llq rs) c2=z2 from i6.eq];exact s2⟩
 have nF:=abh h hc [(a,b,c),(a2,b2,c2)] hz (by show 2<=100;omega);obtain⟨tw,etw⟩:=dg h hc;haveI cy:Cy (llq rs) 310000 132100:=⟨c0.ex,by omega,by omega,by omega⟩
 have P:=LV c0 i1.zu i2.zu i3.zu i4.zu i5.zu i6.zu;haveI:=P.zd;haveI:=P.zX;haveI:=i3.zu;haveI:=i6.zu;have m1:=vQ (ts:=llq rs) (u:=310000) (k:=132100) (a:=sX (aC (x,y) (x2,y2))) (by decide);have m2:=vQ (ts:=llq rs) (u:=310000) (k:=132100) (a:=sX (bC (x,y) z (x2,y2) z2)) (by decide);have m0:=Con.sA (.cons (.refl _) (.cons (Sub.nil 2 none 0) .nil)) (sw tw []);have w1:=p7 (ts:=llq rs) (u:=310000) (k:=132100) (a:=a2) (b:=a) (by decide);have w2:=p7 (ts:=llq rs) (u:=310000) (k:=132100) (a:=b2) (b:=b) (by decide);haveI q2:Qz 310000 ((2:Int):Rat) 1:=Qz.int (c:=Cy.cx (c:=cy)) (by decide);have t2:=DL (ts:=llq rs) (u:=310000) (k:=132100) (a:=sX (aC (x,y) (x2,y2))) 2 oz (by decide);have k1:=nT (ts:=llq rs) (u:=310000) (k:=132100) (a:=c) (b:=sX (aC (x,y) (x2,y2))) (by decide);have k2:=p7 (ts:=llq rs) (u:=310000) (k:=132100) (a:=sX (z+aC (x,y) (x2,y2))) (b:=c2) (by decide);subst ha;subst hb;refine am func377 ?_;refine gc nF ?_;refine gf ?_ (5,0);refine gW (Wk.o (sl:=[pP 4 (.ptr 4 0),pP 5 (.ptr 5 0),pP 6 (.ptr 6 0),pP 9 (.ptr 29 0)]) (hp:=[pP 4 (.box [nA (sX x),nA (sX y),nA c]),pP 5 (.box [nA a2,nA b2,nA c2]),pP 6 (.box [nS,nS]),pP 29 (cr rs)])) ?_;refine gt (aR (Con.rB 29 rfl rfl rfl rfl (Wl h hc)) (aV rfl rfl rfl) aT rfl rfl) ?_ (6,0);refine gW (Wk.of (sl:=[pP 4 (.ptr 4 0),pP 5 (.ptr 5 0),pP 6 (.ptr 6 0),pP 9 (.ptr 29 0),pP 10 (nA (sX (bC (x,y) z (x2,y2) z2))),pP 11 (nA (sX (aC (x,y) (x2,y2))))]) (hp:=[pP 4 (.box [nA (sX x),nA (sX y),nA c]),pP 5 (.box [nA a2,nA b2,nA c2]),pP 6 (.box [nS,nS]),pP 29 (bt (llq rs))]) bg (.k (.k (.k (.cons rfl (BlkSub.bL (.cons (.of (oV etw)) (.cons (.refl _) .nil)) rfl) .nil))))) ?_
 refine gt (ba (Con.rB 29 rfl rfl rfl rfl m1) (b8 rfl rfl) rfl rfl rfl) ?_;refine gC (fun w=>?_) (fun w=>?_)
 ·have fh:ao (aC (x,y) (x2,y2))=0:=dI w;refine gt (ba (Con.rB 29 rfl rfl rfl rfl (YD (a:=sX x) (b:=sX y) (c:=c) (a2:=a2) (b2:=b2) (c2:=c2) tw)) (aV rfl rfl rfl) rfl rfl rfl) ?_;refine bO ?_;unfold eP gh;rw[aoz fh,aoz fh]
 have fh:¬ao (aC (x,y) (x2,y2))=0:=fq w;refine gt (ba (Con.rB 29 rfl rfl rfl rfl m2) (b8 rfl rfl) rfl rfl rfl) ?_;refine gC (fun w=>?_) (fun w=>?_)
 ·have iH:ao (bC (x,y) z (x2,y2) z2)<0:=ao1 w;refine gt (ba (Con.rB 29 rfl rfl rfl rfl m0) (.cons (.tmp rfl) (.cons (.const _) .nil)) rfl rfl rfl) ?_;refine bO ?_;unfold eP gh;rw[aoy fh,aoy fh,aoz iH];rfl
 have iH:¬ao (bC (x,y) z (x2,y2) z2)<0:=ao2 w;have tk:ao (f9 (aC (x,y) (x2,y2)))≠0:=by rw[A9 tw];exact fh
 obtain⟨fd,fk,f1,f2⟩:=PC hn i1.zu i2.zu i3.zu i6.zu P tk;haveI:=fk;haveI:=P.z1;haveI:=P.z2;have g1:=mF (ts:=llq rs) (u:=310000) (k:=132100) (a:=sX ((z+aC (x,y) (x2,y2)-z2)*iE (f9 (aC (x,y) (x2,y2))))) (b:=sX (iO (x,y) (x2,y2)).1) (by decide);have g2:=mF (ts:=llq rs) (u:=310000) (k:=132100) (a:=sX ((z+aC (x,y) (x2,y2)-z2)*iE (f9 (aC (x,y) (x2,y2))))) (b:=sX (iO (x,y) (x2,y2)).2) (by decide);have g3:=nT (ts:=llq rs) (u:=310000) (k:=132100) (a:=sX x) (b:=sX ((z+aC (x,y) (x2,y2)-z2)*iE (f9 (aC (x,y) (x2,y2)))*(iO (x,y) (x2,y2)).1)) (by decide);have g4:=nT (ts:=llq rs) (u:=310000) (k:=132100) (a:=sX y) (b:=sX ((z+aC (x,y) (x2,y2)-z2)*iE (f9 (aC (x,y) (x2,y2)))*(iO (x,y) (x2,y2)).2)) (by decide);have gal:=xp g1 g2 g3 g4;refine gt (ba (Con.rB 29 rfl rfl rfl rfl w1) (aV rfl rfl rfl) rfl rfl rfl) ?_;refine gt (ba (Con.rB 29 rfl rfl rfl rfl w2) (aV rfl rfl rfl) rfl rfl rfl) ?_;refine gD ?_;refine gt (ba (Con.rB 29 rfl rfl rfl rfl t2) (.cons (.tmp rfl) (.cons (.const _) (dJ rfl))) rfl rfl rfl) ?_;refine gt (ba (Con.rB 29 rfl rfl rfl rfl k1) (aV rfl rfl rfl) rfl rfl rfl) ?_;refine gt (ba (Con.rB 29 rfl rfl rfl rfl k2) (aV rfl rfl rfl) rfl rfl rfl) ?_;refine gt (ba (Con.rB 29 rfl rfl rfl rfl (xK fd)) (aV rfl rfl rfl) rfl rfl rfl) ?_;refine gt (ba (Con.rB 29 rfl rfl rfl rfl gal) (.cons (.tmp rfl) (.cons (.tmp rfl) (.cons (.tmp rfl) (.cons (.tmp rfl) .nil)))) rfl rfl rfl) ?_;refine gD ?_;refine gC (fun w=>?_) (fun w=>?_)
 ·have mj:ao (bC (x,y) z (x2,y2) z2)=0:=dI w;refine gt (ba (Con.rB 29 rfl rfl rfl rfl (sw tw [eH (dT (x,y) (x2,y2) z z2).l])) (b8 rfl rfl) rfl rfl rfl) ?_;refine bO ?_;unfold eP gh;rw[aoy fh,aoy fh,aoy iH,aoz mj];rfl
 have mj:¬ao (bC (x,y) z (x2,y2) z2)=0:=fq w;have E:ExtP (bC (x,y) z (x2,y2) z2):=x9 tw hn P.zX oz;have S:=M0 (X:=bC (x,y) z (x2,y2) z2) (d:=aC (x,y) (x2,y2)) (f:=dT (x,y) (x2,y2) z z2) (v:=iO (x,y) (x2,y2)) hn E P.zt tk f1 f2 P.z1 P.z2;have j5:=LY (a:=sX (bC (x,y) z (x2,y2) z2)) tw P.zX.nm (by rw[cy.lm];decide) (by rw[show af (llq rs).length (sX (bC (x,y) z (x2,y2) z2))=bC (x,y) z (x2,y2) z2 from bn _ _];show 0<=ao (bC (x,y) z (x2,y2) z2);omega);refine gt (aR (Con.rB 29 rfl rfl rfl rfl j5) (b8 rfl rfl) aT rfl rfl) ?_;refine gt (ba (Con.rB 29 rfl rfl rfl rfl (xK S.hd)) (aV rfl rfl rfl) rfl rfl rfl) ?_;refine gt (ba (Con.rB 29 rfl rfl rfl rfl S.ht) (.cons (.tmp rfl) (.cons (.const _) (dJ rfl))) rfl rfl rfl) ?_;refine gD ?_;refine gt (ba (Con.rB 29 rfl rfl rfl rfl S.a1) (.cons (.tmp rfl) (.cons (.tmp rfl) (.cons (.tmp rfl) (.cons (.tmp rfl) .nil)))) rfl rfl rfl) ?_;refine gt (ba (Con.rB 29 rfl rfl rfl rfl S.hu) (.cons (.tmp rfl) (.cons (.const _) (dJ rfl))) rfl rfl rfl) ?_;refine gt (ba (Con.rB 29 rfl rfl rfl rfl S.a2) (.cons (.tmp rfl) (.cons (.tmp rfl) (.cons (.tmp rfl) (.cons (.tmp rfl) .nil)))) rfl rfl rfl) ?_;refine gt (ba (Con.rB 29 rfl rfl rfl rfl (sw E.tw [eH (jE (bC (x,y) z (x2,y2) z2) (dT (x,y) (x2,y2) z z2) (iO (x,y) (x2,y2)) (fM (bC (x,y) z (x2,y2) z2) (aC (x,y) (x2,y2)))).l,eH (jE (bC (x,y) z (x2,y2) z2) (dT (x,y) (x2,y2) z z2) (iO (x,y) (x2,y2)) (qE ((-1:Int):Rat)*fM (bC (x,y) z (x2,y2) z2) (aC (x,y) (x2,y2)))).l])) (b8 rfl rfl) rfl rfl rfl) ?_;refine gD ?_;refine bO ?_;unfold eP gh;rw[aoy fh,aoy fh,aoy iH,aoy mj];rfl
end
section
variable{ts:LL}
abbrev a9(p q:P2 ts):Et ts:=db (aO q p) (aO q p)
abbrev bX(p q c:P2 ts):Et ts:=db (aO q p) (aO c p)
abbrev kr(p q c:P2 ts):Et ts:=k9 (aO q p) (aO c p)
abbrev aW(p q c:P2 ts)(z:Et ts):Et ts:=a9 p q*z-kr p q c*kr p q c
def ip(X:Et ts)(S:Et ts)(k:Et (aX ts (sX X))):Et (aX ts (sX X)):=k*iE (aQ X S)
def mM(X:Et ts)(p v:P2 ts)(k:Et (aX ts (sX X))):P2 (aX ts (sX X)):=dz (aQ X p.1,aQ X p.2) k (aQ X v.1,aQ X v.2)
abbrev bM(X:Et ts):Et (aX ts (sX X)):=dE _ (cW ts.length)
def eM(p q c:P2 ts)(z:Et ts):Mt :=
  if ao (a9 p q)=0 then⟨[],[]⟩else if ao (aW p q c z)=-1 then⟨ts,[]⟩else if ao (aW p q c z)=0 then⟨ts,[(dz p (bX p q c*iE (a9 p q)) (aO q p)).l]⟩
  else⟨aX ts (sX (aW p q c z)),[(mM (aW p q c z) p (aO q p) (ip (aW p q c z) (a9 p q) (aQ (aW p q c z) (bX p q c)+bM (aW p q c z)))).l,
    (mM (aW p q c z) p (aO q p) (ip (aW p q c z) (a9 p q) (aQ (aW p q c z) (bX p q c)-bM (aW p q c z)))).l]⟩
def f7(p q:P2 ts):Nat:=if ao (a9 p q)=0 then 8 else 0
structure LinP(p q c:P2 ts)(z:Et ts):Prop where
  v1:Zu 310000 132100 (aO q p).1 80 81
  v2:Zu 310000 132100 (aO q p).2 80 81
  w1:Zu 310000 132100 (aO c p).1 80 81
  w2:Zu 310000 132100 (aO c p).2 80 81
  zs:Zu 310000 132100 (a9 p q) 320 327
  ze:Zu 310000 132100 (bX p q c) 320 327
  zc:Zu 310000 132100 (kr p q c) 320 327
  zX:Zu 310000 132100 (aW p q c z) 963 984
theorem NX{p q c:P2 ts}{z:Et ts}(c0:Cy ts 310000 132100)(h1:Zu 310000 132100 p.1 40 40)(h2:Zu 310000 132100 p.2 40 40)(h3:Zu 310000 132100 q.1 40 40)(h4:Zu 310000 132100 q.2 40 40)(h5:Zu 310000 132100 c.1 40 40)(h6:Zu 310000 132100 c.2 40 40)(h7:Zu 310000 132100 z 3 0):LinP p q c z:=by
 haveI:=c0;haveI:=h1;haveI:=h2;haveI:=h3;haveI:=h4;haveI:=h5;haveI:=h6;haveI:=h7
 haveI v1:=(ao7:Zu 310000 132100 (q.1-p.1) 80 81)
 haveI v2:=(ao7:Zu 310000 132100 (q.2-p.2) 80 81)
 haveI w1:=(ao7:Zu 310000 132100 (c.1-p.1) 80 81)
 haveI w2:=(ao7:Zu 310000 132100 (c.2-p.2) 80 81)
 haveI zs:Zu 310000 132100 (a9 p q) 320 327:=(ao7:Zu 310000 132100 ((q.1-p.1)*(q.1-p.1)+(q.2-p.2)*(q.2-p.2)) _ _)
 haveI ze:Zu 310000 132100 (bX p q c) 320 327:=(ao7:Zu 310000 132100 ((q.1-p.1)*(c.1-p.1)+(q.2-p.2)*(c.2-p.2)) _ _)
 haveI zc:Zu 310000 132100 (kr p q c) 320 327:=(ao7:Zu 310000 132100 ((q.1-p.1)*(c.2-p.2)-(q.2-p.2)*(c.1-p.1)) _ _)
 exact⟨v1,v2,w1,w2,zs,ze,zc,ao7⟩
structure LinQ(p q c:P2 ts):Prop where
  hd:FP 350 [aZ ts,nA (sX (bX p q c)),nA (sX (a9 p q))] (.tup [nA (sX (bX p q c*iE (a9 p q))),.v .nilIface])
  al:Con prog 435 [.ptr 1000 0,aP (sX p.1) (sX p.2),nA (sX (bX p q c*iE (a9 p q))),aP (sX (aO q p).1) (sX (aO q p).2)] [pP 1000 (bt ts)] (eH (dz p (bX p q c*iE (a9 p q)) (aO q p)).l) [pP 1000 (bt ts)]
  n1:Zu 310000 132100 (dz p (bX p q c*iE (a9 p q)) (aO q p)).1 2040 2088
  n2:Zu 310000 132100 (dz p (bX p q c*iE (a9 p q)) (aO q p)).2 2040 2088
theorem O5{p q c:P2 ts}{z:Et ts}(c0:Cy ts 310000 132100)(hn:ts.length<=1)(h1:Zu 310000 132100 p.1 40 40)(h2:Zu 310000 132100 p.2 40 40)(P:LinP p q c z)(h0:ao (a9 p q)≠0):LinQ p q c:=by
 haveI:=c0;haveI:=h1;haveI:=h2;haveI:=P.v1;haveI:=P.v2;haveI:=P.zs;haveI:=P.ze
 have hd:=vm (ts:=ts) (u:=310000) (k:=132100) (a:=sX (bX p q c)) (b:=sX (a9 p q)) (j:=ts.length) P.zs.nm.nl (anp _) hn h0 (by decide);haveI:=hd.2;have m1:=mF (ts:=ts) (u:=310000) (k:=132100) (a:=sX (bX p q c*iE (a9 p q))) (b:=sX (aO q p).1) (by decide);have m2:=mF (ts:=ts) (u:=310000) (k:=132100) (a:=sX (bX p q c*iE (a9 p q))) (b:=sX (aO q p).2) (by decide);have m3:=nT (ts:=ts) (u:=310000) (k:=132100) (a:=sX p.1) (b:=sX (bX p q c*iE (a9 p q)*(aO q p).1)) (by decide);have m4:=nT (ts:=ts) (u:=310000) (k:=132100) (a:=sX p.2) (b:=sX (bX p q c*iE (a9 p q)*(aO q p).2)) (by decide);exact⟨hd.1,xp m1 m2 m3 m4,(ao7:Zu 310000 132100 (p.1+bX p q c*iE (a9 p q)*(aO q p).1) _ _),(ao7:Zu 310000 132100 (p.2+bX p q c*iE (a9 p q)*(aO q p).2) _ _)⟩
structure LinS(X:Et ts)(S:Et ts)(p v:P2 ts)(k:Et (aX ts (sX X))):Prop where
  hd:FP 350 [aZ (aX ts (sX X)),nA (sX k),nA (sX S)] (.tup [nA (sX (ip X S k)),.v .nilIface])
  al:Con prog 435 [.ptr 1000 0,aP (sX p.1) (sX p.2),nA (sX (ip X S k)),aP (sX v.1) (sX v.2)] [pP 1000 (bt (aX ts (sX X)))] (eH (mM X p v (ip X S k)).l) [pP 1000 (bt (aX ts (sX X)))]
  n1:Zu 915000000 1301000000 (mM X p v (ip X S k)).1 9 6
  n2:Zu 915000000 1301000000 (mM X p v (ip X S k)).2 9 6
theorem AO{X S:Et ts}{p v:P2 ts}{k:Et (aX ts (sX X))}(hn:ts.length<=1)(E:ExtP X)(hs:Zu 310000 132100 S 320 327)(h0:ao S≠0)(p1:Zu 310000 132100 p.1 40 40)(p2:Zu 310000 132100 p.2 40 40)(v1:Zu 310000 132100 v.1 80 81)(v2:Zu 310000 132100 v.2 80 81)
  (hk:Zu 915000000 1301000000 k 2 1):LinS X S p v k:=by
 haveI cy:=E.cy;haveI:=hk;haveI zs:=oa (X:=X) hn hs (by decide);haveI zp1:=oa (X:=X) hn p1 (by decide);haveI zp2:=oa (X:=X) hn p2 (by decide);haveI zv1:=oa (X:=X) hn v1 (by decide);haveI zv2:=oa (X:=X) hn v2 (by decide);haveI:=zp1.zu;haveI:=zp2.zu;haveI:=zv1.zu;haveI:=zv2.zu
 have Ar:=vm (ts:=aX ts (sX X)) (u:=915000000) (k:=1301000000) (a:=sX k) (b:=sX S) (j:=ts.length) hs.nm.nl (by rw[e8];omega) hn (by rw[um];exact h0) (by decide);haveI zk:Zu 915000000 1301000000 (ip X S k) 7 4:=Ar.2;have m1:=mF (ts:=aX ts (sX X)) (u:=915000000) (k:=1301000000) (a:=sX (ip X S k)) (b:=sX v.1) (by decide);have m2:=mF (ts:=aX ts (sX X)) (u:=915000000) (k:=1301000000) (a:=sX (ip X S k)) (b:=sX v.2) (by decide);have m3:=nT (ts:=aX ts (sX X)) (u:=915000000) (k:=1301000000) (a:=sX p.1) (b:=sX (ip X S k*aQ X v.1)) (by decide);have m4:=nT (ts:=aX ts (sX X)) (u:=915000000) (k:=1301000000) (a:=sX p.2) (b:=sX (ip X S k*aQ X v.2)) (by decide);exact⟨Ar.1,xp m1 m2 m3 m4,(ao7:Zu 915000000 1301000000 (aQ X p.1+ip X S k*aQ X v.1) 9 6),(ao7:Zu 915000000 1301000000 (aQ X p.2+ip X S k*aQ X v.2) 9 6)⟩
theorem Gz{X:Et ts}{w v w' v' u k:Nat}(h:Zu u k X w v)(hw:w<=w')(hv:v<=v'):Zu u k X w' v':=⟨h.nm.mono (DI hw hv)⟩
theorem Vl{x:Int}(h:cond (cond (iJ Value.nilIface) (aa .eql x 0) false) (iJ Value.nilIface) false=true):x=0:=by
 cases h9:aa .eql x 0
 ·rw[h9]at h;cases h
 ·exact dI h9
theorem Z3{x:Int}(h:cond (cond (iJ Value.nilIface) (aa .eql x 0) false) (iJ Value.nilIface) false=false):x≠0:=by
 cases h9:aa .eql x 0
 ·exact fq h9
 ·rw[h9]at h;cases h
theorem Yv{x y:AV}{i:Nat}{Q:AV->Prop}(hi:i<2)(hx:Q x)(hy:Q y):∃z,[x,y][i]?=some z/\Q z:=by
 have h:i=0\/i=1:=by omega
 rcases h with rfl |rfl
 ·exact⟨x,rfl,hx⟩
 ·exact⟨y,rfl,hy⟩
theorem MP{r e:Nat}{a b c d:Et ts}(tw:Tw ts r)(hl:lm ts.length=200000000000)(h1:Nm ts.length e (sX a))(h2:Nm ts.length e (sX b))(h3:Nm ts.length e (sX c))(h4:Nm ts.length e (sX d))(he:e+e+kB r ts.length<=100000000000) :
  FP 102 [aZ ts,aP (sX a) (sX b),aP (sX c) (sX d)] (.tup [nA (sX (a*c+b*d)),.v .nilIface]):=by
 have h:=Gl tw h1 h2 h3 h4 (by rw[hl];omega);rw[show af ts.length (sX a)=a from bn _ _,show af ts.length (sX b)=b from bn _ _,show af ts.length (sX c)=c from bn _ _,show af ts.length (sX d)=d from bn _ _]at h;exact h
theorem Yi{r e:Nat}{a b c d:Et ts}(tw:Tw ts r)(hl:lm ts.length=200000000000)(h1:Nm ts.length e (sX a))(h2:Nm ts.length e (sX b))(h3:Nm ts.length e (sX c))(h4:Nm ts.length e (sX d))(he:e+e+kB r ts.length<=100000000000) :
  FP 99 [aZ ts,aP (sX a) (sX b),aP (sX c) (sX d)] (.tup [nA (sX (a*d-b*c)),.v .nilIface]):=by
 have h:=Kv tw h1 h2 h3 h4 (by rw[hl];omega);rw[show af ts.length (sX a)=a from bn _ _,show af ts.length (sX b)=b from bn _ _,show af ts.length (sX c)=c from bn _ _,show af ts.length (sX d)=d from bn _ _]at h;exact h
end
section
variable{rs:List (List Rt)}{c:List Rat}{o p q:P2 (llq rs)}{z:Et (llq rs)}
theorem agw(h:TR rs 132000)(hc:bB rs=0)(hn:(llq rs).length<=1)(c0:Ct (llq rs) 310000 132100)(iG:Zu 310000 132100 o.1 40 40)(iz:Zu 310000 132100 o.2 40 40)(p1:Zu 310000 132100 p.1 40 40)(p2:Zu 310000 132100 p.2 40 40)(q1:Zu 310000 132100 q.1 40 40)(q2:Zu 310000 132100 q.2 40 40)
  [i3:Zl (llq rs) 310000 132100 c z 3 0] (s1:0<=ao z):FP 379 [cJ rs,.agg [nA (sX o.1),nA (sX o.2),nA c],eH p.l,eH q.l] (.tup [(eM p q o z).av,bU (f7 p q)]):=by
 obtain⟨tw,etw⟩:=dg h hc;haveI cy:Cy (llq rs) 310000 132100:=⟨c0.ex,by obtain⟨_,h9,_⟩:=c0;exact h9,by obtain⟨_,_,h9,_⟩:=c0;exact h9,by omega⟩
 have dW:=cy.lm;have nF:=tZ rs 132000 h;rw[hc]at nF;have P:=NX cy p1 p2 q1 q2 iG iz i3.zu;haveI:=iG;haveI:=iz;haveI:=p1;haveI:=p2;haveI:=q1;haveI:=q2;haveI:=P.v1;haveI:=P.v2;haveI:=P.w1;haveI:=P.w2;haveI:=P.zs;haveI:=P.ze;haveI:=P.zc;haveI:=P.zX
 have hci:=PP (e:=40*310000+40*132100) h hc iG.nm iz.nm (i3.nm.mono (by decide)) (by rw[dW];decide)
 have hra:=NU h hc [(sX o.1,sX o.2,c)] (fun y hy=>by
  rw[alr.1 hy];exact⟨iG.nm.mono (by decide),iz.nm.mono (by decide),i3.nm.mono (by decide),by show 0<=ao (dE (llq rs) c);rw[show dE (llq rs) c=z from i3.eq];exact s1⟩) (by show 1<=100;omega)
 have a1:=p7 (ts:=llq rs) (u:=310000) (k:=132100) (a:=sX q.1) (b:=sX p.1) (by decide);have a2:=p7 (ts:=llq rs) (u:=310000) (k:=132100) (a:=sX q.2) (b:=sX p.2) (by decide);have a3:=p7 (ts:=llq rs) (u:=310000) (k:=132100) (a:=sX o.1) (b:=sX p.1) (by decide);have a4:=p7 (ts:=llq rs) (u:=310000) (k:=132100) (a:=sX o.2) (b:=sX p.2) (by decide);have lA:80*310000+81*132100+(80*310000+81*132100)+kB 132000 (llq rs).length<=100000000000:=by have:=Gh hn;omega
 have b1:=MP tw dW P.v1.nm P.v2.nm P.v1.nm P.v2.nm lA;have b2:=MP tw dW P.v1.nm P.v2.nm P.w1.nm P.w2.nm lA;have b3:=Yi tw dW P.v1.nm P.v2.nm P.w1.nm P.w2.nm lA;rw[<- etw]at b1 b2 b3;have m1:=vQ (ts:=llq rs) (u:=310000) (k:=132100) (a:=sX (a9 p q)) (by decide);have m2:=mF (ts:=llq rs) (u:=310000) (k:=132100) (a:=sX (a9 p q)) (b:=c) (by decide);have m3:=mF (ts:=llq rs) (u:=310000) (k:=132100) (a:=sX (kr p q o)) (b:=sX (kr p q o)) (by decide);haveI zz:=i3.zu;have m4:=p7 (ts:=llq rs) (u:=310000) (k:=132100) (a:=sX (a9 p q*z)) (b:=sX (kr p q o*kr p q o)) (by decide);have m5:=vQ (ts:=llq rs) (u:=310000) (k:=132100) (a:=sX (aW p q o z)) (by decide);have m0:=Con.sA (.cons (.refl _) (.cons (Sub.nil 2 none 0) .nil)) (sw tw []);refine am func379 ?_;refine gc nF ?_;refine gf ?_;refine gc hci ?_;refine gf ?_;refine ge rfl ?_;refine aY [4,5,6,7,8,39,40] [4,5,6,7,8] (fun(i:Nat)=>[pP 41 (i64 i)]) (fun _=>[]) (fun i=>i<=2) (fun i=>2-i) 0 (ans _) ?_;rintro i hi K1 J1;refine gC (fun t=>?_) (fun t=>?_)
 ·have ah:i<2:=bf (b:=2) t;obtain⟨zz2,kF,u,v,hu,hv,rfl⟩:=Yv (x:=eH p.l) (y:=eH q.l) (Q:=fun w=>∃u v,Nm (llq rs).length (40*310000+40*132100) u/\Nm (llq rs).length (40*310000+40*132100) v/\w=aP u v) ah ⟨_,_,p1.nm,p2.nm,rfl⟩ ⟨_,_,q1.nm,q2.nm,rfl⟩;refine gi kF ?_;refine gc (Mr h hc hu hv (by rw[dW];decide)) ?_;refine gf ?_;refine ga aU ?_;exact aS J1 (i+1) ah
 refine gc hra ?_;refine gf ?_ (18,0);refine gW (Wk.of (sl:=[pP 4 (.ptr 4 0),pP 5 (.ptr 5 0),pP 6 (.ptr 6 0),pP 7 (.ptr 7 0),pP 8 (.ptr 8 0),pP 16 (.ptr 63 0)]) (hp:=[pP 4 (.box [.lst 1 (rs.map nR)]),pP 5 (.box [nA (sX o.1),nA (sX o.2),nA c]),pP 6 (.box [nA (sX p.1),nA (sX p.2)]),pP 7 (.box [nA (sX q.1),nA (sX q.2)]),pP 8 (.box [nS,nS]),pP 63 (bt (llq rs))]) bg (.k (.k (.k (.k (.k (.cons rfl (BlkSub.bL (.cons (.of (oV etw)) (.cons (.refl _) .nil)) rfl) .nil))))))) ?_
 refine gt (ba (Con.rB 63 rfl rfl rfl rfl a1) (aV rfl rfl rfl) rfl rfl rfl) ?_;refine gt (ba (Con.rB 63 rfl rfl rfl rfl a2) (aV rfl rfl rfl) rfl rfl rfl) ?_;refine gD ?_;refine gt (ba (Con.rB 63 rfl rfl rfl rfl a3) (aV rfl rfl rfl) rfl rfl rfl) ?_;refine gt (ba (Con.rB 63 rfl rfl rfl rfl a4) (aV rfl rfl rfl) rfl rfl rfl) ?_;refine gD ?_;refine gc b1 ?_;refine gt (ba (Con.rB 63 rfl rfl rfl rfl (tx _ _)) (aV rfl rfl rfl) rfl rfl rfl) ?_;refine gu (gy rfl rfl rfl (fun h=>ba (Con.rB 63 rfl rfl rfl rfl m1) (.cons (.opt rfl (o1 h)) (.cons (.opt rfl (o1 h)) .nil)) rfl rfl rfl)) ?_;refine gC (fun t=>?_) (fun t=>?_)
 ·have h0:ao (a9 p q)=0:=Vl t;refine gR ?_;exact fa (by unfold eM f7;rw[aoz h0,aoz h0];exact Sub.tup (.cons Pf (.cons (.refl _) .nil)))
 have h0:ao (a9 p q)≠0:=Z3 t;have Q:=O5 cy hn p1 p2 P h0;refine gc b2 ?_;refine gt (ba (Con.rB 63 rfl rfl rfl rfl (tx _ _)) (aV rfl rfl rfl) rfl rfl rfl) ?_;refine gc b3 ?_;refine gt (ba (Con.rB 63 rfl rfl rfl rfl (tx _ _)) (aV rfl rfl rfl) rfl rfl rfl) ?_;refine gt (ba (Con.rB 63 rfl rfl rfl rfl m2) (aV rfl rfl rfl) rfl rfl rfl) ?_;refine gt (ba (Con.rB 63 rfl rfl rfl rfl m3) (aV rfl rfl rfl) rfl rfl rfl) ?_;refine gt (ba (Con.rB 63 rfl rfl rfl rfl m4) (aV rfl rfl rfl) rfl rfl rfl) ?_;refine gt (ba (Con.rB 63 rfl rfl rfl rfl m5) (b8 rfl rfl) rfl rfl rfl) ?_;refine gC (fun t=>?_) (fun t=>?_)
 ·have h1:ao (aW p q o z)=-1:=dI t;refine gt (ba (Con.rB 63 rfl rfl rfl rfl m0) (.cons (.tmp rfl) (.cons (.const _) .nil)) rfl rfl rfl) ?_;refine bO ?_;unfold eM f7;rw[aoy h0,aoy h0,aoz h1];rfl
 have h1:¬ao (aW p q o z)=-1:=fq t;refine gC (fun t=>?_) (fun t=>?_)
 ·have h2:ao (aW p q o z)=0:=dI t;refine gt (ba (Con.rB 63 rfl rfl rfl rfl (xK Q.hd)) (aV rfl rfl rfl) rfl rfl rfl) ?_;refine gt (ba (Con.rB 63 rfl rfl rfl rfl Q.al) (.cons (.tmp rfl) (.cons (.tmp rfl) (.cons (.tmp rfl) (.cons (.tmp rfl) .nil)))) rfl rfl rfl) ?_;refine gt (ba (Con.rB 63 rfl rfl rfl rfl (sw tw [eH (dz p (bX p q o*iE (a9 p q)) (aO q p)).l])) (b8 rfl rfl) rfl rfl rfl) ?_;refine gD ?_;refine bO ?_;unfold eM f7;rw[aoy h0,aoy h0,aoy h1,aoz h2];rfl
 have h2:¬ao (aW p q o z)=0:=fq t
 have jB:0<=ao (aW p q o z):=by
  have:=T.sgn_cases (az (llq rs)) (llq rs).length (aW p q o z);have e:ao (aW p q o z)=T.sgn (az (llq rs)) (llq rs).length (aW p q o z):=rfl;omega
 have E:ExtP (aW p q o z):=x9 tw hn (Gz P.zX oz oz) jB;haveI ce:=E.cy;haveI zr:Zl (aX (llq rs) (sX (aW p q o z))) 915000000 1301000000 (cW (llq rs).length) (dE _ (cW (llq rs).length)) 1 0:=Zl.at (yq oz) (by decide);haveI ze':=oa (X:=aW p q o z) hn P.ze (by decide);haveI:=zr.zu;haveI:=ze'.zu
 have e1:=nT (ts:=aX (llq rs) (sX (aW p q o z))) (u:=915000000) (k:=1301000000) (a:=sX (bX p q o)) (b:=cW (llq rs).length) (by decide);have e2:=p7 (ts:=aX (llq rs) (sX (aW p q o z))) (u:=915000000) (k:=1301000000) (a:=sX (bX p q o)) (b:=cW (llq rs).length) (by decide);have S1:=AO (p:=p) (v:=aO q p) hn E P.zs h0 p1 p2 P.v1 P.v2 (k:=aQ (aW p q o z) (bX p q o)+bM (aW p q o z)) ao7;have S2:=AO (p:=p) (v:=aO q p) hn E P.zs h0 p1 p2 P.v1 P.v2 (k:=aQ (aW p q o z) (bX p q o)-bM (aW p q o z)) ao7;have j5:=LY (a:=sX (aW p q o z)) tw P.zX.nm (by rw[dW];decide) (by rw[show af (llq rs).length (sX (aW p q o z))=aW p q o z from bn _ _];exact jB);refine gt (aR (Con.rB 63 rfl rfl rfl rfl j5) (b8 rfl rfl) aT rfl rfl) ?_;refine gt (ba (Con.rB 63 rfl rfl rfl rfl e1) (aV rfl rfl rfl) rfl rfl rfl) ?_;refine gt (ba (Con.rB 63 rfl rfl rfl rfl (xK S1.hd)) (aV rfl rfl rfl) rfl rfl rfl) ?_;refine gt (ba (Con.rB 63 rfl rfl rfl rfl S1.al) (.cons (.tmp rfl) (.cons (.tmp rfl) (.cons (.tmp rfl) (.cons (.tmp rfl) .nil)))) rfl rfl rfl) ?_;refine gt (ba (Con.rB 63 rfl rfl rfl rfl e2) (aV rfl rfl rfl) rfl rfl rfl) ?_;refine gt (ba (Con.rB 63 rfl rfl rfl rfl (xK S2.hd)) (aV rfl rfl rfl) rfl rfl rfl) ?_;refine gt (ba (Con.rB 63 rfl rfl rfl rfl S2.al) (.cons (.tmp rfl) (.cons (.tmp rfl) (.cons (.tmp rfl) (.cons (.tmp rfl) .nil)))) rfl rfl rfl) ?_;refine gt (ba (Con.rB 63 rfl rfl rfl rfl (sw E.tw [eH (mM (aW p q o z) p (aO q p) (ip (aW p q o z) (a9 p q) (aQ (aW p q o z) (bX p q o)+bM (aW p q o z)))).l,eH (mM (aW p q o z) p (aO q p) (ip (aW p q o z) (a9 p q) (aQ (aW p q o z) (bX p q o)-bM (aW p q o z)))).l])) (b8 rfl rfl) rfl rfl rfl) ?_;refine gD ?_;refine bO ?_;unfold eM f7;rw[aoy h0,aoy h0,aoy h1,aoy h2];rfl
end
theorem T.inv_congr{r r':(k:Nat)->T k}:∀(k:Nat),(∀j,j<k->r j=r' j)->∀x,T.inv r k x=T.inv r' k x
 |0,_,x=>rfl
 |k+1,h,x=>by
  have ih:=T.inv_congr k (fun j hj=>h j oz);have hm:=T.mul_congr k (fun j hj=>h j oz);have hs:=T.sgn_congr k (fun j hj=>h j oz)
  have hn:T.norm r k x=T.norm r' k x:=by
   unfold T.norm;rw[h k oz];simp only[hm]
  conv=>lhs;unfold T.inv
  conv=>rhs;unfold T.inv
  simp only[ih,hm,hs,hn]
def lV{n N:Nat}(x:T n):T N:=af N (sh n x)
section
variable{n N:Nat}{r r':(k:Nat)->T k}
theorem nW(x:T n):(lV x:T (n+1))=(x,T.zero n):=by
 unfold lV;rw[jy (ek n x).le,bn]
theorem agb(hN:N=n+1)(h:∀j,j<n->r j=r' j)(x y:T n):(lV (T.mul r n x y):T N)=T.mul r' N (lV x) (lV y):=by
 subst hN;rw[nW,nW,nW,mul_low,T.zero_mul,T.mul_congr n h]
theorem Yy(hN:N=n+1)(x y:T n):(lV (T.add n x y):T N)=T.add N (lV x) (lV y):=by
 subst hN;rw[nW,nW,nW];show(T.add n x y,T.zero n)=(T.add n x y,T.add n (T.zero n) (T.zero n));rw[T.zero_add]
theorem Xm(hN:N=n+1)(x:T n):(lV (T.neg n x):T N)=T.neg N (lV x):=by
 subst hN;rw[nW,nW];show(T.neg n x,T.zero n)=(T.neg n x,T.neg n (T.zero n));rw[T.neg_zero]
theorem Td(hN:N=n+1)(q:Rat):(lV (T.ofQ n q):T N)=T.ofQ N q:=by
 subst hN;rw[nW];rfl
theorem ahv(hN:N=n+1)(h:∀j,j<n->r j=r' j)(x:T n):(lV (T.inv r n x):T N)=T.inv r' N (lV x):=by
 subst hN;rw[nW,nW,T.inv_low,T.inv_congr n h]
end
section
variable{ts:LL}(X:Et ts)
theorem Lp{l:List Rat}(j:Nat)(hj:j<ts.length):az ts j=az (aX ts l) j:=(A5 hj).symm
theorem io(x y:Et ts):aQ X (x*y)=aQ X x*aQ X y:=agb (e8 _ _) Lp x y
theorem v5(x y:Et ts):aQ X (x+y)=aQ X x+aQ X y:=Yy (e8 _ _) x y
theorem M7(x:Et ts):aQ X (-x)=-aQ X x:=Xm (e8 _ _) x
theorem sU(q:Rat):aQ X (qE q)=qE q:=Td (e8 _ _) q
theorem tD(x:Et ts):aQ X (iE x)=iE (aQ X x):=ahv (e8 _ _) Lp x
end
theorem qk{ts:LL}:(qE ((1:Int):Rat):Et ts)=1:=rfl
theorem ID{ts:LL}:(qE ((-1:Int):Rat):Et ts)=-1:=by
 have h:=(T.ofQ_neg ts.length ((1:Nat):Rat))
 rw[show(((-1:Int):Rat))=-((1:Nat):Rat) by rfl];exact h
theorem G9{ts:LL}(d:Et ts):f9 d=d+d:=by
 have h:(qE ((2:Int):Rat):Et ts)=1+1:=by
  have h:=T.ofQ_add ts.length ((1:Nat):Rat) ((1:Nat):Rat);rw[show(((2:Int):Rat))=((1:Nat):Rat)+((1:Nat):Rat) by decide +kernel];exact h
 unfold f9;rw[h];grind
theorem Ef{ts:LL}:(qE 0:Et ts)=0:=rfl
section
variable{ts:LL}
theorem Cp(p q:P2 ts)(z z2:Et ts):dT p q z z2=dz p ((qE ((1:Int):Rat)*iE (aC p q+aC p q))*(z+aC p q-z2)) (aO q p):=by
 unfold dT iO dz;rw[G9,qk];refine Prod.ext ?_ ?_
 ·show p.1+(z+aC p q-z2)*iE (aC p q+aC p q)*(q.1-p.1)=p.1+1*iE (aC p q+aC p q)*(z+aC p q-z2)*(q.1-p.1);grind
 ·show p.2+(z+aC p q-z2)*iE (aC p q+aC p q)*(q.2-p.2)=p.2+1*iE (aC p q+aC p q)*(z+aC p q-z2)*(q.2-p.2);grind
def jL(p q:P2 ts):P2 ts:=(qE ((1:Int):Rat)*iE (aC p q+aC p q)*(0-(aO q p).2),qE ((1:Int):Rat)*iE (aC p q+aC p q)*(aO q p).1)
theorem xX(X:Et ts)(f p q:P2 ts):jE X f (iO p q) (fM X (aC p q))=(aQ X f.1+bM X*aQ X (jL p q).1,aQ X f.2+bM X*aQ X (jL p q).2):=by
 unfold jE dz fM jL;rw[G9,ID];refine Prod.ext ?_ ?_
 ·show aQ X f.1+bM X*iE (aQ X (aC p q+aC p q))*(-1*aQ X (q.2-p.2))=aQ X f.1+bM X*aQ X (qE ((1:Int):Rat)*iE (aC p q+aC p q)*(0-(q.2-p.2)));rw[io,io,sU,tD,show(0:Et ts)-(q.2-p.2)=-(q.2-p.2) by grind,M7,qk];grind
 ·show aQ X f.2+bM X*iE (aQ X (aC p q+aC p q))*aQ X (q.1-p.1)=aQ X f.2+bM X*aQ X (qE ((1:Int):Rat)*iE (aC p q+aC p q)*(q.1-p.1));rw[io,io,sU,tD,qk];grind
theorem BS(X:Et ts)(f p q:P2 ts):jE X f (iO p q) (qE ((-1:Int):Rat)*fM X (aC p q))=(aQ X f.1-bM X*aQ X (jL p q).1,aQ X f.2-bM X*aQ X (jL p q).2):=by
 have h:=xX X f p q;have h1:=ao6 Prod.fst h;have h2:=ao6 Prod.snd h;unfold jE dz at h1 h2 ⊢;rw[ID]at h1 h2 ⊢;dsimp only at h1 h2;refine Prod.ext ?_ ?_
 ·dsimp only;grind
 ·dsimp only;grind
def ji(p q:P2 ts):P2 ts:=(qE ((1:Int):Rat)*iE (a9 p q)*(aO q p).1,qE ((1:Int):Rat)*iE (a9 p q)*(aO q p).2)
theorem AU(X:Et ts)(p q c:P2 ts):mM X p (aO q p) (ip X (a9 p q) (aQ X (bX p q c)+bM X)) =
  (aQ X (dz p (bX p q c*iE (a9 p q)) (aO q p)).1+bM X*aQ X (ji p q).1,aQ X (dz p (bX p q c*iE (a9 p q)) (aO q p)).2+bM X*aQ X (ji p q).2):=by
 unfold mM ip ji dz;refine Prod.ext ?_ ?_
 ·dsimp only;rw[v5,io,io,io,io,tD,sU,qk];grind
 ·dsimp only;rw[v5,io,io,io,io,tD,sU,qk];grind
theorem B3(X:Et ts)(p q c:P2 ts):mM X p (aO q p) (ip X (a9 p q) (aQ X (bX p q c)-bM X)) =
  (aQ X (dz p (bX p q c*iE (a9 p q)) (aO q p)).1-bM X*aQ X (ji p q).1,aQ X (dz p (bX p q c*iE (a9 p q)) (aO q p)).2-bM X*aQ X (ji p q).2):=by
 unfold mM ip ji dz;refine Prod.ext ?_ ?_
 ·dsimp only;rw[v5,io,io,io,io,tD,sU,qk];grind
 ·dsimp only;rw[v5,io,io,io,io,tD,sU,qk];grind
theorem CR(r:(k:Nat)->T k):∀(n:Nat)(q:Rat),T.inv r n (T.ofQ n q)=T.ofQ n (1/q)
 |0,q=>rfl
 |n+1,q=>by
  show T.inv r (n+1) (T.ofQ n q,T.zero n)=(T.ofQ n (1/q),T.zero n);rw[T.inv_low,CR r n q]
theorem En:(iE (qE 1):Et ts)=1:=by
 show T.inv (az ts) ts.length (T.ofQ ts.length 1)=_;rw[CR,show(1:Rat)/1=((1:Nat):Rat) by decide +kernel];rfl
end
open Lean.Grind (CommRing)
section
variable{r:(k:Nat)->T k}
def gS{n:Nat}(x:E r n):E r n:=T.inv r n x
theorem yN{n:Nat}(u:E r n)(h:Sg (E r n) (sg r n)):sg r (n+1) (cc u 0)=sg r n u:=by
 rw[oD,h.zero];unfold T.sgn3;split
 ·rfl
 ·rw[aoz (.inr rfl)]
theorem ZV{n:Nat}{x y:E r n}(hz:T.isZ n y=true):gS (cc x y:E r (n+1))=cc (gS x) 0:=by
 have e:y=T.zero n:=(T.isZ_iff n y).1 hz;subst e;have h:=T.inv_low r n x;show T.inv r (n+1) (x,T.zero n)=_;rw[h,E.zero_def];rfl
theorem af2{n:Nat}{x y:E r n}(hz:T.isZ n y=false)(h0:sg r n (a6 x y)=0):gS (cc x y:E r (n+1))=cc (gS (x+x)) 0:=by
 have h:=LO r (i:=n) (x:=((x,y):T n×T n)) hz h0;show T.inv r (n+1) (x,y)=_;rw[h,E.zero_def];rfl
theorem Sh{n:Nat}{x y:E r n}(hz:T.isZ n y=false)(h0:sg r n (a6 x y)≠0):gS (cc x y:E r (n+1))=cc (x*gS (a6 x y)) (-y*gS (a6 x y)):=by
 have h:=Lb r (i:=n) (x:=((x,y):T n×T n)) hz h0;exact h
theorem ahy{q:Rat}(hq:b9 q≠0):b9 ((1:Rat)/q*q+-(((1:Nat):Rat)))=0:=by
 have hq:q≠0:=by
  rintro rfl;exact hq (by decide +kernel)
 have e:(1:Rat)/q*q+-(((1:Nat):Rat))=0:=by
  rw[show(((1:Nat):Rat))=1 from rfl];grind
 rw[e];decide +kernel
theorem JY(r:(k:Nat)->T k):∀(n:Nat),ik r n->∀x:E r n,sg r n x≠0->sg r n (gS x*x-1)=0
 |0,hp,x,hx=>ahy (q:=x) hx
 |n+1,hp,z,hz=>by
  have hp':ik r n:=fun j hj=>hp j oz
  have h:=eG r n hp';have H:=eG r (n+1) hp;have ih:=JY r n hp';obtain⟨x,y,rfl⟩:=nV z;cases DD:T.isZ n y
  ·by_cases h0:sg r n (a6 x y)=0
   ·rw[af2 DD h0];have h2:=J0 h (hp n oz) hz h0;have e1:=ih _ h2
    have c:sg r (n+1) (cc x (-y))=0:=by
     have m:=H.mul (cc x y) (cc x (-y))
     have e:(cc x y:E r (n+1))*cc x (-y)=cc (a6 x y) 0:=by
      rw[oL];unfold a6;congr 1 <;> grind
     rw[e,yN _ h,h0]at m;rcases Int.mul_eq_zero.1 m.symm with g |g
     ·exact ao5 g hz
     ·exact g
    have e2:cc (gS (x+x)) 0*cc x y-(1:E r (n+1))=-(cc (gS (x+x)) 0*cc x (-y))+cc (gS (x+x)*(x+x)-1) 0:=by
     rw[AC,show ∀a b:E r (n+1),a-b=a+-b from fun a b=>by grind,oL,oL,xL,xL,tX,tX];congr 1 <;> grind
    rw[e2];have e3:sg r (n+1) (-(cc (gS (x+x)) 0*cc x (-y)))=0:=by rw[H.neg,H.mul,c];simp
    rw[H.zadd e3,yN _ h];exact e1
   ·rw[Sh DD h0];have e1:=ih _ h0
    have e2:cc (x*gS (a6 x y)) (-y*gS (a6 x y))*cc x y-(1:E r (n+1))=cc (gS (a6 x y)*a6 x y-1) 0:=by
     rw[AC,show ∀a b:E r (n+1),a-b=a+-b from fun a b=>by grind,oL,xL,tX];generalize gS (a6 x y)=i;unfold a6;congr 1 <;> grind
    rw[e2,yN _ h];exact e1
  ·rw[ZV DD];have e:y=0:=by rw[(T.isZ_iff n y).1 DD,E.zero_def]
   subst e;rw[yN _ h]at hz;have e1:=ih _ hz
   have e2:cc (gS x) 0*cc x 0-(1:E r (n+1))=cc (gS x*x-1) 0:=by
    rw[AC,show ∀a b:E r (n+1),a-b=a+-b from fun a b=>by grind,oL,xL,tX];congr 1 <;> grind
   rw[e2,yN _ h];exact e1
end
section
variable{r:(k:Nat)->T k}{n:Nat}
def zS(h:ik r n):Setoid (E r n) where
  r x y:=sg r n (x-y)=0
  iseqv:=by
    have H:=eG r n h;refine⟨fun x=>?_,fun {x y} e=>?_,fun {x y z} e f=>?_⟩
    · rw[show x-x=0 by grind];exact H.zero
    · rw[show y-x=-(x-y) by grind,H.neg,e];rfl
    · rw[show x-z=(x-y)+(y-z) by grind,H.zadd e];exact f
def Zq(h:ik r n):Type:=Quotient (zS h)
def ae(h:ik r n)(x:E r n):Zq h:=Quotient.mk (zS h) x
theorem ig(h:ik r n){x y:E r n}:ae h x=ae h y↔sg r n (x-y)=0 :=
 ⟨fun e=>Quotient.exact (s:=zS h) e,fun e=>Quotient.sound (s:=zS h) e⟩
instance (h:ik r n):Add (Zq h):=⟨Quotient.lift₂ (fun x y=>ae h (x+y)) (by
  intro a b c d e f;have H:=eG r n h;refine(ig h).2 ?_;rw[show a+b-(c+d)=(a-c)+(b-d) by grind,H.zadd (show sg r n (a-c)=0 from e)];exact f)⟩
instance (h:ik r n):Mul (Zq h):=⟨Quotient.lift₂ (fun x y=>ae h (x*y)) (by
  intro a b c d e f;have H:=eG r n h;refine(ig h).2 ?_;have e':sg r n (a-c)=0:=e;have f':sg r n (b-d)=0:=f;rw[show a*b-c*d=(a-c)*b+c*(b-d) by grind,H.zadd (by rw[H.mul,e'];simp),H.mul,f'];simp)⟩
instance (h:ik r n):Neg (Zq h):=⟨Quotient.lift (fun x=>ae h (-x)) (by
  intro a c e;have H:=eG r n h;refine(ig h).2 ?_;have e':sg r n (a-c)=0:=e;rw[show -a - -c=-(a-c) by grind,H.neg,e'];rfl)⟩
instance (h:ik r n):_root_.Sub (Zq h):=⟨fun x y=>x+-y⟩
instance (h:ik r n)(c:Nat):OfNat (Zq h) c:=⟨ae h (OfNat.ofNat c)⟩
instance (h:ik r n):NatCast (Zq h):=⟨fun c=>ae h (c:E r n)⟩
instance (h:ik r n):IntCast (Zq h):=⟨fun c=>ae h (c:E r n)⟩
instance (h:ik r n):SMul Nat (Zq h):=⟨fun c x=>ae h (c:E r n)*x⟩
instance (h:ik r n):SMul Int (Zq h):=⟨fun c x=>ae h (c:E r n)*x⟩
def Zq.pow{h:ik r n}(x:Zq h):Nat->Zq h
  |0=>ae h 1
  |c+1=>Zq.pow x c*x
instance (h:ik r n):HPow (Zq h) Nat (Zq h):=⟨Zq.pow⟩
variable(h:ik r n)
theorem di(x y:E r n):ae h (x+y)=ae h x+ae h y:=rfl
theorem bm(x y:E r n):ae h (x*y)=ae h x*ae h y:=rfl
theorem JR(x:E r n):ae h (-x)=-ae h x:=rfl
theorem bE(x y:E r n):ae h (x-y)=ae h x-ae h y:=by
 rw[show x-y=x+-y by grind];rfl
theorem f0(a:Zq h):∃x,a=ae h x:=Quotient.ind (motive:=fun a=>∃x,a=ae h x) (fun x=>⟨x,rfl⟩) a
instance zRing:CommRing (Zq h) where
  add_zero a:=by
    obtain⟨x,rfl⟩:=f0 h a;exact ao6 (ae h) (show x+0=x by grind)
  add_comm a b:=by
    obtain⟨x,rfl⟩:=f0 h a;obtain⟨y,rfl⟩:=f0 h b;exact ao6 (ae h) (show x+y=y+x by grind)
  add_assoc a b c:=by
    obtain⟨x,rfl⟩:=f0 h a;obtain⟨y,rfl⟩:=f0 h b;obtain⟨z,rfl⟩:=f0 h c;exact ao6 (ae h) (show x+y+z=x+(y+z) by grind)
  mul_assoc a b c:=by
    obtain⟨x,rfl⟩:=f0 h a;obtain⟨y,rfl⟩:=f0 h b;obtain⟨z,rfl⟩:=f0 h c;exact ao6 (ae h) (show x*y*z=x*(y*z) by grind)
  mul_one a:=by
    obtain⟨x,rfl⟩:=f0 h a;exact ao6 (ae h) (show x*1=x by grind)
  one_mul a:=by
    obtain⟨x,rfl⟩:=f0 h a;exact ao6 (ae h) (show 1*x=x by grind)
  left_distrib a b c:=by
    obtain⟨x,rfl⟩:=f0 h a;obtain⟨y,rfl⟩:=f0 h b;obtain⟨z,rfl⟩:=f0 h c;exact ao6 (ae h) (show x*(y+z)=x*y+x*z by grind)
  right_distrib a b c:=by
    obtain⟨x,rfl⟩:=f0 h a;obtain⟨y,rfl⟩:=f0 h b;obtain⟨z,rfl⟩:=f0 h c;exact ao6 (ae h) (show(x+y)*z=x*z+y*z by grind)
  zero_mul a:=by
    obtain⟨x,rfl⟩:=f0 h a;exact ao6 (ae h) (show 0*x=0 by grind)
  mul_zero a:=by
    obtain⟨x,rfl⟩:=f0 h a;exact ao6 (ae h) (show x*0=0 by grind)
  pow_zero a:=rfl
  pow_succ a c:=rfl
  ofNat_succ c:=ao6 (ae h) (Lean.Grind.Semiring.ofNat_succ (α:=E r n) c)
  ofNat_eq_natCast c:=ao6 (ae h) (Lean.Grind.Semiring.ofNat_eq_natCast (α:=E r n) c)
  nsmul_eq_natCast_mul c a:=rfl
  neg_add_cancel a:=by
    obtain⟨x,rfl⟩:=f0 h a;exact ao6 (ae h) (show -x+x=0 by grind)
  sub_eq_add_neg a b:=rfl
  neg_zsmul i a:=by
    obtain⟨x,rfl⟩:=f0 h a
    exact ao6 (ae h) (show((-i:Int):E r n)*x=-((i:E r n)*x) by
      rw[Lean.Grind.Ring.intCast_neg];grind)
  zsmul_natCast_eq_nsmul c a:=rfl
  intCast_ofNat c:=ao6 (ae h) (Lean.Grind.Ring.intCast_ofNat (α:=E r n) c)
  intCast_neg i:=ao6 (ae h) (Lean.Grind.Ring.intCast_neg (α:=E r n) i)
  mul_comm a b:=by
    obtain⟨x,rfl⟩:=f0 h a;obtain⟨y,rfl⟩:=f0 h b;exact ao6 (ae h) (show x*y=y*x by grind)
theorem fV{x:E r n}:ae h x=0↔sg r n x=0:=by
 have e:=ig h (x:=x) (y:=0);rw[show x-0=x by grind]at e;exact e
theorem tO{x:E r n}(hx:sg r n x≠0):ae h (gS x)*ae h x=1:=by
 have e:=(ig h (x:=gS x*x) (y:=1)).2 (JY r n h x hx);exact e
theorem Oj:ae h (1:E r n)=1:=rfl
end
example {r:(k:Nat)->T k} {n:Nat} (h:ik r n) (a b c:Zq h) (e:a*b=1) (f:c*a=2):c=2*b:=by grind
theorem adw(o:Option Nat):aa .geq (sT o) 0=o.isSome:=by
 cases o with
 |none=>rfl
 |some i=>exact ao3 (by show(i:Int)>=0;omega)
theorem U5(bs:List (Rat×Rat))(hl:bs.length<=281474976710656)(f:FuncId)(pre caps:List AV)(ok:Nat->Bool)
  (hf:∀(i:Nat)(b:Rat×Rat),bs[i]?=some b->(∀j,j<i->ok j=true)->FP f (pre++[qP b]++caps) (bl (!ok i))) :
  FP 460 [.lst 6 (bs.map qP),.cl f pre caps] (i64 (sT (fe bs.length ok))):=by
 refine am func460 ?_;refine gl ?_;refine aY [0,1,7] [] (fun(i:Nat)=>[pP 8 (i64 i)]) (fun _=>[]) (fun i=>i<=bs.length/\∀j,j<i->ok j=true) (fun i=>bs.length-i) 0 ⟨ans _,fun j h=>by omega⟩ ?_;rintro i ⟨hi,hj⟩ K1 J1;refine gC (fun z=>?_) (fun z=>?_)
 ·have ah:=bf z;obtain⟨b,hb⟩:=aB ah;refine gi (aL hb) ?_;refine gc (hf i b hb hj) ?_;refine gC (fun z=>?_) (fun z=>?_)
  ·have h2:=dP z;refine ai ?_;rw[lL ah hj h2];rfl
  have h2:=dN z;refine ga aU ?_;exact aS J1 (i+1) ⟨ah,fun j h9=>by rcases anu j i with g |g;exact hj j g;(have:j=i:=by omega);subst this;exact h2⟩
 have ah:=bu hi z;subst ah;refine ai ?_;rw[mI hj];rfl
theorem aaa(bs:List (Rat×Rat))(hl:bs.length<=281474976710656)(f:FuncId)(pre caps:List AV)(ok:Nat->Bool)
  (hf:∀(i:Nat)(b:Rat×Rat),bs[i]?=some b->(∀j,j<i->ok j=true)->FP f (pre++[qP b]++caps) (bl (!ok i))) :
  FP 430 [.lst 6 (bs.map qP),.cl f pre caps] (bl (fe bs.length ok).isSome):=by
 refine am func430 ?_;refine gc (U5 bs hl f pre caps ok hf) ?_;refine ai ?_;rw[<- adw];rfl
theorem aay{v:Rat×Rat}(hv:Sm 3000 v):FP 431 [qP v] (bl (decide (cf v v=0))):=by
 refine am func431 ?_;refine gc (K9 hv hv oz oz) ?_;refine gc (YL ((hv.dot hv).qs oz)) ?_;refine ai ?_;rw[<- Ka];rfl
def jO(vs:List (Rat×Rat)):Bool:=(fe vs.length fun i=>!decide (cf (vs.getD i (0,0)) (vs.getD i (0,0))=0)).isSome
theorem Qx(vs:List (Rat×Rat))(hl:vs.length<=281474976710656)(hv:∀v∈vs,Sm 3000 v):FP 376 [.lst 6 (vs.map qP)] (bl (jO vs)):=by
 refine am func376 ?_;refine gc (Con.sA (.cons (.refl _) (.cons ((Sub.fn0 _).trans (CT rfl)) .nil)) (aaa vs hl 431 [] [] (fun i=>!decide (cf (vs.getD i (0,0)) (vs.getD i (0,0))=0)) (fun i b hb _=>by rw[Bool.not_not,aw hb];exact aay (hv b (ank hb))))) ?_;refine ai ?_;rfl
theorem vu{v:Rat×Rat}(h:jO [v]=false):cf v v≠0:=by
 intro h0;have h1:fe 1 (fun i=>!decide (cf ([v].getD i (0,0)) ([v].getD i (0,0))=0))=some 0:=lL oz (fun j hj=>by omega) (by show(!decide (cf v v=0))=false;rw[h0];rfl);unfold jO at h;rw[show[v].length=1 from rfl,h1]at h;cases h
theorem wb{v w:Rat×Rat}(h:jO [v,w]=false):cf v v≠0/\cf w w≠0:=by
 unfold jO at h;rw[Option.isSome_eq_false_iff,Option.isNone_iff_eq_none]at h;have h2:=adn h;have h3:=h2 0 (by show 0<2;omega);have h4:=h2 1 (by show 1<2;omega);have h5:(!decide (cf v v=0))=true:=h3;have h6:(!decide (cf w w=0))=true:=h4;simp only[amo,decide_eq_false_iff_not]at h5 h6;exact⟨h5,h6⟩
theorem KB(i n:Nat)(hi:i<=100):FP 384 [i64 i,i64 n] (i64 (if n=1 then 0 else 1-2*(i:Int))):=by
 refine am func384 ?_;refine gC (fun z=>?_) (fun z=>?_)
 ·have h1:n=1:=by have:=dI z; omega
  refine ai ?_;rw[aoz h1];rfl
 have h1:¬n=1:=by have:=fq z;omega
 refine ga (show _=2*(i:Int) by exact Fu oz) ?_;refine ga (show _=1-2*(i:Int) by exact fc oz) ?_;refine ai ?_;rw[aoy h1];rfl
section
variable{ts:LL}
abbrev ol(u:Rat×Rat):Et ts:=qE (cf u u)
def eF(u:Rat×Rat)(w:P2 ts):Et ts:=(qE u.1*w.1+qE u.2*w.2)*iE (ol u)
def dY(u:Rat×Rat)(w:P2 ts):Et ts:=(qE u.1*w.2-qE u.2*w.1)*iE (ol u)
def wC(u:Rat×Rat)(w:P2 ts)(p:Rat×Rat)(o:P2 ts):Et ts:=o.1-(eF u w*qE p.1-dY u w*qE p.2)
def vP(u:Rat×Rat)(w:P2 ts)(p:Rat×Rat)(o:P2 ts):Et ts:=o.2-(dY u w*qE p.1+eF u w*qE p.2)
def jK(u:Rat×Rat)(w:P2 ts)(p:Rat×Rat)(o:P2 ts):Pq:=⟨sX (eF u w),sX (dY u w),sX (wC u w p o),sX (vP u w p o)⟩
theorem CE(ts:LL)(a b:List Rat):Con prog 97 [.ptr 1000 0,aP a b,.v .nilIface] [pP 1000 (bt ts)] (aP a b) [pP 1000 (bt ts)]:=by
 have h:=L7 (ts.map (List.map rt)) a b;rw[Ft]at h;exact h
theorem wc(q:Rat):af ts.length (sh 0 (q:Rat))=(qE q:Et ts):=kM _ q
theorem uu{e:Nat}{q:Rat}(h5:ts.length<=5)(h:Qb e q):Nm ts.length e (sh 0 (q:Rat)):=Nm.ofQ h5 (Cb.one h)
structure BdP(ts:LL)(u:Rat×Rat)(w:P2 ts)(p:Rat×Rat)(o:P2 ts):Prop where
  dot:FP 102 [aZ ts,aP (sh 0 (u.1:Rat)) (sh 0 (u.2:Rat)),aP (sX w.1) (sX w.2)] (.tup [nA (sX (qE u.1*w.1+qE u.2*w.2)),.v .nilIface])
  crs:FP 99 [aZ ts,aP (sh 0 (u.1:Rat)) (sh 0 (u.2:Rat)),aP (sX w.1) (sX w.2)] (.tup [nA (sX (qE u.1*w.2-qE u.2*w.1)),.v .nilIface])
  d1:FP 350 [aZ ts,nA (sX (qE u.1*w.1+qE u.2*w.2)),nA (sh 0 (cf u u:Rat))] (.tup [nA (sX (eF u w)),.v .nilIface])
  d2:FP 350 [aZ ts,nA (sX (qE u.1*w.2-qE u.2*w.1)),nA (sh 0 (cf u u:Rat))] (.tup [nA (sX (dY u w)),.v .nilIface])
  tn:FP 265 [aZ ts,nA (sX (eF u w)),nA (sX (dY u w)),aP (sh 0 (p.1:Rat)) (sh 0 (p.2:Rat))] (.tup [aP (sX (eF u w*qE p.1-dY u w*qE p.2)) (sX (dY u w*qE p.1+eF u w*qE p.2)),.v .nilIface])
  s1:FP 209 [aZ ts,nA (sX o.1),nA (sX (eF u w*qE p.1-dY u w*qE p.2))] (.tup [nA (sX (wC u w p o)),.v .nilIface])
  s2:FP 209 [aZ ts,nA (sX o.2),nA (sX (dY u w*qE p.1+eF u w*qE p.2))] (.tup [nA (sX (vP u w p o)),.v .nilIface])
  ok:Pq.ok ts.length 92000000000 (jK u w p o)
theorem Mc{r W A K F:Nat}{u p:Rat×Rat}{w o:P2 ts}(tw:Tw ts r)(h2:ts.length<=2)(hk:kB r ts.length<=K)(hu:Sm 3000 u)(hp:Sm 3000 p)(h0:cf u u≠0)
  (w1:Nm ts.length W (sX w.1)) (w2:Nm ts.length W (sX w.2)) (a1:Nm ts.length A (sX o.1)) (a2:Nm ts.length A (sX o.2)) (hW:3000<=W) (hF:4*W+10*K+A+100000<=F) (hF2:F<=92000000000):BdP ts u w p o:=by
 have hl:lm ts.length=200000000000:=by unfold lm;rw[aoz h2]
 have h5:=tw.five;have DE:=uu (ts:=ts) h5 hu.x;have sZ:=uu (ts:=ts) h5 hu.y;have tj:=uu (ts:=ts) h5 hp.x;have j8:=uu (ts:=ts) h5 hp.y;have ia:=uu (ts:=ts) h5 (hu.dot hu);have hkE:eB r ts.length<=K:=hk;have ew:∀x:Et ts,af ts.length (sX x)=x:=fun x=>bn _ _
 have c1:=Gl tw (DE.mono (f:=W) oz) (sZ.mono oz) w1 w2 (by rw[hl];omega);have c2:=Kv tw (DE.mono (f:=W) oz) (sZ.mono oz) w1 w2 (by rw[hl];omega);have n1:=Lv tw DE sZ w1 w2;have n2:=GH tw DE sZ w1 w2;rw[wc,wc,ew,ew]at c1 c2 n1 n2
 have hs:T.sgn (az ts) ts.length (af ts.length (sh 0 (cf u u:Rat)))≠0:=by
  rw[kM,T.sgn_ofQ];intro h9;exact h0 (pR h9)
 have nb:Nl 0 (sh 0 (cf u u:Rat)):=ek 0 _;have d1:=EX tw n1 ia (ans _) nb hs (by rw[hl];omega) (by simp only[iB];omega);have d2:=EX tw n2 ia (ans _) nb hs (by rw[hl];omega) (by simp only[iB];omega);have m1:=Hy tw n1 ia (ans _) nb hs (by rw[hl];omega) (by simp only[iB];omega);have m2:=Hy tw n2 ia (ans _) nb hs (by rw[hl];omega) (by simp only[iB];omega);have e1:∀x:Et ts,af ts.length (sh ts.length x)=x:=fun x=>bn _ _
 have f1:af ts.length (sh ts.length (vE ts (qE u.1:Et ts) (qE u.2:Et ts) w.1 w.2))=(qE u.1*w.1+qE u.2*w.2:Et ts):=bn _ _;have f2:af ts.length (sh ts.length (q5 ts (qE u.1:Et ts) (qE u.2:Et ts) w.1 w.2))=(qE u.1*w.2-qE u.2*w.1:Et ts):=bn _ _;rw[f1,wc]at d1 m1;rw[f2,wc]at d2 m2;have k1:Nm ts.length (2*W+3*K+30000) (sX (eF u w)):=Nm.mono m1 (by simp only[iB];omega);have k2:Nm ts.length (2*W+3*K+30000) (sX (dY u w)):=Nm.mono m2 (by simp only[iB];omega);have c3:=EU tw k1 k2 (tj.mono (f:=(2*W+3*K+30000)) oz) (j8.mono oz) (by rw[hl];omega);have n3:=wR tw k1 k2 tj j8;have n4:=vR tw k1 k2 tj j8;rw[wc,wc,ew,ew]at c3 n3 n4;have s1:=tF tw a1 n3 (by rw[hl];omega);have s2:=tF tw a2 n4 (by rw[hl];omega);have m3:=a1.sub n3;have m4:=a2.sub n4;have f3:af ts.length (sh ts.length (uX ts (eF u w) (dY u w) (qE p.1:Et ts) (qE p.2:Et ts)))=(eF u w*qE p.1-dY u w*qE p.2:Et ts):=bn _ _;have f4:af ts.length (sh ts.length (wj ts (eF u w) (dY u w) (qE p.1:Et ts) (qE p.2:Et ts)))=(dY u w*qE p.1+eF u w*qE p.2:Et ts):=bn _ _;rw[ew,f3]at s1 m3;rw[ew,f4]at s2 m4;exact⟨c1,c2,d1,d2,c3,s1,s2,k1.mono oz,k2.mono oz,Nm.mono m3 oz,Nm.mono m4 oz⟩
theorem Ms{r:Nat}{u p:Rat×Rat}{w o:P2 ts}(tw:Tw ts r)(h2:ts.length<=2)(hk:kB r ts.length<=1301000000)(hu:Sm 3000 u)(hp:Sm 3000 p)(h0:cf u u≠0)
  (w1:Nm ts.length 19300000000 (sX w.1)) (w2:Nm ts.length 19300000000 (sX w.2)) (a1:Nm ts.length 915000000 (sX o.1)) (a2:Nm ts.length 915000000 (sX o.2)):BdP ts u w p o :=
 Mc (F:=92000000000) tw h2 hk hu hp h0 w1 w2 a1 a2 oz oz oz
theorem B4{a b c:List Rat}(h:FP 209 [aZ ts,nA a,nA b] (.tup [nA c,.v .nilIface])):Con prog 100 [.ptr 1000 0,nA a,nA b] [pP 1000 (bt ts)] (nA c) [pP 1000 (bt ts)]:=by
 refine gF func100 (fun k z h=>bW h) ?_;refine gc h ?_;refine gt (aR (vS _ _) (aV rfl rfl rfl) aT rfl rfl) ?_;refine gR ?_;exact aD.keep (bH rfl)
theorem Fk{u p:Rat×Rat}{w o:P2 ts}(hu:Sm 3000 u)(hp:Sm 3000 p)(B:BdP ts u w p o) :
  Con prog 374 [.ptr 1000 0,qP u,eH w.l,qP p,eH o.l] [pP 1000 (bt ts)] (jK u w p o).av [pP 1000 (bt ts)]:=by
 refine gF func374 (fun k z h=>bW h) ?_;refine gc (AD (hu.x.qs oz) (hu.y.qs oz)) ?_;refine gc (GD hu oz) ?_;refine gD ?_;refine gc B.dot ?_;refine gt (ba (vS _ _) (aV rfl rfl rfl) rfl rfl rfl) ?_;refine gt (ba (CA B.d1) (aV rfl rfl rfl) rfl rfl rfl) ?_;refine gc B.crs ?_;refine gt (ba (vS _ _) (aV rfl rfl rfl) rfl rfl rfl) ?_;refine gt (ba (CA B.d2) (aV rfl rfl rfl) rfl rfl rfl) ?_;refine gD ?_;refine gc (AD (hp.x.qs oz) (hp.y.qs oz)) ?_;refine gc B.tn ?_;refine gt (ba (CE _ _ _) (aV rfl rfl rfl) rfl rfl rfl) ?_;refine gD ?_;refine gt (ba (B4 B.s1) (aV rfl rfl rfl) rfl rfl rfl) ?_;refine gt (ba (B4 B.s2) (aV rfl rfl rfl) rfl rfl rfl) ?_;refine gD ?_;refine gR ?_;exact aD.keep (bH rfl)
end
structure Sv where
  ts:LL
  ps:List Pq
  mode:Int
abbrev Sv.av(s:Sv):AV:=.agg [.lst 1 (s.ts.map nA),.lst 4 (s.ps.map Pq.av),i64 s.mode]
structure Hd where
  p:Rat×Rat
  a:List Rat×List Rat
  c:Rat×Rat
abbrev Hd.av(h:Hd):AV:=.agg [bl (rt h.p.1).neg,ws (rt h.p.1).num,ws (rt h.p.1).den,bl (rt h.p.2).neg,ws (rt h.p.2).num,ws (rt h.p.2).den,nA h.a.1,nA h.a.2,bl (rt h.c.1).neg,ws (rt h.c.1).num,ws (rt h.c.1).den,bl (rt h.c.2).neg,ws (rt h.c.2).num,ws (rt h.c.2).den]
def m9(ts:LL)(h:Hd)(x:List Rat×List Rat):P2 ts:=(dE ts x.1-dE ts h.a.1,dE ts x.2-dE ts h.a.2)
def oP(ts:LL)(h:Hd):P2 ts:=(dE ts h.a.1,dE ts h.a.2)
def oS(ts:LL)(x:List Rat×List Rat)(h:Hd):Pq:=jK (bS h.c h.p) (m9 ts h x) h.p (oP ts h)
structure HdP(ts:LL)(x:List Rat×List Rat)(h:Hd):Prop where
  hp:Sm 1000 h.p
  hc:Sm 1000 h.c
  s1:FP 209 [aZ ts,nA x.1,nA h.a.1] (.tup [nA (sX (m9 ts h x).1),.v .nilIface])
  s2:FP 209 [aZ ts,nA x.2,nA h.a.2] (.tup [nA (sX (m9 ts h x).2),.v .nilIface])
  e1:sX (dE ts h.a.1)=h.a.1
  e2:sX (dE ts h.a.2)=h.a.2
  b:BdP ts (bS h.c h.p) (m9 ts h x) h.p (oP ts h)
theorem HdP.body{ts:LL}{x:List Rat×List Rat}{h:Hd}(H:HdP ts x h) :
  Con prog 374 [.ptr 1000 0,qP (bS h.c h.p),eH (m9 ts h x).l,qP h.p,aP h.a.1 h.a.2] [pP 1000 (bt ts)] (oS ts x h).av [pP 1000 (bt ts)]:=by
 have hb:=Fk (Sm.mono (H.hc.sub H.hp) oz) (Sm.mono H.hp oz) H.b
 have e:eH (oP ts h).l=aP h.a.1 h.a.2:=by
  show aP (sX (dE ts h.a.1)) (sX (dE ts h.a.2))=_;rw[H.e1,H.e2]
 rw[e]at hb;exact hb
def kV(m:Mt)(hs:List Hd)(i:Nat):Sv:=⟨m.ts,hs.map (oS m.ts (m.ps.getD i ([],[]))),if m.ps.length=1 then 0 else 1-2*(i:Int)⟩
def lP(m:Mt)(hs:List Hd)(n:Nat):List AV:=(List.range n).map fun i=>(kV m hs i).av
theorem FS(m:Mt)(hs:List Hd)(n:Nat):(lP m hs n).length=n:=by simp[lP]
theorem X2(m:Mt)(hs:List Hd)(n:Nat):lP m hs (n+1)=lP m hs n++[(kV m hs n).av]:=by unfold lP;rw[List.range_succ];simp
theorem Lr{m:Mt}{r:Nat}(tw:Tw m.ts r)(hs:List Hd)(hl:hs.length<=2)(ml:m.ps.length<=2)(H:∀x∈m.ps,∀h∈hs,HdP m.ts x h) :
  FP 378 [m.av,.lst 14 (hs.map Hd.av)] (.tup [.lst 3 (lP m hs m.ps.length),.v .nilIface]):=by
 refine am func378 ?_;refine gl ?_;refine gW (Wk.virt 900 3 rfl) ?_;refine aY [1,2,15,16] [2] (fun(i:Nat)=>[pP 6 (.ms 900 3 0 i),pP 17 (i64 i)]) (fun i=>[pP 900 (.row 3 (lP m hs i))]) (fun i=>i<=m.ps.length) (fun i=>m.ps.length-i) 0 (ans _) ?_;rintro i hi K1 J1;refine gC (fun z=>?_) (fun z=>?_) (st2:=(17,0))
 ·have ah:=bf z;obtain⟨x,hx⟩:=aB ah;have Io:m.ps.getD i ([],[])=x:=aw hx;have hxm:=ank hx;refine gi (aL hx) ?_;refine gc (EY tw) ?_;refine gl ?_;refine gc (KB i m.ps.length oz) ?_;refine gD ?_ (7,0);refine gW (Wk.o (sl:=[pP 1 (.lst 14 (hs.map Hd.av)),pP 2 (.ptr 2 0),pP 6 (.ms 900 3 0 i),pP 8 (.ptr 8 0),pP 9 (.ptr 25 0),pP 10 (.ptr 10 0),pP 15 (.lst 2 (m.ps.map eH)),pP 16 (i64 m.ps.length),pP 17 (i64 i)]) (hp:=[pP 2 (.box [.lst 1 (m.ts.map nA),.lst 2 (m.ps.map eH)]),pP 8 (.box [nA x.1,nA x.2]),pP 10 (.box [.lst 1 (m.ts.map nA),nS,i64 (if m.ps.length=1 then 0 else 1-2*(i:Int))]),pP 25 (bt m.ts),pP 900 (.row 3 (lP m hs i))])) ?_
  refine gl ?_;refine gW (Wk.virt 901 4 rfl) ?_;refine aY [1,2,8,9,10,15,16,17,35,36] [2,8,25,900] (fun(k:Nat)=>[pP 6 (.ms 900 3 0 i),pP 37 (i64 k)]) (fun k=>[pP 10 (.box [.lst 1 (m.ts.map nA),.ms 901 4 0 k,i64 (if m.ps.length=1 then 0 else 1-2*(i:Int))]),pP 901 (.row 4 (((hs.take k).map (oS m.ts x)).map Pq.av))]) (fun k=>k<=hs.length) (fun k=>hs.length-k) 0 (ans _) ?_ (h2:=(.cons rfl (BlkSub.bL (.cons (.refl _) (.cons (.nM _ _ _) (.cons (.refl _) .nil))) rfl) (.k .nil)))
  rintro k hk K2 J2;refine gC (fun z=>?_) (fun z=>?_) (st2:=(13,0))
  ·have bw:=bf z;obtain⟨h,hh⟩:=aB bw;have Hh:=H x hxm h (ank hh);refine gi (aL hh) ?_;refine gt (ba (Con.rB 25 rfl rfl rfl rfl (B4 Hh.s1)) (aV rfl rfl rfl) rfl rfl rfl) ?_;refine gt (ba (Con.rB 25 rfl rfl rfl rfl (B4 Hh.s2)) (aV rfl rfl rfl) rfl rfl rfl) ?_;refine gD ?_;refine gc (uc Hh.hc Hh.hp oz oz) ?_;refine gt (ba (Con.rB 25 rfl rfl rfl rfl Hh.body) (.cons (.tmp rfl) (.cons (.tmp rfl) (.cons (.tmp rfl) (.cons (.tmp rfl) (.cons (.tmp rfl) .nil))))) rfl rfl rfl) ?_;refine gs (cZ (.tmp rfl) rfl (by rw[anl,anl,an6]; omega) (.tmp rfl) T45 rfl T55 rfl rfl (by dsimp only; simp only [an0,aoa]; omega) rfl rfl) ?_;refine gD ?_ (12,0);refine gW (Wk.of (sl:=[pP 1 (.lst 14 (hs.map Hd.av)),pP 2 (.ptr 2 0),pP 6 (.ms 900 3 0 i),pP 8 (.ptr 8 0),pP 9 (.ptr 25 0),pP 10 (.ptr 10 0),pP 15 (.lst 2 (m.ps.map eH)),pP 16 (i64 m.ps.length),pP 17 (i64 i),pP 35 (.lst 14 (hs.map Hd.av)),pP 36 (i64 hs.length),pP 37 (i64 k)]) (hp:=[pP 2 (.box [.lst 1 (m.ts.map nA),.lst 2 (m.ps.map eH)]),pP 8 (.box [nA x.1,nA x.2]),pP 25 (bt m.ts),pP 10 (.box [.lst 1 (m.ts.map nA),.ms 71 4 0 (k+1),i64 (if m.ps.length=1 then 0 else 1 - 2*(i:Int))]),pP 900 (.row 3 (lP m hs i)),pP 71 (.row 4 (((hs.take (k+1)).map (oS m.ts x)).map Pq.av))]) bg (.k (.k (.k (.k (.k (.cons rfl (.of (by rw[dR hh,aoc,aoc]; rfl)) .nil))))))) ?_ (12,0)
   refine gW (Wk.rk (k:=71) (d:=901) rfl rfl) ?_;refine ga aU ?_;exact aS J2 (k+1) bw
  have bw:=bu hk z;subst bw;refine gW ((Wk.freeze (k:=901) rfl).trans<|Wk.of (sl:=[pP 1 (.lst 14 (hs.map Hd.av)),pP 2 (.ptr 2 0),pP 6 (.ms 900 3 0 i),pP 9 (.ptr 25 0),pP 10 (.ptr 10 0),pP 15 (.lst 2 (m.ps.map eH)),pP 16 (i64 m.ps.length),pP 17 (i64 i)]) (hp:=[pP 2 (.box [.lst 1 (m.ts.map nA),.lst 2 (m.ps.map eH)]),pP 25 (bt m.ts),pP 10 (.box [.lst 1 (m.ts.map nA),.lst 4 ((hs.map (oS m.ts x)).map Pq.av),i64 (if m.ps.length=1 then 0 else 1-2*(i:Int))]),pP 900 (.row 3 (lP m hs i))]) bg (.k (.k (.cons rfl (BlkSub.bL (.cons (.refl _) (.cons (.of (by rw[cz (by rw[anl,anl,an6];omega),an3])) (.cons (.refl _) .nil))) rfl) (.k .nil))))) ?_
  refine gf ?_;refine gs (cZ (.tmp rfl) rfl (FS _ _ _).symm (.tmp rfl) T252 rfl T257 rfl rfl (by dsimp only;simp only[an0,aoa];omega) rfl rfl) ?_ (16,0);refine gW (Wk.of (sl:=[pP 1 (.lst 14 (hs.map Hd.av)),pP 2 (.ptr 2 0),pP 6 (.ms 86 3 0 (i+1)),pP 15 (.lst 2 (m.ps.map eH)),pP 16 (i64 m.ps.length),pP 17 (i64 i)]) (hp:=[pP 2 (.box [.lst 1 (m.ts.map nA),.lst 2 (m.ps.map eH)]),pP 86 (.row 3 (lP m hs (i+1)))]) bg (.k (.cons rfl (.of (by rw[X2];unfold kV;rw[Io])) .nil))) ?_ (16,0);refine gW (Wk.rk (k:=86) (d:=900) rfl rfl) ?_;refine ga aU ?_;exact aS J1 (i+1) ah
 have ah:=bu hi z;subst ah;refine gW ((Wk.freeze (k:=900) rfl).trans<|Wk.of (sl:=[pP 6 (.lst 3 (lP m hs m.ps.length))]) (hp:=[]) (.cons rfl (.of (by rw[cz (FS _ _ _).symm])) .nil) .nil) ?_;refine bO ?_;rfl
variable{P:apb}{N:Nat}{R:Array Oper}{s:AS}{pos:String}{after:Array Edge}
def BA(P:apb)(t:apa):Bool:=match P.underlying t with |some (.slice _)=>true |_=>false
theorem KE{t:apa}(h:BA P t=true):∃e,P.underlying t=some (.slice e):=by
 unfold BA at h;split at h
 ·exact⟨_,by assumption⟩
 ·cases h
theorem On(w:apc)(t e:apa)(a:Option Addr)(l c:Nat)(h:P.underlying t=some (.slice e)):(binOp .eql t (.slice a l c) (.slice none 0 0)).run P w=.ok (.bool a.isNone) w:=by
 simp only[binOp];simp[run_equal_slice_nil w t e a l c h]
theorem Jd{d:Nat}{x:ao8}{sz:Nat}{e:AV}{es:List AV}{S T t:apa}(hx:Ev s x (.lst sz (e::es)))(hS:BA P S=true)(hN:aks d N=true) :
  Step P N R s ⟨some d,.binOp .eql S x (.const (.slice none 0 0)) T,t,pos,after,none⟩ ⟨some (.v (.bool false)),[],aA x,[]⟩ :=
 fp rfl rfl hN fun s' aK C m ac w hr=>⟨.bool false,by
  have h:=(hx.agree aK (fun _ h=>h)).rep hr;obtain⟨el,mi⟩:=KE hS;generalize hu:ac.eval x=y at h
  have hy:∃b l cap,y=.slice (some b) l cap:=by
   cases h with
   |lst u hb hc hl hs h1 hu bA=>exact⟨_,_,_,rfl⟩
  obtain⟨b,l,cap,rfl⟩:=hy;have e1:ac.eval (.const (.slice none 0 0))=.slice none 0 0:=rfl;simp[execOp,hu,e1,eqGuard,On w S el (some b) l cap mi],.v _⟩
theorem LA{d:Nat}{x:ao8}{a:Option Addr}{l cap:Nat}{S T t:apa}(hx:Ev s x (.v (.slice a l cap)))(hS:BA P S=true)(hN:aks d N=true) :
  Step P N R s ⟨some d,.binOp .eql S x (.const (.slice none 0 0)) T,t,pos,after,none⟩ ⟨some (.v (.bool a.isNone)),[],aA x,[]⟩ :=
 fp rfl rfl hN fun s' aK C m ac w hr=>⟨.bool a.isNone,by
  have h:=(hx.agree aK (fun _ h=>h)).rep hr;obtain⟨el,mi⟩:=KE hS;generalize hu:ac.eval x=y at h;cases h;have e1:ac.eval (.const (.slice none 0 0))=.slice none 0 0:=rfl;simp[execOp,hu,e1,eqGuard,On w S el a l cap mi],.v _⟩
end Go.Lw
namespace Go.Lw
theorem Con.rekeyB1{P:apb}{f:FuncId}{k off:Nat}{x x':Blk}{y0:AV}{xs:List AV}{r:AV}(d:Nat)(hx:x.nm=[])(hx':x'.nm=[])(H6:y0.nm=[])(iV:(xs.all fun x=>x.nm.isEmpty)=true)(hr:r.nm=[])
  (h:Con P f (y0 :: .ptr k off::xs) [(k,some x)] r [(k,some x')]):Con P f (y0 :: .ptr d off::xs) [(d,some x)] r [(d,some x')]:=by
 refine⟨h.ok,?_⟩;intro ext m w vs hext cI dG dm
 have h1:=h.ret ext (fun _=>m d) w vs hext (CP (k:=d) hx rfl cI) (by simpa using dG) (by
  intro j v y hv hy;rw[nU (d:=k) (k:=d) (y:=x) (x:=x) (m2:=fun _=>m d) (m:=m) rfl]
  match j,hy with
  |0,hy =>
   cases hy;exact lU H6 (dm 0 v _ hv rfl)
  |1,hy =>
   cases hy;have h2:=dm 1 v _ hv rfl;cases h2 with
   |ptr hm=>exact .ptr hm
  |j+2,hy =>
   have h2:=dm (j+2) v y hv hy;refine lU ?_ h2;have:=anx.1 iV y (ank hy);simpa using this)
 refine Calls.mono h1 ?_;rintro e w' ⟨v,m',rfl,hf,hh,hn,hk,bA⟩
 have ho:bj [(k,some x)] (fun _=>m d)=bj [(d,some x)] m:=by
  funext b;apply propext;rw[nO,nO]
 refine⟨v,fun _=>m' k,rfl,ho▸hf,CP (k:=k) hx' rfl hh,?_,?_,?_⟩
 ·intro k' x b hx hb;rw[<- ho];exact hn k _ b (by rw[a5,aoz rfl]) hb
 ·intro k' x y hx hy;obtain⟨rfl,_⟩:=iQ hx;exact hk k _ _ (by rw[a5,aoz rfl]) (by rw[a5,aoz rfl])
 ·rw[nU (d:=d) (k:=k) (y:=x') (x:=x') (m2:=fun _=>m' k) (m:=m') rfl];exact lU hr bA
open Go.Proofs
theorem vY{p q:Rat×Rat}(hp:Sm 1000 p)(hq:Sm 1000 q):Qz 310000 (bq p q) 3:=y9 (Xb hp hq) oz
end Go.Lw
