/- AssembleModes: for any linkage, any turns and any modes the law returns true and leaves its arguments as they were. No other condition. Part 6 of 7: what the later parts need -/
import Derived.Test.YtlilpljpajeafaaGreatZe
import Derived.Laws.Cover3
set_option linter.unusedVariables false
open List (mem_of_getElem? mem_append map_cons mem_cons length_cons length_append length_nil getD_eq_getElem?_getD getElem?_append_left all_eq_true getElem?_map getElem?_append_right getElem?_eq_getElem nil_append map_append length_take take_of_length_le drop_zero take_length map_nil not_mem_nil length_map map_map length_replicate map_replicate map_set length_set)
open Nat (le_refl lt_or_ge le_trans zero_le pow_add)
open Int (toNat_natCast)
open Go.Proofs.Tryz
namespace Go.Lw
open Go.Proofs
def bv(xs:List Bool):List Value:=xs.map .bool
theorem fq(xs:List Bool):(bv xs).length=xs.length:=length_map _
theorem tm(xs:List Bool)(n:Nat):(bv xs).set n (.bool true)=bv (xs.set n true):=by unfold bv;rw[map_set]
theorem x5(xs:List Bool):∀v∈bv xs,∀kk z,v≠.int kk z:=by
 intro v hv kk z;obtain⟨b,_,rfl⟩:=List.mem_map.1 hv;exact fun h=>by cases h
theorem uD(xs:List Bool):(bv xs).map AV.v=xs.map bl:=by unfold bv;rw[map_map];rfl
theorem wc(n:Nat):List.replicate n (Value.bool false)=bv (List.replicate n false):=by unfold bv;rw[map_replicate]
theorem HZ(xs:List Int):(xs.map i64).all EK=true:=by
 rw[all_eq_true];intro x hx;obtain⟨b,_,rfl⟩:=List.mem_map.1 hx;rfl
theorem I0(g:Gr)(b:Bool):(AV.tup [g.av,bl b]).li=true:=by
 simp only[AV.li,AV.lis,Gr.av,HZ];rfl
def mI(l:Li)(n:Nat):Blk:=.box (l.av.cells++[.ms 23 1 0 l.bo.length,.ms 27 1 0 l.bo.length,.ms 31 1 0 l.jo.length,.ms 900 4 0 n])
def lB(l:Li)(kw used:List Bool)(out:List Gr):Hp :=
  [(33,some (mI l out.length)),(23,some (.vec (bv kw))),(27,some (.vec (bv (bI l)))),(31,some (.vec (bv used))),(900,some (.row 4 (out.map Gr.av)))]
theorem wW{xs:List Bool}{n:Nat}(h:xs.length=n):AV.lst 1 ((((bv xs).drop 0).take n).map .v)=.lst 1 (xs.map bl):=by
 rw[drop_zero,take_of_length_le (by rw[fq];omega),uD]
theorem CO(l:Li)(hl:l.ok)(hli:aD l=0)(kw used:List Bool)(hk:kw.length=l.bo.length)(hu:used.length=l.jo.length)(hm:l.bo.length<=aO/\l.jo.length<=aO)(out:List Gr) :
  Con prog 334 [.ptr 33 0] (lB l kw used out) (.tup [((bS l kw).getD default).av,bl (bS l kw).isSome]) (lB l kw used out):=by
 refine Con.lend (cs:=l.av.cells++[.ms 23 1 0 l.bo.length,.ms 27 1 0 l.bo.length,.ms 31 1 0 l.jo.length,.ms 900 4 0 out.length])
  (cs':=fun v=>dg l kw (bI l) [.lst 1 (used.map bl),.v v]) [900] 7 rfl (by decide) ?_ (by simp[Li.av,AV.cells]) ?_ (I0 _ _) (fun v=>QX l hl hli kw hk _)
 ·intro v hv;refine⟨rfl,?_,?_⟩
  ·intro j x hx
   match j,hx with
   |0,hx=>cases hx;rfl
   |1,hx=>cases hx;rfl
   |2,hx=>cases hx;rfl
   |3,hx=>cases hx;rfl
   |4,hx=>cases hx;rfl
   |5,hx=>cases hx;rfl
   |6,hx=>cases hx;rfl
   |7,hx=>cases hx;exact hv
   |j+8,hx=>cases hx
  ·intro j x x' hx hx'
   match j,hx,hx' with
   |0,hx,hx'=>cases hx;cases hx';exact .inr (.same rfl)
   |1,hx,hx'=>cases hx;cases hx';exact .inr (.same rfl)
   |2,hx,hx'=>cases hx;cases hx';exact .inr (.same rfl)
   |3,hx,hx'=>cases hx;cases hx';exact .inr (.same rfl)
   |4,hx,hx' =>
    cases hx;cases hx'
    have h:=Lent.ms (H:=lB l kw used out) (hid:=[900]) (k:=23) (off:=0) (len:=l.bo.length) (vs:=bv kw) rfl (by decide) (by rw[fq];omega) (by rw[fq];omega);rw[wW hk]at h;exact .inr h
   |5,hx,hx' =>
    cases hx;cases hx'
    have h:=Lent.ms (H:=lB l kw used out) (hid:=[900]) (k:=27) (off:=0) (len:=l.bo.length) (vs:=bv (bI l)) rfl (by decide) (by rw[fq,rq];omega) (by rw[fq,rq];omega);rw[wW (rq l)]at h;exact .inr h
   |6,hx,hx' =>
    cases hx;cases hx'
    have h:=Lent.ms (H:=lB l kw used out) (hid:=[900]) (k:=31) (off:=0) (len:=l.jo.length) (vs:=bv used) rfl (by decide) (by rw[fq];omega) (by rw[fq];omega);rw[wW hu]at h;exact .inr h
   |7,hx,hx'=>cases hx;cases hx';exact .inl ⟨rfl,rfl⟩
   |j+8,hx,hx'=>cases hx
 ·intro k z hz;simp only[lB,aH]at hz;split at hz
  ·cases hz;exact .inr (.inl ⟨_,rfl,rfl⟩)
  split at hz
  ·cases hz;exact .inr (.inr ⟨_,rfl,x5 _⟩)
  split at hz
  ·cases hz;exact .inr (.inr ⟨_,rfl,x5 _⟩)
  split at hz
  ·cases hz;exact .inr (.inr ⟨_,rfl,x5 _⟩)
  split at hz
  ·subst_vars;exact .inl (by decide)
  ·cases hz
def pc(l:Li):AV:=if aD l=0 then .iptr (dg l (bN l) (bI l) [.lst 1 ((ez l).map bl),.lst 4 ((bZ l).map Gr.av)])else .v (.pointer none)
def iA(l:Li)(out:List Gr):List Bool:=out.foldl (fun k g=>bj k g.jo) (List.replicate l.jo.length false)
theorem wL(l:Li)(out:List Gr):(iA l out).length=l.jo.length:=by unfold iA;rw[oN,length_replicate]
theorem GP(l:Li)(out:List Gr)(g:Gr):iA l (out++[g])=bj (iA l out) g.jo:=by unfold iA;rw[List.foldl_append];rfl
theorem yX{k:List Bool}{bs:List Int}{i:Nat}{b:Int}(h:bs[i]?=some b):bj k (bs.take (i+1))=(bj k (bs.take i)).set b.toNat true:=by
 unfold bj;rw[cR h,List.foldl_append];rfl
theorem KY{l:Li}(hli:aD l=0){kw:List Bool}{out:List Gr}{g:Gr}(hk:kw.length=l.bo.length)(h:cg l (dh kw) kw out=(bN l,bZ l))(hg:bS l kw=some g) :
  cg l (dh (bj kw g.bo)) (bj kw g.bo) (out++[g])=(bN l,bZ l):=by
 have hlt:=pN hli hk hg;obtain⟨n,hn⟩:∃n,dh kw=n+1:=⟨dh kw-1,by omega⟩
 rw[hn]at h;unfold cg at h;rw[hg]at h;rw[<- h];exact wB hli _ _ _ _ (by rw[jh];exact hk) (le_refl _) oz
theorem PL{l:Li}{kw:List Bool}{out:List Gr}(h:cg l (dh kw) kw out=(bN l,bZ l))(hg:bS l kw=none):kw=bN l/\out=bZ l:=by
 cases hn:dh kw with
 |zero=>rw[hn]at h;exact⟨(Prod.mk.inj h).1,(Prod.mk.inj h).2⟩
 |succ n=>rw[hn]at h;unfold cg at h;rw[hg]at h;exact⟨(Prod.mk.inj h).1,(Prod.mk.inj h).2⟩
theorem JA{n:Nat}:dh (cC n 0)<=n:=by
 unfold dh;exact le_trans List.countP_le_length (Nat.le_of_eq (gx _ _))
theorem H7{l:Li}(hli:aD l=0):cg l (dh (cC l.bo.length 0)) (cC l.bo.length 0) []=(bN l,bZ l):=by
 rw[<- BN];exact wB hli _ _ _ _ (gx _ _) (le_refl _) JA
theorem PX{l:Li}(hli:aD l=0){kw:List Bool}{out:List Gr}(hk:kw.length=l.bo.length)(h:cg l (dh kw) kw out=(bN l,bZ l)):out.length<=8:=by
 obtain⟨gs,e⟩:=wj (l:=l) (dh kw) kw out;rw[e]at h;have h1:=(qI hli).2;have h2:out++gs=bZ l:=(Prod.mk.inj h).2;rw[<- h2,length_append]at h1;omega
theorem JU(l:Li)(kw used:List Bool)(out:List Gr)(hk:kw.length=l.bo.length)(hu:used.length=l.jo.length)(hm:l.bo.length<=aO/\l.jo.length<=aO) :
  Wk ⟨[(5,some (.ptr 33 0))],lB l kw used out⟩ ⟨[(5,some (.iptr (dg l kw (bI l) [.lst 1 (used.map bl),.lst 4 (out.map Gr.av)])))],[]⟩:=by
 have hd:=rq l;have q1:.ms 23 1 0 l.bo.length=AV.ms 23 1 0 ((bv kw).map AV.v).length:=by rw[length_map,fq,hk]
 refine(Wk.of (sl:=[(5,some (.ptr 33 0))]) (hp:=[(33,some (mI l out.length)),(23,some (.row 1 ((bv kw).map .v))),(27,some (.row 1 ((bv (bI l)).map .v))),(31,some (.row 1 ((bv used).map .v))),(900,some (.row 4 (out.map Gr.av)))])
  (.k .nil) (.k (.cons rfl (.vecRow (by rw[fq];omega)) (.cons rfl (.vecRow (by rw[fq];omega)) (.cons rfl (.vecRow (by rw[fq];omega)) (.k .nil)))))).trans ?_
 refine(Wk.freeze (k:=23) rfl).trans ?_
 refine(Wk.of (sl:=[(5,some (.ptr 33 0))]) (hp:=[(33,some (.box (l.av.cells++[.lst 1 (kw.map bl),.ms 27 1 0 l.bo.length,.ms 31 1 0 l.jo.length,.ms 900 4 0 out.length]))),(27,some (.row 1 ((bv (bI l)).map .v))),(31,some (.row 1 ((bv used).map .v))),(900,some (.row 4 (out.map Gr.av)))])
  (.k .nil) (.cons rfl (BlkSub.bL (.cons (.refl _) (.cons (.refl _) (.cons (.refl _) (.cons (.refl _) (.cons (.of ((bB (by rw[length_map,fq,hk])).trans (by rw[uD]))) (.cons (.refl _) (.cons (.refl _) (.cons (.refl _) .nil)))))))) rfl) (.k (.k (.k .nil))))).trans ?_
 refine(Wk.freeze (k:=27) rfl).trans ?_
 refine(Wk.of (sl:=[(5,some (.ptr 33 0))]) (hp:=[(33,some (.box (l.av.cells++[.lst 1 (kw.map bl),.lst 1 ((bI l).map bl),.ms 31 1 0 l.jo.length,.ms 900 4 0 out.length]))),(31,some (.row 1 ((bv used).map .v))),(900,some (.row 4 (out.map Gr.av)))])
  (.k .nil) (.cons rfl (BlkSub.bL (.cons (.refl _) (.cons (.refl _) (.cons (.refl _) (.cons (.refl _) (.cons (.refl _) (.cons (.of ((bB (by rw[length_map,fq,hd])).trans (by rw[uD]))) (.cons (.refl _) (.cons (.refl _) .nil)))))))) rfl) (.k (.k .nil)))).trans ?_
 refine(Wk.freeze (k:=31) rfl).trans ?_
 refine(Wk.of (sl:=[(5,some (.ptr 33 0))]) (hp:=[(33,some (.box (l.av.cells++[.lst 1 (kw.map bl),.lst 1 ((bI l).map bl),.lst 1 (used.map bl),.ms 900 4 0 out.length]))),(900,some (.row 4 (out.map Gr.av)))])
  (.k .nil) (.cons rfl (BlkSub.bL (.cons (.refl _) (.cons (.refl _) (.cons (.refl _) (.cons (.refl _) (.cons (.refl _) (.cons (.refl _) (.cons (.of ((bB (by rw[length_map,fq,hu])).trans (by rw[uD]))) (.cons (.refl _) .nil)))))))) rfl) (.k .nil))).trans ?_
 refine(Wk.freeze (k:=900) rfl).trans ?_
 refine(Wk.of (sl:=[(5,some (.ptr 33 0))]) (hp:=[(33,some (.box (dg l kw (bI l) [.lst 1 (used.map bl),.lst 4 (out.map Gr.av)])))])
  (.k .nil) (.cons rfl (BlkSub.bL (.cons (.refl _) (.cons (.refl _) (.cons (.refl _) (.cons (.refl _) (.cons (.refl _) (.cons (.refl _) (.cons (.refl _) (.cons (.of (bB (by rw[length_map]))) .nil)))))))) rfl) .nil)).trans ?_
 refine(Wk.freezeB (k:=33) rfl rfl).trans ?_;exact Wk.of (.k .nil) .nil
theorem GS(l:Li)(hl:l.ok):FP 238 [l.av] (.tup [pc l,ba (aD l)]):=by
 refine ah func238 ?_;refine gc (DT l hl) ?_;refine gC (fun t17=>?_) (fun t17=>?_)
 ·have h1:=cq t17;refine bi ?_;unfold pc;rw[if_neg h1]
 have hli:=b9 t17;have h8:=(c9 hli).2.2.2.1;have h0:=(c9 hli).2.2.2.2;have hj16:l.jo.length<=16:=by have:=(c9 hli).2.1;unfold dX at this;split at this;cases this;omega
 have hld:=hl.ld;have hm:l.bo.length<=aO/\l.jo.length<=aO:=by unfold aO;omega
 refine gl ?_;refine gs (yt (.tmp rfl) T218 rfl T4 rfl rfl rfl rfl (by dsimp only;omega) rfl) ?_;refine gl ?_;refine gs (yt (.tmp rfl) T218 rfl T4 rfl rfl rfl rfl (by dsimp only;omega) rfl) ?_;refine gl ?_;refine gs (yt (.tmp rfl) T218 rfl T4 rfl rfl rfl rfl (by dsimp only;omega) rfl) ?_;refine gD ?_;refine gs (bG (n:=0) (.tmp rfl) (.const _) T218 rfl T4 rfl rfl oz rfl) ?_;refine gs (tE (.tmp rfl) rfl (by rw[length_replicate];omega) (.const _) rfl T4 rfl) ?_ (6,0);refine gW (Wk.of (sl:=[(1,some (.ptr 1 0)),(5,some (.ptr 33 0))]) (hp:=[(1,some (.box l.av.cells)),(33,some (.box (l.av.cells++[.ms 23 1 0 l.bo.length,.ms 27 1 0 l.bo.length,.ms 31 1 0 l.jo.length,nS]))),(23,some (.vec (bv (cC l.bo.length 0)))),(27,some (.vec (bv (List.replicate l.bo.length false)))),(31,some (.vec (bv (List.replicate l.jo.length false))))]) aR (.k (.k (.cons rfl (BlkSub.of (by rw[wc,tm];rfl)) (.cons rfl (BlkSub.of (by rw[wc])) (.cons rfl (BlkSub.of (by rw[wc])) .nil)))))) ?_
 refine gl ?_;refine aI [1,5,40,41] [1,23,31] (fun(i:Nat)=>[(42,some (i64 i))]) (fun i=>[(33,some (.box (l.av.cells++[.ms 23 1 0 l.bo.length,.ms 27 1 0 l.bo.length,.ms 31 1 0 l.jo.length,nS]))),(27,some (.vec (bv (bj (List.replicate l.bo.length false) ((l.dv.map Dr.body).take i)))))]) (fun i=>i<=l.dv.length) (fun i=>l.dv.length-i) 0 (zero_le _) ?_;rintro i hi K1 J1;refine gC (fun t43=>?_) (fun t43=>?_) (st2:=(11,0))
 ·have hin:=aU t43;obtain⟨d,hd⟩:=ay hin;have hb:=dT (ku hli hd);have hmt:=yX (k:=List.replicate l.bo.length false) (bs:=l.dv.map Dr.body) (i:=i) (b:=d.body) (by rw[getElem?_map,hd];rfl);refine gi (az hd) ?_;refine gs (bG (n:=d.body.toNat) (.tmp rfl) (.tmp rfl) T218 rfl T4 rfl oz oz rfl) ?_;refine gs (tE (.tmp rfl) rfl (by rw[fq,jh,length_replicate];omega) (.const _) rfl T4 rfl) ?_;refine gD ?_;refine ga aG ?_;exact aE J1 (i+1) hin (hw:=Wk.of aR (.k (.cons rfl (BlkSub.of (by rw[tm,hmt])) (.k (.k (.k .nil))))))
 have hin:=a6 hi t43;have hall:bj (List.replicate l.bo.length false) ((l.dv.map Dr.body).take i)=bI l:=by rw[hin];unfold bI;rw[take_of_length_le (by rw[length_map];omega)]
 refine gW ((Wk.virt 900 4 rfl).trans<|Wk.of (sl:=[(1,some (.ptr 1 0)),(5,some (.ptr 33 0))]) (hp:=[(33,some (mI l 0)),(23,some (.vec (bv (cC l.bo.length 0)))),(27,some (.vec (bv (bI l)))),(31,some (.vec (bv (List.replicate l.jo.length false)))),(900,some (.row 4 []))]) aR (.cons rfl (BlkSub.bL (.cons (.refl _) (.cons (.refl _) (.cons (.refl _) (.cons (.refl _) (.cons (.refl _) (.cons (.refl _) (.cons (.refl _) (.cons (Sub.nM _ _ _) .nil)))))))) rfl) (.k (.cons rfl (BlkSub.of (by rw[hall])) (.k (.k .nil)))))) ?_
 refine gt (aA (CO l hl hli (cC l.bo.length 0) (List.replicate l.jo.length false) (gx _ _) length_replicate hm []) (cf rfl) (fun k z h=>h) rfl rfl) ?_;refine fp [5,8] [] (fun(kw:List Bool)(out:List Gr)=>[(9,some (bl (bS l kw).isSome))]) (fun kw out=>[(8,some (.box ((bS l kw).getD default).av.cells)),(33,some (mI l out.length)),(23,some (.vec (bv kw))),(27,some (.vec (bv (bI l)))),(31,some (.vec (bv (iA l out)))),(900,some (.row 4 (out.map Gr.av)))]) (fun kw out=>kw.length=l.bo.length/\cg l (dh kw) kw out=(bN l,bZ l)) (fun kw _=>dh kw) (cC l.bo.length 0) ([]) ⟨gx _ _,H7 hli⟩ ?_
 rintro kw out ⟨hk,hf⟩ K2 J2;refine gC (fun t59=>?_) (fun t59=>?_) (st1:=(77777,0)) (st2:=(27,0))
 ·obtain ⟨g, hg⟩:=xb t59;have hgo:=sG hli hg;have hout:=PX hli hk hf;refine gW (Wk.of (sl:=[(5,some (.ptr 33 0)),(8,some (.ptr 8 0))]) (hp:=[(8,some (.box g.av.cells)),(33,some (mI l out.length)),(23,some (.vec (bv kw))),(27,some (.vec (bv (bI l)))),(31,some (.vec (bv (iA l out)))),(900,some (.row 4 (out.map Gr.av)))]) aR (.cons rfl (BlkSub.of (by rw [hg]; rfl)) (.k (.k (.k (.k (.k .nil))))))) ?_;refine gl ?_;refine aI [5,8,66,67] [8,33,27,31,900] (fun (j:Nat)=>[(68,some (i64 j))]) (fun j=>[(23,some (.vec (bv (bj kw (g.bo.take j)))))]) (fun j=>j <= g.bo.length) (fun j=>g.bo.length - j) 0 (zero_le _) ?_;rintro j hj K3 J3;refine gC (fun t69=>?_) (fun t69=>?_)
  ·have hin:=aU t69;obtain⟨b,hb⟩:=ay hin;have hbb:=hgo.b b (mem_of_getElem? hb);have hlb:=hgo.lb;refine gi (az hb) ?_;refine gs (bG (n:=b.toNat) (.tmp rfl) (.tmp rfl) T218 rfl T4 rfl oz oz rfl) ?_;refine gs (tE (.tmp rfl) rfl (by rw[fq,jh];omega) (.const _) rfl T4 rfl) ?_;refine ga aG ?_;exact aE J3 (j+1) hin (hw:=Wk.of aR (.cons rfl (BlkSub.of (by rw[tm,yX hb])) (.k (.k (.k (.k (.k .nil)))))))
  have hin:=a6 hj t69;subst hin;refine gl ?_;refine aI [5,8,80,81] [8,33,27,900] (fun(q:Nat)=>[(82,some (i64 q))]) (fun q=>[(23,some (.vec (bv (bj kw g.bo)))),(31,some (.vec (bv (bj (iA l out) (g.jo.take q)))))]) (fun q=>q<=g.jo.length) (fun q=>g.jo.length-q) 0 (zero_le _) ?_ (h2:=(.cons rfl (BlkSub.of (by rw[take_length])) (.k .nil)));rintro q hq K4 J4;refine gC (fun t83=>?_) (fun t83=>?_)
  ·have hin:=aU t83;obtain⟨b,hb⟩:=ay hin;have hbb:=hgo.j b (mem_of_getElem? hb);have hlj:=hgo.lj;refine gi (az hb) ?_;refine gs (bG (n:=b.toNat) (.tmp rfl) (.tmp rfl) T218 rfl T4 rfl oz oz rfl) ?_;refine gs (tE (.tmp rfl) rfl (by rw[fq,jh,wL];omega) (.const _) rfl T4 rfl) ?_;refine ga aG ?_;exact aE J4 (q+1) hin (hw:=Wk.of aR (.k (.cons rfl (BlkSub.of (by rw[tm,yX hb])) (.k (.k (.k (.k .nil)))))))
  have hin:=a6 hq t83;subst hin;refine gs (bU (.tmp rfl) rfl (by rw[length_map]) (.tmp rfl) T32 rfl T53 rfl rfl (by simp only[length_cons,length_nil];omega) rfl rfl) ?_;refine gD ?_ (25,0);refine gW (Wk.of (sl:=[(5,some (.ptr 33 0)),(8,some (.ptr 8 0))]) (hp:=[(8,some (.box g.av.cells)),(33,some (.box (l.av.cells++[.ms 23 1 0 l.bo.length,.ms 27 1 0 l.bo.length,.ms 31 1 0 l.jo.length,.ms 100 4 0 (out++[g]).length]))),(100,some (.row 4 ((out++[g]).map Gr.av))),(23,some (.vec (bv (bj kw g.bo)))),(27,some (.vec (bv (bI l)))),(31,some (.vec (bv (iA l (out++[g])))))]) aR (.k (.cons rfl (BlkSub.of (by rw[length_append];rfl)) (.cons rfl (BlkSub.of (by rw[map_append];rfl)) (.k (.k (.cons rfl (BlkSub.of (by rw[GP,take_length])) .nil))))))) ?_ (25,0)
  refine gW (Wk.rk (k:=100) (d:=900) rfl rfl) ?_ (26,0);refine gW (Wk.o (sl:=[(5,some (.ptr 33 0)),(103,some (g.av))]) (hp:=[(33,some (mI l (out++[g]).length)),(23,some (.vec (bv (bj kw g.bo)))),(27,some (.vec (bv (bI l)))),(31,some (.vec (bv (iA l (out++[g]))))),(900,some (.row 4 ((out++[g]).map Gr.av)))])) ?_;refine gt (aA (CO l hl hli (bj kw g.bo) (iA l (out++[g])) (by rw[jh];exact hk) (wL _ _) hm (out++[g])) (cf rfl) (by intro k z h;simp only[lB,aH]at h;split at h;(subst_vars;exact h);split at h;(subst_vars;exact h);split at h;(subst_vars;exact h);split at h;(subst_vars;exact h);split at h;(subst_vars;exact h);cases h) rfl rfl) ?_;exact fi J2 (bj kw g.bo) (out++[g]) ⟨by rw[jh];exact hk,KY hli hk hf hg⟩ (pN hli hk hg)
 have hg:=nc t59;obtain⟨e1,e2⟩:=PL hf hg;subst e1 e2;refine gW (Wk.o (sl:=[(5,some (.ptr 33 0))]) (hp:=[(33,some (mI l (bZ l).length)),(23,some (.vec (bv (bN l)))),(27,some (.vec (bv (bI l)))),(31,some (.vec (bv (iA l (bZ l))))),(900,some (.row 4 ((bZ l).map Gr.av)))])) ?_ (27,0);refine gW (JU l (bN l) (iA l (bZ l)) (bZ l) hk (wL _ _) hm) ?_;refine bi ?_;unfold pc;rw[if_pos hli,hli];rfl
theorem BJ{α:Type}[BEq α][LawfulBEq α]{xs:List α}{b:α}{ok:Nat->Bool}(h:∀i x,xs[i]?=some x->ok i=!(b==x)):decide (0<=lJ (db xs.length ok))=xs.contains b:=by
 cases hf:db xs.length ok with
 |some i =>
  obtain⟨h1,h2⟩:=eZ hf;obtain⟨x,hx⟩:=ay h1;rw[h i x hx]at h2;have:b=x:=by simpa using h2
  subst this;rw[List.contains_iff_mem.2 (mem_of_getElem? hx)];exact decide_eq_true (by show(0:Int)<=(i:Int);omega)
 |none =>
  rw[decide_eq_false (by show ¬(0:Int) <= -1;decide)]
  symm
  rw[<- Bool.not_eq_true,List.contains_iff_mem];intro hm;obtain⟨i,hi⟩:=List.mem_iff_getElem?.1 hm;have hlt:=(List.getElem?_eq_some_iff.1 hi).1;unfold db at hf;rw[List.find?_eq_none]at hf;have:=hf i (List.mem_range.2 hlt);rw[h i b hi]at this;simp at this
theorem Rr(xs:List Bool)(b:Bool)(hl:xs.length<=281474976710656):FP 335 [.lst 1 (xs.map bl),bl b] (i64 (lJ (db xs.length (fun i=>!(b==xs.getD i false))))):=by
 refine ah func335 ?_;refine gl ?_;refine aI [0,1,7] [] (fun(i:Nat)=>[(8,some (i64 i))]) (fun _=>[]) (fun i=>i<=xs.length/\∀j,j<i->(!(b==xs.getD j false))=true) (fun i=>xs.length-i) 0 ⟨zero_le _,fun j h=>by omega⟩ ?_;rintro i ⟨hi,hj⟩ K1 J1;refine gC (fun t9=>?_) (fun t9=>?_)
 ·have hin:=aU t9;obtain⟨x,hx⟩:=ay hin;have hg:xs.getD i false=x:=aL hx;refine gi (az hx) ?_;refine gC (fun t16=>?_) (fun t16=>?_)
  ·have h2:(b==x)=true:=t16;refine ae ?_;rw[gS hin hj (by rw[hg,h2];rfl)];rfl
  have h2:(b==x)=false:=t16;refine ga aG ?_;exact aE J1 (i+1) ⟨hin,fun j h9=>by rcases lt_or_ge j i with g |g;exact hj j g;(have:j=i:=by omega);subst this;rw[hg,h2];rfl⟩
 have hin:=a6 hi t9;subst hin;refine ae ?_;rw[iN hj];rfl
theorem EP(xs:List Bool)(b:Bool)(hl:xs.length<=281474976710656):FP 239 [.lst 1 (xs.map bl),bl b] (bl (xs.contains b)):=by
 refine ah func239 ?_;refine gc (Rr xs b hl) ?_;refine ae ?_;rw[<- BJ (xs:=xs) (b:=b) (ok:=fun i=>!(b==xs.getD i false)) (fun i x hx=>by rw[aL hx])];rfl
theorem IY(xs:List Int)(b:Int)(hl:xs.length<=281474976710656):FP 336 [.lst 1 (xs.map i64),i64 b] (i64 (lJ (db xs.length (fun i=>!(b==xs.getD i 0))))):=by
 refine ah func336 ?_;refine gl ?_;refine aI [0,1,7] [] (fun(i:Nat)=>[(8,some (i64 i))]) (fun _=>[]) (fun i=>i<=xs.length/\∀j,j<i->(!(b==xs.getD j 0))=true) (fun i=>xs.length-i) 0 ⟨zero_le _,fun j h=>by omega⟩ ?_;rintro i ⟨hi,hj⟩ K1 J1;refine gC (fun t9=>?_) (fun t9=>?_)
 ·have hin:=aU t9;obtain⟨x,hx⟩:=ay hin;have hg:xs.getD i 0=x:=aL hx;refine gi (az hx) ?_;refine gC (fun t16=>?_) (fun t16=>?_)
  ·have h2:(b==x)=true:=t16;refine ae ?_;rw[gS hin hj (by rw[hg,h2];rfl)];rfl
  have h2:(b==x)=false:=t16;refine ga aG ?_;exact aE J1 (i+1) ⟨hin,fun j h9=>by rcases lt_or_ge j i with g |g;exact hj j g;(have:j=i:=by omega);subst this;rw[hg,h2];rfl⟩
 have hin:=a6 hi t9;subst hin;refine ae ?_;rw[iN hj];rfl
theorem AW(xs:List Int)(b:Int)(hl:xs.length<=281474976710656):FP 240 [.lst 1 (xs.map i64),i64 b] (bl (xs.contains b)):=by
 refine ah func240 ?_;refine gc (IY xs b hl) ?_;refine ae ?_;rw[<- BJ (xs:=xs) (b:=b) (ok:=fun i=>!(b==xs.getD i 0)) (fun i x hx=>by rw[aL hx])];rfl
theorem Gf(l:Li)(hl:l.ok):FP 135 [l.av] (.tup [.lst 4 (((if aD l=0 then ax l else[])).map Gr.av),ba (if aD l=0 then co l else aD l)]):=by
 refine ah func135 ?_;refine gc (GS l hl) (hnm:=(by unfold pc;split <;> rfl)) ?_;refine gC (fun t12=>?_) (fun t12=>?_) (st2:=(77777,0))
 ·have h1:=cq t12;refine gR ?_;exact cT (by rw[if_neg h1,if_neg h1];exact Sub.tup (.cons (.nil _ _ _) (.cons (.refl _) .nil)))
 have hli:=b9 t12;have h8:=(c9 hli).2.2.2.1;have hj16:l.jo.length<=16:=by have:=(c9 hli).2.1;unfold dX at this;split at this;cases this;omega
 have lk1:(bN l).length=l.bo.length:=by unfold bN;rw[oN,gx]
 have lk2:(ez l).length=l.jo.length:=by unfold ez;rw[oN,length_replicate]
 have e1:pc l=.iptr (dg l (bN l) (bI l) [.lst 1 ((ez l).map bl),.lst 4 ((bZ l).map Gr.av)]):=by unfold pc;rw[if_pos hli]
 have c1:=zf (k:=bN l);have c2:=zf (k:=ez l);refine gW (Wk.of (sl:=[(4,some (.iptr (dg l (bN l) (bI l) [.lst 1 ((ez l).map bl),.lst 4 ((bZ l).map Gr.av)]))),(5,some (ba (aD l)))]) (hp:=[]) (.cons rfl (Sub.of e1) (.k .nil)) .nil) ?_;refine gc (EP (bN l) false oz) ?_;refine bw (fun _=>(EP (ez l) false oz)) ?_;refine gC (fun t25=>?_) (fun t25=>?_)
 ·have h2:co l=7:=by
   unfold co;rw[if_neg];intro h;have h3:(bN l).contains false=false:=c1.1 oz;have h4:(ez l).contains false=false:=c2.1 oz;rw[h3,h4]at t25;cases t25
  refine gR ?_;exact cT (by rw[if_pos hli,if_pos hli];unfold ax;rw[if_neg (by rw[h2];simp),h2];exact Sub.tup (.cons (.nil _ _ _) (.cons (.refl _) .nil)))
 have h2:co l=0:=by
  unfold co;rw[if_pos];cases h3:(bN l).contains false <;> cases h4:(ez l).contains false <;> rw[h3,h4]at t25 <;> first |(cases t25;done) |(have g1:=c1.2 h3;have g2:=c2.2 h4;omega)
 refine bi ?_;rw[if_pos hli,if_pos hli,h2];unfold ax;rw[if_pos h2];rfl
def SO(ys:List Int)(i:Nat):Prop:=∀p q,p<q->q<i->ys.getD p 0<=ys.getD q 0
def SI(ys:List Int)(i j:Nat):Prop:=∀p q,p<q->q<=i->q≠j->ys.getD p 0<=ys.getD q 0
theorem Ow{xs ys:List Int}{i:Nat}(hp:ys.Perm xs)(hi:ys.length<=i)(h:SO ys i):ys=dP xs:=by
 refine PN hp (List.pairwise_iff_getElem.2 fun p q hp hq hpq=>?_);have h1:=h p q hpq oz;rw[aL (getElem?_eq_getElem hp),aL (getElem?_eq_getElem hq)]at h1;exact h1
theorem GT{ys:List Int}{i:Nat}(h:SO ys i):SI ys i i:=fun p q h1 h2 h3=>h p q h1 oz
theorem Mj{ys:List Int}{i j:Nat}(h:SI ys i j)(hj:j=0\/ys.getD (j-1) 0<=ys.getD j 0):SO ys (i+1):=by
 intro p q h1 h2
 by_cases hq:q=j
 ·subst hq;rcases hj with hj |hj
  ·omega
  ·by_cases hp:p=q-1
   ·subst hp;exact hj
   ·exact Int.le_trans (h p (q-1) oz oz oz) hj
 ·exact h p q h1 oz hq
theorem Dh(ys:List Int)(i:Nat)(x:Int)(p:Nat)(hi:i<ys.length):(ys.set i x).getD p 0=if p=i then x else ys.getD p 0:=by
 rw[getD_eq_getElem?_getD,getD_eq_getElem?_getD,List.getElem?_set]
 by_cases h:i=p
 ·subst h;simp[hi]
 ·rw[if_neg h,if_neg (fun e=>h e.symm)]
theorem Hf{ys:List Int}{i j:Nat}(h:SI ys i j)(hj:0<j)(hi:j<=i)(hl:i<ys.length)(hlt:ys.getD j 0<ys.getD (j-1) 0):SI ((ys.set j (ys.getD (j-1) 0)).set (j-1) (ys.getD j 0)) i (j-1):=by
 intro p q h1 h2 h3
 have e:∀r,((ys.set j (ys.getD (j-1) 0)).set (j-1) (ys.getD j 0)).getD r 0=if r=j-1 then ys.getD j 0 else if r=j then ys.getD (j-1) 0 else ys.getD r 0:=fun r=>by
  rw[Dh _ _ _ _ (by rw[length_set];omega),Dh _ _ _ _ oz]
 rw[e,e,if_neg h3]
 by_cases hq:q=j
 ·rw[if_pos hq]
  by_cases hp:p=j-1
  ·rw[if_pos hp];omega
  ·rw[if_neg hp,if_neg oz];exact h p (j-1) oz oz oz
 ·rw[if_neg hq]
  by_cases hp:p=j-1
  ·rw[if_pos hp];exact h j q oz h2 hq
  ·rw[if_neg hp]
   by_cases hp2:p=j
   ·rw[if_pos hp2];exact h (j-1) q oz h2 hq
   ·rw[if_neg hp2];exact h p q h1 h2 hq
theorem Q0{ys:List Int}{j:Nat}{a b:Int}(ha:ys[j]?=some a)(hb:ys[j-1]?=some b):((ys.set j b).set (j-1) a).Perm ys:=by
 obtain⟨h1,rfl⟩:=List.getElem?_eq_some_iff.1 ha;obtain⟨h2,rfl⟩:=List.getElem?_eq_some_iff.1 hb;exact List.set_set_perm h1 h2
theorem Ih{j:Nat}{a b:Int}(h:cond (aa .gtr (j:Int) 0) (decide (a<b)) false=true):0<j/\a<b:=by
 cases h1:aa .gtr (j:Int) 0 <;> rw[h1]at h
 ·cases h
 ·exact⟨gX (b:=0) h1,of_decide_eq_true h⟩
theorem Jd{j:Nat}{a b:Int}(h:cond (aa .gtr (j:Int) 0) (decide (a<b)) false=false):j=0\/b<=a:=by
 cases h1:aa .gtr (j:Int) 0 <;> rw[h1]at h
 ·have:=fv (b:=0) h1;omega
 ·have h2:decide (a<b)=false:=h;have:=of_decide_eq_false h2;omega
theorem Jy(ys:List Int)(j:Nat)(a b:Int):((ys.map i64).set j (i64 b)).set (j-1) (i64 a)=((ys.set j b).set (j-1) a).map i64:=by rw[map_set,map_set]
theorem FD(a:Int):FP 387 [i64 a] (bl false):=by
 refine ah func387 ?_;refine ae ?_;simp[aa];rfl
theorem Qi(a b:Int):FP 343 [i64 a,i64 b] (bl (decide (a<b))):=by
 refine ah func343 ?_;refine gc (FD a) ?_;refine bw (fun _=>(FD b)) ?_;refine ae ?_
 first |rfl |(simp;done)
theorem P4(xs:List Int)(hl:xs.length<=12):Con prog 337 [.ms 1000 1 0 xs.length,i64 0,i64 xs.length] [(1000,some (.row 1 (xs.map i64)))] (.tup []) [(1000,some (.row 1 ((dP xs).map i64)))]:=by
 refine gF func337 (fun k z h=>bf h) ?_;refine ga (show _=((1:Nat):Int)from rfl) ?_;refine fp [1,2] [] (fun(ys:List Int)(i:Nat)=>[(0,some (.ms 1000 1 0 xs.length)),(6,some (i64 i))]) (fun ys _=>[(1000,some (.row 1 (ys.map i64)))]) (fun ys i=>ys.length=xs.length/\ys.Perm xs/\1<=i/\SO ys i) (fun _ i=>xs.length+1-i) xs 1 ⟨rfl,.refl _,le_refl _,fun p q h1 h2=>by omega⟩ ?_;rintro ys i ⟨hyl,hyp,hi1,hso⟩ K1 J1;refine gC (fun t12=>?_) (fun t12=>?_)
 ·have hin:=aU t12;refine fp [1,2,6] [] (fun (zs:List Int) (j:Nat)=>[(0,some (.ms 1000 1 0 xs.length)),(7,some (i64 j))]) (fun zs _=>[(1000,some (.row 1 (zs.map i64)))]) (fun zs j=>zs.length = xs.length /\ zs.Perm xs /\ j <= i /\ SI zs i j) (fun _ j=>j) ys i ⟨hyl,hyp,le_refl _,GT hso⟩ ?_;rintro zs j ⟨hzl,hzp,hji,hsi⟩ K2 J2;obtain ⟨a,ha⟩:=ay (show j < zs.length by omega);obtain ⟨b,hb⟩:=ay (show j - 1 < zs.length by omega);refine gs (dK rfl rfl rfl (fun h=>bG (n:=j) (.opt rfl (o1 h)) (.opt rfl (o1 h)) T39 rfl T3 rfl oz oz rfl)) ?_;refine gs (dK rfl rfl rfl (fun h=>dD (.opt rfl (o1 h)) rfl (az ha) T3 rfl rfl rfl)) ?_;refine k8 (fun h=>(io (gX (b:=0) h) (by unfold aO; omega))) ?_;refine gs (dK rfl rfl rfl (fun h=>bG (n:=(j - 1)) (.opt rfl (o1 h)) (.opt rfl (o1 h)) T39 rfl T3 rfl oz oz rfl)) ?_;refine gs (dK rfl rfl rfl (fun h=>dD (.opt rfl (o1 h)) rfl (az hb) T3 rfl rfl rfl)) ?_;refine bw (fun _=>(Qi a b)) ?_;refine gD ?_;refine gC (fun t30=>?_) (fun t30=>?_)
  ·obtain⟨hj0,hab⟩:=Ih t30;refine ga (io hj0 (by unfold aO;omega)) ?_;refine ga (io hj0 (by unfold aO;omega)) ?_;refine gs (bG (n:=(j-1)) (.tmp rfl) (.tmp rfl) T39 rfl T3 rfl oz oz rfl) ?_;refine gs (dD (.tmp rfl) rfl (az hb) T3 rfl rfl rfl) ?_;refine gs (bG (n:=j) (.tmp rfl) (.tmp rfl) T39 rfl T3 rfl oz oz rfl) ?_;refine gs (dD (.tmp rfl) rfl (az ha) T3 rfl rfl rfl) ?_;refine gs (bG (n:=j) (.tmp rfl) (.tmp rfl) T39 rfl T3 rfl oz oz rfl) ?_;refine gs (cW (.tmp rfl) rfl (az ha) rfl (.tmp rfl) rfl rfl T3 rfl rfl) ?_;refine gs (bG (n:=(j-1)) (.tmp rfl) (.tmp rfl) T39 rfl T3 rfl oz oz rfl) ?_;refine gs (cW (.tmp rfl) rfl ((List.getElem?_set_ne oz).trans (az hb)) rfl (.tmp rfl) rfl rfl T3 rfl rfl) ?_;refine gD ?_;refine ga (io hj0 (by unfold aO;omega)) ?_;exact fi J2 ((zs.set j b).set (j-1) a) (j-1) ⟨by rw[length_set,length_set];exact hzl,(Q0 ha hb).trans hzp,by omega,by have h9:=Hf hsi hj0 hji oz (by rw[aL ha,aL hb];exact hab);rw[aL ha,aL hb]at h9;exact h9⟩ (hw:=Wk.of aR (.cons rfl (BlkSub.of (congrArg (Blk.row 1) (Jy zs j a b))) .nil))
  have hs:=Jd t30;refine ga aG ?_;exact fi J1 zs (i+1) ⟨hzl,hzp,by omega,Mj hsi (by rw[aL ha,aL hb];exact hs)⟩
 have hin:=rV t12;refine gR ?_;exact ak.own2 rfl (by rw[<- Ow hyp oz hso]) rfl
theorem Q1(xs:List Int)(hl:xs.length<=12)(m:Int):Con prog 241 [.ms 1000 1 0 xs.length,i64 0,i64 xs.length,i64 m] [(1000,some (.row 1 (xs.map i64)))] (.tup []) [(1000,some (.row 1 ((dP xs).map i64)))]:=by
 refine gF func241 (fun k z h=>bf h) ?_;refine M2 [1,2,3,8,9] [1000] [(0,some (.ms 1000 1 0 xs.length))] [] (True) (0) trivial ?_;rintro-K1 J1;refine ga (cU oz) ?_;refine gC (fun t23=>?_) (fun t23=>?_) (st2:=(77777,0))
 ·refine gt (aA (P4 xs hl) (aB rfl rfl rfl) aC rfl rfl) ?_;refine gR ?_;exact ak.own2 rfl rfl rfl
 (rw[show aa .leq ((xs.length:Int)-0) 12=true from decide_eq_true oz]at t23;cases t23)
theorem MD(x:Nat)(hx:x<256):FP 347 [u64 x] (i64 (aT x)):=by
 refine ah func347 ?_;refine gC (fun t4=>?_) (fun t4=>?_) (st1:=(2,0))
 ·(have:=t4;simp[aa]at this;omega)
 refine gC (fun t8=>?_) (fun t8=>?_) (st1:=(5,0))
 ·(have:=t8;simp[aa]at this;omega)
 refine gC (fun t14=>?_) (fun t14=>?_) (st1:=(8,0))
 ·(have:=t14;simp[aa]at this;omega)
 refine gv (iF hx) ?_;refine gs (pj (y:=x) (.const _) (.tmp rfl) T9 rfl (by kernel_rfl) (by first |rfl |omega) oz rfl) ?_;refine gv (i64_in (by have:=gL hx;omega)) ?_;refine ga (cG (by have:=gL hx;omega)) ?_;refine ae ?_;simp only[i64];congr 2;omega
theorem Ik(x:Nat)(hx:x<256):FP 242 [u64 x] (i64 (aT x)):=by
 refine ah func242 ?_;refine gC (fun hcfalse=>?_) (fun hcfalse=>?_) (st1:=(1,0));cases hcfalse;refine gc (MD x hx) ?_;refine ae ?_
 first |rfl |(simp;done)
theorem NI(xs:List Int)(hl:xs.length<=12):Con prog 137 [.ms 1000 1 0 xs.length] [(1000,some (.row 1 (xs.map i64)))] (.tup []) [(1000,some (.row 1 ((dP xs).map i64)))]:=by
 refine gF func137 (fun k z h=>bf h) ?_;refine gv (show IntKind.u64.wrap _=((xs.length:Nat):Int)from u64_in oz) ?_;refine gc (Ik xs.length oz) ?_;refine gt (aA (Q1 xs hl _) (.cons (.tmp rfl) (.cons (.const _) (be rfl rfl))) aC rfl rfl) ?_;refine gR ?_;exact ak.own2 rfl rfl rfl
theorem Iu{l:Li}{g:Gr}{i:Nat}{z:Int}{j:Jt}(hz:g.jo[i]?=some z)(hj:l.jo[z.toNat]?=some j):(eN l g)[i]?=some (iM g j):=by
 unfold eN;rw[getElem?_map,hz,Option.map_some,aL hj]
theorem yD{l:Li}{g:Gr}{i:Nat}{z:Int}{j:Jt}{a:Int}(hz:g.jo[i]?=some z)(hj:l.jo[z.toNat]?=some j)(ha:iM g j=a):((eN l g).take i).map i64++[i64 a]=((eN l g).take (i+1)).map i64:=by
 rw[cR (Iu hz hj),ha,map_append];rfl
theorem Ra{z:Int}{n:Nat}(h0:0<=z)(h1:z<n):cond (aa .lss z 0) true (aa .geq z (n:Int))=false:=by
 rw[show aa .lss z 0=false from decide_eq_false oz];exact decide_eq_false oz
theorem Ja(l:Li)(hl:l.ok)(hli:aD l=0)(g:Gr)(hg:GrOk l g):Con prog 136 [l.av,g.av] [] (.tup [.ms 900 1 0 g.jo.length,.v .nilIface]) [(900,some (.row 1 ((eN l g).map i64)))]:=by
 have hlb:=hg.lb;have hlj:=hg.lj;refine gF func136 (fun k z h=>by cases h) ?_;refine gc (DT l hl) ?_;refine gC (fun t16=>?_) (fun t16=>?_) (st1:=(3,0))
 ·(rw[hli]at t16;cases t16)
 refine gl ?_;refine gW ((Wk.virt 900 1 rfl).trans<|Wk.of (sl:=[(2,some (.ptr 2 0)),(3,some (.ptr 3 0)),(7,some (.ms 900 1 0 0)),(19,some (.lst 1 (g.jo.map i64))),(20,some (i64 g.jo.length)),(21,some (i64 0))]) (hp:=[(2,some (.box l.av.cells)),(3,some (.box g.av.cells)),(900,some (.row 1 []))]) (.k (.k (.cons rfl (Sub.nM _ _ _) (.k (.k (.k .nil)))))) (.k (.k (.k .nil)))) ?_;refine aI [2,3,19,20] [2,3] (fun(i:Nat)=>[(7,some (.ms 900 1 0 i)),(21,some (i64 i))]) (fun i=>[(900,some (.row 1 (((eN l g).take i).map i64)))]) (fun i=>i<=g.jo.length) (fun i=>g.jo.length-i) 0 (zero_le _) ?_;rintro i hi K1 J1;refine gC (fun t22=>?_) (fun t22=>?_) (st2:=(18,0))
 ·have hin:=aU t22;obtain ⟨z,hz⟩:=ay hin;obtain ⟨z0,z1⟩:=hg.j z (mem_of_getElem? hz);obtain ⟨j,hj⟩:∃ j,l.jo[z.toNat]? = some j:=ay oz;have hlt:(((eN l g).take i).map i64).length = i:=by rw [length_map,length_take,n6]; omega
  refine gi (az hz) ?_;refine bH ?_;refine gC (fun t33=>?_) (fun t33=>?_) (st1:=(9,0))
  ·(rw[Ra z0 z1]at t33;cases t33)
  refine gi (f8 (n:=z.toNat) oz hj) ?_;refine gc (AW g.bo j.a oz) ?_;refine gc (AW g.bo j.b oz) ?_;refine gD ?_;refine gC (fun t55=>?_) (fun t55=>?_)
  ·have ha : iM g j = -1 := by unfold iM; cases h1 : g.bo.contains j.a <;> cases h2 : g.bo.contains j.b <;> rw [h1, h2] at t55 <;> first | (cases t55; done) | rfl
   refine gs (bU (.tmp rfl) rfl hlt.symm (.tmp rfl) T39 rfl T3 rfl rfl (by simp only[length_cons,length_nil];omega) rfl rfl) ?_ (17,0);refine gW (Wk.of (sl:=[(2,some (.ptr 2 0)),(3,some (.ptr 3 0)),(7,some (.ms 62 1 0 (i+1))),(19,some (.lst 1 (g.jo.map i64))),(20,some (i64 g.jo.length)),(21,some (i64 i))]) (hp:=[(2,some (.box l.av.cells)),(3,some (.box g.av.cells)),(62,some (.row 1 (((eN l g).take (i+1)).map i64)))]) aR (.k (.k (.cons rfl (BlkSub.of (congrArg (Blk.row 1) (yD hz hj ha))) .nil)))) ?_ (17,0);refine gW (Wk.rk (k:=62) (d:=900) rfl rfl) ?_;refine ga aG ?_;exact aE J1 (i+1) hin
  refine gC (fun t63=>?_) (fun t63=>?_)
  ·have ha : iM g j = j.b := by unfold iM; cases h1 : g.bo.contains j.a <;> cases h2 : g.bo.contains j.b <;> rw [h1] at t63 <;> rw [h1, h2] at t55 <;> first | (cases t55; done) | (cases t63; done) | rfl
   refine gs (bU (.tmp rfl) rfl hlt.symm (.tmp rfl) T39 rfl T3 rfl rfl (by simp only[length_cons,length_nil];omega) rfl rfl) ?_ (17,0);refine gW (Wk.of (sl:=[(2,some (.ptr 2 0)),(3,some (.ptr 3 0)),(7,some (.ms 69 1 0 (i+1))),(19,some (.lst 1 (g.jo.map i64))),(20,some (i64 g.jo.length)),(21,some (i64 i))]) (hp:=[(2,some (.box l.av.cells)),(3,some (.box g.av.cells)),(69,some (.row 1 (((eN l g).take (i+1)).map i64)))]) aR (.k (.k (.cons rfl (BlkSub.of (congrArg (Blk.row 1) (yD hz hj ha))) .nil)))) ?_ (17,0);refine gW (Wk.rk (k:=69) (d:=900) rfl rfl) ?_;refine ga aG ?_;exact aE J1 (i+1) hin
  have ha:iM g j=j.a:=by unfold iM;rw[if_neg (by rw[show g.bo.contains j.a=false from t63];simp)]
  refine gs (bU (.tmp rfl) rfl hlt.symm (.tmp rfl) T39 rfl T3 rfl rfl (by simp only[length_cons,length_nil];omega) rfl rfl) ?_ (17,0);refine gW (Wk.of (sl:=[(2,some (.ptr 2 0)),(3,some (.ptr 3 0)),(7,some (.ms 54 1 0 (i+1))),(19,some (.lst 1 (g.jo.map i64))),(20,some (i64 g.jo.length)),(21,some (i64 i))]) (hp:=[(2,some (.box l.av.cells)),(3,some (.box g.av.cells)),(54,some (.row 1 (((eN l g).take (i+1)).map i64)))]) aR (.k (.k (.cons rfl (BlkSub.of (congrArg (Blk.row 1) (yD hz hj ha))) .nil)))) ?_ (17,0);refine gW (Wk.rk (k:=54) (d:=900) rfl rfl) ?_;refine ga aG ?_;exact aE J1 (i+1) hin
 have hin:=a6 hi t22;subst hin;refine gW (Wk.of (sl:=[(7,some (.ms 900 1 0 g.jo.length))]) (hp:=[(900,some (.row 1 ((eN l g).map i64)))]) aR (.cons rfl (BlkSub.of (by rw[take_of_length_le (by rw[n6];exact le_refl _)])) .nil)) ?_;refine gR ?_;exact ak.keep (aZ rfl)
theorem IB{b:List Rt}{rs:List (List Rt)}{e:Nat}(hb:NR b e)(hn:bF rs.length b=0)(h5:rs.length<=5):Nm rs.length e (lq b):=⟨h5,(hb.num hn).2,hb.cb⟩
theorem MB(x y:Rt)(hx:x.ok)(hy:y.ok)(qx:Qs x.q)(qy:Qs y.q):FP 54 [x.av,y.av] (aJ (sh 0 (x.q:Rat)) (sh 0 (y.q:Rat))):=by
 refine ah func54 ?_;refine gc (yv x hx qx) ?_;refine gc (yv y hy qy) ?_;refine gD ?_;refine ae ?_
 first |rfl |(simp;done)
theorem K0(rs:List (List Rt))(r e:Nat)(h:TR rs r)(xs:List (List Rt))(hx:∀a∈xs,NR a e)(he:e<=lm rs.length)(hl:xs.length<=1000):FP 177 [cz rs,.lst 1 (xs.map nR)] (ba (bc rs xs)):=by
 refine ah func177 ?_;refine gc (my rs r h) ?_;refine gC (fun t13=>?_) (fun t13=>?_)
 ·have h1:=cq t13;refine ae ?_;rw[wR h1]
 have h1:=b9 t13;refine gl ?_;refine aI [2,15,16] [2] (fun(i:Nat)=>[(17,some (i64 i))]) (fun _=>[]) (fun i=>i<=xs.length/\∀x∈xs.take i,bF rs.length x=0) (fun i=>xs.length-i) 0 ⟨zero_le _,fun x hx=>by simp at hx⟩ ?_;rintro i ⟨hi,hj⟩ K1 J1;refine gC (fun t18=>?_) (fun t18=>?_)
 ·have hin : i < xs.length := by simpa [aa] using t18
  obtain⟨a,ha⟩:=ay hin;have hok:=hx a (mem_of_getElem? ha);have hone:bc rs [a]=bF rs.length a:=D4 h1;refine gi (az ha) ?_;refine gc (xZ rs r h a e hok he) ?_;refine gC (fun t28=>?_) (fun t28=>?_)
  ·have h2:=cq t28;refine ae ?_;rw[hone]at h2 ⊢;rw[sZ h1 ha hj h2]
  have h2:=b9 t28;rw[hone]at h2;refine ga aG ?_;exact aE J1 (i+1) ⟨hin,fun x hx=>by rw[cR ha]at hx;rcases List.mem_append.1 hx with h9 |h9;exact hj x h9;(rw[List.mem_singleton.1 h9];exact h2)⟩
 have hin:i=xs.length:=by have:xs.length<=i:=(by simpa[aa]using t18);omega
 subst hin;rw[take_length]at hj;refine ae ?_;rw[nv h1 hj];rfl
def wi(rs:List (List Rt))(b:Pl)(x y:Rt):List Rat:=sh (llq rs).length (si (llq rs) (ad (llq rs).length (lq b.c)) (ad (llq rs).length (lq b.s)) (ad (llq rs).length (lq b.x)) x.q y.q)
def vd(rs:List (List Rt))(b:Pl)(x y:Rt):List Rat:=sh (llq rs).length (uK (llq rs) (ad (llq rs).length (lq b.c)) (ad (llq rs).length (lq b.s)) (ad (llq rs).length (lq b.y)) x.q y.q)
theorem xj(rs:List (List Rt)):(llq rs).length=rs.length:=by simp[llq]
structure PlN(rs:List (List Rt))(b:Pl)(e:Nat):Prop where
  c:Nm (llq rs).length e (lq b.c)
  s:Nm (llq rs).length e (lq b.s)
  x:Nm (llq rs).length e (lq b.x)
  y:Nm (llq rs).length e (lq b.y)
  av:b.av=.agg [nA (lq b.c),nA (lq b.s),nA (lq b.x),nA (lq b.y)]
theorem Oi{rs:List (List Rt)}{b:Pl}{e r:Nat}(h:TR rs r)(hb:∀x∈b.l,NR x e)(hc:bc rs b.l=0):PlN rs b e:=by
 obtain⟨h1,h2⟩:=kR hc;obtain⟨tw,_⟩:=cH h h1;have h5:rs.length<=5:=by have:=tw.five;rwa [xj]at this
 have k:∀x∈b.l,Nm (llq rs).length e (lq x)/\nR x=nA (lq x):=fun x hx=>by
  rw[xj];exact⟨IB (hb x hx) (h2 x hx) h5,((hb x hx).num (h2 x hx)).1⟩
 have k1:=k b.c (by simp[Pl.l]);have k2:=k b.s (by simp[Pl.l]);have k3:=k b.x (by simp[Pl.l]);have k4:=k b.y (by simp[Pl.l]);exact⟨k1.1,k2.1,k3.1,k4.1,by unfold Pl.av;rw[k1.2,k2.2,k3.2,k4.2]⟩
theorem GM(rs:List (List Rt))(r e:Nat)(h:TR rs r)(h1:aX rs=0)(b:Pl)(hb:∀x∈b.l,NR x e)(x y:Rt)(hx:x.ok)(hy:y.ok)(qx:Qb e x.q)(qy:Qb e y.q)(he:8*e+4*kB r rs.length+4<=lm rs.length) :
  FP 86 [cz rs,b.av,x.av,y.av] (.tup [aJ (if bc rs b.l=0 then wi rs b x y else[]) (if bc rs b.l=0 then vd rs b x y else[]),ba (bc rs b.l)]):=by
 have hlm:=iT rs.length;have hbl:[b.c,b.s,b.x,b.y]=b.l:=rfl;refine ah func86 ?_;refine gc (K0 rs r e h b.l hb oz (by simp[Pl.l])) ?_;refine gC (fun t25=>?_) (fun t25=>?_)
 ·have h2:=cq t25;refine gR ?_;exact cT (by rw[if_neg h2,if_neg h2];exact Sub.tup (.cons (Sub.agg (.cons (.nil _ _ _) (.cons (.nil _ _ _) .nil)) rfl) (.cons (.refl _) .nil)))
 have h2:=b9 t25;obtain⟨tw,etw⟩:=cH h h1;have pn:=Oi h hb h2;have ec:nR b.c=nA (lq b.c):=by have:=pn.av;unfold Pl.av at this;simp only[AV.agg.injEq,List.cons.injEq]at this;exact this.1
 have es:nR b.s=nA (lq b.s):=by have:=pn.av;unfold Pl.av at this;simp only[AV.agg.injEq,List.cons.injEq]at this;exact this.2.1
 have ex:nR b.x=nA (lq b.x):=by have:=pn.av;unfold Pl.av at this;simp only[AV.agg.injEq,List.cons.injEq]at this;exact this.2.2.1
 have ey:nR b.y=nA (lq b.y):=by have:=pn.av;unfold Pl.av at this;simp only[AV.agg.injEq,List.cons.injEq]at this;exact this.2.2.2.1
 have etl:(AV.lst 1 (rs.map nR))=.lst 1 ((llq rs).map nA):=ko etw;rw[ec,es,ex,ey,etl];rw[<- xj rs]at he;have nx:=Nm.ofQ pn.c.five (Cb.one qx);have ny:=Nm.ofQ pn.c.five (Cb.one qy);have nX:=s7 tw pn.c pn.s nx ny;have nY:=tO tw pn.c pn.s nx ny;have z1:e<=2*(e+e+kB r (llq rs).length)+1:=by omega
 have z2:2*(2*(e+e+kB r (llq rs).length)+1)<=lm (llq rs).length:=BC he;have hadd:=FE tw nX nY (pn.x.mono z1) (pn.y.mono z1) z2;have hlm2:=iT (llq rs).length;refine gc (MB x y hx hy (qx.qs oz) (qy.qs oz)) ?_;refine gc (wI tw pn.c pn.s nx ny oz) ?_;refine gD ?_;refine gC (fun t41=>?_) (fun t41=>?_) (st1:=(6,0));cases t41;refine gc hadd ?_;refine bi ?_;rw[if_pos h2,if_pos h2,h2,yM,wF];rfl
section
variable{ts:LL}{u k:Nat}{a b a2 b2:List Rat}{x y x2 y2:Et ts}{w v w' v' w2 v2 w3 v3:Nat}
theorem v7(c:Ct ts u k)(h:w+v+(w'+v')<=10000):w*u+v*k+(w'*u+v'*k)+1<=lm ts.length:=by
 have h1:=zx c (w:=w+w') (v:=v+v') (m:=10000) oz;have h2:=iZ ts.length;rw[uO];omega
theorem Fv(c:Ct ts u k){R:Nat}(h:eB R ts.length<=k):2*(2500*1000000+2500*1000000+kB R ts.length)<=lm ts.length:=by
 have h1:=c.kk h;have h2:=iZ ts.length;omega
theorem LC [c : Ct ts u k] [ha : Zl ts u k a x w v] [hb : Zl ts u k b y w' v'] (h : w + v + (w' + v') <= 10000 := by decide) : FP 329 [aN ts, nA a, nA b] (.tup [nA (sX (x + y)), .v .nilIface]) := by
 obtain⟨R,tw,hk⟩:=c.ex;have h0:=v7 c h;have h1:=v6 tw ha.nm hb.nm oz;rw[ha.eq,hb.eq]at h1;exact h1
theorem Ae [c : Ct ts u k] [ha : Zl ts u k a x w v] [hb : Zl ts u k b y w' v'] (h : w + v + (w' + v') <= 10000 := by decide) : FP 163 [aN ts, nA a, nA b] (.tup [nA (sX (x - y)), .v .nilIface]) := by
 obtain⟨R,tw,hk⟩:=c.ex;have h0:=v7 c h;have h1:=mV tw ha.nm hb.nm oz;rw[ha.eq,hb.eq]at h1;exact h1
theorem zi [c : Ct ts u k] [ha : Zl ts u k a x w v] [hb : Zl ts u k b y w' v'] (h : w + v + (w' + v') <= 10000 := by decide) : FP 164 [aN ts, nA a, nA b] (.tup [nA (sX (x * y)), .v .nilIface]) := by
 obtain⟨R,tw,hk⟩:=c.ex;have h0:=v7 c h;have h1:=xJ tw ha.nm hb.nm oz;rw[ha.eq,hb.eq]at h1;exact h1
theorem JZ [c : Ct ts u k] [ha : Zl ts u k a x w v] [hb : Zl ts u k b y w' v'] [ha2 : Zl ts u k a2 x2 w2 v2] [hb2 : Zl ts u k b2 y2 w3 v3] (h : w + v + (w' + v') + (w2 + v2 + (w3 + v3)) <= 2500 := by decide) :
  FP 77 [aN ts,aJ a b,aJ a2 b2] (.tup [nA (sX (dotE x y x2 y2)),.v .nilIface]):=by
 obtain⟨R,tw,hk⟩:=c.ex;have h0:=Fv c hk;have h1:=yG (e:=2500*1000000) tw (ha.up c oz) (hb.up c oz) (ha2.up c oz) (hb2.up c oz) oz;rw[ha.eq,hb.eq,ha2.eq,hb2.eq]at h1;exact h1
def atXE(c s X:Et ts)(p q:Rat):Et ts:=(c*qE p-s*qE q)+X
def atYE(c s Y:Et ts)(p q:Rat):Et ts:=(s*qE p+c*qE q)+Y
instance Zu.atXE[c:Ct ts u k]{x y z:Et ts}{p q:Rat}{w1 v1 w2 v2 w3 v3 w4 w5:Nat}[Zu u k x w1 v1][Zu u k y w2 v2][Zu u k z w3 v3][Qz u p w4][Qz u q w5]:Zu u k (atXE x y z p q) (w1+w4+(w2+w5)+w3) (v1+0+1+(v2+0+1)+1+v3+1) :=
  (inferInstance:Zu u k ((x*Lw.qE p-y*Lw.qE q)+z) _ _)
instance Zu.atYE[c:Ct ts u k]{x y z:Et ts}{p q:Rat}{w1 v1 w2 v2 w3 v3 w4 w5:Nat}[Zu u k x w1 v1][Zu u k y w2 v2][Zu u k z w3 v3][Qz u p w4][Qz u q w5]:Zu u k (atYE x y z p q) (w2+w4+(w1+w5)+w3) (v2+0+1+(v1+0+1)+1+v3+1) :=
  (inferInstance:Zu u k ((y*Lw.qE p+x*Lw.qE q)+z) _ _)
end
abbrev GW(l:Li)(g:Gr)(a:As):List AV:=[.v (.string l.name),.lst 2 (l.bo.map Bd.av),.lst 7 (l.jo.map Jt.av),.lst 2 (l.dv.map Dr.av),i64 g.kind,.lst 1 (g.bo.map i64),.lst 1 (g.jo.map i64),i64 g.driver,
  .lst 1 (a.rs.map nR),.lst 4 (a.bs.map Pl.av),.lst 1 (a.ms.map i64),.v .nilIface]
abbrev bX(l:Li)(g:Gr)(a:As):Blk:=.box (GW l g a)
def nJ(e:Nat):AV:=if e=0 then .ptr 900 0 else .v (.pointer none)
def zI(e:Nat)(l:Li)(g:Gr)(a:As):Hp:=if e=0 then[(900,some (bX l g a))]else[]
theorem jZ{e:Nat}(h:e≠0):nJ e=.v (.pointer none):=if_neg h
theorem oH{e:Nat}{l:Li}{g:Gr}{a:As}(h:e≠0):zI e l g a=[]:=if_neg h
theorem DI(l:Li)(g:Gr):ci l g true=eN l g++g.bo:=rfl
theorem BB(l:Li)(g:Gr):ci l g false=eN l g:=by unfold ci;simp
theorem MR{rs:List (List Rt)}{b:Pl}{i:Nat}{x:List Rt}(h:aX rs=0)(hx:b.l[i]?=some x)(hb:∀y∈b.l.take i,bF rs.length y=0)(hn:bF rs.length x≠0):bc rs b.l=bF rs.length x:=sZ h hx hb hn
theorem GX{l:Li}{g:Gr}{a:As}{own:Bool}{j:Nat}{b:Int}(hb:(dP (ci l g own))[j]?=some b)(hj:∀c∈(dP (ci l g own)).take j,fE a c=0)(hn:fE a b≠0):dS ((dP (ci l g own)).map (fE a))=fE a b:=by
 have h1:dP (ci l g own)=(dP (ci l g own)).take j++b::(dP (ci l g own)).drop (j+1):=by
  obtain⟨hi,e⟩:=List.getElem?_eq_some_iff.1 hb;rw[<- e,<- List.drop_eq_getElem_cons hi,List.take_append_drop]
 generalize dP (ci l g own)=xs at *;rw[h1,map_append,pZ _ _ (pK hj),map_cons,FH,if_pos hn]
theorem JG(l:Li)(hl:l.ok)(k:Int)(a:As)(al:AB a)(own:Bool) :
  Con prog 61 [l.av,i64 k,a.av,bl own] [] (.tup [nJ (eT l k a own),ba (eT l k a own)]) (zI (eT l k a own) l (ip l k) a):=by
 have hbl:=al.bl;refine gF func61 (fun k z h=>by cases h) ?_;refine gc (Gf l hl) ?_;refine gC (fun t27=>?_) (fun t27=>?_)
 ·have h1:=cq t27;refine gR ?_;rw[HJ rfl h1,jZ h1,oH h1];exact kN rfl
 have h1:=b9 t27;obtain⟨hli,hsp⟩:=Av h1;rw[show(if aD l=0 then ax l else[])=ax l from if_pos hli];have hbs:=(c9 hli).2.2.2.1;have hgl:=(qI hli).2;have hsg:ax l=bZ l:=by unfold ax;rw[if_pos hsp]
 refine bH ?_;refine gC (fun t36=>?_) (fun t36=>?_)
 ·have h2:=Ch t36;have he:eT l k a own=9:=(ns hli).trans (H6 hsp h2);refine gR ?_;rw[he,jZ (by decide),oH (by decide)];exact kN rfl
 have h2:=AP t36;refine gl ?_;refine gl ?_;refine gC (fun t44=>?_) (fun t44=>?_)
 ·have h3:=tG t44;have he:eT l k a own=10:=(ns hli).trans (ON hsp h2 h3);refine gR ?_;rw[he,jZ (by decide),oH (by decide)];exact kN rfl
 have h3:=tb t44;refine gc (my a.rs 400000000 al.tr) ?_;refine gC (fun t50=>?_) (fun t50=>?_)
 ·have h4:=cq t50;refine gR ?_;rw[(ns hli).trans (L5 hsp h2 h3 h4),jZ h4,oH h4];exact kN rfl
 have h4:=b9 t50;obtain⟨i,rfl,hi⟩:=BP h2;obtain⟨g,hg⟩:=ay hi;obtain⟨hgd,hgo⟩:=rh hli (mem_of_getElem? hg);have hgA:ip l (i:Nat)=g:=aL hg;rw[hgA];have he5:eT l (i:Nat) a own=dS ((dP (ci l g own)).map (fE a)):=by rw[<- hgA];exact(ns hli).trans (CQ hsp h2 h3 h4)
 have hnl:(ci l g own).length<=5:=HQ hgo;have hgb:=hgo.lb;have hgj:=hgo.lj;refine gi (az hg) ?_;refine gt (aA (Ja l hl hli g hgo) (be rfl rfl) aC rfl rfl) ?_;refine gD ?_;refine gC (fun t62=>?_) (fun t62=>?_) (st1:=(13,0));cases t62;refine EM [1,4,6,10] [4,6] [(13,some (.ms 900 1 0 (ci l g own).length))] [(900,some (.row 1 ((ci l g own).map i64)))] (True) ?_ ?_
 ·intro K1 J1;refine gC (fun t64=>?_) (fun t64=>?_)
  ·have ho:own=true:=t64;subst ho;refine gi (az hg) ?_;refine gs (bU (.tmp rfl) rfl (by rw[length_map,n6]) (.tmp rfl) T39 rfl T3 rfl rfl (by simp only[length_map];omega) rfl rfl) ?_;exact sa J1 trivial (hw:=(Wk.of (sl:=[(1,some (i64 i)),(4,some (.ptr 4 0)),(6,some (.ptr 6 0)),(10,some (.lst 4 ((ax l).map Gr.av))),(13,some (.ms 71 1 0 (ci l g true).length))]) (hp:=[(4,some (.box l.av.cells)),(6,some (.box a.av.cells)),(71,some (.row 1 ((ci l g true).map i64)))]) (.k (.k (.k (.k (.cons rfl (Sub.of (by rw[DI,length_append,n6,length_map])) .nil))))) (.k (.k (.cons rfl (BlkSub.of (by rw[DI,map_append])) .nil)))).trans<|(Wk.rk (k:=71) (d:=900) rfl rfl).trans<|Wk.o)
  have ho:own=false:=t64;subst ho;exact sa J1 trivial (hw:=Wk.of (.cons rfl (Sub.of (by rw[BB,n6])) (.k (.k (.k (.k .nil))))) (.cons rfl (BlkSub.of (by rw[BB])) (.k (.k .nil))))
 rintro -;refine gt (aA (Con.rk 900 rfl rfl (NI (ci l g own) oz)) (cf rfl) aC rfl rfl) ?_ (17,0);refine gW ((Wk.freeze (k:=900) rfl).trans<|Wk.of (sl:=[(1,some (i64 i)),(4,some (.ptr 4 0)),(6,some (.ptr 6 0)),(10,some (.lst 4 ((ax l).map Gr.av))),(13,some (.lst 1 ((dP (ci l g own)).map i64)))]) (hp:=[(4,some (.box l.av.cells)),(6,some (.box a.av.cells))]) (.k (.k (.k (.k (.cons rfl (Sub.of (bB (by rw[length_map,Bh]))) .nil))))) (.k (.k .nil))) ?_;refine gl ?_;refine aI [1,4,6,10,74,75] [4,6] (fun(j:Nat)=>[(76,some (i64 j))]) (fun _=>[]) (fun j=>j<=(dP (ci l g own)).length/\∀b∈(dP (ci l g own)).take j,fE a b=0) (fun j=>(dP (ci l g own)).length-j) 0 ⟨zero_le _,fun b hb=>by simp at hb⟩ ?_;rintro j ⟨hj,hjz⟩ K2 J2;refine gC (fun t77=>?_) (fun t77=>?_)
 ·have hjn:=aU t77;obtain ⟨b,hb⟩:=ay hjn;have hbm:=v8.1 (mem_of_getElem? hb);have hbr:=xi hli hgo b hbm;have hsl:(dP (ci l g own)).length <= 5:=by rw [Bh]; exact hnl
  refine gi (az hb) ?_;refine gC (fun t81=>?_) (fun t81=>?_)
  ·have hz : fE a b = 0 := by unfold fE; rw [if_pos (by simpa [aa] using t81)]
   refine ga aG ?_;exact aE J2 (j+1) ⟨hjn,fun c hc=>by rw[cR hb]at hc;rcases List.mem_append.1 hc with h9 |h9;exact hjz c h9;(rw[List.mem_singleton.1 h9];exact hz)⟩
  have hb0:0<=b:=by have:=of_decide_eq_false (p:=b<0) t81;omega
  obtain⟨p,hp⟩:=ay (l:=a.bs) (i:=b.toNat) oz;have hpn:=al.nr p (mem_of_getElem? hp);have hnd:fE a b=bc a.rs p.l:=by unfold fE;rw[if_neg oz,aL hp]
  refine gi (f8 (n:=b.toNat) oz hp) ?_;refine ge rfl ?_;refine aI [1,4,6,10,74,75,76,95,96] [4,6] (fun(q:Nat)=>[(97,some (i64 q))]) (fun _=>[]) (fun q=>q<=4/\∀x∈p.l.take q,bF a.rs.length x=0) (fun q=>4-q) 0 ⟨zero_le _,fun x hx=>by simp at hx⟩ ?_;rintro q ⟨hq,hqz⟩ K3 J3;refine gC (fun t98=>?_) (fun t98=>?_)
  ·have hqn:q<4:=aU (b:=4) t98;obtain⟨x,hx⟩:∃x,p.l[q]?=some x:=ay (show q<p.l.length from hqn);have hxn:=hpn x (mem_of_getElem? hx);have hone:bc a.rs [x]=bF a.rs.length x:=D4 h4;refine gi (az hx) ?_;refine gc (xZ a.rs 400000000 al.tr x 50000000000 hxn (M7 _)) ?_;refine gC (fun t109=>?_) (fun t109=>?_)
   ·have h5:=cq t109;rw [hone] at h5 ⊢;have h6:fE a b = bF a.rs.length x:=hnd.trans (MR h4 hx hqz h5);have h7:eT l (i:Nat) a own = bF a.rs.length x:=by rw [he5,GX hb hjz (by rw [h6]; exact h5),h6]
    refine gR ?_;rw[h7,jZ h5,oH h5];exact kN rfl
   have h5:=b9 t109;rw[hone]at h5;refine ga aG ?_;exact aE J3 (q+1) ⟨hqn,fun z hz=>by rw[cR hx]at hz;rcases List.mem_append.1 hz with h9 |h9;exact hqz z h9;(rw[List.mem_singleton.1 h9];exact h5)⟩
  have hqn:q=4:=a6 (b:=4) hq t98;subst hqn;have hqz:∀x∈p.l,bF a.rs.length x=0:=hqz;refine ga aG ?_;exact aE J2 (j+1) ⟨hjn,fun c hc=>by rw[cR hb]at hc;rcases List.mem_append.1 hc with h9 |h9;exact hjz c h9;(rw[List.mem_singleton.1 h9,hnd];exact nv h4 hqz)⟩
 have hjn:=a6 hj t77
 have h8:eT l (i:Nat) a own=0:=by
  rw[he5];exact pK (fun b hb=>hjz b (by rw[hjn,take_length];exact hb))
 refine gi (az hg) ?_;refine gD ?_ (77777,0);refine gW (Wk.o (sl:=[(8,some (.ptr 120 0)),(9,some (.v .nilIface))]) (hp:=[(120,some (bX l g a))])) ?_ (77777,0);refine gW (Wk.rk (k:=120) (d:=900) rfl rfl) ?_;refine gR ?_;rw[h8];exact ak.keep (aZ rfl)
theorem Dk{ts:LL}{r e:Nat}(tw:Tw ts r){a b c d:List Rat}(ha:Nm ts.length e a)(hb:Nm ts.length e b)(hc:Nm ts.length e c)(hd:Nm ts.length e d)(he:2*e<=lm ts.length) :
  FP 73 [aN ts,aJ a b,aJ c d] (.tup [aJ (sh ts.length (subT ts (ad ts.length a) (ad ts.length c))) (sh ts.length (subT ts (ad ts.length b) (ad ts.length d))),.v .nilIface]):=by
 refine ah func73 ?_;refine gc (qK (e:=e) tw [(a,b),(c,d)] (by simp only[mem_cons,not_mem_nil,or_false];rintro p (rfl |rfl);exact⟨ha,hb⟩;exact⟨hc,hd⟩) oz (by simp)) ?_;refine gC (fun t16=>?_) (fun t16=>?_) (st1:=(3,0));cases t16;refine gt (aA (Con.rB 21 rfl rfl rfl rfl (E6 tw ha hb hc hd he)) (aB rfl rfl rfl) aC rfl rfl) ?_;refine gt (aA (Con.rB 21 rfl rfl rfl rfl (uV _ _ _)) (be rfl rfl) aC rfl rfl) ?_;refine bi ?_;rfl
theorem Fy{ts:LL}{r e:Nat}(tw:Tw ts r){a b c d:List Rat}(ha:Nm ts.length e a)(hb:Nm ts.length e b)(hc:Nm ts.length e c)(hd:Nm ts.length e d)(he:2*(e+e+kB r ts.length)<=lm ts.length) :
  FP 74 [aN ts,aJ a b,aJ c d] (.tup [nA (sh ts.length (oU ts (ad ts.length a) (ad ts.length b) (ad ts.length c) (ad ts.length d))),.v .nilIface]):=by
 refine ah func74 ?_;refine gc (Con.sA (.cons (.refl _) (.cons (.refl _) (.cons (.refl _) (.cons (Sub.fn0 _) .nil)))) (Dp tw ha hb hc hd oz _ _ (Hx tw ha hb hc hd he))) ?_;refine bi ?_
 first |rfl |(simp;done)
section
variable{ts:LL}{u k:Nat}{a b a2 b2:List Rat}{x y x2 y2:Et ts}{w v w' v' w2 v2 w3 v3:Nat}
theorem L4 [c : Ct ts u k] [ha : Zl ts u k a x w v] [hb : Zl ts u k b y w' v'] [ha2 : Zl ts u k a2 x2 w2 v2] [hb2 : Zl ts u k b2 y2 w3 v3] (h : w + v + (w' + v') + (w2 + v2 + (w3 + v3)) <= 2500 := by decide) :
  FP 73 [aN ts,aJ a b,aJ a2 b2] (.tup [aJ (sX (x-x2)) (sX (y-y2)),.v .nilIface]):=by
 obtain⟨R,tw,hk⟩:=c.ex;have h0:=Fv c hk;have h1:=Dk (e:=2500*1000000) tw (ha.up c oz) (hb.up c oz) (ha2.up c oz) (hb2.up c oz) oz;rw[ha.eq,hb.eq,ha2.eq,hb2.eq]at h1;exact h1
end
variable{P:Program}{N:Nat}{R:Array Oper}{s:AS}{pos:String}{after:Array Edge}
theorem aP{d f k:Nat}{bx:Blk}{args:Array Operand}{ts:Array TypeId}{xs:List AV}{r:AV}{t:TypeId}
  (hcon:Con P f xs [(k,some bx)] r [(k,some bx)]) (ha:EvL s args.toList xs) (hk:s.blk k=some bx) (hok:gI s [(k,some bx)] [(k,some bx)] r=true) (hN:Nat.blt d N=true) :
  Step P N R s ⟨some d,.call ⟨.value (.func f),args,ts⟩,t,pos,after,none⟩ ⟨some r,[],dQ args.toList,[k]⟩:=by
 refine Step.weaken (aA (d:=d) hcon ha (fun k' z h=>by
  obtain⟨rfl,h9⟩:=eF h;cases h9;exact hk) hok hN) (fun s' h=>h) (fun s' h k' hk'=>?_) (fun s' h=>?_)
 ·left;simp only[map_append,cJ,map_cons,map_nil,mem_append,mem_cons,not_mem_nil,or_false]at hk' ⊢;rcases hk' with h9 |h9 <;> exact h9
 ·intro C m a w hr;refine⟨m,hr.weak (fun t x hx=>⟨x,hx,.refl _⟩) (fun k' x hx=>⟨x,?_,.refl _⟩)⟩;have hb:lk s'.hp k=some bx:=(h.2 k (List.mem_singleton.2 rfl)).trans hk;show lk ([(k,some bx)]++cJ [(k,some bx)]++s'.hp) k'=some x;have hx':lk s'.hp k'=some x:=hx;simp only[cJ,map_cons,map_nil,List.cons_append,nil_append,aH]
  by_cases e:k'=k
  ·rw[if_pos e];rw[e,hb]at hx';exact hx'
  ·rw[if_neg e,if_neg e];exact hx'
theorem lY{k1 k2 k':Nat}{x y:Option Blk}{z:Blk}(h:lk [(k1,x),(k2,y)] k'=some z):(k'=k1/\x=some z)\/(k'≠k1/\k'=k2/\y=some z):=by
 rw[aH]at h
 by_cases e:k'=k1
 ·rw[if_pos e]at h;exact .inl ⟨e,h⟩
 ·rw[if_neg e]at h;obtain⟨h1,h2⟩:=eF h;exact .inr ⟨e,h1,h2⟩
theorem kV{k1 k2:Nat}{x y:Option Blk}:lk [(k1,x),(k2,y)] k1=x:=by rw[aH,if_pos rfl]
theorem lW{k1 k2:Nat}{x y:Option Blk}(h:k1≠k2):lk [(k1,x),(k2,y)] k2=y:=by rw[aH,if_neg (fun e=>h e.symm),aH,if_pos rfl]
theorem GH{k1 k2:Nat}(hne:k1≠k2){x y:Blk}{m:Nat->Option Nat}{b:Nat}:aS [(k1,some x),(k2,some y)] m b↔m k1=some b\/m k2=some b:=by
 constructor
 ·rintro⟨k',z,hz,hb⟩;rcases lY hz with⟨e,_⟩ |⟨_,e,_⟩
  ·exact .inl (e▸hb)
  ·exact .inr (e▸hb)
 ·rintro(h |h)
  ·exact⟨k1,x,kV,h⟩
  ·exact⟨k2,y,lW hne,h⟩
theorem CN{k1 k2 d1 d2:Nat}(hk:k1≠k2)(hd:d1≠d2){x y x' y':Blk}{m m2:Nat->Option Nat}(h1:m2 d1=m k1)(h2:m2 d2=m k2):aS [(d1,some x'),(d2,some y')] m2=aS [(k1,some x),(k2,some y)] m:=by
 funext b;apply propext;rw[GH hk,GH hd,h1,h2]
theorem vW{ext:Nat->Prop}{k1 k2 d1 d2:Nat}(hk:k1≠k2)(hd:d1≠d2){x y x' y':Blk}{m m2:Nat->Option Nat}{w:World}(h1:m2 d1=m k1)(h2:m2 d2=m k2):Im ext [(d1,some x'),(d2,some y')] m2 w=Im ext [(k1,some x),(k2,some y)] m w:=by
 funext b cs;simp only[Im,CN hk hd (x:=x) (y:=y) (x':=x') (y':=y') h1 h2]
theorem Gn{ext:Nat->Prop}{k1 k2 d1 d2:Nat}(hk:k1≠k2)(hd:d1≠d2){x y:Blk}{m m2:Nat->Option Nat}{w:World}(hx:x.nm=[])(hy:y.nm=[])(h1:m2 d1=m k1)(h2:m2 d2=m k2)
  (hr:HeapRel ext [(k1,some x),(k2,some y)] m w):HeapRel ext [(d1,some x),(d2,some y)] m2 w:=by
 refine⟨?_,?_,?_⟩
 ·intro k' z hz;rw[vW hk hd (x:=x) (y:=y) h1 h2];rcases lY hz with⟨rfl,h9⟩ |⟨_,rfl,h9⟩
  ·cases h9;exact BlkRep.mono (w:=w) (fun _ _ h=>h) (fun _ _ h=>h) (fun _ _ hn=>(vH hx hn).elim) h1 (fun _ _=>rfl) (hr.blk k1 _ kV)
  ·cases h9;exact BlkRep.mono (w:=w) (fun _ _ h=>h) (fun _ _ h=>h) (fun _ _ hn=>(vH hy hn).elim) h2 (fun _ _=>rfl) (hr.blk k2 _ (lW hk))
 ·intro k k' z z' b hz hz' hb hb';rcases lY hz with⟨rfl,_⟩ |⟨_,rfl,_⟩ <;> rcases lY hz' with⟨rfl,_⟩ |⟨_,rfl,_⟩
  ·rfl
  ·exact absurd (hr.inj k1 k2 _ _ b kV (lW hk) (h1▸hb) (h2▸hb')) hk
  ·exact absurd (hr.inj k1 k2 _ _ b kV (lW hk) (h1▸hb') (h2▸hb)) hk
  ·rfl
 ·intro k' z b hz hb;rcases lY hz with⟨rfl,h9⟩ |⟨_,rfl,h9⟩
  ·exact hr.sep k1 _ b kV (h1▸hb)
  ·exact hr.sep k2 _ b (lW hk) (h2▸hb)
theorem Con.rekeyBB{P:Program}{f:FuncId}{k1 k2 o1 o2:Nat}{x y x' y':Blk}{xs:List AV}{r:AV}(d1 d2:Nat)(hk:k1≠k2)(hd:d1≠d2)(hx:x.nm=[])(hy:y.nm=[])(hx':x'.nm=[])(hy':y'.nm=[])(hxs:(xs.all fun x=>x.nm.isEmpty)=true)(hr:r.nm=[])
  (h:Con P f (.ptr k1 o1 :: .ptr k2 o2::xs) [(k1,some x),(k2,some y)] r [(k1,some x'),(k2,some y')]):Con P f (.ptr d1 o1 :: .ptr d2 o2::xs) [(d1,some x),(d2,some y)] r [(d1,some x'),(d2,some y')]:=by
 refine⟨h.ok,?_⟩;intro ext m w vs hext hheap hvs hrep;obtain⟨m2,e1,e2⟩:∃m2:Nat->Option Nat,m2 k1=m d1/\m2 k2=m d2:=⟨fun k=>if k=k1 then m d1 else m d2,if_pos rfl,if_neg (fun e=>hk e.symm)⟩
 have h1 := h.ret ext m2 w vs hext (Gn hd hk hx hy e1 e2 hheap) (by simpa using hvs) (by
  intro j v z hv hz;rw[vW hd hk (x:=x) (y:=y) e1 e2]
  match j,hz with
  |0,hz =>
   cases hz;have h2:=hrep 0 v _ hv rfl;cases h2 with
   |ptr hm=>exact .ptr (e1.trans hm)
  |1,hz =>
   cases hz;have h2:=hrep 1 v _ hv rfl;cases h2 with
   |ptr hm=>exact .ptr (e2.trans hm)
  |j+2,hz =>
   have h2:=hrep (j+2) v z hv hz;refine gy ?_ h2;have:=List.all_eq_true.1 hxs z (mem_of_getElem? hz);simpa using this)
 refine Calls.mono h1 ?_;rintro e w' ⟨v,m',rfl,hf,hh,hn,hkp,hrr⟩;have ho:=CN hd hk (x:=x) (y:=y) (x':=x) (y':=y) e1 e2;obtain⟨m3,f1,f2⟩:∃m3:Nat->Option Nat,m3 d1=m' k1/\m3 d2=m' k2:=⟨fun k=>if k=d1 then m' k1 else m' k2,if_pos rfl,if_neg (fun e=>hd e.symm)⟩
 refine⟨v,m3,rfl,ho▸hf,Gn hk hd hx' hy' f1 f2 hh,?_,?_,?_⟩
 ·intro k' z b hz hb;rw[<- ho];rcases lY hz with⟨rfl,_⟩ |⟨_,rfl,_⟩
  ·exact hn k1 _ b kV (f1▸hb)
  ·exact hn k2 _ b (lW hk) (f2▸hb)
 ·intro k' z z' hz hz';rcases lY hz with⟨rfl,_⟩ |⟨_,rfl,_⟩
  ·rw[f1,<- e1];exact hkp k1 _ _ kV kV
  ·rw[f2,<- e2];exact hkp k2 _ _ (lW hk) (lW hk)
 ·rw[vW hk hd (x:=x') (y:=y') f1 f2];exact gy hr hrr
end Go.Lw
namespace Go.Lw
open Go.Proofs
theorem Ei{l:Li}{body pt:Int}{n k:Nat}{bd:Bd}{m:Mk}(h:MkP l body pt n k bd m):qP (bm l body pt)=.agg [bl m.x.neg,ws m.x.num,ws m.x.den,bl m.y.neg,ws m.y.num,ws m.y.den]:=by
 rw[h.ex,h.ey]
theorem mj{p q:Rat×Rat}{e f:Nat}(hp:Sm e p)(hq:Sm f q)(he:e<=1000000)(hf:f<=1000000):FP 146 [qP p,qP q] (qP (b8 p q)):=by
 refine ah func146 ?_;refine gc (tB (hp.x.qs oz) (hq.x.qs oz)) ?_;refine gc (tB (hp.y.qs oz) (hq.y.qs oz)) ?_;refine gD ?_;refine ae ?_
 first |rfl |(simp;done)
theorem zP{p q:Rat×Rat}{e f:Nat}(hp:Sm e p)(hq:Sm f q)(he:e<=1000000)(hf:f<=1000000):FP 251 [qP p,qP q] (qA (cA p q)):=by
 refine ah func251 ?_;refine gc (qr (hp.x.qs oz) (hq.x.qs oz)) ?_;refine gc (qr (hp.y.qs oz) (hq.y.qs oz)) ?_;refine gc (yJ ((hp.x.mul hq.x).qs oz) ((hp.y.mul hq.y).qs oz)) ?_;refine gD ?_;refine ae ?_
 first |rfl |(simp;done)
theorem PV{p q:Rat×Rat}{e f:Nat}(hp:Sm e p)(hq:Sm f q)(he:e<=1000000)(hf:f<=1000000):FP 165 [qP p,qP q] (qA (vq p q)):=by
 refine ah func165 ?_;refine gc (qr (hp.x.qs oz) (hq.y.qs oz)) ?_;refine gc (qr (hp.y.qs oz) (hq.x.qs oz)) ?_;refine gc (tB ((hp.x.mul hq.y).qs oz) ((hp.y.mul hq.x).qs oz)) ?_;refine gD ?_;refine ae ?_
 first |rfl |(simp;done)
theorem wa{p:Rat×Rat}{e:Nat}(hp:Sm e p)(he:e<=1000000):FP 158 [qP p] (nA (sh 0 (cA p p:Rat))):=by
 refine ah func158 ?_;refine gc (zP hp hp he he) ?_;refine gc (mz ((hp.dot hp).qs oz)) ?_;refine ae ?_
 first |rfl |(simp;done)
theorem lQ{l:Li}(hl:l.ok)(hli:aD l=0)(g:Gr)(a:As){body pt:Int}(h1:bh body l.bo.length=true)(h2:bh pt (cw l body).length=true) :
  Con prog 159 [.ptr 1000 0,i64 body,i64 pt] [(1000,some (bX l g a))] (qP (bm l body pt)) [(1000,some (bX l g a))]:=by
 obtain⟨n,k,bd,m,mp⟩:=tu hl hli h1 h2;rw[Ei mp];have hn:=mp.hn;have hk:=mp.hk;have hlb:=hl.lb;subst hn;subst hk;refine gF func159 (fun k z h=>bf h) ?_;refine gi (az mp.gbd) ?_;refine gi (az mp.gm) ?_;refine gR ?_;exact ak.keep (aZ rfl)
theorem q5{E:Nat}{l:Li}(hl:l.ok)(hli:aD l=0)(g:Gr){a:As}(al:AB a)(hc:aX a.rs=0){body pt:Int}(h1:bh body l.bo.length=true)(h2:bh pt (cw l body).length=true)(hE:E<=20000000000)(h3:(llq a.rs).length<=2)(hb:Pd E a body) :
  Con prog 88 [.ptr 1000 0,i64 body,i64 pt] [(1000,some (bX l g a))] (aJ (sX (bA l a body pt).1) (sX (bA l a body pt).2)) [(1000,some (bX l g a))]:=by
 obtain⟨n,k,bd,m,b,hp⟩:=uT hl hli al hc h1 h2 hb;obtain⟨tw,hta⟩:=cH al.tr hc
 have kb:kB 400000000 (llq a.rs).length<=1200000006:=by
  have h9:=fX 400000000 h3;have h8:eB 400000000 2=1200000006:=by decide
  show eB 400000000 _<=_;omega
 have hlm:lm (llq a.rs).length=200000000000:=by unfold lm;rw[if_pos h3]
 have hlb:=hl.lb;have hbl:=al.bl;have hmk:=lQ hl hli g a h1 h2;show Con prog _ _ _ (aJ (sh (llq a.rs).length (rv l a body pt).1) (sh (llq a.rs).length (rv l a body pt).2)) _;rw[hp.eq];have hn:=hp.mp.hn;rw[Ei hp.mp]at hmk
 have hat:FP 86 [cz a.rs,b.av,m.x.av,m.y.av] (.tup [aJ (sh (llq a.rs).length (mH (llq a.rs) b m).1) (sh (llq a.rs).length (mH (llq a.rs) b m).2),.v .nilIface]):=by
  rw[hta,hp.av,hp.mp.ex,hp.mp.ey];have h9:=Ri tw (hp.ok.c.mono (f:=E+1000) oz) (hp.ok.s.mono oz) (hp.ok.x.mono oz) (hp.ok.y.mono oz) (hp.mp.sm.x.mono (f:=E+1000) oz) (hp.mp.sm.y.mono (f:=E+1000) oz) oz;unfold mH;rw[hp.mp.ex,hp.mp.ey,bu,bu];exact h9
 refine gF func88 (fun k z h=>bf h) ?_;refine gt (aA hmk (aB rfl rfl rfl) aC rfl rfl) ?_;refine gi (f8 (n:=n) hn hp.gb) ?_;refine gc hat ?_;refine gD ?_;refine gC (fun t39=>?_) (fun t39=>?_) (st2:=(77777,0))
 ·refine gR ?_;exact ak.keep (aZ rfl)
 cases t39
theorem rQ{E:Nat}(hE:E<=20000000000){l:Li}(hl:l.ok)(hli:aD l=0)(g:Gr)(hg:GrOk l g){a:As}(al:AB a)(hc:aX a.rs=0){k:Nat}{z b:Int}{j:Jt}(hz:g.jo[k]?=some z)(hj:l.jo[z.toNat]?=some j)(h3:(llq a.rs).length<=2)(h:PinP E l a j b) :
  Con prog 141 [.ptr 1000 0,i64 k,i64 b] [(1000,some (bX l g a))] (.tup [qP (am l j b),aJ (sX (aW l a j b).1) (sX (aW l a j b).2)]) [(1000,some (bX l g a))]:=by
 obtain⟨z0,z1⟩:=hg.j z (mem_of_getElem? hz);obtain⟨i1,i2,i3,i4,_⟩:=ee hli hj;have hgj:=hg.lj;have hlj:=hl.lj;refine gF func141 (fun k z h=>bf h) ?_;refine gi (az hz) ?_;refine gi (f8 (n:=z.toNat) oz hj) ?_;refine gD ?_;refine gC (fun t27=>?_) (fun t27=>?_)
 ·have e:j.a = b:=cP t27;have hb:Pd E a j.b:=by rcases h.tie with h9 | h9; exact h9.2; exact absurd e h9.1
  have eq1:am l j b=bm l b j.point:=if_pos e;have eq2:aW l a j b=bA l a j.b j.on:=if_pos e;rw[eq1,eq2];subst e;refine gt (aA (lQ hl hli g a i1 i3) (aB rfl rfl rfl) aC rfl rfl) ?_;refine gt (aA (q5 hl hli g al hc i2 i4 hE h3 hb) (aB rfl rfl rfl) aC rfl rfl) ?_;refine gD ?_;refine gR ?_;exact ak.keep (aZ rfl)
 have e:j.a≠b:=dN t27;have e2:j.b=b/\Pd E a j.a:=by rcases h.tie with h9 |h9;exact absurd h9.1 e;exact h9.2
 have eq1:am l j b=bm l b j.on:=if_neg e;have eq2:aW l a j b=bA l a j.a j.point:=if_neg e;rw[eq1,eq2];obtain⟨e2,hb⟩:=e2;subst e2;refine gt (aA (lQ hl hli g a i2 i4) (aB rfl rfl rfl) aC rfl rfl) ?_;refine gt (aA (q5 hl hli g al hc i1 i3 hE h3 hb) (aB rfl rfl rfl) aC rfl rfl) ?_;refine gD ?_;refine gR ?_;exact ak.keep (aZ rfl)
theorem E8{l:Li}(hl:l.ok)(hli:aD l=0)(g:Gr)(hg:GrOk l g)(a:As){z b:Int}{j:Jt}(hz:g.jo[2]?=some z)(hj:l.jo[z.toNat]?=some j)(h:j.a=b\/j.b=b) :
  Con prog 155 [.ptr 1000 0,i64 b] [(1000,some (bX l g a))] (qP (am l j b)) [(1000,some (bX l g a))]:=by
 obtain⟨z0,z1⟩:=hg.j z (mem_of_getElem? hz);obtain⟨i1,i2,i3,i4,_⟩:=ee hli hj;have hgj:=hg.lj;have hlj:=hl.lj;have h2:=(List.getElem?_eq_some_iff.1 hz).1;refine gF func155 (fun k z h=>bf h) ?_;refine gi (az hz) ?_;refine gi (f8 (n:=z.toNat) oz hj) ?_;refine gD ?_;refine gC (fun t23=>?_) (fun t23=>?_)
 ·have e:j.a=b:=cP t23;have eq1:am l j b=bm l b j.point:=if_pos e;rw[eq1];subst e;refine gt (aA (lQ hl hli g a i1 i3) (aB rfl rfl rfl) aC rfl rfl) ?_;refine gR ?_;exact ak.keep (aZ rfl)
 have e:j.a≠b:=dN t23;have e2:j.b=b:=by rcases h with h9 |h9;exact absurd h9 e;exact h9
 have eq1:am l j b=bm l b j.on:=if_neg e;rw[eq1];subst e2;refine gt (aA (lQ hl hli g a i2 i4) (aB rfl rfl rfl) aC rfl rfl) ?_;refine gR ?_;exact ak.keep (aZ rfl)
theorem Gq{l:Li}(hl:l.ok)(g:Gr)(hg:GrOk l g)(a:As){z:Int}{j:Jt}(hz:g.jo[1]?=some z)(hj:l.jo[z.toNat]?=some j) :
  Con prog 87 [.ptr 1000 0] [(1000,some (bX l g a))] j.av [(1000,some (bX l g a))]:=by
 obtain⟨z0,z1⟩:=hg.j z (mem_of_getElem? hz);have hgj:=hg.lj;have hlj:=hl.lj;have h2:=(List.getElem?_eq_some_iff.1 hz).1;refine gF func87 (fun k z h=>bf h) ?_;refine gi (az hz) ?_;refine gi (f8 (n:=z.toNat) oz hj) ?_;refine gD ?_;refine gR ?_;exact ak.keep (aZ rfl)
abbrev HN{ts:LL}(p:Rat×Rat)(at_:Et ts×Et ts)(c:Rat×Rat):List AV :=
  [bl (rt p.1).neg,ws (rt p.1).num,ws (rt p.1).den,bl (rt p.2).neg,ws (rt p.2).num,ws (rt p.2).den,nA (sX at_.1),nA (sX at_.2),bl (rt c.1).neg,ws (rt c.1).num,ws (rt c.1).den,bl (rt c.2).neg,ws (rt c.2).num,ws (rt c.2).den]
abbrev tk{ts:LL}(p:Rat×Rat)(at_:Et ts×Et ts)(c:Rat×Rat):AV:=.agg (HN p at_ c)
abbrev Lo{ts:LL}(p:Rat×Rat)(at_:Et ts×Et ts)(c:Rat×Rat):AV:=.agg [nA (sX at_.1),nA (sX at_.2),nA (sh 0 (bR c p:Rat))]
theorem yw{ts:LL}{p c:Rat×Rat}(hp:Sm 1000 p)(hc:Sm 1000 c)(at_:Et ts×Et ts):FP 70 [tk p at_ c] (Lo p at_ c):=by
 refine ah func70 ?_;refine gc (mj hc hp oz oz) ?_;refine gc (wa (hc.sub hp) oz) ?_;refine gD ?_;refine ae ?_
 first |rfl |(simp;done)
theorem NU{l:Li}(hl:l.ok)(hli:aD l=0){a:As}(al:AB a)(hc:aX a.rs=0)(h3:(llq a.rs).length<=2){i k z0 z1 z2:Int}{j0 j1 j2:Jt}(hg:GrOk l ⟨1,[i,k],[z0,z1,z2],0⟩)
  (h0:l.jo[z0.toNat]?=some j0) (h1:l.jo[z1.toNat]?=some j1) (h2:l.jo[z2.toNat]?=some j2) (p0:PinP 3900000 l a j0 i) (p1:PinP 3900000 l a j1 k) (t1:j2.a=i\/j2.b=i) (t2:j2.a=k\/j2.b=k) :
  Con prog 67 [.ptr 1000 0] [(1000,some (bX l ⟨1,[i,k],[z0,z1,z2],0⟩ a))] (.tup [tk (am l j0 i) (aW l a j0 i) (am l j2 i),tk (am l j1 k) (aW l a j1 k) (am l j2 k)]) [(1000,some (bX l ⟨1,[i,k],[z0,z1,z2],0⟩ a))]:=by
 refine gF func67 (fun k z h=>bf h) ?_;refine gi (rfl) ?_;refine gi (rfl) ?_;refine gD ?_;refine gt (aA (rQ oz hl hli _ hg al hc (k:=0) rfl h0 h3 p0) (.cons (.tmp rfl) (.cons (.const _) (cf rfl))) aC rfl rfl) ?_;refine gt (aA (rQ oz hl hli _ hg al hc (k:=1) rfl h1 h3 p1) (.cons (.tmp rfl) (.cons (.const _) (cf rfl))) aC rfl rfl) ?_;refine gt (aA (E8 hl hli _ hg a rfl h2 t1) (be rfl rfl) aC rfl rfl) ?_;refine gt (aA (E8 hl hli _ hg a rfl h2 t2) (be rfl rfl) aC rfl rfl) ?_;refine gD ?_;refine gR ?_;exact ak.keep (aZ rfl)
theorem MS{l:Li}(hl:l.ok)(hli:aD l=0){a:As}(al:AB a)(hc:aX a.rs=0)(h3:(llq a.rs).length<=2){i z0 z1:Int}{j0 j1:Jt}(hg:GrOk l ⟨2,[i],[z0,z1],0⟩)
  (h0:l.jo[z0.toNat]?=some j0) (h1:l.jo[z1.toNat]?=some j1) (p0:PinP 3900000 l a j0 i) (ha:j1.a=i) (hk:j1.kind≠0) (hb:Pd 3900000 a j1.b) :
  Con prog 71 [.ptr 1000 0] [(1000,some (bX l ⟨2,[i],[z0,z1],0⟩ a))] (.tup [tk (am l j0 i) (aW l a j0 i) (bm l i j1.point),aJ (sX (bA l a j1.b j1.on).1) (sX (bA l a j1.b j1.on).2),aJ (sX (bA l a j1.b j1.to).1) (sX (bA l a j1.b j1.to).2)]) [(1000,some (bX l ⟨2,[i],[z0,z1],0⟩ a))]:=by
 obtain⟨i1,i2,i3,i4,i5⟩:=ee hli h1;rw[ha]at i1 i3;refine gF func71 (fun k z h=>bf h) ?_;refine gi (rfl) ?_;refine gt (aP (Gq hl _ hg a rfl h1) (cf rfl) rfl rfl rfl) ?_;refine gD ?_;refine gt (aA (rQ oz hl hli _ hg al hc (k:=0) rfl h0 h3 p0) (.cons (.tmp rfl) (.cons (.const _) (cf rfl))) aC rfl rfl) ?_;refine gt (aA (lQ hl hli _ a i1 i3) (aB rfl rfl rfl) aC rfl rfl) ?_;refine gt (aA (q5 hl hli _ al hc i2 i4 oz h3 hb) (aB rfl rfl rfl) aC rfl rfl) ?_;refine gt (aA (q5 hl hli _ al hc i2 (i5 hk) oz h3 hb) (aB rfl rfl rfl) aC rfl rfl) ?_;refine gD ?_;refine gR ?_;exact ak.keep (aZ rfl)
structure Vr where
  w:List Rt
  x:List Rt
  y:List Rt
instance:Inhabited Vr:=⟨⟨[],[],[]⟩⟩
def Vr.av(v:Vr):AV:=.agg [nR v.w,nR v.x,nR v.y]
def Vr.l(v:Vr):List (List Rt):=[v.w,v.x,v.y]
theorem AL.ct{a:As}(h:AL a)(hc:aX a.rs=0):Ct (llq a.rs) 4000 300000:=by
 obtain⟨tw,_⟩:=cH h.tr hc;exact⟨⟨40000,tw,le_trans (Dq 40000 tw.three) oz⟩,by omega,by omega,by omega,by omega⟩
abbrev dC(rs:List (List Rt)):Blk:=.box [.lst 1 (rs.map nR),.v .nilIface]
theorem tT(rs:List (List Rt))(a:List Rat):Con prog 68 [.ptr 1000 0,nA a,.v .nilIface] [(1000,some (dC rs))] (nA a) [(1000,some (dC rs))]:=by
 refine gF func68 (fun k z h=>bf h) ?_;refine gC (fun t11=>?_) (fun t11=>?_) (st2:=(77777,0))
 ·refine gR ?_;exact ak.keep (aZ rfl)
 cases t11
theorem Dg(rs:List (List Rt))(a b:List Rat):Con prog 72 [.ptr 1000 0,aJ a b,.v .nilIface] [(1000,some (dC rs))] (aJ a b) [(1000,some (dC rs))]:=by
 refine gF func72 (fun k z h=>bf h) ?_;refine gC (fun t11=>?_) (fun t11=>?_) (st2:=(77777,0))
 ·refine gR ?_;exact ak.keep (aZ rfl)
 cases t11
section
variable{rs:List (List Rt)}{r u k:Nat}{a b:List Rat}{x y:Et (llq rs)}{w v w' v':Nat}
theorem Gx (h : TR rs r) (hc : aX rs = 0) [c0 : Ct (llq rs) u k] [ha : Zl (llq rs) u k a x w v] [hb : Zl (llq rs) u k b y w' v'] (hs : w + v + (w' + v') <= 10000 := by decide) :
  Con prog 76 [.ptr 1000 0,nA a,nA b] [(1000,some (dC rs))] (nA (sX (x*y))) [(1000,some (dC rs))]:=by
 have hx:=zi (ha:=ha) (hb:=hb) hs;rw[m8 h hc]at hx;refine gF func76 (fun k z h=>bf h) ?_;refine gc hx ?_;refine gt (aA (tT _ _) (aB rfl rfl rfl) aC rfl rfl) ?_;refine gR ?_;exact ak.keep (aZ rfl)
theorem HR (h : TR rs r) (hc : aX rs = 0) [c0 : Ct (llq rs) u k] [ha : Zl (llq rs) u k a x w v] [hb : Zl (llq rs) u k b y w' v'] (hs : w + v + (w' + v') <= 10000 := by decide) :
  Con prog 75 [.ptr 1000 0,nA a,nA b] [(1000,some (dC rs))] (nA (sX (x-y))) [(1000,some (dC rs))]:=by
 have hx:=Ae (ha:=ha) (hb:=hb) hs;rw[m8 h hc]at hx;refine gF func75 (fun k z h=>bf h) ?_;refine gc hx ?_;refine gt (aA (tT _ _) (aB rfl rfl rfl) aC rfl rfl) ?_;refine gR ?_;exact ak.keep (aZ rfl)
end
structure DyW(l:Li)(a:As):Prop where
  hl:l.ok
  li:aD l=0
  al:AB a
  hc:aX a.rs=0
structure DyR(l:Li)(a:As):Prop extends DyW l a where
  s:DyS a
theorem DyR.two{l:Li}{a:As}(D:DyR l a):(llq a.rs).length<=2:=le_trans (D.s.one D.hc) oz
theorem wV{n:Nat}(hn:n<=1):kB 64990 n<=65000:=by
 have h1:=fX 64990 hn;have h2:eB 64990 1=64992:=by simp only[eB]
 show eB 64990 _<=_;omega
theorem DP{n:Nat}(h3:n<=2):kB 400000000 n<=1200000006:=by
 have h9:=fX 400000000 h3;have h8:eB 400000000 2=1200000006:=by decide
 show eB 400000000 _<=_;omega
abbrev sf(l:Li)(a:As)(i:Int)(j0 j:Jt):List AV :=
  qC (am l j0 i)++([nA (sX (aW l a j0 i).1),nA (sX (aW l a j0 i).2)]++(qC (il l i j)++[nA (sh 0 (dq l i j0 j:Rat)),nA (sh 0 (jv l i j:Rat)),nA (sX (dB l a i j0 j)),nA (sX (eK l a i j0 j).1),nA (sX (eK l a i j0 j).2)]))
theorem AR{l:Li}{a:As}(D:DyR l a){n:Nat}{i:Int}{j0 j:Jt}(h0:l.jo[n]?=some j0)(p0:PinP 3900000 l a j0 i){m:Nat}(h1:l.jo[m]?=some j)(hb:Pd 3900000 a j.a) :
  Zu 310000 65000 (eK l a i j0 j).1 80 81/\Zu 310000 65000 (eK l a i j0 j).2 80 81:=by
 obtain⟨i1,i2,i3,i4,_⟩:=ee D.li h1;obtain⟨z1,z2⟩:=kr D.hl D.li D.al D.s D.hc h0 p0;obtain⟨y1,y2⟩:=kQ D.hl D.li D.al D.s D.hc i1 i3 hb;haveI c:=D.s.ct D.hc;haveI:=z1;haveI:=z2;haveI:=y1;haveI:=y2
 exact⟨(inferInstance:Zu 310000 65000 ((bA l a j.a j.point).1-(aW l a j0 i).1) _ _),(inferInstance:Zu 310000 65000 ((bA l a j.a j.point).2-(aW l a j0 i).2) _ _)⟩
theorem O3{l:Li}{a:As}(D:DyR l a){i z0 z1:Int}{j0 j:Jt}(hg:GrOk l ⟨3,[i],[z0,z1],0⟩)
  (h0:l.jo[z0.toNat]?=some j0) (h1:l.jo[z1.toNat]?=some j) (p0:PinP 3900000 l a j0 i) (hi:j.b=i) (hk:j.kind≠0) (hb:Pd 3900000 a j.a) :
  Con prog 78 [.ptr 1000 0,.ptr 1001 0] [(1000,some (bX l ⟨3,[i],[z0,z1],0⟩ a)),(1001,some (dC a.rs))] (.agg (sf l a i j0 j)) [(1000,some (bX l ⟨3,[i],[z0,z1],0⟩ a)),(1001,some (dC a.rs))]:=by
 obtain⟨i1,i2,i3,i4,i5⟩:=ee D.li h1;have hs0:Sm 1000 (am l j0 i):=gk D.hl D.li h0 (by rcases p0.tie with h9 |h9;exact .inl h9.1;exact .inr h9.2.1);subst hi;have hs1:=j4 D.hl D.li i2 i4;have hs2:=j4 D.hl D.li i2 (i5 hk);have hv:=hs2.sub hs1;obtain⟨z1',z2'⟩:=kr D.hl D.li D.al D.s D.hc h0 p0;obtain⟨y1,y2⟩:=kQ D.hl D.li D.al D.s D.hc i1 i3 hb;obtain⟨w1,w2⟩:=AR D h0 p0 h1 hb;haveI c:=D.s.ct D.hc;haveI:=z1';haveI:=z2';haveI:=y1;haveI:=y2;haveI:=w1;haveI:=w2
 have hsub:=L4 (ts:=llq a.rs) (u:=310000) (k:=65000) (a:=sX (bA l a j.a j.point).1) (b:=sX (bA l a j.a j.point).2) (a2:=sX (aW l a j0 j.b).1) (b2:=sX (aW l a j0 j.b).2);have hdot:=JZ (ts:=llq a.rs) (u:=310000) (k:=65000) (a:=sX (eK l a j.b j0 j).1) (b:=sX (eK l a j.b j0 j).2) (a2:=sX (eK l a j.b j0 j).1) (b2:=sX (eK l a j.b j0 j).2);rw[m8 D.s.tr D.hc]at hsub hdot;refine gF func78 (fun k z h=>JR h) ?_;refine gi (rfl) ?_;refine gt (aP (Gq D.hl _ hg a rfl h1) (cf rfl) rfl rfl rfl) ?_;refine gD ?_;refine gt (aA (rQ oz D.hl D.li _ hg D.al D.hc (k:=0) rfl h0 D.two p0) (.cons (.tmp rfl) (.cons (.const _) (cf rfl))) aC rfl rfl) ?_;refine gt (aP (lQ D.hl D.li _ a i2 i4) (aB rfl rfl rfl) rfl rfl rfl) ?_;refine gt (aP (lQ D.hl D.li _ a i2 (i5 hk)) (aB rfl rfl rfl) rfl rfl rfl) ?_;refine gc (mj hs2 hs1 oz oz) ?_;refine gD ?_;refine gc (mj hs1 hs0 oz oz) ?_;refine gc (PV hv (hs1.sub hs0) oz oz) ?_;refine gc (mz ((hv.cross (hs1.sub hs0)).qs oz)) ?_;refine gc (wa hv oz) ?_;refine gD ?_;refine gt (aA (q5 D.hl D.li _ D.al D.hc i1 i3 oz D.two hb) (aB rfl rfl rfl) aC rfl rfl) ?_;refine gC (fun t63=>?_) (fun t63=>?_) (st2:=(77777,0))
 ·refine gc hsub ?_;refine gt (aA (Con.rB 1001 rfl rfl rfl rfl (Dg _ _ _)) (aB rfl rfl rfl) aC rfl rfl) ?_;refine gD ?_;refine gc hdot ?_;refine gt (aA (Con.rB 1001 rfl rfl rfl rfl (tT _ _)) (aB rfl rfl rfl) aC rfl rfl) ?_;refine gD ?_;refine gR ?_;exact ak.keep (kM rfl rfl)
 cases t63
theorem KP{l:Li}{a:As}(D:DyR l a){i:Int}{j0 j:Jt}{w v:Nat}[z1:Zl (llq a.rs) 310000 65000 (sh 0 (dq l i j0 j:Rat)) (qE (dq l i j0 j)) 3 0][z2:Zl (llq a.rs) 310000 65000 (sh 0 (jv l i j:Rat)) (qE (jv l i j)) 3 0][z3:Zu 310000 65000 (dB l a i j0 j) w v](hw:w+v<=2000) :
  Con prog 79 [.agg (sf l a i j0 j),.ptr 1001 0] [(1001,some (dC a.rs))] (nA (sX (qE (jv l i j)*dB l a i j0 j-qE (dq l i j0 j)*qE (dq l i j0 j)))) [(1001,some (dC a.rs))]:=by
 haveI c:=D.s.ct D.hc;haveI:=z1.zu;haveI:=z2.zu
 have m1:=Gx (a:=sh 0 (jv l i j:Rat)) (b:=sX (dB l a i j0 j)) D.s.tr D.hc oz;have m2:=Gx (a:=sh 0 (dq l i j0 j:Rat)) (b:=sh 0 (dq l i j0 j:Rat)) D.s.tr D.hc oz;have m3:=HR (a:=sX (qE (jv l i j)*dB l a i j0 j)) (b:=sX (qE (dq l i j0 j)*qE (dq l i j0 j):Et (llq a.rs))) D.s.tr D.hc oz;refine gF func79 (fun k z h=>by have:=(eF h).1;omega) ?_;refine gt (aA (Con.rB 1001 rfl rfl rfl rfl m1) (aB rfl rfl rfl) aC rfl rfl) ?_;refine gt (aA (Con.rB 1001 rfl rfl rfl rfl m2) (aB rfl rfl rfl) aC rfl rfl) ?_;refine gt (aA (Con.rB 1001 rfl rfl rfl rfl m3) (aB rfl rfl rfl) aC rfl rfl) ?_;refine gD ?_;refine gR ?_;exact ak.keep (aZ rfl)
abbrev Ci:Type:=List Rat×List Rat×List Rat
abbrev Eh(c:Ci):AV:=.agg [nA c.1,nA c.2.1,nA c.2.2]
structure CiZ(rs:List (List Rt))(c:Ci):Prop where
  x:Nm (llq rs).length 2500000000 c.1
  y:Nm (llq rs).length 2500000000 c.2.1
  r:Nm (llq rs).length 2500000000 c.2.2
  sg:0<=aw (dE (llq rs) c.2.2)
theorem Re{ts:LL}(p q:Et ts×Et ts):dotE (q.1-p.1) (q.2-p.2) (q.1-p.1) (q.2-p.2)=a8 p q:=by
 unfold a8 oT bW dotE;dsimp only;grind
theorem Cg{ts:LL}(c:Ct ts 310000 65000){x y x2 y2:Et ts}(h1:Zu 310000 65000 x 40 40)(h2:Zu 310000 65000 y 40 40)(h3:Zu 310000 65000 x2 40 40)(h4:Zu 310000 65000 y2 40 40):Zu 310000 65000 (a8 (x,y) (x2,y2)) 320 327:=by
 haveI:=c;haveI:=h1;haveI:=h2;haveI:=h3;haveI:=h4
 exact(inferInstance:Zu 310000 65000 (dotE (x-x2) (y-y2) (x-x2) (y-y2)) _ _)
section
variable{rs:List (List Rt)}{r:Nat}{a b c a2 b2 c2:List Rat}
theorem DX(h:TR rs r)(hc:aX rs=0){e:Nat}(ha:Nm (llq rs).length e a)(hb:Nm (llq rs).length e b)(he:e<=lm (llq rs).length):FP 263 [cz rs,aJ a b] (.v .nilIface):=by
 obtain⟨tw,etw⟩:=cH h hc;have hca:=qK tw [(a,b)] (fun p hp=>by rw[List.mem_singleton.1 hp];exact⟨ha,hb⟩) he (by show 1<=500;omega);rw[<- etw]at hca;refine ah func263 ?_;refine gc hca ?_;refine ae ?_;rfl
theorem Eu(h:TR rs r)(hc:aX rs=0){e:Nat}(ha:Nm (llq rs).length e a)(hb:Nm (llq rs).length e b)(hn:Nm (llq rs).length e c)(he:e+1<=lm (llq rs).length):FP 262 [cz rs,.agg [nA a,nA b,nA c]] (.v .nilIface):=by
 obtain⟨tw,etw⟩:=cH h hc;have hneg:=xw tw hn oz;rw[<- etw]at hneg;refine ah func262 ?_;refine gc (DX h hc ha hb oz) ?_;refine gC (fun t13=>?_) (fun t13=>?_) (st1:=(3,0));cases t13;refine gc hneg ?_;refine ae ?_;rfl
theorem GB(h:TR rs r)(hc:aX rs=0)(cs:List Ci)(hz:∀c∈cs,CiZ rs c)(hl:cs.length<=100):FP 264 [cz rs,.lst 3 (cs.map Eh)] (.v .nilIface):=by
 obtain⟨tw,etw⟩:=cH h hc;have hlm:=iZ (llq rs).length;refine ah func264 ?_;refine gl ?_;refine aI [2,9,10] [2] (fun(i:Nat)=>[(11,some (i64 i))]) (fun _=>[]) (fun i=>i<=cs.length) (fun i=>cs.length-i) 0 (zero_le _) ?_;rintro i hi K1 J1;refine gC (fun t12=>?_) (fun t12=>?_)
 ·have hin:=aU t12;obtain⟨z,hzi⟩:=ay hin;have hz9:=hz z (mem_of_getElem? hzi);have hs:=DR tw hz9.r oz;rw[<- etw]at hs;refine gi (az hzi) ?_;refine gc hs ?_;refine gC (fun t23=>?_) (fun t23=>?_) (st1:=(6,0));cases t23;refine gC (fun t26=>?_) (fun t26=>?_) (st1:=(8,0));exact absurd t26 (by have h9:=hz9.sg;unfold aw dE at h9;simp only[aa,decide_eq_true_eq];omega);refine ga aG ?_;exact aE J1 (i+1) hin
 refine ae ?_;rfl
theorem OZ(h:TR rs r)(hc:aX rs=0)(cs:List Ci)(hz:∀c∈cs,CiZ rs c)(hl:cs.length<=100):FP 156 [cz rs,.lst 3 (cs.map Eh)] (.v .nilIface):=by
 have hlm:=iZ (llq rs).length;have hck:=my rs r h;rw[hc]at hck;refine ah func156 ?_;refine gc hck ?_;refine gC (fun t12=>?_) (fun t12=>?_) (st1:=(3,0));cases t12;refine gl ?_;refine aI [1,2,14,15] [2] (fun(i:Nat)=>[(16,some (i64 i))]) (fun _=>[]) (fun i=>i<=cs.length) (fun i=>cs.length-i) 0 (zero_le _) ?_;rintro i hi K1 J1;refine gC (fun t17=>?_) (fun t17=>?_)
 ·have hin:=aU t17;obtain⟨z,hzi⟩:=ay hin;have hz9:=hz z (mem_of_getElem? hzi);refine gi (az hzi) ?_;refine gc (Eu h hc hz9.x hz9.y hz9.r oz) ?_;refine gC (fun t24=>?_) (fun t24=>?_) (st1:=(9,0));cases t24;refine ga aG ?_;exact aE J1 (i+1) hin
 refine gc (GB h hc cs hz hl) ?_;refine ae ?_;rfl
theorem LP(h:TR rs r)(hc:aX rs=0){x y x2 y2:Et (llq rs)}[c0:Ct (llq rs) 310000 65000][i1:Zl (llq rs) 310000 65000 a x 40 40][i2:Zl (llq rs) 310000 65000 b y 40 40][i4:Zl (llq rs) 310000 65000 a2 x2 40 40][i5:Zl (llq rs) 310000 65000 b2 y2 40 40] :
  FP 53 [cz rs,aJ a b,aJ a2 b2] (.tup [nA (sX (a8 (x,y) (x2,y2))),.v .nilIface]):=by
 obtain⟨_,etw⟩:=cH h hc;obtain⟨R,tw,hk⟩:=c0.ex;have kk:=c0.kk hk;obtain⟨K,hK⟩:∃K,40*310000+40*65000=K:=⟨_,rfl⟩
 have hlm:=iZ (llq rs).length;have n1:=i1.nm;have n2:=i2.nm;have n4:=i4.nm;have n5:=i5.nm
 have hca:=qK tw [(a,b),(a2,b2)] (e:=40*310000+40*65000) (fun p hp=>by
  simp only[mem_cons,not_mem_nil,or_false]at hp;rcases hp with rfl |rfl
  ·exact⟨n1,n2⟩
  ·exact⟨n4,n5⟩) oz (by show 2<=500;omega)
 rw[<- etw]at hca;have hle:=E6 tw n4 n5 n1 n2 oz;have m1:=n4.sub n1;have m2:=n5.sub n2;have hdo:=F9 tw m1 m2 m1 m2 oz;rw[i1.eq,i2.eq,i4.eq,i5.eq]at hle;rw[i1.eq,i2.eq,i4.eq,i5.eq,br,br]at hdo;have hd2:=Re (x,y) (x2,y2);refine ah func53 ?_;refine gc hca ?_;refine gC (fun t17=>?_) (fun t17=>?_) (st1:=(3,0)) (st2:=(5,0));cases t17;refine gW (Wk.of (sl:=[(4,some (.ptr 4 0)),(5,some (.ptr 5 0)),(9,some (.ptr 21 0))]) (hp:=[(4,some (.box [nA a,nA b])),(5,some (.box [nA a2,nA b2])),(21,some (.box [.lst 1 ((llq rs).map nA),.v .nilIface]))]) aR (.k (.k (.cons rfl (BlkSub.bL (.cons (.of (ko etw)) (.cons (.refl _) .nil)) rfl) .nil)))) ?_;refine gt (aA (Con.rB 21 rfl rfl rfl rfl hle) (aB rfl rfl rfl) aC rfl rfl) ?_;refine gt (aA (Con.rB 21 rfl rfl rfl rfl hdo) (aB rfl rfl rfl) aC rfl rfl) ?_;refine gt (aA (Con.rB 21 rfl rfl rfl rfl (EW _ _)) (be rfl rfl) aC rfl rfl) ?_;refine bi ?_;rw[<- hd2];rfl
theorem pS(rs:List (List Rt))(a:List Rat):Con prog 265 [.ptr 1000 0,nA a,.v .nilIface] [(1000,some (dC rs))] (nA a) [(1000,some (dC rs))]:=by
 refine gF func265 (fun k z h=>bf h) ?_;refine gC (fun t11=>?_) (fun t11=>?_) (st2:=(77777,0))
 ·refine gR ?_;exact ak.keep (aZ rfl)
 cases t11
end
section
variable{rs:List (List Rt)}{r u k:Nat}{a b:List Rat}{x y:Et (llq rs)}{w v w' v':Nat}
theorem QO (h : TR rs r) (hc : aX rs = 0) [c0 : Ct (llq rs) u k] [ha : Zl (llq rs) u k a x w v] [hb : Zl (llq rs) u k b y w' v'] (hs : w + v + (w' + v') <= 10000 := by decide) :
  Con prog 260 [.ptr 1000 0,nA a,nA b] [(1000,some (dC rs))] (nA (sX (x+y))) [(1000,some (dC rs))]:=by
 have hx:=LC (ha:=ha) (hb:=hb) hs;rw[m8 h hc]at hx;refine gF func260 (fun k z h=>bf h) ?_;refine gc hx ?_;refine gt (aA (pS _ _) (aB rfl rfl rfl) aC rfl rfl) ?_;refine gR ?_;exact ak.keep (aZ rfl)
theorem A0 (h : TR rs r) (hc : aX rs = 0) [c0 : Ct (llq rs) u k] [ha : Zl (llq rs) u k a x w v] [hb : Zl (llq rs) u k b y w' v'] (hs : w + v + (w' + v') <= 10000 := by decide) :
  Con prog 256 [.ptr 1000 0,nA a,nA b] [(1000,some (dC rs))] (nA (sX (x-y))) [(1000,some (dC rs))]:=by
 have hx:=Ae (ha:=ha) (hb:=hb) hs;rw[m8 h hc]at hx;refine gF func256 (fun k z h=>bf h) ?_;refine gc hx ?_;refine gt (aA (pS _ _) (aB rfl rfl rfl) aC rfl rfl) ?_;refine gR ?_;exact ak.keep (aZ rfl)
theorem ya (h : TR rs r) (hc : aX rs = 0) [c0 : Ct (llq rs) u k] [ha : Zl (llq rs) u k a x w v] [hb : Zl (llq rs) u k b y w' v'] (hs : w + v + (w' + v') <= 10000 := by decide) :
  Con prog 266 [.ptr 1000 0,nA a,nA b] [(1000,some (dC rs))] (nA (sX (x*y))) [(1000,some (dC rs))]:=by
 have hx:=zi (ha:=ha) (hb:=hb) hs;rw[m8 h hc]at hx;refine gF func266 (fun k z h=>bf h) ?_;refine gc hx ?_;refine gt (aA (pS _ _) (aB rfl rfl rfl) aC rfl rfl) ?_;refine gR ?_;exact ak.keep (aZ rfl)
theorem Mp (h : TR rs r) (hc : aX rs = 0) [c0 : Ct (llq rs) u k] (n : Int) (hn : -9223372036854775808 <= n /\ n <= 9223372036854775807) [hq : Qz u (n : Rat) w'] [ha : Zl (llq rs) u k a x w v] (hs : w' + 0 + (w + v) <= 10000 := by decide) :
  Con prog 257 [.ptr 1000 0,i64 n,nA a] [(1000,some (dC rs))] (nA (sX (qE (n:Rat)*x))) [(1000,some (dC rs))]:=by
 have hm:=ya (a:=sh 0 ((n:Rat):Rat)) (b:=a) h hc hs;refine gF func257 (fun k z h=>bf h) ?_;refine gc (lN n hn) ?_;refine gc (mz (nP hn)) ?_;refine gt (aA hm (aB rfl rfl rfl) aC rfl rfl) ?_;refine gR ?_;exact ak.keep (aZ rfl)
end
section
variable{rs:List (List Rt)}{r:Nat}{a b c a2 b2 c2:List Rat}{x y z x2 y2 z2:Et (llq rs)}
theorem H9(h:TR rs r)(hc:aX rs=0)[c0:Ct (llq rs) 310000 65000][i1:Zl (llq rs) 310000 65000 a x 40 40][i2:Zl (llq rs) 310000 65000 b y 40 40][i3:Zl (llq rs) 310000 65000 c z 3 0][i4:Zl (llq rs) 310000 65000 a2 x2 40 40][i5:Zl (llq rs) 310000 65000 b2 y2 40 40][i6:Zl (llq rs) 310000 65000 c2 z2 3 0] :
  Con prog 157 [.ptr 1000 0,.agg [nA a,nA b,nA c],.agg [nA a2,nA b2,nA c2]] [(1000,some (dC rs))] (.tup [nA (sX (bV (x,y) z (x2,y2) z2)),nA (sX (a8 (x,y) (x2,y2)))]) [(1000,some (dC rs))]:=by
 have hd:=LP (a:=a) (b:=b) (a2:=a2) (b2:=b2) h hc;haveI:=i3.zu;haveI:=i6.zu;haveI zd:=Cg c0 i1.zu i2.zu i4.zu i5.zu;haveI q4:Qz 310000 ((4:Int):Rat) 1:=Qz.int (c:=Ct.cx (c:=c0)) (by decide);have m1:=QO (a:=c) (b:=sX (a8 (x,y) (x2,y2))) h hc (by decide);have m2:=A0 (a:=sX (z+a8 (x,y) (x2,y2))) (b:=c2) h hc (by decide);have m3:=ya (a:=c) (b:=sX (a8 (x,y) (x2,y2))) h hc (by decide);have m4:=Mp (a:=sX (z*a8 (x,y) (x2,y2))) h hc 4 oz (by decide);have m5:=ya (a:=sX (z+a8 (x,y) (x2,y2)-z2)) (b:=sX (z+a8 (x,y) (x2,y2)-z2)) h hc (by decide);have m6:=A0 (a:=sX (qE ((4:Int):Rat)*(z*a8 (x,y) (x2,y2)))) (b:=sX ((z+a8 (x,y) (x2,y2)-z2)*(z+a8 (x,y) (x2,y2)-z2))) h hc (by decide);refine gF func157 (fun k z h=>bf h) ?_;refine gc hd ?_;refine gt (aP (pS _ _) (aB rfl rfl rfl) rfl rfl rfl) ?_;refine gD ?_;refine gt (aP m1 (aB rfl rfl rfl) rfl rfl rfl) ?_;refine gt (aP m2 (aB rfl rfl rfl) rfl rfl rfl) ?_;refine gD ?_;refine gt (aP m3 (aB rfl rfl rfl) rfl rfl rfl) ?_;refine gt (aP m4 (.cons (.tmp rfl) (.cons (.const _) (cf rfl))) rfl rfl rfl) ?_;refine gt (aP m5 (aB rfl rfl rfl) rfl rfl rfl) ?_;refine gt (aP m6 (aB rfl rfl rfl) rfl rfl rfl) ?_;refine gR ?_;exact ak.keep (aZ rfl)
end
class Cy(ts:LL)(u k:outParam Nat):Prop where
  ex:∃R,Tw ts R/\eB R ts.length<=k
  k1:1<=k
  u3:3<=u
  two:ts.length<=2
instance Cy.cx{ts:LL}{u k:Nat}[c:Cy ts u k]:Cx (aj ts) ts.length u k:=by
  obtain⟨R,tw,h⟩:=c.ex;exact⟨⟨R,ER tw▸tw,h⟩,c.k1,c.u3⟩
theorem Cy.zq{ts:LL}{u k:Nat}[c:Cy ts u k]{q:Rat}{w:Nat}[h:Qz u q w]:Zl ts u k (sh 0 (q:Rat)) (qE q:Et ts) w 0:=⟨ke _ q,by
 obtain⟨R,tw,_⟩:=c.ex;exact(Nm.ofQ tw.five h.cb).eq oz⟩
theorem Cy.lm{ts:LL}{u k:Nat}(c:Cy ts u k):lm ts.length=200000000000:=by unfold Go.Lw.lm;rw[if_pos c.two]
def iE{ts:LL}(y:Et ts):Et ts:=T.inv (aj ts) ts.length y
abbrev aV(ts:LL):Blk:=.box [.lst 1 (ts.map nA),.v .nilIface]
theorem yE(ts:LL):dC (ts.map (List.map rt))=aV ts:=by
 have h:=jw ts;unfold cz aN at h;have h1:=AV.agg.inj h
 injection h1 with h2
 show Blk.box [.lst 1 ((ts.map (List.map rt)).map nR),.v .nilIface]=_;rw[h2]
section
variable{ts:LL}{u k:Nat}{a b:List Rat}{x y:Et ts}{w v w' v':Nat}
theorem Lh[c:Cy ts u k][ha:Zl ts u k a x w v][hb:Zl ts u k b y w' v'](hs:w*u+v*k+(w'*u+v'*k)<200000000000):FP 329 [aN ts,nA a,nA b] (.tup [nA (sX (x+y)),.v .nilIface]):=by
 obtain⟨R,tw,hk⟩:=c.ex;have h1:=v6 tw ha.nm hb.nm (by rw[c.lm];omega);rw[ha.eq,hb.eq]at h1;exact h1
theorem KB[c:Cy ts u k][ha:Zl ts u k a x w v][hb:Zl ts u k b y w' v'](hs:w*u+v*k+(w'*u+v'*k)<200000000000):FP 163 [aN ts,nA a,nA b] (.tup [nA (sX (x-y)),.v .nilIface]):=by
 obtain⟨R,tw,hk⟩:=c.ex;have h1:=mV tw ha.nm hb.nm (by rw[c.lm];omega);rw[ha.eq,hb.eq]at h1;exact h1
theorem GR[c:Cy ts u k][ha:Zl ts u k a x w v][hb:Zl ts u k b y w' v'](hs:w*u+v*k+(w'*u+v'*k)<200000000000):FP 164 [aN ts,nA a,nA b] (.tup [nA (sX (x*y)),.v .nilIface]):=by
 obtain⟨R,tw,hk⟩:=c.ex;have h1:=xJ tw ha.nm hb.nm (by rw[c.lm];omega);rw[ha.eq,hb.eq]at h1;exact h1
theorem DU[c:Cy ts u k][ha:Zl ts u k a x w v](hs:w*u+v*k<200000000000):FP 138 [aN ts,nA a] (.tup [nA (sX (-x)),.v .nilIface]):=by
 obtain⟨R,tw,hk⟩:=c.ex;have h1:=xw tw ha.nm (by rw[c.lm];omega);rw[ha.eq]at h1;exact h1
theorem Ea[c:Cy ts u k][ha:Zl ts u k a x w v](hs:w*u+v*k<200000000000):FP 267 [aN ts,nA a] (.tup [i64 (aw x),.v .nilIface]):=by
 obtain⟨R,tw,hk⟩:=c.ex;have h1:=DR tw ha.nm (by rw[c.lm];omega);rw[ha.eq]at h1;exact h1
theorem OI{j m:Nat}[c:Cy ts u k][ha:Zl ts u k a x w v][hb:Zl ts u k b y w' v'](nb:Nl j b)(hj:j<=ts.length)(h0:aw y≠0)(hm:∀R,eB R ts.length<=k->iB R j (w'*u+v'*k)<=m)(hf:w'*u+v'*k<200000000000)(hs:w*u+v*k+m+k<=200000000000) :
  FP 271 [aN ts,nA a,nA b] (.tup [nA (sX (x*iE y)),.v .nilIface])/\Nm ts.length (w*u+v*k+m+k) (sX (x*iE y)):=by
 obtain⟨R,tw,hk⟩:=c.ex;have hi:=hm R hk;have he:=hb.eq;have h1:T.sgn (aj ts) ts.length (ad ts.length b)≠0:=by rw[he];exact h0
 have hd:=vV tw ha.nm hb.nm hj nb h1 (by rw[c.lm];omega) oz;have hn:=xI tw ha.nm hb.nm hj nb h1 (by rw[c.lm];omega) oz;rw[ha.eq,he]at hd hn;exact⟨hd,hn.mono oz⟩
theorem oV{j:Nat}[c:Cy ts u k][ha:Zl ts u k a x w v][hb:Zl ts u k b y w' v'](nb:Nl j b)(hj:j<=ts.length)(hj1:j<=1)(h0:aw y≠0)(hs:(w+5*w')*u+(v+5*v'+3)*k<=200000000000) :
  FP 271 [aN ts,nA a,nA b] (.tup [nA (sX (x*iE y)),.v .nilIface])/\Zu u k (x*iE y) (w+5*w') (v+5*v'+3):=by
 have e:(w+5*w')*u+(v+5*v'+3)*k=w*u+v*k+(5*(w'*u+v'*k)+2*k)+k:=by
  simp only[Nat.add_mul,Nat.mul_add,Nat.mul_assoc];omega
 rw[e]at hs
 have h:=OI (a:=a) (b:=b) (m:=5*(w'*u+v'*k)+2*k) nb hj h0 (fun R hR=>by
  have h2:=Qx R (w'*u+v'*k) hj1;have h3:=fX R hj;omega) oz hs
 exact⟨h.1,⟨h.2.eq e.symm⟩⟩
theorem mn(ts:LL)(a:List Rat):Con prog 265 [.ptr 1000 0,nA a,.v .nilIface] [(1000,some (aV ts))] (nA a) [(1000,some (aV ts))]:=by
 have h:=pS (ts.map (List.map rt)) a;rw[yE]at h;exact h
theorem nW(ts:LL)(a:List Rat):Con prog 68 [.ptr 1000 0,nA a,.v .nilIface] [(1000,some (aV ts))] (nA a) [(1000,some (aV ts))]:=by
 have h:=tT (ts.map (List.map rt)) a;rw[yE]at h;exact h
theorem jd[c:Cy ts u k][ha:Zl ts u k a x w v][hb:Zl ts u k b y w' v'](hs:w*u+v*k+(w'*u+v'*k)<200000000000) :
  Con prog 260 [.ptr 1000 0,nA a,nA b] [(1000,some (aV ts))] (nA (sX (x+y))) [(1000,some (aV ts))]:=by
 refine gF func260 (fun k z h=>bf h) ?_;refine gc (Lh hs) ?_;refine gt (aA (mn _ _) (aB rfl rfl rfl) aC rfl rfl) ?_;refine gR ?_;exact ak.keep (aZ rfl)
theorem jD[c:Cy ts u k][ha:Zl ts u k a x w v][hb:Zl ts u k b y w' v'](hs:w*u+v*k+(w'*u+v'*k)<200000000000) :
  Con prog 256 [.ptr 1000 0,nA a,nA b] [(1000,some (aV ts))] (nA (sX (x-y))) [(1000,some (aV ts))]:=by
 refine gF func256 (fun k z h=>bf h) ?_;refine gc (KB hs) ?_;refine gt (aA (mn _ _) (aB rfl rfl rfl) aC rfl rfl) ?_;refine gR ?_;exact ak.keep (aZ rfl)
theorem iK[c:Cy ts u k][ha:Zl ts u k a x w v][hb:Zl ts u k b y w' v'](hs:w*u+v*k+(w'*u+v'*k)<200000000000) :
  Con prog 266 [.ptr 1000 0,nA a,nA b] [(1000,some (aV ts))] (nA (sX (x*y))) [(1000,some (aV ts))]:=by
 refine gF func266 (fun k z h=>bf h) ?_;refine gc (GR hs) ?_;refine gt (aA (mn _ _) (aB rfl rfl rfl) aC rfl rfl) ?_;refine gR ?_;exact ak.keep (aZ rfl)
theorem rJ{q:List Rat}(hd:FP 271 [aN ts,nA a,nA b] (.tup [nA q,.v .nilIface])) :
  Con prog 259 [.ptr 1000 0,nA a,nA b] [(1000,some (aV ts))] (nA q) [(1000,some (aV ts))]:=by
 refine gF func259 (fun k z h=>bf h) ?_;refine gc hd ?_;refine gt (aA (mn _ _) (aB rfl rfl rfl) aC rfl rfl) ?_;refine gR ?_;exact ak.keep (aZ rfl)
theorem ox[c:Cy ts u k][ha:Zl ts u k a x w v](hs:w*u+v*k<200000000000) :
  Con prog 253 [.ptr 1000 0,nA a] [(1000,some (aV ts))] (i64 (aw x)) [(1000,some (aV ts))]:=by
 refine gF func253 (fun k z h=>bf h) ?_;refine gC (fun t11=>?_) (fun t11=>?_) (st1:=(2,0));cases t11;refine gc (Ea hs) ?_;refine gR ?_;exact ak.keep (aZ rfl)
theorem tW{q:List Rat}(hd:FP 271 [aN ts,nA a,nA b] (.tup [nA q,.v .nilIface])) :
  Con prog 153 [.ptr 1000 0,nA a,nA b] [(1000,some (aV ts))] (nA q) [(1000,some (aV ts))]:=by
 refine gF func153 (fun k z h=>bf h) ?_;refine gc hd ?_;refine gt (aA (nW _ _) (aB rfl rfl rfl) aC rfl rfl) ?_;refine gR ?_;exact ak.keep (aZ rfl)
theorem vC[c:Cy ts u k][ha:Zl ts u k a x w v](hs:w*u+v*k<200000000000) :
  Con prog 150 [.ptr 1000 0,nA a] [(1000,some (aV ts))] (i64 (aw x)) [(1000,some (aV ts))]:=by
 refine gF func150 (fun k z h=>bf h) ?_;refine gC (fun t11=>?_) (fun t11=>?_) (st1:=(2,0));cases t11;refine gc (Ea hs) ?_;refine gR ?_;exact ak.keep (aZ rfl)
theorem vA[c:Cy ts u k](n:Int)(hn:-9223372036854775808<=n/\n<=9223372036854775807)[hq:Qz u (n:Rat) w'][ha:Zl ts u k a x w v](hs:w'*u+0*k+(w*u+v*k)<200000000000) :
  Con prog 257 [.ptr 1000 0,i64 n,nA a] [(1000,some (aV ts))] (nA (sX (qE (n:Rat)*x))) [(1000,some (aV ts))]:=by
 haveI:=Cy.zq (ts:=ts) (u:=u) (k:=k) (q:=(n:Rat)) (w:=w');have hm:=iK (ts:=ts) (u:=u) (k:=k) (a:=sh 0 ((n:Rat):Rat)) (b:=a) (x:=qE (n:Rat)) (y:=x) hs;refine gF func257 (fun k z h=>bf h) ?_;refine gc (lN n hn) ?_;refine gc (mz (nP hn)) ?_;refine gt (aA hm (aB rfl rfl rfl) aC rfl rfl) ?_;refine gR ?_;exact ak.keep (aZ rfl)
theorem r5{p1 p2 v1 v2 c m1 m2 q1 q2:List Rat}(h1:Con prog 266 [.ptr 1000 0,nA c,nA v1] [(1000,some (aV ts))] (nA m1) [(1000,some (aV ts))])
  (h2:Con prog 266 [.ptr 1000 0,nA c,nA v2] [(1000,some (aV ts))] (nA m2) [(1000,some (aV ts))])
  (h3:Con prog 260 [.ptr 1000 0,nA p1,nA m1] [(1000,some (aV ts))] (nA q1) [(1000,some (aV ts))])
  (h4:Con prog 260 [.ptr 1000 0,nA p2,nA m2] [(1000,some (aV ts))] (nA q2) [(1000,some (aV ts))]) :
  Con prog 258 [.ptr 1000 0,aJ p1 p2,nA c,aJ v1 v2] [(1000,some (aV ts))] (aJ q1 q2) [(1000,some (aV ts))]:=by
 refine gF func258 (fun k z h=>bf h) ?_;refine gt (aA h1 (aB rfl rfl rfl) aC rfl rfl) ?_;refine gt (aA h3 (aB rfl rfl rfl) aC rfl rfl) ?_;refine gt (aA h2 (aB rfl rfl rfl) aC rfl rfl) ?_;refine gt (aA h4 (aB rfl rfl rfl) aC rfl rfl) ?_;refine gD ?_;refine gR ?_;exact ak.keep (aZ rfl)
theorem Dv{r e:Nat}(tw:Tw ts r)(ha:Nm ts.length e a)(he:e<=lm ts.length)(hs:0<=T.sgn (aj ts) ts.length (ad ts.length a)) :
  Con prog 261 [.ptr 1000 0,nA a] [(1000,some (aV ts))] (nA (cr ts.length)) [(1000,some (aV (aK ts a)))]:=by
 refine gF func261 (fun k z h=>bf h) ?_;refine gC (fun t12=>?_) (fun t12=>?_) (st1:=(2,0));cases t12;refine gc (BD tw ha he hs) ?_;refine gC (fun t24=>?_) (fun t24=>?_) (st1:=(5,0));cases t24;refine gR ?_;exact ak.keep (aZ rfl)
abbrev xN(ts:LL)(ps:List AV):AV:=.agg [.lst 1 (ts.map nA),.lst 2 ps]
theorem HX{r:Nat}(tw:Tw ts r):Con prog 354 [.ptr 1000 0] [(1000,some (aV ts))] (aN ts) [(1000,some (aV ts))]:=by
 have h3:=tw.three;have hqs:=tw.rb.qs tw.le;refine gF func354 (fun k z h=>bf h) ?_;refine gl ?_;refine gW (Wk.virt 900 1 rfl) ?_;refine aI [2,3,13,14] [1000,2] (fun(i:Nat)=>[(15,some (i64 i))]) (fun i=>[(3,some (.box [.ms 900 1 0 i])),(900,some (.row 1 ((ts.take i).map nA)))]) (fun i=>i<=ts.length) (fun i=>ts.length-i) 0 (zero_le _) ?_ (h2:=(.cons rfl (BlkSub.bL (.cons (.nM _ _ _) .nil) rfl) (.k .nil)));rintro i hi K1 J1;refine gC (fun t16=>?_) (fun t16=>?_) (st2:=(13,0))
 ·have hin:=aU t16;obtain⟨d,hd⟩:=ay hin
  have hdl:d.length<=32:=by
   have h9:=tw.len i hin;rw[aL hd]at h9;have:2^i<=32:=bJ (b:=5) oz;omega
  have hdq:=hqs d (mem_of_getElem? hd);refine gi (az hd) ?_;refine gl ?_;refine gW (Wk.virt 901 3 rfl) ?_;refine aI [2,3,13,14,15,19,20] [1000,2,3,900] (fun(j:Nat)=>[(6,some (.ms 901 3 0 j)),(21,some (i64 j))]) (fun j=>[(901,some (.row 3 ((d.take j).map qA)))]) (fun j=>j<=d.length) (fun j=>d.length-j) 0 (zero_le _) ?_;rintro j hj K2 J2;refine gC (fun t22=>?_) (fun t22=>?_) (st2:=(11,0))
  ·have hjn:=aU t22;obtain ⟨q,hq⟩:=ay hjn;have hadd:=mS (rt q) (rt 0) (hdq q (mem_of_getElem? hq)).ok Qs.zero.ok;rw [ri,bu] at hadd;refine gi (az hq) ?_;refine gc (Con.sA (.cons (.refl _) (.cons gQ .nil)) hadd) ?_;refine gs (bU (.tmp rfl) rfl (by rw [length_map,length_take]; omega) (.tmp rfl) T67 rfl T45 rfl rfl (by simp only [length_cons,length_nil]; omega) rfl rfl) ?_ (10,0);refine gW (Wk.of (sl:=[(2,some (.ptr 2 0)),(3,some (.ptr 3 0)),(13,some (.lst 1 (ts.map nA))),(14,some (i64 ts.length)),(15,some (i64 i)),(6,some (.ms 30 3 0 (j + 1))),(19,some (nA d)),(20,some (i64 d.length)),(21,some (i64 j))]) (hp:=[(1000,some (aV ts)),(2,some (.box [nS])),(3,some (.box [.ms 900 1 0 i])),(900,some (.row 1 ((ts.take i).map nA))),(30,some (.row 3 ((d.take (j + 1)).map qA)))]) aR (.k (.k (.k (.k (.cons rfl (BlkSub.of (by rw [cR hq,map_append]; rfl)) .nil)))))) ?_ (10,0)
   refine gW (Wk.rk (k:=30) (d:=901) rfl rfl) ?_;refine ga aG ?_;exact aE J2 (j+1) hjn
  have hjn:=a6 hj t22;subst hjn;refine gW ((Wk.freeze (k:=901) rfl).trans<|Wk.of (sl:=[(2,some (.ptr 2 0)),(3,some (.ptr 3 0)),(13,some (.lst 1 (ts.map nA))),(14,some (i64 ts.length)),(15,some (i64 i)),(6,some (nA d))]) (hp:=[(1000,some (aV ts)),(2,some (.box [nS])),(3,some (.box [.ms 900 1 0 i])),(900,some (.row 1 ((ts.take i).map nA)))]) (.k (.k (.k (.k (.k (.cons rfl (Sub.of (by rw[bB (by simp)];simp[nA])) .nil)))))) (.k (.k (.k (.k .nil))))) ?_
  refine gs (bU (.tmp rfl) rfl (by rw[length_map,length_take];omega) (.tmp rfl) T35 rfl T67 rfl rfl (by simp only[length_cons,length_nil];omega) rfl rfl) ?_ (12,0);refine gW (Wk.of (sl:=[(2,some (.ptr 2 0)),(3,some (.ptr 3 0)),(13,some (.lst 1 (ts.map nA))),(14,some (i64 ts.length)),(15,some (i64 i))]) (hp:=[(1000,some (aV ts)),(2,some (.box [nS])),(3,some (.box [.ms 36 1 0 (i+1)])),(36,some (.row 1 ((ts.take (i+1)).map nA)))]) aR (.k (.k (.k (.cons rfl (BlkSub.of (by rw[cR hd,map_append];rfl)) .nil))))) ?_ (12,0);refine gW (Wk.rk (k:=36) (d:=900) rfl rfl) ?_;refine ga aG ?_;exact aE J1 (i+1) hin
 have hin:=a6 hi t16;subst hin;refine gW ((Wk.freeze (k:=900) rfl).trans<|Wk.of (sl:=[(2,some (.ptr 2 0)),(3,some (.ptr 3 0))]) (hp:=[(1000,some (aV ts)),(2,some (.box [nS])),(3,some (.box [.lst 1 (ts.map nA)]))]) aR (.k (.k (.cons rfl (BlkSub.bL (.cons (Sub.of (by rw[bB (by simp)];simp)) .nil) rfl) .nil)))) ?_;refine gR ?_;exact ak.keep (aZ rfl)
theorem kZ{r:Nat}(tw:Tw ts r)(ps:List AV):Con prog 255 [.ptr 1000 0,.lst 2 ps] [(1000,some (aV ts))] (.tup [xN ts ps,.v .nilIface]) [(1000,some (aV ts))]:=by
 refine gF func255 (fun k z h=>bf h) ?_;refine gC (fun t10=>?_) (fun t10=>?_) (st1:=(2,0));cases t10;refine gt (aA (HX tw) (cf rfl) aC rfl rfl) ?_;refine gR ?_;exact ak.keep (aZ rfl)
end
theorem eS(ts:LL)(a:List Rat):(aK ts a).length=ts.length+1:=by simp[aK]
theorem DS{ts:LL}{a:List Rat}{j:Nat}(h:j<ts.length):(aK ts a).getD j []=ts.getD j []:=by
 unfold aK;rw[getD_eq_getElem?_getD,getD_eq_getElem?_getD,getElem?_append_left h]
theorem Ai(ts:LL)(a:List Rat):(aK ts a).getD ts.length []=aM a (2^ts.length):=by
 unfold aK;rw[getD_eq_getElem?_getD,getElem?_append_right (le_refl _),Nat.sub_self];rfl
theorem B1{ts:LL}{a:List Rat}{j:Nat}(h:j<ts.length):aj (aK ts a) j=aj ts j:=by
 unfold aj;rw[DS h]
theorem BR{ts:LL}{a:List Rat}{j:Nat}(h:j<=ts.length)(x:T j):T.sgn (aj (aK ts a)) j x=T.sgn (aj ts) j x :=
 T.sgn_congr j (fun i hi=>B1 oz) x
theorem RB.ext{r e:Nat}{ts:LL}{a:List Rat}(h:RB r ts)(ha:Cb e a):RB (r+e) (aK ts a):=by
 obtain⟨D,N,h0,h1,h2,h3⟩:=h;obtain⟨D',N',k1,k2,k3⟩:=ha.wide (n:=2^ts.length);have hN:N<=2^r:=h3;refine⟨D*D',max (N*D') (N'*D),Nat.mul_pos h0 k1.1,?_,?_,?_⟩
 ·intro d hd;rcases List.mem_append.1 hd with h9 |h9
  ·exact((h1 d h9).scale k1.1).mono (Nat.le_max_left _ _)
  ·rw[List.mem_singleton.1 h9,Nat.mul_comm D];exact(k1.scale h0).mono (Nat.le_max_right _ _)
 ·rw[pow_add];exact Nat.mul_le_mul h2 k2
 ·rw[pow_add];refine Nat.max_le.2 ⟨Nat.mul_le_mul h3 k2,?_⟩;rw[Nat.mul_comm (2^r)];exact Nat.mul_le_mul k3 h2
theorem yK{r e:Nat}{ts:LL}{a:List Rat}(tw:Tw ts r)(h2:ts.length<=2)(ha:Nm ts.length e a)(he:r+e<=5000000000)(hs:0<=T.sgn (aj ts) ts.length (ad ts.length a)):Tw (aK ts a) (r+e):=by
 refine⟨by rw[eS];omega,?_,?_,tw.rb.ext ha.cb,he⟩
 ·intro j hj;rw[eS]at hj;rcases lt_or_ge j ts.length with h |h
  ·rw[DS h];exact tw.len j h
  ·have : j = ts.length := by omega
   subst this;rw[Ai];exact dc ha.nl.le
 ·intro j hj;rw[eS]at hj;rw[BR oz];rcases lt_or_ge j ts.length with h |h
  ·rw[B1 h];exact tw.pos j h
  ·have : j = ts.length := by omega
   subst this
   have e1:aj (aK ts a) ts.length=ad ts.length a:=by
    show ad ts.length ((aK ts a).getD ts.length [])=_;rw[Ai,p4]
   rw[e1];exact hs
theorem kI{ts:LL}{a l:List Rat}{e:Nat}(h:Nm ts.length e l)(h4:ts.length<=4):Nm (aK ts a).length e l:=by
 rw[eS];exact⟨by omega,h.nl.mono oz,h.cb⟩
theorem N6{ts:LL}{a l:List Rat}(h:Nl ts.length l):aw (dE (aK ts a) l)=aw (dE ts l):=by
 unfold aw dE;rw[eS];show T.sgn (aj (aK ts a)) (ts.length+1) (ad (ts.length+1) l)=_;rw[po (aj (aK ts a)) h.le (Nat.le_succ _),BR (le_refl _)]
theorem pz{ts:LL}{a:List Rat}(h4:ts.length<=4):Nm (aK ts a).length 1 (cr ts.length):=by
 rw[eS];refine⟨by omega,.inr ⟨_,le_refl _,vY _⟩,1,1,⟨by omega,?_⟩,by omega,by omega⟩;intro q hq;unfold cr at hq;rcases List.mem_or_eq_of_mem_set hq with h |h
 ·rw[(List.mem_replicate.1 h).2];exact⟨0,by rw[Rat.zero_mul];rfl,by simp⟩
 ·rw[h];exact⟨1,by rw[Rat.one_mul];rfl,by simp⟩
theorem N2{r e k:Nat}{ts:LL}{a:List Rat}(tw:Tw ts r)(h1:ts.length<=1)(ha:Nm ts.length e a)(he:r+e<=5000000000)(hs:0<=T.sgn (aj ts) ts.length (ad ts.length a)){u:Nat}(hu:3<=u)(hk:3*(r+e)+6<=k):Cy (aK ts a) u k :=
 ⟨⟨r+e,yK tw oz ha he hs,by
  rw[eS];have h:=fX (r+e) (show ts.length+1<=2 by omega);have h2:eB (r+e) 2=3*(r+e)+6:=by simp only[eB];omega
  omega⟩,by omega,hu,by rw[eS];omega⟩
structure Mt where
  ts:LL
  ps:List (List Rat×List Rat)
abbrev cQ(p:List Rat×List Rat):AV:=aJ p.1 p.2
abbrev Mt.av(m:Mt):AV:=xN m.ts (m.ps.map cQ)
abbrev P2(ts:LL):Type:=Et ts×Et ts
abbrev P2.l{ts:LL}(p:P2 ts):List Rat×List Rat:=(sX p.1,sX p.2)
abbrev bE{ts:LL}(X:Et ts)(x:Et ts):Et (aK ts (sX X)):=dE (aK ts (sX X)) (sX x)
section
variable{ts:LL}
def d5(d:Et ts):Et ts:=qE ((2:Int):Rat)*d
def fW(p q:P2 ts):P2 ts:=(q.1-p.1,q.2-p.2)
def kt(p:P2 ts)(k:Et ts)(v:P2 ts):P2 ts:=(p.1+k*v.1,p.2+k*v.2)
def iX(p q:P2 ts)(z z2:Et ts):P2 ts:=kt p ((z+a8 p q-z2)*iE (d5 (a8 p q))) (fW p q)
def en(X d:Et ts):Et (aK ts (sX X)):=dE _ (cr ts.length)*iE (bE X (d5 d))
def ji(X:Et ts)(f v:P2 ts)(c:Et (aK ts (sX X))):P2 (aK ts (sX X)):=kt (bE X f.1,bE X f.2) c (qE ((-1:Int):Rat)*bE X v.2,bE X v.1)
def lO(p:P2 ts)(z z2:Et ts):Mt:=if aw (z-z2)≠0 then⟨ts,[]⟩else if 0<aw z then⟨[],[]⟩else⟨ts,[(kt p 0 p).l]⟩
def e8(p q:P2 ts)(z z2:Et ts):Mt :=
  if aw (a8 p q)=0 then lO p z z2
  else if aw (bV p z q z2)<0 then⟨ts,[]⟩
  else if aw (bV p z q z2)=0 then⟨ts,[(iX p q z z2).l]⟩
  else⟨aK ts (sX (bV p z q z2)),[(ji (bV p z q z2) (iX p q z z2) (fW p q) (en (bV p z q z2) (a8 p q))).l,
    (ji (bV p z q z2) (iX p q z z2) (fW p q) (qE ((-1:Int):Rat)*en (bV p z q z2) (a8 p q))).l]⟩
def lF(z z2:Et ts):Nat:=if aw (z-z2)=0/\0<aw z then 15 else 0
def fT(p q:P2 ts)(z z2:Et ts):Nat:=if aw (a8 p q)=0 then lF z z2 else 0
theorem Di:Sub (.agg [nS,nS]) (xN [] []):=Sub.agg (.cons (.nil _ _ _) (.cons (.nil _ _ _) .nil)) rfl
end
theorem O5 {ts : LL} {u k : Nat} [c : Cy ts u k] : Zl ts u k [] (0 : Et ts) 0 0 := ⟨by rw [iz]; exact E.zero_def.symm, by
 obtain⟨R,tw,_⟩:=c.ex;exact⟨tw.five,.inl rfl,Cb.nil.mono (zero_le _)⟩⟩
section
variable{ts:LL}{a b c a2 b2 c2:List Rat}{x y z x2 y2 z2:Et ts}
theorem Iq{r:Nat}(tw:Tw ts r)[c0:Cy ts 310000 65000][i1:Zl ts 310000 65000 a x 40 40][i2:Zl ts 310000 65000 b y 40 40][i3:Zl ts 310000 65000 c z 3 0][i6:Zl ts 310000 65000 c2 z2 3 0] :
  Con prog 254 [.ptr 1000 0,.agg [nA a,nA b,nA c],.agg [nA a2,nA b2,nA c2]] [(1000,some (aV ts))]
   (.tup [(lO (x,y) z z2).av,ba (lF z z2)]) [(1000,some (aV ts))]:=by
 haveI:=i1.zu;haveI:=i2.zu;haveI:=i3.zu;haveI:=i6.zu;have hm0:=Con.sA (.cons (.refl _) (.cons (Sub.nil 2 none 0) .nil)) (kZ tw []);have m1:=jD (ts:=ts) (u:=310000) (k:=65000) (a:=c) (b:=c2) (by decide);have m2:=ox (ts:=ts) (u:=310000) (k:=65000) (a:=sX (z-z2)) (by decide);have m3:=ox (ts:=ts) (u:=310000) (k:=65000) (a:=c) (by decide);haveI zn:Zl ts 310000 65000 [] (0:Et ts) 0 0:=O5;have n1:=iK (ts:=ts) (u:=310000) (k:=65000) (a:=[]) (b:=a) (by decide);have n2:=iK (ts:=ts) (u:=310000) (k:=65000) (a:=[]) (b:=b) (by decide);have n3:=jd (ts:=ts) (u:=310000) (k:=65000) (a:=a) (b:=sX (0*x)) (by decide);have n4:=jd (ts:=ts) (u:=310000) (k:=65000) (a:=b) (b:=sX (0*y)) (by decide);have hal:=Con.sA (.cons (.refl _) (.cons (.refl _) (.cons (Sub.nil 3 none 0) (.cons (.refl _) .nil)))) (r5 n1 n2 n3 n4);refine gF func254 (fun k z h=>bf h) ?_;refine gt (aP m1 (aB rfl rfl rfl) rfl rfl rfl) ?_;refine gt (aP m2 (be rfl rfl) rfl rfl rfl) ?_;refine gC (fun t8=>?_) (fun t8=>?_)
 ·have h1:aw (z-z2)≠0:=pR t8;refine gt (aP hm0 (.cons (.tmp rfl) (.cons (.const _) .nil)) rfl rfl rfl) ?_;refine gR ?_;exact(ak.keep (aZ rfl)).sub (Sub.of (by unfold lO lF;rw[if_pos h1,if_neg (fun h=>h1 h.1)];rfl))
 have h1:aw (z-z2)=0:=xd t8;refine gt (aP m3 (be rfl rfl) rfl rfl rfl) ?_;refine gC (fun t22=>?_) (fun t22=>?_)
 ·have h2:0<aw z:=of_decide_eq_true t22;refine gR ?_;exact(ak.keep (aZ rfl)).sub (by unfold lO lF;rw[if_neg oz,if_pos h2,if_pos ⟨h1,h2⟩];exact Sub.tup (.cons Di (.cons (.refl _) .nil)))
 have h2:¬0<aw z:=of_decide_eq_false t22;refine gt (aP hal (.cons (.tmp rfl) (.cons (.tmp rfl) (.cons (.const _) (cf rfl)))) rfl rfl rfl) ?_;refine gt (aP (kZ tw [aJ (sX (x+0*x)) (sX (y+0*y))]) (be rfl rfl) rfl rfl rfl) ?_;refine gR ?_;exact(ak.keep (aZ rfl)).sub (Sub.of (by unfold lO lF;rw[if_neg oz,if_neg h2,if_neg (fun h=>h2 h.2)];rfl))
end
section
variable{rs:List (List Rt)}{r:Nat}{a b c a2 b2 c2:List Rat}{x y z x2 y2 z2:Et (llq rs)}
structure CirP(ts:LL)(p q:P2 ts)(z z2:Et ts):Prop where
  zd:Zu 310000 65000 (a8 p q) 320 327
  zX:Zu 310000 65000 (bV p z q z2) 976 989
  zt:Zu 310000 65000 (d5 (a8 p q)) 321 328
  z1:Zu 310000 65000 (fW p q).1 80 81
  z2:Zu 310000 65000 (fW p q).2 80 81
theorem Az{ts:LL}{x y z x2 y2 z2:Et ts}(c:Ct ts 310000 65000)(h1:Zu 310000 65000 x 40 40)(h2:Zu 310000 65000 y 40 40)(h3:Zu 310000 65000 z 3 0)(h4:Zu 310000 65000 x2 40 40)(h5:Zu 310000 65000 y2 40 40)(h6:Zu 310000 65000 z2 3 0) :
  CirP ts (x,y) (x2,y2) z z2:=by
 haveI:=c;haveI:=h1;haveI:=h2;haveI:=h3;haveI:=h4;haveI:=h5;haveI:=h6
 haveI zd:=Cg c h1 h2 h4 h5;haveI q4:Qz 310000 ((4:Int):Rat) 1:=Qz.int (c:=Ct.cx (c:=c)) (by decide);haveI q2:Qz 310000 ((2:Int):Rat) 1:=Qz.int (c:=Ct.cx (c:=c)) (by decide)
 exact⟨zd,(inferInstance:Zu 310000 65000 (qE ((4:Int):Rat)*(z*a8 (x,y) (x2,y2))-(z+a8 (x,y) (x2,y2)-z2)*(z+a8 (x,y) (x2,y2)-z2)) _ _),
  (inferInstance:Zu 310000 65000 (qE ((2:Int):Rat)*a8 (x,y) (x2,y2)) _ _),(inferInstance:Zu 310000 65000 (x2-x) _ _),(inferInstance:Zu 310000 65000 (y2-y) _ _)⟩
theorem zY{ts:LL}{x y z x2 y2 z2:Et ts}[c0:Cy ts 310000 65000](hn:ts.length<=1)(h1:Zu 310000 65000 x 40 40)(h2:Zu 310000 65000 y 40 40)(h3:Zu 310000 65000 z 3 0)(h6:Zu 310000 65000 z2 3 0)(P:CirP ts (x,y) (x2,y2) z z2)
  (h0:aw (d5 (a8 (x,y) (x2,y2)))≠0) :
  FP 271 [aN ts,nA (sX (z+a8 (x,y) (x2,y2)-z2)),nA (sX (d5 (a8 (x,y) (x2,y2))))] (.tup [nA (sX ((z+a8 (x,y) (x2,y2)-z2)*iE (d5 (a8 (x,y) (x2,y2))))),.v .nilIface]) /\
  Zu 310000 65000 ((z+a8 (x,y) (x2,y2)-z2)*iE (d5 (a8 (x,y) (x2,y2)))) 1931 1972/\Zu 310000 65000 (iX (x,y) (x2,y2) z z2).1 2051 2095/\Zu 310000 65000 (iX (x,y) (x2,y2) z z2).2 2051 2095:=by
 haveI:=h1;haveI:=h2;haveI:=h3;haveI:=h6;haveI:=P.zd;haveI:=P.zt
 have hd:=oV (ts:=ts) (u:=310000) (k:=65000) (a:=sX (z+a8 (x,y) (x2,y2)-z2)) (b:=sX (d5 (a8 (x,y) (x2,y2)))) (j:=ts.length) P.zt.nm.nl (le_refl _) hn h0 (by decide);haveI zk:=hd.2;haveI:=P.z1;haveI:=P.z2
 exact⟨hd.1,zk,(inferInstance:Zu 310000 65000 (x+((z+a8 (x,y) (x2,y2)-z2)*iE (d5 (a8 (x,y) (x2,y2))))*(fW (x,y) (x2,y2)).1) _ _),
  (inferInstance:Zu 310000 65000 (y+((z+a8 (x,y) (x2,y2)-z2)*iE (d5 (a8 (x,y) (x2,y2))))*(fW (x,y) (x2,y2)).2) _ _)⟩
structure ExtP{ts:LL}(X:Et ts):Prop where
  tw:Tw (aK ts (sX X)) 366909990
  cy:Cy (aK ts (sX X)) 773000000 1101400000
theorem qG{ts:LL}{X:Et ts}(tw:Tw ts 64990)(hn:ts.length<=1)(hx:Zu 310000 65000 X 976 989)(hs:0<=aw X):ExtP X:=by
 have h9:0<=T.sgn (aj ts) ts.length (ad ts.length (sX X)):=by rw[show ad ts.length (sX X)=X from br _ _];exact hs
 have hm:=hx.nm;exact⟨yK tw oz hm (by decide) h9,N2 tw hn hm (by decide) h9 oz (by decide)⟩
theorem iV{ts:LL}{X x:Et ts}{w v:Nat}(hn:ts.length<=1)(h:Zu 310000 65000 x w v)(hs:w*310000+v*65000<=773000000):Zl (aK ts (sX X)) 773000000 1101400000 (sX x) (bE X x) 1 0:=Zl.at (kI h.nm oz) hs
theorem sW{ts:LL}{X x:Et ts}:aw (bE X x)=aw x:=by
 show aw (dE (aK ts (sX X)) (sX x))=_;rw[N6 (l:=sX x) (eD _ _)];show aw (dE ts (sX x))=_;rw[show dE ts (sX x)=x from br _ _]
theorem u6{ts:LL}{r:Nat}(tw:Tw ts r)(d:Et ts):aw (d5 d)=aw d:=by
 have h:=sL (aj ts) ts.length tw.pos
 have h2:sg (aj ts) ts.length (qE ((2:Int):Rat):Et ts)=1:=by
  show T.sgn (aj ts) ts.length (T.ofQ ts.length ((2:Int):Rat))=1;rw[T.sgn_ofQ];rfl
 have h3:=h.mul (qE ((2:Int):Rat)) d;rw[h2,Int.one_mul]at h3;exact h3
structure SideP{ts:LL}(X d:Et ts)(f v:P2 ts):Prop where
  hd:FP 271 [aN (aK ts (sX X)),nA (cr ts.length),nA (sX (d5 d))] (.tup [nA (sX (en X d)),.v .nilIface])
  ht:Con prog 257 [.ptr 1000 0,i64 (-1),nA (sX v.2)] [(1000,some (aV (aK ts (sX X))))] (nA (sX (qE ((-1:Int):Rat)*bE X v.2))) [(1000,some (aV (aK ts (sX X))))]
  hu:Con prog 257 [.ptr 1000 0,i64 (-1),nA (sX (en X d))] [(1000,some (aV (aK ts (sX X))))] (nA (sX (qE ((-1:Int):Rat)*en X d))) [(1000,some (aV (aK ts (sX X))))]
  a1:Con prog 258 [.ptr 1000 0,aJ (sX f.1) (sX f.2),nA (sX (en X d)),aJ (sX (qE ((-1:Int):Rat)*bE X v.2)) (sX v.1)] [(1000,some (aV (aK ts (sX X))))] (cQ (ji X f v (en X d)).l) [(1000,some (aV (aK ts (sX X))))]
  a2:Con prog 258 [.ptr 1000 0,aJ (sX f.1) (sX f.2),nA (sX (qE ((-1:Int):Rat)*en X d)),aJ (sX (qE ((-1:Int):Rat)*bE X v.2)) (sX v.1)] [(1000,some (aV (aK ts (sX X))))] (cQ (ji X f v (qE ((-1:Int):Rat)*en X d)).l) [(1000,some (aV (aK ts (sX X))))]
  n1:Zu 773000000 1101400000 (ji X f v (en X d)).1 9 6/\Zu 773000000 1101400000 (ji X f v (en X d)).2 9 6
  n2:Zu 773000000 1101400000 (ji X f v (qE ((-1:Int):Rat)*en X d)).1 10 7/\Zu 773000000 1101400000 (ji X f v (qE ((-1:Int):Rat)*en X d)).2 10 7
theorem EC{ts:LL}{X d:Et ts}{f v:P2 ts}(hn:ts.length<=1)(E:ExtP X)(hd:Zu 310000 65000 (d5 d) 321 328)(h0:aw (d5 d)≠0)(f1:Zu 310000 65000 f.1 2051 2095)(f2:Zu 310000 65000 f.2 2051 2095)
  (v1:Zu 310000 65000 v.1 80 81) (v2:Zu 310000 65000 v.2 80 81):SideP X d f v:=by
 haveI cy:=E.cy;haveI zr:Zl (aK ts (sX X)) 773000000 1101400000 (cr ts.length) (dE _ (cr ts.length)) 1 0:=Zl.at (pz oz) (by decide);haveI zd:=iV (X:=X) hn hd (by decide);haveI zf1:=iV (X:=X) hn f1 (by decide);haveI zf2:=iV (X:=X) hn f2 (by decide);haveI zv1:=iV (X:=X) hn v1 (by decide);haveI zv2:=iV (X:=X) hn v2 (by decide);haveI:=zf1.zu;haveI:=zf2.zu;haveI:=zv1.zu;haveI:=zv2.zu
 have hdiv:=oV (ts:=aK ts (sX X)) (u:=773000000) (k:=1101400000) (a:=cr ts.length) (b:=sX (d5 d)) (j:=ts.length) hd.nm.nl (by rw[eS];omega) hn (by rw[sW];exact h0) (by decide);haveI zs:Zu 773000000 1101400000 (en X d) 6 3:=hdiv.2;haveI qm:Qz 773000000 ((-1:Int):Rat) 1:=Qz.int (c:=Cy.cx (c:=cy)) (by decide);haveI zm:Zu 773000000 1101400000 (qE ((-1:Int):Rat)*bE X v.2) 2 1:=inferInstance;haveI zu:Zu 773000000 1101400000 (qE ((-1:Int):Rat)*en X d) 7 4:=inferInstance;have ht:=vA (ts:=aK ts (sX X)) (u:=773000000) (k:=1101400000) (a:=sX v.2) (-1) oz (by decide);have hu:=vA (ts:=aK ts (sX X)) (u:=773000000) (k:=1101400000) (a:=sX (en X d)) (-1) oz (by decide)
 have al:∀{c:Et (aK ts (sX X))}{w k:Nat}(zc:Zu 773000000 1101400000 c w k),w<=7->k<=4 ->
   Con prog 258 [.ptr 1000 0,aJ (sX f.1) (sX f.2),nA (sX c),aJ (sX (qE ((-1:Int):Rat)*bE X v.2)) (sX v.1)] [(1000,some (aV (aK ts (sX X))))] (cQ (ji X f v c).l) [(1000,some (aV (aK ts (sX X))))]:=by
  intro c w k zc hw hk;haveI:=zc;have m1:=iK (ts:=aK ts (sX X)) (u:=773000000) (k:=1101400000) (a:=sX c) (b:=sX (qE ((-1:Int):Rat)*bE X v.2)) oz;have m2:=iK (ts:=aK ts (sX X)) (u:=773000000) (k:=1101400000) (a:=sX c) (b:=sX v.1) oz;have m3:=jd (ts:=aK ts (sX X)) (u:=773000000) (k:=1101400000) (a:=sX f.1) (b:=sX (c*(qE ((-1:Int):Rat)*bE X v.2))) oz;have m4:=jd (ts:=aK ts (sX X)) (u:=773000000) (k:=1101400000) (a:=sX f.2) (b:=sX (c*bE X v.1)) oz;exact r5 m1 m2 m3 m4
 exact⟨hdiv.1,ht,hu,al zs oz oz,al zu oz oz,
  ⟨(inferInstance:Zu 773000000 1101400000 (bE X f.1+en X d*(qE ((-1:Int):Rat)*bE X v.2)) 9 6),⟨(inferInstance:Zu 773000000 1101400000 (bE X f.2+en X d*bE X v.1) _ _).nm.mono (by decide)⟩⟩,
  ⟨(inferInstance:Zu 773000000 1101400000 (bE X f.1+qE ((-1:Int):Rat)*en X d*(qE ((-1:Int):Rat)*bE X v.2)) 10 7),⟨(inferInstance:Zu 773000000 1101400000 (bE X f.2+qE ((-1:Int):Rat)*en X d*bE X v.1) _ _).nm.mono (by decide)⟩⟩⟩
theorem Kl(h:TR rs 64990)(hc:aX rs=0)(hn:(llq rs).length<=1)[c0:Ct (llq rs) 310000 65000][i1:Zl (llq rs) 310000 65000 a x 40 40][i2:Zl (llq rs) 310000 65000 b y 40 40][i3:Zl (llq rs) 310000 65000 c z 3 0][i4:Zl (llq rs) 310000 65000 a2 x2 40 40][i5:Zl (llq rs) 310000 65000 b2 y2 40 40][i6:Zl (llq rs) 310000 65000 c2 z2 3 0]
  (ha:a=sX x) (hb:b=sX y) (s1:0<=aw z) (s2:0<=aw z2):FP 147 [cz rs,.agg [nA a,nA b,nA c],.agg [nA a2,nA b2,nA c2]] (.tup [(e8 (x,y) (x2,y2) z z2).av,ba (fT (x,y) (x2,y2) z z2)]):=by
 have hz:∀q∈[(a,b,c),(a2,b2,c2)],CiZ rs q:=fun q hq=>by
  simp only[mem_cons,not_mem_nil,or_false]at hq;rcases hq with rfl |rfl
  ·exact⟨i1.nm.mono oz,i2.nm.mono oz,i3.nm.mono oz,by show 0<=aw (dE (llq rs) c);rw[show dE (llq rs) c=z from i3.eq];exact s1⟩
  ·exact⟨i4.nm.mono oz,i5.nm.mono oz,i6.nm.mono oz,by show 0<=aw (dE (llq rs) c2);rw[show dE (llq rs) c2=z2 from i6.eq];exact s2⟩
 have hck:=OZ h hc [(a,b,c),(a2,b2,c2)] hz (by show 2<=100;omega);obtain⟨tw,etw⟩:=cH h hc;haveI cy:Cy (llq rs) 310000 65000:=⟨c0.ex,by omega,by omega,by omega⟩
 have P:=Az c0 i1.zu i2.zu i3.zu i4.zu i5.zu i6.zu;haveI:=P.zd;haveI:=P.zX;haveI:=i3.zu;haveI:=i6.zu;have m1:=ox (ts:=llq rs) (u:=310000) (k:=65000) (a:=sX (a8 (x,y) (x2,y2))) (by decide);have m2:=ox (ts:=llq rs) (u:=310000) (k:=65000) (a:=sX (bV (x,y) z (x2,y2) z2)) (by decide);have m0:=Con.sA (.cons (.refl _) (.cons (Sub.nil 2 none 0) .nil)) (kZ tw []);have w1:=jD (ts:=llq rs) (u:=310000) (k:=65000) (a:=a2) (b:=a) (by decide);have w2:=jD (ts:=llq rs) (u:=310000) (k:=65000) (a:=b2) (b:=b) (by decide);haveI q2:Qz 310000 ((2:Int):Rat) 1:=Qz.int (c:=Cy.cx (c:=cy)) (by decide);have t2:=vA (ts:=llq rs) (u:=310000) (k:=65000) (a:=sX (a8 (x,y) (x2,y2))) 2 oz (by decide);have k1:=jd (ts:=llq rs) (u:=310000) (k:=65000) (a:=c) (b:=sX (a8 (x,y) (x2,y2))) (by decide);have k2:=jD (ts:=llq rs) (u:=310000) (k:=65000) (a:=sX (z+a8 (x,y) (x2,y2))) (b:=c2) (by decide);subst ha;subst hb;refine ah func147 ?_;refine gc hck ?_;refine gC (fun t24=>?_) (fun t24=>?_) (st1:=(3,0)) (st2:=(5,0));cases t24;refine gW (Wk.o (sl:=[(4,some (.ptr 4 0)),(5,some (.ptr 5 0)),(6,some (.ptr 6 0)),(9,some (.ptr 29 0))]) (hp:=[(4,some (.box [nA (sX x),nA (sX y),nA c])),(5,some (.box [nA a2,nA b2,nA c2])),(6,some (.box [nS,nS])),(29,some (dC rs))])) ?_;refine gt (aA (Con.rB 29 rfl rfl rfl rfl (H9 h hc)) (aB rfl rfl rfl) aC rfl rfl) ?_ (6,0);refine gW (Wk.of (sl:=[(4,some (.ptr 4 0)),(5,some (.ptr 5 0)),(6,some (.ptr 6 0)),(9,some (.ptr 29 0)),(10,some (nA (sX (bV (x,y) z (x2,y2) z2)))),(11,some (nA (sX (a8 (x,y) (x2,y2)))))]) (hp:=[(4,some (.box [nA (sX x),nA (sX y),nA c])),(5,some (.box [nA a2,nA b2,nA c2])),(6,some (.box [nS,nS])),(29,some (aV (llq rs)))]) aR (.k (.k (.k (.cons rfl (BlkSub.bL (.cons (.of (ko etw)) (.cons (.refl _) .nil)) rfl) .nil))))) ?_
 refine gt (aP (Con.rB 29 rfl rfl rfl rfl m1) (be rfl rfl) rfl rfl rfl) ?_;refine gC (fun t40=>?_) (fun t40=>?_)
 ·have hd0:aw (a8 (x,y) (x2,y2))=0:=cP t40;refine gt (aP (Con.rB 29 rfl rfl rfl rfl (Iq (a:=sX x) (b:=sX y) (c:=c) (a2:=a2) (b2:=b2) (c2:=c2) tw)) (aB rfl rfl rfl) rfl rfl rfl) ?_;refine bi ?_;unfold e8 fT;rw[if_pos hd0,if_pos hd0]
 have hd0:¬aw (a8 (x,y) (x2,y2))=0:=dN t40;refine gt (aP (Con.rB 29 rfl rfl rfl rfl m2) (be rfl rfl) rfl rfl rfl) ?_;refine gC (fun t51=>?_) (fun t51=>?_)
 ·have hx0:aw (bV (x,y) z (x2,y2) z2)<0:=of_decide_eq_true t51;refine gt (aP (Con.rB 29 rfl rfl rfl rfl m0) (.cons (.tmp rfl) (.cons (.const _) .nil)) rfl rfl rfl) ?_;refine bi ?_;unfold e8 fT;rw[if_neg hd0,if_neg hd0,if_pos hx0];rfl
 have hx0:¬aw (bV (x,y) z (x2,y2) z2)<0:=of_decide_eq_false t51;have ht0:aw (d5 (a8 (x,y) (x2,y2)))≠0:=by rw[u6 tw];exact hd0
 obtain⟨fd,fk,f1,f2⟩:=zY hn i1.zu i2.zu i3.zu i6.zu P ht0;haveI:=fk;haveI:=P.z1;haveI:=P.z2;have g1:=iK (ts:=llq rs) (u:=310000) (k:=65000) (a:=sX ((z+a8 (x,y) (x2,y2)-z2)*iE (d5 (a8 (x,y) (x2,y2))))) (b:=sX (fW (x,y) (x2,y2)).1) (by decide);have g2:=iK (ts:=llq rs) (u:=310000) (k:=65000) (a:=sX ((z+a8 (x,y) (x2,y2)-z2)*iE (d5 (a8 (x,y) (x2,y2))))) (b:=sX (fW (x,y) (x2,y2)).2) (by decide);have g3:=jd (ts:=llq rs) (u:=310000) (k:=65000) (a:=sX x) (b:=sX ((z+a8 (x,y) (x2,y2)-z2)*iE (d5 (a8 (x,y) (x2,y2)))*(fW (x,y) (x2,y2)).1)) (by decide);have g4:=jd (ts:=llq rs) (u:=310000) (k:=65000) (a:=sX y) (b:=sX ((z+a8 (x,y) (x2,y2)-z2)*iE (d5 (a8 (x,y) (x2,y2)))*(fW (x,y) (x2,y2)).2)) (by decide);have gal:=r5 g1 g2 g3 g4;refine gt (aP (Con.rB 29 rfl rfl rfl rfl w1) (aB rfl rfl rfl) rfl rfl rfl) ?_;refine gt (aP (Con.rB 29 rfl rfl rfl rfl w2) (aB rfl rfl rfl) rfl rfl rfl) ?_;refine gD ?_;refine gt (aP (Con.rB 29 rfl rfl rfl rfl t2) (.cons (.tmp rfl) (.cons (.const _) (cf rfl))) rfl rfl rfl) ?_;refine gt (aP (Con.rB 29 rfl rfl rfl rfl k1) (aB rfl rfl rfl) rfl rfl rfl) ?_;refine gt (aP (Con.rB 29 rfl rfl rfl rfl k2) (aB rfl rfl rfl) rfl rfl rfl) ?_;refine gt (aP (Con.rB 29 rfl rfl rfl rfl (rJ fd)) (aB rfl rfl rfl) rfl rfl rfl) ?_;refine gt (aP (Con.rB 29 rfl rfl rfl rfl gal) (.cons (.tmp rfl) (aB rfl rfl rfl)) rfl rfl rfl) ?_;refine gD ?_;refine gC (fun t94=>?_) (fun t94=>?_)
 ·have hx1:aw (bV (x,y) z (x2,y2) z2)=0:=cP t94;refine gt (aP (Con.rB 29 rfl rfl rfl rfl (kZ tw [cQ (iX (x,y) (x2,y2) z z2).l])) (be rfl rfl) rfl rfl rfl) ?_;refine bi ?_;unfold e8 fT;rw[if_neg hd0,if_neg hd0,if_neg hx0,if_pos hx1];rfl
 have hx1:¬aw (bV (x,y) z (x2,y2) z2)=0:=dN t94;have E:ExtP (bV (x,y) z (x2,y2) z2):=qG tw hn P.zX oz;have S:=EC (X:=bV (x,y) z (x2,y2) z2) (d:=a8 (x,y) (x2,y2)) (f:=iX (x,y) (x2,y2) z z2) (v:=fW (x,y) (x2,y2)) hn E P.zt ht0 f1 f2 P.z1 P.z2;have hex:=Dv (a:=sX (bV (x,y) z (x2,y2) z2)) tw P.zX.nm (by rw[cy.lm];decide) (by rw[show ad (llq rs).length (sX (bV (x,y) z (x2,y2) z2))=bV (x,y) z (x2,y2) z2 from br _ _];show 0<=aw (bV (x,y) z (x2,y2) z2);omega);refine gt (aA (Con.rB 29 rfl rfl rfl rfl hex) (be rfl rfl) aC rfl rfl) ?_;refine gt (aP (Con.rB 29 rfl rfl rfl rfl (rJ S.hd)) (aB rfl rfl rfl) rfl rfl rfl) ?_;refine gt (aP (Con.rB 29 rfl rfl rfl rfl S.ht) (.cons (.tmp rfl) (.cons (.const _) (cf rfl))) rfl rfl rfl) ?_;refine gD ?_;refine gt (aP (Con.rB 29 rfl rfl rfl rfl S.a1) (.cons (.tmp rfl) (aB rfl rfl rfl)) rfl rfl rfl) ?_;refine gt (aP (Con.rB 29 rfl rfl rfl rfl S.hu) (.cons (.tmp rfl) (.cons (.const _) (cf rfl))) rfl rfl rfl) ?_;refine gt (aP (Con.rB 29 rfl rfl rfl rfl S.a2) (.cons (.tmp rfl) (aB rfl rfl rfl)) rfl rfl rfl) ?_;refine gt (aP (Con.rB 29 rfl rfl rfl rfl (kZ E.tw [cQ (ji (bV (x,y) z (x2,y2) z2) (iX (x,y) (x2,y2) z z2) (fW (x,y) (x2,y2)) (en (bV (x,y) z (x2,y2) z2) (a8 (x,y) (x2,y2)))).l,cQ (ji (bV (x,y) z (x2,y2) z2) (iX (x,y) (x2,y2) z z2) (fW (x,y) (x2,y2)) (qE ((-1:Int):Rat)*en (bV (x,y) z (x2,y2) z2) (a8 (x,y) (x2,y2)))).l])) (be rfl rfl) rfl rfl rfl) ?_;refine gD ?_;refine bi ?_;unfold e8 fT;rw[if_neg hd0,if_neg hd0,if_neg hx0,if_neg hx1];rfl
end
section
variable{ts:LL}
abbrev cB(p q:P2 ts):Et ts:=oT (bW q p) (bW q p)
abbrev dl(p q c:P2 ts):Et ts:=oT (bW q p) (bW c p)
abbrev kp(p q c:P2 ts):Et ts:=Ls (bW q p) (bW c p)
abbrev a7(p q c:P2 ts)(z:Et ts):Et ts:=cB p q*z-kp p q c*kp p q c
def fS(X:Et ts)(S:Et ts)(k:Et (aK ts (sX X))):Et (aK ts (sX X)):=k*iE (bE X S)
def mi(X:Et ts)(p v:P2 ts)(k:Et (aK ts (sX X))):P2 (aK ts (sX X)):=kt (bE X p.1,bE X p.2) k (bE X v.1,bE X v.2)
abbrev eI(X:Et ts):Et (aK ts (sX X)):=dE _ (cr ts.length)
def fa(p q c:P2 ts)(z:Et ts):Mt :=
  if aw (cB p q)=0 then⟨[],[]⟩else if aw (a7 p q c z)=-1 then⟨ts,[]⟩else if aw (a7 p q c z)=0 then⟨ts,[(kt p (dl p q c*iE (cB p q)) (bW q p)).l]⟩
  else⟨aK ts (sX (a7 p q c z)),[(mi (a7 p q c z) p (bW q p) (fS (a7 p q c z) (cB p q) (bE (a7 p q c z) (dl p q c)+eI (a7 p q c z)))).l,
    (mi (a7 p q c z) p (bW q p) (fS (a7 p q c z) (cB p q) (bE (a7 p q c z) (dl p q c)-eI (a7 p q c z)))).l]⟩
def fO(p q:P2 ts):Nat:=if aw (cB p q)=0 then 8 else 0
structure LinP(p q c:P2 ts)(z:Et ts):Prop where
  v1:Zu 310000 65000 (bW q p).1 80 81
  v2:Zu 310000 65000 (bW q p).2 80 81
  w1:Zu 310000 65000 (bW c p).1 80 81
  w2:Zu 310000 65000 (bW c p).2 80 81
  zs:Zu 310000 65000 (cB p q) 320 327
  ze:Zu 310000 65000 (dl p q c) 320 327
  zc:Zu 310000 65000 (kp p q c) 320 327
  zX:Zu 310000 65000 (a7 p q c z) 963 984
theorem Fu{p q c:P2 ts}{z:Et ts}(c0:Cy ts 310000 65000)(h1:Zu 310000 65000 p.1 40 40)(h2:Zu 310000 65000 p.2 40 40)(h3:Zu 310000 65000 q.1 40 40)(h4:Zu 310000 65000 q.2 40 40)(h5:Zu 310000 65000 c.1 40 40)(h6:Zu 310000 65000 c.2 40 40)(h7:Zu 310000 65000 z 3 0):LinP p q c z:=by
 haveI:=c0;haveI:=h1;haveI:=h2;haveI:=h3;haveI:=h4;haveI:=h5;haveI:=h6;haveI:=h7
 haveI v1:=(inferInstance:Zu 310000 65000 (q.1-p.1) 80 81)
 haveI v2:=(inferInstance:Zu 310000 65000 (q.2-p.2) 80 81)
 haveI w1:=(inferInstance:Zu 310000 65000 (c.1-p.1) 80 81)
 haveI w2:=(inferInstance:Zu 310000 65000 (c.2-p.2) 80 81)
 haveI zs:Zu 310000 65000 (cB p q) 320 327:=(inferInstance:Zu 310000 65000 ((q.1-p.1)*(q.1-p.1)+(q.2-p.2)*(q.2-p.2)) _ _)
 haveI ze:Zu 310000 65000 (dl p q c) 320 327:=(inferInstance:Zu 310000 65000 ((q.1-p.1)*(c.1-p.1)+(q.2-p.2)*(c.2-p.2)) _ _)
 haveI zc:Zu 310000 65000 (kp p q c) 320 327:=(inferInstance:Zu 310000 65000 ((q.1-p.1)*(c.2-p.2)-(q.2-p.2)*(c.1-p.1)) _ _)
 exact⟨v1,v2,w1,w2,zs,ze,zc,inferInstance⟩
structure LinQ(p q c:P2 ts):Prop where
  hd:FP 271 [aN ts,nA (sX (dl p q c)),nA (sX (cB p q))] (.tup [nA (sX (dl p q c*iE (cB p q))),.v .nilIface])
  al:Con prog 258 [.ptr 1000 0,aJ (sX p.1) (sX p.2),nA (sX (dl p q c*iE (cB p q))),aJ (sX (bW q p).1) (sX (bW q p).2)] [(1000,some (aV ts))] (cQ (kt p (dl p q c*iE (cB p q)) (bW q p)).l) [(1000,some (aV ts))]
  n1:Zu 310000 65000 (kt p (dl p q c*iE (cB p q)) (bW q p)).1 2040 2088
  n2:Zu 310000 65000 (kt p (dl p q c*iE (cB p q)) (bW q p)).2 2040 2088
theorem zJ{p q c:P2 ts}{z:Et ts}(c0:Cy ts 310000 65000)(hn:ts.length<=1)(h1:Zu 310000 65000 p.1 40 40)(h2:Zu 310000 65000 p.2 40 40)(P:LinP p q c z)(h0:aw (cB p q)≠0):LinQ p q c:=by
 haveI:=c0;haveI:=h1;haveI:=h2;haveI:=P.v1;haveI:=P.v2;haveI:=P.zs;haveI:=P.ze
 have hd:=oV (ts:=ts) (u:=310000) (k:=65000) (a:=sX (dl p q c)) (b:=sX (cB p q)) (j:=ts.length) P.zs.nm.nl (le_refl _) hn h0 (by decide);haveI:=hd.2;have m1:=iK (ts:=ts) (u:=310000) (k:=65000) (a:=sX (dl p q c*iE (cB p q))) (b:=sX (bW q p).1) (by decide);have m2:=iK (ts:=ts) (u:=310000) (k:=65000) (a:=sX (dl p q c*iE (cB p q))) (b:=sX (bW q p).2) (by decide);have m3:=jd (ts:=ts) (u:=310000) (k:=65000) (a:=sX p.1) (b:=sX (dl p q c*iE (cB p q)*(bW q p).1)) (by decide);have m4:=jd (ts:=ts) (u:=310000) (k:=65000) (a:=sX p.2) (b:=sX (dl p q c*iE (cB p q)*(bW q p).2)) (by decide);exact⟨hd.1,r5 m1 m2 m3 m4,(inferInstance:Zu 310000 65000 (p.1+dl p q c*iE (cB p q)*(bW q p).1) _ _),(inferInstance:Zu 310000 65000 (p.2+dl p q c*iE (cB p q)*(bW q p).2) _ _)⟩
structure LinS(X:Et ts)(S:Et ts)(p v:P2 ts)(k:Et (aK ts (sX X))):Prop where
  hd:FP 271 [aN (aK ts (sX X)),nA (sX k),nA (sX S)] (.tup [nA (sX (fS X S k)),.v .nilIface])
  al:Con prog 258 [.ptr 1000 0,aJ (sX p.1) (sX p.2),nA (sX (fS X S k)),aJ (sX v.1) (sX v.2)] [(1000,some (aV (aK ts (sX X))))] (cQ (mi X p v (fS X S k)).l) [(1000,some (aV (aK ts (sX X))))]
  n1:Zu 773000000 1101400000 (mi X p v (fS X S k)).1 9 6
  n2:Zu 773000000 1101400000 (mi X p v (fS X S k)).2 9 6
theorem uN{X S:Et ts}{p v:P2 ts}{k:Et (aK ts (sX X))}(hn:ts.length<=1)(E:ExtP X)(hs:Zu 310000 65000 S 320 327)(h0:aw S≠0)(p1:Zu 310000 65000 p.1 40 40)(p2:Zu 310000 65000 p.2 40 40)(v1:Zu 310000 65000 v.1 80 81)(v2:Zu 310000 65000 v.2 80 81)
  (hk:Zu 773000000 1101400000 k 2 1):LinS X S p v k:=by
 haveI cy:=E.cy;haveI:=hk;haveI zs:=iV (X:=X) hn hs (by decide);haveI zp1:=iV (X:=X) hn p1 (by decide);haveI zp2:=iV (X:=X) hn p2 (by decide);haveI zv1:=iV (X:=X) hn v1 (by decide);haveI zv2:=iV (X:=X) hn v2 (by decide);haveI:=zp1.zu;haveI:=zp2.zu;haveI:=zv1.zu;haveI:=zv2.zu
 have hdiv:=oV (ts:=aK ts (sX X)) (u:=773000000) (k:=1101400000) (a:=sX k) (b:=sX S) (j:=ts.length) hs.nm.nl (by rw[eS];omega) hn (by rw[sW];exact h0) (by decide);haveI zk:Zu 773000000 1101400000 (fS X S k) 7 4:=hdiv.2;have m1:=iK (ts:=aK ts (sX X)) (u:=773000000) (k:=1101400000) (a:=sX (fS X S k)) (b:=sX v.1) (by decide);have m2:=iK (ts:=aK ts (sX X)) (u:=773000000) (k:=1101400000) (a:=sX (fS X S k)) (b:=sX v.2) (by decide);have m3:=jd (ts:=aK ts (sX X)) (u:=773000000) (k:=1101400000) (a:=sX p.1) (b:=sX (fS X S k*bE X v.1)) (by decide);have m4:=jd (ts:=aK ts (sX X)) (u:=773000000) (k:=1101400000) (a:=sX p.2) (b:=sX (fS X S k*bE X v.2)) (by decide);exact⟨hdiv.1,r5 m1 m2 m3 m4,(inferInstance:Zu 773000000 1101400000 (bE X p.1+fS X S k*bE X v.1) 9 6),(inferInstance:Zu 773000000 1101400000 (bE X p.2+fS X S k*bE X v.2) 9 6)⟩
theorem u7{X:Et ts}{w v w' v' u k:Nat}(h:Zu u k X w v)(hw:w<=w')(hv:v<=v'):Zu u k X w' v':=⟨h.nm.mono (w9 hw hv)⟩
theorem KR{x:Int}(h:cond (cond (ep Value.nilIface) (aa .eql x 0) false) (ep Value.nilIface) false=true):x=0:=by
 cases h9:aa .eql x 0
 ·rw[h9]at h;cases h
 ·exact cP h9
theorem KM{x:Int}(h:cond (cond (ep Value.nilIface) (aa .eql x 0) false) (ep Value.nilIface) false=false):x≠0:=by
 cases h9:aa .eql x 0
 ·exact dN h9
 ·rw[h9]at h;cases h
theorem Q2{x y:AV}{i:Nat}{Q:AV->Prop}(hi:i<2)(hx:Q x)(hy:Q y):∃z,[x,y][i]?=some z/\Q z:=by
 have h:i=0\/i=1:=by omega
 rcases h with rfl |rfl
 ·exact⟨x,rfl,hx⟩
 ·exact⟨y,rfl,hy⟩
theorem C4{r e:Nat}{a b c d:Et ts}(tw:Tw ts r)(hl:lm ts.length=200000000000)(h1:Nm ts.length e (sX a))(h2:Nm ts.length e (sX b))(h3:Nm ts.length e (sX c))(h4:Nm ts.length e (sX d))(he:e+e+kB r ts.length<=100000000000) :
  FP 77 [aN ts,aJ (sX a) (sX b),aJ (sX c) (sX d)] (.tup [nA (sX (a*c+b*d)),.v .nilIface]):=by
 have h:=yG tw h1 h2 h3 h4 (by rw[hl];omega);rw[show ad ts.length (sX a)=a from br _ _,show ad ts.length (sX b)=b from br _ _,show ad ts.length (sX c)=c from br _ _,show ad ts.length (sX d)=d from br _ _]at h;exact h
theorem Oe{r e:Nat}{a b c d:Et ts}(tw:Tw ts r)(hl:lm ts.length=200000000000)(h1:Nm ts.length e (sX a))(h2:Nm ts.length e (sX b))(h3:Nm ts.length e (sX c))(h4:Nm ts.length e (sX d))(he:e+e+kB r ts.length<=100000000000) :
  FP 74 [aN ts,aJ (sX a) (sX b),aJ (sX c) (sX d)] (.tup [nA (sX (a*d-b*c)),.v .nilIface]):=by
 have h:=Fy tw h1 h2 h3 h4 (by rw[hl];omega);rw[show ad ts.length (sX a)=a from br _ _,show ad ts.length (sX b)=b from br _ _,show ad ts.length (sX c)=c from br _ _,show ad ts.length (sX d)=d from br _ _]at h;exact h
end
section
variable{rs:List (List Rt)}{c:List Rat}{o p q:P2 (llq rs)}{z:Et (llq rs)}
theorem Rf(h:TR rs 64990)(hc:aX rs=0)(hn:(llq rs).length<=1)(c0:Ct (llq rs) 310000 65000)(ho1:Zu 310000 65000 o.1 40 40)(ho2:Zu 310000 65000 o.2 40 40)(p1:Zu 310000 65000 p.1 40 40)(p2:Zu 310000 65000 p.2 40 40)(q1:Zu 310000 65000 q.1 40 40)(q2:Zu 310000 65000 q.2 40 40)
  [i3:Zl (llq rs) 310000 65000 c z 3 0] (s1:0<=aw z):FP 149 [cz rs,.agg [nA (sX o.1),nA (sX o.2),nA c],cQ p.l,cQ q.l] (.tup [(fa p q o z).av,ba (fO p q)]):=by
 obtain⟨tw,etw⟩:=cH h hc;haveI cy:Cy (llq rs) 310000 65000:=⟨c0.ex,by obtain⟨_,h9,_⟩:=c0;exact h9,by obtain⟨_,_,h9,_⟩:=c0;exact h9,by omega⟩
 have hlm:=cy.lm;have hck:=my rs 64990 h;rw[hc]at hck;have P:=Fu cy p1 p2 q1 q2 ho1 ho2 i3.zu;haveI:=ho1;haveI:=ho2;haveI:=p1;haveI:=p2;haveI:=q1;haveI:=q2;haveI:=P.v1;haveI:=P.v2;haveI:=P.w1;haveI:=P.w2;haveI:=P.zs;haveI:=P.ze;haveI:=P.zc;haveI:=P.zX
 have hci:=Eu (e:=40*310000+40*65000) h hc ho1.nm ho2.nm (i3.nm.mono (by decide)) (by rw[hlm];decide)
 have hra:=GB h hc [(sX o.1,sX o.2,c)] (fun y hy=>by
  rw[List.mem_singleton.1 hy];exact⟨ho1.nm.mono (by decide),ho2.nm.mono (by decide),i3.nm.mono (by decide),by show 0<=aw (dE (llq rs) c);rw[show dE (llq rs) c=z from i3.eq];exact s1⟩) (by show 1<=100;omega)
 have a1:=jD (ts:=llq rs) (u:=310000) (k:=65000) (a:=sX q.1) (b:=sX p.1) (by decide);have a2:=jD (ts:=llq rs) (u:=310000) (k:=65000) (a:=sX q.2) (b:=sX p.2) (by decide);have a3:=jD (ts:=llq rs) (u:=310000) (k:=65000) (a:=sX o.1) (b:=sX p.1) (by decide);have a4:=jD (ts:=llq rs) (u:=310000) (k:=65000) (a:=sX o.2) (b:=sX p.2) (by decide);have hkb:80*310000+81*65000+(80*310000+81*65000)+kB 64990 (llq rs).length<=100000000000:=by have:=wV hn;omega
 have b1:=C4 tw hlm P.v1.nm P.v2.nm P.v1.nm P.v2.nm hkb;have b2:=C4 tw hlm P.v1.nm P.v2.nm P.w1.nm P.w2.nm hkb;have b3:=Oe tw hlm P.v1.nm P.v2.nm P.w1.nm P.w2.nm hkb;rw[<- etw]at b1 b2 b3;have m1:=ox (ts:=llq rs) (u:=310000) (k:=65000) (a:=sX (cB p q)) (by decide);have m2:=iK (ts:=llq rs) (u:=310000) (k:=65000) (a:=sX (cB p q)) (b:=c) (by decide);have m3:=iK (ts:=llq rs) (u:=310000) (k:=65000) (a:=sX (kp p q o)) (b:=sX (kp p q o)) (by decide);haveI zz:=i3.zu;have m4:=jD (ts:=llq rs) (u:=310000) (k:=65000) (a:=sX (cB p q*z)) (b:=sX (kp p q o*kp p q o)) (by decide);have m5:=ox (ts:=llq rs) (u:=310000) (k:=65000) (a:=sX (a7 p q o z)) (by decide);have m0:=Con.sA (.cons (.refl _) (.cons (Sub.nil 2 none 0) .nil)) (kZ tw []);refine ah func149 ?_;refine gc hck ?_;refine gC (fun t27=>?_) (fun t27=>?_) (st1:=(3,0));cases t27;refine gc hci ?_;refine gC (fun t34=>?_) (fun t34=>?_) (st1:=(6,0));cases t34;refine ge rfl ?_;refine aI [4,5,6,7,8,39,40] [4,5,6,7,8] (fun(i:Nat)=>[(41,some (i64 i))]) (fun _=>[]) (fun i=>i<=2) (fun i=>2-i) 0 (zero_le _) ?_;rintro i hi K1 J1;refine gC (fun t42=>?_) (fun t42=>?_)
 ·have hin:i<2:=aU (b:=2) t42;obtain⟨zz2,hz2,u,v,hu,hv,rfl⟩:=Q2 (x:=cQ p.l) (y:=cQ q.l) (Q:=fun w=>∃u v,Nm (llq rs).length (40*310000+40*65000) u/\Nm (llq rs).length (40*310000+40*65000) v/\w=aJ u v) hin ⟨_,_,p1.nm,p2.nm,rfl⟩ ⟨_,_,q1.nm,q2.nm,rfl⟩;refine gi hz2 ?_;refine gc (DX h hc hu hv (by rw[hlm];decide)) ?_;refine gC (fun t49=>?_) (fun t49=>?_) (st1:=(12,0));cases t49;refine ga aG ?_;exact aE J1 (i+1) hin
 refine gc hra ?_;refine gC (fun t58=>?_) (fun t58=>?_) (st1:=(16,0)) (st2:=(18,0));cases t58;refine gW (Wk.of (sl:=[(4,some (.ptr 4 0)),(5,some (.ptr 5 0)),(6,some (.ptr 6 0)),(7,some (.ptr 7 0)),(8,some (.ptr 8 0)),(16,some (.ptr 63 0))]) (hp:=[(4,some (.box [.lst 1 (rs.map nR)])),(5,some (.box [nA (sX o.1),nA (sX o.2),nA c])),(6,some (.box [nA (sX p.1),nA (sX p.2)])),(7,some (.box [nA (sX q.1),nA (sX q.2)])),(8,some (.box [nS,nS])),(63,some (aV (llq rs)))]) aR (.k (.k (.k (.k (.k (.cons rfl (BlkSub.bL (.cons (.of (ko etw)) (.cons (.refl _) .nil)) rfl) .nil))))))) ?_
 refine gt (aP (Con.rB 63 rfl rfl rfl rfl a1) (aB rfl rfl rfl) rfl rfl rfl) ?_;refine gt (aP (Con.rB 63 rfl rfl rfl rfl a2) (aB rfl rfl rfl) rfl rfl rfl) ?_;refine gD ?_;refine gt (aP (Con.rB 63 rfl rfl rfl rfl a3) (aB rfl rfl rfl) rfl rfl rfl) ?_;refine gt (aP (Con.rB 63 rfl rfl rfl rfl a4) (aB rfl rfl rfl) rfl rfl rfl) ?_;refine gD ?_;refine gc b1 ?_;refine gt (aP (Con.rB 63 rfl rfl rfl rfl (mn _ _)) (aB rfl rfl rfl) rfl rfl rfl) ?_;refine gu (dK rfl rfl rfl (fun h=>aP (Con.rB 63 rfl rfl rfl rfl m1) (.cons (.opt rfl (o1 h)) (.cons (.opt rfl (o1 h)) .nil)) rfl rfl rfl)) ?_;refine gC (fun t117=>?_) (fun t117=>?_)
 ·have h0:aw (cB p q)=0:=KR t117;refine gR ?_;exact cT (by unfold fa fO;rw[if_pos h0,if_pos h0];exact Sub.tup (.cons Di (.cons (.refl _) .nil)))
 have h0:aw (cB p q)≠0:=KM t117;have Q:=zJ cy hn p1 p2 P h0;refine gc b2 ?_;refine gt (aP (Con.rB 63 rfl rfl rfl rfl (mn _ _)) (aB rfl rfl rfl) rfl rfl rfl) ?_;refine gc b3 ?_;refine gt (aP (Con.rB 63 rfl rfl rfl rfl (mn _ _)) (aB rfl rfl rfl) rfl rfl rfl) ?_;refine gt (aP (Con.rB 63 rfl rfl rfl rfl m2) (aB rfl rfl rfl) rfl rfl rfl) ?_;refine gt (aP (Con.rB 63 rfl rfl rfl rfl m3) (aB rfl rfl rfl) rfl rfl rfl) ?_;refine gt (aP (Con.rB 63 rfl rfl rfl rfl m4) (aB rfl rfl rfl) rfl rfl rfl) ?_;refine gt (aP (Con.rB 63 rfl rfl rfl rfl m5) (be rfl rfl) rfl rfl rfl) ?_;refine gC (fun t150=>?_) (fun t150=>?_)
 ·have h1:aw (a7 p q o z)=-1:=cP t150;refine gt (aP (Con.rB 63 rfl rfl rfl rfl m0) (.cons (.tmp rfl) (.cons (.const _) .nil)) rfl rfl rfl) ?_;refine bi ?_;unfold fa fO;rw[if_neg h0,if_neg h0,if_pos h1];rfl
 have h1:¬aw (a7 p q o z)=-1:=dN t150;refine gC (fun t156=>?_) (fun t156=>?_)
 ·have h2:aw (a7 p q o z)=0:=cP t156;refine gt (aP (Con.rB 63 rfl rfl rfl rfl (rJ Q.hd)) (aB rfl rfl rfl) rfl rfl rfl) ?_;refine gt (aP (Con.rB 63 rfl rfl rfl rfl Q.al) (.cons (.tmp rfl) (aB rfl rfl rfl)) rfl rfl rfl) ?_;refine gt (aP (Con.rB 63 rfl rfl rfl rfl (kZ tw [cQ (kt p (dl p q o*iE (cB p q)) (bW q p)).l])) (be rfl rfl) rfl rfl rfl) ?_;refine gD ?_;refine bi ?_;unfold fa fO;rw[if_neg h0,if_neg h0,if_neg h1,if_pos h2];rfl
 have h2:¬aw (a7 p q o z)=0:=dN t156
 have hpos:0<=aw (a7 p q o z):=by
  have:=T.sgn_cases (aj (llq rs)) (llq rs).length (a7 p q o z);have e:aw (a7 p q o z)=T.sgn (aj (llq rs)) (llq rs).length (a7 p q o z):=rfl;omega
 have E:ExtP (a7 p q o z):=qG tw hn (u7 P.zX oz oz) hpos;haveI ce:=E.cy;haveI zr:Zl (aK (llq rs) (sX (a7 p q o z))) 773000000 1101400000 (cr (llq rs).length) (dE _ (cr (llq rs).length)) 1 0:=Zl.at (pz oz) (by decide);haveI ze':=iV (X:=a7 p q o z) hn P.ze (by decide);haveI:=zr.zu;haveI:=ze'.zu
 have e1:=jd (ts:=aK (llq rs) (sX (a7 p q o z))) (u:=773000000) (k:=1101400000) (a:=sX (dl p q o)) (b:=cr (llq rs).length) (by decide);have e2:=jD (ts:=aK (llq rs) (sX (a7 p q o z))) (u:=773000000) (k:=1101400000) (a:=sX (dl p q o)) (b:=cr (llq rs).length) (by decide);have S1:=uN (p:=p) (v:=bW q p) hn E P.zs h0 p1 p2 P.v1 P.v2 (k:=bE (a7 p q o z) (dl p q o)+eI (a7 p q o z)) inferInstance;have S2:=uN (p:=p) (v:=bW q p) hn E P.zs h0 p1 p2 P.v1 P.v2 (k:=bE (a7 p q o z) (dl p q o)-eI (a7 p q o z)) inferInstance;have hex:=Dv (a:=sX (a7 p q o z)) tw P.zX.nm (by rw[hlm];decide) (by rw[show ad (llq rs).length (sX (a7 p q o z))=a7 p q o z from br _ _];exact hpos);refine gt (aA (Con.rB 63 rfl rfl rfl rfl hex) (be rfl rfl) aC rfl rfl) ?_;refine gt (aP (Con.rB 63 rfl rfl rfl rfl e1) (aB rfl rfl rfl) rfl rfl rfl) ?_;refine gt (aP (Con.rB 63 rfl rfl rfl rfl (rJ S1.hd)) (aB rfl rfl rfl) rfl rfl rfl) ?_;refine gt (aP (Con.rB 63 rfl rfl rfl rfl S1.al) (.cons (.tmp rfl) (aB rfl rfl rfl)) rfl rfl rfl) ?_;refine gt (aP (Con.rB 63 rfl rfl rfl rfl e2) (aB rfl rfl rfl) rfl rfl rfl) ?_;refine gt (aP (Con.rB 63 rfl rfl rfl rfl (rJ S2.hd)) (aB rfl rfl rfl) rfl rfl rfl) ?_;refine gt (aP (Con.rB 63 rfl rfl rfl rfl S2.al) (.cons (.tmp rfl) (aB rfl rfl rfl)) rfl rfl rfl) ?_;refine gt (aP (Con.rB 63 rfl rfl rfl rfl (kZ E.tw [cQ (mi (a7 p q o z) p (bW q p) (fS (a7 p q o z) (cB p q) (bE (a7 p q o z) (dl p q o)+eI (a7 p q o z)))).l,cQ (mi (a7 p q o z) p (bW q p) (fS (a7 p q o z) (cB p q) (bE (a7 p q o z) (dl p q o)-eI (a7 p q o z)))).l])) (be rfl rfl) rfl rfl rfl) ?_;refine gD ?_;refine bi ?_;unfold fa fO;rw[if_neg h0,if_neg h0,if_neg h1,if_neg h2];rfl
end
theorem Ks(o:Option Nat):aa .geq (lJ o) 0=o.isSome:=by
 cases o with
 |none=>rfl
 |some i=>exact decide_eq_true (by show(i:Int)>=0;omega)
theorem Ru(bs:List (Rat×Rat))(hl:bs.length<=281474976710656)(f:FuncId)(pre caps:List AV)(ok:Nat->Bool)
  (hf:∀(i:Nat)(b:Rat×Rat),bs[i]?=some b->(∀j,j<i->ok j=true)->FP f (pre++[qP b]++caps) (bl (!ok i))) :
  FP 353 [.lst 6 (bs.map qP),.cl f pre caps] (i64 (lJ (db bs.length ok))):=by
 refine ah func353 ?_;refine gl ?_;refine aI [0,1,7] [] (fun(i:Nat)=>[(8,some (i64 i))]) (fun _=>[]) (fun i=>i<=bs.length/\∀j,j<i->ok j=true) (fun i=>bs.length-i) 0 ⟨zero_le _,fun j h=>by omega⟩ ?_;rintro i ⟨hi,hj⟩ K1 J1;refine gC (fun t9=>?_) (fun t9=>?_)
 ·have hin:=aU t9;obtain⟨b,hb⟩:=ay hin;refine gi (az hb) ?_;refine gc (hf i b hb hj) ?_;refine gC (fun t16=>?_) (fun t16=>?_)
  ·have h2:=da t16;refine ae ?_;rw[gS hin hj h2];rfl
  have h2:=cV t16;refine ga aG ?_;exact aE J1 (i+1) ⟨hin,fun j h9=>by rcases lt_or_ge j i with g |g;exact hj j g;(have:j=i:=by omega);subst this;exact h2⟩
 have hin:=a6 hi t9;subst hin;refine ae ?_;rw[iN hj];rfl
theorem Lj(bs:List (Rat×Rat))(hl:bs.length<=281474976710656)(f:FuncId)(pre caps:List AV)(ok:Nat->Bool)
  (hf:∀(i:Nat)(b:Rat×Rat),bs[i]?=some b->(∀j,j<i->ok j=true)->FP f (pre++[qP b]++caps) (bl (!ok i))) :
  FP 249 [.lst 6 (bs.map qP),.cl f pre caps] (bl (db bs.length ok).isSome):=by
 refine ah func249 ?_;refine gc (Ru bs hl f pre caps ok hf) ?_;refine ae ?_;rw[<- Ks];rfl
theorem Jn{v:Rat×Rat}(hv:Sm 3000 v):FP 250 [qP v] (bl (decide (cA v v=0))):=by
 refine ah func250 ?_;refine gc (zP hv hv oz oz) ?_;refine gc (Lu ((hv.dot hv).qs oz)) ?_;refine ae ?_;rw[<- Ie];rfl
def fx(vs:List (Rat×Rat)):Bool:=(db vs.length fun i=>!decide (cA (vs.getD i (0,0)) (vs.getD i (0,0))=0)).isSome
theorem Ad(vs:List (Rat×Rat))(hl:vs.length<=281474976710656)(hv:∀v∈vs,Sm 3000 v):FP 145 [.lst 6 (vs.map qP)] (bl (fx vs)):=by
 refine ah func145 ?_;refine gc (Con.sA (.cons (.refl _) (.cons ((Sub.fn0 _).trans (pW rfl)) .nil)) (Lj vs hl 250 [] [] (fun i=>!decide (cA (vs.getD i (0,0)) (vs.getD i (0,0))=0)) (fun i b hb _=>by rw[Bool.not_not,aL hb];exact Jn (hv b (mem_of_getElem? hb))))) ?_;refine ae ?_;rfl
theorem yh{v:Rat×Rat}(h:fx [v]=false):cA v v≠0:=by
 intro h0;have h1:db 1 (fun i=>!decide (cA ([v].getD i (0,0)) ([v].getD i (0,0))=0))=some 0:=gS oz (fun j hj=>by omega) (by show(!decide (cA v v=0))=false;rw[h0];rfl);unfold fx at h;rw[show[v].length=1 from rfl,h1]at h;cases h
theorem x6{v w:Rat×Rat}(h:fx [v,w]=false):cA v v≠0/\cA w w≠0:=by
 unfold fx at h;rw[Option.isSome_eq_false_iff,Option.isNone_iff_eq_none]at h;have h2:=PI h;have h3:=h2 0 (by show 0<2;omega);have h4:=h2 1 (by show 1<2;omega);have h5:(!decide (cA v v=0))=true:=h3;have h6:(!decide (cA w w=0))=true:=h4;simp only[Bool.not_eq_true',decide_eq_false_iff_not]at h5 h6;exact⟨h5,h6⟩
theorem B4(i n:Nat)(hi:i<=100):FP 154 [i64 i,i64 n] (i64 (if n=1 then 0 else 1-2*(i:Int))):=by
 refine ah func154 ?_;refine gC (fun t6=>?_) (fun t6=>?_)
 ·have h1 : n = 1 := by have := cP t6; omega
  refine ae ?_;rw[if_pos h1];rfl
 have h1:¬n=1:=by have:=dN t6;omega
 refine ga (show _=2*(i:Int) by exact x9 oz) ?_;refine ga (show _=1-2*(i:Int) by exact cU oz) ?_;refine ae ?_;rw[if_neg h1];rfl
section
variable{ts:LL}
abbrev xy(u:Rat×Rat):Et ts:=qE (cA u u)
def fD(u:Rat×Rat)(w:P2 ts):Et ts:=(qE u.1*w.1+qE u.2*w.2)*iE (xy u)
def fF(u:Rat×Rat)(w:P2 ts):Et ts:=(qE u.1*w.2-qE u.2*w.1)*iE (xy u)
def tg(u:Rat×Rat)(w:P2 ts)(p:Rat×Rat)(o:P2 ts):Et ts:=o.1-(fD u w*qE p.1-fF u w*qE p.2)
def uM(u:Rat×Rat)(w:P2 ts)(p:Rat×Rat)(o:P2 ts):Et ts:=o.2-(fF u w*qE p.1+fD u w*qE p.2)
def mo(u:Rat×Rat)(w:P2 ts)(p:Rat×Rat)(o:P2 ts):Pq:=⟨sX (fD u w),sX (fF u w),sX (tg u w p o),sX (uM u w p o)⟩
theorem uW(ts:LL)(a b:List Rat):Con prog 72 [.ptr 1000 0,aJ a b,.v .nilIface] [(1000,some (aV ts))] (aJ a b) [(1000,some (aV ts))]:=by
 have h:=Dg (ts.map (List.map rt)) a b;rw[yE]at h;exact h
theorem ou(q:Rat):ad ts.length (sh 0 (q:Rat))=(qE q:Et ts):=ke _ q
theorem mu{e:Nat}{q:Rat}(h5:ts.length<=5)(h:Qb e q):Nm ts.length e (sh 0 (q:Rat)):=Nm.ofQ h5 (Cb.one h)
structure BdP(ts:LL)(u:Rat×Rat)(w:P2 ts)(p:Rat×Rat)(o:P2 ts):Prop where
  dot:FP 77 [aN ts,aJ (sh 0 (u.1:Rat)) (sh 0 (u.2:Rat)),aJ (sX w.1) (sX w.2)] (.tup [nA (sX (qE u.1*w.1+qE u.2*w.2)),.v .nilIface])
  crs:FP 74 [aN ts,aJ (sh 0 (u.1:Rat)) (sh 0 (u.2:Rat)),aJ (sX w.1) (sX w.2)] (.tup [nA (sX (qE u.1*w.2-qE u.2*w.1)),.v .nilIface])
  d1:FP 271 [aN ts,nA (sX (qE u.1*w.1+qE u.2*w.2)),nA (sh 0 (cA u u:Rat))] (.tup [nA (sX (fD u w)),.v .nilIface])
  d2:FP 271 [aN ts,nA (sX (qE u.1*w.2-qE u.2*w.1)),nA (sh 0 (cA u u:Rat))] (.tup [nA (sX (fF u w)),.v .nilIface])
  tn:FP 178 [aN ts,nA (sX (fD u w)),nA (sX (fF u w)),aJ (sh 0 (p.1:Rat)) (sh 0 (p.2:Rat))] (.tup [aJ (sX (fD u w*qE p.1-fF u w*qE p.2)) (sX (fF u w*qE p.1+fD u w*qE p.2)),.v .nilIface])
  s1:FP 163 [aN ts,nA (sX o.1),nA (sX (fD u w*qE p.1-fF u w*qE p.2))] (.tup [nA (sX (tg u w p o)),.v .nilIface])
  s2:FP 163 [aN ts,nA (sX o.2),nA (sX (fF u w*qE p.1+fD u w*qE p.2))] (.tup [nA (sX (uM u w p o)),.v .nilIface])
  ok:Pq.ok ts.length 80000000000 (mo u w p o)
theorem zE{r W A K F:Nat}{u p:Rat×Rat}{w o:P2 ts}(tw:Tw ts r)(h2:ts.length<=2)(hk:kB r ts.length<=K)(hu:Sm 3000 u)(hp:Sm 3000 p)(h0:cA u u≠0)
  (w1:Nm ts.length W (sX w.1)) (w2:Nm ts.length W (sX w.2)) (a1:Nm ts.length A (sX o.1)) (a2:Nm ts.length A (sX o.2)) (hW:3000<=W) (hF:4*W+10*K+A+100000<=F) (hF2:F<=80000000000):BdP ts u w p o:=by
 have hl:lm ts.length=200000000000:=by unfold lm;rw[if_pos h2]
 have h5:=tw.five;have hu1:=mu (ts:=ts) h5 hu.x;have hu2:=mu (ts:=ts) h5 hu.y;have hp1:=mu (ts:=ts) h5 hp.x;have hp2:=mu (ts:=ts) h5 hp.y;have hnn:=mu (ts:=ts) h5 (hu.dot hu);have hkE:eB r ts.length<=K:=hk;have ew:∀x:Et ts,ad ts.length (sX x)=x:=fun x=>br _ _
 have c1:=yG tw (hu1.mono (f:=W) oz) (hu2.mono oz) w1 w2 (by rw[hl];omega);have c2:=Fy tw (hu1.mono (f:=W) oz) (hu2.mono oz) w1 w2 (by rw[hl];omega);have n1:=zy tw hu1 hu2 w1 w2;have n2:=Eb tw hu1 hu2 w1 w2;rw[ou,ou,ew,ew]at c1 c2 n1 n2
 have hs:T.sgn (aj ts) ts.length (ad ts.length (sh 0 (cA u u:Rat)))≠0:=by
  rw[ke,T.sgn_ofQ];intro h9;exact h0 (mT h9)
 have nb:Nl 0 (sh 0 (cA u u:Rat)):=eD 0 _;have d1:=vV tw n1 hnn (zero_le _) nb hs (by rw[hl];omega) (by simp only[iB];omega);have d2:=vV tw n2 hnn (zero_le _) nb hs (by rw[hl];omega) (by simp only[iB];omega);have m1:=xI tw n1 hnn (zero_le _) nb hs (by rw[hl];omega) (by simp only[iB];omega);have m2:=xI tw n2 hnn (zero_le _) nb hs (by rw[hl];omega) (by simp only[iB];omega);have e1:∀x:Et ts,ad ts.length (sh ts.length x)=x:=fun x=>br _ _
 have f1:ad ts.length (sh ts.length (nG ts (qE u.1:Et ts) (qE u.2:Et ts) w.1 w.2))=(qE u.1*w.1+qE u.2*w.2:Et ts):=br _ _;have f2:ad ts.length (sh ts.length (oU ts (qE u.1:Et ts) (qE u.2:Et ts) w.1 w.2))=(qE u.1*w.2-qE u.2*w.1:Et ts):=br _ _;rw[f1,ou]at d1 m1;rw[f2,ou]at d2 m2;have k1:Nm ts.length (2*W+3*K+30000) (sX (fD u w)):=Nm.mono m1 (by simp only[iB];omega);have k2:Nm ts.length (2*W+3*K+30000) (sX (fF u w)):=Nm.mono m2 (by simp only[iB];omega);have c3:=wI tw k1 k2 (hp1.mono (f:=(2*W+3*K+30000)) oz) (hp2.mono oz) (by rw[hl];omega);have n3:=s7 tw k1 k2 hp1 hp2;have n4:=tO tw k1 k2 hp1 hp2;rw[ou,ou,ew,ew]at c3 n3 n4;have s1:=mV tw a1 n3 (by rw[hl];omega);have s2:=mV tw a2 n4 (by rw[hl];omega);have m3:=a1.sub n3;have m4:=a2.sub n4;have f3:ad ts.length (sh ts.length (rz ts (fD u w) (fF u w) (qE p.1:Et ts) (qE p.2:Et ts)))=(fD u w*qE p.1-fF u w*qE p.2:Et ts):=br _ _;have f4:ad ts.length (sh ts.length (qN ts (fD u w) (fF u w) (qE p.1:Et ts) (qE p.2:Et ts)))=(fF u w*qE p.1+fD u w*qE p.2:Et ts):=br _ _;rw[ew,f3]at s1 m3;rw[ew,f4]at s2 m4;exact⟨c1,c2,d1,d2,c3,s1,s2,k1.mono oz,k2.mono oz,Nm.mono m3 oz,Nm.mono m4 oz⟩
theorem AJ{r:Nat}{u p:Rat×Rat}{w o:P2 ts}(tw:Tw ts r)(h2:ts.length<=2)(hk:kB r ts.length<=1101400000)(hu:Sm 3000 u)(hp:Sm 3000 p)(h0:cA u u≠0)
  (w1:Nm ts.length 17000000000 (sX w.1)) (w2:Nm ts.length 17000000000 (sX w.2)) (a1:Nm ts.length 773000000 (sX o.1)) (a2:Nm ts.length 773000000 (sX o.2)):BdP ts u w p o :=
 zE (F:=80000000000) tw h2 hk hu hp h0 w1 w2 a1 a2 oz oz oz
theorem tc{a b c:List Rat}(h:FP 163 [aN ts,nA a,nA b] (.tup [nA c,.v .nilIface])):Con prog 75 [.ptr 1000 0,nA a,nA b] [(1000,some (aV ts))] (nA c) [(1000,some (aV ts))]:=by
 refine gF func75 (fun k z h=>bf h) ?_;refine gc h ?_;refine gt (aA (nW _ _) (aB rfl rfl rfl) aC rfl rfl) ?_;refine gR ?_;exact ak.keep (aZ rfl)
theorem vK{u p:Rat×Rat}{w o:P2 ts}(hu:Sm 3000 u)(hp:Sm 3000 p)(B:BdP ts u w p o) :
  Con prog 143 [.ptr 1000 0,qP u,cQ w.l,qP p,cQ o.l] [(1000,some (aV ts))] (mo u w p o).av [(1000,some (aV ts))]:=by
 refine gF func143 (fun k z h=>bf h) ?_;refine gc (so (hu.x.qs oz) (hu.y.qs oz)) ?_;refine gc (wa hu oz) ?_;refine gD ?_;refine gc B.dot ?_;refine gt (aP (nW _ _) (aB rfl rfl rfl) rfl rfl rfl) ?_;refine gt (aP (tW B.d1) (aB rfl rfl rfl) rfl rfl rfl) ?_;refine gc B.crs ?_;refine gt (aP (nW _ _) (aB rfl rfl rfl) rfl rfl rfl) ?_;refine gt (aP (tW B.d2) (aB rfl rfl rfl) rfl rfl rfl) ?_;refine gD ?_;refine gc (so (hp.x.qs oz) (hp.y.qs oz)) ?_;refine gc B.tn ?_;refine gt (aP (uW _ _ _) (aB rfl rfl rfl) rfl rfl rfl) ?_;refine gD ?_;refine gt (aP (tc B.s1) (aB rfl rfl rfl) rfl rfl rfl) ?_;refine gt (aP (tc B.s2) (aB rfl rfl rfl) rfl rfl rfl) ?_;refine gD ?_;refine gR ?_;exact ak.keep (aZ rfl)
end
structure Sv where
  ts:LL
  ps:List Pq
  mode:Int
abbrev Sv.av(s:Sv):AV:=.agg [.lst 1 (s.ts.map nA),.lst 4 (s.ps.map Pq.av),i64 s.mode]
structure Hd where
  p:Rat×Rat
  a:List Rat×List Rat
  c:Rat×Rat
abbrev Hd.av(h:Hd):AV:=.agg [bl (rt h.p.1).neg,ws (rt h.p.1).num,ws (rt h.p.1).den,bl (rt h.p.2).neg,ws (rt h.p.2).num,ws (rt h.p.2).den,nA h.a.1,nA h.a.2,bl (rt h.c.1).neg,ws (rt h.c.1).num,ws (rt h.c.1).den,bl (rt h.c.2).neg,ws (rt h.c.2).num,ws (rt h.c.2).den]
def lr(ts:LL)(h:Hd)(x:List Rat×List Rat):P2 ts:=(dE ts x.1-dE ts h.a.1,dE ts x.2-dE ts h.a.2)
def oy(ts:LL)(h:Hd):P2 ts:=(dE ts h.a.1,dE ts h.a.2)
def r4(ts:LL)(x:List Rat×List Rat)(h:Hd):Pq:=mo (b8 h.c h.p) (lr ts h x) h.p (oy ts h)
structure HdP(ts:LL)(x:List Rat×List Rat)(h:Hd):Prop where
  hp:Sm 1000 h.p
  hc:Sm 1000 h.c
  s1:FP 163 [aN ts,nA x.1,nA h.a.1] (.tup [nA (sX (lr ts h x).1),.v .nilIface])
  s2:FP 163 [aN ts,nA x.2,nA h.a.2] (.tup [nA (sX (lr ts h x).2),.v .nilIface])
  e1:sX (dE ts h.a.1)=h.a.1
  e2:sX (dE ts h.a.2)=h.a.2
  b:BdP ts (b8 h.c h.p) (lr ts h x) h.p (oy ts h)
theorem HdP.body{ts:LL}{x:List Rat×List Rat}{h:Hd}(H:HdP ts x h) :
  Con prog 143 [.ptr 1000 0,qP (b8 h.c h.p),cQ (lr ts h x).l,qP h.p,aJ h.a.1 h.a.2] [(1000,some (aV ts))] (r4 ts x h).av [(1000,some (aV ts))]:=by
 have hb:=vK (Sm.mono (H.hc.sub H.hp) oz) (Sm.mono H.hp oz) H.b
 have e:cQ (oy ts h).l=aJ h.a.1 h.a.2:=by
  show aJ (sX (dE ts h.a.1)) (sX (dE ts h.a.2))=_;rw[H.e1,H.e2]
 rw[e]at hb;exact hb
def kv(m:Mt)(hs:List Hd)(i:Nat):Sv:=⟨m.ts,hs.map (r4 m.ts (m.ps.getD i ([],[]))),if m.ps.length=1 then 0 else 1-2*(i:Int)⟩
def gP(m:Mt)(hs:List Hd)(n:Nat):List AV:=(List.range n).map fun i=>(kv m hs i).av
theorem wY(m:Mt)(hs:List Hd)(n:Nat):(gP m hs n).length=n:=by simp[gP]
theorem Ib(m:Mt)(hs:List Hd)(n:Nat):gP m hs (n+1)=gP m hs n++[(kv m hs n).av]:=by unfold gP;rw[List.range_succ];simp
theorem DZ{m:Mt}{r:Nat}(tw:Tw m.ts r)(hs:List Hd)(hl:hs.length<=2)(ml:m.ps.length<=2)(H:∀x∈m.ps,∀h∈hs,HdP m.ts x h) :
  FP 148 [m.av,.lst 14 (hs.map Hd.av)] (.tup [.lst 3 (gP m hs m.ps.length),.v .nilIface]):=by
 refine ah func148 ?_;refine gl ?_;refine gW (Wk.virt 900 3 rfl) ?_;refine aI [1,2,15,16] [2] (fun(i:Nat)=>[(6,some (.ms 900 3 0 i)),(17,some (i64 i))]) (fun i=>[(900,some (.row 3 (gP m hs i)))]) (fun i=>i<=m.ps.length) (fun i=>m.ps.length-i) 0 (zero_le _) ?_;rintro i hi K1 J1;refine gC (fun t18=>?_) (fun t18=>?_) (st2:=(17,0))
 ·have hin:=aU t18;obtain⟨x,hx⟩:=ay hin;have hx9:m.ps.getD i ([],[])=x:=aL hx;have hxm:=mem_of_getElem? hx;refine gi (az hx) ?_;refine gc (xl tw) ?_;refine gl ?_;refine gc (B4 i m.ps.length oz) ?_;refine gD ?_ (7,0);refine gW (Wk.o (sl:=[(1,some (.lst 14 (hs.map Hd.av))),(2,some (.ptr 2 0)),(6,some (.ms 900 3 0 i)),(8,some (.ptr 8 0)),(9,some (.ptr 25 0)),(10,some (.ptr 10 0)),(15,some (.lst 2 (m.ps.map cQ))),(16,some (i64 m.ps.length)),(17,some (i64 i))]) (hp:=[(2,some (.box [.lst 1 (m.ts.map nA),.lst 2 (m.ps.map cQ)])),(8,some (.box [nA x.1,nA x.2])),(10,some (.box [.lst 1 (m.ts.map nA),nS,i64 (if m.ps.length=1 then 0 else 1-2*(i:Int))])),(25,some (aV m.ts)),(900,some (.row 3 (gP m hs i)))])) ?_
  refine gl ?_;refine gW (Wk.virt 901 4 rfl) ?_;refine aI [1,2,8,9,10,15,16,17,35,36] [2,8,25,900] (fun(k:Nat)=>[(6,some (.ms 900 3 0 i)),(37,some (i64 k))]) (fun k=>[(10,some (.box [.lst 1 (m.ts.map nA),.ms 901 4 0 k,i64 (if m.ps.length=1 then 0 else 1-2*(i:Int))])),(901,some (.row 4 (((hs.take k).map (r4 m.ts x)).map Pq.av)))]) (fun k=>k<=hs.length) (fun k=>hs.length-k) 0 (zero_le _) ?_ (h2:=(.cons rfl (BlkSub.bL (.cons (.refl _) (.cons (.nM _ _ _) (.cons (.refl _) .nil))) rfl) (.k .nil)))
  rintro k hk K2 J2;refine gC (fun t38=>?_) (fun t38=>?_) (st2:=(13,0))
  ·have hkn:=aU t38;obtain ⟨h,hh⟩:=ay hkn;have Hh:=H x hxm h (mem_of_getElem? hh);refine gi (az hh) ?_;refine gt (aP (Con.rB 25 rfl rfl rfl rfl (tc Hh.s1)) (aB rfl rfl rfl) rfl rfl rfl) ?_;refine gt (aP (Con.rB 25 rfl rfl rfl rfl (tc Hh.s2)) (aB rfl rfl rfl) rfl rfl rfl) ?_;refine gD ?_;refine gc (mj Hh.hc Hh.hp oz oz) ?_;refine gt (aP (Con.rB 25 rfl rfl rfl rfl Hh.body) (.cons (.tmp rfl) (.cons (.tmp rfl) (aB rfl rfl rfl))) rfl rfl rfl) ?_;refine gs (bU (.tmp rfl) rfl (by rw [length_map,length_map,length_take]; omega) (.tmp rfl) T38 rfl T69 rfl rfl (by dsimp only; simp only [length_cons,length_nil]; omega) rfl rfl) ?_;refine gD ?_ (12,0);refine gW (Wk.of (sl:=[(1,some (.lst 14 (hs.map Hd.av))),(2,some (.ptr 2 0)),(6,some (.ms 900 3 0 i)),(8,some (.ptr 8 0)),(9,some (.ptr 25 0)),(10,some (.ptr 10 0)),(15,some (.lst 2 (m.ps.map cQ))),(16,some (i64 m.ps.length)),(17,some (i64 i)),(35,some (.lst 14 (hs.map Hd.av))),(36,some (i64 hs.length)),(37,some (i64 k))]) (hp:=[(2,some (.box [.lst 1 (m.ts.map nA),.lst 2 (m.ps.map cQ)])),(8,some (.box [nA x.1,nA x.2])),(25,some (aV m.ts)),(10,some (.box [.lst 1 (m.ts.map nA),.ms 71 4 0 (k + 1),i64 (if m.ps.length = 1 then 0 else 1 - 2 * (i:Int))])),(900,some (.row 3 (gP m hs i))),(71,some (.row 4 (((hs.take (k + 1)).map (r4 m.ts x)).map Pq.av)))]) aR (.k (.k (.k (.k (.k (.cons rfl (BlkSub.of (by rw [cR hh,map_append,map_append]; rfl)) .nil))))))) ?_ (12,0)
   refine gW (Wk.rk (k:=71) (d:=901) rfl rfl) ?_;refine ga aG ?_;exact aE J2 (k+1) hkn
  have hkn:=a6 hk t38;subst hkn;refine gW ((Wk.freeze (k:=901) rfl).trans<|Wk.of (sl:=[(1,some (.lst 14 (hs.map Hd.av))),(2,some (.ptr 2 0)),(6,some (.ms 900 3 0 i)),(9,some (.ptr 25 0)),(10,some (.ptr 10 0)),(15,some (.lst 2 (m.ps.map cQ))),(16,some (i64 m.ps.length)),(17,some (i64 i))]) (hp:=[(2,some (.box [.lst 1 (m.ts.map nA),.lst 2 (m.ps.map cQ)])),(25,some (aV m.ts)),(10,some (.box [.lst 1 (m.ts.map nA),.lst 4 ((hs.map (r4 m.ts x)).map Pq.av),i64 (if m.ps.length=1 then 0 else 1-2*(i:Int))])),(900,some (.row 3 (gP m hs i)))]) aR (.k (.k (.cons rfl (BlkSub.bL (.cons (.refl _) (.cons (Sub.of (by rw[bB (by rw[length_map,length_map,length_take];omega),take_length])) (.cons (.refl _) .nil))) rfl) (.k .nil))))) ?_
  refine gC (fun t78=>?_) (fun t78=>?_) (st1:=(14,0));cases t78;refine gs (bU (.tmp rfl) rfl (wY _ _ _).symm (.tmp rfl) T54 rfl T62 rfl rfl (by dsimp only;simp only[length_cons,length_nil];omega) rfl rfl) ?_ (16,0);refine gW (Wk.of (sl:=[(1,some (.lst 14 (hs.map Hd.av))),(2,some (.ptr 2 0)),(6,some (.ms 86 3 0 (i+1))),(15,some (.lst 2 (m.ps.map cQ))),(16,some (i64 m.ps.length)),(17,some (i64 i))]) (hp:=[(2,some (.box [.lst 1 (m.ts.map nA),.lst 2 (m.ps.map cQ)])),(86,some (.row 3 (gP m hs (i+1))))]) aR (.k (.cons rfl (BlkSub.of (by rw[Ib];unfold kv;rw[hx9])) .nil))) ?_ (16,0);refine gW (Wk.rk (k:=86) (d:=900) rfl rfl) ?_;refine ga aG ?_;exact aE J1 (i+1) hin
 have hin:=a6 hi t18;subst hin;refine gW ((Wk.freeze (k:=900) rfl).trans<|Wk.of (sl:=[(6,some (.lst 3 (gP m hs m.ps.length)))]) (hp:=[]) (.cons rfl (Sub.of (by rw[bB (wY _ _ _).symm])) .nil) .nil) ?_;refine bi ?_;rfl
variable{P:Program}{N:Nat}{R:Array Oper}{s:AS}{pos:String}{after:Array Edge}
def r7(P:Program)(t:TypeId):Bool:=match P.underlying t with |some (.slice _)=>true |_=>false
theorem Ag{t:TypeId}(h:r7 P t=true):∃e,P.underlying t=some (.slice e):=by
 unfold r7 at h;split at h
 ·exact⟨_,by assumption⟩
 ·cases h
theorem Bb(w:World)(t e:TypeId)(a:Option Addr)(l c:Nat)(h:P.underlying t=some (.slice e)):(binOp .eql t (.slice a l c) (.slice none 0 0)).run P w=.ok (.bool a.isNone) w:=by
 simp only[binOp];simp[run_equal_slice_nil w t e a l c h]
theorem BU{d:Nat}{x:Operand}{sz:Nat}{e:AV}{es:List AV}{S T t:TypeId}(hx:Ev s x (.lst sz (e::es)))(hS:r7 P S=true)(hN:Nat.blt d N=true) :
  Step P N R s ⟨some d,.binOp .eql S x (.const (.slice none 0 0)) T,t,pos,after,none⟩ ⟨some (.v (.bool false)),[],ai x,[]⟩ :=
 du rfl rfl hN fun s' hag C m ac w hr=>⟨.bool false,by
  have h:=(hx.agree hag (fun _ h=>h)).rep hr;obtain⟨el,hel⟩:=Ag hS;generalize hu:ac.eval x=y at h
  have hy:∃b l cap,y=.slice (some b) l cap:=by
   cases h with
   |lst u hb hc hl hs h1 hu hrr=>exact⟨_,_,_,rfl⟩
  obtain⟨b,l,cap,rfl⟩:=hy;have e1:ac.eval (.const (.slice none 0 0))=.slice none 0 0:=rfl;simp[execOp,hu,e1,eqGuard,Bb w S el (some b) l cap hel],.v _⟩
theorem Ef{d:Nat}{x:Operand}{a:Option Addr}{l cap:Nat}{S T t:TypeId}(hx:Ev s x (.v (.slice a l cap)))(hS:r7 P S=true)(hN:Nat.blt d N=true) :
  Step P N R s ⟨some d,.binOp .eql S x (.const (.slice none 0 0)) T,t,pos,after,none⟩ ⟨some (.v (.bool a.isNone)),[],ai x,[]⟩ :=
 du rfl rfl hN fun s' hag C m ac w hr=>⟨.bool a.isNone,by
  have h:=(hx.agree hag (fun _ h=>h)).rep hr;obtain⟨el,hel⟩:=Ag hS;generalize hu:ac.eval x=y at h;cases h;have e1:ac.eval (.const (.slice none 0 0))=.slice none 0 0:=rfl;simp[execOp,hu,e1,eqGuard,Bb w S el a l cap hel],.v _⟩
end Go.Lw
namespace Go.Lw
theorem Con.rekeyB1{P:Program}{f:FuncId}{k off:Nat}{x x':Blk}{y0:AV}{xs:List AV}{r:AV}(d:Nat)(hx:x.nm=[])(hx':x'.nm=[])(hy0:y0.nm=[])(hxs:(xs.all fun x=>x.nm.isEmpty)=true)(hr:r.nm=[])
  (h:Con P f (y0 :: .ptr k off::xs) [(k,some x)] r [(k,some x')]):Con P f (y0 :: .ptr d off::xs) [(d,some x)] r [(d,some x')]:=by
 refine⟨h.ok,?_⟩;intro ext m w vs hext hheap hvs hrep
 have h1 := h.ret ext (fun _ => m d) w vs hext (tq (k := d) hx rfl hheap) (by simpa using hvs) (by
  intro j v y hv hy;rw[iU (d:=k) (k:=d) (y:=x) (x:=x) (m2:=fun _=>m d) (m:=m) rfl]
  match j,hy with
  |0,hy =>
   cases hy;exact gy hy0 (hrep 0 v _ hv rfl)
  |1,hy =>
   cases hy;have h2:=hrep 1 v _ hv rfl;cases h2 with
   |ptr hm=>exact .ptr hm
  |j+2,hy =>
   have h2:=hrep (j+2) v y hv hy;refine gy ?_ h2;have:=List.all_eq_true.1 hxs y (mem_of_getElem? hy);simpa using this)
 refine Calls.mono h1 ?_;rintro e w' ⟨v,m',rfl,hf,hh,hn,hk,hrr⟩
 have ho:aS [(k,some x)] (fun _=>m d)=aS [(d,some x)] m:=by
  funext b;apply propext;rw[iY,iY]
 refine⟨v,fun _=>m' k,rfl,ho▸hf,tq (k:=k) hx' rfl hh,?_,?_,?_⟩
 ·intro k' x b hx hb;rw[<- ho];exact hn k _ b (by rw[aH,if_pos rfl]) hb
 ·intro k' x y hx hy;obtain⟨rfl,_⟩:=eF hx;exact hk k _ _ (by rw[aH,if_pos rfl]) (by rw[aH,if_pos rfl])
 ·rw[iU (d:=d) (k:=k) (y:=x') (x:=x') (m2:=fun _=>m' k) (m:=m') rfl];exact gy hr hrr
open Go.Proofs
theorem oC{p q:Rat×Rat}(hp:Sm 1000 p)(hq:Sm 1000 q):Qz 310000 (bR p q) 3:=pH (NH hp hq) oz
structure MtOk(ts:LL)(m:Mt):Prop where
  tw:∃r,Tw m.ts r/\kB r m.ts.length<=1101400000
  two:m.ts.length<=2
  ln:m.ps.length<=2
  ps:∀x∈m.ps,Nm m.ts.length 15500000000 x.1/\Nm m.ts.length 15500000000 x.2
  up:∀(e:Nat)(y:Et ts),Nm ts.length e (sX y)->Nm m.ts.length e (sX y)/\sX (dE m.ts (sX y))=sX y
theorem y7{ts:LL}(e:Nat)(y:Et ts)(h:Nm ts.length e (sX y)):Nm ts.length e (sX y)/\sX (dE ts (sX y))=sX y:=⟨h,congrArg (sh ts.length) (br _ _)⟩
theorem uC{ts:LL}{X:Et ts}(hn:ts.length<=1)(e:Nat)(y:Et ts)(h:Nm ts.length e (sX y)):Nm (aK ts (sX X)).length e (sX y)/\sX (dE (aK ts (sX X)) (sX y))=sX y:=by
 refine⟨kI h oz,?_⟩;show sh (aK ts (sX X)).length (ad (aK ts (sX X)).length (sX y))=sX y;rw[eS,gf h.nl.le];show(if T.isZ ts.length (T.zero ts.length)=true then sh ts.length (ad ts.length (sX y))else _)=_;rw[if_pos ((T.isZ_iff _ _).2 rfl)];exact congrArg (sh ts.length) (br _ _)
theorem nK{ts:LL}{ps:List (List Rat×List Rat)}(tw:Tw ts 64990)(hn:ts.length<=1)(hl:ps.length<=2)(hp:∀x∈ps,Nm ts.length 15500000000 x.1/\Nm ts.length 15500000000 x.2):MtOk ts ⟨ts,ps⟩ :=
 ⟨⟨64990,tw,by have:=wV hn;show kB 64990 ts.length<=_;omega⟩,by show ts.length<=2;omega,hl,hp,y7⟩
theorem C0{ts:LL}{X:Et ts}{ps:List (List Rat×List Rat)}(E:ExtP X)(hn:ts.length<=1)(hl:ps.length<=2)(hp:∀x∈ps,Nm (aK ts (sX X)).length 15500000000 x.1/\Nm (aK ts (sX X)).length 15500000000 x.2):MtOk ts ⟨aK ts (sX X),ps⟩ :=
 ⟨⟨366909990,E.tw,by
  have h:=fX 366909990 (show ts.length+1<=2 by omega);have h2:eB 366909990 2=1100729976:=by decide
  show eB 366909990 (aK ts (sX X)).length<=_;rw[eS];omega⟩,by show(aK ts (sX X)).length<=2;rw[eS];omega,hl,hp,uC hn⟩
theorem oa{ts:LL}{m:Mt}(ok:MtOk ts m){x:List Rat×List Rat}(hx:x∈m.ps){p c:Rat×Rat}{o:P2 ts}(a1:Nm ts.length 773000000 (sX o.1))(a2:Nm ts.length 773000000 (sX o.2))(hp:Sm 1000 p)(hc:Sm 1000 c)
  (h0:cA (b8 c p) (b8 c p)≠0):HdP m.ts x ⟨p,o.l,c⟩:=by
 obtain⟨r,tw,hk⟩:=ok.tw;obtain⟨n1,n2⟩:=ok.ps x hx;obtain⟨b1,e1⟩:=ok.up _ _ a1;obtain⟨b2,e2⟩:=ok.up _ _ a2;have hl:lm m.ts.length=200000000000:=by unfold lm;rw[if_pos ok.two]
 refine⟨hp,hc,mV tw n1 b1 (by rw[hl];omega),mV tw n2 b2 (by rw[hl];omega),e1,e2,AJ tw ok.two hk ((hc.sub hp).mono oz) (hp.mono oz) h0 ((n1.sub b1).mono oz) ((n2.sub b2).mono oz) ?_ ?_⟩
 ·show Nm m.ts.length 773000000 (sX (dE m.ts (sX o.1)));rw[e1];exact b1
 ·show Nm m.ts.length 773000000 (sX (dE m.ts (sX o.2)));rw[e2];exact b2
theorem j5{α:Type}{P:α->Prop}{x y:α}(hx:P x)(hy:P y):∀z∈[x,y],P z:=by
 intro z hz;rcases List.mem_cons.1 hz with rfl |hz
 ·exact hx
 ·rw[List.mem_singleton.1 hz];exact hy
theorem f0{α:Type}{P:α->Prop}{x:α}(hx:P x):∀z∈[x],P z:=by
 intro z hz;rw[List.mem_singleton.1 hz];exact hx
theorem BH{ts:LL}{x y z x2 y2 z2:Et ts}(tw:Tw ts 64990)(hn:ts.length<=1)(c:Ct ts 310000 65000)(h1:Zu 310000 65000 x 40 40)(h2:Zu 310000 65000 y 40 40)(h3:Zu 310000 65000 z 3 0)(h4:Zu 310000 65000 x2 40 40)(h5:Zu 310000 65000 y2 40 40)(h6:Zu 310000 65000 z2 3 0)
  (h0:fT (x,y) (x2,y2) z z2=0):MtOk ts (e8 (x,y) (x2,y2) z z2):=by
 have P:=Az c h1 h2 h3 h4 h5 h6;have ce:=c.ex;have ck:=c.k1;have cu:=c.u3;haveI cy:Cy ts 310000 65000:=⟨ce,ck,cu,by omega⟩
 unfold fT at h0;unfold e8
 by_cases hd:aw (a8 (x,y) (x2,y2))=0
 ·rw[if_pos hd]at h0 ⊢;unfold lF at h0;unfold lO
  by_cases hz:aw (z-z2)≠0
  ·rw[if_pos hz];exact nK tw hn (by simp) (by simp)
  ·rw[if_neg hz]
   by_cases hp:0<aw z
   ·rw[if_pos ⟨Decidable.not_not.1 hz,hp⟩]at h0;cases h0
   ·rw[if_neg hp];haveI:=h1;haveI:=h2
    refine nK tw hn (by simp) (f0 ⟨?_,?_⟩)
    ·exact(inferInstance:Zu 310000 65000 (x+0*x) _ _).nm.mono (by decide)
    ·exact(inferInstance:Zu 310000 65000 (y+0*y) _ _).nm.mono (by decide)
 ·rw [if_neg hd];have ht0:aw (d5 (a8 (x,y) (x2,y2))) ≠ 0:=by rw [u6 tw]; exact hd
  by_cases hx0:aw (bV (x,y) z (x2,y2) z2)<0
  ·rw[if_pos hx0];exact nK tw hn (by simp) (by simp)
  ·rw[if_neg hx0];obtain⟨_,_,f1,f2⟩:=zY hn h1 h2 h3 h6 P ht0
   by_cases hx1:aw (bV (x,y) z (x2,y2) z2)=0
   ·rw[if_pos hx1];exact nK tw hn (by simp) (f0 ⟨f1.nm.mono (by decide),f2.nm.mono (by decide)⟩)
   ·rw[if_neg hx1];have E:ExtP (bV (x,y) z (x2,y2) z2):=qG tw hn P.zX oz;have S:=EC (X:=bV (x,y) z (x2,y2) z2) (d:=a8 (x,y) (x2,y2)) (f:=iX (x,y) (x2,y2) z z2) (v:=fW (x,y) (x2,y2)) hn E P.zt ht0 f1 f2 P.z1 P.z2;exact C0 E hn (by simp) (j5 ⟨S.n1.1.nm.mono (by decide),S.n1.2.nm.mono (by decide)⟩ ⟨S.n2.1.nm.mono (by decide),S.n2.2.nm.mono (by decide)⟩)
theorem C8{ts:LL}{o p q:P2 ts}{z:Et ts}(tw:Tw ts 64990)(hn:ts.length<=1)(c:Ct ts 310000 65000)(o1:Zu 310000 65000 o.1 40 40)(o2:Zu 310000 65000 o.2 40 40)(p1:Zu 310000 65000 p.1 40 40)(p2:Zu 310000 65000 p.2 40 40)(q1:Zu 310000 65000 q.1 40 40)(q2:Zu 310000 65000 q.2 40 40)
  (i3:Zu 310000 65000 z 3 0) (h0:fO p q=0):MtOk ts (fa p q o z):=by
 have ce:=c.ex;have ck:=c.k1;have cu:=c.u3;haveI cy:Cy ts 310000 65000:=⟨ce,ck,cu,by omega⟩
 have P:=Fu cy p1 p2 q1 q2 o1 o2 i3;unfold fO at h0;unfold fa
 by_cases hs:aw (cB p q)=0
 ·rw[if_pos hs]at h0;cases h0
 ·rw[if_neg hs]
  by_cases h1:aw (a7 p q o z)=-1
  ·rw[if_pos h1];exact nK tw hn (by simp) (by simp)
  ·rw[if_neg h1]
   by_cases h2:aw (a7 p q o z)=0
   ·rw[if_pos h2];have Q:=zJ cy hn p1 p2 P hs;exact nK tw hn (by simp) (f0 ⟨Q.n1.nm.mono (by decide),Q.n2.nm.mono (by decide)⟩)
   ·rw[if_neg h2]
    have hpos:0<=aw (a7 p q o z):=by
     have:=T.sgn_cases (aj ts) ts.length (a7 p q o z);have e:aw (a7 p q o z)=T.sgn (aj ts) ts.length (a7 p q o z):=rfl;omega
    have E:ExtP (a7 p q o z):=qG tw hn (u7 P.zX oz oz) hpos;haveI ce:=E.cy;haveI zr:Zl (aK ts (sX (a7 p q o z))) 773000000 1101400000 (cr ts.length) (dE _ (cr ts.length)) 1 0:=Zl.at (pz oz) (by decide);haveI ze':=iV (X:=a7 p q o z) hn P.ze (by decide);haveI:=zr.zu;haveI:=ze'.zu
    have S1:=uN (p:=p) (v:=bW q p) hn E P.zs hs p1 p2 P.v1 P.v2 (k:=bE (a7 p q o z) (dl p q o)+eI (a7 p q o z)) inferInstance;have S2:=uN (p:=p) (v:=bW q p) hn E P.zs hs p1 p2 P.v1 P.v2 (k:=bE (a7 p q o z) (dl p q o)-eI (a7 p q o z)) inferInstance;exact C0 E hn (by simp) (j5 ⟨S1.n1.nm.mono (by decide),S1.n2.nm.mono (by decide)⟩ ⟨S2.n1.nm.mono (by decide),S2.n2.nm.mono (by decide)⟩)
abbrev ot(r:List AV×Nat):AV:=.tup [.lst 3 r.1,ba r.2]
def lT(l:Li)(a:As)(i k:Int)(j0 j1 j2:Jt):List AV×Nat :=
  if fx [b8 (am l j2 i) (am l j0 i),b8 (am l j2 k) (am l j1 k)]=true then([],15)
  else if fT (aW l a j0 i) (aW l a j1 k) (qE (bR (am l j2 i) (am l j0 i))) (qE (bR (am l j2 k) (am l j1 k)))≠0 then([],fT (aW l a j0 i) (aW l a j1 k) (qE (bR (am l j2 i) (am l j0 i))) (qE (bR (am l j2 k) (am l j1 k))))
  else(gP (e8 (aW l a j0 i) (aW l a j1 k) (qE (bR (am l j2 i) (am l j0 i))) (qE (bR (am l j2 k) (am l j1 k)))) [⟨am l j0 i,P2.l (aW l a j0 i),am l j2 i⟩,⟨am l j1 k,P2.l (aW l a j1 k),am l j2 k⟩]
    (e8 (aW l a j0 i) (aW l a j1 k) (qE (bR (am l j2 i) (am l j0 i))) (qE (bR (am l j2 k) (am l j1 k)))).ps.length,0)
theorem Pp{l:Li}{a:As}(D:DyR l a)(hn:(llq a.rs).length<=1){i k z0 z1 z2:Int}{j0 j1 j2:Jt}(hg:GrOk l ⟨1,[i,k],[z0,z1,z2],0⟩)(P:RrrP 3900000 l a ⟨1,[i,k],[z0,z1,z2],0⟩ i k z0 z1 z2 j0 j1 j2) :
  Con prog 63 [.ptr 1000 0] [(1000,some (bX l ⟨1,[i,k],[z0,z1,z2],0⟩ a))] (ot (lT l a i k j0 j1 j2)) [(1000,some (bX l ⟨1,[i,k],[z0,z1,z2],0⟩ a))]:=by
 haveI c:=D.s.ct D.hc;obtain⟨tw,etw⟩:=cH D.s.tr D.hc;have hq0:=gk D.hl D.li P.h0 P.p0.or;have hq1:=gk D.hl D.li P.h1 P.p1.or;have hq2:=gk D.hl D.li P.h2 P.t1;have hq3:=gk D.hl D.li P.h2 P.t2;obtain⟨y1,y2⟩:=kr D.hl D.li D.al D.s D.hc P.h0 P.p0;obtain⟨y3,y4⟩:=kr D.hl D.li D.al D.s D.hc P.h1 P.p1;haveI:=y1;haveI:=y2;haveI:=y3;haveI:=y4
 haveI q1:=oC hq2 hq0;haveI q2:=oC hq3 hq1;haveI z1:Zu 310000 65000 (qE (bR (am l j2 i) (am l j0 i)):Et (llq a.rs)) 3 0:=inferInstance;haveI z2:Zu 310000 65000 (qE (bR (am l j2 k) (am l j1 k)):Et (llq a.rs)) 3 0:=inferInstance;have hr:=Kl (a:=sX (aW l a j0 i).1) (b:=sX (aW l a j0 i).2) (c:=sh 0 (bR (am l j2 i) (am l j0 i):Rat)) (a2:=sX (aW l a j1 k).1) (b2:=sX (aW l a j1 k).2) (c2:=sh 0 (bR (am l j2 k) (am l j1 k):Rat)) D.s.tr D.hc hn rfl rfl (w7 _ _) (w7 _ _);have hzz:=Ad [b8 (am l j2 i) (am l j0 i),b8 (am l j2 k) (am l j1 k)] (by show 2<=_;omega) (j5 ((hq2.sub hq0).mono oz) ((hq3.sub hq1).mono oz));refine gF func63 (fun k z h=>bf h) ?_;refine gt (aP (NU D.hl D.li D.al D.hc D.two hg P.h0 P.h1 P.h2 P.p0 P.p1 P.t1 P.t2) (cf rfl) rfl rfl rfl) ?_;refine gC (fun t13=>?_) (fun t13=>?_) (st1:=(3,0));cases t13;refine gc (mj hq2 hq0 oz oz) ?_;refine gc (mj hq3 hq1 oz oz) ?_;refine gc hzz ?_;refine gD ?_;refine gC (fun t23=>?_) (fun t23=>?_)
 ·have h1:fx [b8 (am l j2 i) (am l j0 i),b8 (am l j2 k) (am l j1 k)]=true:=t23;refine gR ?_;exact(ak.keep (aZ rfl)).sub (by unfold lT;rw[if_pos h1];exact Sub.tup (.cons (.nil _ _ _) (.cons (.refl _) .nil)))
 have h1:fx [b8 (am l j2 i) (am l j0 i),b8 (am l j2 k) (am l j1 k)]=false:=t23;obtain⟨w1,w2⟩:=x6 h1;refine gc (yw hq0 hq2 _) ?_;refine gc (yw hq1 hq3 _) ?_;refine gc hr ?_;refine gD ?_;refine gC (fun t51=>?_) (fun t51=>?_)
 ·have h2:=cq t51;refine gR ?_;exact(ak.keep (aZ rfl)).sub (by unfold lT;rw[if_neg (by rw[h1];decide),if_pos h2];exact Sub.tup (.cons (.nil _ _ _) (.cons (.refl _) .nil)))
 have h2:=b9 t51;have ok:=BH (x:=(aW l a j0 i).1) (y:=(aW l a j0 i).2) (x2:=(aW l a j1 k).1) (y2:=(aW l a j1 k).2) tw hn c y1 y2 z1 y3 y4 z2 h2;obtain⟨r9,tw9,_⟩:=ok.tw
 have hpl:=DZ tw9 [⟨am l j0 i,P2.l (aW l a j0 i),am l j2 i⟩,⟨am l j1 k,P2.l (aW l a j1 k),am l j2 k⟩] (le_refl 2) ok.ln
  (fun x hx=>j5 (oa ok hx (y1.nm.mono (by decide)) (y2.nm.mono (by decide)) hq0 hq2 w1) (oa ok hx (y3.nm.mono (by decide)) (y4.nm.mono (by decide)) hq1 hq3 w2))
 refine gc hpl ?_;refine gR ?_;exact(ak.keep (aZ rfl)).sub (Sub.of (by unfold lT;rw[if_neg (by rw[h1];decide),if_neg (fun h=>h h2)];rfl))
def lL(l:Li)(a:As)(i:Int)(j0 j:Jt):List AV×Nat :=
  if fx [b8 (bm l i j.point) (am l j0 i)]=true then([],15)
  else if fO (bA l a j.b j.on) (bA l a j.b j.to)≠0 then([],fO (bA l a j.b j.on) (bA l a j.b j.to))
  else(gP (fa (bA l a j.b j.on) (bA l a j.b j.to) (aW l a j0 i) (qE (bR (bm l i j.point) (am l j0 i)))) [⟨am l j0 i,P2.l (aW l a j0 i),bm l i j.point⟩]
    (fa (bA l a j.b j.on) (bA l a j.b j.to) (aW l a j0 i) (qE (bR (bm l i j.point) (am l j0 i)))).ps.length,0)
theorem Kt{l:Li}{a:As}(D:DyR l a)(hn:(llq a.rs).length<=1){i z0 z1:Int}{j0 j:Jt}(hg:GrOk l ⟨2,[i],[z0,z1],0⟩)(P:SlP 3900000 l a ⟨2,[i],[z0,z1],0⟩ 2 i z0 z1 j0 j)(ha:j.a=i)(hb:Pd 3900000 a j.b) :
  Con prog 64 [.ptr 1000 0] [(1000,some (bX l ⟨2,[i],[z0,z1],0⟩ a))] (ot (lL l a i j0 j)) [(1000,some (bX l ⟨2,[i],[z0,z1],0⟩ a))]:=by
 haveI c:=D.s.ct D.hc;obtain⟨tw,etw⟩:=cH D.s.tr D.hc;obtain⟨i1,i2,i3,i4,i5⟩:=ee D.li P.h1;have hq2:Sm 1000 (bm l i j.point):=by rw[<- ha];exact j4 D.hl D.li i1 i3
 have hq0:=gk D.hl D.li P.h0 P.p0.or;obtain⟨y1,y2⟩:=kr D.hl D.li D.al D.s D.hc P.h0 P.p0;obtain⟨y3,y4⟩:=kQ D.hl D.li D.al D.s D.hc i2 i4 hb;obtain⟨y5,y6⟩:=kQ D.hl D.li D.al D.s D.hc i2 (i5 P.hk) hb;haveI q1:=oC hq2 hq0;haveI z1:Zu 310000 65000 (qE (bR (bm l i j.point) (am l j0 i)):Et (llq a.rs)) 3 0:=inferInstance;have hr:=Rf (o:=aW l a j0 i) (p:=bA l a j.b j.on) (q:=bA l a j.b j.to) (c:=sh 0 (bR (bm l i j.point) (am l j0 i):Rat)) D.s.tr D.hc hn c y1 y2 y3 y4 y5 y6 (w7 _ _);have hzz:=Ad [b8 (bm l i j.point) (am l j0 i)] (by show 1<=_;omega) (f0 ((hq2.sub hq0).mono oz));refine gF func64 (fun k z h=>bf h) ?_;refine gt (aP (MS D.hl D.li D.al D.hc D.two hg P.h0 P.h1 P.p0 ha P.hk hb) (cf rfl) rfl rfl rfl) ?_;refine gC (fun t15=>?_) (fun t15=>?_) (st1:=(3,0));cases t15;refine gc (mj hq2 hq0 oz oz) ?_;refine gc hzz ?_;refine gC (fun t25=>?_) (fun t25=>?_)
 ·have h1:fx [b8 (bm l i j.point) (am l j0 i)]=true:=t25;refine gR ?_;exact(ak.keep (aZ rfl)).sub (by unfold lL;rw[if_pos h1];exact Sub.tup (.cons (.nil _ _ _) (.cons (.refl _) .nil)))
 have h1:fx [b8 (bm l i j.point) (am l j0 i)]=false:=t25;have w1:=yh h1;refine gc (yw hq0 hq2 _) ?_;refine gc hr ?_;refine gD ?_;refine gC (fun t48=>?_) (fun t48=>?_)
 ·have h2:=cq t48;refine gR ?_;exact(ak.keep (aZ rfl)).sub (by unfold lL;rw[if_neg (by rw[h1];decide),if_pos h2];exact Sub.tup (.cons (.nil _ _ _) (.cons (.refl _) .nil)))
 have h2:=b9 t48;have ok:=C8 (o:=aW l a j0 i) (p:=bA l a j.b j.on) (q:=bA l a j.b j.to) (z:=qE (bR (bm l i j.point) (am l j0 i))) tw hn c y1 y2 y3 y4 y5 y6 z1 h2;obtain⟨r9,tw9,_⟩:=ok.tw;have hpl:=DZ tw9 [⟨am l j0 i,P2.l (aW l a j0 i),bm l i j.point⟩] (show 1<=2 by omega) ok.ln (fun x hx=>f0 (oa ok hx (y1.nm.mono (by decide)) (y2.nm.mono (by decide)) hq0 hq2 w1));refine gc hpl ?_;refine gR ?_;exact(ak.keep (aZ rfl)).sub (Sub.of (by unfold lL;rw[if_neg (by rw[h1];decide),if_neg (fun h=>h h2)];rfl))
theorem zL{ts:LL}{r e:Nat}(tw:Tw ts r){a b c:List Rat}(ha:Nm ts.length e a)(hb:Nm ts.length e b)(hc:Nm ts.length e c)(he:2*(e+e+kB r ts.length)<=lm ts.length) :
  FP 152 [aN ts,nA a,aJ b c] (.tup [aJ (sh ts.length (T.mul (aj ts) ts.length (ad ts.length a) (ad ts.length b))) (sh ts.length (T.mul (aj ts) ts.length (ad ts.length a) (ad ts.length c))),.v .nilIface]):=by
 refine ah func152 ?_;refine gc (uu (e:=e) tw [a,b,c] (by simp only[mem_cons,not_mem_nil,or_false];rintro x (rfl |rfl |rfl) <;> assumption) oz (by simp)) ?_;refine gC (fun t19=>?_) (fun t19=>?_) (st1:=(3,0));cases t19;refine gt (aA (Con.rB 24 rfl rfl rfl rfl (jE tw ha hb oz)) (aB rfl rfl rfl) aC rfl rfl) ?_;refine gt (aA (Con.rB 24 rfl rfl rfl rfl (jE tw ha hc oz)) (aB rfl rfl rfl) aC rfl rfl) ?_;refine gt (aA (Con.rB 24 rfl rfl rfl rfl (uV _ _ _)) (be rfl rfl) aC rfl rfl) ?_;refine gD ?_;refine bi ?_;rfl
section
variable{ts:LL}
def qD(q w1 w2 h:Et ts):Et ts:=q*w1-h*-w2
def p5(q w1 w2 h:Et ts):Et ts:=q*w2-h*w1
def n8(ts:LL)(q h d:List Rat)(w:List Rat×List Rat):P2 ts:=(qD (dE ts q) (dE ts w.1) (dE ts w.2) (dE ts h)*iE (dE ts d),p5 (dE ts q) (dE ts w.1) (dE ts w.2) (dE ts h)*iE (dE ts d))
structure Rp where
  v:Rat×Rat
  p:Rat×Rat
  a:List Rat×List Rat
  h:List Rat
  d:List Rat
  w:List Rat×List Rat
def tz(ts:LL)(R:Rp)(q:List Rat):Pq:=mo R.v (n8 ts q R.h R.d R.w) R.p (dE ts R.a.1,dE ts R.a.2)
structure RqP(ts:LL)(R:Rp)(q:List Rat):Prop where
  sm:Sm 3000 R.v
  sp:Sm 3000 R.p
  c1:FP 152 [aN ts,nA q,aJ R.w.1 R.w.2] (.tup [aJ (sX (dE ts q*dE ts R.w.1)) (sX (dE ts q*dE ts R.w.2)),.v .nilIface])
  ng:FP 138 [aN ts,nA R.w.2] (.tup [nA (sX (-dE ts R.w.2)),.v .nilIface])
  c2:FP 152 [aN ts,nA R.h,aJ (sX (-dE ts R.w.2)) R.w.1] (.tup [aJ (sX (dE ts R.h*-dE ts R.w.2)) (sX (dE ts R.h*dE ts R.w.1)),.v .nilIface])
  sb:FP 73 [aN ts,aJ (sX (dE ts q*dE ts R.w.1)) (sX (dE ts q*dE ts R.w.2)),aJ (sX (dE ts R.h*-dE ts R.w.2)) (sX (dE ts R.h*dE ts R.w.1))] (.tup [aJ (sX (qD (dE ts q) (dE ts R.w.1) (dE ts R.w.2) (dE ts R.h))) (sX (p5 (dE ts q) (dE ts R.w.1) (dE ts R.w.2) (dE ts R.h))),.v .nilIface])
  d1:FP 271 [aN ts,nA (sX (qD (dE ts q) (dE ts R.w.1) (dE ts R.w.2) (dE ts R.h))),nA R.d] (.tup [nA (sX (n8 ts q R.h R.d R.w).1),.v .nilIface])
  d2:FP 271 [aN ts,nA (sX (p5 (dE ts q) (dE ts R.w.1) (dE ts R.w.2) (dE ts R.h))),nA R.d] (.tup [nA (sX (n8 ts q R.h R.d R.w).2),.v .nilIface])
  e1:sX (dE ts R.a.1)=R.a.1
  e2:sX (dE ts R.a.2)=R.a.2
  b:BdP ts R.v (n8 ts q R.h R.d R.w) R.p (dE ts R.a.1,dE ts R.a.2)
theorem RqP.body{R:Rp}{q:List Rat}(H:RqP ts R q) :
  Con prog 143 [.ptr 1000 0,qP R.v,cQ (n8 ts q R.h R.d R.w).l,qP R.p,aJ R.a.1 R.a.2] [(1000,some (aV ts))] (tz ts R q).av [(1000,some (aV ts))]:=by
 have hb:=vK H.sm H.sp H.b
 have e:cQ (P2.l ((dE ts R.a.1,dE ts R.a.2):P2 ts))=aJ R.a.1 R.a.2:=by
  show aJ (sX (dE ts R.a.1)) (sX (dE ts R.a.2))=_;rw[H.e1,H.e2]
 rw[e]at hb;exact hb
theorem DF{R:Rp}{q:List Rat}{j:Nat}(cy:Cy ts 773000000 1101400000)(sm:Sm 3000 R.v)(sp:Sm 3000 R.p)(h0:cA R.v R.v≠0)(nq:Nm ts.length 773000000 q)(nh:Nm ts.length 773000000 R.h)(nd:Nm ts.length 773000000 R.d)
  (n1:Nm ts.length 773000000 R.w.1) (n2:Nm ts.length 773000000 R.w.2) (a1:Nm ts.length 773000000 R.a.1) (a2:Nm ts.length 773000000 R.a.2) (e1:sX (dE ts R.a.1)=R.a.1) (e2:sX (dE ts R.a.2)=R.a.2)
  (nj:Nl j R.d) (hj:j<=ts.length) (hj1:j<=1) (hd:aw (dE ts R.d)≠0):RqP ts R q:=by
 obtain⟨r,tw,hk⟩:=cy.ex;have hl:=cy.lm;haveI:=cy;haveI zq:Zl ts 773000000 1101400000 q (dE ts q) 1 0:=Zl.at nq (le_refl _);haveI zh:Zl ts 773000000 1101400000 R.h (dE ts R.h) 1 0:=Zl.at nh (le_refl _);haveI zd:Zl ts 773000000 1101400000 R.d (dE ts R.d) 1 0:=Zl.at nd (le_refl _);haveI z1:Zl ts 773000000 1101400000 R.w.1 (dE ts R.w.1) 1 0:=Zl.at n1 (le_refl _);haveI z2:Zl ts 773000000 1101400000 R.w.2 (dE ts R.w.2) 1 0:=Zl.at n2 (le_refl _);haveI:=zq.zu;haveI:=zh.zu;haveI:=z1.zu;haveI:=z2.zu
 haveI zn:Zu 773000000 1101400000 (-dE ts R.w.2) 1 0:=inferInstance;haveI y1:Zu 773000000 1101400000 (dE ts q*dE ts R.w.1) 2 1:=inferInstance;haveI y2:Zu 773000000 1101400000 (dE ts q*dE ts R.w.2) 2 1:=inferInstance;haveI y3:Zu 773000000 1101400000 (dE ts R.h*-dE ts R.w.2) 2 1:=inferInstance;haveI y4:Zu 773000000 1101400000 (dE ts R.h*dE ts R.w.1) 2 1:=inferInstance;haveI x1:Zu 773000000 1101400000 (qD (dE ts q) (dE ts R.w.1) (dE ts R.w.2) (dE ts R.h)) 4 3:=(inferInstance:Zu 773000000 1101400000 (dE ts q*dE ts R.w.1-dE ts R.h*-dE ts R.w.2) 4 3)
 haveI x2:Zu 773000000 1101400000 (p5 (dE ts q) (dE ts R.w.1) (dE ts R.w.2) (dE ts R.h)) 4 3:=(inferInstance:Zu 773000000 1101400000 (dE ts q*dE ts R.w.2-dE ts R.h*dE ts R.w.1) 4 3)
 have ew:∀x:Et ts,ad ts.length (sX x)=x:=fun x=>br _ _
 have hkB:kB r ts.length<=1101400000:=hk;have c1:=zL tw nq n1 n2 (by rw[hl];omega);have ng:=DU (ts:=ts) (u:=773000000) (k:=1101400000) (a:=R.w.2) (by decide);have nn:Nm ts.length 773000000 (sX (-dE ts R.w.2)):=zn.nm.mono (by decide);have c2:=zL tw nh nn n1 (by rw[hl];omega);rw[ew]at c2;have sb:=Dk (a:=sX (dE ts q*dE ts R.w.1)) (b:=sX (dE ts q*dE ts R.w.2)) (c:=sX (dE ts R.h*-dE ts R.w.2)) (d:=sX (dE ts R.h*dE ts R.w.1)) tw y1.nm y2.nm y3.nm y4.nm (by rw[hl];decide);rw[ew,ew,ew,ew]at sb;have d1:=oV (ts:=ts) (u:=773000000) (k:=1101400000) (a:=sX (qD (dE ts q) (dE ts R.w.1) (dE ts R.w.2) (dE ts R.h))) (b:=R.d) nj hj hj1 hd (by decide);have d2:=oV (ts:=ts) (u:=773000000) (k:=1101400000) (a:=sX (p5 (dE ts q) (dE ts R.w.1) (dE ts R.w.2) (dE ts R.h))) (b:=R.d) nj hj hj1 hd (by decide);exact⟨sm,sp,c1,ng,c2,sb,d1.1,d2.1,e1,e2,AJ tw cy.two hkB sm sp h0 (d1.2.nm.mono (by decide)) (d2.2.nm.mono (by decide)) (by show Nm ts.length 773000000 (sX (dE ts R.a.1));rw[e1];exact a1) (by show Nm ts.length 773000000 (sX (dE ts R.a.2));rw[e2];exact a2)⟩
end
def jR(ts:LL)(R:Rp)(qs:LL)(i:Nat):Sv:=⟨ts,[tz ts R (qs.getD i [])],if qs.length=1 then 0 else 1-2*(i:Int)⟩
def jB(ts:LL)(R:Rp)(qs:LL)(n:Nat):List AV:=(List.range n).map fun i=>(jR ts R qs i).av
theorem wG(ts:LL)(R:Rp)(qs:LL)(n:Nat):(jB ts R qs n).length=n:=by simp[jB]
theorem Ke(ts:LL)(R:Rp)(qs:LL)(n:Nat):jB ts R qs (n+1)=jB ts R qs n++[(jR ts R qs n).av]:=by unfold jB;rw[List.range_succ];simp
def eO(l:Li)(a:As)(i:Int)(j0 j:Jt):Rp:=⟨il l i j,am l j0 i,P2.l (aW l a j0 i),sh 0 (dq l i j0 j:Rat),sX (dB l a i j0 j),P2.l (eK l a i j0 j)⟩
def bp(l:Li)(a:As)(i:Int)(j0 j:Jt):Et (llq a.rs):=qE (jv l i j)*dB l a i j0 j-qE (dq l i j0 j)*qE (dq l i j0 j)
def jJ(l:Li)(a:As)(i:Int)(j0 j:Jt):List AV×Nat :=
  if aw (dB l a i j0 j)=0/\aw (qE (dq l i j0 j):Et (llq a.rs))=0 then([],15)
  else if aw (bp l a i j0 j)<0 then([],0)
  else if 0<aw (bp l a i j0 j)then(jB (aK (llq a.rs) (sX (bp l a i j0 j))) (eO l a i j0 j) [cr (llq a.rs).length,sX (-eI (bp l a i j0 j))] 2,0)
  else(jB (llq a.rs) (eO l a i j0 j) [[]] 1,0)
theorem vn{ts:LL}{r:Nat}(tw:Tw ts r){n d h:Et ts}(hs:¬aw (n*d-h*h)<0)(h1:¬(aw d=0/\aw h=0)):aw d≠0:=by
 intro h0;have S:=sL (aj ts) ts.length tw.pos
 have e1:sg (aj ts) ts.length (n*d)=0:=by
  rw[S.mul];have:sg (aj ts) ts.length d=0:=h0;rw[this];exact Int.mul_zero _
 have e2:=S.zadd (y:=-(h*h)) e1;rw[show n*d+-(h*h)=n*d-h*h by grind,S.neg,S.mul]at e2;have e3:aw (n*d-h*h)=sg (aj ts) ts.length (n*d-h*h):=rfl;have e4:aw h=sg (aj ts) ts.length h:=rfl;have h2:sg (aj ts) ts.length h≠0:=fun h9=>h1 ⟨h0,by rw[e4];exact h9⟩
 rw[e3,e2]at hs;rcases S.cs h with g |g |g
 ·rw[g]at hs;exact hs (by decide)
 ·exact h2 g
 ·rw[g]at hs;exact hs (by decide)
theorem Ir{p q:Rat}(h:p*p+q*q=0):p=0/\q=0:=by
 have h1:=sI p;have h2:=sI q;have h3:p*p=0:=by grind
 have h4:q*q=0:=by grind
 exact⟨by rcases Rat.mul_eq_zero.1 h3 with g |g <;> exact g,by rcases Rat.mul_eq_zero.1 h4 with g |g <;> exact g⟩
theorem Ep{l:Li}(hli:aD l=0){n:Nat}{j:Jt}(hj:l.jo[n]?=some j)(hk:j.kind≠0){i:Int}(hi:j.b=i):cA (il l i j) (il l i j)≠0:=by
 intro h0;obtain⟨h1,h2⟩:=Ir h0;have h3:=EU hli hj;subst hi;have e1:(bm l j.b j.to).1-(bm l j.b j.on).1=0:=h1;have e2:(bm l j.b j.to).2-(bm l j.b j.on).2=0:=h2;have e3:((cw l j.b).getD j.on.toNat default).x.q=((cw l j.b).getD j.to.toNat default).x.q:=by unfold bm at e1;dsimp only at e1;grind
 have e4:((cw l j.b).getD j.on.toNat default).y.q=((cw l j.b).getD j.to.toNat default).y.q:=by unfold bm at e2;dsimp only at e2;grind
 unfold dJ at h3;split at h3
 ·cases h3
 ·split at h3
  ·cases h3
  ·split at h3
   ·cases h3
   ·split at h3
    ·cases h3
    ·split at h3
     ·cases h3
     ·first |(rw[if_pos ⟨e3,e4⟩]at h3;cases h3) |(split at h3 <;> first |(cases h3;done) |(rename_i g;exact absurd ⟨e3,e4⟩ g))
theorem JV:Sub (.lst 1 [nS]) (.lst 1 [nA []]):=by
 refine Sub.lst rfl (fun i x y hx hy=>?_)
 match i,hx,hy with
 |0,hx,hy =>
  cases hx;cases hy
  refine⟨rfl,fun j x y hx hy=>?_⟩
  match j,hx,hy with
  |0,hx,hy=>cases hx;cases hy;exact⟨rfl,.nil _ _ _⟩
theorem Ov{x y:Int}(h:cond (aa .eql x 0) (aa .eql y 0) false=true):x=0/\y=0:=by
 cases h1:aa .eql x 0
 ·rw[h1]at h;cases h
 ·rw[h1]at h;exact⟨cP h1,cP h⟩
theorem NL{x y:Int}(h:cond (aa .eql x 0) (aa .eql y 0) false=false):¬(x=0/\y=0):=by
 rintro⟨rfl,rfl⟩;cases h
structure RpF(l:Li)(a:As)(i:Int)(j0 j:Jt):Prop where
  hv:Sm 3000 (il l i j)
  hp:Sm 3000 (am l j0 i)
  vv:cA (il l i j) (il l i j)≠0
  zl:Zl (llq a.rs) 310000 65000 (sh 0 (dq l i j0 j:Rat)) (qE (dq l i j0 j)) 3 0
  z3:Zu 310000 65000 (dB l a i j0 j) 320 327
  zX:Zu 310000 65000 (bp l a i j0 j) 976 989
  w1:Zu 310000 65000 (eK l a i j0 j).1 80 81
  w2:Zu 310000 65000 (eK l a i j0 j).2 80 81
  y1:Zu 310000 65000 (aW l a j0 i).1 40 40
  y2:Zu 310000 65000 (aW l a j0 i).2 40 40
theorem BI{l:Li}{a:As}(D:DyR l a)(hn:(llq a.rs).length<=1){g:Gr}{i z0 z1:Int}{j0 j:Jt}(P:SlP 3900000 l a g 3 i z0 z1 j0 j)(hj:j.b=i)(hb:Pd 3900000 a j.a):RpF l a i j0 j:=by
 haveI c:=D.s.ct D.hc;have ck:=c.k1;haveI cy:Cy (llq a.rs) 310000 65000:=⟨c.ex,c.k1,c.u3,by omega⟩
 have hs0:Sm 1000 (am l j0 i):=gk D.hl D.li P.h0 P.p0.or;obtain⟨i1,i2,i3,i4,i5⟩:=ee D.li P.h1;have hs1:Sm 1000 (bm l i j.on):=by rw[<- hj];exact j4 D.hl D.li i2 i4
 have hs2:Sm 1000 (bm l i j.to):=by rw[<- hj];exact j4 D.hl D.li i2 (i5 P.hk)
 have hv:Sm _ (il l i j):=hs2.sub hs1;haveI qn:Qz 310000 (jv l i j) 3:=pH (hv.dot hv) oz;haveI qh:Qz 310000 (dq l i j0 j) 3:=pH (hv.cross (hs1.sub hs0)) oz;obtain⟨w1,w2⟩:=AR D P.h0 P.p0 P.h1 hb;obtain⟨y1,y2⟩:=kr D.hl D.li D.al D.s D.hc P.h0 P.p0;haveI:=w1;haveI:=w2
 haveI z3:Zu 310000 65000 (dB l a i j0 j) 320 327:=(inferInstance:Zu 310000 65000 (dotE (eK l a i j0 j).1 (eK l a i j0 j).2 (eK l a i j0 j).1 (eK l a i j0 j).2) _ _)
 exact⟨hv.mono oz,hs0.mono oz,Ep D.li P.h1 P.hk hj,Cy.zq,z3,u7 (inferInstance:Zu 310000 65000 (qE (jv l i j)*dB l a i j0 j-qE (dq l i j0 j)*qE (dq l i j0 j)) _ _) (by decide) (by decide),w1,w2,y1,y2⟩
theorem At{l:Li}{a:As}{i:Int}{j0 j:Jt}(F:RpF l a i j0 j)(tw:Tw (llq a.rs) 64990)(hn:(llq a.rs).length<=1)(hd0:aw (dB l a i j0 j)≠0)(hp:0<=aw (bp l a i j0 j)) :
  ExtP (bp l a i j0 j)/\RqP (aK (llq a.rs) (sX (bp l a i j0 j))) (eO l a i j0 j) (cr (llq a.rs).length)/\RqP (aK (llq a.rs) (sX (bp l a i j0 j))) (eO l a i j0 j) (sX (-eI (bp l a i j0 j))) /\
  FP 138 [aN (aK (llq a.rs) (sX (bp l a i j0 j))),nA (cr (llq a.rs).length)] (.tup [nA (sX (-eI (bp l a i j0 j))),.v .nilIface]):=by
 have E:ExtP (bp l a i j0 j):=qG tw hn F.zX hp;have ce:=E.cy;have zr:Nm (aK (llq a.rs) (sX (bp l a i j0 j))).length 773000000 (cr (llq a.rs).length):=(pz oz).mono (by decide);haveI zrl:Zl (aK (llq a.rs) (sX (bp l a i j0 j))) 773000000 1101400000 (cr (llq a.rs).length) (eI (bp l a i j0 j)) 1 0:=Zl.at zr (by decide);haveI:=zrl.zu;have hng:=DU (ts:=aK (llq a.rs) (sX (bp l a i j0 j))) (u:=773000000) (k:=1101400000) (a:=cr (llq a.rs).length) (by decide);have zn:Nm (aK (llq a.rs) (sX (bp l a i j0 j))).length 773000000 (sX (-eI (bp l a i j0 j))):=(inferInstance:Zu 773000000 1101400000 (-eI (bp l a i j0 j)) 1 0).nm.mono (by decide)
 have hR:∀q,Nm (aK (llq a.rs) (sX (bp l a i j0 j))).length 773000000 q->RqP (aK (llq a.rs) (sX (bp l a i j0 j))) (eO l a i j0 j) q:=fun q nq =>
  DF (R := eO l a i j0 j) (j := (llq a.rs).length) ce F.hv F.hp F.vv nq (kI (F.zl.nm.mono (by decide)) oz) (kI (F.z3.nm.mono (by decide)) oz) (kI (F.w1.nm.mono (by decide)) oz) (kI (F.w2.nm.mono (by decide)) oz)
   (kI (F.y1.nm.mono (by decide)) oz) (kI (F.y2.nm.mono (by decide)) oz) (uC hn _ _ F.y1.nm).2 (uC hn _ _ F.y2.nm).2 F.z3.nm.nl (by rw[eS];omega) hn (by rw[show aw (dE (aK (llq a.rs) (sX (bp l a i j0 j))) (eO l a i j0 j).d)=aw (dB l a i j0 j)from sW];exact hd0)
 exact⟨E,hR _ zr,hR _ zn,hng⟩
theorem F3{l:Li}{a:As}{i:Int}{j0 j:Jt}(F:RpF l a i j0 j)(tw:Tw (llq a.rs) 64990)(hn:(llq a.rs).length<=1)(hd0:aw (dB l a i j0 j)≠0):Cy (llq a.rs) 773000000 1101400000/\RqP (llq a.rs) (eO l a i j0 j) []:=by
 have cs:Cy (llq a.rs) 773000000 1101400000:=⟨⟨64990,tw,by show kB 64990 (llq a.rs).length<=_;have:=wV hn;omega⟩,by omega,by omega,by omega⟩
 have nil0:Nm (llq a.rs).length 773000000 []:=⟨tw.five,.inl rfl,Cb.nil.mono oz⟩
 exact ⟨cs, DF (R := eO l a i j0 j) (j := (llq a.rs).length) cs F.hv F.hp F.vv nil0 (F.zl.nm.mono (by decide)) (F.z3.nm.mono (by decide)) (F.w1.nm.mono (by decide)) (F.w2.nm.mono (by decide))
   (F.y1.nm.mono (by decide)) (F.y2.nm.mono (by decide)) (y7 _ _ F.y1.nm).2 (y7 _ _ F.y2.nm).2 F.z3.nm.nl (le_refl _) hn (by rw[show aw (dE (llq a.rs) (eO l a i j0 j).d)=aw (dB l a i j0 j)from congrArg aw (br _ _)];exact hd0)⟩
theorem KT{l:Li}{a:As}(D:DyR l a)(hn:(llq a.rs).length<=1){i z0 z1:Int}{j0 j:Jt}(hg:GrOk l ⟨3,[i],[z0,z1],0⟩)(P:SlP 3900000 l a ⟨3,[i],[z0,z1],0⟩ 3 i z0 z1 j0 j)(hj:j.b=i)(hb:Pd 3900000 a j.a) :
  Con prog 65 [.ptr 1000 0] [(1000,some (bX l ⟨3,[i],[z0,z1],0⟩ a))] (ot (jJ l a i j0 j)) [(1000,some (bX l ⟨3,[i],[z0,z1],0⟩ a))]:=by
 haveI c:=D.s.ct D.hc;obtain⟨tw,etw⟩:=cH D.s.tr D.hc;haveI cy:Cy (llq a.rs) 310000 65000:=⟨c.ex,c.k1,c.u3,by omega⟩
 have hlm:=cy.lm;have F:=BI D hn P hj hb;obtain⟨i1,i2,i3,i4,i5⟩:=ee D.li P.h1;have hs0:Sm 1000 (am l j0 i):=gk D.hl D.li P.h0 P.p0.or;have hs1:Sm 1000 (bm l i j.on):=by rw[<- hj];exact j4 D.hl D.li i2 i4
 have hs2:Sm 1000 (bm l i j.to):=by rw[<- hj];exact j4 D.hl D.li i2 (i5 P.hk)
 have hv:Sm _ (il l i j):=hs2.sub hs1;haveI qn:Qz 310000 (jv l i j) 3:=pH (hv.dot hv) oz;haveI qh:Qz 310000 (dq l i j0 j) 3:=pH (hv.cross (hs1.sub hs0)) oz;haveI z3:=F.z3;haveI zX:=F.zX;haveI zl:=F.zl;have hrr:=KP D (i:=i) (j0:=j0) (j:=j) (by decide);have m1:=vC (ts:=llq a.rs) (u:=310000) (k:=65000) (a:=sX (bp l a i j0 j)) (by decide);have m2:=vC (ts:=llq a.rs) (u:=310000) (k:=65000) (a:=sX (dB l a i j0 j)) (by decide);have m3:=vC (ts:=llq a.rs) (u:=310000) (k:=65000) (a:=sh 0 (dq l i j0 j:Rat)) (by decide);refine gF func65 (fun k z h=>bf h) ?_ (2,0);refine gW (Wk.o (sl:=[(0,some (.ptr 1000 0)),(4,some (.ptr 24 0))]) (hp:=[(1000,some (bX l ⟨3,[i],[z0,z1],0⟩ a)),(24,some (dC a.rs))])) ?_;refine gt (aA (Con.rekeyBB 1000 24 (by decide) (by decide) rfl rfl rfl rfl rfl rfl (O3 D hg P.h0 P.h1 P.p0 hj P.hk hb)) (be rfl rfl) aC rfl rfl) ?_;refine gt (aA (Con.rekeyB1 24 rfl rfl rfl rfl rfl hrr) (be rfl rfl) aC rfl rfl) ?_ (4,0);refine gW (Wk.of (sl:=[(4,some (.ptr 24 0)),(5,some (.ptr 5 0)),(6,some (nA (sX (bp l a i j0 j))))]) (hp:=[(1000,some (bX l ⟨3,[i],[z0,z1],0⟩ a)),(5,some (.box (sf l a i j0 j))),(24,some (aV (llq a.rs)))]) aR (.k (.k (.cons rfl (BlkSub.bL (.cons (.of (ko etw)) (.cons (.refl _) .nil)) rfl) .nil)))) ?_;refine gt (aP (Con.rB 24 rfl rfl rfl rfl m1) (be rfl rfl) rfl rfl rfl) ?_;refine gC (fun t34=>?_) (fun t34=>?_) (st1:=(6,0));cases t34;refine gt (aP (Con.rB 24 rfl rfl rfl rfl m2) (be rfl rfl) rfl rfl rfl) ?_;refine gu (dK rfl rfl rfl (fun h=>aP (Con.rB 24 rfl rfl rfl rfl m3) (.cons (.opt rfl (o1 h)) (.cons (.opt rfl (o1 h)) .nil)) rfl rfl rfl)) ?_;refine gC (fun t44=>?_) (fun t44=>?_)
 ·have h1:=Ov t44;refine gR ?_;exact(ak.keep (aZ rfl)).sub (by unfold jJ;rw[if_pos h1];exact Sub.tup (.cons (.nil _ _ _) (.cons (.refl _) .nil)))
 have h1:=NL t44;refine gC (fun t58=>?_) (fun t58=>?_)
 ·have h2:aw (bp l a i j0 j)<0:=of_decide_eq_true t58;refine gR ?_;exact(ak.keep (aZ rfl)).sub (by unfold jJ;rw[if_neg h1,if_pos h2];exact Sub.tup (.cons (.nil _ _ _) (.cons (.refl _) .nil)))
 have h2:¬aw (bp l a i j0 j)<0:=of_decide_eq_false t58;have hd0:aw (dB l a i j0 j)≠0:=vn tw h2 h1;refine xX [4,5] [1000,5] (fun(T:LL)(qs:LL)=>[(8,some (.lst 1 (qs.map nA)))]) (fun T _=>[(24,some (aV T))]) (fun T qs=>Cy T 773000000 1101400000/\qs.length<=2/\(∀q∈qs,RqP T (eO l a i j0 j) q)/\jJ l a i j0 j=(jB T (eO l a i j0 j) qs qs.length,0)) ?_ ?_
 ·intro K1 J1;refine gC (fun t63=>?_) (fun t63=>?_)
  ·have h3:0<aw (bp l a i j0 j):=of_decide_eq_true t63;obtain⟨E,R1,R2,hng⟩:=At F tw hn hd0 oz;have ce:=E.cy;have hex:=BD (a:=sX (bp l a i j0 j)) tw zX.nm (by rw[hlm];decide) (by rw[show ad (llq a.rs).length (sX (bp l a i j0 j))=bp l a i j0 j from br _ _];show 0<=aw (bp l a i j0 j);omega);refine gc hex ?_;refine gC (fun t75=>?_) (fun t75=>?_) (st1:=(15,0));cases t75;refine gc hng ?_;refine gt (aP (Con.rB 24 rfl rfl rfl rfl (nW _ _)) (aB rfl rfl rfl) rfl rfl rfl) ?_;exact no J1 (aK (llq a.rs) (sX (bp l a i j0 j))) ([cr (llq a.rs).length,sX (-eI (bp l a i j0 j))]) ⟨ce,le_refl 2,j5 R1 R2,by unfold jJ;rw[if_neg h1,if_neg h2,if_pos h3];rfl⟩
  have h3:¬0<aw (bp l a i j0 j):=of_decide_eq_false t63;obtain⟨cs,R0⟩:=F3 F tw hn hd0;exact no J1 (llq a.rs) ([[]]) ⟨cs,by decide,f0 R0,by unfold jJ;rw[if_neg h1,if_neg h2,if_neg h3];rfl⟩ (hw:=Wk.of (.cons rfl JV (.k (.k .nil))) (.k (.k (.k .nil))))
 rintro T qs ⟨ct,hql,hq,hR⟩;obtain⟨rr,twT,hkT⟩:=ct.ex;refine gl ?_;refine gW (Wk.virt 900 3 rfl) ?_;refine aI [4,5,8,90,91] [1000,5,24] (fun(q:Nat)=>[(12,some (.ms 900 3 0 q)),(92,some (i64 q))]) (fun q=>[(900,some (.row 3 (jB T (eO l a i j0 j) qs q)))]) (fun q=>q<=qs.length) (fun q=>qs.length-q) 0 (zero_le _) ?_;rintro q hqi K2 J2;refine gC (fun t93=>?_) (fun t93=>?_) (st2:=(28,0))
 ·have hin:=aU t93;obtain ⟨x,hx⟩:=ay hin;have hx9:qs.getD q [] = x:=aL hx;have R:=hq x (mem_of_getElem? hx);refine gi (az hx) ?_;refine gc R.c1 ?_;refine gt (aP (Con.rB 24 rfl rfl rfl rfl (uW _ _ _)) (aB rfl rfl rfl) rfl rfl rfl) ?_;refine gD ?_;refine gc R.ng ?_;refine gt (aP (Con.rB 24 rfl rfl rfl rfl (nW _ _)) (aB rfl rfl rfl) rfl rfl rfl) ?_;refine gc R.c2 ?_;refine gt (aP (Con.rB 24 rfl rfl rfl rfl (uW _ _ _)) (aB rfl rfl rfl) rfl rfl rfl) ?_;refine gD ?_;refine gc R.sb ?_;refine gt (aP (Con.rB 24 rfl rfl rfl rfl (uW _ _ _)) (aB rfl rfl rfl) rfl rfl rfl) ?_;refine gD ?_;refine gt (aP (Con.rB 24 rfl rfl rfl rfl (tW R.d1)) (aB rfl rfl rfl) rfl rfl rfl) ?_;refine gt (aP (Con.rB 24 rfl rfl rfl rfl (tW R.d2)) (aB rfl rfl rfl) rfl rfl rfl) ?_;refine gD ?_;refine gc (xl twT) ?_;refine gt (aP (Con.rB 24 rfl rfl rfl rfl R.body) (.cons (.tmp rfl) (.cons (.tmp rfl) (aB rfl rfl rfl))) rfl rfl rfl) ?_;refine gl ?_;refine gc (B4 q qs.length oz) ?_;refine gs (bU (.tmp rfl) rfl (wG _ _ _ _).symm (.tmp rfl) T54 rfl T62 rfl rfl (by dsimp only; simp only [length_cons,length_nil]; omega) rfl rfl) ?_;refine gD ?_ (27,0);refine gW (Wk.of (sl:=[(4,some (.ptr 24 0)),(5,some (.ptr 5 0)),(8,some (.lst 1 (qs.map nA))),(12,some (.ms 182 3 0 (q + 1))),(90,some (.lst 1 (qs.map nA))),(91,some (i64 qs.length)),(92,some (i64 q))]) (hp:=[(1000,some (bX l ⟨3,[i],[z0,z1],0⟩ a)),(5,some (.box (sf l a i j0 j))),(24,some (aV T)),(182,some (.row 3 (jB T (eO l a i j0 j) qs (q + 1))))]) aR (.k (.k (.k (.cons rfl (BlkSub.of (by rw [Ke]; unfold jR; rw [hx9]; rfl)) .nil))))) ?_ (27,0)
  refine gW (Wk.rk (k:=182) (d:=900) rfl rfl) ?_;refine ga aG ?_;exact aE J2 (q+1) hin
 have hin:=a6 hqi t93;subst hin;refine gW ((Wk.freeze (k:=900) rfl).trans<|Wk.of (sl:=[(4,some (.ptr 24 0)),(12,some (.lst 3 (jB T (eO l a i j0 j) qs qs.length)))]) (hp:=[(1000,some (bX l ⟨3,[i],[z0,z1],0⟩ a)),(24,some (aV T))]) (.k (.cons rfl (Sub.of (by rw[bB (wG _ _ _ _).symm])) .nil)) (.k (.k .nil))) ?_;refine gC (fun t188=>?_) (fun t188=>?_) (st1:=(29,0));cases t188;refine gR ?_;exact(ak.keep (aZ rfl)).sub (Sub.of (by rw[hR];rfl))
theorem Pf:Sub (.agg [bl (rt ((1:Int):Rat)).neg,ws (rt ((1:Int):Rat)).num,ws (rt ((1:Int):Rat)).den,.v (.bool false),nS,nS]) (qP (((1:Int):Rat),0)) :=
 Sub.agg (.cons (.refl _) (.cons (.refl _) (.cons (.refl _) (.cons (.refl _) (.cons (Sub.nil _ _ _) (.cons (Sub.nil _ _ _) .nil)))))) rfl
theorem rC{ts:LL}(q:Rat):sX (qE q:Et ts)=sh 0 (q:Rat):=xV _ _
def uo(l:Li)(a:As)(i:Int)(j0:Jt)(x:Tn):Pq:=mo (((1:Int):Rat),0) ((qE (fI x.half x.t.q),qE (fM x.half x.t.q)):P2 (llq a.rs)) (am l j0 i) (aW l a j0 i)
def l8(l:Li)(a:As)(i:Int)(j0:Jt)(x:Tn):List AV×Nat:=if x.err≠0 then([],x.err)else([(⟨llq a.rs,[uo l a i j0 x],1⟩:Sv).av],0)
theorem Ic{l:Li}{g:Gr}{a:As}{x:Tn}(hx:x.t.ok)(hq:Qb 1000 x.t.q)(he:x.err≠0) :
  Con prog 62 [.ptr 1000 0,x.av] [(1000,some (bX l g a))] (.tup [.lst 3 [],ba x.err]) [(1000,some (bX l g a))]:=by
 refine gF func62 (fun k z h=>bf h) ?_;refine gc (BQ x hx hq oz) ?_;refine gC (fun t20=>?_) (fun t20=>?_) (st2:=(77777,0))
 ·refine gR ?_;exact(ak.keep (aZ rfl)).sub (Sub.tup (.cons (.nil _ _ _) (.cons (.refl _) .nil)))
 exact absurd (b9 t20) he
theorem CT:Sm 3000 (((1:Int):Rat),(0:Rat)):=⟨Qb.one.mono oz,Qb.mono (e:=1) (q:=0) ⟨by decide,by decide⟩ oz⟩
theorem AG{E:Nat}(hE:E<=20000000000){l:Li}{a:As}(D:DyW l a)(h3:(llq a.rs).length<=2){body pt:Int}(h1:bh body l.bo.length=true)(h2:bh pt (cw l body).length=true)(hb:Pd E a body) :
  Nm (llq a.rs).length 62500000000 (sX (bA l a body pt).1)/\Nm (llq a.rs).length 62500000000 (sX (bA l a body pt).2):=by
 obtain⟨n,k,bd,m,b,hp⟩:=uT D.hl D.li D.al D.hc h1 h2 hb;obtain⟨tw,_⟩:=cH D.al.tr D.hc;have kb:=DP h3;have qx:Qb 1000 m.x.q:=by rw[hp.mp.ex,bu];exact hp.mp.sm.x
 have qy:Qb 1000 m.y.q:=by rw[hp.mp.ey,bu];exact hp.mp.sm.y
 have h:=y9 tw hp.ok qx qy;unfold bA;rw[hp.eq];exact⟨h.1.mono oz,h.2.mono oz⟩
theorem GL{E:Nat}(hE:E<=20000000000){l:Li}{a:As}(D:DyW l a)(h3:(llq a.rs).length<=2){i:Nat}{j:Jt}(hj:l.jo[i]?=some j){b:Int}(h:PinP E l a j b) :
  Nm (llq a.rs).length 62500000000 (sX (aW l a j b).1)/\Nm (llq a.rs).length 62500000000 (sX (aW l a j b).2):=by
 obtain⟨i1,i2,i3,i4,_⟩:=ee D.li hj;unfold aW;rcases h.tie with⟨e,hb⟩ |⟨e,e2,hb⟩
 ·rw[if_pos e];exact AG hE D h3 i2 i4 hb
 ·rw[if_neg e];exact AG hE D h3 i1 i3 hb
theorem CF{E:Nat}(hE:E<=20000000000){l:Li}{a:As}(D:DyW l a)(h3:(llq a.rs).length<=2){n:Nat}{i:Int}{j0:Jt}(h0:l.jo[n]?=some j0)(p0:PinP E l a j0 i){x:Tn}(hq:Qb 1000 x.t.q) :
  BdP (llq a.rs) (((1:Int):Rat),(0:Rat)) ((qE (fI x.half x.t.q),qE (fM x.half x.t.q)):P2 (llq a.rs)) (am l j0 i) (aW l a j0 i):=by
 obtain⟨tw,etw⟩:=cH D.al.tr D.hc;have qc:=rX (half:=x.half) hq;have qs:=rD (half:=x.half) hq;have hs0:Sm 1000 (am l j0 i):=gk D.hl D.li h0 p0.or;obtain⟨y1,y2⟩:=GL hE D h3 h0 p0
 exact zE (F := 80000000000) (W := 10000) (u := (((1 : Int) : Rat), (0 : Rat))) (p := am l j0 i) (w := ((qE (fI x.half x.t.q), qE (fM x.half x.t.q)) : P2 (llq a.rs))) (o := aW l a j0 i) tw h3 (DP h3) CT (hs0.mono oz) (by decide +kernel)
  (by show Nm _ _ (sX (qE (fI x.half x.t.q):Et (llq a.rs)));rw[rC];exact(mu tw.five qc).mono oz) (by show Nm _ _ (sX (qE (fM x.half x.t.q):Et (llq a.rs)));rw[rC];exact(mu tw.five qs).mono oz) y1 y2 oz oz oz
theorem Mi{E:Nat}(hE:E<=20000000000){l:Li}{a:As}(D:DyW l a)(h3:(llq a.rs).length<=2){i z0 d:Int}{j0:Jt}(hg:GrOk l ⟨0,[i],[z0],d⟩)(h0:l.jo[z0.toNat]?=some j0)(p0:PinP E l a j0 i){x:Tn}(hx:x.t.ok)(hq:Qb 1000 x.t.q)(he:x.err=0) :
  Con prog 62 [.ptr 1000 0,x.av] [(1000,some (bX l ⟨0,[i],[z0],d⟩ a))] (.tup [.lst 3 [(⟨llq a.rs,[uo l a i j0 x],1⟩:Sv).av],.v .nilIface]) [(1000,some (bX l ⟨0,[i],[z0],d⟩ a))]:=by
 obtain⟨tw,etw⟩:=cH D.al.tr D.hc;have hc:=BQ x hx hq oz;rw[if_pos he,he]at hc;have hs:=KG x hx hq oz;rw[if_pos he,he]at hs;have qc:=rX (half:=x.half) hq;have qs:=rD (half:=x.half) hq;have hs0:Sm 1000 (am l j0 i):=gk D.hl D.li h0 p0.or;have hb:=vK CT (hs0.mono oz) (CF hE D h3 h0 p0 hq)
 have ew:cQ (P2.l ((qE (fI x.half x.t.q),qE (fM x.half x.t.q)):P2 (llq a.rs)))=aJ (sh 0 (fI x.half x.t.q:Rat)) (sh 0 (fM x.half x.t.q:Rat)):=by
  show aJ (sX (qE (fI x.half x.t.q):Et (llq a.rs))) (sX (qE (fM x.half x.t.q):Et (llq a.rs)))=_;rw[rC,rC]
 rw[ew]at hb;have hcl:=xl tw;have hcl2:FP 144 [cz a.rs] (aN (llq a.rs)):=by rw[etw];exact hcl
 refine gF func62 (fun k z h=>bf h) ?_;refine gc hc ?_;refine gC (fun t20=>?_) (fun t20=>?_) (st1:=(3,0));cases t20;refine gc hs ?_;refine gC (fun t28=>?_) (fun t28=>?_) (st1:=(6,0));cases t28;refine gi rfl ?_;refine gt (aP (rQ hE D.hl D.li _ hg D.al D.hc (k:=0) rfl h0 h3 p0) (.cons (.tmp rfl) (.cons (.const _) (cf rfl))) rfl rfl rfl) ?_;refine gD ?_ (9,0);refine gW (Wk.of (sl:=[(0,some (.ptr 1000 0)),(6,some (.ptr 6 0)),(8,some (.ptr 8 0)),(9,some (.ptr 9 0)),(10,some (.ptr 10 0)),(11,some (.ptr 52 0))]) (hp:=[(1000,some (bX l ⟨0,[i],[z0],d⟩ a)),(6,some (.box [bl (rt (fI x.half x.t.q)).neg,ws (rt (fI x.half x.t.q)).num,ws (rt (fI x.half x.t.q)).den])),(8,some (.box [bl (rt (fM x.half x.t.q)).neg,ws (rt (fM x.half x.t.q)).num,ws (rt (fM x.half x.t.q)).den])),(9,some (.box (qC (am l j0 i)))),(10,some (.box [nA (sX (aW l a j0 i).1),nA (sX (aW l a j0 i).2)])),(52,some (aV (llq a.rs)))]) aR (.k (.k (.k (.k (.k (.cons rfl (BlkSub.bL (.cons (.of (ko etw)) (.cons (.refl _) .nil)) rfl) .nil))))))) ?_
 refine gc (lN 1 oz) ?_;refine gc (so (qc.qs oz) (qs.qs oz)) ?_;refine gt (aP (Con.rB 52 rfl rfl rfl rfl (Con.sA (.cons (.refl _) (.cons Pf (.cons (.refl _) (.cons (.refl _) (.cons (.refl _) .nil))))) hb)) (.cons (.tmp rfl) (.cons (.tmp rfl) (aB rfl rfl rfl))) rfl rfl rfl) ?_;refine gD ?_;refine gC (fun t67=>?_) (fun t67=>?_) (st1:=(12,0));cases t67;refine gc hcl2 ?_;refine gD ?_;refine gR ?_;exact ak.keep (aZ rfl)
theorem Ky{E:Nat}(hE:E<=20000000000){l:Li}{a:As}(D:DyW l a)(h3:(llq a.rs).length<=2){i z0 d:Int}{j0:Jt}(hg:GrOk l ⟨0,[i],[z0],d⟩)(h0:l.jo[z0.toNat]?=some j0)(p0:PinP E l a j0 i){x:Tn}(hx:x.t.ok)(hq:Qb 1000 x.t.q) :
  Con prog 62 [.ptr 1000 0,x.av] [(1000,some (bX l ⟨0,[i],[z0],d⟩ a))] (ot (l8 l a i j0 x)) [(1000,some (bX l ⟨0,[i],[z0],d⟩ a))]:=by
 by_cases he:x.err=0
 ·have h:=Mi hE D h3 hg h0 p0 hx hq he;unfold l8;rw[if_neg oz];exact h
 ·have h:=Ic (l:=l) (g:=⟨0,[i],[z0],d⟩) (a:=a) hx hq he;unfold l8;rw[if_pos he];exact h
def gY(l:Li)(a:As)(g:Gr)(x:Tn):List AV×Nat :=
  if g.kind=0 then l8 l a (ik g 0) (eC l g 0) x
  else if g.kind=1 then lT l a (ik g 0) (ik g 1) (eC l g 0) (eC l g 1) (eC l g 2)
  else if g.kind=2 then lL l a (ik g 0) (eC l g 0) (eC l g 1)
  else jJ l a (ik g 0) (eC l g 0) (eC l g 1)
theorem yC{E:Nat}{l:Li}{k:Int}{a:As}{own:Bool}{n:Nat}{g:Gr}(h:DyOk E l k a own n g)(hk:g.kind=0):∃i z0 d j0,g=⟨0,[i],[z0],d⟩/\l.jo[z0.toNat]?=some j0/\PinP E l a j0 i:=by
 have hd:=h.dy;cases hd with
 |rrr _ _ _ _ _ _ _=>exact absurd hk (by simp)
 |pr _ _ _=>exact absurd hk (by simp)
 |rp _ _ _=>exact absurd hk (by simp)
 | @drv b z d j x t d0 hd hb=>exact⟨b,z,d,j,rfl,t.hj,h.pin rfl t (by simp) (by simp)⟩
theorem Me{l:Li}{k:Int}{x:Tn}{a:As}{E:Nat}(hop:FP 61 [l.av,i64 k,a.av,bl false] (.tup [.v (.pointer none),ba E]))(h0:E≠0) :
  FP 17 [l.av,i64 k,x.av,a.av] (.tup [.lst 3 [],ba E]):=by
 refine ah func17 ?_;refine gc hop ?_;refine gC (fun t20=>?_) (fun t20=>?_) (st2:=(77777,0))
 ·refine gR ?_;exact cT (Sub.tup (.cons (.nil _ _ _) (.cons (.refl _) .nil)))
 exact absurd (b9 t20) h0
theorem G6{E:Nat}(hE:E<=20000000000){l:Li}{k:Int}{a:As}{n:Nat}{g:Gr}{x:Tn}(hx:x.t.ok)(hq:Qb 1000 x.t.q)(h3:(llq a.rs).length<=2)(hR:g.kind≠0->E=3900000/\DyS a)(hop:Con prog 61 [l.av,i64 k,a.av,bl false] [] (.tup [.ptr 900 0,.v .nilIface]) [(900,some (bX l g a))])(D:DyW l a)(ok:DyOk E l k a false n g) :
  FP 17 [l.av,i64 k,x.av,a.av] (ot (gY l a g x)):=by
 have hgo:=ok.ok;refine ah func17 ?_;refine gt (aA hop (.cons (.tmp rfl) (.cons (.tmp rfl) (.cons (.tmp rfl) (.cons (.const _) .nil)))) aC rfl rfl) ?_ (2,0);refine gW (Wk.o (sl:=[(6,some (.ptr 6 0)),(10,some (.ptr 900 0)),(11,some (.v .nilIface))]) (hp:=[(6,some (.box x.av.cells)),(900,some (bX l g a))])) ?_;refine gC (fun t20=>?_) (fun t20=>?_) (st1:=(3,0));cases t20;refine gC (fun t27=>?_) (fun t27=>?_)
 ·have hk:g.kind = 0:=cP t27;obtain ⟨i,z0,d,j0,e,hj0,p0⟩:=yC ok hk;have eR:gY l a g x = l8 l a i j0 x:=by unfold gY; rw [if_pos hk,e]; show l8 l a i (l.jo.getD z0.toNat default) x = _; rw [aL hj0]
  subst e;refine gt (aP (Con.rB 900 rfl rfl rfl rfl (Ky hE D h3 hgo hj0 p0 hx hq)) (be rfl rfl) rfl rfl rfl) ?_;refine gR ?_;exact cT (Sub.of (by rw[eR];rfl))
 have hk0:g.kind≠0:=dN t27;obtain⟨hE9,S⟩:=hR hk0;subst hE9;have D:DyR l a:=⟨D,S⟩
 have hn:=S.one D.hc;refine gC (fun t34=>?_) (fun t34=>?_)
 ·have hk:g.kind = 1:=cP t34;obtain ⟨i,k2,z0,z1,z2,j0,j1,j2,P⟩:=ok.rrr hk;obtain ⟨e0,e1,e2,b0,b1,_⟩:=P.at;have eR:gY l a g x = lT l a i k2 j0 j1 j2:=by unfold gY; rw [if_neg hk0,if_pos hk,e0,e1,e2,b0,b1]
  have e:=P.eq;subst e;refine gt (aP (Con.rB 900 rfl rfl rfl rfl (Pp D hn hgo P)) (cf rfl) rfl rfl rfl) ?_;refine gR ?_;exact cT (Sub.of (by rw[eR];rfl))
 have hk1:g.kind≠1:=dN t34;refine gC (fun t40=>?_) (fun t40=>?_)
 ·have hk:g.kind = 2:=cP t40;obtain ⟨i,z0,z1,j0,j,P,ha,hb⟩:=ok.pr hk;obtain ⟨e0,e1,b0,_⟩:=P.at;have eR:gY l a g x = lL l a i j0 j:=by unfold gY; rw [if_neg hk0,if_neg hk1,if_pos hk,e0,e1,b0]
  have e:=P.eq;subst e;refine gt (aP (Con.rB 900 rfl rfl rfl rfl (Kt D hn hgo P ha hb)) (cf rfl) rfl rfl rfl) ?_;refine gR ?_;exact cT (Sub.of (by rw[eR];rfl))
 have hk2:g.kind≠2:=dN t40;obtain⟨i,z0,z1,j0,j,P,_,hj,hb⟩:=ok.rp hk0 hk1 hk2;obtain⟨e0,e1,b0,_⟩:=P.at;have eR:gY l a g x=jJ l a i j0 j:=by unfold gY;rw[if_neg hk0,if_neg hk1,if_neg hk2,e0,e1,b0]
 have e:=P.eq;subst e;refine gt (aP (Con.rB 900 rfl rfl rfl rfl (KT D hn hgo P hj hb)) (cf rfl) rfl rfl rfl) ?_;refine gR ?_;exact cT (Sub.of (by rw[eR];rfl))
def sE(l:Li)(k:Int)(x:Tn)(a:As):List AV×Nat:=if eT l k a false=0 then gY l a (ip l k) x else([],eT l k a false)
theorem OD(l:Li)(hl:l.ok)(k:Int){x:Tn}(hx:x.t.ok)(hq:Qb 1000 x.t.q)(a:As)(al:AB a)(h3:aX a.rs=0->(llq a.rs).length<=2){E:Nat}(hE:E<=20000000000)(hs:ru E l k a false)(hR:eT l k a false=0->(ip l k).kind≠0->E=3900000/\DyS a) :
  FP 17 [l.av,i64 k,x.av,a.av] (ot (sE l k x a)):=by
 have hop:=JG l hl k a al false;unfold sE
 by_cases h0:eT l k a false=0
 ·obtain ⟨n, g, ok⟩:=BA hs h0;have hgA:ip l k = g:=by unfold ip; rw [ok.hk,toNat_natCast]; exact aL ok.hg
  have hR:=hR h0;rw[hgA]at hR;rw[h0,hgA]at hop;rw[if_pos h0,hgA];exact G6 hE hx hq (h3 ok.chk) hR hop ⟨hl,ok.li,al,ok.chk⟩ ok
 ·rw[jZ h0,oH h0]at hop;rw[if_neg h0];exact Me hop h0
theorem AL.sma{a:As}(al:AL a)(l:Li)(k:Int)(own:Bool):ru 3900000 l k a own:=fun b _ _ p hp x hx=>(al.nr p (mem_of_getElem? hp) x hx).mono oz
end Go.Lw
