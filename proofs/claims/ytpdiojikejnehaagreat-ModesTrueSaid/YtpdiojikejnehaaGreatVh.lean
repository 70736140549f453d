/- ModesTrue: for any linkage and any turns the law returns true and leaves its arguments as they were. No other condition. Part 8 of 8: the statement -/
import Derived.Test.YtpdiojikejnehaaGreatVg
set_option linter.unusedVariables false
open List (mem_of_getElem? mem_cons_of_mem mem_append mem_cons length_cons mem_cons_self length_nil getD_eq_getElem?_getD getElem?_append_left all_eq_true append_assoc getElem?_append_right getElem?_eq_getElem append_nil map_append length_take length_map take_length not_mem_nil getElem?_of_mem getElem_mem)
open Nat (le_refl lt_or_ge le_trans zero_le)
open Int (toNat_natCast)
open Go.Proofs.Tryz
namespace Go.Lw
open Lean.Grind (CommRing)
section
variable{ts T:LL}(L:Lf ts T)
include L
theorem Lf.pp{l:Li}{bs bs':List Pq}{j:Jt}{i:Int}(tie:(j.a=i/\cS bs bs' ts.length j.b)\/(j.a≠i/\j.b=i/\cS bs bs' ts.length j.a)) :
  ah L.pos (Lw.pinP l T bs' j i).1=ah L.pos (aq T (Lw.pinP l ts bs j i).1)/\ah L.pos (Lw.pinP l T bs' j i).2=ah L.pos (aq T (Lw.pinP l ts bs j i).2):=by
 unfold Lw.pinP;rcases tie with⟨e,hs⟩ |⟨e,e2,hs⟩
 ·rw[if_pos e,if_pos e];exact L.pt l hs j.on
 ·rw[if_neg e,if_neg e];exact L.pt l hs j.point
theorem Kr{k:Int}{d:Et ts}{d':Et T}(h:ah L.pos d'=ah L.pos (aq T d)):ah L.pos (oa k d')=ah L.pos (aq T (oa k d)):=by
 unfold oa;split
 ·rw[L.mul,L.add,bB,fL,h]
 ·rw[L.mul,bB,h]
end
structure DetH(l:Li)(a:As)(g:Gr)(s:Sv):Prop where
  lf:Lf (llq a.rs) s.ts
  sg:an (cK l s.ts (aZ (aJ a) g.bo s.ps) g)=s.mode
  sq:ah lf.pos (oa g.kind (cK l s.ts (aZ (aJ a) g.bo s.ps) g))=ah lf.pos (fI l s.ts (aZ (aJ a) g.bo s.ps) g)
  rd:ah lf.pos (fI l s.ts (aZ (aJ a) g.bo s.ps) g)=ah lf.pos (aq s.ts (By l a g))
section
variable{l:Li}{a:As}{r:Nat}(tw:Tw (llq a.rs) r)(hN:∀p∈aJ a,Nq (llq a.rs).length p)
include tw hN
theorem M7{i k z0 z1 z2:Int}{j0 j1 j2:Jt}(ne:i≠k)(t0:TieO l 0 [i,k] z0 i j0)(t1:TieO l 0 [i,k] z1 k j1)(h2:l.jo[z2.toNat]?=some j2)
  (hi:0<=i) (hk:0<=k) (hil:i.toNat<(aJ a).length) (hkl:k.toNat<(aJ a).length) (hn:∀j∈l.jo,0<=j.a/\0<=j.b)
  {s:Sv} (hs:s∈je l a i k j0 j1 j2):DetH l a ⟨1,[i,k],[z0,z1,z2],0⟩ s:=by
 have e0:ak l ⟨1,[i,k],[z0,z1,z2],0⟩ 0=j0:=ao t0.hj;have e1:ak l ⟨1,[i,k],[z0,z1,z2],0⟩ 1=j1:=ao t1.hj;have e2:ak l ⟨1,[i,k],[z0,z1,z2],0⟩ 2=j2:=ao h2;have b0:aI ⟨1,[i,k],[z0,z1,z2],0⟩ 0=i:=rfl;have b1:aI ⟨1,[i,k],[z0,z1,z2],0⟩ 1=k:=rfl;unfold je at hs;split at hs
 ·cases hs
 ·rename_i hz;obtain⟨w1,w2⟩:=rc (Bool.eq_false_iff.2 hz);split at hs
  ·cases hs
  ·rename_i hc;have hc:=Decidable.not_not.1 hc;have geo:=Rr tw hc (BS tw hN w1);unfold jA at hs;obtain⟨m,hm,rfl⟩:=List.mem_map.1 hs;obtain⟨x,hx⟩:=aw (List.mem_range.1 hm);have G:=geo m x hx;unfold jB;rw[ao hx];obtain⟨n0,n1⟩:=hn j0 (mem_of_getElem? t0.hj);obtain⟨n2,n3⟩:=hn j1 (mem_of_getElem? t1.hj);generalize hM:dX (aB l a j0 i) (aB l a j1 k) (qE (bt (am l j2 i) (am l j0 i))) (qE (bt (am l j2 k) (am l j1 k)))=M at *;obtain⟨B0,hB0⟩:∃B0,B0=kF M.ts x ⟨am l j0 i,P2.l (aB l a j0 i),am l j2 i⟩:=⟨_,rfl⟩
   obtain⟨B1,hB1⟩:∃B1,B1=kF M.ts x ⟨am l j1 k,P2.l (aB l a j1 k),am l j2 k⟩:=⟨_,rfl⟩
   have hbs:aZ (aJ a) [i,k] [B0,B1]=((aJ a).set i.toNat B0).set k.toNat B1:=rfl;have g0:(aZ (aJ a) [i,k] [B0,B1]).getD i.toNat bj=B0:=by rw[hbs,jN hk hi ne,lX hil]
   have gn:∀b:Int,0<=b->b∉[i,k]->cS (aJ a) (aZ (aJ a) [i,k] [B0,B1]) (llq a.rs).length b:=fun b h0 hb=>oh tw hN (by
    rw[hbs,jN hk h0 (fun e=>hb (by simp[e])),jN hi h0 (fun e=>hb (by simp[e]))])
   have q0:cF M.ts B0 (am l j2 i)=(dE M.ts x.1,dE M.ts x.2):=by
    rw[hB0];refine(ra w1).trans ?_;unfold kj i7;refine Prod.ext ?_ ?_
    ·dsimp only;grind
    ·dsimp only;grind
   have L:=G.lf
   have P0:=L.pp (l:=l) (bs:=aJ a) (bs':=aZ (aJ a) [i,k] [B0,B1]) (j:=j0) (i:=i) (by
    rcases t0.tie with⟨e,hb⟩ |⟨e,hb⟩
    ·exact .inl ⟨e,gn _ n1 hb⟩
    ·exact .inr ⟨fun e2=>hb (by simp[e2]),e,gn _ n0 hb⟩)
   have P1:=L.pp (l:=l) (bs:=aJ a) (bs':=aZ (aJ a) [i,k] [B0,B1]) (j:=j1) (i:=k) (by
    rcases t1.tie with⟨e,hb⟩ |⟨e,hb⟩
    ·exact .inl ⟨e,gn _ n3 hb⟩
    ·exact .inr ⟨fun e2=>hb (by simp[e2]),e,gn _ n2 hb⟩)
   have hr:=xa L (l:=l) (g:=⟨1,[i,k],[z0,z1,z2],0⟩) (bs:=aJ a) (bs':=aZ (aJ a) [i,k] [B0,B1]) (fun _=>by rw[e0,b0];exact P0) (fun _=>by rw[e1,b1];exact P1) (fun h=>absurd h (by simp)) (fun _ h=>absurd rfl h)
   have hd:=G.ex (cK l M.ts (aZ (aJ a) [i,k] [B0,B1]) ⟨1,[i,k],[z0,z1,z2],0⟩) (by
    rw[L3 rfl,e0,e1,e2,b0,b1,g0,q0];unfold jv crsE aQ;dsimp only;rw[bP,bB,bB,bP,bP,bP,bP,P0.1,P0.2,P1.1,P1.2,<- kl,<- kl])
   have hq:fI l (llq a.rs) (aJ a) ⟨1,[i,k],[z0,z1,z2],0⟩=bc (aB l a j0 i) (qE (bt (am l j2 i) (am l j0 i))) (aB l a j1 k) (qE (bt (am l j2 k) (am l j1 k))):=by
    rw[RM rfl,e0,e1,e2,b0,b1,<- kl,<- kl]
   rw[hB0,hB1]at hr hd;refine⟨L,hd.1,?_,?_⟩
   ·refine Eq.trans ?_ (hr.trans (congrArg (fun z=>ah L.pos (aq M.ts z)) hq)).symm;exact hd.2
   ·rw[yv];exact hr
theorem LO{i z0 z1:Int}{j0 j:Jt}(t0:TieO l 0 [i] z0 i j0)(t1:TieO l 1 [i] z1 i j)(ha:j.a=i)(hi:0<=i)(hil:i.toNat<(aJ a).length)(hn:∀j∈l.jo,0<=j.a/\0<=j.b)
  {s:Sv} (hs:s∈jC l a i j0 j):DetH l a ⟨2,[i],[z0,z1],0⟩ s:=by
 have e0:ak l ⟨2,[i],[z0,z1],0⟩ 0=j0:=ao t0.hj;have e1:ak l ⟨2,[i],[z0,z1],0⟩ 1=j:=ao t1.hj;have b0:aI ⟨2,[i],[z0,z1],0⟩ 0=i:=rfl;unfold jC at hs;split at hs
 ·cases hs
 ·rename_i hz;have w1:=tW (Bool.eq_false_iff.2 hz);split at hs
  ·cases hs
  ·rename_i hc;have hc:=Decidable.not_not.1 hc;have geo:=Sp tw (c:=aB l a j0 i) (z:=qE (bt (aS l i j.point) (am l j0 i))) hc;unfold jA at hs;obtain⟨m,hm,rfl⟩:=List.mem_map.1 hs;obtain⟨x,hx⟩:=aw (List.mem_range.1 hm);have G:=geo m x hx;have L:=G.lf;unfold jB;rw[ao hx];obtain⟨n0,n1⟩:=hn j0 (mem_of_getElem? t0.hj);obtain⟨n2,n3⟩:=hn j (mem_of_getElem? t1.hj);generalize hM:dS (bf l a j.b j.on) (bf l a j.b j.to) (aB l a j0 i) (qE (bt (aS l i j.point) (am l j0 i)))=M at *;obtain⟨B0,hB0⟩:∃B0,B0=kF M.ts x ⟨am l j0 i,P2.l (aB l a j0 i),aS l i j.point⟩:=⟨_,rfl⟩
   have hbs:aZ (aJ a) [i] [B0]=(aJ a).set i.toNat B0:=rfl;have g0:(aZ (aJ a) [i] [B0]).getD i.toNat bj=B0:=by rw[hbs,lX hil]
   have gn:∀b:Int,0<=b->b∉[i]->cS (aJ a) (aZ (aJ a) [i] [B0]) (llq a.rs).length b:=fun b h0 hb=>oh tw hN (by
    rw[hbs,jN hi h0 (fun e=>hb (by simp[e]))])
   have q0:cF M.ts B0 (aS l i j.point)=(dE M.ts x.1,dE M.ts x.2):=by
    rw[hB0];refine(ra w1).trans ?_;unfold kj i7;refine Prod.ext ?_ ?_
    ·dsimp only;grind
    ·dsimp only;grind
   have hjb:cS (aJ a) (aZ (aJ a) [i] [B0]) (llq a.rs).length j.b:=by
    rcases t1.tie with⟨e,hb⟩ |⟨e,hb⟩
    ·exact gn _ n3 hb
    ·exact absurd (by simp[ha]) hb
   have P0:=L.pp (l:=l) (bs:=aJ a) (bs':=aZ (aJ a) [i] [B0]) (j:=j0) (i:=i) (by
    rcases t0.tie with⟨e,hb⟩ |⟨e,hb⟩
    ·exact .inl ⟨e,gn _ n1 hb⟩
    ·exact .inr ⟨fun e2=>hb (by simp[e2]),e,gn _ n0 hb⟩)
   have on:=L.pt l hjb j.on;have to:=L.pt l hjb j.to;have hr:=xa L (l:=l) (g:=⟨2,[i],[z0,z1],0⟩) (bs:=aJ a) (bs':=aZ (aJ a) [i] [B0]) (fun _=>by rw[e0,b0];exact P0) (fun h=>absurd h (by simp)) (fun _ pt=>by rw[e1];exact L.pt l hjb pt) (fun _ _ h=>absurd rfl h)
   have hd:=G.ex (cK l M.ts (aZ (aJ a) [i] [B0]) ⟨2,[i],[z0,z1],0⟩) (by
    rw[MS rfl,e0,e1,b0,g0,q0];unfold dU dotE aQ;dsimp only;rw[fL,bB,bB,bP,bP,bP,bP,P0.1,P0.2,on.1,on.2,to.1,to.2,<- kl,<- fZ,<- fZ])
   have hq:fI l (llq a.rs) (aJ a) ⟨2,[i],[z0,z1],0⟩=aO (bf l a j.b j.on) (bf l a j.b j.to) (aB l a j0 i) (qE (bt (aS l i j.point) (am l j0 i))):=by
    rw[SL rfl,e0,e1,b0,<- kl,<- fZ,<- fZ]
   rw[hB0]at hr hd;refine⟨L,hd.1,?_,?_⟩
   ·refine Eq.trans ?_ (hr.trans (congrArg (fun z=>ah L.pos (aq M.ts z)) hq)).symm;exact hd.2
   ·rw[yv];exact hr
theorem AT{i z0 z1:Int}{j0 j:Jt}(t0:TieO l 0 [i] z0 i j0)(t1:TieO l 1 [i] z1 i j)(ha:j.a≠i)(hi:0<=i)(hil:i.toNat<(aJ a).length)(hn:∀j∈l.jo,0<=j.a/\0<=j.b)(hv:bX (cq l i j) (cq l i j)≠0)
  (hd:an (b7 l a i j0 j)≠0) {T:LL} (L:Lf (llq a.rs) T) {q:List Rat} (hq:ah L.pos (dE T q*dE T q)=ah L.pos (aq T (bb l a i j0 j))) {n:Int} (hm:an (dE T q)=n) :
  DetH l a ⟨3,[i],[z0,z1],0⟩ ⟨T,[m7 T (dg l a i j0 j) q],n⟩:=by
 have a0:ak l ⟨3,[i],[z0,z1],0⟩ 0=j0:=ao t0.hj;have a1:ak l ⟨3,[i],[z0,z1],0⟩ 1=j:=ao t1.hj;have b0:aI ⟨3,[i],[z0,z1],0⟩ 0=i:=rfl;obtain⟨n0,n1⟩:=hn j0 (mem_of_getElem? t0.hj);obtain⟨n2,n3⟩:=hn j (mem_of_getElem? t1.hj)
 obtain⟨tb,tn⟩:j.b=i/\j.a∉[i]:=by
  rcases t1.tie with⟨e,hb⟩ |h
  ·exact absurd e ha
  ·exact h
 obtain⟨w,hw⟩:∃w:P2 T,w=mF T q (dg l a i j0 j).h (dg l a i j0 j).d (dg l a i j0 j).w:=⟨_,rfl⟩
 obtain⟨o,ho⟩:∃o:P2 T,o=(aq T (aB l a j0 i).1,aq T (aB l a j0 i).2):=⟨_,rfl⟩
 obtain⟨B0,hB0⟩:∃B0,B0=gy (cq l i j) w (am l j0 i) o:=⟨_,rfl⟩
 have e0:m7 T (dg l a i j0 j) q=B0:=by rw[hB0,hw,ho];rfl
 rw[e0];have hbs:aZ (aJ a) [i] [B0]=(aJ a).set i.toNat B0:=rfl;have g0:(aZ (aJ a) [i] [B0]).getD i.toNat bj=B0:=by rw[hbs,lX hil]
 have gn:∀b:Int,0<=b->b∉[i]->cS (aJ a) (aZ (aJ a) [i] [B0]) (llq a.rs).length b:=fun b h0 hb=>oh tw hN (by
  rw[hbs,jN hi h0 (fun e=>hb (by simp[e]))])
 have hD:ah L.pos (aq T (b7 l a i j0 j))=ah L.pos (aq T (bS l a i j0 j).1)*ah L.pos (aq T (bS l a i j0 j).1)+ah L.pos (aq T (bS l a i j0 j).2)*ah L.pos (aq T (bS l a i j0 j).2):=by
  rw[<- L.mul,<- L.mul,<- L.add];rfl
 have hI:ah L.pos (iE (aq T (b7 l a i j0 j)))*ah L.pos (aq T (b7 l a i j0 j))=1:=vt L.pos (fun e=>hd ((L.zero _).1 e));have eh:dE T (dg l a i j0 j).h=qE (cc l i j0 j):=gE _ _;have x1:w.1=(dE T q*aq T (bS l a i j0 j).1-qE (cc l i j0 j)*-aq T (bS l a i j0 j).2)*iE (aq T (b7 l a i j0 j)):=by rw[hw,<- eh];rfl
 have x2:w.2=(dE T q*aq T (bS l a i j0 j).2-qE (cc l i j0 j)*aq T (bS l a i j0 j).1)*iE (aq T (b7 l a i j0 j)):=by rw[hw,<- eh];rfl
 have G:=PT hD hI (t:=ah L.pos (dE T q)) (hh:=ah L.pos (qE (cc l i j0 j))) (w1:=ah L.pos w.1) (w2:=ah L.pos w.2) (by rw[x1,bB,bP,bB,bB,B6]) (by rw[x2,bB,bP,bB,bB])
 have P0:=L.pp (l:=l) (bs:=aJ a) (bs':=aZ (aJ a) [i] [B0]) (j:=j0) (i:=i) (by
  rcases t0.tie with⟨e,hb⟩ |⟨e,hb⟩
  ·exact .inl ⟨e,gn _ n1 hb⟩
  ·exact .inr ⟨fun e2=>hb (by simp[e2]),e,gn _ n0 hb⟩)
 have hja:=gn _ n2 tn;have pp:=L.pt l hja j.point;have hr:=xa L (l:=l) (g:=⟨3,[i],[z0,z1],0⟩) (bs:=aJ a) (bs':=aZ (aJ a) [i] [B0]) (fun _=>by rw[a0,b0];exact P0) (fun h=>absurd h (by simp)) (fun h=>absurd h (by simp)) (fun _ _ _ pt=>by rw[a1];exact L.pt l hja pt)
 have W1:ah L.pos (aq T (bS l a i j0 j).1)=ah L.pos (aY l T (aZ (aJ a) [i] [B0]) j.a j.point).1-ah L.pos (pinP l T (aZ (aJ a) [i] [B0]) j0 i).1:=by
  rw[pp.1,P0.1,<- L.sub,<- fZ,<- kl];rfl
 have W2:ah L.pos (aq T (bS l a i j0 j).2)=ah L.pos (aY l T (aZ (aJ a) [i] [B0]) j.a j.point).2-ah L.pos (pinP l T (aZ (aJ a) [i] [B0]) j0 i).2:=by
  rw[pp.2,P0.2,<- L.sub,<- fZ,<- kl];rfl
 have eon:aY l T (aZ (aJ a) [i] [B0]) j.b j.on=cF T B0 (aS l i j.on):=by unfold aY;rw[tb,g0]
 have eto:aY l T (aZ (aJ a) [i] [B0]) j.b j.to=cF T B0 (aS l i j.to):=by unfold aY;rw[tb,g0]
 have gg:=zo (w:=w) hv;have v1:(qE (cq l i j).1:Et T)=qE ((aS l i j.to).1-(am l j0 i).1)-qE ((aS l i j.on).1-(am l j0 i).1):=by rw[<- ow];congr 1;show(aS l i j.to).1-(aS l i j.on).1=_;grind
 have v2:(qE (cq l i j).2:Et T)=qE ((aS l i j.to).2-(am l j0 i).2)-qE ((aS l i j.on).2-(am l j0 i).2):=by rw[<- ow];congr 1;show(aS l i j.to).2-(aS l i j.on).2=_;grind
 have d1:(cF T B0 (aS l i j.to)).1-(cF T B0 (aS l i j.on)).1=w.1:=by
  rw[hB0,mP,mP];dsimp only;have g1:=gg.1;rw[v1,v2]at g1;rw[<- g1];generalize dm (cq l i j) w=C;generalize dc (cq l i j) w=S;clear g1;grind
 have d2:(cF T B0 (aS l i j.to)).2-(cF T B0 (aS l i j.on)).2=w.2:=by
  rw[hB0,mP,mP];dsimp only;have g1:=gg.2;rw[v1,v2]at g1;rw[<- g1];generalize dm (cq l i j) w=C;generalize dc (cq l i j) w=S;clear g1;grind
 have hdt:ah L.pos (cK l T (aZ (aJ a) [i] [B0]) ⟨3,[i],[z0,z1],0⟩)=ah L.pos (dE T q):=by
  rw[SX rfl,a0,a1,b0,eon,eto];unfold dU dotE aQ;dsimp only;rw[d1,d2,fL,bB,bB,bP,bP,<- W1,<- W2];exact G
 have hx:fI l (llq a.rs) (aJ a) ⟨3,[i],[z0,z1],0⟩=bb l a i j0 j:=by
  rw[I6 rfl,a0,a1,b0,<- kl,<- fZ];rfl
 refine⟨L,?_,?_,?_⟩
 ·show an (cK l T (aZ (aJ a) [i] [B0]) _)=n;rw[<- hm];exact uv L.pos hdt
 ·refine Eq.trans ?_ (hr.trans (congrArg (fun z=>ah L.pos (aq T z)) hx)).symm;show ah L.pos (cK l T (aZ (aJ a) [i] [B0]) _*cK l T (aZ (aJ a) [i] [B0]) _)=_;rw[bB,hdt,<- bB];exact hq
 ·rw[yv];exact hr
theorem QS{i z0 z1:Int}{j0 j:Jt}(t0:TieO l 0 [i] z0 i j0)(t1:TieO l 1 [i] z1 i j)(ha:j.a≠i)(hi:0<=i)(hil:i.toNat<(aJ a).length)(hn:∀j∈l.jo,0<=j.a/\0<=j.b)(hv:bX (cq l i j) (cq l i j)≠0)
  {s:Sv} (hs:s∈jq l a i j0 j):DetH l a ⟨3,[i],[z0,z1],0⟩ s:=by
 unfold jq at hs;split at hs
 ·cases hs
 ·rename_i h1;split at hs
  ·cases hs
  ·rename_i h2;have hd:=tU tw h2 h1;split at hs
   ·rename_i h3;have hp:=qV tw.pos h3;have L:=qS (bb l a i j0 j) hp;have e:=qj (bb l a i j0 j);have s1:=xN (Hi tw.pos h3);unfold jI at hs;obtain⟨m,hm,rfl⟩:=List.mem_map.1 hs;have hm:=List.mem_range.1 hm;unfold iQ
    match m,hm with
    |0,_ =>
     refine AT tw hN t0 t1 ha hi hil hn hv hd L ?_ ?_
     ·show ah L.pos (ba (bb l a i j0 j)*ba (bb l a i j0 j))=_;rw[e];rfl
     ·exact s1
    |1,_ =>
     refine AT tw hN t0 t1 ha hi hil hn hv hd L ?_ ?_
     ·show ah L.pos (dE _ (sX (-ba (bb l a i j0 j)))*dE _ (sX (-ba (bb l a i j0 j))))=_;rw[dV,show -ba (bb l a i j0 j)*-ba (bb l a i j0 j)=ba (bb l a i j0 j)*ba (bb l a i j0 j) by grind,e];rfl
     ·show an (dE _ (sX (-ba (bb l a i j0 j))))=_;rw[dV,z5 hp,s1];rfl
    |m+2,h=>exact absurd h (by simp)
   ·rename_i h3;have hX:an (bb l a i j0 j) = 0:=by omega
    have L:=mC (ts:=llq a.rs) tw.pos;unfold jI at hs;obtain⟨m,hm,rfl⟩:=List.mem_map.1 hs;have hm:=List.mem_range.1 hm;unfold iQ;have e0:(dE (llq a.rs) []:Et (llq a.rs))=0:=by rw[E.zero_def];exact iR _
    match m,hm with
    |0,_ =>
     refine AT tw hN t0 t1 ha hi hil hn hv hd L ?_ ?_
     ·show ah L.pos (dE _ []*dE _ [])=_;rw[e0,cQ];refine((dO L.pos).2 ?_).trans ((dO L.pos).2 hX).symm;rw[show(0:Et (llq a.rs))*0=0 by grind];exact(dN _ _ L.pos).zero
     ·show an (dE _ [])=_;rw[e0];exact(dN _ _ L.pos).zero
    |m+1,h=>exact absurd h (by simp)
theorem M0{g:Gr}(hg:DyK l g)(hgb:∀b∈g.bo,0<=b/\b.toNat<(aJ a).length)(hli:aD l=0){x:Tn}{s:Sv}(hs:s∈dt l a g x):DetH l a g s:=by
 have hn:∀j∈l.jo,0<=j.a/\0<=j.b:=fun j hj=>by
  obtain⟨n,hn⟩:=getElem?_of_mem hj;obtain⟨i1,i2,_⟩:=cU hli hn;have i1:=cT i1;have i2:=cT i2;omega
 cases hg with
 | @drv b z d j dr t d0 hd hb =>
  have e:ak l ⟨0,[b],[z],d⟩ 0=j:=ao t.hj;have hs:s∈jw l a b j x:=by rw[<- e];exact hs
  unfold jw at hs;split at hs
  ·cases hs
  ·rw[List.mem_singleton.1 hs];have L:=mC (ts:=llq a.rs) tw.pos;have q1:(qE 1:Et (llq a.rs))=1:=rfl;refine⟨L,?_,?_,?_⟩
   ·show an (qE 1:Et (llq a.rs))=1;rw[q1];exact(dN _ _ tw.pos).one
   ·show ah L.pos ((qE 1:Et (llq a.rs))*qE 1)=ah L.pos (qE 1);rw[q1,show(1:Et (llq a.rs))*1=1 by grind]
   ·show ah L.pos (qE 1:Et (llq a.rs))=ah L.pos (aq (llq a.rs) (qE 1));rw[cQ]
 | @rrr i k z0 z1 z2 j0 j1 j2 ne t0 t1 h0 h2 kd tie =>
  have e0:ak l ⟨1,[i,k],[z0,z1,z2],0⟩ 0=j0:=ao t0.hj;have e1:ak l ⟨1,[i,k],[z0,z1,z2],0⟩ 1=j1:=ao t1.hj;have e2:ak l ⟨1,[i,k],[z0,z1,z2],0⟩ 2=j2:=ao h2;have hs:s∈je l a i k j0 j1 j2:=by rw[<- e0,<- e1,<- e2];exact hs
  obtain⟨b1,b2⟩:=hgb i (by simp);obtain⟨b3,b4⟩:=hgb k (by simp);exact M7 tw hN ne t0 t1 h2 b1 b3 b2 b4 hn hs
 | @pr i z0 z1 j0 j1 t0 t1 ha =>
  have e0:ak l ⟨2,[i],[z0,z1],0⟩ 0=j0:=ao t0.hj;have e1:ak l ⟨2,[i],[z0,z1],0⟩ 1=j1:=ao t1.hj;have hs:s∈jC l a i j0 j1:=by rw[<- e0,<- e1];exact hs
  obtain⟨b1,b2⟩:=hgb i (by simp);exact LO tw hN t0 t1 ha b1 b2 hn hs
 | @rp i z0 z1 j0 j1 t0 t1 ha =>
  have e0:ak l ⟨3,[i],[z0,z1],0⟩ 0=j0:=ao t0.hj;have e1:ak l ⟨3,[i],[z0,z1],0⟩ 1=j1:=ao t1.hj;have hs:s∈jq l a i j0 j1:=by rw[<- e0,<- e1];exact hs
  obtain⟨b1,b2⟩:=hgb i (by simp)
  have tb:j1.b=i:=by
   rcases t1.tie with⟨e,_⟩ |⟨e,_⟩
   ·exact absurd e ha
   ·exact e
  exact QS tw hN t0 t1 ha b1 b2 hn (xf hli t1.hj (by rw[t1.kd];decide) tb) hs
end
def oB(l:Li)(a:Aq):Prop:=∀m g,m<a.ms.length->(splitG l)[m]?=some g->an (cK l a.ts a.bs g)=a.ms.getD m 0/\an (oa g.kind (cK l a.ts a.bs g)-fI l a.ts a.bs g)=0
section
variable{l:Li}{xs:List Tn}{s g:Nat}(W:WkC l xs s g){gr:Gr}{a:Aq}(hg:(splitG l)[a.ms.length]?=some gr)
variable{j r E:Nat}(Q:QInv l j r E a)
include W hg Q
theorem QInv.sam(ps:List Pq):∀m g2,m<a.ms.length->(splitG l)[m]?=some g2->∀b:Int,0<=b->(b∈g2.bo\/kn (fx l (splitG l) m) b=true)->cS a.bs (aZ a.bs gr.bo ps) a.ts.length b:=by
 obtain⟨dy,ok⟩:=W.grp hg;have N:=vS W.li W.sp hg;have hN':∀i,Nq a.ts.length (a.bs.getD i bj):=fun i=>xB (fun p hp=>(Q.bs p hp).nq) i
 have mono:∀(k m:Nat),m+k<=a.ms.length->∀b:Int,0<=b->kn (fx l (splitG l) m) b=true->kn (fx l (splitG l) (m+k)) b=true:=by
  intro k
  induction k with
  |zero=>intro m _ b _ h;exact h
  |succ k ih =>
   intro m hm b h0 h;have h1:=ih m oz b h0 h;have hlt:m+k<(splitG l).length:=by have:=(List.getElem?_eq_some_iff.1 hg).1;omega
   obtain⟨g2,hg2⟩:=aw hlt;rw[show m+(k+1)=(m+k)+1 by omega,tR hg2 (W.grp hg2).2 h0,h1];simp
 intro m g2 hm hg2 b h0 hb
 have h1:kn (fx l (splitG l) (m+1)) b=true:=by
  rw[tR hg2 (W.grp hg2).2 h0];rcases hb with hb |hb
  ·have : g2.bo.any (fun x => decide (x = b)) = true := by rw [List.any_eq_true]; exact ⟨b, hb, by simp⟩
   rw[this];rfl
  ·rw[hb];simp
 have h2:=mono (a.ms.length-(m+1)) (m+1) oz b h0 h1;rw[show m+1+(a.ms.length-(m+1))=a.ms.length by omega]at h2;have hb2:b∉gr.bo:=fun hb=>by rw[N.b b hb]at h2;cases h2
 exact⟨FI (fun x hx=>(ok.b x hx).1) hb2 h0,hN' _⟩
theorem oB.step(H:oB l a){sv:Sv}(hs:sv∈dt l a.as gr (bV gr xs)):oB l (a.nxt gr sv):=by
 have tw:=QInv.twl W hg Q;have hq:(Lw.llq a.as.rs)=a.ts:=a.llq;obtain⟨dy,ok⟩:=W.grp hg
 have hN:∀p∈aJ a.as,Nq (Lw.llq a.as.rs).length p:=by
  intro p hp;rw[mL]at hp;rw[hq];exact(Q.bs p hp).nq
 have D:=M0 tw hN dy (fun b hb=>by
  rw[mL];have:=ok.b b hb;have:=Q.ln;omega) W.li hs
 have L:Lf a.ts sv.ts:=BU hq D.lf;have hsg:=D.sg;have hsq:=D.sq;rw[mL]at hsg hsq;have hml:(a.nxt gr sv).ms.length=a.ms.length+1:=by show(a.ms++[sv.mode]).length=_;simp
 intro m g2 hm hg2;rw[hml]at hm;show an (cK l sv.ts (aZ a.bs gr.bo sv.ps) g2)=(a.ms++[sv.mode]).getD m 0/\an (oa g2.kind (cK l sv.ts (aZ a.bs gr.bo sv.ps) g2)-fI l sv.ts (aZ a.bs gr.bo sv.ps) g2)=0
 by_cases e:m=a.ms.length
 ·subst e;rw[hg]at hg2;cases hg2;rw[getD_eq_getElem?_getD,getElem?_append_right (le_refl _),Nat.sub_self];exact⟨hsg,(jF D.lf.pos).1 hsq⟩
 ·have hlt : m < a.ms.length := by omega
  have S:=QInv.sam W hg Q sv.ps m g2 hlt hg2;obtain⟨h1,h2⟩:=H m g2 hlt hg2;have N2:=vS W.li W.sp hg2;obtain⟨dy2,ok2⟩:=W.grp hg2
  have jn:∀{z:Int}{jt:Jt},z∈g2.jo->l.jo[z.toNat]?=some jt->cS a.bs (aZ a.bs gr.bo sv.ps) a.ts.length jt.a/\cS a.bs (aZ a.bs gr.bo sv.ps) a.ts.length jt.b:=fun hz hj=>by
   obtain⟨i1,i2,_⟩:=cU W.li hj;have i1:=cT i1;have i2:=cT i2;obtain⟨na,nb⟩:=N2.j _ hz _ hj;exact⟨S _ i1.1 na,S _ i2.1 nb⟩
  have A:(g2.kind≠0->cS a.bs (aZ a.bs gr.bo sv.ps) a.ts.length (ak l g2 0).a/\cS a.bs (aZ a.bs gr.bo sv.ps) a.ts.length (ak l g2 0).b)/\(g2.kind≠0->cS a.bs (aZ a.bs gr.bo sv.ps) a.ts.length (ak l g2 1).a/\cS a.bs (aZ a.bs gr.bo sv.ps) a.ts.length (ak l g2 1).b) /\
    (g2.kind≠0->cS a.bs (aZ a.bs gr.bo sv.ps) a.ts.length (aI g2 0)):=by
   have own:∀b∈g2.bo,cS a.bs (aZ a.bs gr.bo sv.ps) a.ts.length b:=fun b hb=>S b (ok2.b b hb).1 (.inl hb)
   cases dy2 with
   | @drv b z d jt dr t d0 hd hb=>exact⟨fun h=>absurd rfl h,fun h=>absurd rfl h,fun h=>absurd rfl h⟩
   | @rrr i k z0 z1 z2 j0 j1 j2 ne t0 t1 h0 h2 kd tie =>
    have e0:ak l ⟨1,[i,k],[z0,z1,z2],0⟩ 0=j0:=ao t0.hj;have e1:ak l ⟨1,[i,k],[z0,z1,z2],0⟩ 1=j1:=ao t1.hj;rw[e0,e1];exact⟨fun _=>jn (by simp) t0.hj,fun _=>jn (by simp) t1.hj,fun _=>own _ (by simp[aI])⟩
   | @pr i z0 z1 j0 j1 t0 t1 ha =>
    have e0:ak l ⟨2,[i],[z0,z1],0⟩ 0=j0:=ao t0.hj;have e1:ak l ⟨2,[i],[z0,z1],0⟩ 1=j1:=ao t1.hj;rw[e0,e1];exact⟨fun _=>jn (by simp) t0.hj,fun _=>jn (by simp) t1.hj,fun _=>own _ (by simp[aI])⟩
   | @rp i z0 z1 j0 j1 t0 t1 ha =>
    have e0:ak l ⟨3,[i],[z0,z1],0⟩ 0=j0:=ao t0.hj;have e1:ak l ⟨3,[i],[z0,z1],0⟩ 1=j1:=ao t1.hj;rw[e0,e1];exact⟨fun _=>jn (by simp) t0.hj,fun _=>jn (by simp) t1.hj,fun _=>own _ (by simp[aI])⟩
  have zd:=JV L (l:=l) (g:=g2) A.1 A.2.1 A.2.2;have zr:=xa L (l:=l) (g:=g2) (fun h=>L.pinP _ (A.1 h).1 (A.1 h).2) (fun h=>L.pinP _ (A.2.1 oz).1 (A.2.1 oz).2) (fun h pt=>L.pt l (A.2.1 oz).2 pt) (fun h _ _ pt=>L.pt l (A.2.1 h).1 pt);refine⟨?_,?_⟩
  ·rw[uv L.pos zd,L.sg,h1,getD_eq_getElem?_getD,getD_eq_getElem?_getD,getElem?_append_left hlt]
  ·refine(jF L.pos).1 ?_;rw[Kr L zd,zr];have h3:=(dO L.pos).2 ((L.zero _).2 h2);rw[L.sub]at h3
   revert h3
   generalize ah L.pos (aq sv.ts (oa g2.kind (cK l a.ts a.bs g2)))=u;generalize ah L.pos (aq sv.ts (fI l a.ts a.bs g2))=v;intro h3;grind
end
theorem C2{l:Li}{xs:List Tn}{s g:Nat}(W:WkC l xs s g){F:Nat->Int->Bool}{sg:Bool}:∀(n:Nat)(a:Aq),WkSt l s g n a->oB l a->∀b∈(eI F sg l xs (splitG l) n a).1,WkSt l s g 0 b/\oB l b
 |0,a,h,H,b,hb=>by rw[List.mem_singleton.1 hb];exact⟨h,H⟩
 |n+1,a,h,H,b,hb=>by
  obtain⟨gr,hg,_,hP,hn⟩:=h.next W;obtain⟨⟨j,r,E,y,Q,ok,hc⟩,hl⟩:=h;unfold eI at hb;rw[ao hg]at hb;split at hb
  ·cases hb
  ·obtain⟨sv,hsv,h2⟩:=Gg hb;exact C2 W n _ (hn sv hsv) (oB.step W hg Q H hsv) b h2
structure AqMd(l:Li)(a:Aq):Prop where
  sp:splitE l=0
  ml:a.ms.length=(splitG l).length
  md:oB l a
theorem UK{l:Li}(hl:l.ok){xs:List Tn}(hL:iO l xs=true)(hxw:∀x∈xs,x.t.wok){A:List Aq}{e:Nat}(h:g9 l xs=(A,e)):∀a∈A,AqMd l a:=by
 by_cases h0:cH l xs=0
 ·obtain⟨s,g,W,St⟩:=wd hL hl hxw h0;have hw:=C2 W (F:=eT) (sg:=false) (splitG l).length (eL l) St (fun m g h=>absurd h (Nat.not_lt_zero _));unfold g9 at h;rw[if_neg (fun h=>h h0)]at h;intro a ha;split at h
  ·cases h;cases ha
  ·have e1:(kf eT false l xs).1=A:=congrArg Prod.fst h;rw[<- e1]at ha;obtain⟨h1,h2⟩:=hw a ha;obtain⟨_,hl⟩:=h1;exact⟨W.sp,by omega,h2⟩
 ·unfold g9 at h;rw[if_pos h0]at h;cases h;intro a ha;cases ha
end Go.Lw
namespace Go.Lw
def gL(s:ByteArray)(n:Int):Bd:=⟨s,[⟨⟨#[97]⟩,rt ((0:Int):Rat),rt ((0:Int):Rat)⟩,⟨⟨#[98]⟩,rt (n:Rat),rt ((0:Int):Rat)⟩]⟩
def fb:Li:=⟨⟨#[102,111,117,114,98,97,114]⟩,[gL ⟨#[102,114,97,109,101]⟩ 4,gL ⟨#[99,114,97,110,107]⟩ 3,gL ⟨#[99,111,117,112,108,101,114]⟩ 5,gL ⟨#[114,111,99,107,101,114]⟩ 6],
  [⟨⟨#[111]⟩,0,1,0,0,0,0⟩,⟨⟨#[112]⟩,0,2,0,1,1,0⟩,⟨⟨#[113]⟩,0,3,0,0,1,0⟩,⟨⟨#[114]⟩,0,2,1,3,1,0⟩],[⟨⟨#[100]⟩,1⟩]⟩
def t0:Tn:=⟨⟨false,[],[]⟩,false⟩
theorem yA(a b:ByteArray):dL a b=(a.data.toList==b.data.toList):=by
 unfold dL;rw[Go.ByteArray.toList_eq,Go.ByteArray.toList_eq]
theorem vI:aD fb=0:=by
 have h1:gN fb=0:=by
  unfold gN e8 d7 gw d9;simp only[yA];decide +kernel
 have h2:eF fb=0:=by
  unfold eF e8 fO gw;simp only[yA];decide +kernel
 have h3:fV fb=0:=by
  unfold fV e8 dY gw;simp only[yA];decide +kernel
 unfold aD;rw[h1,h2,h3];decide +kernel
theorem Ov{s:ByteArray}(hs:s.size<=281474976710656){n:Int}(hn:-9223372036854775808<=n/\n<=9223372036854775807) :
  (gL s n).name.size<=281474976710656/\(gL s n).pts.length<=281474976710656/\∀m∈(gL s n).pts,m.name.size<=281474976710656/\m.x.wok/\m.y.wok:=by
 have h0:(rt ((0:Int):Rat)).ok:=(tp oz).ok;have h1:(rt (n:Rat)).ok:=(tp hn).ok;refine⟨hs,by show 2<=_;omega,fun m hm=>?_⟩;simp only[gL,mem_cons,not_mem_nil,or_false]at hm;rcases hm with rfl |rfl
 ·exact⟨by show 1<=_;omega,h0.wok,h0.wok⟩
 ·exact⟨by show 1<=_;omega,h1.wok,h0.wok⟩
theorem PX:fb.okw:=by
 refine⟨by decide,fun b hb=>?_,fun j hj=>?_,fun d hd=>?_,by decide,by decide,by decide⟩
 ·simp only[fb,mem_cons,not_mem_nil,or_false]at hb;rcases hb with rfl |rfl |rfl |rfl <;> exact Ov (by decide) oz
 ·simp only[fb,mem_cons,not_mem_nil,or_false]at hj;rcases hj with rfl |rfl |rfl |rfl <;> decide
 ·simp only[fb,mem_cons,not_mem_nil,or_false]at hd;rcases hd with rfl;decide
theorem rQ:fb.ok:=vj (by decide +kernel) PX
open Go.Proofs
theorem kt.ofL{l l':List AV}(h:SubL l l')(ho:l'.all AV.one=true):kt (.agg l) (.agg l') :=
 ⟨h.len,fun j x y hx hy=>⟨List.all_eq_true.1 ho y (mem_of_getElem? hy),h.get j x y hx hy⟩⟩
theorem Dt(s:ByteArray)(x y:Int)(hx:-9223372036854775808<=x/\x<=9223372036854775807)(hy:-9223372036854775808<=y/\y<=9223372036854775807):FP 243 [.v (.string s),i64 x,i64 y] (Mk.av ⟨s,rt (x:Rat),rt (y:Rat)⟩):=by
 refine aj func243 ?_;refine gc (FQ x hx) ?_;refine gc (FQ y hy) ?_;refine af ?_
 first |rfl |(simp;done)
theorem wU(s:ByteArray)(n:Int)(hn:-9223372036854775808<=n/\n<=9223372036854775807):FP 131 [.v (.string s),i64 n] (gL s n).av:=by
 refine aj func131 ?_;refine gc (Dt _ 0 0 oz oz) ?_;refine gc (Dt _ n 0 hn oz) ?_;refine af ?_
 first |rfl |(simp;done)
theorem Sx:FP 54 [] fb.av:=by
 refine aj func54 ?_;refine gc (wU _ 4 oz) ?_;refine gc (wU _ 3 oz) ?_;refine gc (wU _ 5 oz) ?_;refine gc (wU _ 6 oz) ?_;refine af ?_
 first |rfl |(simp;done)
deriving instance DecidableEq for Pq
deriving instance DecidableEq for Aq
def Sw:List Aq×Nat:=kf eT false fb [dQ]
theorem Tc:cH fb [dQ]=0:=by
 unfold cH tt;rw[if_neg (by rw[vI];decide),if_neg (show ¬splitE fb≠0 by decide +kernel),if_neg (show ¬[dQ].length≠fb.dv.length by decide +kernel)];decide +kernel
def aF:Aq:=⟨[],[⟨[1],[],[],[]⟩,⟨[1],[],[],[]⟩,⟨[-1],[],[3],[]⟩,⟨[-1],[],[4],[]⟩],[1,0]⟩
theorem Ul:Sw=([aF],0):=by decide +kernel
theorem uB:WkC fb [dQ] 32 134:=by
 have z:dQ.t.q=0:=by decide +kernel
 have h0:Qb 32 dQ.t.q:=by rw[z];exact Qb.zero.mono oz
 refine⟨rQ,vI,by decide +kernel,?_,rfl,fun x hx=>?_⟩
 ·have h : ∀ b ∈ fb.bo, ∀ m ∈ b.pts, (m.x.q.num.natAbs < 2 ^ 32 /\ m.x.q.den < 2 ^ 32) /\ (m.y.q.num.natAbs < 2 ^ 32 /\ m.y.q.den < 2 ^ 32) := by decide +kernel
  exact h
 ·rw[List.mem_singleton.1 hx];exact⟨AW,by decide +kernel,Gs,Cb.one (qY h0),Cb.one (tQ h0)⟩
theorem E7:WkSt fb 32 134 (splitG fb).length (eL fb):=by
 refine⟨⟨0,0,2,1,Cn fb,vo Di ?_ (le_refl _),?_⟩,Nat.zero_add _⟩
 ·decide +kernel
 ·decide +kernel
theorem CS:Sub (.lst 4 [.agg [.v (.bool false),nS,nS,.v (.bool false)]]) (.lst 4 [dQ.av]) :=
 Sub.lst rfl (fun i x y hx hy=>by
  match i,hx,hy with
  |0,hx,hy=>cases hx;cases hy;exact .ofL (.cons (.refl _) (.cons (.nil _ _ _) (.cons (.nil _ _ _) (.cons (.refl _) .nil)))) rfl)
theorem wL{ts:LL}{r:Nat}(hr:r<=400000000)(h2:ts.length<=2):kB r ts.length<=1200000006:=by
 have h:=ip r h2;have h3:eB r 2=3*r+6:=by simp only[eB];omega
 show eB r ts.length<=_;omega
theorem m9{ts:LL}(h2:ts.length<=2):lm ts.length=200000000000:=by unfold lm;rw[if_pos h2]
section
variable{l:Li}{xs:List Tn}{a:Aq}(F:AqFin l xs a)
include F
end
theorem PB{l:Li}{xs:List Tn}{A:List Aq}{e:Nat}(h:g9 l xs=(A,e))(he:e≠0):A=[]:=by
 unfold g9 at h;split at h
 ·exact(congrArg Prod.fst h).symm
 ·split at h
  ·exact(congrArg Prod.fst h).symm
  ·rename_i h1 h2;exact absurd (congrArg Prod.snd h) (fun h9=>h2 (by rw[h9];exact he))
theorem KO{l:Li}{xs:List Tn}{A:List Aq}{e:Nat}(h:g9 l xs=(A,e))(he:e=0):cH l xs=0:=by
 unfold g9 at h;split at h
 ·rename_i h1;exact absurd ((congrArg Prod.snd h).trans he) h1
 ·rename_i h1;exact Decidable.not_not.1 h1
structure AsmS(l:Li)(xs:List Tn)(A:List Aq)(e:Nat):Prop where
  eq:g9 l xs=(A,e)
  all:FP 33 [l.av,.lst 4 (xs.map Tn.av)] (.tup [.lst 3 (A.map Aq.av),br e])
  ln:A.length<=1000
theorem Mp{l:Li}(hl:l.ok){xs:List Tn}(hL:iO l xs=true)(hxw:∀x∈xs,x.t.wok):∃A e,AsmS l xs A e:=by
 obtain⟨_,hx20,hxo⟩:=z8 hL hxw;have hop:=Gf l hl xs hxo oz
 by_cases h0:cH l xs=0
 ·obtain ⟨s, g, W, St⟩:=wd hL hl hxw h0;have hsl:=sM W.li;have hlb:=(cV W.li).2.2.2;have hp:2 ^ (splitG l).length <= 256:=le_trans (cI (b:=8) oz) (by decide);have hw:=Ad W eT false (fo:=198) (caps:=[]) (fun k m _=>IV k m) (splitG l).length (eL l) St [] (by simp only [length_nil]; omega);have hA:=OP h0 hop oz oz (R:=kf eT false l xs) hw;have hlen:=Az W eT false (splitG l).length (eL l) St;refine ⟨_,_,⟨?_,hA,?_⟩⟩
  ·unfold g9;rw[if_neg (fun h=>h h0)]
   by_cases hE:(kf eT false l xs).2≠0
   ·rw[if_pos hE,if_pos hE]
   ·rw[if_neg hE,if_neg hE]
  ·split
   ·exact zero_le _
   ·exact le_trans hlen oz
 ·have hA:=QZ h0 hop;refine⟨[],cH l xs,⟨?_,hA,zero_le _⟩⟩;unfold g9;rw[if_pos h0]
theorem R9{p:Bool}{e:Nat}(h:cond (cond (!true) true (!p)) true (aa .neq (e:Int) 0)=false):p=true/\e=0:=by
 cases p
 ·simp at h
 ·exact⟨rfl,o6 h⟩
theorem s7{ts:LL}{r e f:Nat}(tw:Tw ts r){x:List Rat}(hx:Nm ts.length e x){v:Rat}(hv:Qb f v)(he:e+2*f+1<=lm ts.length)(hf:f<=9000) :
  FP 308 [aV ts,nA x,qA v] (bl (gU ts (ae ts.length x) (ae ts.length (sh 0 (v:Rat))))):=by
 have hlm:=ki ts.length;refine aj func308 ?_;refine gc (lY (hv.qs oz)) ?_;refine gc (Be tw hx (Kn tw.five hv) oz) ?_;refine gD ?_;refine af ?_;exact congrArg bl (E2 _)
theorem MU{ts:LL}{r e:Nat}(tw:Tw ts r){x:List Rat}(hx:Nm ts.length e x)(he:e<=lm ts.length):FP 307 [aV ts,nA x] (bl true):=by
 have h:=KE (ts.map (List.map rt)) r tw.tr (x.map rt) e (hx.rt he)
 have e0:bN (ts.map (List.map rt)) [x.map rt]=0:=by
  unfold bN;rw[if_neg (by rw[tw.chk];simp),length_map];exact qD (fun y hy=>by rw[List.mem_singleton.1 hy];exact oI hx.nl)
 rw[e0,jV,fh]at h;exact h
theorem Vv{ts:LL}{r:Nat}(tw:Tw ts r):FP 144 [aV ts] (br 0):=by
 have h:=qT (ts.map (List.map rt)) r tw.tr;rw[tw.chk,jV]at h;exact h
structure AqS(l:Li)(a:Aq):Prop where
  li:aD l=0
  tw:∃r,r<=400000000/\Tw a.ts r
  two:a.ts.length<=2
  bs:∀p∈a.bs,Pq.ok a.ts.length 3200000000 p
  ln:a.bs.length=l.bo.length
theorem AqFin.s{l:Li}{xs:List Tn}{a:Aq}(F:AqFin l xs a):AqS l a:=⟨F.li,F.tw,F.two,F.bs,F.ln⟩
theorem Bl{l:Li}{a:Aq}(F:AqS l a)(hl:l.ok){body pt:Int}(h1:bA body l.bo.length=true)(h2:bA pt (cJ l body).length=true) :
  Nm a.ts.length 12100000000 (sX (aY l a.ts a.bs body pt).1)/\Nm a.ts.length 12100000000 (sX (aY l a.ts a.bs body pt).2):=by
 obtain⟨n,k,bd,m,h⟩:=qv hl F.li h1 h2;obtain⟨r,hr,tw⟩:=F.tw;have hk:=wL hr F.two;obtain⟨p,hp⟩:=aw (l:=a.bs) (i:=n) (by rw[F.ln];exact(List.getElem?_eq_some_iff.1 h.gbd).1);have po:=F.bs p (mem_of_getElem? hp);have e:body.toNat=n:=by have:=h.hn;omega
 have hb:Pq.ok a.ts.length 3200000000 ⟨lq p.pl.c,lq p.pl.s,lq p.pl.x,lq p.pl.y⟩:=by
  unfold Pq.pl;dsimp only;rw[en,en,en,en];exact po
 have hq:=C8 tw hb h.sm;unfold Pq.pl at hq;dsimp only[fK]at hq;rw[en,en,en,en]at hq;unfold aY;rw[e,ao hp];exact⟨hq.1.mono oz,hq.2.mono oz⟩
def tc(ts:LL)(p:Pq):Bool:=gU ts (n6 ts (ae ts.length p.c) (ae ts.length p.s) (ae ts.length p.c) (ae ts.length p.s)) (T.ofQ ts.length 1)
def qL(ts:LL)(p:Pq):Bool:=gU ts (ae ts.length p.c) (T.ofQ ts.length 1)&&gU ts (ae ts.length p.s) (T.ofQ ts.length 0)&&gU ts (ae ts.length p.x) (T.ofQ ts.length 0)&&gU ts (ae ts.length p.y) (T.ofQ ts.length 0)
def mc(l:Li)(a:Aq)(j:Jt):Bool :=
  if j.kind=0 then decide (T.sgn (ax a.ts) a.ts.length (subT a.ts (aY l a.ts a.bs j.a j.point).1 (aY l a.ts a.bs j.b j.on).1)=0/\T.sgn (ax a.ts) a.ts.length (subT a.ts (aY l a.ts a.bs j.a j.point).2 (aY l a.ts a.bs j.b j.on).2)=0)
  else decide (T.sgn (ax a.ts) a.ts.length (rO a.ts (aY l a.ts a.bs j.b j.on).1 (aY l a.ts a.bs j.b j.on).2 (aY l a.ts a.bs j.b j.to).1 (aY l a.ts a.bs j.b j.to).2 (aY l a.ts a.bs j.a j.point).1 (aY l a.ts a.bs j.a j.point).2)=0)
theorem Qh{ts:LL}{p:Pq}(h:CH ts p):tc ts p=true:=decide_eq_true h
theorem Kg(ts:LL):qL ts kg=true:=by
 unfold qL kg;dsimp only;rw[lA,iR,T.ofQ_zero,wS,wS];rfl
theorem P4{l:Li}{a:Aq}{j:Jt}(h:JH l a.ts a.bs j):mc l a j=true:=by
 unfold JH at h;unfold mc;split
 ·rename_i hk;rw[if_pos hk]at h;exact decide_eq_true h
 ·rename_i hk;rw[if_neg hk]at h;exact decide_eq_true h
def Pq.l(p:Pq):LL:=[p.c,p.s,p.x,p.y]
theorem Pq.ok.mem{n e:Nat}{p:Pq}(h:Pq.ok n e p):∀x∈p.l,Nm n e x:=by
 intro x hx;simp only[Pq.l,mem_cons,not_mem_nil,or_false]at hx;rcases hx with rfl |rfl |rfl |rfl
 ·exact h.c
 ·exact h.s
 ·exact h.x
 ·exact h.y
theorem OO{ts:LL}{r e:Nat}(tw:Tw ts r){p:Pq}(hp:Pq.ok ts.length e p)(he:e+1000<=lm ts.length):FP 213 [aV ts,p.av] (bl (qL ts p)):=by
 have hlm:=ki ts.length
 have h1:FP 308 [aV ts,nA p.c,qA ((1:Int):Rat)] (bl (gU ts (ae ts.length p.c) (T.ofQ ts.length 1))):=by
  have h:=s7 tw hp.c Qb.one oz oz;rw[gE]at h;exact h
 have h0:∀x:List Rat,Nm ts.length e x->FP 308 [aV ts,nA x,.agg [.v (.bool false),nS,nS]] (bl (gU ts (ae ts.length x) (T.ofQ ts.length 0))):=fun x hx=>by
  have h:=s7 tw hx Qb.zero oz oz;rw[gE]at h;exact Con.sA (.cons (.refl _) (.cons (.refl _) (.cons jp .nil))) h
 refine aj func213 ?_;refine gc (kv 1 oz) ?_;refine gc h1 ?_;refine bR (fun _=>(h0 _ hp.s)) ?_;refine bR (fun _=>(h0 _ hp.x)) ?_;refine bR (fun _=>(h0 _ hp.y)) ?_;refine gD ?_;refine af ?_;exact congrArg bl (JR _ _ _ _)
theorem Rb{l:Li}{a:Aq}(F:AqS l a){p:Pq}(hpm:p∈a.bs):FP 212 [aV a.ts,p.av] (bl (tc a.ts p)):=by
 obtain⟨r,hr,tw⟩:=F.tw;have hkb:=wL hr F.two;have hlm:=m9 F.two;have hp:=F.bs p hpm;refine aj func212 ?_;refine ge rfl ?_;refine aU [2,3,18,19] [2,3] (fun(k:Nat)=>[(20,some (i64 k))]) (fun _=>[]) (fun k=>k<=4) (fun k=>4-k) 0 (zero_le _) ?_;rintro k hk K1 J1;refine gC (fun t21=>?_) (fun t21=>?_)
 ·have hkn:k<4:=a5 (b:=4) t21;obtain⟨x,hx⟩:∃x,p.l[k]?=some x:=aw (l:=p.l) hkn;refine gi (aA hx) ?_;refine gc (MU tw (hp.mem x (mem_of_getElem? hx)) oz) ?_;refine gC (fun t27=>?_) (fun t27=>?_) (st1:=(5,0));cases t27;refine ga aN ?_;exact aP J1 (k+1) hkn
 have hdn:=xn tw hp.c hp.s hp.c hp.s;have hdot:=ry tw hp.c hp.s hp.c hp.s oz;have heq:=s7 tw hdn Qb.one oz oz;rw[bn,gE]at heq;refine gc hdot ?_;refine bR (fun _=>(kv 1 oz)) ?_;refine bR (fun _=>heq) ?_;refine gD ?_;refine af ?_;rfl
def vE(ts:LL)(p:Pq)(x:Tn):Bool:=gU ts (ae ts.length p.c) (ae ts.length (sh 0 (dM x.half x.t.q:Rat)))&&gU ts (ae ts.length p.s) (ae ts.length (sh 0 (dH x.half x.t.q:Rat)))
theorem Lp{ts:LL}{r e:Nat}(tw:Tw ts r){p:Pq}(hp:Pq.ok ts.length e p)(hle:e+20000<=lm ts.length){x:Tn}(hx:x.t.ok)(he:x.err=0)(hq:Qb 1000 x.t.q) :
  FP 219 [aV ts,p.av,x.av] (bl (vE ts p x)):=by
 have hc:=zy x hx hq oz;rw[if_pos he,he]at hc;have hs:=IS x hx hq oz;rw[if_pos he,he]at hs;refine aj func219 ?_;refine gc hc ?_;refine gC (fun t16=>?_) (fun t16=>?_) (st1:=(3,0));cases t16;refine gc hs ?_;refine bR (fun _=>(s7 tw hp.c (UQ x.half hq) oz oz)) ?_;refine bR (fun _=>(s7 tw hp.s (NB x.half hq) oz oz)) ?_;refine af ?_;exact congrArg bl (iz _ _)
theorem AH{l:Li}(hl:l.ok){a:Aq}(F:AqS l a){body pt:Int}(h1:bA body l.bo.length=true)(h2:bA pt (cJ l body).length=true) :
  FP 309 [l.av,a.av,i64 body,i64 pt] (.tup [aM (sX (aY l a.ts a.bs body pt).1) (sX (aY l a.ts a.bs body pt).2),.v .nilIface]):=by
 obtain⟨n,k,bd,m,h⟩:=qv hl F.li h1 h2;obtain⟨r,hr,tw⟩:=F.tw;have hkb:=wL hr F.two;have hlm:=m9 F.two;have hlb:=(cV F.li).2.2.2.1;obtain⟨p,hp⟩:=aw (l:=a.bs) (i:=n) (by rw[F.ln];exact(List.getElem?_eq_some_iff.1 h.gbd).1);have po:=F.bs p (mem_of_getElem? hp);have hn:=h.hn;have hk:=h.hk
 have e:aY l a.ts a.bs body pt=cF a.ts p (aS l body pt):=by
  unfold aY;rw[hn,toNat_natCast,ao hp]
 have hat:FP 89 [aV a.ts,p.av,m.x.av,m.y.av] (.tup [aM (sX (aY l a.ts a.bs body pt).1) (sX (aY l a.ts a.bs body pt).2),.v .nilIface]):=by
  rw[h.ex,h.ey,e];exact Bm tw po.c po.s po.x po.y (h.sm.x.mono oz) (h.sm.y.mono oz) oz
 have gb:=h.gbd;have gm:=h.gm;clear h h1 h2 e;subst hn;subst hk;refine aj func309 ?_;refine gi (aA gb) ?_;refine gi (aA gm) ?_;refine gi (aA hp) ?_;refine gc hat ?_;refine gD ?_;refine bF ?_
 first |rfl |(simp;done)
theorem Q4{l:Li}(hl:l.ok){a:Aq}(F:AqS l a){i:Nat}{j:Jt}(hj:l.jo[i]?=some j):FP 216 [l.av,a.av,j.av] (bl (mc l a j)):=by
 obtain⟨r,hr,tw⟩:=F.tw;have hkb:=wL hr F.two;have hlm:=m9 F.two;obtain⟨i1,i2,i3,i4,i5⟩:=cU F.li hj;have np:=Bl F hl i1 i3;have nq:=Bl F hl i2 i4;have ed:∀y:Et a.ts,ae a.ts.length (sX y)=y:=fun y=>bn _ _
 refine aj func216 ?_;refine gc (AH hl F i1 i3) ?_;refine gC (fun t25=>?_) (fun t25=>?_) (st1:=(3,0));cases t25;refine gc (AH hl F i2 i4) ?_;refine gC (fun t37=>?_) (fun t37=>?_) (st1:=(6,0));cases t37;refine gC (fun t40=>?_) (fun t40=>?_)
 ·have hk:j.kind=0:=cP t40;have hsame:=Lv tw np.1 np.2 nq.1 nq.2 oz;rw[ed,ed,ed,ed]at hsame;refine gc hsame ?_;refine af ?_;unfold mc;rw[if_pos hk];rfl
 have hk:j.kind≠0:=dA t40;have nr:=Bl F hl i2 (i5 hk);have hor:=I3 tw nq.1 nq.2 nr.1 nr.2 np.1 np.2 oz;rw[ed,ed,ed,ed,ed,ed]at hor;refine gc (AH hl F i2 (i5 hk)) ?_;refine gC (fun t65=>?_) (fun t65=>?_) (st1:=(12,0));cases t65;refine gc hor ?_;refine af ?_;unfold mc;rw[if_neg hk];exact congrArg bl (E2 _)
theorem Ra(bs:List Pq)(hl:bs.length<=281474976710656)(f:FuncId)(c:List AV)(ok:Nat->Bool)
  (hf:∀(i:Nat)(b:Pq),bs[i]?=some b->(∀j,j<i->ok j=true)->FP f ([i64 i,b.av]++[.iptr c]) (bl (!ok i))) :
  FP 210 [.lst 4 (bs.map Pq.av),.fn f [.iptr c]] (i64 (jr (cC bs.length ok))):=by
 refine aj func210 ?_;refine gl ?_;refine aU [1,7,8] [] (fun(i:Nat)=>[(9,some (i64 i))]) (fun _=>[]) (fun i=>i<=bs.length/\∀j,j<i->ok j=true) (fun i=>bs.length-i) 0 ⟨zero_le _,fun j h=>by omega⟩ ?_;rintro i ⟨hi,hj⟩ K1 J1;refine gC (fun t10=>?_) (fun t10=>?_)
 ·have hin:=a5 t10;obtain⟨b,hb⟩:=aw hin;refine gi (aA hb) ?_;refine gs (wh (.tmp rfl) (hf i b hb hj) (bC rfl rfl) aH rfl rfl) ?_;refine gC (fun t17=>?_) (fun t17=>?_)
  ·have h2:=db t17;refine af ?_;rw[gG hin hj h2];rfl
  have h2:=da t17;refine ga aN ?_;exact aP J1 (i+1) ⟨hin,fun j h9=>by rcases lt_or_ge j i with g |g;exact hj j g;(have:j=i:=by omega);subst this;exact h2⟩
 have hin:=bh hi t10;subst hin;refine af ?_;rw[fH hj];rfl
theorem Od(bs:List Jt)(hl:bs.length<=281474976710656)(f:FuncId)(c d:List AV)(ok:Nat->Bool)
  (hf:∀(i:Nat)(b:Jt),bs[i]?=some b->(∀j,j<i->ok j=true)->FP f ([i64 i,b.av]++[.iptr c,.iptr d]) (bl (!ok i))) :
  FP 214 [.lst 7 (bs.map Jt.av),.fn f [.iptr c,.iptr d]] (i64 (jr (cC bs.length ok))):=by
 refine aj func214 ?_;refine gl ?_;refine aU [1,7,8] [] (fun(i:Nat)=>[(9,some (i64 i))]) (fun _=>[]) (fun i=>i<=bs.length/\∀j,j<i->ok j=true) (fun i=>bs.length-i) 0 ⟨zero_le _,fun j h=>by omega⟩ ?_;rintro i ⟨hi,hj⟩ K1 J1;refine gC (fun t10=>?_) (fun t10=>?_)
 ·have hin:=a5 t10;obtain⟨b,hb⟩:=aw hin;refine gi (aA hb) ?_;refine gs (wh (.tmp rfl) (hf i b hb hj) (bC rfl rfl) aH rfl rfl) ?_;refine gC (fun t17=>?_) (fun t17=>?_)
  ·have h2:=db t17;refine af ?_;rw[gG hin hj h2];rfl
  have h2:=da t17;refine ga aN ?_;exact aP J1 (i+1) ⟨hin,fun j h9=>by rcases lt_or_ge j i with g |g;exact hj j g;(have:j=i:=by omega);subst this;exact h2⟩
 have hin:=bh hi t10;subst hin;refine af ?_;rw[fH hj];rfl
theorem L0(bs:List Dr)(hl:bs.length<=281474976710656)(f:FuncId)(c d:List AV)(ok:Nat->Bool)
  (hf:∀(i:Nat)(b:Dr),bs[i]?=some b->(∀j,j<i->ok j=true)->FP f ([i64 i,b.av]++[.iptr c,.iptr d]) (bl (!ok i))) :
  FP 217 [.lst 2 (bs.map Dr.av),.fn f [.iptr c,.iptr d]] (i64 (jr (cC bs.length ok))):=by
 refine aj func217 ?_;refine gl ?_;refine aU [1,7,8] [] (fun(i:Nat)=>[(9,some (i64 i))]) (fun _=>[]) (fun i=>i<=bs.length/\∀j,j<i->ok j=true) (fun i=>bs.length-i) 0 ⟨zero_le _,fun j h=>by omega⟩ ?_;rintro i ⟨hi,hj⟩ K1 J1;refine gC (fun t10=>?_) (fun t10=>?_)
 ·have hin:=a5 t10;obtain⟨b,hb⟩:=aw hin;refine gi (aA hb) ?_;refine gs (wh (.tmp rfl) (hf i b hb hj) (bC rfl rfl) aH rfl rfl) ?_;refine gC (fun t17=>?_) (fun t17=>?_)
  ·have h2:=db t17;refine af ?_;rw[gG hin hj h2];rfl
  have h2:=da t17;refine ga aN ?_;exact aP J1 (i+1) ⟨hin,fun j h9=>by rcases lt_or_ge j i with g |g;exact hj j g;(have:j=i:=by omega);subst this;exact h2⟩
 have hin:=bh hi t10;subst hin;refine af ?_;rw[fH hj];rfl
def ox(ts:LL)(i:Nat)(p:Pq):Bool:=tc ts p&&(decide (0<i)||qL ts p)
theorem So(ts:LL)(i:Nat)(p:Pq):cond (!tc ts p) true (cond (aa .eql (i:Int) 0) (!qL ts p) false)=!ox ts i p:=by
 unfold ox
 have e:aa .eql (i:Int) 0=!decide (0<i):=by
  rw[oQ,<- decide_not];exact decide_eq_decide.2 oz
 rw[e];cases tc ts p <;> cases decide (0<i) <;> cases qL ts p <;> rfl
theorem Jr{l:Li}{a:Aq}(F:AqS l a){i:Nat}{p:Pq}(hp:a.bs[i]?=some p):FP 211 [i64 i,p.av,.iptr a.cs] (bl (!ox a.ts i p)):=by
 obtain⟨r,hr,tw⟩:=F.tw;have hlm:=m9 F.two;have hpm:=mem_of_getElem? hp;refine aj func211 ?_;refine gc (Rb F hpm) ?_;refine bR (fun _=>(OO tw (F.bs p hpm) oz)) ?_;refine af ?_;exact congrArg bl (So _ _ _)
theorem VR{l:Li}(hl:l.ok){a:Aq}(F:AqS l a){i:Nat}{j:Jt}(hj:l.jo[i]?=some j):FP 215 [i64 i,j.av,.iptr l.av.cells,.iptr a.cs] (bl (!mc l a j)):=by
 refine aj func215 ?_;refine gc (Q4 hl F hj) ?_;refine af ?_;rfl
def nK(l:Li)(ys:List Tn)(a:Aq)(i:Nat):Bool:=vE a.ts (a.bs.getD (l.dv.getD i default).body.toNat bj) (ys.getD i dQ)
def ja(l:Li)(ys:List Tn)(a:Aq):Nat×Nat:=match cC a.bs.length (fun i=>ox a.ts i (a.bs.getD i bj))with
  |some i=>(2,i)
  |none=>match cC l.jo.length (fun i=>mc l a (l.jo.getD i default))with
    |some i=>(3,i)
    |none=>match cC l.dv.length (nK l ys a)with
      |none=>(0,0)
      |some i=>(4,i)
theorem LR{l:Li}{ys:List Tn}{a:Aq}:(((ja l ys a).1:Int)==0&&((ja l ys a).2:Int)==0)=(decide ((0:Nat)=0)&&decide ((ja l ys a).1=0)):=by
 unfold ja;split
 ·rfl
 ·split
  ·rfl
  ·split <;> rfl
theorem SU{l:Li}{a:Aq}(F:AqS l a){ys:List Tn}(hy:∀x∈ys,x.t.ok/\x.err=0/\Qb 1000 x.t.q)(hyl:ys.length=l.dv.length){i:Nat}{d:Dr}(hd:l.dv[i]?=some d) :
  FP 218 [i64 i,d.av,.iptr a.cs,.iptr [.lst 4 (ys.map Tn.av)]] (bl (!nK l ys a i)):=by
 have hin:=(List.getElem?_eq_some_iff.1 hd).1;have hd2:=ud F.li;have hbl:=(cV F.li).2.2.2.1;have hln:=F.ln;obtain⟨r,hr,tw⟩:=F.tw;have hlm:=m9 F.two;have hdb:=cT (kI F.li hd);obtain⟨p,hp⟩:=aw (l:=a.bs) (i:=d.body.toNat) oz;obtain⟨x,hx⟩:=aw (l:=ys) (i:=i) oz;have hxo:=hy x (mem_of_getElem? hx);have ht:=Lp tw (F.bs p (mem_of_getElem? hp)) oz hxo.1 hxo.2.1 hxo.2.2
 have e:nK l ys a i=vE a.ts p x:=by
  unfold nK;rw[ao hd,ao hp,ao hx]
 refine aj func218 ?_;refine gi (aA hp) ?_;refine gi (aA hx) ?_;refine gc ht ?_;refine gD ?_;refine af ?_;rw[e];rfl
theorem M9{l:Li}(hl:l.ok){a:Aq}(F:AqS l a){ys:List Tn}(hy:∀x∈ys,x.t.ok/\x.err=0/\Qb 1000 x.t.q)(hyl:ys.length=l.dv.length) :
  FP 106 [l.av,.lst 4 (ys.map Tn.av),a.av] (yg (ja l ys a)):=by
 obtain⟨r,hr,tw⟩:=F.tw;have hbl:=(cV F.li).2.2.2.1;have hln:=F.ln;refine aj func106 ?_ (1,0);refine gW ((Wk.freezeB (k:=3) rfl rfl).trans<|(Wk.freezeB (k:=4) rfl rfl).trans<|(Wk.freezeB (k:=5) rfl rfl).trans<|Wk.o (sl:=[(3,some (.iptr l.av.cells)),(4,some (.iptr [.lst 4 (ys.map Tn.av)])),(5,some (.iptr a.cs)),(6,some (.ptr 6 0))]) (hp:=[(6,some (.box [i64 0,i64 0]))])) ?_;refine gc (Vv tw) ?_;refine bZ ?_;refine bZ ?_;refine gC (fun t22=>?_) (fun t22=>?_) (st1:=(2,0));exact((QG t22).elim (fun h=>h rfl) (fun h=>h hln)).elim;refine gc (Ra a.bs oz 211 a.cs (fun i=>ox a.ts i (a.bs.getD i bj)) (fun i b hb _=>by have h:=Jr F hb;rw[<- ao (d:=bj) hb]at h ⊢;exact h)) ?_;refine gC (fun t29=>?_) (fun t29=>?_)
 ·obtain⟨i,hi⟩:=xZ t29;refine af ?_;unfold ja;rw[hi];rfl
 have f1:=xF t29;refine gc (Od l.jo hl.lj 215 l.av.cells a.cs (fun i=>mc l a (l.jo.getD i default)) (fun i j hj _=>by have h:=VR hl F hj;rw[<- ao (d:=default) hj]at h ⊢;exact h)) ?_;refine gC (fun t37=>?_) (fun t37=>?_)
 ·obtain⟨i,hi⟩:=xZ t37;refine af ?_;unfold ja;rw[f1,hi];rfl
 have f2:=xF t37;refine gc (L0 l.dv hl.ld 218 a.cs [.lst 4 (ys.map Tn.av)] (nK l ys a) (fun i d hd _=>SU F hy hyl hd)) ?_;refine gC (fun t45=>?_) (fun t45=>?_)
 ·obtain⟨i,hi⟩:=xZ t45;refine af ?_;unfold ja;rw[f1,f2,hi];rfl
 have f3:=xF t45;refine af ?_;unfold ja;rw[f1,f2,f3];rfl
theorem Uk{l:Li}(hl:l.ok){a:Aq}(F:AqS l a)(ys:List Tn)(hy:∀x∈ys,x.t.ok/\Qb 1000 x.t.q)(hyl:ys.length<=281474976710656) :
  FP 37 [l.av,.lst 4 (ys.map Tn.av),a.av] (.tup [bl (decide (j7 l ys=0)&&decide ((ja l ys a).1=0)),yg (if j7 l ys=0 then ja l ys a else(0,0)),br (j7 l ys)]):=by
 have hld:=hl.ld;refine aj func37 ?_;refine gc (uk l hl) ?_;refine gC (fun t17=>?_) (fun t17=>?_) (st1:=(3,0));exact absurd F.li (df t17);have h1:=F.li;refine gl ?_;refine gl ?_;refine gC (fun t25=>?_) (fun t25=>?_)
 ·have h2 : ys.length ≠ l.dv.length := by have := nJ t25; omega
  have hb:j7 l ys≠0:=by rw[GU h1 h2];decide
  refine xe ?_;rw[if_neg hb,decide_eq_false hb,GU h1 h2];rfl
 have h2:ys.length=l.dv.length:=by have:=uD t25;omega
 refine gl ?_;refine aU [1,3,5,7,28,29] [3,5,7] (fun(i:Nat)=>[(30,some (i64 i))]) (fun _=>[]) (fun i=>i<=ys.length/\∀x∈ys.take i,x.err=0) (fun i=>ys.length-i) 0 ⟨zero_le _,fun x hx=>by simp at hx⟩ ?_;rintro i ⟨hi,hj⟩ K1 J1;refine gC (fun t31=>?_) (fun t31=>?_)
 ·have hin:=a5 t31;obtain⟨x,hxx⟩:=aw hin;refine gi (aA hxx) ?_;refine gc (uy x (hy x (mem_of_getElem? hxx)).1) ?_;refine gC (fun t37=>?_) (fun t37=>?_)
  ·have h3:=df t37;have hb:j7 l ys ≠ 0:=by rw [GQ h1 h2 hxx hj h3]; exact h3
   refine xe ?_;rw[if_neg hb,decide_eq_false hb,GQ h1 h2 hxx hj h3];rfl
  have h3:=cZ t37;refine ga aN ?_;exact aP J1 (i+1) ⟨hin,fun y hy=>by rw[ef hxx]at hy;rcases List.mem_append.1 hy with h9 |h9;exact hj y h9;(rw[List.mem_singleton.1 h9];exact h3)⟩
 have hin:=bh hi t31;subst hin;rw[take_length]at hj;have hb:=IN h1 h2 hj;refine gc (M9 hl F (fun x h9=>⟨(hy x h9).1,hj x h9,(hy x h9).2⟩) h2) ?_;refine gs (UA (.tmp rfl) (.tmp rfl) (by kernel_rfl) rfl) ?_;refine gD ?_;refine xe ?_;rw[hb,if_pos rfl,LR];rfl
theorem dK{ts:LL}{e f:Nat}{x y:Et ts}(h1:Bz e x)(h2:Bz f y):Nm ts.length (e+f+1) (sX (x-y)):=Bz.sub h1 h2
section
variable{ts:LL}{r e f:Nat}(tw:Tw ts r){x y x2 y2:Et ts}
include tw
theorem pu(h1:Nm ts.length e (sX x))(h2:Nm ts.length e (sX y))(h3:Nm ts.length e (sX x2))(h4:Nm ts.length e (sX y2))(he:2*e<=lm ts.length) :
  FP 76 [aV ts,aM (sX x) (sX y),aM (sX x2) (sX y2)] (.tup [aM (sX (x-x2)) (sX (y-y2)),.v .nilIface]):=by
 have h:=A0 tw h1 h2 h3 h4 he;have ew:∀z:Et ts,ae ts.length (sX z)=z:=fun z=>bn _ _
 rw[ew,ew,ew,ew]at h;exact h
theorem P8(h1:Nm ts.length e (sX x))(h2:Nm ts.length e (sX y))(h3:Nm ts.length e (sX x2))(h4:Nm ts.length e (sX y2))(he:2*(e+e+kB r ts.length)<=lm ts.length) :
  FP 77 [aV ts,aM (sX x) (sX y),aM (sX x2) (sX y2)] (.tup [nA (sX (crsE x y x2 y2)),.v .nilIface]):=by
 have h:=yT tw h1 h2 h3 h4 he;have ew:∀z:Et ts,ae ts.length (sX z)=z:=fun z=>bn _ _
 rw[ew,ew,ew,ew]at h;exact h
theorem xu(h1:Nm ts.length e (sX x))(h2:Nm ts.length e (sX y))(h3:Nm ts.length e (sX x2))(h4:Nm ts.length e (sX y2))(he:2*(e+e+kB r ts.length)<=lm ts.length) :
  FP 80 [aV ts,aM (sX x) (sX y),aM (sX x2) (sX y2)] (.tup [nA (sX (dotE x y x2 y2)),.v .nilIface]):=by
 have h:=ry tw h1 h2 h3 h4 he;have ew:∀z:Et ts,ae ts.length (sX z)=z:=fun z=>bn _ _
 rw[ew,ew,ew,ew]at h;exact h
theorem JK(h1:Bz e x)(h2:Bz e y)(h3:Bz f x2)(h4:Bz f y2):Nm ts.length (2*(e+f+kB r ts.length)+1) (sX (crsE x y x2 y2)) :=
 ((h1.mul tw (le_refl _) h4).sub (h2.mul tw (le_refl _) h3)).mono (by show e+f+kB r ts.length+(e+f+kB r ts.length)+1<=_;omega)
theorem DA(h1:Bz e x)(h2:Bz e y)(h3:Bz f x2)(h4:Bz f y2):Nm ts.length (2*(e+f+kB r ts.length)+1) (sX (dotE x y x2 y2)) :=
 ((h1.mul tw (le_refl _) h3).add (h2.mul tw (le_refl _) h4)).mono (by show e+f+kB r ts.length+(e+f+kB r ts.length)+1<=_;omega)
end
def oR(l:Li)(a:As)(g:Gr):List Rat:=if g.kind=0 then sh 0 ((1:Int):Rat)else sX (iU l a g)
section
variable{E:Nat}{l:Li}{a:As}(D:DyW l a)(h3:(llq a.rs).length<=2)
include D h3
theorem jR{body pt:Int}(h1:bA body l.bo.length=true)(h2:bA pt (cJ l body).length=true)(hb:Pd E a body) :
  Nm (llq a.rs).length (3*E+2400002022) (sX (bf l a body pt).1)/\Nm (llq a.rs).length (3*E+2400002022) (sX (bf l a body pt).2):=by
 obtain⟨n,k,bd,m,b,hp⟩:=tM D.hl D.li D.al D.hc h1 h2 hb;obtain⟨tw,_⟩:=de D.al.tr D.hc;have kb:=n8 h3;have c1:Qb 1000 m.x.q:=by rw[hp.mp.ex,cf];exact hp.mp.sm.x
 have c2:Qb 1000 m.y.q:=by rw[hp.mp.ey,cf];exact hp.mp.sm.y
 have h:=uR tw hp.ok c1 c2;unfold bf;rw[hp.eq];exact⟨h.1.mono oz,h.2.mono oz⟩
theorem ni{i:Nat}{j:Jt}(hj:l.jo[i]?=some j){b:Int}(h:PinP E l a j b) :
  Nm (llq a.rs).length (3*E+2400002022) (sX (aB l a j b).1)/\Nm (llq a.rs).length (3*E+2400002022) (sX (aB l a j b).2):=by
 obtain⟨i1,i2,i3,i4,_⟩:=cU D.li hj;unfold aB;rcases h.tie with⟨e,hb⟩ |⟨e,e2,hb⟩
 ·rw[if_pos e];exact jR D h3 i2 i4 hb
 ·rw[if_neg e];exact jR D h3 i1 i3 hb
theorem vz{b:Int}(hb:Pd E a b){q:Rat×Rat}(hq:Sm 1000 q):Nm (llq a.rs).length (3*E+2400002022) (sX (ko a b q).1)/\Nm (llq a.rs).length (3*E+2400002022) (sX (ko a b q).2):=by
 obtain⟨p,hp,hn,hbn⟩:=hb;obtain⟨tw,_⟩:=de D.al.tr D.hc;have h5:a.rs.length<=5:=by have:=tw.five;rwa [pN]at this
 have h9:=(zI hn hbn h5).2;rw[<- pN a.rs]at h9;have kb:=n8 h3;have h:=C8 tw h9 hq;unfold ko;rw[ao hp];exact⟨h.1.mono oz,h.2.mono oz⟩
theorem Co(hE:E<=3200000000){b:Int}{p:Pl}(hp:a.bs[b.toNat]?=some p)(hn:bN a.rs p.l=0)(hbn:∀x∈p.l,NR x E){q:Rat×Rat}(hq:Sm 1000 q) :
  FP 89 [.agg [.lst 1 (a.rs.map nR)],p.av,qA q.1,qA q.2] (.tup [aM (sX (ko a b q).1) (sX (ko a b q).2),.v .nilIface]):=by
 obtain⟨tw,hta⟩:=de D.al.tr D.hc;have h5:a.rs.length<=5:=by have:=tw.five;rwa [pN]at this
 obtain⟨e1,ok⟩:=zI hn hbn h5;rw[<- pN a.rs]at ok;have kb:=n8 h3;have hlm:=m9 h3;have h:=Bm tw (ok.c.mono (f:=E+1000) oz) (ok.s.mono oz) (ok.x.mono oz) (ok.y.mono oz) (hq.x.mono (f:=E+1000) oz) (hq.y.mono (f:=E+1000) oz) oz;rw[e1,<- kZ D.al.tr D.hc];unfold ko;rw[ao hp];exact h
end
theorem Pk{E:Nat}{l:Li}{a:As}(D:DyW l a)(h3:(llq a.rs).length<=2){k:Int}{n:Nat}{g:Gr}(ok:DyOk E l k a true n g):Nm (llq a.rs).length (24*E+21600016203) (oR l a g):=by
 obtain⟨tw,hta⟩:=de D.al.tr D.hc;have kb:=n8 h3;unfold oR
 by_cases h0:g.kind=0
 ·rw[if_pos h0];exact(Nm.ofQ tw.five (Cb.int (z:=1) (e:=1) (by decide))).mono oz
 ·rw[if_neg h0]
  by_cases h1:g.kind=1
  ·obtain⟨i,k2,z0,z1,z2,j0,j1,j2,P⟩:=ok.rrr h1;obtain⟨y1,y2⟩:=ni D h3 P.h0 P.p0;obtain⟨y3,y4⟩:=ni D h3 P.h1 P.p1;obtain⟨y5,y6⟩:=vz D h3 (ok.own (b:=i) (by rw[P.eq];simp)) (gj D.hl D.li P.h2 P.t1);obtain⟨e0,e1,e2,b0,b1,_⟩:=P.at;unfold iU;rw[if_neg h0,if_pos h1,e0,e1,e2,b0,b1];exact(JK tw (dK y3 y1) (dK y4 y2) (dK y5 y1) (dK y6 y2)).mono oz
  ·by_cases h2:g.kind=2
   ·obtain ⟨i, z0, z1, j0, j, P, ha, hb⟩:=ok.pr h2;obtain ⟨i1,i2,i3,i4,i5⟩:=cU D.li P.h1;have q2:Sm 1000 (aS l i j.point):=by rw [<- ha]; exact jP D.hl D.li i1 i3
    obtain⟨y1,y2⟩:=ni D h3 P.h0 P.p0;obtain⟨y3,y4⟩:=jR D h3 i2 (i5 P.hk) hb;obtain⟨y7,y8⟩:=jR D h3 i2 i4 hb;obtain⟨y5,y6⟩:=vz D h3 (ok.own (b:=i) (by rw[P.eq];simp)) q2;obtain⟨e0,e1,b0,_⟩:=P.at;unfold iU;rw[if_neg h0,if_neg h1,if_pos h2,e0,e1,b0];exact(DA tw (dK y3 y7) (dK y4 y8) (dK y5 y1) (dK y6 y2)).mono oz
   ·obtain ⟨i, z0, z1, j0, j, P, _, hj, hb⟩:=ok.rp h0 h1 h2;obtain ⟨i1,i2,i3,i4,i5⟩:=cU D.li P.h1;have hpi:Pd E a j.b:=by rw [hj]; exact ok.own (b:=i) (by rw [P.eq]; simp)
    obtain⟨y1,y2⟩:=ni D h3 P.h0 P.p0;obtain⟨y3,y4⟩:=jR D h3 i1 i3 hb;obtain⟨y5,y6⟩:=jR D h3 i2 i4 hpi;obtain⟨y7,y8⟩:=jR D h3 i2 (i5 P.hk) hpi;obtain⟨e0,e1,b0,_⟩:=P.at;unfold iU;rw[if_neg h0,if_neg h1,if_neg h2,e0,e1,b0];exact(DA tw (dK y7 y5) (dK y8 y6) (dK y3 y1) (dK y4 y2)).mono oz
theorem NL{E:Nat}(hE:E<=3200000000){l:Li}{k:Int}{a:As}{n:Nat}{g:Gr}(hop:Con prog 63 [l.av,i64 k,a.av,bl true] [] (.tup [.ptr 900 0,.v .nilIface]) [(900,some (cg l g a))])(D:DyW l a)(h3:(llq a.rs).length<=2)(ok:DyOk E l k a true n g) :
  FP 27 [l.av,i64 k,a.av] (.tup [nA (oR l a g),.v .nilIface]):=by
 obtain⟨tw,hta⟩:=de D.al.tr D.hc;have kb:=n8 h3;have hlm:=m9 h3;have hgo:=ok.ok;have hbl:=D.al.bl;refine aj func27 ?_;refine gt (aG hop (.cons (.tmp rfl) (.cons (.tmp rfl) (.cons (.tmp rfl) (.cons (.const _) .nil)))) aH rfl rfl) ?_ (2,0);refine gW (Wk.o (sl:=[(5,some (.ptr 5 0)),(8,some (.ptr 900 0)),(9,some (.v .nilIface))]) (hp:=[(5,some (.box a.av.cells)),(900,some (cg l g a))])) ?_;refine gC (fun t30=>?_) (fun t30=>?_) (st1:=(3,0)) (st2:=(5,0));cases t30;refine gW (Wk.o (sl:=[(5,some (.ptr 5 0)),(8,some (.ptr 900 0)),(10,some (.ptr 35 0))]) (hp:=[(5,some (.box a.av.cells)),(900,some (cg l g a)),(35,some (dx a.rs))])) ?_ (10,0);refine AE [8,10] [900,35] [(11,some (nA (sX (iU l a g))))] [] (g.kind≠0) ?_ ?_ 2
 ·intro K1 J1;refine gC (fun t79=>?_) (fun t79=>?_)
  ·have hk:g.kind=0:=cP t79;have hd:oR l a g=sh 0 ((1:Int):Rat):=if_pos hk;rw[hd];refine gc (S0) ?_;refine gR ?_;exact kq rfl
  have hk0:g.kind≠0:=dA t79;refine gC (fun t82=>?_) (fun t82=>?_)
  ·have hk:g.kind = 1:=cP t82;obtain ⟨i,k2,z0,z1,z2,j0,j1,j2,P⟩:=ok.rrr hk;obtain ⟨e0,e1,e2,b0,b1,_⟩:=P.at;have hE9:iU l a g = jv (aQ (aB l a j1 k2) (aB l a j0 i)) (aQ (ko a i (am l j2 i)) (aB l a j0 i)):=by unfold iU; rw [if_neg hk0,if_pos hk,e0,e1,e2,b0,b1]
   obtain rfl:=P.eq;have hi0:=(hgo.b i (by simp)).1;obtain⟨p,hp,hn,hbn⟩:=ok.own (b:=i) (by simp);have hil:=(List.getElem?_eq_some_iff.1 hp).1;have hq:=gj D.hl D.li P.h2 P.t1;obtain⟨y1,y2⟩:=ni D h3 P.h0 P.p0;obtain⟨y3,y4⟩:=ni D h3 P.h1 P.p1;obtain⟨y5,y6⟩:=vz D h3 (ok.own (b:=i) (by simp)) hq;have s1:=pu tw y3 y4 y1 y2 oz;have s2:=pu tw y5 y6 y1 y2 oz;have s3:=P8 tw (dK y3 y1) (dK y4 y2) (dK y5 y1) (dK y6 y2) oz;rw[kZ D.al.tr D.hc]at s1 s2 s3;refine gt (aG (Con.rB 900 rfl rfl rfl rfl (DD D.hl D.li D.al D.hc h3 hgo P.h0 P.h1 P.h2 P.p0 P.p1 P.t1 P.t2)) (cA rfl) aH rfl rfl) ?_;refine gi (rfl) ?_;refine gi (gh (n:=i.toNat) oz hp) ?_;refine gc (Co D h3 hE (b:=i) hp hn hbn hq) ?_;refine gt (aX (Con.rB 35 rfl rfl rfl rfl (mb _ _ _)) (aK rfl rfl rfl) rfl rfl rfl) ?_;refine gD ?_;refine gc s1 ?_;refine gt (aX (Con.rB 35 rfl rfl rfl rfl (mb _ _ _)) (aK rfl rfl rfl) rfl rfl rfl) ?_;refine gc s2 ?_;refine gt (aX (Con.rB 35 rfl rfl rfl rfl (mb _ _ _)) (aK rfl rfl rfl) rfl rfl rfl) ?_;refine gc s3 ?_;refine gt (aX (Con.rB 35 rfl rfl rfl rfl (oG _ _)) (aK rfl rfl rfl) rfl rfl rfl) ?_;refine gD ?_;exact oF J1 hk0 (hw:=Wk.of (.cons rfl (Sub.of (congrArg (fun z=>nA (sX z)) hE9.symm)) (.k (.k .nil))) (.k (.k .nil)))
  have hk1:g.kind≠1:=dA t82;refine gC (fun t149=>?_) (fun t149=>?_)
  ·have hk:g.kind = 2:=cP t149;obtain ⟨i,z0,z1,j0,j,P,ha,hb⟩:=ok.pr hk;obtain ⟨e0,e1,b0,_⟩:=P.at;have hE9:iU l a g = dU (aQ (bf l a j.b j.to) (bf l a j.b j.on)) (aQ (ko a i (aS l i j.point)) (aB l a j0 i)):=by unfold iU; rw [if_neg hk0,if_neg hk1,if_pos hk,e0,e1,b0]
   obtain rfl:=P.eq;obtain⟨i1,i2,i3,i4,i5⟩:=cU D.li P.h1;have hi0:=(hgo.b i (by simp)).1;obtain⟨p,hp,hn,hbn⟩:=ok.own (b:=i) (by simp);have hil:=(List.getElem?_eq_some_iff.1 hp).1;have hq:Sm 1000 (aS l i j.point):=by rw[<- ha];exact jP D.hl D.li i1 i3
   obtain⟨y1,y2⟩:=ni D h3 P.h0 P.p0;obtain⟨y3,y4⟩:=jR D h3 i2 (i5 P.hk) hb;obtain⟨y7,y8⟩:=jR D h3 i2 i4 hb;obtain⟨y5,y6⟩:=vz D h3 (ok.own (b:=i) (by simp)) hq;have s1:=pu tw y3 y4 y7 y8 oz;have s2:=pu tw y5 y6 y1 y2 oz;have s3:=xu tw (dK y3 y7) (dK y4 y8) (dK y5 y1) (dK y6 y2) oz;rw[kZ D.al.tr D.hc]at s1 s2 s3;refine gt (aG (Con.rB 900 rfl rfl rfl rfl (CD D.hl D.li D.al D.hc h3 hgo P.h0 P.h1 P.p0 ha P.hk hb)) (cA rfl) aH rfl rfl) ?_;refine gi (rfl) ?_;refine gi (gh (n:=i.toNat) oz hp) ?_;refine gc (Co D h3 hE (b:=i) hp hn hbn hq) ?_;refine gt (aX (Con.rB 35 rfl rfl rfl rfl (mb _ _ _)) (aK rfl rfl rfl) rfl rfl rfl) ?_;refine gD ?_;refine gc s1 ?_;refine gt (aX (Con.rB 35 rfl rfl rfl rfl (mb _ _ _)) (aK rfl rfl rfl) rfl rfl rfl) ?_;refine gc s2 ?_;refine gt (aX (Con.rB 35 rfl rfl rfl rfl (mb _ _ _)) (aK rfl rfl rfl) rfl rfl rfl) ?_;refine gc s3 ?_;refine gt (aX (Con.rB 35 rfl rfl rfl rfl (oG _ _)) (aK rfl rfl rfl) rfl rfl rfl) ?_;refine gD ?_;exact oF J1 hk0 (hw:=Wk.of (.cons rfl (Sub.of (congrArg (fun z=>nA (sX z)) hE9.symm)) (.k (.k .nil))) (.k (.k .nil)))
  have hk2:g.kind≠2:=dA t149;obtain⟨i,z0,z1,j0,j,P,ha,hj,hb⟩:=ok.rp hk0 hk1 hk2;obtain⟨e0,e1,b0,_⟩:=P.at;have hE9:iU l a g=dU (aQ (bf l a j.b j.to) (bf l a j.b j.on)) (bS l a i j0 j):=by unfold iU;rw[if_neg hk0,if_neg hk1,if_neg hk2,e0,e1,b0]
  obtain rfl:=P.eq;obtain⟨i1,i2,i3,i4,i5⟩:=cU D.li P.h1;have hpi:Pd E a j.b:=by rw[hj];exact ok.own (b:=i) (by simp)
  obtain⟨y1,y2⟩:=ni D h3 P.h0 P.p0;obtain⟨y5,y6⟩:=jR D h3 i1 i3 hb;obtain⟨y3,y4⟩:=jR D h3 i2 (i5 P.hk) hpi;obtain⟨y7,y8⟩:=jR D h3 i2 i4 hpi;have s0:=pu tw y5 y6 y1 y2 oz;have sd:=xu tw (dK y5 y1) (dK y6 y2) (dK y5 y1) (dK y6 y2) oz;have s1:=pu tw y3 y4 y7 y8 oz;have s3:=xu tw (dK y3 y7) (dK y4 y8) (dK y5 y1) (dK y6 y2) oz;rw[kZ D.al.tr D.hc]at s0 sd s1 s3;refine gt (aX (Con.rB 900 rfl rfl rfl rfl (z7 D.hl _ hgo a rfl P.h1)) (cA rfl) rfl rfl rfl) ?_;refine gt (aG (Con.rekeyBB 900 35 (by decide) (by decide) rfl rfl rfl rfl rfl rfl (HJ (E:=E) oz D h3 hgo P.h0 P.h1 P.p0 hj P.hk hb s0 sd)) (bC rfl rfl) aH rfl rfl) ?_;refine gt (aG (Con.rB 900 rfl rfl rfl rfl (oM (E:=E) D.hl D.li _ D.al D.hc i2 (i5 P.hk) oz h3 hpi)) (aK rfl rfl rfl) aH rfl rfl) ?_;refine gt (aG (Con.rB 900 rfl rfl rfl rfl (oM (E:=E) D.hl D.li _ D.al D.hc i2 i4 oz h3 hpi)) (aK rfl rfl rfl) aH rfl rfl) ?_;refine gc s1 ?_;refine gt (aX (Con.rB 35 rfl rfl rfl rfl (mb _ _ _)) (aK rfl rfl rfl) rfl rfl rfl) ?_;refine gD ?_;refine gc s3 ?_;refine gt (aX (Con.rB 35 rfl rfl rfl rfl (oG _ _)) (aK rfl rfl rfl) rfl rfl rfl) ?_;refine gD ?_;exact oF J1 hk0 (hw:=Wk.of (.cons rfl (Sub.of (congrArg (fun z=>nA (sX z)) hE9.symm)) (.k (.k .nil))) (.k (.k .nil)))
 rintro hk9;rw[show oR l a g=sX (iU l a g)from if_neg hk9];refine gC (fun t219=>?_) (fun t219=>?_) (st2:=(77777,0))
 ·refine gC (fun t231=>?_) (fun t231=>?_) (st1:=(23,0));cases t231;refine gR ?_;exact kq rfl
 cases t219
def ma(l:Li)(a:Aq)(g:Gr):List Rat:=if g.kind=0 then sh 0 ((1:Int):Rat)else sX (cK l a.ts a.bs g)
theorem EO(l:Li)(a:Aq)(g:Gr):oR l a.as g=ma l a g:=by
 unfold oR ma;split
 ·rfl
 ·rw[Oi]
  have:∀(T:LL)(bs:List Pq),T=a.ts->bs=a.bs->(sX (cK l T bs g):List Rat)=sX (cK l a.ts a.bs g):=by
   rintro _ _ rfl rfl;rfl
  exact this _ _ a.llq (mL a)
theorem I4{l:Li}{a:Aq}{g:Gr}:T.sgn (ax a.ts) a.ts.length (ae a.ts.length (ma l a g))=an (cK l a.ts a.bs g):=by
 unfold ma;split
 ·rename_i h;rw [gE];have e:cK l a.ts a.bs g = qE 1:=by unfold cK; rw [if_pos h]
  rw[e];rfl
 ·have e:ae a.ts.length (sX (cK l a.ts a.bs g))=cK l a.ts a.bs g:=bn _ _;rw[e];rfl
structure AqE(E:Nat)(l:Li)(a:Aq):Prop where
  s:AqS l a
  be:∀p∈a.bs,Pq.ok a.ts.length E p
  le:E<=3200000000
theorem AqS.e{l:Li}{a:Aq}(F:AqS l a):AqE 3200000000 l a:=⟨F,F.bs,le_refl _⟩
section
variable{E:Nat}{l:Li}(hl:l.ok){a:Aq}(F:AqE E l a)(hs:splitE l=0){k:Nat}{g:Gr}(hg:(splitG l)[k]?=some g)
include hl F hs hg
theorem DI(own:Bool):DyW l a.as/\DyOk E l k a.as own k g/\(Lw.llq a.as.rs).length<=2/\fy l k a.as own=0:=by
 obtain⟨r,hr,tw⟩:=F.s.tw;have hE:=F.le;have Q:QInv l 2 r E a:=⟨tw,F.s.two,F.be,F.s.ln⟩
 have D:DyW l a.as:=⟨hl,F.s.li,Q.ab F.s.li oz hr,Q.chk⟩
 have h0:=Q.dy0 F.s.li hs hg own;obtain⟨i,g',h⟩:=Af (Q.sma oz (le_refl _) k own) h0;have e:i=k:=by have:=h.hk;omega
 subst e;have h2:=h.hg;rw[hg]at h2;cases h2;exact⟨D,h,by rw[a.llq];exact F.s.two,h0⟩
theorem Mu:Nm a.ts.length (24*E+21600016203) (ma l a g):=by
 obtain⟨D,ok,h3,_⟩:=DI hl F hs hg true;have h:=Pk D h3 ok;rw[EO,a.llq]at h;exact h
theorem JN:FP 27 [l.av,i64 k,a.av] (.tup [nA (ma l a g),.v .nilIface]):=by
 obtain⟨D,ok,h3,h0⟩:=DI hl F hs hg true;have hop:=Fv l hl k a.as D.al true;have hgA:iF l (k:Nat)=g:=ao hg;rw[h0,hgA]at hop;have h:=NL F.le hop D h3 ok;rw[Aq.as_av,EO]at h;exact h
end
section
variable{l:Li}(hl:l.ok){a:Aq}(F:AqS l a)(hs:splitE l=0){k:Nat}{g:Gr}(hg:(splitG l)[k]?=some g)
include hl F hs hg
theorem VX:Nm a.ts.length 99300000000 (ma l a g):=(Mu hl F.e hs hg).mono oz
theorem TT:FP 27 [l.av,i64 k,a.av] (.tup [nA (ma l a g),.v .nilIface]):=JN hl F.e hs hg
theorem Rl:FP 116 [aV a.ts,nA (ma l a g)] (.tup [i64 (an (cK l a.ts a.bs g)),.v .nilIface]):=by
 obtain⟨r,hr,tw⟩:=F.tw;have hlm:=m9 F.two;have h:=wP tw (VX hl F hs hg) oz;rw[I4]at h;exact h
end
theorem Jb{l:Li}{xs:List Tn}{a:Aq}(F:AqFin l xs a):j7 l xs=0:=IN F.li F.lx (fun x hx=>(F.xo x hx).1)
theorem KT{l:Li}{xs:List Tn}{a:Aq}(F:AqFin l xs a):ja l xs a=(0,0):=by
 have f1:cC a.bs.length (fun i=>ox a.ts i (a.bs.getD i bj))=none:=fH (fun i hi=>by
  have hc:=F.cs i (by rw[<- F.ln];exact hi);unfold ox;rw[Qh hc,Bool.true_and]
  by_cases h0:i=0
  ·subst h0;rw[F.fr,Kg];simp
  ·rw[decide_eq_true (by omega:0<i)];rfl)
 have f2:cC l.jo.length (fun i=>mc l a (l.jo.getD i default))=none:=fH (fun i hi=>by
  obtain⟨j,hj⟩:=aw hi;rw[ao hj];exact P4 (F.js j (mem_of_getElem? hj)))
 have f3:cC l.dv.length (nK l xs a)=none:=fH (fun i hi=>by
  obtain⟨d,hd⟩:=aw hi;have h:=F.dr i d hd;unfold nK vE;rw[ao hd,gE,gE];rw[show ae a.ts.length (a.bs.getD d.body.toNat bj).c=T.ofQ a.ts.length (dM (xs.getD i dQ).half (xs.getD i dQ).t.q)from h.1,show ae a.ts.length (a.bs.getD d.body.toNat bj).s=T.ofQ a.ts.length (dH (xs.getD i dQ).half (xs.getD i dQ).t.q)from h.2,wS,wS];rfl)
 unfold ja;rw[f1,f2,f3]
theorem LU{l:Li}{a:As}{g:Gr}{x:Tn}(hk:g.kind=0):(dt l a g x).length<=1:=by
 unfold dt;rw[if_pos hk];unfold jw;split
 ·exact zero_le _
 ·exact le_refl _
theorem Ko{S:List Sv}{kd:Int}{n b:Nat}(P:SolP S kd n b)(h0:kd=0->S.length<=1){i j:Nat}{s t:Sv}(hi:S[i]?=some s)(hj:S[j]?=some t)(e:s.mode=t.mode):i=j:=by
 have h1:=(List.getElem?_eq_some_iff.1 hi).1;have h2:=(List.getElem?_eq_some_iff.1 hj).1;have h3:=P.two
 by_cases hk:kd=0
 ·have:=h0 hk;omega
 ·have m1:=(P.md i s hi).1;have m2:=(P.md j t hj).1;rw[if_neg hk]at m1 m2
  by_cases h4:S.length=2
  ·rw[if_pos h4]at m1 m2;omega
  ·omega
theorem HE{k:Nat}{f:Sv->List Aq×Nat}:∀{S:List Sv},(ez (eT k) false f S).2=0->(∀s∈S,(f s).2=0)/\(ez (eT k) false f S).1=S.flatMap fun s=>(f s).1
 |[],h=>⟨(fun s hs=>by cases hs),rfl⟩
 |s::S,h=>by
  rw[mo,if_neg (show ¬eT k s.mode=false by simp[eT])]at h ⊢
  by_cases he:(f s).2≠0
  ·rw[if_pos he]at h;exact absurd h he
  ·rw [if_neg he, if_neg (by decide)] at h ⊢;obtain ⟨h1,h2⟩:=HE (S:=S) h;refine ⟨fun t ht=>?_,?_⟩
   ·rcases List.mem_cons.1 ht with rfl |ht
    ·exact Decidable.not_not.1 he
    ·exact h1 t ht
   ·rw[List.flatMap_cons,<- h2]
theorem yJ{F:Int->Bool}{sg:Bool}{f:Sv->List Aq×Nat}{b:Aq}:∀{S:List Sv},b∈(ez F sg f S).1->∃s∈S,F s.mode=true/\b∈(f s).1
 |[],h=>by cases h
 |s::S,h=>by
  rw[mo]at h;split at h
  ·obtain⟨x,hx,h2⟩:=yJ h;exact⟨x,mem_cons_of_mem _ hx,h2⟩
  ·rename_i hF;have hF:F s.mode = true:=by simpa using hF
   split at h
   ·exact⟨s,mem_cons_self,hF,h⟩
   ·split at h
    ·exact⟨s,mem_cons_self,hF,h⟩
    ·rcases List.mem_append.1 h with h |h
     ·exact⟨s,mem_cons_self,hF,h⟩
     ·obtain⟨x,hx,h2⟩:=yJ h;exact⟨x,mem_cons_of_mem _ hx,h2⟩
theorem It{F:Nat->Int->Bool}{sg:Bool}{l:Li}{xs:List Tn}{n:Nat}{a:Aq}{gr:Gr}(hg:(splitG l)[a.ms.length]?=some gr) :
  eI F sg l xs (splitG l) (n+1) a=if kK l a.as gr (bV gr xs)≠0 then([],kK l a.as gr (bV gr xs))else ez (F a.ms.length) sg (fun sv=>eI F sg l xs (splitG l) n (a.nxt gr sv)) (dt l a.as gr (bV gr xs)):=by
 conv=>lhs;unfold eI
 rw[ao hg]
section
variable{l:Li}{xs:List Tn}{s g:Nat}(W:WkC l xs s g)
include W
theorem xm{F:Nat->Int->Bool}{sg:Bool}:∀(n:Nat)(a:Aq),WkSt l s g n a->∀b∈(eI F sg l xs (splitG l) n a).1,∃m,b.ms=a.ms++m/\m.length=n
 |0,a,h,b,hb=>by rw[List.mem_singleton.1 hb];exact⟨[],by simp,rfl⟩
 |n+1,a,h,b,hb=>by
  obtain⟨gr,hg,_,hP,hn⟩:=h.next W;rw[It hg]at hb;split at hb
  ·cases hb
  ·obtain⟨sv,hsv,_,h2⟩:=yJ hb;obtain⟨m,e,hl⟩:=xm n _ (hn sv hsv) b h2;exact⟨sv.mode::m,by rw[e];show(a.ms++[sv.mode])++m=_;simp,by simp[hl]⟩
theorem IR:∀(n:Nat)(a:Aq),WkSt l s g n a->(eI eT false l xs (splitG l) n a).2=0->(eI eT false l xs (splitG l) n a).1.Pairwise (fun b c=>b.ms≠c.ms)
 |0,a,h,_=>List.pairwise_singleton _ _
 |n+1,a,h,he=>by
  obtain⟨gr,hg,_,hP,hn⟩:=h.next W;rw[It hg]at he ⊢;split at he
  ·rename_i h1;exact absurd he h1
  ·rename_i h1;rw [if_neg h1];obtain ⟨h2,h3⟩:=HE he;rw [h3,List.pairwise_flatMap];refine ⟨fun sv hsv=>IR n _ (hn sv hsv) (h2 sv hsv),?_⟩;rw [List.pairwise_iff_getElem];intro i j hi hj hij x hx y hy e;obtain ⟨m,e1,_⟩:=xm W n _ (hn _ (getElem_mem hi)) x hx;obtain ⟨m2,e2,_⟩:=xm W n _ (hn _ (getElem_mem hj)) y hy;rw [e1,e2] at e;have e4:(a.ms ++ [((dt l a.as gr (bV gr xs))[i]).mode]) ++ m = (a.ms ++ [((dt l a.as gr (bV gr xs))[j]).mode]) ++ m2:=e;rw [append_assoc,append_assoc,List.append_cancel_left_eq] at e4;have e5:((dt l a.as gr (bV gr xs))[i]).mode = ((dt l a.as gr (bV gr xs))[j]).mode:=by simpa using congrArg List.head? e4
   have:=Ko hP (fun hk=>LU hk) (getElem?_eq_getElem hi) (getElem?_eq_getElem hj) e5;omega
end
section
variable{l:Li}{xs:List Tn}{s g:Nat}(W:WkC l xs s g)
include W
end
theorem Q7{l:Li}(hl:l.ok){xs:List Tn}{a:Aq}(F:AqFin l xs a)(hxl:xs.length<=281474976710656):FP 37 [l.av,.lst 4 (xs.map Tn.av),a.av] (.tup [bl true,yg (0,0),br 0]):=by
 have hv:=Uk hl F.s xs (fun x hx=>⟨(F.xo x hx).2.2,(F.xo x hx).2.1⟩) hxl;rw[Jb F,if_pos rfl,KT F]at hv;exact hv
theorem OF{l:Li}(hl:l.ok)(h1:aD l=0)(h2:splitE l=0):FP 143 [l.av] (.tup [.lst 4 ((splitG l).map Gr.av),br 0]):=by
 have h:=Ae l hl;rw[if_pos h1,if_pos h1,h2]at h;exact h
structure AqM0(l:Li)(a:Aq):Prop where
  sp:splitE l=0
  ml:a.ms.length=(splitG l).length
structure AqSg(l:Li)(a:Aq):Prop extends AqM0 l a where
  sg:∀m g,m<a.ms.length->(splitG l)[m]?=some g->an (cK l a.ts a.bs g)=a.ms.getD m 0
theorem AqMd.g{l:Li}{a:Aq}(M:AqMd l a):AqSg l a:=⟨⟨M.sp,M.ml⟩,fun m g h hg=>(M.md m g h hg).1⟩
theorem UR{l:Li}(hl:l.ok){xs:List Tn}{a:Aq}(F:AqFin l xs a)(hs:splitE l=0)(hxl:xs.length<=281474976710656) :
  FP 115 [l.av,.lst 4 (xs.map Tn.av),a.av] (.tup [.lst 4 ((splitG l).map Gr.av),.v .nilIface]):=by
 have z0:eJ (iA 0)=true:=rfl;refine aj func115 ?_;refine gc (OF hl F.li hs) ?_;refine gC (fun t18=>?_) (fun t18=>?_) (st1:=(3,0));cases t18;refine gc (Q7 hl F hxl) ?_;refine gC (fun t28=>?_) (fun t28=>?_) (st1:=(6,0));cases t28;refine gC (fun t32=>?_) (fun t32=>?_) (st1:=(8,0));cases t32;refine bF ?_;rfl
theorem vn{l:Li}(hl:l.ok){xs:List Tn}{a:Aq}(F:AqFin l xs a)(M:AqSg l a)(hxl:xs.length<=281474976710656) :
  FP 41 [l.av,.lst 4 (xs.map Tn.av),a.av] (.tup [.lst 1 (a.ms.map i64),.v .nilIface]):=by
 have hml:=M.ml;have hlm:=F.lm;refine aj func41 ?_;refine gc (UR hl F M.sp hxl) ?_;refine gC (fun t23=>?_) (fun t23=>?_) (st1:=(3,0));cases t23;refine gl ?_;refine gW (Wk.virt 900 1 rfl) ?_;refine aU [3,5,26] [3,5] (fun(i:Nat)=>[(10,some (.ms 900 1 0 i)),(27,some (i64 i))]) (fun i=>[(900,some (.row 1 ((a.ms.take i).map i64)))]) (fun i=>i<=(splitG l).length) (fun i=>(splitG l).length-i) 0 (zero_le _) ?_;rintro i hi K1 J1;refine gC (fun t28=>?_) (fun t28=>?_) (st2:=(16,0))
 ·have hin:=a5 t28;obtain⟨g,hg⟩:=aw hin;obtain⟨m,hm⟩:=aw (l:=a.ms) (i:=i) oz
  have hsg:an (cK l a.ts a.bs g)=m:=by
   have h:=M.sg i g oz hg
   rwa [ao hm]at h
  have hsn:=Rl hl F.s M.sp hg;rw[hsg]at hsn;refine gc (TT hl F.s M.sp hg) ?_;refine gC (fun t38=>?_) (fun t38=>?_) (st1:=(10,0));cases t38;refine gc hsn ?_;refine gC (fun t48=>?_) (fun t48=>?_) (st1:=(13,0));cases t48;refine gs (cz (.tmp rfl) rfl (Gx oz).symm (.tmp rfl) T39 rfl T3 rfl rfl (by simp only[length_cons,length_nil];omega) rfl rfl) ?_ (15,0);refine gW (Wk.of (sl:=[(3,some (.ptr 3 0)),(5,some (.ptr 5 0)),(10,some (.ms 53 1 0 (i+1))),(26,some (i64 (splitG l).length)),(27,some (i64 i))]) (hp:=[(3,some (.box l.av.cells)),(5,some (.box a.cs)),(53,some (.row 1 ((a.ms.take (i+1)).map i64)))]) a7 (.k (.k (.cons rfl (BlkSub.of (by rw[ef hm,map_append];rfl)) .nil)))) ?_ (15,0);refine gW (Wk.rk (k:=53) (d:=900) rfl rfl) ?_;refine ga aN ?_;exact aP J1 (i+1) hin
 have hin:=bh hi t28;rw[<- hml]at hin;subst hin;refine gW ((Wk.freeze (k:=900) rfl).trans<|Wk.of (sl:=[(10,some (.lst 1 (a.ms.map i64)))]) (hp:=[]) (.cons rfl (Sub.of (by rw[bQ (Gx (le_refl _)).symm,take_length])) .nil) .nil) ?_;refine bF ?_;rfl
def c9(p q:List Int)(n:Nat):List Int:=((List.range n).filter fun k=>decide (p.getD k 0≠q.getD k 0)).map Int.ofNat
theorem BN(p q:List Int)(n:Nat):c9 p q (n+1)=c9 p q n++(if p.getD n 0≠q.getD n 0 then[(n:Int)]else[]):=by
 unfold c9;rw[List.range_succ,List.filter_append,map_append];congr 1
 by_cases h:p.getD n 0≠q.getD n 0
 ·rw [if_pos h];have e:List.filter (fun k=>decide (p.getD k 0 ≠ q.getD k 0)) [n] = [n]:=by rw [List.filter_cons,if_pos (decide_eq_true h)]; rfl
  rw[e];rfl
 ·rw [if_neg h];have e:List.filter (fun k=>decide (p.getD k 0 ≠ q.getD k 0)) [n] = []:=by rw [List.filter_cons,if_neg (by rw [decide_eq_false h]; decide)]; rfl
  rw[e];rfl
theorem vD{p q:List Int}{n:Nat}(h:p.getD n 0≠q.getD n 0):c9 p q (n+1)=c9 p q n++[(n:Int)]:=by rw[BN,if_pos h]
theorem uL{p q:List Int}{n:Nat}(h:p.getD n 0=q.getD n 0):c9 p q (n+1)=c9 p q n:=by rw[BN,if_neg (fun h9=>h9 h),append_nil]
theorem xO(p q:List Int)(n:Nat):(c9 p q n).length<=n:=by
 unfold c9;rw[length_map];exact le_trans (List.length_filter_le _ _) (by simp)
theorem Mb{p q:List Int}(hl:p.length=q.length)(h:p≠q):0<(c9 p q p.length).length:=by
 refine Decidable.byContradiction fun h0=>h ?_
 have e:c9 p q p.length=[]:=List.eq_nil_of_length_eq_zero oz;unfold c9 at e;rw[List.map_eq_nil_iff,List.filter_eq_nil_iff]at e;refine List.ext_getElem hl fun i h1 h2=>?_
 have h3:=e i (List.mem_range.2 h1);have h4:p.getD i 0=q.getD i 0:=by simpa using h3
 rw[ao (getElem?_eq_getElem h1),ao (getElem?_eq_getElem h2)]at h4;exact h4
theorem QT{l:Li}(hl:l.ok){xs:List Tn}{a b:Aq}(F:AqFin l xs a)(M:AqSg l a)(F':AqFin l xs b)(M':AqSg l b)(hxl:xs.length<=281474976710656) :
  FP 43 [l.av,.lst 4 (xs.map Tn.av),a.av,b.av] (.tup [.lst 1 ((c9 a.ms b.ms a.ms.length).map i64),.v .nilIface]):=by
 have hml:=M.ml;have hml':=M'.ml;have hlm:=F.lm;refine aj func43 ?_;refine gc (vn hl F M hxl) ?_;refine gC (fun t23=>?_) (fun t23=>?_) (st1:=(3,0));cases t23;refine gc (vn hl F' M' hxl) ?_;refine gC (fun t33=>?_) (fun t33=>?_) (st1:=(6,0));cases t33;refine gl ?_;refine gW (Wk.virt 900 1 rfl) ?_;refine aU [10,12,36] [] (fun(i:Nat)=>[(13,some (.ms 900 1 0 (c9 a.ms b.ms i).length)),(37,some (i64 i))]) (fun i=>[(900,some (.row 1 ((c9 a.ms b.ms i).map i64)))]) (fun i=>i<=a.ms.length) (fun i=>a.ms.length-i) 0 (zero_le _) ?_;rintro i hi K1 J1;refine gC (fun t38=>?_) (fun t38=>?_) (st2:=(14,0))
 ·have hin:=a5 t38;obtain⟨x,hx⟩:=aw hin;obtain⟨y,hy⟩:=aw (l:=b.ms) (i:=i) oz;have hdl:=xO a.ms b.ms i;refine gi (aA hx) ?_;refine gi (aA hy) ?_;refine gD ?_;refine gC (fun t48=>?_) (fun t48=>?_) (st2:=(77777,0))
  ·have hne:a.ms.getD i 0≠b.ms.getD i 0:=by
    rw[ao hx,ao hy];simpa[aa]using t48
   refine gs (cz (.tmp rfl) rfl (by simp) (.tmp rfl) T39 rfl T3 rfl rfl (by simp only[length_cons,length_nil];omega) rfl rfl) ?_ (13,0);refine gW (Wk.of (sl:=[(10,some (.lst 1 (a.ms.map i64))),(12,some (.lst 1 (b.ms.map i64))),(13,some (.ms 52 1 0 (c9 a.ms b.ms (i+1)).length)),(36,some (i64 a.ms.length)),(37,some (i64 i))]) (hp:=[(52,some (.row 1 ((c9 a.ms b.ms (i+1)).map i64)))]) (.k (.k (.cons rfl (Sub.of (by rw[vD hne];simp)) (.k (.k .nil))))) (.cons rfl (BlkSub.of (by rw[vD hne];simp)) .nil)) ?_ (13,0);refine gW (Wk.rk (k:=52) (d:=900) rfl rfl) ?_;refine ga aN ?_;exact aP J1 (i+1) hin
  have heq:a.ms.getD i 0=b.ms.getD i 0:=by
   rw[ao hx,ao hy];simpa[aa]using t48
  refine gW (Wk.of (sl:=[(10,some (.lst 1 (a.ms.map i64))),(12,some (.lst 1 (b.ms.map i64))),(13,some (.ms 900 1 0 (c9 a.ms b.ms (i+1)).length)),(36,some (i64 a.ms.length)),(37,some (i64 i))]) (hp:=[(900,some (.row 1 ((c9 a.ms b.ms (i+1)).map i64)))]) (.k (.k (.cons rfl (Sub.of (by rw[uL heq])) (.k (.k .nil))))) (.cons rfl (BlkSub.of (by rw[uL heq])) .nil)) ?_;refine ga aN ?_;exact aP J1 (i+1) hin
 have hin:=bh hi t38;subst hin;refine gW ((Wk.freeze (k:=900) rfl).trans<|Wk.of (sl:=[(13,some (.lst 1 ((c9 a.ms b.ms a.ms.length).map i64)))]) (hp:=[]) (.cons rfl (Sub.of (by rw[bQ (by simp)])) .nil) .nil) ?_;refine bF ?_;rfl
theorem Sc{l:Li}(hl:l.ok){xs:List Tn}(hL:iO l xs=true)(hxw:∀x∈xs,x.t.wok){A:List Aq}(h:g9 l xs=(A,0)):A.Pairwise (fun b c=>b.ms≠c.ms):=by
 have h0:=KO h rfl;obtain⟨s,g,W,St⟩:=wd hL hl hxw h0;unfold g9 at h;rw[if_neg (fun h=>h h0)]at h
 by_cases hE:(kf eT false l xs).2≠0
 ·rw[if_pos hE]at h;exact absurd (congrArg Prod.snd h) hE
 ·rw[if_neg hE]at h;have e1:(kf eT false l xs).1=A:=congrArg Prod.fst h;rw[<- e1];exact IR W _ _ St (Decidable.not_not.1 hE)
theorem Ss:aF∈(eI eT false fb [dQ] (splitG fb) (splitG fb).length (eL fb)).1:=by
 have h:(eI eT false fb [dQ] (splitG fb) (splitG fb).length (eL fb))=([aF],0):=Ul;rw[h];exact List.mem_singleton.2 rfl
theorem JC:AqFin fb [dQ] aF:=by
 obtain⟨h1,h2⟩:=Bj uB (F:=eT) (sg:=false) _ _ E7 (IA fb _ (by decide)) _ Ss;exact IG uB h1 h2
theorem KV:(List.range 2).all (fun m=>decide (an (cK fb aF.ts aF.bs ((splitG fb).getD m default))=aF.ms.getD m 0))=true:=by decide +kernel
theorem JF:AqSg fb aF:=by
 refine⟨⟨uB.sp,by decide +kernel⟩,fun m g hm hg=>?_⟩;have h:=List.all_eq_true.1 KV m (List.mem_range.2 hm);rw[ao hg]at h;exact of_decide_eq_true h
def CO:List Aq×Nat:=kf (F6 [1,0]) true fb [dQ]
theorem H3:CO=([aF],0):=by decide +kernel
theorem fb_one:FP 109 [fb.av,.lst 4 [dQ.av],.lst 1 [i64 1,i64 0]] (.tup [aF.av,br 0]):=by
 have hop:=Gf fb rQ [dQ] (fun x hx=>by rw[List.mem_singleton.1 hx];exact AW) (by show 1<=100;omega);have hp:([]:List Aq).length+2^(splitG fb).length<=1000:=by decide +kernel
 have hs2:(splitG fb).length=2:=by decide +kernel
 have hw:=fun(hm:([1,0]:List Int).length=(splitG fb).length)=>Ad uB (F6 [1,0]) true (fo:=223) (caps:=[.iptr [.lst 1 (([1,0]:List Int).map i64)]]) (fun k m hk=>Mq (modes:=[1,0]) (by show k<2;omega) (by decide) m) (splitG fb).length (eL fb) E7 [] hp
 have hA:=Q5 (modes:=[1,0]) (by decide) Tc hop (by show 0<4;omega) (by show 4<=100;omega) oz (R:=CO) hw (by rw[H3];decide);rw[H3,hs2]at hA;exact hA
theorem vZ(s:ByteArray)(n:Int):kT (gL s n)=gL s n:=by
 have h0:-((0:Int):Rat)=((0:Int):Rat):=by decide +kernel
 have h:∀(t:ByteArray)(q:Rat),oo ⟨t,rt q,rt ((0:Int):Rat)⟩=⟨t,rt q,rt ((0:Int):Rat)⟩:=fun t q=>by
  show(⟨t,rt (rt q).q,rt (-(rt ((0:Int):Rat)).q)⟩:Mk)=_;rw[cf,cf,h0]
 show(⟨s,[oo ⟨⟨#[97]⟩,rt ((0:Int):Rat),rt ((0:Int):Rat)⟩,oo ⟨⟨#[98]⟩,rt (n:Rat),rt ((0:Int):Rat)⟩]⟩:Bd)=gL s n;rw[h,h];rfl
theorem Qn:vR fb=fb:=by
 rw[Fc vI];show(⟨fb.name,[kT (gL ⟨#[102,114,97,109,101]⟩ 4),kT (gL ⟨#[99,114,97,110,107]⟩ 3),kT (gL ⟨#[99,111,117,112,108,101,114]⟩ 5),kT (gL ⟨#[114,111,99,107,101,114]⟩ 6)],fb.jo,fb.dv⟩:Li)=fb;rw[vZ,vZ,vZ,vZ];rfl
theorem E1:FP 39 [] (bl true):=by
 have hO:=vn rQ JC JF (by decide);have hM:=K8 fb rQ;rw[vI,Qn]at hM;refine aj func39 ?_;refine gc Sx ?_ (1,5)
 first | (refine gs (cw (.tmp rfl) rfl rfl rfl (.tmp rfl) rfl rfl T26 rfl rfl) ?_ (2, 1); trace "@@linkwork/linkworklaw29.awake 1.4 cw") | (refine gs (iJ (.tmp rfl) rfl rfl (.tmp rfl) rfl rfl T26 rfl rfl rfl) ?_ (2, 1); trace "@@linkwork/linkworklaw29.awake 1.4 iJ") | (refine go ?_ (2, 1); trace "@@linkwork/linkworklaw29.awake 1.4 s_auto")
 first | (refine gs (bm (.tmp rfl) rfl rfl T26 rfl rfl rfl) ?_; trace "@@linkwork/linkworklaw29.awake 2.0 bm") | (refine go ?_; trace "@@linkwork/linkworklaw29.awake 2.0 s_auto")
 refine gc (Con.sA (.cons (.refl _) (.cons CS (.cons (.refl _) .nil))) fb_one) ?_ (2,9)
 first | (refine gs (cw (.tmp rfl) rfl rfl rfl (.tmp rfl) rfl rfl T41 rfl rfl) ?_ (3, 1); trace "@@linkwork/linkworklaw29.awake 2.8 cw") | (refine gs (iJ (.tmp rfl) rfl rfl (.tmp rfl) rfl rfl T41 rfl rfl rfl) ?_ (3, 1); trace "@@linkwork/linkworklaw29.awake 2.8 iJ") | (refine go ?_ (3, 1); trace "@@linkwork/linkworklaw29.awake 2.8 s_auto")
 first | (refine gs (bm (.tmp rfl) rfl rfl T26 rfl rfl rfl) ?_ (3, 3); trace "@@linkwork/linkworklaw29.awake 3.0 bm") | (refine go ?_ (3, 3); trace "@@linkwork/linkworklaw29.awake 3.0 s_auto")
 first | (refine gs (bm (.tmp rfl) rfl rfl T41 rfl rfl rfl) ?_; trace "@@linkwork/linkworklaw29.awake 3.2 bm") | (refine go ?_; trace "@@linkwork/linkworklaw29.awake 3.2 s_auto")
 refine gc (Con.sA (.cons (.refl _) (.cons CS (.cons (.refl _) .nil))) hO) ?_ (4,1)
 first | (refine gs (bm (.tmp rfl) rfl rfl T26 rfl rfl rfl) ?_; trace "@@linkwork/linkworklaw29.awake 4.0 bm") | (refine go ?_; trace "@@linkwork/linkworklaw29.awake 4.0 s_auto")
 refine gc hM ?_ (4,7)
 first | (refine gs (cw (.tmp rfl) rfl rfl rfl (.tmp rfl) rfl rfl T26 rfl rfl) ?_; trace "@@linkwork/linkworklaw29.awake 4.6 cw") | (refine gs (iJ (.tmp rfl) rfl rfl (.tmp rfl) rfl rfl T26 rfl rfl rfl) ?_; trace "@@linkwork/linkworklaw29.awake 4.6 iJ") | (refine go ?_; trace "@@linkwork/linkworklaw29.awake 4.6 s_auto")
 refine bR (fun _=>(zj [1,0] (by decide))) ?_ (5,17)
 first | (refine gs (dq rfl rfl rfl (fun h => bm (.tmp rfl) rfl rfl T26 rfl rfl rfl)) ?_ (5, 18); trace "@@linkwork/linkworklaw29.awake 5.16 bm") | (refine go ?_ (5, 18); trace "@@linkwork/linkworklaw29.awake 5.16 s_auto")
 first | (refine gs (dq rfl rfl rfl (fun h => bm (.tmp rfl) rfl rfl T26 rfl rfl rfl)) ?_; trace "@@linkwork/linkworklaw29.awake 5.17 bm") | (refine go ?_; trace "@@linkwork/linkworklaw29.awake 5.17 s_auto")
 refine bR (fun _=>(QI fb rQ)) ?_;refine af ?_;rfl
theorem L8(l:Li)(hw:l.okw)(xs:List Tn)(hxw:∀x∈xs,x.t.wok)(hxl:xs.length<=281474976710656):FP 7 [l.av,.lst 4 (xs.map Tn.av)] (bl true):=by
 refine aj func7 ?_;refine gc E1 ?_ (1,4)
 first | (refine gs (dq rfl rfl rfl (fun h => bm (.tmp rfl) rfl rfl T26 rfl rfl rfl)) ?_; trace "@@linkwork/linkworklaw29.ModesTrue 1.3 bm") | (refine go ?_; trace "@@linkwork/linkworklaw29.ModesTrue 1.3 s_auto")
 refine bR (fun _=>(Pt l hw xs hxl)) ?_ (1,10)
 first | (refine gs (dq rfl rfl rfl (fun h => bm (.tmp rfl) rfl rfl T26 rfl rfl rfl)) ?_; trace "@@linkwork/linkworklaw29.ModesTrue 1.9 bm") | (refine go ?_; trace "@@linkwork/linkworklaw29.ModesTrue 1.9 s_auto")
 refine bR (fun h=>(HP l (vj (z8 (PW h) hxw).1 hw))) ?_;refine gC (fun t29=>?_) (fun t29=>?_) (st2:=(3,1))
 ·refine gc E1 ?_;refine af ?_
  first |rfl |(simp;done)
 obtain⟨h1,hli⟩:=R9 t29;obtain⟨g1,hx20,hxo⟩:=z8 h1 hxw;have hl:=vj g1 hw;obtain⟨A,e,P⟩:=Mp hl h1 hxw;have FF:=U8 hl h1 hxw P.eq;have MM:=UK hl h1 hxw P.eq;have hAl:=P.ln
 first | (refine gs (bm (.tmp rfl) rfl rfl T26 rfl rfl rfl) ?_; trace "@@linkwork/linkworklaw29.ModesTrue 3.0 bm") | (refine go ?_; trace "@@linkwork/linkworklaw29.ModesTrue 3.0 s_auto")
 refine gc P.all ?_;refine gC (fun t38=>?_) (fun t38=>?_) (st1:=(5,2)) (st2:=(6,2))
 ·have he:e≠0:=df t38;have hA:=PB P.eq he;subst hA
  first | (refine go ?_; refine gl ?_; trace "@@linkwork/linkworklaw29.ModesTrue 5.1 ou") | (refine go ?_; refine ge rfl ?_; trace "@@linkwork/linkworklaw29.ModesTrue 5.1 me") | (refine go ?_; trace "@@linkwork/linkworklaw29.ModesTrue 5.1 s_auto")
  refine af ?_;rfl
 have he:e=0:=cZ t38;have hnd:=Sc hl h1 hxw (A:=A) (by rw[P.eq,he])
 first | (refine go ?_; refine gl ?_; trace "@@linkwork/linkworklaw29.ModesTrue 6.1 ou") | (refine go ?_; refine ge rfl ?_; trace "@@linkwork/linkworklaw29.ModesTrue 6.1 me") | (refine go ?_; trace "@@linkwork/linkworklaw29.ModesTrue 6.1 s_auto")
 refine aU [1,2,5,42,43] [2] (fun(i:Nat)=>[(44,some (i64 i))]) (fun _=>[]) (fun i=>i<=A.length) (fun i=>A.length-i) 0 (zero_le _) ?_;rintro i hi K1 J1;refine gC (fun t45=>?_) (fun t45=>?_) (st2:=(13,2))
 ·have hin:=a5 t45;obtain⟨a,ha⟩:=aw hin;have ham:=mem_of_getElem? ha;have F:=FF a ham;have M:=(MM a ham).g;have hlm:=F.lm;refine gi (aA ha) ?_ (8,2)
  first | (refine gs (bm (.tmp rfl) rfl rfl T41 rfl rfl rfl) ?_ (8, 4); trace "@@linkwork/linkworklaw29.ModesTrue 8.1 bm") | (refine go ?_ (8, 4); trace "@@linkwork/linkworklaw29.ModesTrue 8.1 s_auto")
  first | (refine gs (cw (.tmp rfl) rfl rfl rfl (.tmp rfl) rfl rfl T41 rfl rfl) ?_ (9, 1); trace "@@linkwork/linkworklaw29.ModesTrue 8.3 cw") | (refine gs (iJ (.tmp rfl) rfl rfl (.tmp rfl) rfl rfl T41 rfl rfl rfl) ?_ (9, 1); trace "@@linkwork/linkworklaw29.ModesTrue 8.3 iJ") | (refine go ?_ (9, 1); trace "@@linkwork/linkworklaw29.ModesTrue 8.3 s_auto")
  first | (refine gs (bm (.tmp rfl) rfl rfl T26 rfl rfl rfl) ?_ (9, 3); trace "@@linkwork/linkworklaw29.ModesTrue 9.0 bm") | (refine go ?_ (9, 3); trace "@@linkwork/linkworklaw29.ModesTrue 9.0 s_auto")
  first | (refine gs (bm (.tmp rfl) rfl rfl T41 rfl rfl rfl) ?_; trace "@@linkwork/linkworklaw29.ModesTrue 9.2 bm") | (refine go ?_; trace "@@linkwork/linkworklaw29.ModesTrue 9.2 s_auto")
  refine gc (vn hl F M oz) ?_ (10,6)
  first | (refine gs (dq rfl rfl rfl (fun h => bm (.opt rfl (o1 h)) rfl rfl T39 rfl rfl rfl)) ?_; trace "@@linkwork/linkworklaw29.ModesTrue 10.5 bm") | (refine go ?_; trace "@@linkwork/linkworklaw29.ModesTrue 10.5 s_auto")
  refine bR (fun _=>(zj a.ms oz)) ?_;refine gC (fun t63=>?_) (fun t63=>?_) (st1:=(11,0));cases t63;refine ga aN ?_;exact aP J1 (i+1) hin
 first | (refine go ?_; refine gl ?_; trace "@@linkwork/linkworklaw29.ModesTrue 13.1 ou") | (refine go ?_; refine ge rfl ?_; trace "@@linkwork/linkworklaw29.ModesTrue 13.1 me") | (refine go ?_; trace "@@linkwork/linkworklaw29.ModesTrue 13.1 s_auto")
 refine gC (fun t67=>?_) (fun t67=>?_)
 ·refine af ?_;rfl
 have hn2:2<=A.length:=by
  have h9:¬((A.length:Int)<2):=of_decide_eq_false t67;omega
 obtain⟨a,ha⟩:=aw (l:=A) (i:=0) oz;obtain⟨b,hb⟩:=aw (l:=A) (i:=A.length-1) oz;have ham:=mem_of_getElem? ha;have hbm:=mem_of_getElem? hb;have F:=FF a ham;have M:=(MM a ham).g;have F':=FF b hbm;have M':=(MM b hbm).g;have hlm:=F.lm;have hml:=M.ml;have hml':=M'.ml
 have hne:a.ms≠b.ms:=by
  rw[List.pairwise_iff_getElem]at hnd;obtain⟨i2,e3⟩:=List.getElem?_eq_some_iff.1 ha;obtain⟨j2,e2⟩:=List.getElem?_eq_some_iff.1 hb;have h9:=hnd 0 (A.length-1) i2 j2 oz
  rwa [e2,e3]at h9
 have hpos:=Mb oz hne;refine gi (aA ha) ?_ (15,3)
 first | (refine gs (bm (.tmp rfl) rfl rfl T41 rfl rfl rfl) ?_ (15, 6); trace "@@linkwork/linkworklaw29.ModesTrue 15.2 bm") | (refine go ?_ (15, 6); trace "@@linkwork/linkworklaw29.ModesTrue 15.2 s_auto")
 first | (refine go ?_; refine gl ?_; trace "@@linkwork/linkworklaw29.ModesTrue 15.5 ou") | (refine go ?_; refine ge rfl ?_; trace "@@linkwork/linkworklaw29.ModesTrue 15.5 me") | (refine go ?_; trace "@@linkwork/linkworklaw29.ModesTrue 15.5 s_auto")
 refine ga (iL oz (by unfold a6;omega)) ?_;refine gi (aA hb) ?_ (15,9)
 first | (refine gs (bm (.tmp rfl) rfl rfl T41 rfl rfl rfl) ?_ (15, 12); trace "@@linkwork/linkworklaw29.ModesTrue 15.8 bm") | (refine go ?_ (15, 12); trace "@@linkwork/linkworklaw29.ModesTrue 15.8 s_auto")
 first | (refine gs (cw (.tmp rfl) rfl rfl rfl (.tmp rfl) rfl rfl T41 rfl rfl) ?_ (15, 13); trace "@@linkwork/linkworklaw29.ModesTrue 15.11 cw") | (refine gs (iJ (.tmp rfl) rfl rfl (.tmp rfl) rfl rfl T41 rfl rfl rfl) ?_ (15, 13); trace "@@linkwork/linkworklaw29.ModesTrue 15.11 iJ") | (refine go ?_ (15, 13); trace "@@linkwork/linkworklaw29.ModesTrue 15.11 s_auto")
 first | (refine gs (cw (.tmp rfl) rfl rfl rfl (.tmp rfl) rfl rfl T41 rfl rfl) ?_; trace "@@linkwork/linkworklaw29.ModesTrue 15.12 cw") | (refine gs (iJ (.tmp rfl) rfl rfl (.tmp rfl) rfl rfl T41 rfl rfl rfl) ?_; trace "@@linkwork/linkworklaw29.ModesTrue 15.12 iJ") | (refine go ?_; trace "@@linkwork/linkworklaw29.ModesTrue 15.12 s_auto")
 refine gD ?_ (16,1)
 first | (refine gs (bm (.tmp rfl) rfl rfl T26 rfl rfl rfl) ?_ (16, 3); trace "@@linkwork/linkworklaw29.ModesTrue 16.0 bm") | (refine go ?_ (16, 3); trace "@@linkwork/linkworklaw29.ModesTrue 16.0 s_auto")
 first | (refine gs (bm (.tmp rfl) rfl rfl T41 rfl rfl rfl) ?_ (16, 4); trace "@@linkwork/linkworklaw29.ModesTrue 16.2 bm") | (refine go ?_ (16, 4); trace "@@linkwork/linkworklaw29.ModesTrue 16.2 s_auto")
 first | (refine gs (bm (.tmp rfl) rfl rfl T41 rfl rfl rfl) ?_; trace "@@linkwork/linkworklaw29.ModesTrue 16.3 bm") | (refine go ?_; trace "@@linkwork/linkworklaw29.ModesTrue 16.3 s_auto")
 refine gc (QT hl F M F' M' oz) ?_ (18,2)
 first | (refine gs (bm (.tmp rfl) rfl rfl T39 rfl rfl rfl) ?_ (18, 3); trace "@@linkwork/linkworklaw29.ModesTrue 18.1 bm") | (refine go ?_ (18, 3); trace "@@linkwork/linkworklaw29.ModesTrue 18.1 s_auto")
 first | (refine go ?_; refine gl ?_; trace "@@linkwork/linkworklaw29.ModesTrue 18.2 ou") | (refine go ?_; refine ge rfl ?_; trace "@@linkwork/linkworklaw29.ModesTrue 18.2 me") | (refine go ?_; trace "@@linkwork/linkworklaw29.ModesTrue 18.2 s_auto")
 refine gW (Wk.virt 900 1 rfl) ?_;refine aU [11,12,13,14,87] [11,12] (fun(k:Nat)=>[(15,some (.ms 900 1 0 (c9 a.ms b.ms k).length)),(88,some (i64 k))]) (fun k=>[(900,some (.row 1 ((c9 a.ms b.ms k).map i64)))]) (fun k=>k<=a.ms.length) (fun k=>a.ms.length-k) 0 (zero_le _) ?_;rintro k hk K2 J2;refine gC (fun t89=>?_) (fun t89=>?_) (st1:=(21,3)) (st2:=(24,0))
 ·have hkn:=a5 t89;obtain⟨x,hx⟩:=aw hkn;obtain⟨y,hy⟩:=aw (l:=b.ms) (i:=k) oz;have hdl:=xO a.ms b.ms k
  first | (refine gs (bm (.tmp rfl) rfl rfl T39 rfl rfl rfl) ?_ (21, 4); trace "@@linkwork/linkworklaw29.ModesTrue 21.2 bm") | (refine go ?_ (21, 4); trace "@@linkwork/linkworklaw29.ModesTrue 21.2 s_auto")
  first | (refine go ?_; refine gl ?_ (21, 8); trace "@@linkwork/linkworklaw29.ModesTrue 21.3 ou") | (refine go ?_; refine ge rfl ?_ (21, 8); trace "@@linkwork/linkworklaw29.ModesTrue 21.3 me") | (refine go ?_ (21, 8); trace "@@linkwork/linkworklaw29.ModesTrue 21.3 s_auto")
  first | (refine gs (dq rfl rfl rfl (fun h => bm (.opt rfl (o1 h)) rfl rfl T39 rfl rfl rfl)) ?_; trace "@@linkwork/linkworklaw29.ModesTrue 21.7 bm") | (refine go ?_; trace "@@linkwork/linkworklaw29.ModesTrue 21.7 s_auto")
  refine lS (fun _=>(aA hx)) ?_ (21,11)
  first | (refine gs (dq rfl rfl rfl (fun h => bm (.opt rfl (o1 h)) rfl rfl T3 rfl rfl rfl)) ?_ (21, 13); trace "@@linkwork/linkworklaw29.ModesTrue 21.10 bm") | (refine go ?_ (21, 13); trace "@@linkwork/linkworklaw29.ModesTrue 21.10 s_auto")
  first | (refine gs (dq rfl rfl rfl (fun h => bm (.opt rfl (o1 h)) rfl rfl T39 rfl rfl rfl)) ?_; trace "@@linkwork/linkworklaw29.ModesTrue 21.12 bm") | (refine go ?_; trace "@@linkwork/linkworklaw29.ModesTrue 21.12 s_auto")
  refine lS (fun _=>(aA hy)) ?_ (21,16)
  first | (refine gs (dq rfl rfl rfl (fun h => bm (.opt rfl (o1 h)) rfl rfl T3 rfl rfl rfl)) ?_; trace "@@linkwork/linkworklaw29.ModesTrue 21.15 bm") | (refine go ?_; trace "@@linkwork/linkworklaw29.ModesTrue 21.15 s_auto")
  refine gD ?_;refine gC (fun t108=>?_) (fun t108=>?_) (st2:=(77777,0))
  ·have hd:a.ms.getD k 0≠b.ms.getD k 0:=by
    rw[ao hx,ao hy];intro e;subst e;simp[aa]at t108
   refine gs (cz (.tmp rfl) rfl (by simp) (.tmp rfl) T39 rfl T3 rfl rfl (by simp only[length_cons,length_nil];omega) rfl rfl) ?_ (23,0);refine gW (Wk.of (sl:=[(11,some (.ptr 11 0)),(12,some (.ptr 12 0)),(13,some (.lst 1 ((c9 a.ms b.ms a.ms.length).map i64))),(14,some (.v .nilIface)),(15,some (.ms 112 1 0 (c9 a.ms b.ms (k+1)).length)),(87,some (i64 a.ms.length)),(88,some (i64 k))]) (hp:=[(11,some (.box a.cs)),(12,some (.box b.cs)),(112,some (.row 1 ((c9 a.ms b.ms (k+1)).map i64)))]) (.k (.k (.k (.k (.cons rfl (Sub.of (by rw[vD hd];simp)) (.k (.k .nil))))))) (.k (.k (.cons rfl (BlkSub.of (by rw[vD hd];simp)) .nil)))) ?_ (23,0)
   refine gW (Wk.rk (k:=112) (d:=900) rfl rfl) ?_;refine ga aN ?_;exact aP J2 (k+1) hkn
  have hd:a.ms.getD k 0=b.ms.getD k 0:=by
   rw[ao hx,ao hy];refine Decidable.byContradiction fun h9=>?_
   have hkb:(k:Int)<b.ms.length:=by omega
   simp[aa,h9,hkb]at t108
  refine gW (Wk.of (sl:=[(11,some (.ptr 11 0)),(12,some (.ptr 12 0)),(13,some (.lst 1 ((c9 a.ms b.ms a.ms.length).map i64))),(14,some (.v .nilIface)),(15,some (.ms 900 1 0 (c9 a.ms b.ms (k+1)).length)),(87,some (i64 a.ms.length)),(88,some (i64 k))]) (hp:=[(11,some (.box a.cs)),(12,some (.box b.cs)),(900,some (.row 1 ((c9 a.ms b.ms (k+1)).map i64)))]) (.k (.k (.k (.k (.cons rfl (Sub.of (by rw[uL hd])) (.k (.k .nil))))))) (.k (.k (.cons rfl (BlkSub.of (by rw[uL hd])) .nil)))) ?_
  refine ga aN ?_;exact aP J2 (k+1) hkn
 have hkn:=bh hk t89;subst hkn;have hdl:=xO a.ms b.ms a.ms.length;refine gW ((Wk.freeze (k:=900) rfl).trans<|Wk.of (sl:=[(13,some (.lst 1 ((c9 a.ms b.ms a.ms.length).map i64))),(14,some (.v .nilIface)),(15,some (.lst 1 ((c9 a.ms b.ms a.ms.length).map i64)))]) (hp:=[]) (.k (.k (.cons rfl (Sub.of (by rw[bQ (by simp)])) .nil))) .nil) ?_;refine bR (fun _=>(zj (c9 a.ms b.ms a.ms.length) oz)) ?_ (24,10)
 first | (refine go ?_; refine bZ ?_; trace "@@linkwork/linkworklaw29.ModesTrue 24.9 ou") | (refine go ?_; refine Lr (fun _ => rfl) ?_; trace "@@linkwork/linkworklaw29.ModesTrue 24.9 me") | (refine go ?_; trace "@@linkwork/linkworklaw29.ModesTrue 24.9 s_auto")
 refine af ?_;have h9:aa .gtr ((c9 a.ms b.ms a.ms.length).length:Int) 0=true:=decide_eq_true oz;simp[h9];rfl
open Go.Proofs Go.Proofs.YtpdiojikejnehaaGreat
open Go.ChangeShapes Go.WideShapes Go.ChangeAt Go.RowKit
set_option maxRecDepth 100000 in
theorem KU(os:Os)(started:os.Started)(H:Type)(enc:TypeId×Value->H) :
  ReturnsInHanded {} Tryz.checked os 7 .any (Rows.modesTrueSpec.pre6 enc prog Tryz.f7 Rows.modesTrueRow.domain false) (Rows.modesTrueSpec.post enc prog Tryz.f7 false true false false):=by
 refine returnsInHanded_of_change_sized (C := Tryz.checked) own started (by kernel_rfl) func7
  (ChangeSpec.witness6 (enc:=enc) (C:=Tryz.checked) false ⟨#[],#[.agg #[.string ⟨#[]⟩,.slice none 0 0,.slice none 0 0,.slice none 0 0],.slice none 0 0],[]⟩ 8 (by kernel_rfl) (by kernel_rfl) (by kernel_rfl) (by kernel_rfl)) ?_
 intro W base args ds gs before hval0 hW hcnd hwt0 _;have hval:∀(j:Nat) t v,Tryz.f7.params[j]?=some t->args[j]?=some v->Value.okWide prog W .any base t v:=hval0;have hwt:(DataW.weightsEach prog (Tryz.f7.params.toList++Rows.modesTrueSpec.plain.varTypes prog) (ds++gs)).all (· <= reachBytes)=true:=hwt0;have hW':=hW;obtain⟨p,q,hA0,hV,rfl,hfz,hnd⟩:=hW;have hA:DataW.TrodAll enc prog W 0 (fun _=>true) true Tryz.f7.params.toList args.toList ds p:=hA0;rw[Tryz.params7]at hA hval hwt;obtain⟨v0,v1,d0,d1,p0,p1,rfl,rfl,rfl,h0,h1⟩:=trodAll_two hA;obtain⟨rfl,rfl⟩:=trodVars_none hV;clear hA0 hval0 hwt0;have hlt:∀x∈p0++p1,x.block<W.heap.size:=fun x hx=>hW'.lt x (by simpa using hx)
 have hw0:∀n∈d0.weights prog 26,n<=reachBytes:=fun n hn=>by
  have:=List.all_eq_true.1 hwt n (DataW.weights_mem_each (j:=0) rfl rfl n hn);simpa using this
 have hw1:∀n∈d1.weights prog 88,n<=reachBytes:=fun n hn=>by
  have:=List.all_eq_true.1 hwt n (DataW.weights_mem_each (j:=1) rfl rfl n hn);simpa using this
 obtain⟨x0,q0,r0⟩:=QF Tryz.underlying26 Qf (hval 0 26 v0 rfl rfl) h0 hw0;obtain⟨x1,q1,r1⟩:=Nh NE (fun _=>rfl) (Ni Tryz.underlying88 (hval 1 88 v1 rfl rfl)) h1 hw1
 have hc:=gO.calls (W:=W) (vs:=#[v0,v1]) (L8 x0 q0 x1 q1.1 q1.2) rfl (fun j v x hv hx=>by
  match j,hv,hx with
  |0,hv,hx=>cases hv;cases hx;exact r0
  |1,hv,hx=>cases hv;cases hx;exact r1)
 refine hc.mono fun e W' ⟨he,hb⟩=>?_
 subst he;refine⟨_,rfl,MR hW' rfl rfl (fun _ _ _=>trodAll_mk1 (shut_bool Tryz.underlying4 _)) (fun sp hsp=>?_) rfl hb (ok_one (by kernel_rfl) rfl (okWide_bool_mk Tryz.underlying4 _))⟩;rw[Tryz.params7];have hs:∀x∈p0++p1,sp x.block=true:=fun x hx=>hsp x (by simpa using hx)
 have g0:=DJ (sp':=sp) (by kernel_rfl) (of_decide_eq_true (by kernel_rfl)) h0 hb (fun x hx=>hlt x (by simp[hx])) (fun x hx=>hs x (by simp[hx]));have g1:=DJ (sp':=sp) (by kernel_rfl) (of_decide_eq_true (by kernel_rfl)) h1 hb (fun x hx=>hlt x (by simp[hx])) (fun x hx=>hs x (by simp[hx]));have g:=trodAll_mk2 g0 g1;rw[show p0++p1++[]=p0++p1 from by simp];exact g
set_option maxRecDepth 100000 in
theorem RW:prog.closure 7=[7,39,54,131,243,88,188,295,362,189,187,221,312,368,313,292,293,360,386,375,388,335,387,334,294,361,389,336,109,99,143,250,104,204,300,363,364,390,205,208,303,305,325,367,366,373,391,392,351,393,394,397,395,396,323,258,257,304,306,324,206,301,302,365,232,321,372,207,339,376,398,405,400,408,409,407,377,399,406,402,401,378,251,340,105,209,198,223,101,151,233,234,322,370,371,165,231,320,237,318,278,328,100,199,297,298,200,18,63,144,252,230,319,238,329,286,330,331,239,240,121,145,253,341,146,255,352,254,342,348,384,343,379,344,380,381,345,382,383,403,346,347,349,350,147,229,64,148,256,262,353,385,404,149,150,170,91,89,190,153,191,280,127,357,283,176,285,356,172,192,171,152,169,261,80,174,284,177,71,163,281,358,77,175,75,78,154,65,70,166,156,155,259,354,260,73,157,167,272,273,274,116,168,282,173,275,270,266,276,267,263,264,265,355,268,269,271,161,277,279,158,164,66,74,90,159,67,81,178,76,82,79,160,162,201,299,41,115,37,106,211,212,307,308,128,213,210,215,216,309,310,311,332,214,218,219,217,27,69,46,118,119,120,42,110,224,314,369,32,56,40,111,225,316,315,317,112,226,236,326,327,374,247,113,227,228,38,108,222,220,139,248,337,107,114,16,58,135,59,136,245,137,246,333,138,98,197,33,43]:=by kernel_rfl
theorem Up:joinedFacts prog 7 Tryz.f7 Rows.modesTrueSpec Rows.modesTrueRow=true:=by
 unfold joinedFacts Program.recurses Program.inPlace Program.unfollowed Program.varsNamed;rw[RW,FE,Qe,JG,Kk,Lj,Pf]
 kernel_rfl
theorem modesTrue_holds:Rows.ModesTrueSaid :=
 OpenClaim.holds_of_wide 7 Tryz.f7 rfl rfl rfl rfl rfl rfl rfl ⟨rfl, rfl, rfl, rfl, rfl⟩ rfl rfl rfl rfl rfl (by kernel_rfl) func7 Up
  (of_decide_eq_true (by kernel_rfl)) (by unfold Func.isWrapper;first |(rw[if_pos (by decide +kernel)];kernel_rfl) |(rw[if_neg (by decide +kernel)];exact⟨rfl,rfl⟩))
  (fun os started H enc _=>KU os started H enc)
end Go.Lw
namespace Go.Proofs.YtpdiojikejnehaaGreat
theorem modesTrue_proved:Rows.ModesTrueSaid:=Go.Lw.modesTrue_holds
end Go.Proofs.YtpdiojikejnehaaGreat
