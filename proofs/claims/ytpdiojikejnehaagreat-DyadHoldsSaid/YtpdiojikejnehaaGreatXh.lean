/- DyadHolds: for anything drawn and any group the law returns true and leaves its arguments as they were. No other condition. Part 8 of 8: the statement -/
import Derived.Test.YtpdiojikejnehaaGreatXg
set_option linter.unusedVariables false
open List (mem_of_getElem? map_cons mem_cons length_cons length_nil all_eq_true getElem?_map getElem?_eq_getElem map_append length_take take_of_length_le take_length map_nil not_mem_nil length_map map_map map_set)
open Nat (le_refl le_trans zero_le)
open Bool (and_eq_true)
open Int (toNat_natCast)
open Go.Proofs.Tryz
namespace Go.Lw
open Lean.Grind (CommRing)
section
variable{ts T:LL}(L:Lf ts T)
include L
theorem Lf.pp{l:Li}{bs bs':List Pq}{j:Jt}{i:Int}(tie:(j.a=i/\fx bs bs' ts.length j.b)\/(j.a≠i/\j.b=i/\fx bs bs' ts.length j.a)) :
  ae L.pos (Lw.pinP l T bs' j i).1=ae L.pos (au T (Lw.pinP l ts bs j i).1)/\ae L.pos (Lw.pinP l T bs' j i).2=ae L.pos (au T (Lw.pinP l ts bs j i).2):=by
 unfold Lw.pinP;rcases tie with⟨e,hs⟩ |⟨e,e2,hs⟩
 ·rw[if_pos e,if_pos e];exact L.pt l hs j.on
 ·rw[if_neg e,if_neg e];exact L.pt l hs j.point
end
structure DetH(l:Li)(a:As)(g:Gr)(s:Sv):Prop where
  lf:Lf (llq a.rs) s.ts
  sg:am (bX l s.ts (a6 (aC a) g.bo s.ps) g)=s.mode
  rd:ae lf.pos (iY l s.ts (a6 (aC a) g.bo s.ps) g)=ae lf.pos (au s.ts (fN l a g))
section
variable{l:Li}{a:As}{r:Nat}(tw:Tw (llq a.rs) r)(hN:∀p∈aC a,Nq (llq a.rs).length p)
include tw hN
theorem Sl{i k z0 z1 z2:Int}{j0 j1 j2:Jt}(ne:i≠k)(t0:TieO l 0 [i,k] z0 i j0)(t1:TieO l 0 [i,k] z1 k j1)(h2:l.jo[z2.toNat]?=some j2)
  (hi:0<=i) (hk:0<=k) (hil:i.toNat<(aC a).length) (hkl:k.toNat<(aC a).length) (hn:∀j∈l.jo,0<=j.a/\0<=j.b)
  {s:Sv} (hs:s∈il l a i k j0 j1 j2):DetH l a ⟨1,[i,k],[z0,z1,z2],0⟩ s:=by
 have e0:ai l ⟨1,[i,k],[z0,z1,z2],0⟩ 0=j0:=aw t0.hj;have e1:ai l ⟨1,[i,k],[z0,z1,z2],0⟩ 1=j1:=aw t1.hj;have e2:ai l ⟨1,[i,k],[z0,z1,z2],0⟩ 2=j2:=aw h2;have b0:aA ⟨1,[i,k],[z0,z1,z2],0⟩ 0=i:=rfl;have b1:aA ⟨1,[i,k],[z0,z1,z2],0⟩ 1=k:=rfl;unfold il at hs;split at hs
 ·cases hs
 ·rename_i hz;obtain⟨w1,w2⟩:=pZ (Bool.eq_false_iff.2 hz);split at hs
  ·cases hs
  ·rename_i hc;have hc:=Decidable.not_not.1 hc;have geo:=KJ tw hc (Ff tw hN w1);unfold jK at hs;obtain⟨m,hm,rfl⟩:=List.mem_map.1 hs;obtain⟨x,hx⟩:=aH (List.mem_range.1 hm);have G:=geo m x hx;unfold io;rw[aw hx];obtain⟨n0,n1⟩:=hn j0 (mem_of_getElem? t0.hj);obtain⟨n2,n3⟩:=hn j1 (mem_of_getElem? t1.hj);generalize hM:dc (an l a j0 i) (an l a j1 k) (qE (aX (ah l j2 i) (ah l j0 i))) (qE (aX (ah l j2 k) (ah l j1 k)))=M at *;obtain⟨B0,hB0⟩:∃B0,B0=f7 M.ts x ⟨ah l j0 i,P2.l (an l a j0 i),ah l j2 i⟩:=⟨_,rfl⟩
   obtain⟨B1,hB1⟩:∃B1,B1=f7 M.ts x ⟨ah l j1 k,P2.l (an l a j1 k),ah l j2 k⟩:=⟨_,rfl⟩
   have hbs:a6 (aC a) [i,k] [B0,B1]=((aC a).set i.toNat B0).set k.toNat B1:=rfl;have g0:(a6 (aC a) [i,k] [B0,B1]).getD i.toNat bt=B0:=by rw[hbs,kG hk hi ne,nH hil]
   have gn:∀b:Int,0<=b->b∉[i,k]->fx (aC a) (a6 (aC a) [i,k] [B0,B1]) (llq a.rs).length b:=fun b h0 hb=>ph tw hN (by
    rw[hbs,kG hk h0 (fun e=>hb (by simp[e])),kG hi h0 (fun e=>hb (by simp[e]))])
   have q0:bn M.ts B0 (ah l j2 i)=(dE M.ts x.1,dE M.ts x.2):=by
    rw[hB0];refine(ud w1).trans ?_;unfold kR ji;refine Prod.ext ?_ ?_
    ·dsimp only;grind
    ·dsimp only;grind
   have L:=G.lf
   have P0:=L.pp (l:=l) (bs:=aC a) (bs':=a6 (aC a) [i,k] [B0,B1]) (j:=j0) (i:=i) (by
    rcases t0.tie with⟨e,hb⟩ |⟨e,hb⟩
    ·exact .inl ⟨e,gn _ n1 hb⟩
    ·exact .inr ⟨fun e2=>hb (by simp[e2]),e,gn _ n0 hb⟩)
   have P1:=L.pp (l:=l) (bs:=aC a) (bs':=a6 (aC a) [i,k] [B0,B1]) (j:=j1) (i:=k) (by
    rcases t1.tie with⟨e,hb⟩ |⟨e,hb⟩
    ·exact .inl ⟨e,gn _ n3 hb⟩
    ·exact .inr ⟨fun e2=>hb (by simp[e2]),e,gn _ n2 hb⟩)
   have hr:=uM L (l:=l) (g:=⟨1,[i,k],[z0,z1,z2],0⟩) (bs:=aC a) (bs':=a6 (aC a) [i,k] [B0,B1]) (fun _=>by rw[e0,b0];exact P0) (fun _=>by rw[e1,b1];exact P1) (fun h=>absurd h (by simp)) (fun _ h=>absurd rfl h)
   have hd:=G.ex (bX l M.ts (a6 (aC a) [i,k] [B0,B1]) ⟨1,[i,k],[z0,z1,z2],0⟩) (by
    rw[C1 rfl,e0,e1,e2,b0,b1,g0,q0];unfold gj crsE aK;dsimp only;rw[bC,bm,bm,bC,bC,bC,bC,P0.1,P0.2,P1.1,P1.2,<- f9,<- f9])
   rw[hB0,hB1]at hr hd;exact⟨L,hd,by rw[kW];exact hr⟩
theorem MG{i z0 z1:Int}{j0 j:Jt}(t0:TieO l 0 [i] z0 i j0)(t1:TieO l 1 [i] z1 i j)(ha:j.a=i)(hi:0<=i)(hil:i.toNat<(aC a).length)(hn:∀j∈l.jo,0<=j.a/\0<=j.b)
  {s:Sv} (hs:s∈ib l a i j0 j):DetH l a ⟨2,[i],[z0,z1],0⟩ s:=by
 have e0:ai l ⟨2,[i],[z0,z1],0⟩ 0=j0:=aw t0.hj;have e1:ai l ⟨2,[i],[z0,z1],0⟩ 1=j:=aw t1.hj;have b0:aA ⟨2,[i],[z0,z1],0⟩ 0=i:=rfl;unfold ib at hs;split at hs
 ·cases hs
 ·rename_i hz;have w1:=rc (Bool.eq_false_iff.2 hz);split at hs
  ·cases hs
  ·rename_i hc;have hc:=Decidable.not_not.1 hc;have geo:=NF tw (c:=an l a j0 i) (z:=qE (aX (aB l i j.point) (ah l j0 i))) hc;unfold jK at hs;obtain⟨m,hm,rfl⟩:=List.mem_map.1 hs;obtain⟨x,hx⟩:=aH (List.mem_range.1 hm);have G:=geo m x hx;have L:=G.lf;unfold io;rw[aw hx];obtain⟨n0,n1⟩:=hn j0 (mem_of_getElem? t0.hj);obtain⟨n2,n3⟩:=hn j (mem_of_getElem? t1.hj);generalize hM:dt (ax l a j.b j.on) (ax l a j.b j.to) (an l a j0 i) (qE (aX (aB l i j.point) (ah l j0 i)))=M at *;obtain⟨B0,hB0⟩:∃B0,B0=f7 M.ts x ⟨ah l j0 i,P2.l (an l a j0 i),aB l i j.point⟩:=⟨_,rfl⟩
   have hbs:a6 (aC a) [i] [B0]=(aC a).set i.toNat B0:=rfl;have g0:(a6 (aC a) [i] [B0]).getD i.toNat bt=B0:=by rw[hbs,nH hil]
   have gn:∀b:Int,0<=b->b∉[i]->fx (aC a) (a6 (aC a) [i] [B0]) (llq a.rs).length b:=fun b h0 hb=>ph tw hN (by
    rw[hbs,kG hi h0 (fun e=>hb (by simp[e]))])
   have q0:bn M.ts B0 (aB l i j.point)=(dE M.ts x.1,dE M.ts x.2):=by
    rw[hB0];refine(ud w1).trans ?_;unfold kR ji;refine Prod.ext ?_ ?_
    ·dsimp only;grind
    ·dsimp only;grind
   have hjb:fx (aC a) (a6 (aC a) [i] [B0]) (llq a.rs).length j.b:=by
    rcases t1.tie with⟨e,hb⟩ |⟨e,hb⟩
    ·exact gn _ n3 hb
    ·exact absurd (by simp[ha]) hb
   have P0:=L.pp (l:=l) (bs:=aC a) (bs':=a6 (aC a) [i] [B0]) (j:=j0) (i:=i) (by
    rcases t0.tie with⟨e,hb⟩ |⟨e,hb⟩
    ·exact .inl ⟨e,gn _ n1 hb⟩
    ·exact .inr ⟨fun e2=>hb (by simp[e2]),e,gn _ n0 hb⟩)
   have on:=L.pt l hjb j.on;have to:=L.pt l hjb j.to;have hr:=uM L (l:=l) (g:=⟨2,[i],[z0,z1],0⟩) (bs:=aC a) (bs':=a6 (aC a) [i] [B0]) (fun _=>by rw[e0,b0];exact P0) (fun h=>absurd h (by simp)) (fun _ pt=>by rw[e1];exact L.pt l hjb pt) (fun _ _ h=>absurd rfl h)
   have hd:=G.ex (bX l M.ts (a6 (aC a) [i] [B0]) ⟨2,[i],[z0,z1],0⟩) (by
    rw[HL rfl,e0,e1,b0,g0,q0];unfold cR dotE aK;dsimp only;rw[ee,bm,bm,bC,bC,bC,bC,P0.1,P0.2,on.1,on.2,to.1,to.2,<- f9,<- dT,<- dT])
   rw[hB0]at hr hd;exact⟨L,hd,by rw[kW];exact hr⟩
theorem zi{i z0 z1:Int}{j0 j:Jt}(t0:TieO l 0 [i] z0 i j0)(t1:TieO l 1 [i] z1 i j)(ha:j.a≠i)(hi:0<=i)(hil:i.toNat<(aC a).length)(hn:∀j∈l.jo,0<=j.a/\0<=j.b)(hv:bQ (cf l i j) (cf l i j)≠0)
  (hd:am (bZ l a i j0 j)≠0) {T:LL} (L:Lf (llq a.rs) T) {q:List Rat} {n:Int} (hm:am (dE T q)=n) :
  DetH l a ⟨3,[i],[z0,z1],0⟩ ⟨T,[m8 T (dg l a i j0 j) q],n⟩:=by
 have a0:ai l ⟨3,[i],[z0,z1],0⟩ 0=j0:=aw t0.hj;have a1:ai l ⟨3,[i],[z0,z1],0⟩ 1=j:=aw t1.hj;have b0:aA ⟨3,[i],[z0,z1],0⟩ 0=i:=rfl;obtain⟨n0,n1⟩:=hn j0 (mem_of_getElem? t0.hj);obtain⟨n2,n3⟩:=hn j (mem_of_getElem? t1.hj)
 obtain⟨tb,tn⟩:j.b=i/\j.a∉[i]:=by
  rcases t1.tie with⟨e,hb⟩ |h
  ·exact absurd e ha
  ·exact h
 obtain⟨w,hw⟩:∃w:P2 T,w=nU T q (dg l a i j0 j).h (dg l a i j0 j).d (dg l a i j0 j).w:=⟨_,rfl⟩
 obtain⟨o,ho⟩:∃o:P2 T,o=(au T (an l a j0 i).1,au T (an l a j0 i).2):=⟨_,rfl⟩
 obtain⟨B0,hB0⟩:∃B0,B0=gK (cf l i j) w (ah l j0 i) o:=⟨_,rfl⟩
 have e0:m8 T (dg l a i j0 j) q=B0:=by rw[hB0,hw,ho];rfl
 rw[e0];have hbs:a6 (aC a) [i] [B0]=(aC a).set i.toNat B0:=rfl;have g0:(a6 (aC a) [i] [B0]).getD i.toNat bt=B0:=by rw[hbs,nH hil]
 have gn:∀b:Int,0<=b->b∉[i]->fx (aC a) (a6 (aC a) [i] [B0]) (llq a.rs).length b:=fun b h0 hb=>ph tw hN (by
  rw[hbs,kG hi h0 (fun e=>hb (by simp[e]))])
 have hD:ae L.pos (au T (bZ l a i j0 j))=ae L.pos (au T (bR l a i j0 j).1)*ae L.pos (au T (bR l a i j0 j).1)+ae L.pos (au T (bR l a i j0 j).2)*ae L.pos (au T (bR l a i j0 j).2):=by
  rw[<- L.mul,<- L.mul,<- L.add];rfl
 have hI:ae L.pos (iE (au T (bZ l a i j0 j)))*ae L.pos (au T (bZ l a i j0 j))=1:=wt L.pos (fun e=>hd ((L.zero _).1 e));have eh:dE T (dg l a i j0 j).h=qE (bV l i j0 j):=gf _ _;have x1:w.1=(dE T q*au T (bR l a i j0 j).1-qE (bV l i j0 j)*-au T (bR l a i j0 j).2)*iE (au T (bZ l a i j0 j)):=by rw[hw,<- eh];rfl
 have x2:w.2=(dE T q*au T (bR l a i j0 j).2-qE (bV l i j0 j)*au T (bR l a i j0 j).1)*iE (au T (bZ l a i j0 j)):=by rw[hw,<- eh];rfl
 have G:=M9 hD hI (t:=ae L.pos (dE T q)) (hh:=ae L.pos (qE (bV l i j0 j))) (w1:=ae L.pos w.1) (w2:=ae L.pos w.2) (by rw[x1,bm,bC,bm,bm,Ca]) (by rw[x2,bm,bC,bm,bm])
 have P0:=L.pp (l:=l) (bs:=aC a) (bs':=a6 (aC a) [i] [B0]) (j:=j0) (i:=i) (by
  rcases t0.tie with⟨e,hb⟩ |⟨e,hb⟩
  ·exact .inl ⟨e,gn _ n1 hb⟩
  ·exact .inr ⟨fun e2=>hb (by simp[e2]),e,gn _ n0 hb⟩)
 have hja:=gn _ n2 tn;have pp:=L.pt l hja j.point;have hr:=uM L (l:=l) (g:=⟨3,[i],[z0,z1],0⟩) (bs:=aC a) (bs':=a6 (aC a) [i] [B0]) (fun _=>by rw[a0,b0];exact P0) (fun h=>absurd h (by simp)) (fun h=>absurd h (by simp)) (fun _ _ _ pt=>by rw[a1];exact L.pt l hja pt)
 have W1:ae L.pos (au T (bR l a i j0 j).1)=ae L.pos (aq l T (a6 (aC a) [i] [B0]) j.a j.point).1-ae L.pos (pinP l T (a6 (aC a) [i] [B0]) j0 i).1:=by
  rw[pp.1,P0.1,<- L.sub,<- dT,<- f9];rfl
 have W2:ae L.pos (au T (bR l a i j0 j).2)=ae L.pos (aq l T (a6 (aC a) [i] [B0]) j.a j.point).2-ae L.pos (pinP l T (a6 (aC a) [i] [B0]) j0 i).2:=by
  rw[pp.2,P0.2,<- L.sub,<- dT,<- f9];rfl
 have eon:aq l T (a6 (aC a) [i] [B0]) j.b j.on=bn T B0 (aB l i j.on):=by unfold aq;rw[tb,g0]
 have eto:aq l T (a6 (aC a) [i] [B0]) j.b j.to=bn T B0 (aB l i j.to):=by unfold aq;rw[tb,g0]
 have gg:=A9 (w:=w) hv;have v1:(qE (cf l i j).1:Et T)=qE ((aB l i j.to).1-(ah l j0 i).1)-qE ((aB l i j.on).1-(ah l j0 i).1):=by rw[<- kq];congr 1;show(aB l i j.to).1-(aB l i j.on).1=_;grind
 have v2:(qE (cf l i j).2:Et T)=qE ((aB l i j.to).2-(ah l j0 i).2)-qE ((aB l i j.on).2-(ah l j0 i).2):=by rw[<- kq];congr 1;show(aB l i j.to).2-(aB l i j.on).2=_;grind
 have d1:(bn T B0 (aB l i j.to)).1-(bn T B0 (aB l i j.on)).1=w.1:=by
  rw[hB0,nK,nK];dsimp only;have g1:=gg.1;rw[v1,v2]at g1;rw[<- g1];generalize dm (cf l i j) w=C;generalize da (cf l i j) w=S;clear g1;grind
 have d2:(bn T B0 (aB l i j.to)).2-(bn T B0 (aB l i j.on)).2=w.2:=by
  rw[hB0,nK,nK];dsimp only;have g1:=gg.2;rw[v1,v2]at g1;rw[<- g1];generalize dm (cf l i j) w=C;generalize da (cf l i j) w=S;clear g1;grind
 have hdt:ae L.pos (bX l T (a6 (aC a) [i] [B0]) ⟨3,[i],[z0,z1],0⟩)=ae L.pos (dE T q):=by
  rw[En rfl,a0,a1,b0,eon,eto];unfold cR dotE aK;dsimp only;rw[d1,d2,ee,bm,bm,bC,bC,<- W1,<- W2];exact G
 refine⟨L,?_,by rw[kW];exact hr⟩;show am (bX l T (a6 (aC a) [i] [B0]) _)=n;rw[<- hm];exact mh L.pos hdt
theorem Q7{i z0 z1:Int}{j0 j:Jt}(t0:TieO l 0 [i] z0 i j0)(t1:TieO l 1 [i] z1 i j)(ha:j.a≠i)(hi:0<=i)(hil:i.toNat<(aC a).length)(hn:∀j∈l.jo,0<=j.a/\0<=j.b)(hv:bQ (cf l i j) (cf l i j)≠0)
  {s:Sv} (hs:s∈gE l a i j0 j):DetH l a ⟨3,[i],[z0,z1],0⟩ s:=by
 unfold gE at hs;split at hs
 ·cases hs
 ·rename_i h1;split at hs
  ·cases hs
  ·rename_i h2;have hd:=rJ tw h2 h1;split at hs
   ·rename_i h3;have hp:=q8 tw.pos h3;have L:=rI (bi l a i j0 j) hp;have s1:=AI (FE tw.pos h3);unfold jx at hs;obtain⟨m,hm,rfl⟩:=List.mem_map.1 hs;have hm:=List.mem_range.1 hm;unfold iQ
    match m,hm with
    |0,_ =>
     exact zi tw hN t0 t1 ha hi hil hn hv hd L s1
    |1,_ =>
     refine zi tw hN t0 t1 ha hi hil hn hv hd L ?_;show am (dE _ (sX (-bu (bi l a i j0 j))))=_;rw[ef,AR hp,s1];rfl
    |m+2,h=>exact absurd h (by simp)
   ·rename_i h3;have hX:am (bi l a i j0 j) = 0:=by omega
    have L:=lT (ts:=llq a.rs) tw.pos;unfold jx at hs;obtain⟨m,hm,rfl⟩:=List.mem_map.1 hs;have hm:=List.mem_range.1 hm;unfold iQ;have e0:(dE (llq a.rs) []:Et (llq a.rs))=0:=by rw[E.zero_def];exact ia _
    match m,hm with
    |0,_ =>
     refine zi tw hN t0 t1 ha hi hil hn hv hd L ?_;show am (dE _ [])=_;rw[e0];exact(dz _ _ L.pos).zero
    |m+1,h=>exact absurd h (by simp)
theorem Si{g:Gr}(hg:DyK l g)(hgb:∀b∈g.bo,0<=b/\b.toNat<(aC a).length)(hli:aP l=0){x:Tn}{s:Sv}(hs:s∈fP l a g x):DetH l a g s:=by
 have hn:∀j∈l.jo,0<=j.a/\0<=j.b:=fun j hj=>by
  obtain⟨n,hn⟩:=List.getElem?_of_mem hj;obtain⟨i1,i2,_⟩:=cH hli hn;have i1:=dM i1;have i2:=dM i2;omega
 cases hg with
 | @drv b z d j dr t d0 hd hb =>
  have e:ai l ⟨0,[b],[z],d⟩ 0=j:=aw t.hj;have hs:s∈iy l a b j x:=by rw[<- e];exact hs
  unfold iy at hs;split at hs
  ·cases hs
  ·rw[List.mem_singleton.1 hs];have L:=lT (ts:=llq a.rs) tw.pos;have q1:(qE 1:Et (llq a.rs))=1:=rfl;refine⟨L,?_,?_⟩
   ·show am (qE 1:Et (llq a.rs))=1;rw[q1];exact(dz _ _ tw.pos).one
   ·show ae L.pos (qE 1:Et (llq a.rs))=ae L.pos (au (llq a.rs) (qE 1));rw[c9]
 | @rrr i k z0 z1 z2 j0 j1 j2 ne t0 t1 h0 h2 kd tie =>
  have e0:ai l ⟨1,[i,k],[z0,z1,z2],0⟩ 0=j0:=aw t0.hj;have e1:ai l ⟨1,[i,k],[z0,z1,z2],0⟩ 1=j1:=aw t1.hj;have e2:ai l ⟨1,[i,k],[z0,z1,z2],0⟩ 2=j2:=aw h2;have hs:s∈il l a i k j0 j1 j2:=by rw[<- e0,<- e1,<- e2];exact hs
  obtain⟨b1,b2⟩:=hgb i (by simp);obtain⟨b3,b4⟩:=hgb k (by simp);exact Sl tw hN ne t0 t1 h2 b1 b3 b2 b4 hn hs
 | @pr i z0 z1 j0 j1 t0 t1 ha =>
  have e0:ai l ⟨2,[i],[z0,z1],0⟩ 0=j0:=aw t0.hj;have e1:ai l ⟨2,[i],[z0,z1],0⟩ 1=j1:=aw t1.hj;have hs:s∈ib l a i j0 j1:=by rw[<- e0,<- e1];exact hs
  obtain⟨b1,b2⟩:=hgb i (by simp);exact MG tw hN t0 t1 ha b1 b2 hn hs
 | @rp i z0 z1 j0 j1 t0 t1 ha =>
  have e0:ai l ⟨3,[i],[z0,z1],0⟩ 0=j0:=aw t0.hj;have e1:ai l ⟨3,[i],[z0,z1],0⟩ 1=j1:=aw t1.hj;have hs:s∈gE l a i j0 j1:=by rw[<- e0,<- e1];exact hs
  obtain⟨b1,b2⟩:=hgb i (by simp)
  have tb:j1.b=i:=by
   rcases t1.tie with⟨e,_⟩ |⟨e,_⟩
   ·exact absurd e ha
   ·exact e
  exact Q7 tw hN t0 t1 ha b1 b2 hn (qB hli t1.hj (by rw[t1.kd];decide) tb) hs
end
section
variable{l:Li}{xs:List Tn}{s g:Nat}(W:WkC l xs s g){gr:Gr}{a:Aq}(hg:(splitG l)[a.ms.length]?=some gr)
variable{j r E:Nat}(Q:QInv l j r E a)
include W hg Q
end
end Go.Lw
namespace Go.Lw
open Lean.Grind (CommRing)
section
variable{R:Type}[CommRing R]
end
section
variable{T:LL}(hp:cS T)
include hp
theorem O0(k:Int)(D:Et T):am (ri k D)=am D*am D:=by
 have H:=dz (ao T) T.length hp;unfold ri;split
 ·have e:am ((D+D)*(D+D))=am (D+D)*am (D+D):=H.mul _ _;rw[e,HH hp]
 ·exact H.mul _ _
theorem QG{a b:Et T}(h:am (a*a+b*b)=0):am a=0/\am b=0:=by
 have H:=dz (ao T) T.length hp;have ha:=H.sq a;have hb:=H.sq b;have h:sg (ao T) T.length (a*a+b*b)=0:=h
 have k:∀x:Et T,sg (ao T) T.length (x*x)=0->am x=0:=fun x hx=>by
  rw[H.mul]at hx;rcases Int.mul_eq_zero.1 hx with g |g <;> exact g
 have ea:sg (ao T) T.length (a*a)=0:=by
  rcases H.cs (a*a)with g |g |g
  ·omega
  ·exact g
  ·have:=H.padd g hb;omega
 have eb:sg (ao T) T.length (b*b)=0:=by rwa [H.zadd ea]at h
 exact⟨k a ea,k b eb⟩
structure Eqp(p p':Pq):Prop where
  c:ae hp (dE T p.c)=ae hp (dE T p'.c)
  s:ae hp (dE T p.s)=ae hp (dE T p'.s)
  x:ae hp (dE T p.x)=ae hp (dE T p'.x)
  y:ae hp (dE T p.y)=ae hp (dE T p'.y)
theorem Eqp.rf(p:Pq):Eqp hp p p:=⟨rfl,rfl,rfl,rfl⟩
variable{hp} in
theorem Eqp.at{p p':Pq}(h:Eqp hp p p')(m:Rat×Rat):ae hp (bn T p m).1=ae hp (bn T p' m).1/\ae hp (bn T p m).2=ae hp (bn T p' m).2:=by
 unfold bn;dsimp only;constructor <;> simp only[ee,bC,bm,h.c,h.s,h.x,h.y]
end
section
variable{l:Li}{T:LL}(hp:cS T){bs ds:List Pq}
include hp
def GN(l:Li){T:LL}(hp:cS T)(g:Gr)(bs ds:List Pq):Prop:=∀z∈g.jo,∀j,l.jo[z.toNat]?=some j->(j.a∉g.bo->Eqp hp (bs.getD j.a.toNat bt) (ds.getD j.a.toNat bt))/\(j.b∉g.bo->Eqp hp (bs.getD j.b.toNat bt) (ds.getD j.b.toNat bt))
theorem oi{g:Gr}(A:GN l hp g bs ds){kd z i:Int}{j:Jt}(t:TieO l kd g.bo z i j)(hz:z∈g.jo)(hi:i∈g.bo) :
  ae hp (pinP l T bs j i).1=ae hp (pinP l T ds j i).1/\ae hp (pinP l T bs j i).2=ae hp (pinP l T ds j i).2:=by
 obtain⟨a1,a2⟩:=A z hz j t.hj;unfold pinP aq;rcases t.tie with⟨e,hb⟩ |⟨e,hb⟩
 ·rw[if_pos e,if_pos e];exact(a2 hb).at _
 ·have:j.a≠i:=fun h=>hb (h▸hi)
  rw[if_neg this,if_neg this];exact(a1 hb).at _
structure NDg(l:Li)(T:LL)(bs:List Pq)(g:Gr):Prop where
  n1:g.kind=1->am (az (pinP l T bs (ai l g 0) (aA g 0)) (pinP l T bs (ai l g 1) (aA g 1)))≠0/\bQ (bF (ah l (ai l g 2) (aA g 0)) (ah l (ai l g 0) (aA g 0))) (bF (ah l (ai l g 2) (aA g 0)) (ah l (ai l g 0) (aA g 0)))≠0 /\
    bQ (bF (ah l (ai l g 2) (aA g 1)) (ah l (ai l g 1) (aA g 1))) (bF (ah l (ai l g 2) (aA g 1)) (ah l (ai l g 1) (aA g 1)))≠0
  n2:g.kind=2->am (ba (aq l T bs (ai l g 1).b (ai l g 1).on) (aq l T bs (ai l g 1).b (ai l g 1).to))≠0/\bQ (bF (aB l (aA g 0) (ai l g 1).point) (ah l (ai l g 0) (aA g 0))) (bF (aB l (aA g 0) (ai l g 1).point) (ah l (ai l g 0) (aA g 0)))≠0
  n3:g.kind=3->am (cR (aK (aq l T bs (ai l g 1).a (ai l g 1).point) (pinP l T bs (ai l g 0) (aA g 0))) (aK (aq l T bs (ai l g 1).a (ai l g 1).point) (pinP l T bs (ai l g 0) (aA g 0))))≠0/\bQ (cf l (aA g 0) (ai l g 1)) (cf l (aA g 0) (ai l g 1))≠0
end
end Go.Lw
namespace Go.Lw
open Lean.Grind (CommRing)
theorem w6{n:Nat}{d X:Int}(hd:d=-1\/d=0\/d=1)(hX:X=d*d)(hn:n=if X=0 then 1 else 2):∃i,i<n/\(if n=1 then 0 else 1-2*(i:Int))=d:=by
 subst hX;rcases hd with rfl |rfl |rfl
 ·rw[if_neg (by decide)]at hn;subst hn;exact⟨1,by decide,by decide⟩
 ·rw[if_pos (by decide)]at hn;subst hn;exact⟨0,by decide,by decide⟩
 ·rw[if_neg (by decide)]at hn;subst hn;exact⟨0,by decide,by decide⟩
theorem SX{ts:LL}{p q:P2 ts}{z z2:Et ts}(hd:am (az p q)≠0)(hX:¬am (bc p z q z2)<0):(dc p q z z2).ps.length=if am (bc p z q z2)=0 then 1 else 2:=by
 unfold dc;rw[if_neg hd,if_neg hX];split <;> rfl
theorem VX{ts:LL}{p q c:P2 ts}{z:Et ts}(hd:am (ba p q)≠0)(hX:am (aR p q c z) ≠ -1):(dt p q c z).ps.length=if am (aR p q c z)=0 then 1 else 2:=by
 unfold dt;rw[if_neg hd,if_neg hX];split <;> rfl
theorem L2{ts:LL}(hp:cS ts)(x:Et ts):am x=-1\/am x=0\/am x=1:=(dz _ _ hp).cs x
theorem Qw{d:Int}(hd:d=-1\/d=0\/d=1):0<=d*d:=by
 rcases hd with rfl |rfl |rfl <;> decide
section
variable{ts T:LL}(L:Lf ts T)
include L
theorem Lf.z(hp:cS ts){u v:Et ts}(h:ae hp u=ae hp v):ae L.pos (au T u)=ae L.pos (au T v):=by
 have e1:=(eI L.pos).2 ((L.zero _).2 ((fQ hp).1 h));rw[L.sub]at e1
 revert e1
 generalize ae L.pos (au T u)=a;generalize ae L.pos (au T v)=b;intro e1;grind
theorem Eqp.up{hp:cS ts}{p p':Pq}(n1:Nq ts.length p)(n2:Nq ts.length p')(h:Eqp hp p p'):Eqp L.pos p p':=by
 obtain⟨a1,a2,a3,a4⟩:=n1;obtain⟨b1,b2,b3,b4⟩:=n2;refine⟨?_,?_,?_,?_⟩
 ·rw[<- L.low _ a1,<- L.low _ b1];exact L.z hp h.c
 ·rw[<- L.low _ a2,<- L.low _ b2];exact L.z hp h.s
 ·rw[<- L.low _ a3,<- L.low _ b3];exact L.z hp h.x
 ·rw[<- L.low _ a4,<- L.low _ b4];exact L.z hp h.y
theorem Lf.trans{U:LL}(M:Lf T U):Lf ts U:=by
 have e:∀y:Et ts,au U (au T y)=au U y:=fun y=>by
  show au U (dE T (sX y))=dE U (sX y);exact M.low _ (le_trans (di _ _).le (Nat.pow_le_pow_right oz L.len))
 have hm:Hm (fun y:Et ts=>ae M.pos (au U (au T y))):=by
  refine⟨fun x y=>?_,fun x y=>?_,fun x=>?_,?_,fun x hx=>?_,fun x=>?_⟩
  ·show ae M.pos (au U (au T (x+y)))=_;rw[L.ad,M.ad,ee]
  ·show ae M.pos (au U (au T (x*y)))=_;rw[L.mu,M.mu,bm]
  ·have h:=M.z L.pos (L.hm.neg x);show ae M.pos (au U (au T (-x)))=-ae M.pos (au U (au T x));have h2:ae M.pos (au U (-au T x))=-ae M.pos (au U (au T x)):=M.hm.neg _;rw[<- h2];exact M.z L.pos (L.hm.neg x)
  ·have h:=M.z L.pos (u:=au T 1) (v:=1) L.hm.one;show ae M.pos (au U (au T 1))=1;rw[h];exact M.hm.one
  ·have h := M.z L.pos (u := au T (iE x)*au T x) (v := 1) (by rw[bm];exact L.hm.inv x hx);rw[M.mu,bm]at h;exact h.trans M.hm.one
  ·show ae M.pos (au U (au T x))=0↔_;have h:=M.hm.zero (au T x);rw[L.sg]at h;exact h
 refine⟨M.pos,?_,fun l h=>?_,fun q=>?_,le_trans L.len M.len,fun y=>?_,fun x y=>?_,fun x y=>?_⟩
 ·have e2 : (fun y : Et ts => ae M.pos (au U (au T y))) = fun y => ae M.pos (au U y) := funext fun y => by rw [e]
  rw[<- e2];exact hm
 ·rw[<- e,L.low l h];exact M.low l (le_trans h (Nat.pow_le_pow_right oz L.len))
 ·rw[<- e,L.q,M.q]
 ·rw[<- e,M.sg,L.sg]
 ·rw[<- e,<- e,<- e,L.ad,M.ad]
 ·rw[<- e,<- e,<- e,L.mu,M.mu]
end
theorem PU{n m:Nat}{p:Pq}(h:Nq n p)(hm:n<=m):Nq m p:=by
 have h2:2^n<=2^m:=Nat.pow_le_pow_right oz hm;exact⟨le_trans h.1 h2,le_trans h.2.1 h2,le_trans h.2.2.1 h2,le_trans h.2.2.2 h2⟩
theorem Of{ts:LL}(hp:cS ts){p q p' q':P2 ts}(h1:ae hp p.1=ae hp p'.1)(h2:ae hp p.2=ae hp p'.2)(h3:ae hp q.1=ae hp q'.1)(h4:ae hp q.2=ae hp q'.2):ae hp (az p q)=ae hp (az p' q'):=by
 have a:=r8 (qU hp) p q;have b:=r8 (qU hp) p' q';rw[a,b,h1,h2,h3,h4]
theorem tp{ts:LL}(hp:cS ts)(p q:P2 ts):ae hp (cR (aK p q) (aK p q))=(ae hp p.1-ae hp q.1)*(ae hp p.1-ae hp q.1)+(ae hp p.2-ae hp q.2)*(ae hp p.2-ae hp q.2):=by
 unfold cR dotE aK;dsimp only;simp only[bm,bC,ee]
section
variable{l:Li}{a:As}{r:Nat}(tw:Tw (llq a.rs) r){ds:List Pq}
include tw
theorem QF{g:Gr}(hg:DyK l g)(hli:aP l=0){x:Tn}(he:rZ l a g x=0)(A:GN l tw.pos g (aC a) ds)
  (js:∀z∈g.jo,JH l (llq a.rs) ds (l.jo.getD z.toNat default)) (cs:∀b∈g.bo,CH (llq a.rs) (ds.getD b.toNat bt)) :
  (∃s∈fP l a g x,s.mode=am (bX l (llq a.rs) ds g))/\NDg l (llq a.rs) ds g:=by
 have hp:=tw.pos;have hsq:=Em hp hg js cs;have hδ:=L2 hp (bX l (llq a.rs) ds g)
 have hrad:ae hp (fN l a g)=ae hp (iY l (llq a.rs) ds g):=by
  have h:=uM (lT hp) (l:=l) (g:=g) (bs:=ds) (bs':=aC a);simp only[c9]at h;rw[kW];cases hg with
  |drv t d0 hd hb=>rfl
  | @rrr i k z0 z1 z2 j0 j1 j2 ne t0 t1 h0 h2 kd tie =>
   have e0:ai l ⟨1,[i,k],[z0,z1,z2],0⟩ 0=j0:=aw t0.hj;have e1:ai l ⟨1,[i,k],[z0,z1,z2],0⟩ 1=j1:=aw t1.hj;refine h (fun _=>?_) (fun _=>?_) (fun h=>absurd h (by simp)) (fun _ h=>absurd rfl h)
   ·rw[e0];exact oi hp A t0 (by simp) (by simp[aA])
   ·rw[e1];exact oi hp A t1 (by simp) (by simp[aA])
  | @pr i z0 z1 j0 j1 t0 t1 ha =>
   have e0:ai l ⟨2,[i],[z0,z1],0⟩ 0=j0:=aw t0.hj;have e1:ai l ⟨2,[i],[z0,z1],0⟩ 1=j1:=aw t1.hj;refine h (fun _=>?_) (fun h=>absurd h (by simp)) (fun _ pt=>?_) (fun _ _ h=>absurd rfl h)
   ·rw[e0];exact oi hp A t0 (by simp) (by simp[aA])
   ·rw[e1]
    have hjb:j1.b∉[i]:=by
     rcases t1.tie with⟨_,hb⟩ |⟨_,hb⟩
     ·exact hb
     ·exact absurd (by simp[ha]) hb
    exact((A z1 (by simp) j1 t1.hj).2 hjb).at _
  | @rp i z0 z1 j0 j1 t0 t1 ha =>
   have e0:ai l ⟨3,[i],[z0,z1],0⟩ 0=j0:=aw t0.hj;have e1:ai l ⟨3,[i],[z0,z1],0⟩ 1=j1:=aw t1.hj;refine h (fun _=>?_) (fun h=>absurd h (by simp)) (fun h=>absurd h (by simp)) (fun _ _ _ pt=>?_)
   ·rw[e0];exact oi hp A t0 (by simp) (by simp[aA])
   ·rw[e1]
    have tn:j1.a∉[i]:=by
     rcases t1.tie with⟨e,_⟩ |⟨_,hb⟩
     ·exact absurd e ha
     ·exact hb
    exact((A z1 (by simp) j1 t1.hj).1 tn).at _
 have hX:am (fN l a g)=am (bX l (llq a.rs) ds g)*am (bX l (llq a.rs) ds g):=by
  rw[mh hp hrad,<- mh hp hsq,O0 hp]
 generalize hdl:am (bX l (llq a.rs) ds g)=δ at hδ hX ⊢;have hnn:=Qw hδ;cases hg with
 | @drv b z d j dr t d0 hd hb =>
  have e:ai l ⟨0,[b],[z],d⟩ 0=j:=aw t.hj;refine⟨?_,fun h=>absurd h (by simp),fun h=>absurd h (by simp),fun h=>absurd h (by simp)⟩;have he:(jY l a b (ai l ⟨0,[b],[z],d⟩ 0) x).2=0:=he;unfold jY at he;split at he
  ·rename_i h;exact absurd he h
  ·rename_i h;refine⟨⟨llq a.rs,[kT l a b (ai l ⟨0,[b],[z],d⟩ 0) x],1⟩,?_,?_⟩
   ·show _∈iy l a b (ai l ⟨0,[b],[z],d⟩ 0) x;unfold iy;rw[if_neg h];exact List.mem_singleton.2 rfl
   ·show(1:Int)=δ;rw[<- hdl];have e1:bX l (llq a.rs) ds ⟨0,[b],[z],d⟩=1:=rfl;rw[e1];exact(dz _ _ hp).one.symm
 | @rrr i k z0 z1 z2 j0 j1 j2 ne t0 t1 h0 h2 kd tie =>
  have e0:ai l ⟨1,[i,k],[z0,z1,z2],0⟩ 0=j0:=aw t0.hj;have e1:ai l ⟨1,[i,k],[z0,z1,z2],0⟩ 1=j1:=aw t1.hj;have e2:ai l ⟨1,[i,k],[z0,z1,z2],0⟩ 2=j2:=aw h2;have b0:aA ⟨1,[i,k],[z0,z1,z2],0⟩ 0=i:=rfl;have b1:aA ⟨1,[i,k],[z0,z1,z2],0⟩ 1=k:=rfl;have he:(hP l a i k (ai l ⟨1,[i,k],[z0,z1,z2],0⟩ 0) (ai l ⟨1,[i,k],[z0,z1,z2],0⟩ 1) (ai l ⟨1,[i,k],[z0,z1,z2],0⟩ 2)).2=0:=he;rw[e0,e1,e2]at he
  have hr1:fN l a ⟨1,[i,k],[z0,z1,z2],0⟩=bc (an l a j0 i) (qE (aX (ah l j2 i) (ah l j0 i))) (an l a j1 k) (qE (aX (ah l j2 k) (ah l j1 k))):=by
   rw[kW,yU rfl,e0,e1,e2,b0,b1,<- f9,<- f9]
  rw[hr1]at hX;have y0:=js z0 (by simp);have y1:=js z1 (by simp);have y2:=js z2 (by simp);rw[aw t0.hj]at y0;rw[aw t1.hj]at y1;rw[aw h2]at y2;obtain⟨_,d0,d1⟩:=E6 hp t0 t1 ne kd tie y0 y1 y2 (cs i (by simp)) (cs k (by simp)) rfl;have pe:=oi hp A t0 (by simp) (by simp);have pf:=oi hp A t1 (by simp) (by simp);rw[<- f9]at pe pf;unfold hP at he;split at he
  ·exact absurd he (by decide)
  ·rename_i hz;obtain⟨w1,w2⟩:=pZ (Bool.eq_false_iff.2 hz);split at he
   ·rename_i hc;exact absurd he hc
   ·rename_i hc;have hc:=Decidable.not_not.1 hc
    have hd2:am (az (an l a j0 i) (an l a j1 k))≠0:=by
     intro h9;unfold eL ka at hc;rw[if_pos h9]at hc;have hs:am ((an l a j0 i).1-(an l a j1 k).1)=0/\am ((an l a j0 i).2-(an l a j1 k).2)=0:=QG hp h9;have f1:=(fQ hp).2 hs.1;have f2:=(fQ hp).2 hs.2
     have ez:ae hp (qE (aX (ah l j2 i) (ah l j0 i)))=ae hp (qE (aX (ah l j2 k) (ah l j1 k))):=by
      rw[<- d0,<- d1,<- pe.1,<- pe.2,<- pf.1,<- pf.2,f1,f2]
     have hq:0<=bQ (bF (ah l j2 i) (ah l j0 i)) (bF (ah l j2 i) (ah l j0 i)):=Rat.add_nonneg (l8 _) (l8 _)
     have hq1:0<aX (ah l j2 i) (ah l j0 i):=by
      rcases Rat.le_iff_lt_or_eq.1 hq with g |g
      ·exact g
      ·exact absurd g.symm w1
     have hz0:0<am (qE (aX (ah l j2 i) (ah l j0 i)):Et (llq a.rs)):=by rw[xj,sk hq1];decide
     rw[if_pos ⟨(fQ hp).1 ez,hz0⟩]at hc;exact absurd hc (by decide)
    have hlen:=SX (z:=qE (aX (ah l j2 i) (ah l j0 i))) (z2:=qE (aX (ah l j2 k) (ah l j1 k))) hd2 (by rw[hX];omega);obtain⟨m,hm,hmo⟩:=w6 hδ hX hlen;refine⟨⟨io (dc (an l a j0 i) (an l a j1 k) (qE (aX (ah l j2 i) (ah l j0 i))) (qE (aX (ah l j2 k) (ah l j1 k)))) [⟨ah l j0 i,P2.l (an l a j0 i),ah l j2 i⟩,⟨ah l j1 k,P2.l (an l a j1 k),ah l j2 k⟩] m,?_,hmo⟩,⟨fun _=>?_,fun h=>absurd h (by simp),fun h=>absurd h (by simp)⟩⟩
    ·show _∈il l a i k (ai l ⟨1,[i,k],[z0,z1,z2],0⟩ 0) (ai l ⟨1,[i,k],[z0,z1,z2],0⟩ 1) (ai l ⟨1,[i,k],[z0,z1,z2],0⟩ 2);rw[e0,e1,e2];unfold il;rw[if_neg hz,if_neg (by rw[hc];simp)];exact List.mem_map.2 ⟨m,List.mem_range.2 hm,rfl⟩
    ·rw[e0,e1,e2,b0,b1];refine⟨?_,w1,w2⟩;rw[<- mh hp (Of hp pe.1 pe.2 pf.1 pf.2)];exact hd2
 | @pr i z0 z1 j0 j1 t0 t1 ha =>
  have e0:ai l ⟨2,[i],[z0,z1],0⟩ 0=j0:=aw t0.hj;have e1:ai l ⟨2,[i],[z0,z1],0⟩ 1=j1:=aw t1.hj;have b0:aA ⟨2,[i],[z0,z1],0⟩ 0=i:=rfl;have he:(iV l a i (ai l ⟨2,[i],[z0,z1],0⟩ 0) (ai l ⟨2,[i],[z0,z1],0⟩ 1)).2=0:=he;rw[e0,e1]at he
  have hr1:fN l a ⟨2,[i],[z0,z1],0⟩=aR (ax l a j1.b j1.on) (ax l a j1.b j1.to) (an l a j0 i) (qE (aX (aB l i j1.point) (ah l j0 i))):=by
   rw[kW,zM rfl,e0,e1,b0,<- f9,<- dT,<- dT]
  rw[hr1]at hX
  have hjb:j1.b∉[i]:=by
   rcases t1.tie with⟨_,hb⟩ |⟨_,hb⟩
   ·exact hb
   ·exact absurd (by simp[ha]) hb
  have qe:∀pt,ae hp (aq l (llq a.rs) (aC a) j1.b pt).1=ae hp (aq l (llq a.rs) ds j1.b pt).1/\ae hp (aq l (llq a.rs) (aC a) j1.b pt).2=ae hp (aq l (llq a.rs) ds j1.b pt).2:=fun pt=>((A z1 (by simp) j1 t1.hj).2 hjb).at _
  unfold iV at he;split at he
  ·exact absurd he (by decide)
  ·rename_i hz;have w1:=rc (Bool.eq_false_iff.2 hz);split at he
   ·rename_i hc;exact absurd he hc
   ·rename_i hc;have hc:=Decidable.not_not.1 hc
    have hd2:am (ba (ax l a j1.b j1.on) (ax l a j1.b j1.to))≠0:=by
     intro h9;unfold eU at hc;rw[if_pos h9]at hc;exact absurd hc (by decide)
    have hlen:=VX (c:=an l a j0 i) (z:=qE (aX (aB l i j1.point) (ah l j0 i))) hd2 (by rw[hX];omega);obtain⟨m,hm,hmo⟩:=w6 hδ hX hlen;refine⟨⟨io (dt (ax l a j1.b j1.on) (ax l a j1.b j1.to) (an l a j0 i) (qE (aX (aB l i j1.point) (ah l j0 i)))) [⟨ah l j0 i,P2.l (an l a j0 i),aB l i j1.point⟩] m,?_,hmo⟩,⟨fun h=>absurd h (by simp),fun _=>?_,fun h=>absurd h (by simp)⟩⟩
    ·show _∈ib l a i (ai l ⟨2,[i],[z0,z1],0⟩ 0) (ai l ⟨2,[i],[z0,z1],0⟩ 1);rw[e0,e1];unfold ib;rw[if_neg hz,if_neg (by rw[hc];simp)];exact List.mem_map.2 ⟨m,List.mem_range.2 hm,rfl⟩
    ·rw[e0,e1,b0];refine⟨?_,w1⟩
     have e:ae hp (ba (aq l (llq a.rs) ds j1.b j1.on) (aq l (llq a.rs) ds j1.b j1.to))=ae hp (ba (ax l a j1.b j1.on) (ax l a j1.b j1.to)):=by
      refine(tp hp (aq l (llq a.rs) ds j1.b j1.to) (aq l (llq a.rs) ds j1.b j1.on)).trans (Eq.trans ?_ (tp hp (ax l a j1.b j1.to) (ax l a j1.b j1.on)).symm);rw[dT,dT,(qe j1.on).1,(qe j1.on).2,(qe j1.to).1,(qe j1.to).2]
     rw[mh hp e];exact hd2
 | @rp i z0 z1 j0 j1 t0 t1 ha =>
  have e0:ai l ⟨3,[i],[z0,z1],0⟩ 0=j0:=aw t0.hj;have e1:ai l ⟨3,[i],[z0,z1],0⟩ 1=j1:=aw t1.hj;have b0:aA ⟨3,[i],[z0,z1],0⟩ 0=i:=rfl;have he:(gY l a i (ai l ⟨3,[i],[z0,z1],0⟩ 0) (ai l ⟨3,[i],[z0,z1],0⟩ 1)).2=0:=he;rw[e0,e1]at he
  have hr1:fN l a ⟨3,[i],[z0,z1],0⟩=bi l a i j0 j1:=by
   rw[kW,yG rfl,e0,e1,b0,<- f9,<- dT];rfl
  rw[hr1]at hX;have tb:j1.b=i:=(rG t1).resolve_left ha
  have tn:j1.a∉[i]:=by
   rcases t1.tie with⟨e,_⟩ |⟨_,hb⟩
   ·exact absurd e ha
   ·exact hb
  have pe:=oi hp A t0 (by simp) (by simp);have qa:ae hp (aq l (llq a.rs) (aC a) j1.a j1.point).1=ae hp (aq l (llq a.rs) ds j1.a j1.point).1/\ae hp (aq l (llq a.rs) (aC a) j1.a j1.point).2=ae hp (aq l (llq a.rs) ds j1.a j1.point).2:=((A z1 (by simp) j1 t1.hj).1 tn).at _;unfold gY at he;split at he
  ·exact absurd he (by decide)
  ·rename_i hz;have hneg:¬ am (bi l a i j0 j1) < 0:=by rw [hX]; omega
   have hd:=rJ tw hneg hz
   have hN3:NDg l (llq a.rs) ds ⟨3,[i],[z0,z1],0⟩:=by
    refine⟨fun h=>absurd h (by simp),fun h=>absurd h (by simp),fun _=>?_⟩;rw[e0,e1,b0];refine⟨?_,qB hli t1.hj (by rw[t1.kd];decide) tb⟩
    have e:ae hp (cR (aK (aq l (llq a.rs) ds j1.a j1.point) (pinP l (llq a.rs) ds j0 i)) (aK (aq l (llq a.rs) ds j1.a j1.point) (pinP l (llq a.rs) ds j0 i)))=ae hp (bZ l a i j0 j1):=by
     refine(tp hp (aq l (llq a.rs) ds j1.a j1.point) (pinP l (llq a.rs) ds j0 i)).trans (Eq.trans ?_ (tp hp (ax l a j1.a j1.point) (an l a j0 i)).symm);rw[dT,f9,pe.1,pe.2,qa.1,qa.2]
    rw[mh hp e];exact hd
   refine⟨?_,hN3⟩
   have hS:fP l a ⟨3,[i],[z0,z1],0⟩ x=gE l a i j0 j1:=by
    show gE l a i (ai l ⟨3,[i],[z0,z1],0⟩ 0) (ai l ⟨3,[i],[z0,z1],0⟩ 1)=_;rw[e0,e1]
   rw[hS];unfold gE;rw[if_neg hz,if_neg hneg]
   by_cases h3:0<am (bi l a i j0 j1)
   ·rw[if_pos h3];obtain⟨m,hm,hmo⟩:=w6 (n:=2) hδ hX (by rw[if_neg oz]);exact⟨_,List.mem_map.2 ⟨m,List.mem_range.2 hm,rfl⟩,hmo⟩
   ·rw[if_neg h3];obtain⟨m,hm,hmo⟩:=w6 (n:=1) hδ hX (by rw[if_pos oz]);exact⟨_,List.mem_map.2 ⟨m,List.mem_range.2 hm,rfl⟩,hmo⟩
end
section
variable{l:Li}{a:As}{r:Nat}(tw:Tw (llq a.rs) r)(hN:∀p∈aC a,Nq (llq a.rs).length p){ds:List Pq}(hD:∀p∈ds,Nq 0 p)
include tw hN hD
end
end Go.Lw
namespace Go.Lw
structure R4 where
  c:Rat
  s:Rat
  x:Rat
  y:Rat
instance:Inhabited R4:=⟨⟨0,0,0,0⟩⟩
namespace R4
def pq(b:R4):Pq:=⟨sh 0 (b.c:Rat),sh 0 (b.s:Rat),sh 0 (b.x:Rat),sh 0 (b.y:Rat)⟩
def pl(b:R4):Pl:=⟨b.pq.c.map rt,b.pq.s.map rt,b.pq.x.map rt,b.pq.y.map rt⟩
structure ok(b:R4):Prop where
  c:Qb 1000 b.c
  s:Qb 1000 b.s
  x:Qb 1000 b.x
  y:Qb 1000 b.y
end R4
instance:Inhabited Pse:=⟨⟨default,⟨⟨false,[],[]⟩,⟨false,[],[]⟩⟩⟩⟩
def Pse.r4(p:Pse):R4:=⟨dR p.turn.half p.turn.t.q,d5 p.turn.half p.turn.t.q,p.at_.x.q,p.at_.y.q⟩
def lZ(bs:List R4):As:=⟨[],bs.map R4.pl,[]⟩
theorem uZ{q:Rat}(h:Qb 1000 q):NR ((sh 0 (q:Rat)).map rt) 4000:=by
 have h1:=(oX (n:=0) oz h).mono (f:=4000) oz;refine⟨fun x hx=>?_,?_,by rw[cZ];exact h1.cb⟩
 ·obtain⟨p,hp,rfl⟩:=List.mem_map.1 hx
  have:p=q:=by
   unfold sh at hp;split at hp
   ·cases hp
   ·exact List.mem_singleton.1 hp
  rw[this];exact(h.qs oz).ok
 ·rw[length_map];unfold sh;split <;> simp
theorem TX(q:Rat):b7 0 ((sh 0 (q:Rat)).map rt)=0:=mD (di 0 q)
theorem R4.ok.nr{b:R4}(h:b.ok):∀x∈b.pl.l,NR x 4000:=by
 intro x hx;simp only[Pl.l,R4.pl,mem_cons,not_mem_nil,or_false]at hx;rcases hx with rfl |rfl |rfl |rfl
 ·exact uZ h.c
 ·exact uZ h.s
 ·exact uZ h.x
 ·exact uZ h.y
theorem Qa(b:R4):bb [] b.pl.l=0:=by
 refine oK (by decide) (fun x hx=>?_);simp only[Pl.l,R4.pl,mem_cons,not_mem_nil,or_false]at hx;rcases hx with rfl |rfl |rfl |rfl <;> exact TX _
theorem KK{r:Nat}(hr:r<=5000000000):TR [] r:=⟨fun d hd=>(by cases hd),fun d hd=>(by cases hd),(by decide),⟨1,1,oz,fun d hd=>(by cases hd),Nat.one_le_two_pow,Nat.one_le_two_pow⟩,hr,.inl (by decide)⟩
theorem MC:TR [] 40000:=KK oz
theorem Hf{bs:List R4}(h:∀b∈bs,b.ok)(hl:bs.length<=20):AL (lZ bs) :=
 ⟨MC,fun b hb=>by obtain⟨r,hr,rfl⟩:=List.mem_map.1 hb;exact(h r hr).nr,zero_le _,by show(bs.map _).length<=20;rw[length_map];exact hl⟩
theorem Ou{l:Li}(hl:l.ok)(hli:aP l=0){bs:List R4}(h:∀b∈bs,b.ok)(hlen:bs.length=l.bo.length):Good l (lZ bs) :=
 ⟨hl,hli,Hf h (by have:=(dZ hli).2.2.2.1;omega),(by decide:bq []=0),fun b hb=>by obtain⟨r,hr,rfl⟩:=List.mem_map.1 hb;exact Qa r,by show(bs.map _).length=_;rw[length_map,hlen]⟩
theorem v6(x y:Rat):eG [] x y=decide (x=y):=by
 refine decide_eq_decide.2 ?_;show bP ((x:Rat)+-y)=0↔x=y;constructor
 ·intro h;have:=mn h;grind
 ·intro h;subst h;have:x + -x = 0:=by grind
  rw[this];rfl
def tA(b:R4):Bool:=decide (b.c=1)&&decide (b.s=0)&&decide (b.x=0)&&decide (b.y=0)
def kA(l:Li)(ps:List Pse):Bool :=
  decide (aP l=0/\ps.length=l.bo.length)&&(ps.all Pse.ok&&(decide (splitE l=0)&&(tA ((ps.getD 0 default).r4)&&l.jo.all (fun j=>mY l (lZ (ps.map Pse.r4)) j))))
def nO(l:Li)(ps:List Pse):List Tn:=l.dv.map (fun d=>(ps.getD d.body.toNat default).turn)
theorem On{l:Li}{ps:List Pse}(h:kA l ps=true):aP l=0/\ps.length=l.bo.length/\(∀p∈ps,p.ok=true)/\tA ((ps.getD 0 default).r4)=true/\∀j∈l.jo,mY l (lZ (ps.map Pse.r4)) j=true:=by
 unfold kA at h;simp only[and_eq_true,decide_eq_true_eq,all_eq_true]at h;exact⟨h.1.1,h.1.2,h.2.1,h.2.2.2.1,h.2.2.2.2⟩
def mt(s:ByteArray)(n:Int):Bd:=⟨s,[⟨⟨#[97]⟩,rt ((0:Int):Rat),rt ((0:Int):Rat)⟩,⟨⟨#[98]⟩,rt (n:Rat),rt ((0:Int):Rat)⟩]⟩
def fb:Li:=⟨⟨#[102,111,117,114,98,97,114]⟩,[mt ⟨#[102,114,97,109,101]⟩ 4,mt ⟨#[99,114,97,110,107]⟩ 3,mt ⟨#[99,111,117,112,108,101,114]⟩ 5,mt ⟨#[114,111,99,107,101,114]⟩ 6],
  [⟨⟨#[111]⟩,0,1,0,0,0,0⟩,⟨⟨#[112]⟩,0,2,0,1,1,0⟩,⟨⟨#[113]⟩,0,3,0,0,1,0⟩,⟨⟨#[114]⟩,0,2,1,3,1,0⟩],[⟨⟨#[100]⟩,1⟩]⟩
def t0:Tn:=⟨⟨false,[],[]⟩,false⟩
theorem yB(a b:ByteArray):dJ a b=(a.data.toList==b.data.toList):=by
 unfold dJ;rw[Go.ByteArray.toList_eq,Go.ByteArray.toList_eq]
theorem Ln:aP fb=0:=by
 have h1:iu fb=0:=by
  unfold iu fi er gM d9;simp only[yB];decide +kernel
 have h2:eM fb=0:=by
  unfold eM fi f6 gM;simp only[yB];decide +kernel
 have h3:iI fb=0:=by
  unfold iI fi d6 gM;simp only[yB];decide +kernel
 unfold aP;rw[h1,h2,h3];decide +kernel
theorem PD{s:ByteArray}(hs:s.size<=281474976710656){n:Int}(hn:-9223372036854775808<=n/\n<=9223372036854775807) :
  (mt s n).name.size<=281474976710656/\(mt s n).pts.length<=281474976710656/\∀m∈(mt s n).pts,m.name.size<=281474976710656/\m.x.wok/\m.y.wok:=by
 have h0:(rt ((0:Int):Rat)).ok:=(nZ oz).ok;have h1:(rt (n:Rat)).ok:=(nZ hn).ok;refine⟨hs,by show 2<=_;omega,fun m hm=>?_⟩;simp only[mt,mem_cons,not_mem_nil,or_false]at hm;rcases hm with rfl |rfl
 ·exact⟨by show 1<=_;omega,h0.wok,h0.wok⟩
 ·exact⟨by show 1<=_;omega,h1.wok,h0.wok⟩
theorem Sw:fb.okw:=by
 refine⟨by decide,fun b hb=>?_,fun j hj=>?_,fun d hd=>?_,by decide,by decide,by decide⟩
 ·simp only[fb,mem_cons,not_mem_nil,or_false]at hb;rcases hb with rfl |rfl |rfl |rfl <;> exact PD (by decide) oz
 ·simp only[fb,mem_cons,not_mem_nil,or_false]at hj;rcases hj with rfl |rfl |rfl |rfl <;> decide
 ·simp only[fb,mem_cons,not_mem_nil,or_false]at hd;rcases hd with rfl;decide
theorem FD:fb.ok:=Ih (by decide +kernel) Sw
def tR:Pl:=⟨[rt ((1:Int):Rat)],[],[],[]⟩
def tz:Pl:=⟨[],[],[],[]⟩
def dW:As:=⟨[],[tR,tR,tz,tz],[]⟩
def jC:Jt:=⟨⟨#[112]⟩,0,2,0,1,1,0⟩
def jV:Jt:=⟨⟨#[113]⟩,0,3,0,0,1,0⟩
def jO:Jt:=⟨⟨#[114]⟩,0,2,1,3,1,0⟩
theorem CG:∃d,el fb 1=⟨1,[2,3],[1,2,3],d⟩:=by
 have h:(el fb 1).kind=1/\(el fb 1).bo=[2,3]/\(el fb 1).jo=[1,2,3]:=by decide +kernel
 generalize el fb 1=g at h ⊢;obtain⟨a,b,c,d⟩:=g;obtain⟨rfl,rfl,rfl⟩:=h;exact⟨d,rfl⟩
theorem E1:et fb 1 dW false=0:=by
 unfold et jq;rw[if_neg (by rw[Ln];decide),if_neg (show ¬splitE fb≠0 by decide +kernel),if_neg (show ¬((1:Int)<0\/((splitG fb).length:Int)<=1) by decide +kernel),if_neg (show ¬dW.bs.length≠fb.bo.length by decide +kernel),if_neg (show ¬bq dW.rs≠0 by decide +kernel)];refine oc fun b hb=>?_
 have h:∀b∈cQ fb (el fb 1) false,fU dW b=0:=by decide +kernel
 exact h b (uJ.1 hb)
theorem Rs(x:Tn):mL fb 1 x dW=hP fb dW 2 3 jC jV jO:=by
 obtain⟨d,h⟩:=CG;unfold mL;rw[if_pos E1,h];rfl
def mQ:Mt:=dc (an fb dW jC 2) (an fb dW jV 3) (qE (aX (ah fb jO 2) (ah fb jC 2))) (qE (aX (ah fb jO 3) (ah fb jV 3)))
theorem yq:mQ.ts=[]/\mQ.ps.length=1:=by
 have h1:¬am (az (an fb dW jC 2) (an fb dW jV 3))=0:=by decide +kernel
 have h2:¬am (bc (an fb dW jC 2) (qE (aX (ah fb jO 2) (ah fb jC 2))) (an fb dW jV 3) (qE (aX (ah fb jO 3) (ah fb jV 3))))<0:=by decide +kernel
 have h3:am (bc (an fb dW jC 2) (qE (aX (ah fb jO 2) (ah fb jC 2))) (an fb dW jV 3) (qE (aX (ah fb jO 3) (ah fb jV 3))))=0:=by decide +kernel
 unfold mQ dc;rw[if_neg h1,if_neg h2,if_pos h3];exact⟨rfl,rfl⟩
def sO:Hd:=⟨ah fb jC 2,P2.l (an fb dW jC 2),ah fb jO 2⟩
def vr:Hd:=⟨ah fb jV 3,P2.l (an fb dW jV 3),ah fb jO 3⟩
theorem RR:(f7 mQ.ts (mQ.ps.getD 0 ([],[])) sO).c=[((-1:Int):Rat)]:=by decide +kernel
theorem Tl(x:Tn):∃p0 p1:Pq,mL fb 1 x dW=([(⟨[],[p0,p1],0⟩:Sv).av],0)/\p0.c=[((-1:Int):Rat)]:=by
 refine⟨f7 mQ.ts (mQ.ps.getD 0 ([],[])) sO,f7 mQ.ts (mQ.ps.getD 0 ([],[])) vr,?_,RR⟩;rw[Rs];unfold hP;rw[if_neg (show ¬fR [bF (ah fb jO 2) (ah fb jC 2),bF (ah fb jO 3) (ah fb jV 3)]=true by decide +kernel),if_neg (show ¬eL (an fb dW jC 2) (an fb dW jV 3) (qE (aX (ah fb jO 2) (ah fb jC 2))) (qE (aX (ah fb jO 3) (ah fb jV 3)))≠0 by decide +kernel)];show(iz mQ [sO,vr] mQ.ps.length,0)=_;rw[yq.2];show([(⟨mQ.ts,[f7 mQ.ts (mQ.ps.getD 0 ([],[])) sO,f7 mQ.ts (mQ.ps.getD 0 ([],[])) vr],if mQ.ps.length=1 then 0 else 1-2*((0:Nat):Int)⟩:Sv).av],0)=_;generalize f7 mQ.ts (mQ.ps.getD 0 ([],[])) sO=p;generalize f7 mQ.ts (mQ.ps.getD 0 ([],[])) vr=q;rw[yq.1,if_pos yq.2]
theorem Nt:lV fb dW (el fb 1)=[]:=by
 obtain⟨d,h⟩:=CG;rw[h];show lV fb dW ⟨1,[2,3],[1,2,3],0⟩=[];decide +kernel
theorem VK:∀b∈dW.bs,ft b.l:=by
 have h1:(rt ((1:Int):Rat)).wok:=(nZ (n:=1) oz).ok.wok
 have h2:ft tR.l:=by
  intro x hx;simp only[Pl.l,tR,mem_cons,not_mem_nil,or_false]at hx;rcases hx with rfl |rfl |rfl |rfl
  ·exact⟨fun r hr=>by rw[List.mem_singleton.1 hr];exact h1,by show 1<=_;omega⟩
  all_goals exact⟨fun r hr=>(by cases hr),by show 0<=_;omega⟩
 have h3:ft tz.l:=by
  intro x hx;simp only[Pl.l,tz,mem_cons,not_mem_nil,or_false]at hx;rcases hx with rfl |rfl |rfl |rfl
  all_goals exact⟨fun r hr=>(by cases hr),by show 0<=_;omega⟩
 intro b hb;simp only[dW,mem_cons,not_mem_nil,or_false]at hb;rcases hb with rfl |rfl |rfl |rfl
 ·exact h2
 ·exact h2
 ·exact h3
 ·exact h3
theorem uA:AL dW:=PX (by decide +kernel) ⟨xW,by decide,VK,by decide⟩
open Go.Proofs
theorem jT.ofL{l l':List AV}(h:SubL l l')(ho:l'.all AV.one=true):jT (.agg l) (.agg l') :=
 ⟨h.len,fun j x y hx hy=>⟨List.all_eq_true.1 ho y (mem_of_getElem? hy),h.get j x y hx hy⟩⟩
theorem Cc:jT (.agg [nS,nS,nS,nS]) tz.av:=.ofL (.cons (.nil _ _ _) (.cons (.nil _ _ _) (.cons (.nil _ _ _) (.cons (.nil _ _ _) .nil)))) rfl
theorem H5:jT (.agg [nA [1],nA [],nA [],nA []]) tR.av:=.ofL (.cons (.refl _) (.cons (.refl _) (.cons (.refl _) (.cons (.refl _) .nil)))) rfl
theorem C8:Sub (.agg [nS,.lst 4 [.agg [nA [1],nA [],nA [],nA []],.agg [nA [1],nA [],nA [],nA []],.agg [nS,nS,nS,nS],.agg [nS,nS,nS,nS]],nS]) dW.av:=by
 refine .agg (.cons (.nil _ _ _) (.cons (Sub.lst rfl (fun i x y hx hy=>?_)) (.cons (.nil _ _ _) .nil))) rfl
 match i,hx,hy with
 |0,hx,hy=>cases hx;cases hy;exact H5
 |1,hx,hy=>cases hx;cases hy;exact H5
 |2,hx,hy=>cases hx;cases hy;exact Cc
 |3,hx,hy=>cases hx;cases hy;exact Cc
theorem C4(s:ByteArray)(x y:Int)(hx:-9223372036854775808<=x/\x<=9223372036854775807)(hy:-9223372036854775808<=y/\y<=9223372036854775807):FP 243 [.v (.string s),i64 x,i64 y] (Mk.av ⟨s,rt (x:Rat),rt (y:Rat)⟩):=by
 refine aj func243 ?_;refine gc (qX x hx) ?_;refine gc (qX y hy) ?_;refine af ?_
 first |rfl |(simp;done)
theorem w8(s:ByteArray)(n:Int)(hn:-9223372036854775808<=n/\n<=9223372036854775807):FP 131 [.v (.string s),i64 n] (mt s n).av:=by
 refine aj func131 ?_;refine gc (C4 _ 0 0 oz oz) ?_;refine gc (C4 _ n 0 hn oz) ?_;refine af ?_
 first |rfl |(simp;done)
theorem O6:FP 54 [] fb.av:=by
 refine aj func54 ?_;refine gc (w8 _ 4 oz) ?_;refine gc (w8 _ 3 oz) ?_;refine gc (w8 _ 5 oz) ?_;refine gc (w8 _ 6 oz) ?_;refine af ?_
 first |rfl |(simp;done)
theorem IJ:FP 13 [] (bl true):=by
 have z:(⟨false,[],[]⟩:Rt).q=0:=Rt.zero (fun h=>h.2 rfl);obtain⟨p0,p1,hr,hp⟩:=Tl ⟨⟨false,[],[]⟩,false⟩;have hS:=N7 fb FD 1 (x:=⟨⟨false,[],[]⟩,false⟩) ⟨o6,o6,zero_le _,zero_le _⟩ (by show Qb 1000 (⟨false,[],[]⟩:Rt).q;rw[z];exact Qb.zero.mono oz) dW uA (fun _=>by decide);rw[hr]at hS;have hS2:=Con.sA (.cons (.refl _) (.cons (.refl _) (.cons (Sub.agg (.cons (.refl _) (.cons (Sub.nil 1 none 0) (.cons (Sub.nil 1 none 0) (.cons (.refl _) .nil)))) rfl) (.cons C8 .nil)))) hS;have hD:=Gt fb FD 1 dW uA.ab (uA.dys (fun _=>by decide)) (uA.sma fb 1 false);rw[E1,if_pos rfl,Nt]at hD;have hD2:=Con.sA (.cons (.refl _) (.cons (.refl _) (.cons C8 .nil))) hD;have tw0:Tw [] 40000:=(cA (rs:=[]) uA.tr (by decide +kernel)).1;have n1:Nm 0 10 [((-1:Int):Rat)]:=(oX (n:=0) oz (show Qb 1 ((-1:Int):Rat)from⟨by decide,by decide⟩)).mono oz;have hE:=lS (ts:=[]) tw0 n1 n1 (by decide);rw[Pu]at hE;have hG:=ye (ts:=[]) tw0 (a:=[]) (e:=0) ⟨by decide,.inl rfl,Cb.nil⟩ (by decide);have tq:Sub (.agg [nS]) (aO []):=.agg (.cons (.nil _ _ _) .nil) rfl;have hE2:=Con.sA (.cons tq (.cons (.refl _) (.cons (.refl _) .nil))) hE;have hG2:=Con.sA (.cons tq (.cons (.refl _) .nil)) hG;refine aj func13 ?_;refine gc O6 ?_;refine gc Bn ?_;refine gc Bn ?_;refine gc hS2 ?_;refine gc hD2 ?_;refine PZ (fun _=>rfl) ?_;refine kV (fun _=>(rfl)) ?_;refine kV (fun _=>(rfl)) ?_;refine cE ?_;refine bU (fun _=>hG2) ?_;refine kV (fun _=>(rfl)) ?_;refine cE ?_;refine kV (fun _=>(rfl)) ?_;refine kV (fun _=>(rfl)) ?_;refine bU (fun _=>(AN (-1) oz)) ?_;refine bU (fun _=>(by rw[hp];exact hE2)) ?_;refine gD ?_;refine af ?_;rfl
deriving instance DecidableEq for Pq
deriving instance DecidableEq for Aq
theorem rK{ts:LL}{r:Nat}(hr:r<=400000000)(h2:ts.length<=2):kB r ts.length<=1200000006:=by
 have h:=gP r h2;have h3:eB r 2=3*r+6:=by simp only[eB];omega
 show eB r ts.length<=_;omega
theorem jP{ts:LL}(h2:ts.length<=2):lm ts.length=200000000000:=by unfold lm;rw[if_pos h2]
theorem OD{ts:LL}{r:Nat}(tw:Tw ts r):FP 28 [aO ts,nS] (i64 (0:Nat)):=by
 have h:=AW (ts.map (List.map rt)) r 0 tw.tr [] (fun x hx=>by cases hx) (zero_le _) (by show 0<=_;omega)
 have e:bb (ts.map (List.map rt)) []=0:=by
  unfold bb;rw[if_neg (by rw[tw.chk];simp)];rfl
 rw[e,gL]at h;exact Con.sA (.cons (.refl _) (.cons (Sub.nil 1 none 0) .nil)) h
theorem Tx{ts:LL}{r e:Nat}(tw:Tw ts r){p:Pq}(hp:Pq.ok ts.length e p)(he:e<=lm ts.length):FP 28 [aO ts,.lst 1 [nA p.c,nA p.s,nA p.x,nA p.y]] (i64 (0:Nat)):=by
 have h:=AW (ts.map (List.map rt)) r e tw.tr p.pl.l (hp.nr he) (by rw[length_map];exact he) (by show 4<=_;omega)
 have e0:bb (ts.map (List.map rt)) p.pl.l=0:=by
  unfold bb;rw[if_neg (by rw[tw.chk];simp),length_map];exact oc (fun x hx=>hp.num x hx)
 have e1:p.pl.l.map nR=[nA p.c,nA p.s,nA p.x,nA p.y]:=by
  unfold Pl.l Pq.pl;simp only[map_cons,map_nil,dj]
 rw[e0,gL,e1]at h;exact h
section
variable{l:Li}{xs:List Tn}{a:Aq}(F:AqFin l xs a)
include F
end
structure AqS(l:Li)(a:Aq):Prop where
  li:aP l=0
  tw:∃r,r<=400000000/\Tw a.ts r
  two:a.ts.length<=2
  bs:∀p∈a.bs,Pq.ok a.ts.length 3200000000 p
  ln:a.bs.length=l.bo.length
theorem AqFin.s{l:Li}{xs:List Tn}{a:Aq}(F:AqFin l xs a):AqS l a:=⟨F.li,F.tw,F.two,F.bs,F.ln⟩
theorem yd{l:Li}{a:Aq}(F:AqS l a)(hl:l.ok){body pt:Int}(h1:bA body l.bo.length=true)(h2:bA pt (cF l body).length=true) :
  Nm a.ts.length 12100000000 (sX (aq l a.ts a.bs body pt).1)/\Nm a.ts.length 12100000000 (sX (aq l a.ts a.bs body pt).2):=by
 obtain⟨n,k,bd,m,h⟩:=qj hl F.li h1 h2;obtain⟨r,hr,tw⟩:=F.tw;have hk:=rK hr F.two;obtain⟨p,hp⟩:=aH (l:=a.bs) (i:=n) (by rw[F.ln];exact(List.getElem?_eq_some_iff.1 h.gbd).1);have po:=F.bs p (mem_of_getElem? hp);have e:body.toNat=n:=by have:=h.hn;omega
 have hb:Pq.ok a.ts.length 3200000000 ⟨lq p.pl.c,lq p.pl.s,lq p.pl.x,lq p.pl.y⟩:=by
  unfold Pq.pl;dsimp only;rw[cZ,cZ,cZ,cZ];exact po
 have hq:=Ig tw hb h.sm;unfold Pq.pl at hq;dsimp only[fo]at hq;rw[cZ,cZ,cZ,cZ]at hq;unfold aq;rw[e,aw hp];exact⟨hq.1.mono oz,hq.2.mono oz⟩
def oq(l:Li)(a:Aq)(j:Jt):Bool :=
  if j.kind=0 then decide (T.sgn (ao a.ts) a.ts.length (subT a.ts (aq l a.ts a.bs j.a j.point).1 (aq l a.ts a.bs j.b j.on).1)=0/\T.sgn (ao a.ts) a.ts.length (subT a.ts (aq l a.ts a.bs j.a j.point).2 (aq l a.ts a.bs j.b j.on).2)=0)
  else decide (T.sgn (ao a.ts) a.ts.length (rF a.ts (aq l a.ts a.bs j.b j.on).1 (aq l a.ts a.bs j.b j.on).2 (aq l a.ts a.bs j.b j.to).1 (aq l a.ts a.bs j.b j.to).2 (aq l a.ts a.bs j.a j.point).1 (aq l a.ts a.bs j.a j.point).2)=0)
theorem LG{l:Li}{a:Aq}{j:Jt}(h:JH l a.ts a.bs j):oq l a j=true:=by
 unfold JH at h;unfold oq;split
 ·rename_i hk;rw[if_pos hk]at h;exact decide_eq_true h
 ·rename_i hk;rw[if_neg hk]at h;exact decide_eq_true h
def Pq.l(p:Pq):LL:=[p.c,p.s,p.x,p.y]
theorem Pq.ok.mem{n e:Nat}{p:Pq}(h:Pq.ok n e p):∀x∈p.l,Nm n e x:=by
 intro x hx;simp only[Pq.l,mem_cons,not_mem_nil,or_false]at hx;rcases hx with rfl |rfl |rfl |rfl
 ·exact h.c
 ·exact h.s
 ·exact h.x
 ·exact h.y
theorem dN{ts:LL}{e f:Nat}{x y:Et ts}(h1:Bz e x)(h2:Bz f y):Nm ts.length (e+f+1) (sX (x-y)):=Bz.sub h1 h2
section
variable{ts:LL}{r e f:Nat}(tw:Tw ts r){x y x2 y2:Et ts}
include tw
theorem pW(h1:Nm ts.length e (sX x))(h2:Nm ts.length e (sX y))(h3:Nm ts.length e (sX x2))(h4:Nm ts.length e (sX y2))(he:2*e<=lm ts.length) :
  FP 76 [aO ts,aG (sX x) (sX y),aG (sX x2) (sX y2)] (.tup [aG (sX (x-x2)) (sX (y-y2)),.v .nilIface]):=by
 have h:=xQ tw h1 h2 h3 h4 he;have ew:∀z:Et ts,ac ts.length (sX z)=z:=fun z=>a5 _ _
 rw[ew,ew,ew,ew]at h;exact h
theorem Mg(h1:Nm ts.length e (sX x))(h2:Nm ts.length e (sX y))(h3:Nm ts.length e (sX x2))(h4:Nm ts.length e (sX y2))(he:2*(e+e+kB r ts.length)<=lm ts.length) :
  FP 77 [aO ts,aG (sX x) (sX y),aG (sX x2) (sX y2)] (.tup [nA (sX (crsE x y x2 y2)),.v .nilIface]):=by
 have h:=wC tw h1 h2 h3 h4 he;have ew:∀z:Et ts,ac ts.length (sX z)=z:=fun z=>a5 _ _
 rw[ew,ew,ew,ew]at h;exact h
theorem z5(h1:Nm ts.length e (sX x))(h2:Nm ts.length e (sX y))(h3:Nm ts.length e (sX x2))(h4:Nm ts.length e (sX y2))(he:2*(e+e+kB r ts.length)<=lm ts.length) :
  FP 80 [aO ts,aG (sX x) (sX y),aG (sX x2) (sX y2)] (.tup [nA (sX (dotE x y x2 y2)),.v .nilIface]):=by
 have h:=xg tw h1 h2 h3 h4 he;have ew:∀z:Et ts,ac ts.length (sX z)=z:=fun z=>a5 _ _
 rw[ew,ew,ew,ew]at h;exact h
theorem Jr(h1:Bz e x)(h2:Bz e y)(h3:Bz f x2)(h4:Bz f y2):Nm ts.length (2*(e+f+kB r ts.length)+1) (sX (crsE x y x2 y2)) :=
 ((h1.mul tw (le_refl _) h4).sub (h2.mul tw (le_refl _) h3)).mono (by show e+f+kB r ts.length+(e+f+kB r ts.length)+1<=_;omega)
theorem Co(h1:Bz e x)(h2:Bz e y)(h3:Bz f x2)(h4:Bz f y2):Nm ts.length (2*(e+f+kB r ts.length)+1) (sX (dotE x y x2 y2)) :=
 ((h1.mul tw (le_refl _) h3).add (h2.mul tw (le_refl _) h4)).mono (by show e+f+kB r ts.length+(e+f+kB r ts.length)+1<=_;omega)
end
def oB(l:Li)(a:As)(g:Gr):List Rat:=if g.kind=0 then sh 0 ((1:Int):Rat)else sX (i7 l a g)
section
variable{E:Nat}{l:Li}{a:As}(D:DyW l a)(h3:(llq a.rs).length<=2)
include D h3
theorem kf{body pt:Int}(h1:bA body l.bo.length=true)(h2:bA pt (cF l body).length=true)(hb:Pd E a body) :
  Nm (llq a.rs).length (3*E+2400002022) (sX (ax l a body pt).1)/\Nm (llq a.rs).length (3*E+2400002022) (sX (ax l a body pt).2):=by
 obtain⟨n,k,bd,m,b,hp⟩:=ue D.hl D.li D.al D.hc h1 h2 hb;obtain⟨tw,_⟩:=cA D.al.tr D.hc;have kb:=oh h3;have c1:Qb 1000 m.x.q:=by rw[hp.mp.ex,bK];exact hp.mp.sm.x
 have c2:Qb 1000 m.y.q:=by rw[hp.mp.ey,bK];exact hp.mp.sm.y
 have h:=wV tw hp.ok c1 c2;unfold ax;rw[hp.eq];exact⟨h.1.mono oz,h.2.mono oz⟩
theorem nE{i:Nat}{j:Jt}(hj:l.jo[i]?=some j){b:Int}(h:PinP E l a j b) :
  Nm (llq a.rs).length (3*E+2400002022) (sX (an l a j b).1)/\Nm (llq a.rs).length (3*E+2400002022) (sX (an l a j b).2):=by
 obtain⟨i1,i2,i3,i4,_⟩:=cH D.li hj;unfold an;rcases h.tie with⟨e,hb⟩ |⟨e,e2,hb⟩
 ·rw[if_pos e];exact kf D h3 i2 i4 hb
 ·rw[if_neg e];exact kf D h3 i1 i3 hb
theorem uX{b:Int}(hb:Pd E a b){q:Rat×Rat}(hq:Sm 1000 q):Nm (llq a.rs).length (3*E+2400002022) (sX (kt a b q).1)/\Nm (llq a.rs).length (3*E+2400002022) (sX (kt a b q).2):=by
 obtain⟨p,hp,hn,hbn⟩:=hb;obtain⟨tw,_⟩:=cA D.al.tr D.hc;have h5:a.rs.length<=5:=by have:=tw.five;rwa [q9]at this
 have h9:=(w7 hn hbn h5).2;rw[<- q9 a.rs]at h9;have kb:=oh h3;have h:=Ig tw h9 hq;unfold kt;rw[aw hp];exact⟨h.1.mono oz,h.2.mono oz⟩
theorem Ic(hE:E<=3200000000){b:Int}{p:Pl}(hp:a.bs[b.toNat]?=some p)(hn:bb a.rs p.l=0)(hbn:∀x∈p.l,NR x E){q:Rat×Rat}(hq:Sm 1000 q) :
  FP 89 [.agg [.lst 1 (a.rs.map nR)],p.av,qA q.1,qA q.2] (.tup [aG (sX (kt a b q).1) (sX (kt a b q).2),.v .nilIface]):=by
 obtain⟨tw,hta⟩:=cA D.al.tr D.hc;have h5:a.rs.length<=5:=by have:=tw.five;rwa [q9]at this
 obtain⟨e1,ok⟩:=w7 hn hbn h5;rw[<- q9 a.rs]at ok;have kb:=oh h3;have hlm:=jP h3;have h:=HR tw (ok.c.mono (f:=E+1000) oz) (ok.s.mono oz) (ok.x.mono oz) (ok.y.mono oz) (hq.x.mono (f:=E+1000) oz) (hq.y.mono (f:=E+1000) oz) oz;rw[e1,<- kH D.al.tr D.hc];unfold kt;rw[aw hp];exact h
end
theorem Pm{E:Nat}{l:Li}{a:As}(D:DyW l a)(h3:(llq a.rs).length<=2){k:Int}{n:Nat}{g:Gr}(ok:DyOk E l k a true n g):Nm (llq a.rs).length (24*E+21600016203) (oB l a g):=by
 obtain⟨tw,hta⟩:=cA D.al.tr D.hc;have kb:=oh h3;unfold oB
 by_cases h0:g.kind=0
 ·rw[if_pos h0];exact(Nm.ofQ tw.five (Cb.int (z:=1) (e:=1) (by decide))).mono oz
 ·rw[if_neg h0]
  by_cases h1:g.kind=1
  ·obtain⟨i,k2,z0,z1,z2,j0,j1,j2,P⟩:=ok.rrr h1;obtain⟨y1,y2⟩:=nE D h3 P.h0 P.p0;obtain⟨y3,y4⟩:=nE D h3 P.h1 P.p1;obtain⟨y5,y6⟩:=uX D h3 (ok.own (b:=i) (by rw[P.eq];simp)) (eT D.hl D.li P.h2 P.t1);obtain⟨e0,e1,e2,b0,b1,_⟩:=P.at;unfold i7;rw[if_neg h0,if_pos h1,e0,e1,e2,b0,b1];exact(Jr tw (dN y3 y1) (dN y4 y2) (dN y5 y1) (dN y6 y2)).mono oz
  ·by_cases h2:g.kind=2
   ·obtain ⟨i, z0, z1, j0, j, P, ha, hb⟩:=ok.pr h2;obtain ⟨i1,i2,i3,i4,i5⟩:=cH D.li P.h1;have q2:Sm 1000 (aB l i j.point):=by rw [<- ha]; exact iM D.hl D.li i1 i3
    obtain⟨y1,y2⟩:=nE D h3 P.h0 P.p0;obtain⟨y3,y4⟩:=kf D h3 i2 (i5 P.hk) hb;obtain⟨y7,y8⟩:=kf D h3 i2 i4 hb;obtain⟨y5,y6⟩:=uX D h3 (ok.own (b:=i) (by rw[P.eq];simp)) q2;obtain⟨e0,e1,b0,_⟩:=P.at;unfold i7;rw[if_neg h0,if_neg h1,if_pos h2,e0,e1,b0];exact(Co tw (dN y3 y7) (dN y4 y8) (dN y5 y1) (dN y6 y2)).mono oz
   ·obtain ⟨i, z0, z1, j0, j, P, _, hj, hb⟩:=ok.rp h0 h1 h2;obtain ⟨i1,i2,i3,i4,i5⟩:=cH D.li P.h1;have hpi:Pd E a j.b:=by rw [hj]; exact ok.own (b:=i) (by rw [P.eq]; simp)
    obtain⟨y1,y2⟩:=nE D h3 P.h0 P.p0;obtain⟨y3,y4⟩:=kf D h3 i1 i3 hb;obtain⟨y5,y6⟩:=kf D h3 i2 i4 hpi;obtain⟨y7,y8⟩:=kf D h3 i2 (i5 P.hk) hpi;obtain⟨e0,e1,b0,_⟩:=P.at;unfold i7;rw[if_neg h0,if_neg h1,if_neg h2,e0,e1,b0];exact(Co tw (dN y7 y5) (dN y8 y6) (dN y3 y1) (dN y4 y2)).mono oz
theorem JE{E:Nat}(hE:E<=3200000000){l:Li}{k:Int}{a:As}{n:Nat}{g:Gr}(hop:Con prog 63 [l.av,i64 k,a.av,bl true] [] (.tup [.ptr 900 0,.v .nilIface]) [(900,some (b8 l g a))])(D:DyW l a)(h3:(llq a.rs).length<=2)(ok:DyOk E l k a true n g) :
  FP 27 [l.av,i64 k,a.av] (.tup [nA (oB l a g),.v .nilIface]):=by
 obtain⟨tw,hta⟩:=cA D.al.tr D.hc;have kb:=oh h3;have hlm:=jP h3;have hgo:=ok.ok;have hbl:=D.al.bl;refine aj func27 ?_;refine gt (aI hop (.cons (.tmp rfl) (.cons (.tmp rfl) (.cons (.tmp rfl) (.cons (.const _) .nil)))) aL rfl rfl) ?_ (2,0);refine gW (Wk.o (sl:=[(5,some (.ptr 5 0)),(8,some (.ptr 900 0)),(9,some (.v .nilIface))]) (hp:=[(5,some (.box a.av.cells)),(900,some (b8 l g a))])) ?_;refine gC (fun t30=>?_) (fun t30=>?_) (st1:=(3,0)) (st2:=(5,0));cases t30;refine gW (Wk.o (sl:=[(5,some (.ptr 5 0)),(8,some (.ptr 900 0)),(10,some (.ptr 35 0))]) (hp:=[(5,some (.box a.av.cells)),(900,some (b8 l g a)),(35,some (df a.rs))])) ?_ (10,0);refine qu [8,10] [900,35] [(11,some (nA (sX (i7 l a g))))] [] (g.kind≠0) ?_ ?_ 2
 ·intro K1 J1;refine gC (fun t79=>?_) (fun t79=>?_)
  ·have hk:g.kind=0:=cB t79;have hd:oB l a g=sh 0 ((1:Int):Rat):=if_pos hk;rw[hd];refine gc (GH) ?_;refine gR ?_;exact kP rfl
  have hk0:g.kind≠0:=cK t79;refine gC (fun t82=>?_) (fun t82=>?_)
  ·have hk:g.kind = 1:=cB t82;obtain ⟨i,k2,z0,z1,z2,j0,j1,j2,P⟩:=ok.rrr hk;obtain ⟨e0,e1,e2,b0,b1,_⟩:=P.at;have hE9:i7 l a g = gj (aK (an l a j1 k2) (an l a j0 i)) (aK (kt a i (ah l j2 i)) (an l a j0 i)):=by unfold i7; rw [if_neg hk0,if_pos hk,e0,e1,e2,b0,b1]
   obtain rfl:=P.eq;have hi0:=(hgo.b i (by simp)).1;obtain⟨p,hp,hn,hbn⟩:=ok.own (b:=i) (by simp);have hil:=(List.getElem?_eq_some_iff.1 hp).1;have hq:=eT D.hl D.li P.h2 P.t1;obtain⟨y1,y2⟩:=nE D h3 P.h0 P.p0;obtain⟨y3,y4⟩:=nE D h3 P.h1 P.p1;obtain⟨y5,y6⟩:=uX D h3 (ok.own (b:=i) (by simp)) hq;have s1:=pW tw y3 y4 y1 y2 oz;have s2:=pW tw y5 y6 y1 y2 oz;have s3:=Mg tw (dN y3 y1) (dN y4 y2) (dN y5 y1) (dN y6 y2) oz;rw[kH D.al.tr D.hc]at s1 s2 s3;refine gt (aI (Con.rB 900 rfl rfl rfl rfl (zI D.hl D.li D.al D.hc h3 hgo P.h0 P.h1 P.h2 P.p0 P.p1 P.t1 P.t2)) (cJ rfl) aL rfl rfl) ?_;refine gi (rfl) ?_;refine gi (fD (n:=i.toNat) oz hp) ?_;refine gc (Ic D h3 hE (b:=i) hp hn hbn hq) ?_;refine gt (aS (Con.rB 35 rfl rfl rfl rfl (kL _ _ _)) (aF rfl rfl rfl) rfl rfl rfl) ?_;refine gD ?_;refine gc s1 ?_;refine gt (aS (Con.rB 35 rfl rfl rfl rfl (kL _ _ _)) (aF rfl rfl rfl) rfl rfl rfl) ?_;refine gc s2 ?_;refine gt (aS (Con.rB 35 rfl rfl rfl rfl (kL _ _ _)) (aF rfl rfl rfl) rfl rfl rfl) ?_;refine gc s3 ?_;refine gt (aS (Con.rB 35 rfl rfl rfl rfl (lN _ _)) (aF rfl rfl rfl) rfl rfl rfl) ?_;refine gD ?_;exact iT J1 hk0 (hw:=Wk.of (.cons rfl (Sub.of (congrArg (fun z=>nA (sX z)) hE9.symm)) (.k (.k .nil))) (.k (.k .nil)))
  have hk1:g.kind≠1:=cK t82;refine gC (fun t149=>?_) (fun t149=>?_)
  ·have hk:g.kind = 2:=cB t149;obtain ⟨i,z0,z1,j0,j,P,ha,hb⟩:=ok.pr hk;obtain ⟨e0,e1,b0,_⟩:=P.at;have hE9:i7 l a g = cR (aK (ax l a j.b j.to) (ax l a j.b j.on)) (aK (kt a i (aB l i j.point)) (an l a j0 i)):=by unfold i7; rw [if_neg hk0,if_neg hk1,if_pos hk,e0,e1,b0]
   obtain rfl:=P.eq;obtain⟨i1,i2,i3,i4,i5⟩:=cH D.li P.h1;have hi0:=(hgo.b i (by simp)).1;obtain⟨p,hp,hn,hbn⟩:=ok.own (b:=i) (by simp);have hil:=(List.getElem?_eq_some_iff.1 hp).1;have hq:Sm 1000 (aB l i j.point):=by rw[<- ha];exact iM D.hl D.li i1 i3
   obtain⟨y1,y2⟩:=nE D h3 P.h0 P.p0;obtain⟨y3,y4⟩:=kf D h3 i2 (i5 P.hk) hb;obtain⟨y7,y8⟩:=kf D h3 i2 i4 hb;obtain⟨y5,y6⟩:=uX D h3 (ok.own (b:=i) (by simp)) hq;have s1:=pW tw y3 y4 y7 y8 oz;have s2:=pW tw y5 y6 y1 y2 oz;have s3:=z5 tw (dN y3 y7) (dN y4 y8) (dN y5 y1) (dN y6 y2) oz;rw[kH D.al.tr D.hc]at s1 s2 s3;refine gt (aI (Con.rB 900 rfl rfl rfl rfl (xS D.hl D.li D.al D.hc h3 hgo P.h0 P.h1 P.p0 ha P.hk hb)) (cJ rfl) aL rfl rfl) ?_;refine gi (rfl) ?_;refine gi (fD (n:=i.toNat) oz hp) ?_;refine gc (Ic D h3 hE (b:=i) hp hn hbn hq) ?_;refine gt (aS (Con.rB 35 rfl rfl rfl rfl (kL _ _ _)) (aF rfl rfl rfl) rfl rfl rfl) ?_;refine gD ?_;refine gc s1 ?_;refine gt (aS (Con.rB 35 rfl rfl rfl rfl (kL _ _ _)) (aF rfl rfl rfl) rfl rfl rfl) ?_;refine gc s2 ?_;refine gt (aS (Con.rB 35 rfl rfl rfl rfl (kL _ _ _)) (aF rfl rfl rfl) rfl rfl rfl) ?_;refine gc s3 ?_;refine gt (aS (Con.rB 35 rfl rfl rfl rfl (lN _ _)) (aF rfl rfl rfl) rfl rfl rfl) ?_;refine gD ?_;exact iT J1 hk0 (hw:=Wk.of (.cons rfl (Sub.of (congrArg (fun z=>nA (sX z)) hE9.symm)) (.k (.k .nil))) (.k (.k .nil)))
  have hk2:g.kind≠2:=cK t149;obtain⟨i,z0,z1,j0,j,P,ha,hj,hb⟩:=ok.rp hk0 hk1 hk2;obtain⟨e0,e1,b0,_⟩:=P.at;have hE9:i7 l a g=cR (aK (ax l a j.b j.to) (ax l a j.b j.on)) (bR l a i j0 j):=by unfold i7;rw[if_neg hk0,if_neg hk1,if_neg hk2,e0,e1,b0]
  obtain rfl:=P.eq;obtain⟨i1,i2,i3,i4,i5⟩:=cH D.li P.h1;have hpi:Pd E a j.b:=by rw[hj];exact ok.own (b:=i) (by simp)
  obtain⟨y1,y2⟩:=nE D h3 P.h0 P.p0;obtain⟨y5,y6⟩:=kf D h3 i1 i3 hb;obtain⟨y3,y4⟩:=kf D h3 i2 (i5 P.hk) hpi;obtain⟨y7,y8⟩:=kf D h3 i2 i4 hpi;have s0:=pW tw y5 y6 y1 y2 oz;have sd:=z5 tw (dN y5 y1) (dN y6 y2) (dN y5 y1) (dN y6 y2) oz;have s1:=pW tw y3 y4 y7 y8 oz;have s3:=z5 tw (dN y3 y7) (dN y4 y8) (dN y5 y1) (dN y6 y2) oz;rw[kH D.al.tr D.hc]at s0 sd s1 s3;refine gt (aS (Con.rB 900 rfl rfl rfl rfl (zK D.hl _ hgo a rfl P.h1)) (cJ rfl) rfl rfl rfl) ?_;refine gt (aI (Con.rekeyBB 900 35 (by decide) (by decide) rfl rfl rfl rfl rfl rfl (H1 (E:=E) oz D h3 hgo P.h0 P.h1 P.p0 hj P.hk hb s0 sd)) (bO rfl rfl) aL rfl rfl) ?_;refine gt (aI (Con.rB 900 rfl rfl rfl rfl (pu (E:=E) D.hl D.li _ D.al D.hc i2 (i5 P.hk) oz h3 hpi)) (aF rfl rfl rfl) aL rfl rfl) ?_;refine gt (aI (Con.rB 900 rfl rfl rfl rfl (pu (E:=E) D.hl D.li _ D.al D.hc i2 i4 oz h3 hpi)) (aF rfl rfl rfl) aL rfl rfl) ?_;refine gc s1 ?_;refine gt (aS (Con.rB 35 rfl rfl rfl rfl (kL _ _ _)) (aF rfl rfl rfl) rfl rfl rfl) ?_;refine gD ?_;refine gc s3 ?_;refine gt (aS (Con.rB 35 rfl rfl rfl rfl (lN _ _)) (aF rfl rfl rfl) rfl rfl rfl) ?_;refine gD ?_;exact iT J1 hk0 (hw:=Wk.of (.cons rfl (Sub.of (congrArg (fun z=>nA (sX z)) hE9.symm)) (.k (.k .nil))) (.k (.k .nil)))
 rintro hk9;rw[show oB l a g=sX (i7 l a g)from if_neg hk9];refine gC (fun t219=>?_) (fun t219=>?_) (st2:=(77777,0))
 ·refine gC (fun t231=>?_) (fun t231=>?_) (st1:=(23,0));cases t231;refine gR ?_;exact kP rfl
 cases t219
def iG(l:Li)(a:Aq)(g:Gr):List Rat:=if g.kind=0 then sh 0 ((1:Int):Rat)else sX (bX l a.ts a.bs g)
theorem Eb(l:Li)(a:Aq)(g:Gr):oB l a.as g=iG l a g:=by
 unfold oB iG;split
 ·rfl
 ·rw[Lr]
  have:∀(T:LL)(bs:List Pq),T=a.ts->bs=a.bs->(sX (bX l T bs g):List Rat)=sX (bX l a.ts a.bs g):=by
   rintro _ _ rfl rfl;rfl
  exact this _ _ a.llq (qk a)
structure AqE(E:Nat)(l:Li)(a:Aq):Prop where
  s:AqS l a
  be:∀p∈a.bs,Pq.ok a.ts.length E p
  le:E<=3200000000
theorem AqS.e{l:Li}{a:Aq}(F:AqS l a):AqE 3200000000 l a:=⟨F,F.bs,le_refl _⟩
section
variable{E:Nat}{l:Li}(hl:l.ok){a:Aq}(F:AqE E l a)(hs:splitE l=0){k:Nat}{g:Gr}(hg:(splitG l)[k]?=some g)
include hl F hs hg
theorem Dv(own:Bool):DyW l a.as/\DyOk E l k a.as own k g/\(Lw.llq a.as.rs).length<=2/\et l k a.as own=0:=by
 obtain⟨r,hr,tw⟩:=F.s.tw;have hE:=F.le;have Q:QInv l 2 r E a:=⟨tw,F.s.two,F.be,F.s.ln⟩
 have D:DyW l a.as:=⟨hl,F.s.li,Q.ab F.s.li oz hr,Q.chk⟩
 have h0:=Q.dy0 F.s.li hs hg own;obtain⟨i,g',h⟩:=vt (Q.sma oz (le_refl _) k own) h0;have e:i=k:=by have:=h.hk;omega
 subst e;have h2:=h.hg;rw[hg]at h2;cases h2;exact⟨D,h,by rw[a.llq];exact F.s.two,h0⟩
theorem zG:Nm a.ts.length (24*E+21600016203) (iG l a g):=by
 obtain⟨D,ok,h3,_⟩:=Dv hl F hs hg true;have h:=Pm D h3 ok;rw[Eb,a.llq]at h;exact h
theorem RD:FP 27 [l.av,i64 k,a.av] (.tup [nA (iG l a g),.v .nilIface]):=by
 obtain⟨D,ok,h3,h0⟩:=Dv hl F hs hg true;have hop:=A5 l hl k a.as D.al true;have hgA:el l (k:Nat)=g:=aw hg;rw[h0,hgA]at hop;have h:=JE F.le hop D h3 ok;rw[Aq.as_av,Eb]at h;exact h
end
section
variable{l:Li}(hl:l.ok){a:Aq}(F:AqS l a)(hs:splitE l=0){k:Nat}{g:Gr}(hg:(splitG l)[k]?=some g)
include hl F hs hg
end
open Lean.Grind (CommRing)
def bN(ps:List Pse):Aq:=⟨[],ps.map bG,[]⟩
theorem yi(ps:List Pse):(bN ps).as=lZ (ps.map Pse.r4):=by
 unfold bN Aq.as lZ;rw[map_map,map_map];rfl
theorem JO{l:Li}{a:As}{j:Jt}(h:mY l a j=true):JH l (llq a.rs) (aC a) j:=by
 have e:∀b pt,fF l a b pt=aq l (llq a.rs) (aC a) b pt:=fun b pt=>dT l a b pt
 unfold mY at h;unfold JH
 by_cases hk:j.kind=0
 ·rw[if_pos hk]at h ⊢;rw[e,e,and_eq_true]at h;exact⟨of_decide_eq_true h.1,of_decide_eq_true h.2⟩
 ·rw[if_neg hk]at h ⊢;rw[e,e,e]at h;exact of_decide_eq_true h
theorem UN{U:LL}(hp:cS U)(p:Pse):CH U (bG p):=by
 have hc:(dE U (bG p).c:Et U)=qE (dR p.turn.half p.turn.t.q):=gf _ _;have hs:(dE U (bG p).s:Et U)=qE (d5 p.turn.half p.turn.t.q):=gf _ _;have q1:(qE 1:Et U)=1:=rfl;unfold CH;rw[hc,hs,<- gG,<- gG,<- l7,Fo,q1,show(1:Et U)-1=0 by grind];exact(dz _ _ hp).zero
theorem DH(p:Pse):Nq 0 (bG p):=⟨(di 0 _).le,(di 0 _).le,(di 0 _).le,(di 0 _).le⟩
structure Drw(l:Li)(ps:List Pse):Prop where
  hl:l.ok
  li:aP l=0
  sp:splitE l=0
  ln:ps.length=l.bo.length
  lok:∀p∈ps,p.lok
  ok:∀p∈ps,p.ok=true
  js:∀j∈l.jo,JH l [] (ps.map bG) j
theorem OF{l:Li}{ps:List Pse}(hl:l.ok)(hps:∀p∈ps,p.lok)(h:kA l ps=true):Drw l ps:=by
 obtain⟨h1,h2,h3,h4,h5⟩:=On h
 have hsp:splitE l=0:=by
  unfold kA at h;simp only[and_eq_true,decide_eq_true_eq]at h;exact h.2.2.1
 refine⟨hl,h1,hsp,h2,hps,h3,fun j hj=>?_⟩;have h9:=h5 j hj;rw[<- yi]at h9;have h8:=JO h9
 have:∀(U:LL)(bs:List Pq),U=[]->bs=ps.map bG->JH l U bs j->JH l [] (ps.map bG) j:=by
  rintro _ _ rfl rfl h;exact h
 exact this _ _ (bN ps).llq (qk (bN ps)) h8
theorem VV{ps:List Pse}{i:Nat}(h:i<ps.length):(ps.map bG).getD i bt=bG (ps.getD i default):=by
 obtain⟨p,hp⟩:=aH h;rw[aw hp];exact aw (by rw[getElem?_map,hp];rfl)
def lW(l:Li)(ps:List Pse)(g:Gr):List Sv:=fP l (bN ps).as g (fv g (nO l ps))
def oH(l:Li)(ps:List Pse)(g:Gr):Nat:=rZ l (bN ps).as g (fv g (nO l ps))
section
variable{l:Li}{ps:List Pse}(D:Drw l ps)
include D
theorem Drw.ch{U:LL}(hp:cS U){b:Int}(h0:0<=b)(hb:b<l.bo.length):CH U ((ps.map bG).getD b.toNat bt):=by
 have:=D.ln;rw[VV oz];exact UN hp _
theorem Drw.w:WkC l (nO l ps) 1000 1000:=by
 refine⟨D.hl,D.li,D.sp,fun b hb m hm=>?_,length_map _,fun x hx=>?_⟩
 ·have h:=(D.hl.bo b hb).pts m hm;exact⟨h.qx,h.qy⟩
 ·obtain⟨d,hd,rfl⟩:=List.mem_map.1 hx;obtain⟨i,hi,rfl⟩:=List.mem_iff_getElem.1 hd;have hb:=dM (mb D.li (getElem?_eq_getElem hi));have hln:=D.ln;obtain⟨p,hp⟩:=aH (l:=ps) (i:=l.dv[i].body.toNat) oz;rw[aw hp];have hm:=mem_of_getElem? hp;have hk:=D.lok p hm;exact⟨hk.ok.t,(x5 (D.ok p hm)).1,hk.t.mono oz,Cb.one ((oP hk.t).mono oz),Cb.one ((pC hk.t).mono oz)⟩
theorem Drw.q:QInv l 0 0 1000 (bN ps):=by
 refine⟨wK,le_refl _,fun p hp=>?_,?_⟩
 ·obtain⟨q,hq,rfl⟩:=List.mem_map.1 hp;exact Ao (by show 0<=5;omega) (D.lok q hq)
 ·show(ps.map bG).length=_;rw[length_map];exact D.ln
theorem Drw.tn{g:Gr}(hg:DyK l g)(hk:g.kind=0):∃p∈ps,(ps.map bG).getD (aA g 0).toNat bt=bG p/\fv g (nO l ps)=p.turn/\ps[(aA g 0).toNat]?=some p:=by
 cases hg with
 | @drv b z d j dr t d0 hd hb =>
  have hi:=(List.getElem?_eq_some_iff.1 hd).1;have hbb:=dM (mb D.li hd);have hln:=D.ln;have e0:aA ⟨0,[b],[z],d⟩ 0=b:=rfl;obtain⟨p,hp⟩:=aH (l:=ps) (i:=b.toNat) oz;refine⟨p,mem_of_getElem? hp,?_,?_,by rw[e0];exact hp⟩
  ·rw[e0];exact aw (by rw[getElem?_map,hp];rfl)
  ·show(if(0:Int)=0 then(nO l ps).getD d.toNat jJ else jJ)=_;rw[if_pos rfl];refine aw ?_;unfold nO;rw[getElem?_map,hd];show some (ps.getD dr.body.toNat default).turn=_;rw[hb,aw hp]
 |rrr ne t0 t1 h0 h2 kd tie=>exact absurd hk (by simp)
 |pr t0 t1 ha=>exact absurd hk (by simp)
 |rp t0 t1 ha=>exact absurd hk (by simp)
theorem zo:jy 1000 1000 1 1 0 0 1000=true:=by
 have:=D;decide +kernel
variable{k:Nat}{g:Gr}(hg:(splitG l)[k]?=some g)
include hg
theorem UG(he:oH l ps g=0):∃s,s∈lW l ps g:=by
 have W:=D.w;have Q:=D.q;obtain⟨dy,ok⟩:=W.grp hg;have tw:=QInv.twl W hg Q;have hq:(Lw.llq (bN ps).as.rs)=[]:=(bN ps).llq;have hb:aC (bN ps).as=ps.map bG:=qk (bN ps);have L0:Lf [] (Lw.llq (bN ps).as.rs):=by rw[hq];exact lT wK.pos
 have nd:∀p∈ps.map bG,Nq 0 p:=fun p hp=>by
  obtain⟨q,_,rfl⟩:=List.mem_map.1 hp;exact DH q
 have sm:∀b:Int,fx (ps.map bG) (ps.map bG) ([]:LL).length b:=fun b=>⟨rfl,Cj nd _⟩
 obtain⟨⟨s,hs,_⟩,_⟩:=QF tw (ds:=ps.map bG) dy D.li he (fun z hz j hj=>by
   rw[hb];exact⟨fun _=>Eqp.rf _ _,fun _=>Eqp.rf _ _⟩) (fun z hz=>by
   obtain⟨jt,hj⟩:=aH (l:=l.jo) (i:=z.toNat) (by have:=ok.j z hz;omega);rw[aw hj];exact L0.jh (sm _) (sm _) (D.js jt (mem_of_getElem? hj))) (fun b hb'=>D.ch tw.pos (ok.b b hb').1 (ok.b b hb').2)
 exact⟨s,hs⟩
theorem Drw.err:oH l ps g=0\/oH l ps g=15:=by
 unfold oH;have W:=D.w;have Q:=D.q;obtain⟨dy,ok⟩:=W.grp hg;have tw:=QInv.twl W hg Q;have hp:=tw.pos;have hb:aC (bN ps).as=ps.map bG:=qk (bN ps);obtain⟨_,_,htn⟩:=W.tn hg;cases dy with
 | @drv b z d j dr t d0 hd hb' =>
  left;obtain⟨x,hx,ex⟩:=htn rfl;have he:=(W.ok x hx).2.1;rw[ex];show(jY l (bN ps).as b (ai l ⟨0,[b],[z],d⟩ 0) x).2=0;unfold jY;rw[if_neg oz]
 | @rrr i k z0 z1 z2 j0 j1 j2 ne t0 t1 h0 h2 kd tie =>
  show(hP l (bN ps).as i k (ai l ⟨1,[i,k],[z0,z1,z2],0⟩ 0) (ai l ⟨1,[i,k],[z0,z1,z2],0⟩ 1) (ai l ⟨1,[i,k],[z0,z1,z2],0⟩ 2)).2=0\/(hP l (bN ps).as i k (ai l ⟨1,[i,k],[z0,z1,z2],0⟩ 0) (ai l ⟨1,[i,k],[z0,z1,z2],0⟩ 1) (ai l ⟨1,[i,k],[z0,z1,z2],0⟩ 2)).2=15;unfold hP;split
  ·exact .inr rfl
  ·split
   ·rename_i hc;right;show eL _ _ _ _=15;unfold eL ka at hc ⊢;split at hc
    ·rename_i h1;rw[if_pos h1];split at hc
     ·rename_i h2;rw[if_pos h2]
     ·exact absurd rfl hc
    ·exact absurd rfl hc
   ·exact .inl rfl
 | @pr i z0 z1 j0 j1 t0 t1 ha =>
  have e1:ai l ⟨2,[i],[z0,z1],0⟩ 1=j1:=aw t1.hj
  have hlin:eU (ax l (bN ps).as j1.b j1.on) (ax l (bN ps).as j1.b j1.to)=0:=by
   unfold eU;rw[if_neg];intro h9;obtain⟨i1,i2,_⟩:=cH D.li t1.hj;have i2:=dM i2;have hv:=qB D.li t1.hj (by rw[t1.kd];decide) rfl;have hc:=D.ch hp i2.1 i2.2;have hd:=tT hp hc (aB l j1.b j1.on) (aB l j1.b j1.to)
   have e:ae hp (ba (ax l (bN ps).as j1.b j1.on) (ax l (bN ps).as j1.b j1.to))=ae hp (qE (aX (aB l j1.b j1.to) (aB l j1.b j1.on))):=by
    refine(tp hp _ _).trans ?_;rw[dT,dT,hb];exact hd
   have h8:=(mh hp e).symm.trans h9;rw[xj]at h8;exact hv (mn h8)
  show(iV l (bN ps).as i (ai l ⟨2,[i],[z0,z1],0⟩ 0) (ai l ⟨2,[i],[z0,z1],0⟩ 1)).2=0\/(iV l (bN ps).as i (ai l ⟨2,[i],[z0,z1],0⟩ 0) (ai l ⟨2,[i],[z0,z1],0⟩ 1)).2=15;rw[e1];unfold iV;split
  ·exact .inr rfl
  ·rw[if_neg (by rw[hlin];simp)];exact .inl rfl
 | @rp i z0 z1 j0 j1 t0 t1 ha =>
  show(gY l (bN ps).as i (ai l ⟨3,[i],[z0,z1],0⟩ 0) (ai l ⟨3,[i],[z0,z1],0⟩ 1)).2=0\/(gY l (bN ps).as i (ai l ⟨3,[i],[z0,z1],0⟩ 0) (ai l ⟨3,[i],[z0,z1],0⟩ 1)).2=15;unfold gY;split
  ·exact .inr rfl
  ·split
   ·exact .inl rfl
   ·split
    ·exact .inl rfl
    ·exact .inl rfl
theorem Drw.sol{s:Sv}(hs:s∈lW l ps g):AqE 100000000 l ⟨s.ts,a6 (ps.map bG) g.bo s.ps,[]⟩/\s.ps.length=g.bo.length/\(∃r,r<=400000000/\Tw s.ts r)/\(∀p∈s.ps,Pq.ok s.ts.length 80000000000 p):=by
 have W:=D.w;have Q:=D.q;have O:=zo D;have P:=GE W hg Q O (fun _=>by decide);obtain⟨i,hi⟩:=List.getElem?_of_mem hs;have h1:=(P.md i s hi).2.2;have h2:=(P.ok s hs).ps
 have key:∃r E,r<=400000000/\E<=100000000/\QInv l 1 r E ((bN ps).nxt g s):=by
  by_cases hk:g.kind=0
  ·have Q':=QInv.drv W hg Q O hk s hs;exact⟨0,l9 1000 1000 0 0 1000,by decide,by decide,⟨Q'.tw,le_trans Q'.lv oz,Q'.bs,Q'.ln⟩⟩
  ·have Q':=QInv.dy W hg Q (y:=0) O hk s hs;exact⟨0+j5 1000 0 0 1000,qR 1000 0 0 1000,by decide,by decide +kernel,Q'⟩
 obtain⟨r,E,hr,hE,Q'⟩:=key;have two:s.ts.length<=2:=le_trans Q'.lv oz;have hbs:∀p∈a6 (ps.map bG) g.bo s.ps,Pq.ok s.ts.length 100000000 p:=fun p hp=>(Q'.bs p hp).up (le_refl _) Q'.tw.five hE
 exact⟨⟨⟨D.li,⟨r,hr,Q'.tw⟩,two,fun p hp=>(hbs p hp).up (le_refl _) Q'.tw.five oz,Q'.ln⟩,hbs,by omega⟩,h1,⟨r,hr,Q'.tw⟩,h2⟩
end
theorem Qo{l:Li}{a:As}{g:Gr}{x:Tn}(h:rZ l a g x≠0):fP l a g x=[]:=by
 unfold rZ iP at h;unfold fP;split
 ·rename_i hk;rw[if_pos hk]at h;unfold jY at h;unfold iy;split
  ·rfl
  ·rename_i h1;rw[if_neg h1]at h;exact absurd rfl h
 ·rename_i hk;rw[if_neg hk]at h;split
  ·rename_i hk1;rw[if_pos hk1]at h;unfold hP at h;unfold il;split
   ·rfl
   ·rename_i h1;rw[if_neg h1]at h;split
    ·rfl
    ·rename_i h2;rw[if_neg h2]at h;exact absurd rfl h
  ·rename_i hk1;rw[if_neg hk1]at h;split
   ·rename_i hk2;rw[if_pos hk2]at h;unfold iV at h;unfold ib;split
    ·rfl
    ·rename_i h1;rw[if_neg h1]at h;split
     ·rfl
     ·rename_i h2;rw[if_neg h2]at h;exact absurd rfl h
   ·rename_i hk2;rw[if_neg hk2]at h;unfold gY at h;unfold gE;split
    ·rfl
    ·rename_i h1;rw[if_neg h1]at h;split
     ·rfl
     ·rename_i h2;rw[if_neg h2]at h;split at h
      ·exact absurd rfl h
      ·exact absurd rfl h
end Go.Lw
namespace Go.Lw
open Go.Proofs
theorem Ab{l:Li}(hl:l.ok){a:Aq}(F:AqS l a){body pt:Int}(h1:bA body l.bo.length=true)(h2:bA pt (cF l body).length=true) :
  FP 83 [l.av,a.av,i64 body,i64 pt] (aG (sX (aq l a.ts a.bs body pt).1) (sX (aq l a.ts a.bs body pt).2)):=by
 obtain⟨n,k,bd,m,h⟩:=qj hl F.li h1 h2;obtain⟨r,hr,tw⟩:=F.tw;have hkb:=rK hr F.two;have hlm:=jP F.two;have hlb:=(dZ F.li).2.2.2.1;obtain⟨p,hp⟩:=aH (l:=a.bs) (i:=n) (by rw[F.ln];exact(List.getElem?_eq_some_iff.1 h.gbd).1);have po:=F.bs p (mem_of_getElem? hp);have hn:=h.hn;have hk:=h.hk
 have e:aq l a.ts a.bs body pt=bn a.ts p (aB l body pt):=by
  unfold aq;rw[hn,toNat_natCast,aw hp]
 have hat:FP 179 [aO a.ts,p.av,m.x.av,m.y.av] (aG (sX (aq l a.ts a.bs body pt).1) (sX (aq l a.ts a.bs body pt).2)):=by
  rw[h.ex,h.ey,e];exact NS tw po.c po.s po.x po.y (h.sm.x.mono oz) (h.sm.y.mono oz) oz
 have gb:=h.gbd;have gm:=h.gm;clear h h1 h2 e;subst hn;subst hk;refine aj func83 ?_;refine gi (aN gb) ?_;refine gi (aN gm) ?_;refine gi (aN hp) ?_;refine gc hat ?_;refine gD ?_;refine af ?_
 first |rfl |(simp;done)
theorem Dy{l:Li}(hl:l.ok){a:Aq}(F:AqS l a){i:Nat}{j:Jt}(hj:l.jo[i]?=some j):FP 23 [l.av,a.av,j.av] (bl (oq l a j)):=by
 obtain⟨r,hr,tw⟩:=F.tw;have hkb:=rK hr F.two;have hlm:=jP F.two;obtain⟨i1,i2,i3,i4,i5⟩:=cH F.li hj;have np:=yd F hl i1 i3;have nq:=yd F hl i2 i4;refine aj func23 ?_;refine gc (Ab hl F i1 i3) ?_;refine gc (Ab hl F i2 i4) ?_;refine gC (fun t25=>?_) (fun t25=>?_)
 ·have hk:j.kind=0:=cB t25;have hsame:=LM tw np.1 np.2 nq.1 nq.2 oz;rw[show ac a.ts.length (sX (aq l a.ts a.bs j.a j.point).1)=_ from a5 _ _,show ac a.ts.length (sX (aq l a.ts a.bs j.a j.point).2)=_ from a5 _ _,show ac a.ts.length (sX (aq l a.ts a.bs j.b j.on).1)=_ from a5 _ _,show ac a.ts.length (sX (aq l a.ts a.bs j.b j.on).2)=_ from a5 _ _]at hsame;refine gc hsame ?_;refine af ?_;unfold oq;rw[if_pos hk];exact congrArg bl (Bool.decide_and _ _).symm
 have hk:j.kind≠0:=cK t25;have nr:=yd F hl i2 (i5 hk);have hor:=U8 tw nq.1 nq.2 nr.1 nr.2 np.1 np.2 oz;rw[show ac a.ts.length (sX (aq l a.ts a.bs j.a j.point).1)=_ from a5 _ _,show ac a.ts.length (sX (aq l a.ts a.bs j.a j.point).2)=_ from a5 _ _,show ac a.ts.length (sX (aq l a.ts a.bs j.b j.on).1)=_ from a5 _ _,show ac a.ts.length (sX (aq l a.ts a.bs j.b j.on).2)=_ from a5 _ _,show ac a.ts.length (sX (aq l a.ts a.bs j.b j.to).1)=_ from a5 _ _,show ac a.ts.length (sX (aq l a.ts a.bs j.b j.to).2)=_ from a5 _ _]at hor
 refine gc (Ab hl F i2 (i5 hk)) ?_;refine gc hor ?_;refine gD ?_;refine af ?_;unfold oq;rw[if_neg hk];exact congrArg bl rQ
theorem VW{l:Li}(hl:l.ok){a:Aq}(F:AqS l a){i:Nat}{j:Jt}(hj:l.jo[i]?=some j)(hJ:JH l a.ts a.bs j):FP 23 [l.av,a.av,j.av] (bl true):=by
 have h:=Dy hl F hj;rw[LG hJ]at h;exact h
theorem Ro{l:Li}(hl:l.ok)(hli:aP l=0)(hsp:splitE l=0){k:Nat}{g:Gr}(hg:(splitG l)[k]?=some g){a:Aq}(lbs:a.bs.length=l.bo.length){s:Sv}(hpl:s.ps.length=g.bo.length)
  {r E:Nat} (tw:Tw s.ts r) (hr:r<=400000000) (h2:s.ts.length<=2) (hps:∀p∈s.ps,Pq.ok s.ts.length E p) (hE:E<=80000000000) :
  FP 20 [l.av,i64 k,a.av,s.av] (.tup [(Aq.mk s.ts (a6 a.bs g.bo s.ps) []).av,bl true]):=by
 have hS:=BL l hl hli;rw[hsp]at hS;have hkl:=(List.getElem?_eq_some_iff.1 hg).1;have hgl:=Ej hli;have hbl:=(dZ hli).2.2.2.1;have hlm:=jP h2;have ok:=(oY hli (mem_of_getElem? hg)).2;have hgb:=ok.lb;refine aj func20 ?_;refine gc hS ?_;refine cE ?_;refine cE ?_;refine kV (fun _=>(aN hg)) ?_;refine cE ?_;refine bU (fun _=>(OD tw)) ?_;refine gD ?_;refine gC (fun t50=>?_) (fun t50=>?_) (st1:=(3,0));exact absurd t50 (by simp[aa,hpl];omega);refine gs (ku T38 rfl T69 rfl rfl rfl) ?_;refine gs (de (.tmp rfl) rfl rfl (.tmp rfl) T38 rfl T69 rfl rfl (by simp only[length_map];omega) rfl rfl) ?_;refine gD ?_ (5,0);refine gW (Wk.of (sl:=[(7,some (.ptr 7 0)),(8,some (.ptr 8 0)),(10,some (.lst 4 ((splitG l).map Gr.av))),(1,some (i64 k)),(12,some (.ptr 12 0))]) (hp:=[(7,some (.box s.av.cells)),(8,some (.box [nS,nS,nS])),(12,some (.box [.lst 1 (s.ts.map nA),.ms 57 4 0 a.bs.length,nS])),(57,some (.row 4 ((a6 a.bs (g.bo.take 0) (s.ps.take 0)).map Pq.av)))]) bg (.k (.k (.cons rfl (BlkSub.bL (.cons (.refl _) (.cons (Sub.of (congrArg (AV.ms 57 4 0) (by rw[length_map];omega))) (.cons (.refl _) .nil))) rfl) (.k .nil))))) ?_
 refine gi (aN hg) ?_;refine gl ?_;refine aZ [7,8,12,63,64] [7,8,12] (fun(i:Nat)=>[(65,some (i64 i))]) (fun i=>[(57,some (.row 4 ((a6 a.bs (g.bo.take i) (s.ps.take i)).map Pq.av)))]) (fun i=>i<=g.bo.length) (fun i=>g.bo.length-i) 0 (zero_le _) ?_;rintro i hi K1 J1;refine gC (fun t66=>?_) (fun t66=>?_) (st2:=(13,0))
 ·have hin:=bh t66;obtain⟨b,hbi⟩:=aH hin;obtain⟨p,hp⟩:=aH (l:=s.ps) (i:=i) oz;obtain⟨hb0,hb1⟩:=ok.b b (mem_of_getElem? hbi);have hpl2:=vm a.bs (g.bo.take i) (s.ps.take i);obtain⟨o,ho⟩:=aH (l:=a6 a.bs (g.bo.take i) (s.ps.take i)) (i:=b.toNat) oz;have hsn:=Tx tw (hps p (mem_of_getElem? hp)) oz;refine gi (aN hbi) ?_;refine gi (aN hp) ?_;refine bU (fun _=>hsn) ?_;refine gC (fun t94=>?_) (fun t94=>?_) (st1:=(10,0));exact absurd t94 (by simp[aa];omega);refine gs (mi (.tmp rfl) (.tmp rfl) T38 rfl T69 rfl oz oz rfl) ?_;refine gs (dA (.tmp rfl) rfl (by rw[Nat.zero_add,getElem?_map,ho];rfl) rfl (.tmp rfl) rfl rfl T69 rfl rfl) ?_;refine ga aV ?_;exact aT J1 (i+1) hin (hw:=Wk.of bg (.cons rfl (BlkSub.of (by rw[KB hbi hp,map_set,Nat.zero_add];rfl)) (.k (.k (.k .nil)))))
 have hin:=bD hi t66;subst hin;refine gW ((Wk.freeze (k:=57) rfl).trans<|Wk.of (sl:=[(8,some (.ptr 8 0)),(12,some (.ptr 12 0))]) (hp:=[(8,some (.box [nS,nS,nS])),(12,some (.box [.lst 1 (s.ts.map nA),.lst 4 ((a6 a.bs g.bo s.ps).map Pq.av),nS]))]) bg (.k (.cons rfl (BlkSub.bL (.cons (.refl _) (.cons (Sub.of (by rw[cr (by rw[length_map,vm])];rw[take_length,take_of_length_le oz])) (.cons (.refl _) .nil))) rfl) .nil))) ?_;refine gR ?_;exact d7 (Sub.tup (.cons (Sub.agg (.cons (.refl _) (.cons (.refl _) (.cons (Sub.nil _ _ _) .nil))) rfl) (.cons (.refl _) .nil)))
theorem CR(ps:List Pse)(hps:∀p∈ps,p.lok)(hpl:ps.length<=20)(h2:∀p∈ps,p.ok=true):FP 17 [.lst 10 (ps.map Pse.av)] (CT (ps.map bG)):=by
 refine aj func17 ?_;refine gl ?_;refine gW (Wk.virt 900 4 rfl) ?_;refine aZ [2,3,6,7] [2] (fun(i:Nat)=>[(8,some (i64 i))]) (fun i=>[(3,some (.box [nS,.ms 900 4 0 i,nS])),(900,some (.row 4 (((ps.take i).map bG).map Pq.av)))]) (fun i=>i<=ps.length) (fun i=>ps.length-i) 0 (zero_le _) ?_ (h2:=(.cons rfl (BlkSub.bL (.cons (.refl _) (.cons (.nM _ _ _) (.cons (.refl _) .nil))) rfl) (.k .nil)));rintro i hi K1 J1;refine gC (fun t9=>?_) (fun t9=>?_) (st2:=(7,0))
 ·have hin:=bh t9;obtain⟨p,hp⟩:=aH hin;have hpm:=mem_of_getElem? hp;have hpo:=hps p hpm;have h1:=h2 p hpm;have hc:=SW p.turn.half hpo.t oz;rw[<- Rt.eq_rt hpo.ok.t (Tn.ok_valid (x5 h1).1)]at hc;have hs:=TT p.turn.half hpo.t oz;rw[<- Rt.eq_rt hpo.ok.t (Tn.ok_valid (x5 h1).1)]at hs;refine gi (aN hp) ?_;refine gc hc ?_;refine gc (p9 ((oP hpo.t).qs oz)) ?_;refine gc hs ?_;refine gc (p9 ((pC hpo.t).qs oz)) ?_;refine gc (BM p.at_.x hpo.ok.x (hpo.x.qs oz)) ?_;refine gc (BM p.at_.y hpo.ok.y (hpo.y.qs oz)) ?_;refine gs (de (.tmp rfl) rfl (by rw[length_map,length_map,length_take];omega) (.tmp rfl) T38 rfl T69 rfl rfl (by dsimp only;simp only[length_cons,length_nil];omega) rfl rfl) ?_;refine gD ?_ (6,0);refine gW (Wk.of (sl:=[(2,some (.ptr 2 0)),(3,some (.ptr 3 0)),(6,some (.lst 10 (ps.map Pse.av))),(7,some (i64 ps.length)),(8,some (i64 i))]) (hp:=[(2,some (.box [nS,nS,nS])),(3,some (.box [nS,.ms 32 4 0 (i+1),nS])),(32,some (.row 4 (((ps.take (i+1)).map bG).map Pq.av)))]) bg (.k (.k (.cons rfl (BlkSub.of (by rw[eD hp,map_append,map_append];rfl)) .nil)))) ?_ (6,0);refine gW (Wk.rk (k:=32) (d:=900) rfl rfl) ?_;refine ga aV ?_;exact aT J1 (i+1) hin
 have hin:=bD hi t9;subst hin;refine gW ((Wk.freeze (k:=900) rfl).trans<|Wk.of (sl:=[(2,some (.ptr 2 0)),(3,some (.ptr 3 0))]) (hp:=[(2,some (.box [nS,nS,nS])),(3,some (.box [nS,.lst 4 ((ps.map bG).map Pq.av),nS]))]) bg (.k (.cons rfl (BlkSub.bL (.cons (.refl _) (.cons (Sub.of (by rw[cr (by rw[length_map,length_map,length_take];omega),take_length])) (.cons (.refl _) .nil))) rfl) .nil))) ?_;refine gR ?_;exact iN JN
theorem Qt{l:Li}(hli:aP l=0){ps:List Pse}(hps:∀p∈ps,p.lok)(hln:ps.length=l.bo.length):AqS l (bN ps):=by
 refine⟨hli,⟨0,by omega,wK⟩,by show 0<=2;omega,fun p hp=>?_,by show(ps.map bG).length=_;rw[length_map];exact hln⟩;obtain⟨q,hq,rfl⟩:=List.mem_map.1 hp;exact Pq.ok.up (Ao (n:=0) oz (hps q hq)) (le_refl _) (by show 0<=5;omega) oz
theorem SP{l:Li}{ps:List Pse}{j:Jt}:oq l (bN ps) j=mY l (lZ (ps.map Pse.r4)) j:=by
 rw[<- yi]
 have e:∀(U:LL)(bs:List Pq),U=[]->bs=ps.map bG->(if j.kind=0 then decide (T.sgn (ao U) U.length (subT U (aq l U bs j.a j.point).1 (aq l U bs j.b j.on).1)=0/\T.sgn (ao U) U.length (subT U (aq l U bs j.a j.point).2 (aq l U bs j.b j.on).2)=0)
   else decide (T.sgn (ao U) U.length (rF U (aq l U bs j.b j.on).1 (aq l U bs j.b j.on).2 (aq l U bs j.b j.to).1 (aq l U bs j.b j.to).2 (aq l U bs j.a j.point).1 (aq l U bs j.a j.point).2)=0))=oq l (bN ps) j:=by
  rintro _ _ rfl rfl;rfl
 rw[<- e _ _ (bN ps).llq (qk (bN ps))];have g:∀b pt,fF l (bN ps).as b pt=aq l (llq (bN ps).as.rs) (aC (bN ps).as) b pt:=fun b pt=>dT l (bN ps).as b pt
 unfold mY;rw[g,g,g];split
 ·exact Bool.decide_and _ _
 ·rfl
theorem M1{p:Pse}(h:p.lok):p.r4.ok:=⟨(oP h.t).mono oz,(pC h.t).mono oz,h.x.mono oz,h.y.mono oz⟩
theorem LI{p:Pse}(h:p.lok):FP 21 [.agg [.lst 1 []],(bG p).av,.agg [nA [1],nA [],nA [],nA []]] (bl (tA p.r4)):=by
 have hp:=Ao (n:=0) oz h;have hf:=L5 (n:=0) oz;have h1:=Rx (ts:=[]) wK (hp.c.mono oz) (hp.s.mono oz) (hp.x.mono oz) (hp.y.mono oz) hf.c hf.s hf.x hf.y (by have:=jP (ts:=[]) (by show 0<=2;omega);omega)
 have e:(eG [] (ac 0 (bG p).c) (ac 0 sC.c)&&eG [] (ac 0 (bG p).s) (ac 0 sC.s)&&eG [] (ac 0 (bG p).x) (ac 0 sC.x)&&eG [] (ac 0 (bG p).y) (ac 0 sC.y))=tA p.r4:=by
  rw[show ac 0 (bG p).c=p.r4.c from a5 0 _,show ac 0 (bG p).s=p.r4.s from a5 0 _,show ac 0 (bG p).x=p.r4.x from a5 0 _,show ac 0 (bG p).y=p.r4.y from a5 0 _];unfold tA;rw[<- v6,<- v6,<- v6,<- v6];rfl
 rw[<- e];exact h1
theorem V2{e n m:Nat}(h:cond (aa .neq (e:Int) 0) true (aa .neq (n:Int) (m:Int))=true):decide (e=0/\n=m)=false:=by
 refine decide_eq_false (fun⟨h1,h2⟩=>?_);subst h1;subst h2
 simp[aa]at h
theorem Rh{e n m:Nat}(h:cond (aa .neq (e:Int) 0) true (aa .neq (n:Int) (m:Int))=false):e=0/\n=m:=by
 cases h1:aa .neq (e:Int) 0
 ·rw[h1]at h;exact⟨gB h1,by have:=vV h;omega⟩
 ·rw[h1]at h;cases h
theorem Pj{l:Li}(hl:l.ok)(ps:List Pse)(hps:∀p∈ps,p.lok)(hpl:ps.length<=20):FP 15 [Ae l ps] (bl (kA l ps)):=by
 have hlb:=hl.lb;have hlj:=hl.lj;have hrp:∀b∈ps.map Pse.r4,b.ok:=fun b hb=>by obtain⟨p,hp,rfl⟩:=List.mem_map.1 hb;exact M1 (hps p hp)
 refine aj func15 ?_;refine gc (TM l hl) ?_;refine cE ?_;refine cE ?_;refine gC (fun t23=>?_) (fun t23=>?_)
 ·have h1:=V2 t23;refine af ?_;unfold kA;rw[h1];rfl
 have h1:=Rh t23;have h10:decide (aP l=0/\ps.length=l.bo.length)=true:=decide_eq_true h1;refine gl ?_;refine aZ [1,25,26] [1] (fun(i:Nat)=>[(27,some (i64 i))]) (fun _=>[]) (fun i=>i<=ps.length/\(ps.take i).all Pse.ok=true) (fun i=>ps.length-i) 0 ⟨zero_le _,rfl⟩ ?_;rintro i ⟨hi,hj⟩ K1 J1;refine gC (fun t28=>?_) (fun t28=>?_)
 ·have hin:=bh t28;obtain⟨p,hp⟩:=aH hin;have hpo:=hps p (mem_of_getElem? hp);refine gi (aN hp) ?_;refine gc (R5 p hpo.ok.t hpo.ok.x hpo.ok.y) ?_;refine gC (fun t33=>?_) (fun t33=>?_)
  ·have h2:=mj hp (dF t33);refine af ?_;unfold kA;rw[h10,h2];rfl
  have h2:=dw t33;refine ga aV ?_;exact aT J1 (i+1) ⟨hin,om hj hp h2⟩
 have hall:=oa (bD hi t28) hj;have hok:∀p∈ps,p.ok=true:=List.all_eq_true.1 hall;have hlen:(ps.map Pse.r4).length=l.bo.length:=by rw[length_map,h1.2]
 have hg:=Ou hl h1.1 hrp hlen;obtain⟨p0,hp0⟩:=aH (l:=ps) (i:=0) (by have:=(dZ h1.1).2.2.2.2;omega);refine gc (BL l hl h1.1) ?_;refine gC (fun t42=>?_) (fun t42=>?_)
 ·have h3:=ig t42;refine af ?_;unfold kA;rw[h10,hall,decide_eq_false h3];rfl
 have h3:=gB t42;refine gc (CR ps hps hpl hok) ?_;refine gi (aN (show(ps.map bG)[0]?=some (bG p0) by rw[getElem?_map,hp0];rfl)) ?_;refine gc Bn ?_;refine gc (LI (hps p0 (mem_of_getElem? hp0))) ?_;refine gD ?_;refine gC (fun t54=>?_) (fun t54=>?_)
 ·have h4:=dF t54;refine af ?_;unfold kA;rw[h10,hall,decide_eq_true h3,aw hp0,h4];rfl
 have h4:=dw t54;refine gl ?_;refine aZ [1,7,57,58] [1,7] (fun(i:Nat)=>[(59,some (i64 i))]) (fun _=>[]) (fun i=>i<=l.jo.length/\(l.jo.take i).all (fun j=>mY l (lZ (ps.map Pse.r4)) j)=true) (fun i=>l.jo.length-i) 0 ⟨zero_le _,rfl⟩ ?_;rintro i ⟨hi2,hj2⟩ K2 J2;refine gC (fun t60=>?_) (fun t60=>?_)
 ·have hin:=bh t60;obtain⟨j,hjt⟩:=aH hin;have hh:=Dy hl (Qt h1.1 hps h1.2) hjt;rw[SP]at hh;refine gi (aN hjt) ?_;refine gc hh ?_;refine gC (fun t68=>?_) (fun t68=>?_)
  ·have h5:=mj (p:=fun j=>mY l (lZ (ps.map Pse.r4)) j) hjt (dF t68);refine af ?_;unfold kA;rw[h10,hall,decide_eq_true h3,aw hp0,h4,h5];rfl
  have h5:=dw t68;refine ga aV ?_;exact aT J2 (i+1) ⟨hin,om hj2 hjt h5⟩
 have h6:=oa (bD hi2 t60) hj2;refine af ?_;unfold kA;rw[h10,hall,decide_eq_true h3,aw hp0,h4,h6];rfl
theorem KP{ts:LL}{r e:Nat}(tw:Tw ts r){x y:List Rat}(hx:Nm ts.length e x)(hy:Nm ts.length e y)(he:e<=lm ts.length):FP 28 [aO ts,.lst 1 [nA x,nA y]] (i64 (0:Nat)):=by
 have h:=AW (ts.map (List.map rt)) r e tw.tr [x.map rt,y.map rt] (fun z hz=>by
  rcases List.mem_cons.1 hz with rfl |hz
  ·exact hx.rt he
  ·rw[List.mem_singleton.1 hz];exact hy.rt he) (by rw[length_map];exact he) (by show 2<=_;omega)
 have e0:bb (ts.map (List.map rt)) [x.map rt,y.map rt]=0:=by
  unfold bb;rw[if_neg (by rw[tw.chk];simp),length_map];refine oc (fun z hz=>?_);rcases List.mem_cons.1 hz with rfl |hz
  ·exact mD hx.nl
  ·rw[List.mem_singleton.1 hz];exact mD hy.nl
 have e1:[x.map rt,y.map rt].map nR=[nA x,nA y]:=by
  simp only[map_cons,map_nil,dj]
 rw[e0,gL,e1]at h;exact h
theorem S7{E s K r:Nat}{l:Li}{a:As}(D:DyW l a)(tw:Tw (llq a.rs) r)(hK:eB r (llq a.rs).length<=K)(hcs:Cs s l){k:Int}{own:Bool}{n:Nat}{g:Gr}(ok:DyOk E l k a own n g) :
  Nm (llq a.rs).length (200*(3*E+2*s+2*K+10)+100*s+100*K+300) (lV l a g):=by
 unfold lV;have q4:Cb 3 [(4:Rat)]:=Cb.int (z:=4) (e:=3) (by decide)
 by_cases h0:g.kind=0
 ·rw[if_pos h0];exact(Nm.ofQ tw.five (Cb.int (z:=1) (e:=1) (by decide))).mono oz
 ·rw[if_neg h0]
  by_cases h1:g.kind=1
  ·obtain⟨i,k2,z0,z1,z2,j0,j1,j2,P⟩:=ok.rrr h1;obtain⟨y1,y2⟩:=mF D.hl D.li hcs D.al D.hc tw hK P.h0 P.p0;obtain⟨y3,y4⟩:=mF D.hl D.li hcs D.al D.hc tw hK P.h1 P.p1;obtain⟨e0,e1,e2,b0,b1,_⟩:=P.at;have c1:=qL (jN D.hl D.li hcs P.h2 P.t1) (jN D.hl D.li hcs P.h0 P.p0.or);have c2:=qL (jN D.hl D.li hcs P.h2 P.t2) (jN D.hl D.li hcs P.h1 P.p1.or);have z1:Bz (8*s+5) (qE (aX (ah l j2 i) (ah l j0 i)):Et (llq a.rs)):=Bz.q tw.five c1;have z2:Bz (8*s+5) (qE (aX (ah l j2 k2) (ah l j1 k2)):Et (llq a.rs)):=Bz.q tw.five c2;have d:=(((y1.sub y3).mul tw hK (y1.sub y3)).add ((y2.sub y4).mul tw hK (y2.sub y4)))
   have m:=(((z1.mul tw hK d).qm q4).sub (((z1.add d).sub z2).mul tw hK ((z1.add d).sub z2)))
   rw[kW,yU h1,e0,e1,e2,b0,b1,<- f9,<- f9];exact Nm.mono m oz
  ·by_cases h2:g.kind=2
   ·obtain ⟨i, z0, z1, j0, j, P, ha, hb⟩:=ok.pr h2;obtain ⟨i1,i2,i3,i4,i5⟩:=cH D.li P.h1;obtain ⟨e0,e1,b0,_⟩:=P.at;have q2:Sm s (aB l i j.point):=by rw [<- ha]; exact mK D.hl D.li hcs i1 i3
    obtain⟨y1,y2⟩:=mF D.hl D.li hcs D.al D.hc tw hK P.h0 P.p0;obtain⟨y3,y4⟩:=nW D.hl D.li hcs D.al D.hc tw hK i2 (i5 P.hk) hb;obtain⟨y7,y8⟩:=nW D.hl D.li hcs D.al D.hc tw hK i2 i4 hb;have z1:Bz (8*s+5) (qE (aX (aB l i j.point) (ah l j0 i)):Et (llq a.rs)):=Bz.q tw.five (qL q2 (jN D.hl D.li hcs P.h0 P.p0.or));have S:=((y3.sub y7).mul tw hK (y3.sub y7)).add ((y4.sub y8).mul tw hK (y4.sub y8));have C:=((y3.sub y7).mul tw hK (y2.sub y8)).sub ((y4.sub y8).mul tw hK (y1.sub y7));have m:=(S.mul tw hK z1).sub (C.mul tw hK C);rw[kW,zM h2,e0,e1,b0,<- f9,<- dT,<- dT];exact Nm.mono m oz
   ·obtain ⟨i, z0, z1, j0, j, P, _, hj, hb⟩:=ok.rp h0 h1 h2;obtain ⟨i1,i2,i3,i4,i5⟩:=cH D.li P.h1;obtain ⟨e0,e1,b0,hk3⟩:=P.at;have q0:=jN D.hl D.li hcs P.h0 P.p0.or;have q1:Sm s (aB l i j.on):=by rw [<- hj]; exact mK D.hl D.li hcs i2 i4
    have q2:Sm s (aB l i j.to):=by rw[<- hj];exact mK D.hl D.li hcs i2 (i5 P.hk)
    obtain⟨y1,y2⟩:=mF D.hl D.li hcs D.al D.hc tw hK P.h0 P.p0;obtain⟨y3,y4⟩:=nW D.hl D.li hcs D.al D.hc tw hK i1 i3 hb;have hv:=q2.sub q1;have zn:Bz (8*s+5) (qE (fJ l i j):Et (llq a.rs)):=Bz.q tw.five ((Cb.one (hv.dot hv)).mono oz);have zh:Bz (8*s+5) (qE (bV l i j0 j):Et (llq a.rs)):=Bz.q tw.five ((Cb.one (hv.cross (q1.sub q0))).mono oz);have d:=((y3.sub y1).mul tw hK (y3.sub y1)).add ((y4.sub y2).mul tw hK (y4.sub y2));have m:=(zn.mul tw hK d).sub (zh.mul tw hK zh);rw[kW,yG hk3,e0,e1,b0,<- f9,<- dT];exact Nm.mono m oz
theorem B9{l:Li}{a:Aq}{g:Gr}:ac a.ts.length (iG l a g)=bX l a.ts a.bs g:=by
 unfold iG;split
 ·rename_i h;rw [gf];have e:bX l a.ts a.bs g = qE 1:=by unfold bX; rw [if_pos h]
  rw[e];rfl
 ·exact a5 _ _
theorem U5{U:LL}(hp:cS U)(d:Et U):ae hp (d*d*qE ((4:Int):Rat))=ae hp ((d+d)*(d+d)):=by
 have q4:ae hp (qE ((4:Int):Rat))=4:=(qU hp).q4;rw[bm,bm,bm,ee,q4];generalize ae hp d=x;grind
def fK(ps:List Pse)(g:Gr)(s:Sv):Aq:=⟨s.ts,a6 (ps.map bG) g.bo s.ps,[]⟩
def kr(l:Li)(ps:List Pse)(g:Gr):List Rat:=lV l (bN ps).as g
def mG(l:Li)(ps:List Pse)(g:Gr)(s:Sv):List Rat:=sX (bX l s.ts (a6 (ps.map bG) g.bo s.ps) g*bX l s.ts (a6 (ps.map bG) g.bo s.ps) g)
def pE(l:Li)(ps:List Pse)(g:Gr)(s:Sv):List Rat:=sX (bX l s.ts (a6 (ps.map bG) g.bo s.ps) g*bX l s.ts (a6 (ps.map bG) g.bo s.ps) g*qE ((4:Int):Rat))
section
variable{l:Li}{ps:List Pse}(D:Drw l ps){k:Nat}{g:Gr}(hg:(splitG l)[k]?=some g)
include D hg
theorem UB(hp20:ps.length<=20):AL (bN ps).as:=by
 have:=hg;rw[yi];refine Hf (fun b hb=>?_) (by rw[length_map];exact hp20);obtain⟨p,hp,rfl⟩:=List.mem_map.1 hb;have h:=D.lok p hp;exact⟨(oP h.t).mono oz,(pC h.t).mono oz,h.x.mono oz,h.y.mono oz⟩
theorem Vb:FP 18 [l.av,i64 k,(fv g (nO l ps)).av,(bN ps).av] (.tup [.lst 3 ((lW l ps g).map Sv.av),cq (oH l ps g)]) :=
 SS D.w hg D.q (zo D) (fun _=>by decide)
theorem Vq(hp20:ps.length<=20):FP 22 [l.av,i64 k,(bN ps).av] (.tup [nA (kr l ps g),.v .nilIface]):=by
 have al:=UB D hg hp20;have h:=Gt l D.hl k (bN ps).as al.ab (al.dys (fun _=>by rw[(bN ps).llq];show 0<=1;omega)) (al.sma l k false);have hgA:el l (k:Nat)=g:=aw hg;rw[D.q.dy0 D.li D.sp hg false,if_pos rfl,hgA,Aq.as_av]at h;exact h
theorem zf:Nm 0 1400000 (kr l ps g):=by
 have W:=D.w;have Q:=D.q;have tw:=QInv.twl W hg Q;have Dw:=QInv.dyW W hg Q oz oz;have O:=QInv.dyOk W hg Q (F:=1000) oz (le_refl _);have hq:(Lw.llq (bN ps).as.rs)=[]:=(bN ps).llq;have h:=S7 Dw tw (K:=0) (by rw[hq];exact le_refl _) W.cs O;rw[hq]at h;exact h.mono oz
variable{s:Sv}(hs:s∈lW l ps g)
include hs
theorem xn:GrpH l (bN ps).as g s/\DetH l (bN ps).as g s/\aC (bN ps).as=ps.map bG:=by
 have W:=D.w;have Q:=D.q;obtain⟨dy,ok⟩:=W.grp hg;have tw:=QInv.twl W hg Q;have hq:(Lw.llq (bN ps).as.rs)=[]:=(bN ps).llq;have hb:aC (bN ps).as=ps.map bG:=qk (bN ps);have hln:=D.ln
 have hN:∀p∈aC (bN ps).as,Nq (Lw.llq (bN ps).as.rs).length p:=fun p hp=>by
  rw[hb]at hp;obtain⟨q,_,rfl⟩:=List.mem_map.1 hp;exact PU (DH q) (zero_le _)
 have hgb:∀b∈g.bo,0<=b/\b.toNat<(aC (bN ps).as).length:=fun b hb'=>by
  have:=ok.b b hb';rw[hb,length_map];omega
 exact⟨(VQ tw hN dy hgb D.li hs).1,Si tw hN dy hgb D.li hs,hb⟩
theorem MX{z:Int}(hz:z∈g.jo){j:Jt}(hj:l.jo[z.toNat]?=some j):JH l (fK ps g s).ts (fK ps g s).bs j:=by
 obtain⟨H,_,hb⟩:=xn D hg hs;have h:=H.js z hz;rw[hb,aw hj]at h;exact h
theorem Kl{b:Int}(hb:b∈g.bo):CH (fK ps g s).ts ((fK ps g s).bs.getD b.toNat bt):=by
 obtain⟨H,_,e⟩:=xn D hg hs;have h:=H.cs b hb;rw[e]at h;exact h
theorem O2:FP 27 [l.av,i64 k,(fK ps g s).av] (.tup [nA (iG l (fK ps g s) g),.v .nilIface]):=RD D.hl (D.sol hg hs).1 D.sp hg
theorem P5:FP 28 [aO s.ts,.lst 1 [nA (iG l (fK ps g s) g),nA (kr l ps g)]] (i64 (0:Nat)):=by
 obtain⟨A,_,⟨r,hr,tw⟩,_⟩:=D.sol hg hs;have hlm:=jP A.s.two;have n1:=zG D.hl A D.sp hg;have n2:=zf D hg;exact KP (e:=24*100000000+21600016203) tw n1 ⟨tw.five,n2.nl.mono (zero_le _),n2.cb.mono oz⟩ (by show _<=lm s.ts.length;have:lm s.ts.length=200000000000:=hlm;omega)
theorem Uc:FP 29 [aO s.ts,nA (iG l (fK ps g s) g)] (i64 s.mode):=by
 obtain⟨A,_,⟨r,hr,tw⟩,_⟩:=D.sol hg hs;obtain⟨_,Dt,hb⟩:=xn D hg hs;have hlm:lm s.ts.length=200000000000:=jP A.s.two;have A:AqE 100000000 l (fK ps g s):=A;have h:=ye (ts:=s.ts) tw (zG D.hl A D.sp hg) (by show _<=lm s.ts.length;omega)
 have e:T.sgn (ao s.ts) s.ts.length (ac s.ts.length (iG l (fK ps g s) g))=s.mode:=by
  have e1:ac s.ts.length (iG l (fK ps g s) g)=bX l s.ts (a6 (ps.map bG) g.bo s.ps) g:=B9 (a:=fK ps g s);rw[e1];have h2:=Dt.sg;rw[hb]at h2;exact h2
 rw[e]at h;exact h
theorem yZ:FP 30 [aO s.ts,nA (iG l (fK ps g s) g),nA (iG l (fK ps g s) g)] (nA (mG l ps g s))/\Nm s.ts.length 49200032418 (mG l ps g s):=by
 obtain⟨A,_,⟨r,hr,tw⟩,_⟩:=D.sol hg hs;have h2:s.ts.length<=2:=A.s.two;have hlm:lm s.ts.length=200000000000:=jP h2;have hkb:=rK hr h2;have n:=zG D.hl A D.sp hg;have n:Nm s.ts.length (24*100000000+21600016203) (iG l (fK ps g s) g):=n;have h:=kZ tw n n oz;have m:=Nm.mul tw rfl n n;have e1:ac s.ts.length (iG l (fK ps g s) g)=bX l s.ts (a6 (ps.map bG) g.bo s.ps) g:=B9 (a:=fK ps g s);rw[e1]at h m;exact⟨h,m.mono oz⟩
theorem DQ:FP 30 [aO s.ts,nA (mG l ps g s),nA (sh 0 (((4:Int):Rat):Rat))] (nA (pE l ps g s))/\Nm s.ts.length 50400032434 (pE l ps g s):=by
 obtain⟨A,_,⟨r,hr,tw⟩,_⟩:=D.sol hg hs;have h2:s.ts.length<=2:=A.s.two;have hlm:lm s.ts.length=200000000000:=jP h2;have hkb:=rK hr h2;have n:=(yZ D hg hs).2;have n4:Nm s.ts.length 3 (sh 0 (((4:Int):Rat):Rat)):=Nm.ofQ tw.five (Cb.int (z:=4) (e:=3) (by decide));have h:=kZ tw n n4 oz;have m:=Nm.mul tw rfl n n4;have e1:ac s.ts.length (mG l ps g s)=bX l s.ts (a6 (ps.map bG) g.bo s.ps) g*bX l s.ts (a6 (ps.map bG) g.bo s.ps) g:=a5 _ _;rw[e1,gf]at h m;exact⟨h,m.mono oz⟩
theorem HI:∃hp:cS s.ts,ae hp (ri g.kind (bX l s.ts (a6 (ps.map bG) g.bo s.ps) g))=ae hp (dE s.ts (kr l ps g)):=by
 obtain⟨H,Dt,hb⟩:=xn D hg hs;refine⟨Dt.lf.pos,?_⟩;have h:=(Em Dt.lf.pos (D.w.grp hg).1 H.js H.cs).trans Dt.rd;rw[hb]at h;rw[h];unfold kr lV;split
 ·rename_i hk;have e1:fN l (bN ps).as g = qE 1:=by unfold fN; rw [if_pos hk]
  have e2:(dE s.ts (sh 0 (((1:Int):Rat):Rat)):Et s.ts)=qE 1:=gf _ _;rw[e1,Dt.lf.q,e2]
 ·rfl
theorem Td(h1:g.kind≠1):FP 24 [aO s.ts,nA (mG l ps g s),nA (kr l ps g)] (bl true):=by
 obtain⟨A,_,⟨r,hr,tw⟩,_⟩:=D.sol hg hs;have h2:s.ts.length<=2:=A.s.two;have hlm:lm s.ts.length=200000000000:=jP h2;have n2:=zf D hg;have n2:Nm s.ts.length 1400000 (kr l ps g):=⟨tw.five,n2.nl.mono (zero_le _),n2.cb⟩
 have h:=lS tw (yZ D hg hs).2 n2 oz;obtain⟨hp,e⟩:=HI D hg hs;have e1:ac s.ts.length (mG l ps g s)=bX l s.ts (a6 (ps.map bG) g.bo s.ps) g*bX l s.ts (a6 (ps.map bG) g.bo s.ps) g:=a5 _ _;unfold ri at e;rw[if_neg h1]at e
 have e2:eG s.ts (ac s.ts.length (mG l ps g s)) (ac s.ts.length (kr l ps g))=true:=by
  rw[e1];exact decide_eq_true ((fQ hp).1 e)
 rw[e2]at h;exact h
theorem OX(h1:g.kind=1):FP 24 [aO s.ts,nA (pE l ps g s),nA (kr l ps g)] (bl true):=by
 obtain⟨A,_,⟨r,hr,tw⟩,_⟩:=D.sol hg hs;have h2:s.ts.length<=2:=A.s.two;have hlm:lm s.ts.length=200000000000:=jP h2;have n2:=zf D hg;have n2:Nm s.ts.length 1400000 (kr l ps g):=⟨tw.five,n2.nl.mono (zero_le _),n2.cb⟩
 have h:=lS tw (DQ D hg hs).2 n2 oz;obtain⟨hp,e⟩:=HI D hg hs;have e1:ac s.ts.length (pE l ps g s)=bX l s.ts (a6 (ps.map bG) g.bo s.ps) g*bX l s.ts (a6 (ps.map bG) g.bo s.ps) g*qE ((4:Int):Rat):=a5 _ _;unfold ri at e;rw[if_pos h1]at e
 have e2:eG s.ts (ac s.ts.length (pE l ps g s)) (ac s.ts.length (kr l ps g))=true:=by
  rw[e1];exact decide_eq_true ((fQ hp).1 ((U5 hp _).trans e))
 rw[e2]at h;exact h
end
def wR(l:Li)(ps:List Pse)(g:Gr)(s:Sv):List Rat:=if g.kind=1 then pE l ps g s else mG l ps g s
theorem BS{l:Li}{ps:List Pse}{g:Gr}{s:Sv}(h:g.kind=1):wR l ps g s=pE l ps g s:=if_pos h
theorem Ir{l:Li}{ps:List Pse}{g:Gr}{s:Sv}(h:g.kind≠1):wR l ps g s=mG l ps g s:=if_neg h
theorem U4{l:Li}{ps:List Pse}(D:Drw l ps){k:Nat}{g:Gr}(hg:(splitG l)[k]?=some g){s:Sv}(hs:s∈lW l ps g) :
  FP 24 [aO s.ts,nA (wR l ps g s),nA (kr l ps g)] (bl true):=by
 by_cases h:g.kind=1
 ·rw[BS h];exact OX D hg hs h
 ·rw[Ir h];exact Td D hg hs h
theorem Q6{d:Bool}(h:cond (!true) true (!d)=false):d=true:=by cases d <;> simp_all
theorem VN{d f:Bool}(h:cond (cond (!true) true (!d)) true (!f)=false):d=true/\f=true:=by cases d <;> cases f <;> simp_all
theorem CB{l:Li}{ps:List Pse}(h:qO l ps=true)(hw:l.okw)(hps:∀p∈ps,p.wok):l.ok/\(∀p∈ps,p.lok)/\ps.length<=20:=by
 unfold qO at h;simp only[and_eq_true,all_eq_true,decide_eq_true_eq]at h;exact⟨Ih h.2.2 hw,fun p hp=>MI (h.1 p hp) (hps p hp),h.2.1⟩
theorem J7{a b:Nat}:(a:Int).tmod (b:Int)=((a%b:Nat):Int):=by rw[Int.natCast_emod,Int.tmod_eq_emod_of_nonneg oz]
theorem MZ(e:Nat)(n:Int):FP 19 [cq e,i64 n] (bl (aa .eql (e:Int) n)):=by
 refine aj func19 ?_;refine gc (Ji e) ?_;refine af ?_;rfl
theorem RG:BlkSub (.box [.v (.bool false),nS,nS,.v (.bool false)]) (.box jJ.av.cells):=BlkSub.bL (.cons (.refl _) (.cons (.nil _ _ _) (.cons (.nil _ _ _) (.cons (.refl _) .nil)))) rfl
theorem N2{g:Gr}{xs:List Tn}(h:g.kind≠0):fv g xs=jJ:=if_neg h
theorem TV(l:Li)(hw:l.okw)(ps:List Pse)(hps:∀p∈ps,p.wok)(hpl:ps.length<=281474976710656)(kk:Nat)(hkk:kk<256):FP 4 [Ae l ps,u8 kk] (bl true):=by
 refine aj func4 ?_;refine gc IJ ?_;refine bU (fun _=>(UC l ps hw hps hpl)) ?_;refine bU (fun h=>(by have hd:=CB (Q6 h) hw hps;exact Pj hd.1 ps hd.2.1 hd.2.2)) ?_;refine gC (fun t37=>?_) (fun t37=>?_)
 ·refine gc IJ ?_;refine af ?_
  first |rfl |(simp;done)
 obtain⟨g1,g2⟩:=VN t37;obtain⟨hl,hlok,hp20⟩:=CB g1 hw hps;have D:=OF hl hlok g2;have hli:=D.li;have hgl:=(Ej hli).2;have hld:=hl.ld;have hlb:=hl.lb;have hlj:=hl.lj;have hS:=BL l hl hli;rw[D.sp]at hS;refine gc hS ?_;refine gl ?_;refine gC (fun t47=>?_) (fun t47=>?_)
 ·refine af ?_;rfl
 have hn0:(splitG l).length≠0:=by simpa[aa]using t47
 obtain⟨k,hk⟩:∃k,k=kk%(splitG l).length:=⟨_,rfl⟩
 have hkl:k<(splitG l).length:=by rw[hk];exact Nat.mod_lt _ oz
 obtain⟨g,hg⟩:=aH hkl;obtain⟨dy,ok⟩:=oY hli (mem_of_getElem? hg);have hR:=CR ps hlok hp20 D.ok;refine gv (i64_in oz) ?_;refine gl ?_;refine gs (tV (.tmp rfl) (.tmp rfl) oz (show _=((k:Nat):Int) by rw[hk];exact J7) rfl) ?_;refine gc hR ?_;refine gi (aN hg) ?_;refine qu [2,5,7,8,9] [2,8] [] [(9,some (.box (fv g (nO l ps)).av.cells))] (True) ?_ ?_
 ·intro K1 J1;refine gC (fun t62=>?_) (fun t62=>?_)
  ·have hk0:g.kind=0:=cB t62;obtain⟨p,hpm,hpe,htn,hpg⟩:=D.tn dy hk0
   have hb0:g.bo[0]?=some (aA g 0):=by
    cases dy with
    |drv=>rfl
    |rrr=>exact absurd hk0 (by simp)
    |pr=>exact absurd hk0 (by simp)
    |rp=>exact absurd hk0 (by simp)
   have hbb:=ok.b _ (mem_of_getElem? hb0);refine gi (aN hg) ?_;refine gi (aN hb0) ?_;refine gi (fD (n:=(aA g 0).toNat) oz hpg) ?_;refine gD ?_;exact iT J1 trivial (hw:=Wk.of bg (.cons rfl (BlkSub.of (by rw[htn];rfl)) (.k (.k .nil))))
  have hk0:g.kind≠0:=cK t62;exact iT J1 trivial (hw:=Wk.of bg (.cons rfl (by rw[N2 hk0];exact RG) (.k (.k .nil))))
 rintro -;refine gc (Vb D hg) ?_;refine gC (fun t85=>?_) (fun t85=>?_)
 ·have he:oH l ps g≠0:=fc t85;have he15:=(D.err hg).resolve_left he;have hnil:lW l ps g=[]:=Qo he;rw[hnil,he15];refine gc (MZ 15 15) ?_;refine cE ?_;refine af ?_;rfl
 have he:oH l ps g=0:=eH t85;obtain⟨s0,hs0⟩:=UG D hg he;have P:=GE D.w hg D.q (zo D) (fun _=>by decide);have hS2:(lW l ps g).length<=2:=P.two;have hS1:0<(lW l ps g).length:=List.length_pos_of_mem hs0;refine gl ?_;refine cE ?_;refine gC (fun t100=>?_) (fun t100=>?_) (st1:=(15,0));exact absurd t100 (by simp[aa];omega);refine gc (Vq D hg hp20) ?_;refine gC (fun t110=>?_) (fun t110=>?_) (st1:=(18,0));cases t110;refine gl ?_;refine aZ [2,5,7,8,12,111,112] [2,8] (fun(i:Nat)=>[(113,some (i64 i))]) (fun _=>[]) (fun i=>i<=(lW l ps g).length) (fun i=>(lW l ps g).length-i) 0 (zero_le _) ?_;rintro i hi K2 J2;refine gC (fun t114=>?_) (fun t114=>?_)
 ·have hin:=bh t114;obtain⟨s,hsi⟩:=aH hin;have hs:=mem_of_getElem? hsi;obtain⟨AE,hpb,⟨r,hr,tw⟩,hpo⟩:=D.sol hg hs;have F:AqS l (fK ps g s):=AE.s;have hql:=F.ln;have two:s.ts.length<=2:=F.two;have hlm:lm s.ts.length=200000000000:=jP two;have hkb:=rK hr two;have hgb:=ok.lb;have hgj:=ok.lj;have hbl:=(dZ hli).2.2.2.1;refine gi (aN hsi) ?_;refine gc (Ro hl hli D.sp hg D.q.ln hpb tw hr two hpo oz) ?_;refine gC (fun t127=>?_) (fun t127=>?_) (st1:=(24,0));cases t127;refine gi (aN hg) ?_;refine gl ?_;refine aZ [2,5,7,8,12,111,112,113,15,16,132,133] [2,8,15,16] (fun(j:Nat)=>[(134,some (i64 j))]) (fun _=>[]) (fun j=>j<=g.jo.length) (fun j=>g.jo.length-j) 0 (zero_le _) ?_;rintro j hj K3 J3;refine gC (fun t135=>?_) (fun t135=>?_)
  ·have hjn:=bh t135;obtain⟨z,hz⟩:=aH hjn;have hzm:=mem_of_getElem? hz;have hzl:=ok.j z hzm;obtain⟨jt,hjt⟩:=aH (l:=l.jo) (i:=z.toNat) oz;refine gi (aN hz) ?_;refine gi (fD (n:=z.toNat) oz hjt) ?_;refine gc (VW hl F hjt (MX D hg hs hzm hjt)) ?_;refine gD ?_;refine gC (fun t148=>?_) (fun t148=>?_) (st1:=(29,0));cases t148;refine ga aV ?_;exact aT J3 (j+1) hjn
  refine gi (aN hg) ?_;refine gl ?_;refine aZ [2,5,7,8,12,111,112,113,15,16,154,155] [2,8,15,16] (fun(j:Nat)=>[(156,some (i64 j))]) (fun _=>[]) (fun j=>j<=g.bo.length) (fun j=>g.bo.length-j) 0 (zero_le _) ?_;rintro j hj K4 J4;refine gC (fun t157=>?_) (fun t157=>?_)
  ·have hjn:=bh t157;obtain⟨b,hbb⟩:=aH hjn;have hbm:=mem_of_getElem? hbb;have hbr:=ok.b b hbm;obtain⟨p,hp⟩:=aH (l:=(fK ps g s).bs) (i:=b.toNat) oz;have hch:=Kl D hg hs hbm;rw[aw hp]at hch;have po:=F.bs p (mem_of_getElem? hp);have hdot:=OP tw po.c po.s po.c po.s oz;have n1:Nm s.ts.length 1 (sh 0 (((1:Int):Rat):Rat)):=Nm.ofQ tw.five (Cb.int (z:=1) (e:=1) (by decide));have hE:=lS tw (xO tw po.c po.s po.c po.s) n1 oz;rw[a5,gf]at hE;have e1:eG s.ts (mS s.ts (ac s.ts.length p.c) (ac s.ts.length p.s) (ac s.ts.length p.c) (ac s.ts.length p.s)) (T.ofQ s.ts.length (((1:Int):Rat):Rat))=true:=decide_eq_true hch;rw[e1]at hE;refine gi (aN hbb) ?_;refine gi (fD (n:=b.toNat) oz hp) ?_;refine gi (fD (n:=b.toNat) oz hp) ?_;refine gD ?_;refine gc hdot ?_;refine gc (AN 1 oz) ?_;refine gc hE ?_;refine gD ?_;refine gC (fun t182=>?_) (fun t182=>?_) (st1:=(36,0));cases t182;refine ga aV ?_;exact aT J4 (j+1) hjn
  refine gc (O2 D hg hs) ?_;refine bU (fun _=>(P5 D hg hs)) ?_;refine bU (fun _=>(Uc D hg hs)) ?_;refine gD ?_;refine gC (fun t211=>?_) (fun t211=>?_) (st1:=(40,0));exact absurd t211 (by simp[aa];rfl);refine gc (yZ D hg hs).1 ?_;refine gi (aN hg) ?_;refine qu [2,5,7,8,12,111,112,113,16] [2,8,16] [(25,some (nA (wR l ps g s)))] [] (True) ?_ ?_
  ·intro K5 J5;refine gC (fun t222=>?_) (fun t222=>?_)
   ·have hk1:g.kind=1:=cB t222;refine gc (AN 4 oz) ?_;refine gc (DQ D hg hs).1 ?_;refine gD ?_;exact iT J5 trivial (hw:=Wk.of (.cons rfl (Sub.of (by rw[BS hk1])) (.k (.k (.k (.k (.k (.k (.k (.k (.k .nil)))))))))) (.k (.k (.k .nil))))
   have hk1:g.kind≠1:=cK t222;exact iT J5 trivial (hw:=Wk.of (.cons rfl (Sub.of (by rw[Ir hk1])) (.k (.k (.k (.k (.k (.k (.k (.k (.k .nil)))))))))) (.k (.k (.k .nil))))
  rintro -;refine gc (U4 D hg hs) ?_;refine gC (fun t233=>?_) (fun t233=>?_) (st1:=(45,0));cases t233;refine ga aV ?_;exact aT J2 (i+1) hin
 refine af ?_;rfl
open Go.Proofs Go.Proofs.YtpdiojikejnehaaGreat
open Go.ChangeShapes Go.WideShapes Go.ChangeAt Go.RowKit
set_option maxRecDepth 100000 in
theorem QB(os:Os)(started:os.Started)(H:Type)(enc:TypeId×Value->H) :
  ReturnsInHanded {} Tryz.checked os 4 .any (Rows.dyadHoldsSpec.pre6 enc prog Tryz.f4 Rows.dyadHoldsRow.domain false) (Rows.dyadHoldsSpec.post enc prog Tryz.f4 false true false false):=by
 refine returnsInHanded_of_change_sized (C := Tryz.checked) own started (by kernel_rfl) func4
  (ChangeSpec.witness6 (enc:=enc) (C:=Tryz.checked) false ⟨#[],#[.agg #[.string ⟨#[]⟩,.slice none 0 0,.slice none 0 0,.slice none 0 0,.slice none 0 0],.int .u8 0],[]⟩ 8 (by kernel_rfl) (by kernel_rfl) (by kernel_rfl) (by kernel_rfl)) ?_
 intro W base args ds gs before hval0 hW hcnd hwt0 _;have hval:∀(j:Nat) t v,Tryz.f4.params[j]?=some t->args[j]?=some v->Value.okWide prog W .any base t v:=hval0;have hwt:(DataW.weightsEach prog (Tryz.f4.params.toList++Rows.dyadHoldsSpec.plain.varTypes prog) (ds++gs)).all (· <= reachBytes)=true:=hwt0;have hW':=hW;obtain⟨p,q,hA0,hV,rfl,hfz,hnd⟩:=hW;have hA:DataW.TrodAll enc prog W 0 (fun _=>true) true Tryz.f4.params.toList args.toList ds p:=hA0;rw[Tryz.params4]at hA hval hwt;obtain⟨v0,v1,d0,d1,p0,p1,rfl,rfl,rfl,h0,h1⟩:=trodAll_two hA;obtain⟨rfl,rfl⟩:=trodVars_none hV;clear hA0 hval0 hwt0;have hlt:∀x∈p0++p1,x.block<W.heap.size:=fun x hx=>hW'.lt x (by simpa using hx)
 have hw0:∀n∈d0.weights prog 29,n<=reachBytes:=fun n hn=>by
  have:=List.all_eq_true.1 hwt n (DataW.weights_mem_each (j:=0) rfl rfl n hn);simpa using this
 have hw1:∀n∈d1.weights prog 5,n<=reachBytes:=fun n hn=>by
  have:=List.all_eq_true.1 hwt n (DataW.weights_mem_each (j:=1) rfl rfl n hn);simpa using this
 obtain⟨x0,q0,r0⟩:=Sh Tryz.underlying29 UY (hval 0 29 v0 rfl rfl) h0 hw0;obtain⟨x1,q1,r1⟩:=UQ TB (fun _=>rfl) (LV Tryz.underlying5 (hval 1 5 v1 rfl rfl)) h1 hw1
 have hc:=i9.calls (W:=W) (vs:=#[v0,v1]) (TV x0.1 q0.1 x0.2 q0.2.1 q0.2.2 x1 q1) rfl (fun j v x hv hx=>by
  match j,hv,hx with
  |0,hv,hx=>cases hv;cases hx;exact r0
  |1,hv,hx=>cases hv;cases hx;exact r1)
 refine hc.mono fun e W' ⟨he,hb⟩=>?_
 subst he;refine⟨_,rfl,Pe hW' rfl rfl (fun _ _ _=>trodAll_mk1 (shut_bool Tryz.underlying4 _)) (fun sp hsp=>?_) rfl hb (ok_one (by kernel_rfl) rfl (okWide_bool_mk Tryz.underlying4 _))⟩;rw[Tryz.params4];have hs:∀x∈p0++p1,sp x.block=true:=fun x hx=>hsp x (by simpa using hx)
 have g0:=Dq (sp':=sp) (by kernel_rfl) (of_decide_eq_true (by kernel_rfl)) h0 hb (fun x hx=>hlt x (by simp[hx])) (fun x hx=>hs x (by simp[hx]));have g1:=Dq (sp':=sp) (by kernel_rfl) (of_decide_eq_true (by kernel_rfl)) h1 hb (fun x hx=>hlt x (by simp[hx])) (fun x hx=>hs x (by simp[hx]));have g:=trodAll_mk2 g0 g1;rw[show p0++p1++[]=p0++p1 from by simp];exact g
set_option maxRecDepth 100000 in
theorem U2:prog.closure 4=[4,13,54,131,243,88,188,295,362,189,187,221,312,368,313,292,293,360,386,375,388,335,387,334,294,361,389,336,45,60,107,220,236,326,327,374,247,139,248,337,18,63,143,250,104,204,300,363,364,390,205,208,303,305,325,367,366,373,391,392,351,393,394,397,395,396,323,258,257,304,306,324,206,301,302,365,232,321,372,207,339,376,398,405,400,408,409,407,377,399,406,402,401,378,251,340,144,252,318,230,237,278,328,209,319,238,329,286,233,234,322,370,371,330,331,239,231,320,240,121,145,253,341,146,255,352,254,342,348,384,343,379,344,380,381,345,382,383,403,346,347,349,350,147,229,64,148,105,256,151,262,353,385,404,149,150,170,91,89,190,153,165,191,280,127,357,283,176,285,356,172,192,171,152,169,261,80,174,284,177,71,163,281,358,77,175,75,78,154,65,70,166,156,155,259,354,260,73,157,167,272,273,274,116,168,282,173,275,270,266,276,267,263,264,265,355,268,269,271,161,277,279,158,164,66,74,90,159,67,81,178,76,82,79,160,162,22,69,72,29,94,182,92,193,290,183,195,296,291,194,196,140,184,185,222,26,24,86,14,55,132,56,15,40,111,225,316,315,317,112,226,113,227,228,38,108,114,57,133,244,134,16,58,135,59,136,245,137,246,333,138,17,61,142,141,249,338,62,21,23,83,179,97,288,30,95,289,359,87,186,287,84,85,181,180,19,68,20,28,93,25,27]:=by kernel_rfl
theorem P3:joinedFacts prog 4 Tryz.f4 Rows.dyadHoldsSpec Rows.dyadHoldsRow=true:=by
 unfold joinedFacts Program.recurses Program.inPlace Program.unfollowed Program.varsNamed;rw[U2,IR,QK,Pr,VJ,VH,KD]
 kernel_rfl
theorem dyadHolds_holds:Rows.DyadHoldsSaid :=
 OpenClaim.holds_of_wide 4 Tryz.f4 rfl rfl rfl rfl rfl rfl rfl ⟨rfl, rfl, rfl, rfl, rfl⟩ rfl rfl rfl rfl rfl (by kernel_rfl) func4 P3
  (of_decide_eq_true (by kernel_rfl)) (by unfold Func.isWrapper;first |(rw[if_pos (by decide +kernel)];kernel_rfl) |(rw[if_neg (by decide +kernel)];exact⟨rfl,rfl⟩))
  (fun os started H enc _=>QB os started H enc)
end Go.Lw
namespace Go.Proofs.YtpdiojikejnehaaGreat
theorem dyadHolds_proved:Rows.DyadHoldsSaid:=Go.Lw.dyadHolds_holds
end Go.Proofs.YtpdiojikejnehaaGreat
