/- DyadComplete: for anything drawn and any group the law returns true and leaves its arguments as they were. No other condition. Part 8 of 8: the statement -/
import Derived.Test.YtpdiojikejnehaaGreatYg
set_option linter.unusedVariables false
open List (mem_of_getElem? map_cons mem_cons length_cons length_nil all_eq_true getElem?_map getElem?_eq_getElem map_append length_take take_of_length_le take_length not_mem_nil length_map all_append map_map map_set)
open Nat (le_refl le_trans zero_le)
open Bool (and_eq_true)
open Int (toNat_natCast)
open Go.Proofs.Tryz
namespace Go.Lw
open Lean.Grind (CommRing)
section
variable{ts T:LL}(L:Lf ts T)
include L
theorem Lf.pp{l:Li}{bs bs':List Pq}{j:Jt}{i:Int}(tie:(j.a=i/\el bs bs' ts.length j.b)\/(j.a≠i/\j.b=i/\el bs bs' ts.length j.a)) :
  aa L.pos (Lw.pinP l T bs' j i).1=aa L.pos (aq T (Lw.pinP l ts bs j i).1)/\aa L.pos (Lw.pinP l T bs' j i).2=aa L.pos (aq T (Lw.pinP l ts bs j i).2):=by
 unfold Lw.pinP;rcases tie with⟨e,hs⟩ |⟨e,e2,hs⟩
 ·rw[if_pos e,if_pos e];exact L.pt l hs j.on
 ·rw[if_neg e,if_neg e];exact L.pt l hs j.point
theorem QA{k:Int}{d:Et ts}{d':Et T}(h:aa L.pos d'=aa L.pos (aq T d)):aa L.pos (l7 k d')=aa L.pos (aq T (l7 k d)):=by
 unfold l7;split
 ·rw[L.mul,L.add,ba,cC,h]
 ·rw[L.mul,ba,h]
end
structure DetH(l:Li)(a:As)(g:Gr)(s:Sv):Prop where
  lf:Lf (llq a.rs) s.ts
  sg:ak (cV l s.ts (a8 (aC a) g.bo s.ps) g)=s.mode
  rd:aa lf.pos (iX l s.ts (a8 (aC a) g.bo s.ps) g)=aa lf.pos (aq s.ts (gh l a g))
section
variable{l:Li}{a:As}{r:Nat}(tw:Tw (llq a.rs) r)(hN:∀p∈aC a,Nq (llq a.rs).length p)
include tw hN
theorem Od{i k z0 z1 z2:Int}{j0 j1 j2:Jt}(ne:i≠k)(t0:TieO l 0 [i,k] z0 i j0)(t1:TieO l 0 [i,k] z1 k j1)(h2:l.jo[z2.toNat]?=some j2)
  (hi:0<=i) (hk:0<=k) (hil:i.toNat<(aC a).length) (hkl:k.toNat<(aC a).length) (hn:∀j∈l.jo,0<=j.a/\0<=j.b)
  {s:Sv} (hs:s∈iD l a i k j0 j1 j2):DetH l a ⟨1,[i,k],[z0,z1,z2],0⟩ s:=by
 have e0:ah l ⟨1,[i,k],[z0,z1,z2],0⟩ 0=j0:=ao t0.hj;have e1:ah l ⟨1,[i,k],[z0,z1,z2],0⟩ 1=j1:=ao t1.hj;have e2:ah l ⟨1,[i,k],[z0,z1,z2],0⟩ 2=j2:=ao h2;have b0:au ⟨1,[i,k],[z0,z1,z2],0⟩ 0=i:=rfl;have b1:au ⟨1,[i,k],[z0,z1,z2],0⟩ 1=k:=rfl;unfold iD at hs;split at hs
 ·cases hs
 ·rename_i hz;obtain⟨w1,w2⟩:=rj (Bool.eq_false_iff.2 hz);split at hs
  ·cases hs
  ·rename_i hc;have hc:=Decidable.not_not.1 hc;have geo:=Sf tw hc (GK tw hN w1);unfold jA at hs;obtain⟨m,hm,rfl⟩:=List.mem_map.1 hs;obtain⟨x,hx⟩:=aG (List.mem_range.1 hm);have G:=geo m x hx;unfold iy;rw[ao hx];obtain⟨n0,n1⟩:=hn j0 (mem_of_getElem? t0.hj);obtain⟨n2,n3⟩:=hn j1 (mem_of_getElem? t1.hj);generalize hM:dc (ax l a j0 i) (ax l a j1 k) (qE (aZ (ai l j2 i) (ai l j0 i))) (qE (aZ (ai l j2 k) (ai l j1 k)))=M at *;obtain⟨B0,hB0⟩:∃B0,B0=fS M.ts x ⟨ai l j0 i,P2.l (ax l a j0 i),ai l j2 i⟩:=⟨_,rfl⟩
   obtain⟨B1,hB1⟩:∃B1,B1=fS M.ts x ⟨ai l j1 k,P2.l (ax l a j1 k),ai l j2 k⟩:=⟨_,rfl⟩
   have hbs:a8 (aC a) [i,k] [B0,B1]=((aC a).set i.toNat B0).set k.toNat B1:=rfl;have g0:(a8 (aC a) [i,k] [B0,B1]).getD i.toNat aS=B0:=by rw[hbs,kf hk hi ne,nF hil]
   have gn:∀b:Int,0<=b->b∉[i,k]->el (aC a) (a8 (aC a) [i,k] [B0,B1]) (llq a.rs).length b:=fun b h0 hb=>oI tw hN (by
    rw[hbs,kf hk h0 (fun e=>hb (by simp[e])),kf hi h0 (fun e=>hb (by simp[e]))])
   have q0:a6 M.ts B0 (ai l j2 i)=(dE M.ts x.1,dE M.ts x.2):=by
    rw[hB0];refine(sT w1).trans ?_;unfold kq je;refine Prod.ext ?_ ?_
    ·dsimp only;grind
    ·dsimp only;grind
   have L:=G.lf
   have P0:=L.pp (l:=l) (bs:=aC a) (bs':=a8 (aC a) [i,k] [B0,B1]) (j:=j0) (i:=i) (by
    rcases t0.tie with⟨e,hb⟩ |⟨e,hb⟩
    ·exact .inl ⟨e,gn _ n1 hb⟩
    ·exact .inr ⟨fun e2=>hb (by simp[e2]),e,gn _ n0 hb⟩)
   have P1:=L.pp (l:=l) (bs:=aC a) (bs':=a8 (aC a) [i,k] [B0,B1]) (j:=j1) (i:=k) (by
    rcases t1.tie with⟨e,hb⟩ |⟨e,hb⟩
    ·exact .inl ⟨e,gn _ n3 hb⟩
    ·exact .inr ⟨fun e2=>hb (by simp[e2]),e,gn _ n2 hb⟩)
   have hr:=pY L (l:=l) (g:=⟨1,[i,k],[z0,z1,z2],0⟩) (bs:=aC a) (bs':=a8 (aC a) [i,k] [B0,B1]) (fun _=>by rw[e0,b0];exact P0) (fun _=>by rw[e1,b1];exact P1) (fun h=>absurd h (by simp)) (fun _ h=>absurd rfl h)
   have hd:=G.ex (cV l M.ts (a8 (aC a) [i,k] [B0,B1]) ⟨1,[i,k],[z0,z1,z2],0⟩) (by
    rw[vK rfl,e0,e1,e2,b0,b1,g0,q0];unfold f7 crsE aE;dsimp only;rw[bp,ba,ba,bp,bp,bp,bp,P0.1,P0.2,P1.1,P1.2,<- jT,<- jT])
   rw[hB0,hB1]at hr hd;exact⟨L,hd,by rw[mS];exact hr⟩
theorem Ot{i z0 z1:Int}{j0 j:Jt}(t0:TieO l 0 [i] z0 i j0)(t1:TieO l 1 [i] z1 i j)(ha:j.a=i)(hi:0<=i)(hil:i.toNat<(aC a).length)(hn:∀j∈l.jo,0<=j.a/\0<=j.b)
  {s:Sv} (hs:s∈iC l a i j0 j):DetH l a ⟨2,[i],[z0,z1],0⟩ s:=by
 have e0:ah l ⟨2,[i],[z0,z1],0⟩ 0=j0:=ao t0.hj;have e1:ah l ⟨2,[i],[z0,z1],0⟩ 1=j:=ao t1.hj;have b0:au ⟨2,[i],[z0,z1],0⟩ 0=i:=rfl;unfold iC at hs;split at hs
 ·cases hs
 ·rename_i hz;have w1:=ru (Bool.eq_false_iff.2 hz);split at hs
  ·cases hs
  ·rename_i hc;have hc:=Decidable.not_not.1 hc;have geo:=Oe tw (c:=ax l a j0 i) (z:=qE (aZ (aB l i j.point) (ai l j0 i))) hc;unfold jA at hs;obtain⟨m,hm,rfl⟩:=List.mem_map.1 hs;obtain⟨x,hx⟩:=aG (List.mem_range.1 hm);have G:=geo m x hx;have L:=G.lf;unfold iy;rw[ao hx];obtain⟨n0,n1⟩:=hn j0 (mem_of_getElem? t0.hj);obtain⟨n2,n3⟩:=hn j (mem_of_getElem? t1.hj);generalize hM:dq (aA l a j.b j.on) (aA l a j.b j.to) (ax l a j0 i) (qE (aZ (aB l i j.point) (ai l j0 i)))=M at *;obtain⟨B0,hB0⟩:∃B0,B0=fS M.ts x ⟨ai l j0 i,P2.l (ax l a j0 i),aB l i j.point⟩:=⟨_,rfl⟩
   have hbs:a8 (aC a) [i] [B0]=(aC a).set i.toNat B0:=rfl;have g0:(a8 (aC a) [i] [B0]).getD i.toNat aS=B0:=by rw[hbs,nF hil]
   have gn:∀b:Int,0<=b->b∉[i]->el (aC a) (a8 (aC a) [i] [B0]) (llq a.rs).length b:=fun b h0 hb=>oI tw hN (by
    rw[hbs,kf hi h0 (fun e=>hb (by simp[e]))])
   have q0:a6 M.ts B0 (aB l i j.point)=(dE M.ts x.1,dE M.ts x.2):=by
    rw[hB0];refine(sT w1).trans ?_;unfold kq je;refine Prod.ext ?_ ?_
    ·dsimp only;grind
    ·dsimp only;grind
   have hjb:el (aC a) (a8 (aC a) [i] [B0]) (llq a.rs).length j.b:=by
    rcases t1.tie with⟨e,hb⟩ |⟨e,hb⟩
    ·exact gn _ n3 hb
    ·exact absurd (by simp[ha]) hb
   have P0:=L.pp (l:=l) (bs:=aC a) (bs':=a8 (aC a) [i] [B0]) (j:=j0) (i:=i) (by
    rcases t0.tie with⟨e,hb⟩ |⟨e,hb⟩
    ·exact .inl ⟨e,gn _ n1 hb⟩
    ·exact .inr ⟨fun e2=>hb (by simp[e2]),e,gn _ n0 hb⟩)
   have on:=L.pt l hjb j.on;have to:=L.pt l hjb j.to;have hr:=pY L (l:=l) (g:=⟨2,[i],[z0,z1],0⟩) (bs:=aC a) (bs':=a8 (aC a) [i] [B0]) (fun _=>by rw[e0,b0];exact P0) (fun h=>absurd h (by simp)) (fun _ pt=>by rw[e1];exact L.pt l hjb pt) (fun _ _ h=>absurd rfl h)
   have hd:=G.ex (cV l M.ts (a8 (aC a) [i] [B0]) ⟨2,[i],[z0,z1],0⟩) (by
    rw[vF rfl,e0,e1,b0,g0,q0];unfold co dotE aE;dsimp only;rw[cC,ba,ba,bp,bp,bp,bp,P0.1,P0.2,on.1,on.2,to.1,to.2,<- jT,<- eO,<- eO])
   rw[hB0]at hr hd;exact⟨L,hd,by rw[mS];exact hr⟩
theorem zI{i z0 z1:Int}{j0 j:Jt}(t0:TieO l 0 [i] z0 i j0)(t1:TieO l 1 [i] z1 i j)(ha:j.a≠i)(hi:0<=i)(hil:i.toNat<(aC a).length)(hn:∀j∈l.jo,0<=j.a/\0<=j.b)(hv:bJ (b9 l i j) (b9 l i j)≠0)
  (hd:ak (bX l a i j0 j)≠0) {T:LL} (L:Lf (llq a.rs) T) {q:List Rat} {n:Int} (hm:ak (dE T q)=n) :
  DetH l a ⟨3,[i],[z0,z1],0⟩ ⟨T,[mF T (dl l a i j0 j) q],n⟩:=by
 have a0:ah l ⟨3,[i],[z0,z1],0⟩ 0=j0:=ao t0.hj;have a1:ah l ⟨3,[i],[z0,z1],0⟩ 1=j:=ao t1.hj;have b0:au ⟨3,[i],[z0,z1],0⟩ 0=i:=rfl;obtain⟨n0,n1⟩:=hn j0 (mem_of_getElem? t0.hj);obtain⟨n2,n3⟩:=hn j (mem_of_getElem? t1.hj)
 obtain⟨tb,tn⟩:j.b=i/\j.a∉[i]:=by
  rcases t1.tie with⟨e,hb⟩ |h
  ·exact absurd e ha
  ·exact h
 obtain⟨w,hw⟩:∃w:P2 T,w=ns T q (dl l a i j0 j).h (dl l a i j0 j).d (dl l a i j0 j).w:=⟨_,rfl⟩
 obtain⟨o,ho⟩:∃o:P2 T,o=(aq T (ax l a j0 i).1,aq T (ax l a j0 i).2):=⟨_,rfl⟩
 obtain⟨B0,hB0⟩:∃B0,B0=gp (b9 l i j) w (ai l j0 i) o:=⟨_,rfl⟩
 have e0:mF T (dl l a i j0 j) q=B0:=by rw[hB0,hw,ho];rfl
 rw[e0];have hbs:a8 (aC a) [i] [B0]=(aC a).set i.toNat B0:=rfl;have g0:(a8 (aC a) [i] [B0]).getD i.toNat aS=B0:=by rw[hbs,nF hil]
 have gn:∀b:Int,0<=b->b∉[i]->el (aC a) (a8 (aC a) [i] [B0]) (llq a.rs).length b:=fun b h0 hb=>oI tw hN (by
  rw[hbs,kf hi h0 (fun e=>hb (by simp[e]))])
 have hD:aa L.pos (aq T (bX l a i j0 j))=aa L.pos (aq T (bS l a i j0 j).1)*aa L.pos (aq T (bS l a i j0 j).1)+aa L.pos (aq T (bS l a i j0 j).2)*aa L.pos (aq T (bS l a i j0 j).2):=by
  rw[<- L.mul,<- L.mul,<- L.add];rfl
 have hI:aa L.pos (iE (aq T (bX l a i j0 j)))*aa L.pos (aq T (bX l a i j0 j))=1:=n6 L.pos (fun e=>hd ((L.zero _).1 e));have eh:dE T (dl l a i j0 j).h=qE (bV l i j0 j):=ik _ _;have x1:w.1=(dE T q*aq T (bS l a i j0 j).1-qE (bV l i j0 j)*-aq T (bS l a i j0 j).2)*iE (aq T (bX l a i j0 j)):=by rw[hw,<- eh];rfl
 have x2:w.2=(dE T q*aq T (bS l a i j0 j).2-qE (bV l i j0 j)*aq T (bS l a i j0 j).1)*iE (aq T (bX l a i j0 j)):=by rw[hw,<- eh];rfl
 have G:=Kf hD hI (t:=aa L.pos (dE T q)) (hh:=aa L.pos (qE (bV l i j0 j))) (w1:=aa L.pos w.1) (w2:=aa L.pos w.2) (by rw[x1,ba,bp,ba,ba,Gh]) (by rw[x2,ba,bp,ba,ba])
 have P0:=L.pp (l:=l) (bs:=aC a) (bs':=a8 (aC a) [i] [B0]) (j:=j0) (i:=i) (by
  rcases t0.tie with⟨e,hb⟩ |⟨e,hb⟩
  ·exact .inl ⟨e,gn _ n1 hb⟩
  ·exact .inr ⟨fun e2=>hb (by simp[e2]),e,gn _ n0 hb⟩)
 have hja:=gn _ n2 tn;have pp:=L.pt l hja j.point;have hr:=pY L (l:=l) (g:=⟨3,[i],[z0,z1],0⟩) (bs:=aC a) (bs':=a8 (aC a) [i] [B0]) (fun _=>by rw[a0,b0];exact P0) (fun h=>absurd h (by simp)) (fun h=>absurd h (by simp)) (fun _ _ _ pt=>by rw[a1];exact L.pt l hja pt)
 have W1:aa L.pos (aq T (bS l a i j0 j).1)=aa L.pos (an l T (a8 (aC a) [i] [B0]) j.a j.point).1-aa L.pos (pinP l T (a8 (aC a) [i] [B0]) j0 i).1:=by
  rw[pp.1,P0.1,<- L.sub,<- eO,<- jT];rfl
 have W2:aa L.pos (aq T (bS l a i j0 j).2)=aa L.pos (an l T (a8 (aC a) [i] [B0]) j.a j.point).2-aa L.pos (pinP l T (a8 (aC a) [i] [B0]) j0 i).2:=by
  rw[pp.2,P0.2,<- L.sub,<- eO,<- jT];rfl
 have eon:an l T (a8 (aC a) [i] [B0]) j.b j.on=a6 T B0 (aB l i j.on):=by unfold an;rw[tb,g0]
 have eto:an l T (a8 (aC a) [i] [B0]) j.b j.to=a6 T B0 (aB l i j.to):=by unfold an;rw[tb,g0]
 have gg:=zM (w:=w) hv;have v1:(qE (b9 l i j).1:Et T)=qE ((aB l i j.to).1-(ai l j0 i).1)-qE ((aB l i j.on).1-(ai l j0 i).1):=by rw[<- kj];congr 1;show(aB l i j.to).1-(aB l i j.on).1=_;grind
 have v2:(qE (b9 l i j).2:Et T)=qE ((aB l i j.to).2-(ai l j0 i).2)-qE ((aB l i j.on).2-(ai l j0 i).2):=by rw[<- kj];congr 1;show(aB l i j.to).2-(aB l i j.on).2=_;grind
 have d1:(a6 T B0 (aB l i j.to)).1-(a6 T B0 (aB l i j.on)).1=w.1:=by
  rw[hB0,m7,m7];dsimp only;have g1:=gg.1;rw[v1,v2]at g1;rw[<- g1];generalize de (b9 l i j) w=C;generalize db (b9 l i j) w=S;clear g1;grind
 have d2:(a6 T B0 (aB l i j.to)).2-(a6 T B0 (aB l i j.on)).2=w.2:=by
  rw[hB0,m7,m7];dsimp only;have g1:=gg.2;rw[v1,v2]at g1;rw[<- g1];generalize de (b9 l i j) w=C;generalize db (b9 l i j) w=S;clear g1;grind
 have hdt:aa L.pos (cV l T (a8 (aC a) [i] [B0]) ⟨3,[i],[z0,z1],0⟩)=aa L.pos (dE T q):=by
  rw[vl rfl,a0,a1,b0,eon,eto];unfold co dotE aE;dsimp only;rw[d1,d2,cC,ba,ba,bp,bp,<- W1,<- W2];exact G
 refine⟨L,?_,by rw[mS];exact hr⟩;show ak (cV l T (a8 (aC a) [i] [B0]) _)=n;rw[<- hm];exact jD L.pos hdt
theorem Mp{i z0 z1:Int}{j0 j:Jt}(t0:TieO l 0 [i] z0 i j0)(t1:TieO l 1 [i] z1 i j)(ha:j.a≠i)(hi:0<=i)(hil:i.toNat<(aC a).length)(hn:∀j∈l.jo,0<=j.a/\0<=j.b)(hv:bJ (b9 l i j) (b9 l i j)≠0)
  {s:Sv} (hs:s∈gK l a i j0 j):DetH l a ⟨3,[i],[z0,z1],0⟩ s:=by
 unfold gK at hs;split at hs
 ·cases hs
 ·rename_i h1;split at hs
  ·cases hs
  ·rename_i h2;have hd:=pa tw h2 h1;split at hs
   ·rename_i h3;have hp:=ry tw.pos h3;have L:=qB (bm l a i j0 j) hp;have s1:=xS (Hf tw.pos h3);unfold ju at hs;obtain⟨m,hm,rfl⟩:=List.mem_map.1 hs;have hm:=List.mem_range.1 hm;unfold iR
    match m,hm with
    |0,_ =>
     exact zI tw hN t0 t1 ha hi hil hn hv hd L s1
    |1,_ =>
     refine zI tw hN t0 t1 ha hi hil hn hv hd L ?_;show ak (dE _ (sX (-bA (bm l a i j0 j))))=_;rw[ee,v8 hp,s1];rfl
    |m+2,h=>exact absurd h (by simp)
   ·rename_i h3;have hX:ak (bm l a i j0 j) = 0:=by omega
    have L:=kG (ts:=llq a.rs) tw.pos;unfold ju at hs;obtain⟨m,hm,rfl⟩:=List.mem_map.1 hs;have hm:=List.mem_range.1 hm;unfold iR;have e0:(dE (llq a.rs) []:Et (llq a.rs))=0:=by rw[E.zero_def];exact gQ _
    match m,hm with
    |0,_ =>
     refine zI tw hN t0 t1 ha hi hil hn hv hd L ?_;show ak (dE _ [])=_;rw[e0];exact(du _ _ L.pos).zero
    |m+1,h=>exact absurd h (by simp)
theorem K7{g:Gr}(hg:DyK l g)(hgb:∀b∈g.bo,0<=b/\b.toNat<(aC a).length)(hli:aO l=0){x:Tn}{s:Sv}(hs:s∈fO l a g x):DetH l a g s:=by
 have hn:∀j∈l.jo,0<=j.a/\0<=j.b:=fun j hj=>by
  obtain⟨n,hn⟩:=List.getElem?_of_mem hj;obtain⟨i1,i2,_⟩:=dw hli hn;have i1:=dz i1;have i2:=dz i2;omega
 cases hg with
 | @drv b z d j dr t d0 hd hb =>
  have e:ah l ⟨0,[b],[z],d⟩ 0=j:=ao t.hj;have hs:s∈iY l a b j x:=by rw[<- e];exact hs
  unfold iY at hs;split at hs
  ·cases hs
  ·rw[List.mem_singleton.1 hs];have L:=kG (ts:=llq a.rs) tw.pos;have q1:(qE 1:Et (llq a.rs))=1:=rfl;refine⟨L,?_,?_⟩
   ·show ak (qE 1:Et (llq a.rs))=1;rw[q1];exact(du _ _ tw.pos).one
   ·show aa L.pos (qE 1:Et (llq a.rs))=aa L.pos (aq (llq a.rs) (qE 1));rw[cR]
 | @rrr i k z0 z1 z2 j0 j1 j2 ne t0 t1 h0 h2 kd tie =>
  have e0:ah l ⟨1,[i,k],[z0,z1,z2],0⟩ 0=j0:=ao t0.hj;have e1:ah l ⟨1,[i,k],[z0,z1,z2],0⟩ 1=j1:=ao t1.hj;have e2:ah l ⟨1,[i,k],[z0,z1,z2],0⟩ 2=j2:=ao h2;have hs:s∈iD l a i k j0 j1 j2:=by rw[<- e0,<- e1,<- e2];exact hs
  obtain⟨b1,b2⟩:=hgb i (by simp);obtain⟨b3,b4⟩:=hgb k (by simp);exact Od tw hN ne t0 t1 h2 b1 b3 b2 b4 hn hs
 | @pr i z0 z1 j0 j1 t0 t1 ha =>
  have e0:ah l ⟨2,[i],[z0,z1],0⟩ 0=j0:=ao t0.hj;have e1:ah l ⟨2,[i],[z0,z1],0⟩ 1=j1:=ao t1.hj;have hs:s∈iC l a i j0 j1:=by rw[<- e0,<- e1];exact hs
  obtain⟨b1,b2⟩:=hgb i (by simp);exact Ot tw hN t0 t1 ha b1 b2 hn hs
 | @rp i z0 z1 j0 j1 t0 t1 ha =>
  have e0:ah l ⟨3,[i],[z0,z1],0⟩ 0=j0:=ao t0.hj;have e1:ah l ⟨3,[i],[z0,z1],0⟩ 1=j1:=ao t1.hj;have hs:s∈gK l a i j0 j1:=by rw[<- e0,<- e1];exact hs
  obtain⟨b1,b2⟩:=hgb i (by simp)
  have tb:j1.b=i:=by
   rcases t1.tie with⟨e,_⟩ |⟨e,_⟩
   ·exact absurd e ha
   ·exact e
  exact Mp tw hN t0 t1 ha b1 b2 hn (rm hli t1.hj (by rw[t1.kd];decide) tb) hs
end
section
variable{l:Li}{xs:List Tn}{s g:Nat}(W:WkC l xs s g){gr:Gr}{a:Aq}(hg:(splitG l)[a.ms.length]?=some gr)
variable{j r E:Nat}(Q:QInv l j r E a)
include W hg Q
end
end Go.Lw
namespace Go.Lw
open Lean.Grind (CommRing)
section
variable{R:Type}[CommRing R]
theorem LG{C S C' S' u v i:R}(hi:i*(u*u+v*v)=1)(h1:C*u-S*v=C'*u-S'*v)(h2:S*u+C*v=S'*u+C'*v):C=C'/\S=S':=by
 have e1:(C-C')*(u*u+v*v)=u*((C*u-S*v)-(C'*u-S'*v))+v*((S*u+C*v)-(S'*u+C'*v)):=by clear hi h1 h2;grind
 have e2:(S-S')*(u*u+v*v)=u*((S*u+C*v)-(S'*u+C'*v))-v*((C*u-S*v)-(C'*u-S'*v)):=by clear hi h1 h2 e1;grind
 rw[h1,h2]at e1 e2
 have f1:C-C'=i*((C-C')*(u*u+v*v)):=by
  have:i*((C-C')*(u*u+v*v))=(C-C')*(i*(u*u+v*v)):=by clear e1 e2 h1 h2 hi;grind
  rw[this,hi];clear e1 e2 h1 h2 hi this;grind
 have f2:S-S'=i*((S-S')*(u*u+v*v)):=by
  have:i*((S-S')*(u*u+v*v))=(S-S')*(i*(u*u+v*v)):=by clear e1 e2 h1 h2 hi f1;grind
  rw[this,hi];clear e1 e2 h1 h2 hi this f1;grind
 rw[e1]at f1;rw[e2]at f2;clear e1 e2 h1 h2 hi;constructor <;> grind
theorem zN{a b x y x' y' i:R}(hi:i*(a*a+b*b)=1)(h1:a*x+b*y=a*x'+b*y')(h2:a*y-b*x=a*y'-b*x'):x=x'/\y=y':=by
 have e1:(a*a+b*b)*x=a*(a*x+b*y)-b*(a*y-b*x):=by clear hi h1 h2;grind
 have e2:(a*a+b*b)*x'=a*(a*x'+b*y')-b*(a*y'-b*x'):=by clear hi h1 h2 e1;grind
 have e3:(a*a+b*b)*y=b*(a*x+b*y)+a*(a*y-b*x):=by clear hi h1 h2 e1 e2;grind
 have e4:(a*a+b*b)*y'=b*(a*x'+b*y')+a*(a*y'-b*x'):=by clear hi h1 h2 e1 e2 e3;grind
 rw[h1,h2,<- e2]at e1;rw[h1,h2,<- e4]at e3
 have k:∀z:R,i*((a*a+b*b)*z)=z:=fun z=>by
  have:i*((a*a+b*b)*z)=(i*(a*a+b*b))*z:=by clear hi h1 h2 e1 e2 e3 e4;grind
  rw[this,hi];clear hi h1 h2 e1 e2 e3 e4 this;grind
 exact⟨by rw[<- k x,e1,k],by rw[<- k y,e3,k]⟩
theorem Ja(p1 p2 q1 q2:R):(q1-p1)*(q1-p1)+(q2-p2)*(q2-p2)=(p1-q1)*(p1-q1)+(p2-q2)*(p2-q2):=by grind
theorem K9{a b x1 x2 v1 v2:R}(h:x1*a+x2*b=v1*a+v2*b):a*x1+b*x2=a*v1+b*v2:=by grind
theorem SV{a b x1 x2 v1 v2:R}(h:v1*b-v2*a=x1*b-x2*a):a*x2-b*x1=a*v2-b*v1:=by grind
theorem Ec(p1 p2 q1 q2 x y:R):((q1-p1)*(x-p1)+(q2-p2)*(y-p2))+((q1-p1)*(x-p1)+(q2-p2)*(y-p2)) =
  ((x-p1)*(x-p1)+(y-p2)*(y-p2))+((q1-p1)*(q1-p1)+(q2-p2)*(q2-p2))-((x-q1)*(x-q1)+(y-q2)*(y-q2)):=by grind
end
section
variable{T:LL}(hp:cP T)
include hp
theorem IK{a b:Zq hp}(h:a+a=b+b):a=b:=by
 obtain⟨x,rfl⟩:=eD hp a;obtain⟨y,rfl⟩:=eD hp b;have e:aa hp (x+x)=aa hp (y+y):=h;have e1:=(fh hp).1 e;refine(fh hp).2 ?_;have e2:=rQ hp (x-y);rw[show x-y+(x-y)=x+x-(y+y) by grind]at e2;exact e2.symm.trans e1
theorem Il{D D':Et T}(hs:ak D=ak D')(h:aa hp (D*D)=aa hp (D'*D')):aa hp D=aa hp D':=by
 have H:=du (aw T) T.length hp;have e:=(fh hp).1 h;have m:=H.mul (D-D') (D+D');rw[show(D-D')*(D+D')=D*D-D'*D' by grind,e]at m;rcases Int.mul_eq_zero.1 m.symm with g |g
 ·exact(fh hp).2 g
 ·have e1 : ak D = ak (-D') := H.sub0 (x := D) (y := -D') (by rw [show D - -D' = D + D' by grind]; exact g);have e2:=v8 hp D';have z0:ak D' = 0:=by omega
  exact((et hp).2 (show ak D=0 by omega)).trans ((et hp).2 z0).symm
theorem Uh{k:Int}{D D':Et T}(hs:ak D=ak D')(h:aa hp (l7 k D)=aa hp (l7 k D')):aa hp D=aa hp D':=by
 unfold l7 at h;split at h
 ·have e := Il hp (D := D+D) (D' := D'+D') (by rw[rQ hp,rQ hp];exact hs) h;rw[cC,cC]at e;exact IK hp e
 ·exact Il hp hs h
theorem Lr(k:Int)(D:Et T):ak (l7 k D)=ak D*ak D:=by
 have H:=du (aw T) T.length hp;unfold l7;split
 ·have e:ak ((D+D)*(D+D))=ak (D+D)*ak (D+D):=H.mul _ _;rw[e,rQ hp]
 ·exact H.mul _ _
theorem Ub{a b:Et T}(h:ak (a*a+b*b)=0):ak a=0/\ak b=0:=by
 have H:=du (aw T) T.length hp;have ha:=H.sq a;have hb:=H.sq b;have h:sg (aw T) T.length (a*a+b*b)=0:=h
 have k:∀x:Et T,sg (aw T) T.length (x*x)=0->ak x=0:=fun x hx=>by
  rw[H.mul]at hx;rcases Int.mul_eq_zero.1 hx with g |g <;> exact g
 have ea:sg (aw T) T.length (a*a)=0:=by
  rcases H.cs (a*a)with g |g |g
  ·omega
  ·exact g
  ·have:=H.padd g hb;omega
 have eb:sg (aw T) T.length (b*b)=0:=by rwa [H.zadd ea]at h
 exact⟨k a ea,k b eb⟩
theorem Rl{q:Rat}(h:q≠0):aa hp (iE (qE q))*aa hp (qE q)=1:=by rw[<- ba,yP h];rfl
structure Eqp(p p':Pq):Prop where
  c:aa hp (dE T p.c)=aa hp (dE T p'.c)
  s:aa hp (dE T p.s)=aa hp (dE T p'.s)
  x:aa hp (dE T p.x)=aa hp (dE T p'.x)
  y:aa hp (dE T p.y)=aa hp (dE T p'.y)
theorem Eqp.rf(p:Pq):Eqp hp p p:=⟨rfl,rfl,rfl,rfl⟩
variable{hp} in
theorem Eqp.at{p p':Pq}(h:Eqp hp p p')(m:Rat×Rat):aa hp (a6 T p m).1=aa hp (a6 T p' m).1/\aa hp (a6 T p m).2=aa hp (a6 T p' m).2:=by
 unfold a6;dsimp only;constructor <;> simp only[cC,bp,ba,h.c,h.s,h.x,h.y]
theorem wO{p p':Pq}(m n k:Rat×Rat)(h0:bJ (bw n k) (bw n k)≠0)
  (h1:aa hp (a6 T p m).1=aa hp (a6 T p' m).1) (h2:aa hp (a6 T p m).2=aa hp (a6 T p' m).2)
  (h3:aa hp (a6 T p n).1-aa hp (a6 T p k).1=aa hp (a6 T p' n).1-aa hp (a6 T p' k).1)
  (h4:aa hp (a6 T p n).2-aa hp (a6 T p k).2=aa hp (a6 T p' n).2-aa hp (a6 T p' k).2):Eqp hp p p':=by
 obtain⟨e1,e2⟩:=tM hp (p:=p) k n;obtain⟨e3,e4⟩:=tM hp (p:=p') k n;rw[e1,e3]at h3;rw[e2,e4]at h4;have hi:=Rl hp h0
 have en:aa hp (qE (bJ (bw n k) (bw n k)))=aa hp (qE (n.1-k.1))*aa hp (qE (n.1-k.1))+aa hp (qE (n.2-k.2))*aa hp (qE (n.2-k.2)):=by
  unfold bJ bw;dsimp only;rw[lc,fH,fH,cC,ba,ba]
 rw[en]at hi;obtain⟨hc,hs⟩:=LG hi h3 h4;unfold a6 at h1 h2;dsimp only at h1 h2;simp only[cC,bp,ba,hc,hs]at h1 h2;refine⟨hc,hs,?_,?_⟩
 ·clear h2 h3 h4 hi en e1 e2 e3 e4;grind
 ·clear h1 h3 h4 hi en e1 e2 e3 e4;grind
end
section
variable{l:Li}{T:LL}(hp:cP T){bs ds:List Pq}
include hp
def r8(l:Li){T:LL}(hp:cP T)(g:Gr)(bs ds:List Pq):Prop:=∀z∈g.jo,∀j,l.jo[z.toNat]?=some j->(j.a∉g.bo->Eqp hp (bs.getD j.a.toNat aS) (ds.getD j.a.toNat aS))/\(j.b∉g.bo->Eqp hp (bs.getD j.b.toNat aS) (ds.getD j.b.toNat aS))
theorem gI{g:Gr}(A:r8 l hp g bs ds){kd z i:Int}{j:Jt}(t:TieO l kd g.bo z i j)(hz:z∈g.jo)(hi:i∈g.bo) :
  aa hp (pinP l T bs j i).1=aa hp (pinP l T ds j i).1/\aa hp (pinP l T bs j i).2=aa hp (pinP l T ds j i).2:=by
 obtain⟨a1,a2⟩:=A z hz j t.hj;unfold pinP an;rcases t.tie with⟨e,hb⟩ |⟨e,hb⟩
 ·rw[if_pos e,if_pos e];exact(a2 hb).at _
 ·have:j.a≠i:=fun h=>hb (h▸hi)
  rw[if_neg this,if_neg this];exact(a1 hb).at _
structure NDg(l:Li)(T:LL)(bs:List Pq)(g:Gr):Prop where
  n1:g.kind=1->ak (az (pinP l T bs (ah l g 0) (au g 0)) (pinP l T bs (ah l g 1) (au g 1)))≠0/\bJ (bw (ai l (ah l g 2) (au g 0)) (ai l (ah l g 0) (au g 0))) (bw (ai l (ah l g 2) (au g 0)) (ai l (ah l g 0) (au g 0)))≠0 /\
    bJ (bw (ai l (ah l g 2) (au g 1)) (ai l (ah l g 1) (au g 1))) (bw (ai l (ah l g 2) (au g 1)) (ai l (ah l g 1) (au g 1)))≠0
  n2:g.kind=2->ak (a7 (an l T bs (ah l g 1).b (ah l g 1).on) (an l T bs (ah l g 1).b (ah l g 1).to))≠0/\bJ (bw (aB l (au g 0) (ah l g 1).point) (ai l (ah l g 0) (au g 0))) (bw (aB l (au g 0) (ah l g 1).point) (ai l (ah l g 0) (au g 0)))≠0
  n3:g.kind=3->ak (co (aE (an l T bs (ah l g 1).a (ah l g 1).point) (pinP l T bs (ah l g 0) (au g 0))) (aE (an l T bs (ah l g 1).a (ah l g 1).point) (pinP l T bs (ah l g 0) (au g 0))))≠0/\bJ (b9 l (au g 0) (ah l g 1)) (b9 l (au g 0) (ah l g 1))≠0
theorem JI{g:Gr}(hg:DyK l g)(A:r8 l hp g bs ds)(N:NDg l T bs g)
  (js:∀z∈g.jo,JH l T bs (l.jo.getD z.toNat default)) (cs:∀b∈g.bo,CH T (bs.getD b.toNat aS))
  (js':∀z∈g.jo,JH l T ds (l.jo.getD z.toNat default)) (cs':∀b∈g.bo,CH T (ds.getD b.toNat aS))
  (hd:aa hp (cV l T bs g)=aa hp (cV l T ds g))
  (dr:g.kind=0->aa hp (dE T (bs.getD (au g 0).toNat aS).c)=aa hp (dE T (ds.getD (au g 0).toNat aS).c)/\aa hp (dE T (bs.getD (au g 0).toNat aS).s)=aa hp (dE T (ds.getD (au g 0).toNat aS).s)) :
  ∀b∈g.bo,Eqp hp (bs.getD b.toNat aS) (ds.getD b.toNat aS):=by
 cases hg with
 | @drv b z d j dr0 t d0 hd0 hb =>
  intro b' hb';rw[List.mem_singleton.1 hb'];obtain⟨hc,hs⟩:=dr rfl;have hc:aa hp (dE T (bs.getD b.toNat aS).c)=aa hp (dE T (ds.getD b.toNat aS).c):=hc;have hs:aa hp (dE T (bs.getD b.toNat aS).s)=aa hp (dE T (ds.getD b.toNat aS).s):=hs;have y0:=js z (by simp);have y0':=js' z (by simp);rw[ao t.hj]at y0 y0';have o:=iN hp t.kd (gy t) y0;have o':=iN hp t.kd (gy t) y0';have pe:=gI hp A t (by simp) (by simp);have h1:=o.1.trans (pe.1.trans o'.1.symm);have h2:=o.2.trans (pe.2.trans o'.2.symm);unfold a6 at h1 h2;dsimp only at h1 h2;simp only[cC,bp,ba,hc,hs]at h1 h2;refine⟨hc,hs,?_,?_⟩
  ·clear h2 hc hs;grind
  ·clear h1 hc hs;grind
 | @rrr i k z0 z1 z2 j0 j1 j2 ne t0 t1 h0 h2 kd tie =>
  have e0:ah l ⟨1,[i,k],[z0,z1,z2],0⟩ 0=j0:=ao t0.hj;have e1:ah l ⟨1,[i,k],[z0,z1,z2],0⟩ 1=j1:=ao t1.hj;have e2:ah l ⟨1,[i,k],[z0,z1,z2],0⟩ 2=j2:=ao h2;have b0:au ⟨1,[i,k],[z0,z1,z2],0⟩ 0=i:=rfl;have b1:au ⟨1,[i,k],[z0,z1,z2],0⟩ 1=k:=rfl;obtain⟨n1,w1,w2⟩:=N.n1 rfl;rw[e0,e1,b0,b1]at n1;rw[e2,e0,b0]at w1;rw[e2,e1,b1]at w2;have y0:=js z0 (by simp);have y1:=js z1 (by simp);have y2:=js z2 (by simp);have y0':=js' z0 (by simp);have y1':=js' z1 (by simp);have y2':=js' z2 (by simp);rw[ao t0.hj]at y0 y0';rw[ao t1.hj]at y1 y1';rw[ao h2]at y2 y2';obtain⟨x,hx⟩:∃x:P2 T,x=a6 T (bs.getD i.toNat aS) (ai l j2 i):=⟨_,rfl⟩
  obtain⟨x',hx'⟩:∃x:P2 T,x=a6 T (ds.getD i.toNat aS) (ai l j2 i):=⟨_,rfl⟩
  obtain⟨ce,d0,d1⟩:=uS hp t0 t1 ne kd tie y0 y1 y2 (cs i (by simp)) (cs k (by simp)) hx;obtain⟨ce',d0',d1'⟩:=uS hp t0 t1 ne kd tie y0' y1' y2' (cs' i (by simp)) (cs' k (by simp)) hx';have pe:=gI hp A t0 (by simp) (by simp);have pf:=gI hp A t1 (by simp) (by simp);have o0:=iN hp t0.kd (gy t0) y0;have o0':=iN hp t0.kd (gy t0) y0';have o1:=iN hp t1.kd (gy t1) y1;have o1':=iN hp t1.kd (gy t1) y1';rw[vK rfl,vK rfl,e0,e1,e2,b0,b1,<- hx,<- hx']at hd;unfold f7 crsE aE at hd;dsimp only at hd;simp only[ba,bp]at hd;rw[<- pe.1,<- pe.2,<- pf.1,<- pf.2]at hd;rw[<- pe.1,<- pe.2]at d0';rw[<- pf.1,<- pf.2]at d1';have hi:=n6 hp n1;have em:=mP (n8 hp) (pinP l T bs j0 i) (pinP l T bs j1 k);rw[em]at hi
  have xx:aa hp x.1=aa hp x'.1/\aa hp x.2=aa hp x'.2:=by
   clear em o0 o0' o1 o1' ce ce' y0 y0' y1 y1' y2 y2'
   revert hi d0 d1 d0' d1' hd
   generalize aa hp (eY (az (pinP l T bs j0 i) (pinP l T bs j1 k)))=I;generalize aa hp (pinP l T bs j0 i).1=p1;generalize aa hp (pinP l T bs j0 i).2=p2;generalize aa hp (pinP l T bs j1 k).1=q1;generalize aa hp (pinP l T bs j1 k).2=q2;generalize aa hp x.1=u1;generalize aa hp x.2=u2;generalize aa hp x'.1=v1;generalize aa hp x'.2=v2;intro d0 d1 d0' d1' hd hi;have dt:(q1-p1)*(u1-p1)+(q2-p2)*(u2-p2)=(q1-p1)*(v1-p1)+(q2-p2)*(v2-p2):=IK hp (by rw[Ec,Ec,d0,d1,d0',d1']);have hi2:I*((q1-p1)*(q1-p1)+(q2-p2)*(q2-p2))=1:=by rw[Ja];exact hi
   obtain⟨f1,f2⟩:=zN hi2 dt hd;clear dt hi2 hi hd d0 d1 d0' d1';constructor
   ·clear f2;grind
   ·clear f1;grind
  intro b hb;rcases List.mem_cons.1 hb with rfl |hb
  ·refine wO hp (ai l j0 b) (ai l j2 b) (ai l j0 b) w1 (o0.1.trans (pe.1.trans o0'.1.symm)) (o0.2.trans (pe.2.trans o0'.2.symm)) ?_ ?_
   ·rw[<- hx,<- hx',xx.1,o0.1,pe.1,o0'.1]
   ·rw[<- hx,<- hx',xx.2,o0.2,pe.2,o0'.2]
  ·rw[List.mem_singleton.1 hb];refine wO hp (ai l j1 k) (ai l j2 k) (ai l j1 k) w2 (o1.1.trans (pf.1.trans o1'.1.symm)) (o1.2.trans (pf.2.trans o1'.2.symm)) ?_ ?_
   ·rw[<- ce.1,<- ce'.1,xx.1,o1.1,pf.1,o1'.1]
   ·rw[<- ce.2,<- ce'.2,xx.2,o1.2,pf.2,o1'.2]
 | @pr i z0 z1 j0 j1 t0 t1 ha =>
  have e0:ah l ⟨2,[i],[z0,z1],0⟩ 0=j0:=ao t0.hj;have e1:ah l ⟨2,[i],[z0,z1],0⟩ 1=j1:=ao t1.hj;have b0:au ⟨2,[i],[z0,z1],0⟩ 0=i:=rfl;obtain⟨n1,w1⟩:=N.n2 rfl;rw[e1]at n1;rw[e1,e0,b0]at w1;have y0:=js z0 (by simp);have y1:=js z1 (by simp);have y0':=js' z0 (by simp);have y1':=js' z1 (by simp);rw[ao t0.hj]at y0 y0';rw[ao t1.hj]at y1 y1';obtain⟨x,hx⟩:∃x:P2 T,x=a6 T (bs.getD i.toNat aS) (aB l i j1.point):=⟨_,rfl⟩
  obtain⟨x',hx'⟩:∃x:P2 T,x=a6 T (ds.getD i.toNat aS) (aB l i j1.point):=⟨_,rfl⟩
  obtain⟨s0,d0⟩:=zT hp t0 t1 ha y0 y1 (cs i (by simp)) hx;obtain⟨s0',d0'⟩:=zT hp t0 t1 ha y0' y1' (cs' i (by simp)) hx';have pe:=gI hp A t0 (by simp) (by simp);have o0:=iN hp t0.kd (gy t0) y0;have o0':=iN hp t0.kd (gy t0) y0'
  have hjb:j1.b∉[i]:=by
   rcases t1.tie with⟨_,hb⟩ |⟨_,hb⟩
   ·exact hb
   ·exact absurd (by simp[ha]) hb
  have qb:=fun pt=>((A z1 (by simp) j1 t1.hj).2 hjb).at (aB l j1.b pt)
  have qe:∀pt,aa hp (an l T bs j1.b pt).1=aa hp (an l T ds j1.b pt).1/\aa hp (an l T bs j1.b pt).2=aa hp (an l T ds j1.b pt).2:=qb;rw[vF rfl,vF rfl,e0,e1,b0,<- hx,<- hx']at hd;unfold co dotE aE at hd;dsimp only at hd;simp only[ba,bp,cC]at hd;rw[<- pe.1,<- pe.2,<- (qe j1.to).1,<- (qe j1.to).2,<- (qe j1.on).1,<- (qe j1.on).2]at hd;rw[<- (qe j1.to).1,<- (qe j1.to).2,<- (qe j1.on).1,<- (qe j1.on).2]at s0';have hi:=n6 hp n1
  have em:aa hp (a7 (an l T bs j1.b j1.on) (an l T bs j1.b j1.to))=(aa hp (an l T bs j1.b j1.to).1-aa hp (an l T bs j1.b j1.on).1)*(aa hp (an l T bs j1.b j1.to).1-aa hp (an l T bs j1.b j1.on).1)+(aa hp (an l T bs j1.b j1.to).2-aa hp (an l T bs j1.b j1.on).2)*(aa hp (an l T bs j1.b j1.to).2-aa hp (an l T bs j1.b j1.on).2):=by
   unfold a7 co dotE aE;dsimp only;simp only[ba,bp,cC]
  rw[em]at hi
  have xx:aa hp x.1=aa hp x'.1/\aa hp x.2=aa hp x'.2:=by
   clear em o0 o0' y0 y0' y1 y1' d0 d0' qb qe
   revert hi s0 s0' hd
   generalize aa hp (eY (a7 (an l T bs j1.b j1.on) (an l T bs j1.b j1.to)))=I;generalize aa hp (pinP l T bs j0 i).1=c1;generalize aa hp (pinP l T bs j0 i).2=c2;generalize aa hp (an l T bs j1.b j1.on).1=p1;generalize aa hp (an l T bs j1.b j1.on).2=p2;generalize aa hp (an l T bs j1.b j1.to).1=q1;generalize aa hp (an l T bs j1.b j1.to).2=q2;generalize aa hp x.1=u1;generalize aa hp x.2=u2;generalize aa hp x'.1=v1;generalize aa hp x'.2=v2;intro s0 s0' hd hi;refine zN hi ?_ ?_
   ·clear s0 s0' hi;grind
   ·clear hd hi;grind
  intro b hb;rw[List.mem_singleton.1 hb];refine wO hp (ai l j0 i) (aB l i j1.point) (ai l j0 i) w1 (o0.1.trans (pe.1.trans o0'.1.symm)) (o0.2.trans (pe.2.trans o0'.2.symm)) ?_ ?_
  ·rw[<- hx,<- hx',xx.1,o0.1,pe.1,o0'.1]
  ·rw[<- hx,<- hx',xx.2,o0.2,pe.2,o0'.2]
 | @rp i z0 z1 j0 j1 t0 t1 ha =>
  have e0:ah l ⟨3,[i],[z0,z1],0⟩ 0=j0:=ao t0.hj;have e1:ah l ⟨3,[i],[z0,z1],0⟩ 1=j1:=ao t1.hj;have b0:au ⟨3,[i],[z0,z1],0⟩ 0=i:=rfl;obtain⟨n1,w1⟩:=N.n3 rfl;rw[e0,e1,b0]at n1;rw[e1,b0]at w1;have y0:=js z0 (by simp);have y1:=js z1 (by simp);have y0':=js' z0 (by simp);have y1':=js' z1 (by simp);rw[ao t0.hj]at y0 y0';rw[ao t1.hj]at y1 y1';have tb:j1.b=i:=(gy t1).resolve_left ha
  have tn:j1.a∉[i]:=by
   rcases t1.tie with⟨e,_⟩ |⟨_,hb⟩
   ·exact absurd e ha
   ·exact hb
  obtain⟨w,hw⟩:∃w:Zq hp×Zq hp,w=(aa hp (an l T bs j1.b j1.to).1-aa hp (an l T bs j1.b j1.on).1,aa hp (an l T bs j1.b j1.to).2-aa hp (an l T bs j1.b j1.on).2):=⟨_,rfl⟩
  obtain⟨w',hw'⟩:∃w:Zq hp×Zq hp,w=(aa hp (an l T ds j1.b j1.to).1-aa hp (an l T ds j1.b j1.on).1,aa hp (an l T ds j1.b j1.to).2-aa hp (an l T ds j1.b j1.on).2):=⟨_,rfl⟩
  obtain⟨d0,c0⟩:=xr hp t0 t1 ha y0 y1 (cs i (by simp)) hw;obtain⟨d0',c0'⟩:=xr hp t0 t1 ha y0' y1' (cs' i (by simp)) hw';have pe:=gI hp A t0 (by simp) (by simp);have o0:=iN hp t0.kd (gy t0) y0;have o0':=iN hp t0.kd (gy t0) y0';have qa:aa hp (an l T bs j1.a j1.point).1=aa hp (an l T ds j1.a j1.point).1/\aa hp (an l T bs j1.a j1.point).2=aa hp (an l T ds j1.a j1.point).2:=((A z1 (by simp) j1 t1.hj).1 tn).at (aB l j1.a j1.point);rw[vl rfl,vl rfl,e0,e1,b0]at hd;unfold co dotE aE at hd;dsimp only at hd;simp only[ba,bp,cC]at hd;have w1e:=congrArg Prod.fst hw;have w2e:=congrArg Prod.snd hw;have w1e':=congrArg Prod.fst hw';have w2e':=congrArg Prod.snd hw';dsimp only at w1e w2e w1e' w2e';rw[<- w1e,<- w2e,<- w1e',<- w2e',<- pe.1,<- pe.2,<- qa.1,<- qa.2]at hd;rw[<- pe.1,<- pe.2,<- qa.1,<- qa.2,<- c0]at c0';have hi:=n6 hp n1
  have em:aa hp (co (aE (an l T bs j1.a j1.point) (pinP l T bs j0 i)) (aE (an l T bs j1.a j1.point) (pinP l T bs j0 i)))=(aa hp (an l T bs j1.a j1.point).1-aa hp (pinP l T bs j0 i).1)*(aa hp (an l T bs j1.a j1.point).1-aa hp (pinP l T bs j0 i).1)+(aa hp (an l T bs j1.a j1.point).2-aa hp (pinP l T bs j0 i).2)*(aa hp (an l T bs j1.a j1.point).2-aa hp (pinP l T bs j0 i).2):=by
   unfold co dotE aE;dsimp only;simp only[ba,bp,cC]
  rw[em]at hi
  have ww:w.1=w'.1/\w.2=w'.2:=by
   clear em o0 o0' y0 y0' y1 y1' d0 d0' c0 w1e w2e w1e' w2e' hw hw'
   revert hi c0' hd
   generalize aa hp (eY (co (aE (an l T bs j1.a j1.point) (pinP l T bs j0 i)) (aE (an l T bs j1.a j1.point) (pinP l T bs j0 i))))=I;generalize aa hp (an l T bs j1.a j1.point).1-aa hp (pinP l T bs j0 i).1=a;generalize aa hp (an l T bs j1.a j1.point).2-aa hp (pinP l T bs j0 i).2=b;generalize w.1=x1;generalize w.2=x2;generalize w'.1=v1;generalize w'.2=v2;intro c0' hd hi;exact zN hi (K9 hd) (SV c0')
  have eto:∀(cs:List Pq) pt,an l T cs j1.b pt=a6 T (cs.getD i.toNat aS) (aB l i pt):=fun cs pt=>by unfold an;rw[tb]
  intro b hb;rw[List.mem_singleton.1 hb];refine wO hp (ai l j0 i) (aB l i j1.to) (aB l i j1.on) w1 (o0.1.trans (pe.1.trans o0'.1.symm)) (o0.2.trans (pe.2.trans o0'.2.symm)) ?_ ?_
  ·rw[<- eto,<- eto,<- eto,<- eto,<- w1e,<- w1e'];exact ww.1
  ·rw[<- eto,<- eto,<- eto,<- eto,<- w2e,<- w2e'];exact ww.2
end
end Go.Lw
namespace Go.Lw
open Lean.Grind (CommRing)
theorem vC{n:Nat}{d X:Int}(hd:d=-1\/d=0\/d=1)(hX:X=d*d)(hn:n=if X=0 then 1 else 2):∃i,i<n/\(if n=1 then 0 else 1-2*(i:Int))=d:=by
 subst hX;rcases hd with rfl |rfl |rfl
 ·rw[if_neg (by decide)]at hn;subst hn;exact⟨1,by decide,by decide⟩
 ·rw[if_pos (by decide)]at hn;subst hn;exact⟨0,by decide,by decide⟩
 ·rw[if_neg (by decide)]at hn;subst hn;exact⟨0,by decide,by decide⟩
theorem P5{ts:LL}{p q:P2 ts}{z z2:Et ts}(hd:ak (az p q)≠0)(hX:¬ak (bg p z q z2)<0):(dc p q z z2).ps.length=if ak (bg p z q z2)=0 then 1 else 2:=by
 unfold dc;rw[if_neg hd,if_neg hX];split <;> rfl
theorem OQ{ts:LL}{p q c:P2 ts}{z:Et ts}(hd:ak (a7 p q)≠0)(hX:ak (aP p q c z) ≠ -1):(dq p q c z).ps.length=if ak (aP p q c z)=0 then 1 else 2:=by
 unfold dq;rw[if_neg hd,if_neg hX];split <;> rfl
theorem JD{ts:LL}(hp:cP ts)(x:Et ts):ak x=-1\/ak x=0\/ak x=1:=(du _ _ hp).cs x
theorem IR{d:Int}(hd:d=-1\/d=0\/d=1):0<=d*d:=by
 rcases hd with rfl |rfl |rfl <;> decide
section
variable{ts T:LL}(L:Lf ts T)
include L
theorem Lf.z(hp:cP ts){u v:Et ts}(h:aa hp u=aa hp v):aa L.pos (aq T u)=aa L.pos (aq T v):=by
 have e1:=(et L.pos).2 ((L.zero _).2 ((fh hp).1 h));rw[L.sub]at e1
 revert e1
 generalize aa L.pos (aq T u)=a;generalize aa L.pos (aq T v)=b;intro e1;grind
theorem Eqp.up{hp:cP ts}{p p':Pq}(n1:Nq ts.length p)(n2:Nq ts.length p')(h:Eqp hp p p'):Eqp L.pos p p':=by
 obtain⟨a1,a2,a3,a4⟩:=n1;obtain⟨b1,b2,b3,b4⟩:=n2;refine⟨?_,?_,?_,?_⟩
 ·rw[<- L.low _ a1,<- L.low _ b1];exact L.z hp h.c
 ·rw[<- L.low _ a2,<- L.low _ b2];exact L.z hp h.s
 ·rw[<- L.low _ a3,<- L.low _ b3];exact L.z hp h.x
 ·rw[<- L.low _ a4,<- L.low _ b4];exact L.z hp h.y
theorem Lf.trans{U:LL}(M:Lf T U):Lf ts U:=by
 have e:∀y:Et ts,aq U (aq T y)=aq U y:=fun y=>by
  show aq U (dE T (sX y))=dE U (sX y);exact M.low _ (le_trans (di _ _).le (Nat.pow_le_pow_right oz L.len))
 have hm:Hm (fun y:Et ts=>aa M.pos (aq U (aq T y))):=by
  refine⟨fun x y=>?_,fun x y=>?_,fun x=>?_,?_,fun x hx=>?_,fun x=>?_⟩
  ·show aa M.pos (aq U (aq T (x+y)))=_;rw[L.ad,M.ad,cC]
  ·show aa M.pos (aq U (aq T (x*y)))=_;rw[L.mu,M.mu,ba]
  ·have h:=M.z L.pos (L.hm.neg x);show aa M.pos (aq U (aq T (-x)))=-aa M.pos (aq U (aq T x));have h2:aa M.pos (aq U (-aq T x))=-aa M.pos (aq U (aq T x)):=M.hm.neg _;rw[<- h2];exact M.z L.pos (L.hm.neg x)
  ·have h:=M.z L.pos (u:=aq T 1) (v:=1) L.hm.one;show aa M.pos (aq U (aq T 1))=1;rw[h];exact M.hm.one
  ·have h := M.z L.pos (u := aq T (iE x)*aq T x) (v := 1) (by rw[ba];exact L.hm.inv x hx);rw[M.mu,ba]at h;exact h.trans M.hm.one
  ·show aa M.pos (aq U (aq T x))=0↔_;have h:=M.hm.zero (aq T x);rw[L.sg]at h;exact h
 refine⟨M.pos,?_,fun l h=>?_,fun q=>?_,le_trans L.len M.len,fun y=>?_,fun x y=>?_,fun x y=>?_⟩
 ·have e2 : (fun y : Et ts => aa M.pos (aq U (aq T y))) = fun y => aa M.pos (aq U y) := funext fun y => by rw [e]
  rw[<- e2];exact hm
 ·rw[<- e,L.low l h];exact M.low l (le_trans h (Nat.pow_le_pow_right oz L.len))
 ·rw[<- e,L.q,M.q]
 ·rw[<- e,M.sg,L.sg]
 ·rw[<- e,<- e,<- e,L.ad,M.ad]
 ·rw[<- e,<- e,<- e,L.mu,M.mu]
end
theorem Gt{n m:Nat}{p:Pq}(h:Nq n p)(hm:n<=m):Nq m p:=by
 have h2:2^n<=2^m:=Nat.pow_le_pow_right oz hm;exact⟨le_trans h.1 h2,le_trans h.2.1 h2,le_trans h.2.2.1 h2,le_trans h.2.2.2 h2⟩
theorem PI{ts:LL}(hp:cP ts){p q p' q':P2 ts}(h1:aa hp p.1=aa hp p'.1)(h2:aa hp p.2=aa hp p'.2)(h3:aa hp q.1=aa hp q'.1)(h4:aa hp q.2=aa hp q'.2):aa hp (az p q)=aa hp (az p' q'):=by
 have a:=mP (n8 hp) p q;have b:=mP (n8 hp) p' q';rw[a,b,h1,h2,h3,h4]
theorem ow{ts:LL}(hp:cP ts)(p q:P2 ts):aa hp (co (aE p q) (aE p q))=(aa hp p.1-aa hp q.1)*(aa hp p.1-aa hp q.1)+(aa hp p.2-aa hp q.2)*(aa hp p.2-aa hp q.2):=by
 unfold co dotE aE;dsimp only;simp only[ba,bp,cC]
section
variable{l:Li}{a:As}{r:Nat}(tw:Tw (llq a.rs) r){ds:List Pq}
include tw
theorem VK{g:Gr}(hg:DyK l g)(hli:aO l=0){x:Tn}(he:sL l a g x=0)(A:r8 l tw.pos g (aC a) ds)
  (js:∀z∈g.jo,JH l (llq a.rs) ds (l.jo.getD z.toNat default)) (cs:∀b∈g.bo,CH (llq a.rs) (ds.getD b.toNat aS)) :
  (∃s∈fO l a g x,s.mode=ak (cV l (llq a.rs) ds g))/\NDg l (llq a.rs) ds g:=by
 have hp:=tw.pos;have hsq:=Ai hp hg js cs;have hδ:=JD hp (cV l (llq a.rs) ds g)
 have hrad:aa hp (gh l a g)=aa hp (iX l (llq a.rs) ds g):=by
  have h:=pY (kG hp) (l:=l) (g:=g) (bs:=ds) (bs':=aC a);simp only[cR]at h;rw[mS];cases hg with
  |drv t d0 hd hb=>rfl
  | @rrr i k z0 z1 z2 j0 j1 j2 ne t0 t1 h0 h2 kd tie =>
   have e0:ah l ⟨1,[i,k],[z0,z1,z2],0⟩ 0=j0:=ao t0.hj;have e1:ah l ⟨1,[i,k],[z0,z1,z2],0⟩ 1=j1:=ao t1.hj;refine h (fun _=>?_) (fun _=>?_) (fun h=>absurd h (by simp)) (fun _ h=>absurd rfl h)
   ·rw[e0];exact gI hp A t0 (by simp) (by simp[au])
   ·rw[e1];exact gI hp A t1 (by simp) (by simp[au])
  | @pr i z0 z1 j0 j1 t0 t1 ha =>
   have e0:ah l ⟨2,[i],[z0,z1],0⟩ 0=j0:=ao t0.hj;have e1:ah l ⟨2,[i],[z0,z1],0⟩ 1=j1:=ao t1.hj;refine h (fun _=>?_) (fun h=>absurd h (by simp)) (fun _ pt=>?_) (fun _ _ h=>absurd rfl h)
   ·rw[e0];exact gI hp A t0 (by simp) (by simp[au])
   ·rw[e1]
    have hjb:j1.b∉[i]:=by
     rcases t1.tie with⟨_,hb⟩ |⟨_,hb⟩
     ·exact hb
     ·exact absurd (by simp[ha]) hb
    exact((A z1 (by simp) j1 t1.hj).2 hjb).at _
  | @rp i z0 z1 j0 j1 t0 t1 ha =>
   have e0:ah l ⟨3,[i],[z0,z1],0⟩ 0=j0:=ao t0.hj;have e1:ah l ⟨3,[i],[z0,z1],0⟩ 1=j1:=ao t1.hj;refine h (fun _=>?_) (fun h=>absurd h (by simp)) (fun h=>absurd h (by simp)) (fun _ _ _ pt=>?_)
   ·rw[e0];exact gI hp A t0 (by simp) (by simp[au])
   ·rw[e1]
    have tn:j1.a∉[i]:=by
     rcases t1.tie with⟨e,_⟩ |⟨_,hb⟩
     ·exact absurd e ha
     ·exact hb
    exact((A z1 (by simp) j1 t1.hj).1 tn).at _
 have hX:ak (gh l a g)=ak (cV l (llq a.rs) ds g)*ak (cV l (llq a.rs) ds g):=by
  rw[jD hp hrad,<- jD hp hsq,Lr hp]
 generalize hdl:ak (cV l (llq a.rs) ds g)=δ at hδ hX ⊢;have hnn:=IR hδ;cases hg with
 | @drv b z d j dr t d0 hd hb =>
  have e:ah l ⟨0,[b],[z],d⟩ 0=j:=ao t.hj;refine⟨?_,fun h=>absurd h (by simp),fun h=>absurd h (by simp),fun h=>absurd h (by simp)⟩;have he:(kA l a b (ah l ⟨0,[b],[z],d⟩ 0) x).2=0:=he;unfold kA at he;split at he
  ·rename_i h;exact absurd he h
  ·rename_i h;refine⟨⟨llq a.rs,[ku l a b (ah l ⟨0,[b],[z],d⟩ 0) x],1⟩,?_,?_⟩
   ·show _∈iY l a b (ah l ⟨0,[b],[z],d⟩ 0) x;unfold iY;rw[if_neg h];exact List.mem_singleton.2 rfl
   ·show(1:Int)=δ;rw[<- hdl];have e1:cV l (llq a.rs) ds ⟨0,[b],[z],d⟩=1:=rfl;rw[e1];exact(du _ _ hp).one.symm
 | @rrr i k z0 z1 z2 j0 j1 j2 ne t0 t1 h0 h2 kd tie =>
  have e0:ah l ⟨1,[i,k],[z0,z1,z2],0⟩ 0=j0:=ao t0.hj;have e1:ah l ⟨1,[i,k],[z0,z1,z2],0⟩ 1=j1:=ao t1.hj;have e2:ah l ⟨1,[i,k],[z0,z1,z2],0⟩ 2=j2:=ao h2;have b0:au ⟨1,[i,k],[z0,z1,z2],0⟩ 0=i:=rfl;have b1:au ⟨1,[i,k],[z0,z1,z2],0⟩ 1=k:=rfl;have he:(iA l a i k (ah l ⟨1,[i,k],[z0,z1,z2],0⟩ 0) (ah l ⟨1,[i,k],[z0,z1,z2],0⟩ 1) (ah l ⟨1,[i,k],[z0,z1,z2],0⟩ 2)).2=0:=he;rw[e0,e1,e2]at he
  have hr1:gh l a ⟨1,[i,k],[z0,z1,z2],0⟩=bg (ax l a j0 i) (qE (aZ (ai l j2 i) (ai l j0 i))) (ax l a j1 k) (qE (aZ (ai l j2 k) (ai l j1 k))):=by
   rw[mS,G2 rfl,e0,e1,e2,b0,b1,<- jT,<- jT]
  rw[hr1]at hX;have y0:=js z0 (by simp);have y1:=js z1 (by simp);have y2:=js z2 (by simp);rw[ao t0.hj]at y0;rw[ao t1.hj]at y1;rw[ao h2]at y2;obtain⟨_,d0,d1⟩:=uS hp t0 t1 ne kd tie y0 y1 y2 (cs i (by simp)) (cs k (by simp)) rfl;have pe:=gI hp A t0 (by simp) (by simp);have pf:=gI hp A t1 (by simp) (by simp);rw[<- jT]at pe pf;unfold iA at he;split at he
  ·exact absurd he (by decide)
  ·rename_i hz;obtain⟨w1,w2⟩:=rj (Bool.eq_false_iff.2 hz);split at he
   ·rename_i hc;exact absurd he hc
   ·rename_i hc;have hc:=Decidable.not_not.1 hc
    have hd2:ak (az (ax l a j0 i) (ax l a j1 k))≠0:=by
     intro h9;unfold eL kc at hc;rw[if_pos h9]at hc;have hs:ak ((ax l a j0 i).1-(ax l a j1 k).1)=0/\ak ((ax l a j0 i).2-(ax l a j1 k).2)=0:=Ub hp h9;have f1:=(fh hp).2 hs.1;have f2:=(fh hp).2 hs.2
     have ez:aa hp (qE (aZ (ai l j2 i) (ai l j0 i)))=aa hp (qE (aZ (ai l j2 k) (ai l j1 k))):=by
      rw[<- d0,<- d1,<- pe.1,<- pe.2,<- pf.1,<- pf.2,f1,f2]
     have hq:0<=bJ (bw (ai l j2 i) (ai l j0 i)) (bw (ai l j2 i) (ai l j0 i)):=Rat.add_nonneg (mh _) (mh _)
     have hq1:0<aZ (ai l j2 i) (ai l j0 i):=by
      rcases Rat.le_iff_lt_or_eq.1 hq with g |g
      ·exact g
      ·exact absurd g.symm w1
     have hz0:0<ak (qE (aZ (ai l j2 i) (ai l j0 i)):Et (llq a.rs)):=by rw[vU,tE hq1];decide
     rw[if_pos ⟨(fh hp).1 ez,hz0⟩]at hc;exact absurd hc (by decide)
    have hlen:=P5 (z:=qE (aZ (ai l j2 i) (ai l j0 i))) (z2:=qE (aZ (ai l j2 k) (ai l j1 k))) hd2 (by rw[hX];omega);obtain⟨m,hm,hmo⟩:=vC hδ hX hlen;refine⟨⟨iy (dc (ax l a j0 i) (ax l a j1 k) (qE (aZ (ai l j2 i) (ai l j0 i))) (qE (aZ (ai l j2 k) (ai l j1 k)))) [⟨ai l j0 i,P2.l (ax l a j0 i),ai l j2 i⟩,⟨ai l j1 k,P2.l (ax l a j1 k),ai l j2 k⟩] m,?_,hmo⟩,⟨fun _=>?_,fun h=>absurd h (by simp),fun h=>absurd h (by simp)⟩⟩
    ·show _∈iD l a i k (ah l ⟨1,[i,k],[z0,z1,z2],0⟩ 0) (ah l ⟨1,[i,k],[z0,z1,z2],0⟩ 1) (ah l ⟨1,[i,k],[z0,z1,z2],0⟩ 2);rw[e0,e1,e2];unfold iD;rw[if_neg hz,if_neg (by rw[hc];simp)];exact List.mem_map.2 ⟨m,List.mem_range.2 hm,rfl⟩
    ·rw[e0,e1,e2,b0,b1];refine⟨?_,w1,w2⟩;rw[<- jD hp (PI hp pe.1 pe.2 pf.1 pf.2)];exact hd2
 | @pr i z0 z1 j0 j1 t0 t1 ha =>
  have e0:ah l ⟨2,[i],[z0,z1],0⟩ 0=j0:=ao t0.hj;have e1:ah l ⟨2,[i],[z0,z1],0⟩ 1=j1:=ao t1.hj;have b0:au ⟨2,[i],[z0,z1],0⟩ 0=i:=rfl;have he:(jx l a i (ah l ⟨2,[i],[z0,z1],0⟩ 0) (ah l ⟨2,[i],[z0,z1],0⟩ 1)).2=0:=he;rw[e0,e1]at he
  have hr1:gh l a ⟨2,[i],[z0,z1],0⟩=aP (aA l a j1.b j1.on) (aA l a j1.b j1.to) (ax l a j0 i) (qE (aZ (aB l i j1.point) (ai l j0 i))):=by
   rw[mS,GZ rfl,e0,e1,b0,<- jT,<- eO,<- eO]
  rw[hr1]at hX
  have hjb:j1.b∉[i]:=by
   rcases t1.tie with⟨_,hb⟩ |⟨_,hb⟩
   ·exact hb
   ·exact absurd (by simp[ha]) hb
  have qe:∀pt,aa hp (an l (llq a.rs) (aC a) j1.b pt).1=aa hp (an l (llq a.rs) ds j1.b pt).1/\aa hp (an l (llq a.rs) (aC a) j1.b pt).2=aa hp (an l (llq a.rs) ds j1.b pt).2:=fun pt=>((A z1 (by simp) j1 t1.hj).2 hjb).at _
  unfold jx at he;split at he
  ·exact absurd he (by decide)
  ·rename_i hz;have w1:=ru (Bool.eq_false_iff.2 hz);split at he
   ·rename_i hc;exact absurd he hc
   ·rename_i hc;have hc:=Decidable.not_not.1 hc
    have hd2:ak (a7 (aA l a j1.b j1.on) (aA l a j1.b j1.to))≠0:=by
     intro h9;unfold eP at hc;rw[if_pos h9]at hc;exact absurd hc (by decide)
    have hlen:=OQ (c:=ax l a j0 i) (z:=qE (aZ (aB l i j1.point) (ai l j0 i))) hd2 (by rw[hX];omega);obtain⟨m,hm,hmo⟩:=vC hδ hX hlen;refine⟨⟨iy (dq (aA l a j1.b j1.on) (aA l a j1.b j1.to) (ax l a j0 i) (qE (aZ (aB l i j1.point) (ai l j0 i)))) [⟨ai l j0 i,P2.l (ax l a j0 i),aB l i j1.point⟩] m,?_,hmo⟩,⟨fun h=>absurd h (by simp),fun _=>?_,fun h=>absurd h (by simp)⟩⟩
    ·show _∈iC l a i (ah l ⟨2,[i],[z0,z1],0⟩ 0) (ah l ⟨2,[i],[z0,z1],0⟩ 1);rw[e0,e1];unfold iC;rw[if_neg hz,if_neg (by rw[hc];simp)];exact List.mem_map.2 ⟨m,List.mem_range.2 hm,rfl⟩
    ·rw[e0,e1,b0];refine⟨?_,w1⟩
     have e:aa hp (a7 (an l (llq a.rs) ds j1.b j1.on) (an l (llq a.rs) ds j1.b j1.to))=aa hp (a7 (aA l a j1.b j1.on) (aA l a j1.b j1.to)):=by
      refine(ow hp (an l (llq a.rs) ds j1.b j1.to) (an l (llq a.rs) ds j1.b j1.on)).trans (Eq.trans ?_ (ow hp (aA l a j1.b j1.to) (aA l a j1.b j1.on)).symm);rw[eO,eO,(qe j1.on).1,(qe j1.on).2,(qe j1.to).1,(qe j1.to).2]
     rw[jD hp e];exact hd2
 | @rp i z0 z1 j0 j1 t0 t1 ha =>
  have e0:ah l ⟨3,[i],[z0,z1],0⟩ 0=j0:=ao t0.hj;have e1:ah l ⟨3,[i],[z0,z1],0⟩ 1=j1:=ao t1.hj;have b0:au ⟨3,[i],[z0,z1],0⟩ 0=i:=rfl;have he:(iG l a i (ah l ⟨3,[i],[z0,z1],0⟩ 0) (ah l ⟨3,[i],[z0,z1],0⟩ 1)).2=0:=he;rw[e0,e1]at he
  have hr1:gh l a ⟨3,[i],[z0,z1],0⟩=bm l a i j0 j1:=by
   rw[mS,DU rfl,e0,e1,b0,<- jT,<- eO];rfl
  rw[hr1]at hX;have tb:j1.b=i:=(gy t1).resolve_left ha
  have tn:j1.a∉[i]:=by
   rcases t1.tie with⟨e,_⟩ |⟨_,hb⟩
   ·exact absurd e ha
   ·exact hb
  have pe:=gI hp A t0 (by simp) (by simp);have qa:aa hp (an l (llq a.rs) (aC a) j1.a j1.point).1=aa hp (an l (llq a.rs) ds j1.a j1.point).1/\aa hp (an l (llq a.rs) (aC a) j1.a j1.point).2=aa hp (an l (llq a.rs) ds j1.a j1.point).2:=((A z1 (by simp) j1 t1.hj).1 tn).at _;unfold iG at he;split at he
  ·exact absurd he (by decide)
  ·rename_i hz;have hneg:¬ ak (bm l a i j0 j1) < 0:=by rw [hX]; omega
   have hd:=pa tw hneg hz
   have hN3:NDg l (llq a.rs) ds ⟨3,[i],[z0,z1],0⟩:=by
    refine⟨fun h=>absurd h (by simp),fun h=>absurd h (by simp),fun _=>?_⟩;rw[e0,e1,b0];refine⟨?_,rm hli t1.hj (by rw[t1.kd];decide) tb⟩
    have e:aa hp (co (aE (an l (llq a.rs) ds j1.a j1.point) (pinP l (llq a.rs) ds j0 i)) (aE (an l (llq a.rs) ds j1.a j1.point) (pinP l (llq a.rs) ds j0 i)))=aa hp (bX l a i j0 j1):=by
     refine(ow hp (an l (llq a.rs) ds j1.a j1.point) (pinP l (llq a.rs) ds j0 i)).trans (Eq.trans ?_ (ow hp (aA l a j1.a j1.point) (ax l a j0 i)).symm);rw[eO,jT,pe.1,pe.2,qa.1,qa.2]
    rw[jD hp e];exact hd
   refine⟨?_,hN3⟩
   have hS:fO l a ⟨3,[i],[z0,z1],0⟩ x=gK l a i j0 j1:=by
    show gK l a i (ah l ⟨3,[i],[z0,z1],0⟩ 0) (ah l ⟨3,[i],[z0,z1],0⟩ 1)=_;rw[e0,e1]
   rw[hS];unfold gK;rw[if_neg hz,if_neg hneg]
   by_cases h3:0<ak (bm l a i j0 j1)
   ·rw[if_pos h3];obtain⟨m,hm,hmo⟩:=vC (n:=2) hδ hX (by rw[if_neg oz]);exact⟨_,List.mem_map.2 ⟨m,List.mem_range.2 hm,rfl⟩,hmo⟩
   ·rw[if_neg h3];obtain⟨m,hm,hmo⟩:=vC (n:=1) hδ hX (by rw[if_pos oz]);exact⟨_,List.mem_map.2 ⟨m,List.mem_range.2 hm,rfl⟩,hmo⟩
end
section
variable{l:Li}{a:As}{r:Nat}(tw:Tw (llq a.rs) r)(hN:∀p∈aC a,Nq (llq a.rs).length p){ds:List Pq}(hD:∀p∈ds,Nq 0 p)
include tw hN hD
theorem L3{g:Gr}(hg:DyK l g)(hgb:∀b∈g.bo,0<=b/\b.toNat<(aC a).length)(hli:aO l=0){x:Tn}(he:sL l a g x=0)(A:r8 l tw.pos g (aC a) ds)
  (js:∀z∈g.jo,JH l (llq a.rs) ds (l.jo.getD z.toNat default)) (cs:∀b∈g.bo,CH (llq a.rs) (ds.getD b.toNat aS))
  (dr:g.kind=0->dE (llq a.rs) (ds.getD (au g 0).toNat aS).c=qE (dM x.half x.t.q)/\dE (llq a.rs) (ds.getD (au g 0).toNat aS).s=qE (dP x.half x.t.q)) :
  ∃s∈fO l a g x,∃L:Lf (llq a.rs) s.ts,∀b∈g.bo,Eqp L.pos ((a8 (aC a) g.bo s.ps).getD b.toNat aS) (ds.getD b.toNat aS):=by
 have hp:=tw.pos;obtain⟨⟨s,hs,hm⟩,N⟩:=VK tw hg hli he A js cs;have H:=Uq tw hN hg hgb hli hs;have Dt:=K7 tw hN hg hgb hli hs;have L:=Dt.lf;have nd:∀i,Nq (llq a.rs).length (ds.getD i aS):=fun i=>Gt (xf hD i) (zero_le _)
 have na:∀i,Nq (llq a.rs).length ((aC a).getD i aS):=fun i=>xf hN i
 have sm:∀b:Int,el ds ds (llq a.rs).length b:=fun b=>⟨rfl,nd _⟩
 have hsq:=Ai hp hg js cs;refine⟨s,hs,L,?_⟩;have js2:∀z∈g.jo,JH l s.ts ds (l.jo.getD z.toNat default):=fun z hz=>L.jh (sm _) (sm _) (js z hz)
 have cs2:∀b∈g.bo,CH s.ts (ds.getD b.toNat aS):=fun b hb=>L.ch (nd _) (cs b hb)
 have zd:=Sk L (l:=l) (g:=g) (bs:=ds) (bs':=ds) (fun _=>⟨sm _,sm _⟩) (fun _=>⟨sm _,sm _⟩) (fun _=>sm _);have zq:=QA L (k:=g.kind) zd;have zr:=pY L (l:=l) (g:=g) (bs:=ds) (bs':=ds) (fun _=>L.pinP _ (sm _) (sm _)) (fun _=>L.pinP _ (sm _) (sm _)) (fun _ pt=>L.pt l (sm _) pt) (fun _ _ _ pt=>L.pt l (sm _) pt);have gn:∀b:Int,0<=b->b∉g.bo->(a8 (aC a) g.bo s.ps).getD b.toNat aS=(aC a).getD b.toNat aS:=fun b h0 hb=>KL (fun y hy=>(hgb y hy).1) hb h0
 have A2:r8 l L.pos g ds (a8 (aC a) g.bo s.ps):=by
  intro z hz j hj;obtain⟨i1,i2,_⟩:=dw hli hj;have i1:=dz i1;have i2:=dz i2;obtain⟨a1,a2⟩:=A z hz j hj;refine⟨fun h=>?_,fun h=>?_⟩
  ·rw[gn _ i1.1 h];have e:=Eqp.up L (na _) (nd _) (a1 h);exact⟨e.c.symm,e.s.symm,e.x.symm,e.y.symm⟩
  ·rw[gn _ i2.1 h];have e:=Eqp.up L (na _) (nd _) (a2 h);exact⟨e.c.symm,e.s.symm,e.x.symm,e.y.symm⟩
 have N2:NDg l s.ts ds g:=by
  refine⟨fun h=>⟨?_,(N.n1 h).2⟩,fun h=>⟨?_,(N.n2 h).2⟩,fun h=>⟨?_,(N.n3 h).2⟩⟩
  ·have p0:=L.pinP (l:=l) (bs:=ds) (bs':=ds) (j:=ah l g 0) (au g 0) (sm _) (sm _);have p1:=L.pinP (l:=l) (bs:=ds) (bs':=ds) (j:=ah l g 1) (au g 1) (sm _) (sm _)
   have e:aa L.pos (az (pinP l s.ts ds (ah l g 0) (au g 0)) (pinP l s.ts ds (ah l g 1) (au g 1)))=aa L.pos (aq s.ts (az (pinP l (llq a.rs) ds (ah l g 0) (au g 0)) (pinP l (llq a.rs) ds (ah l g 1) (au g 1)))):=by
    have m1:=mP (n8 L.pos) (pinP l s.ts ds (ah l g 0) (au g 0)) (pinP l s.ts ds (ah l g 1) (au g 1));have m2:=mP L.hm (pinP l (llq a.rs) ds (ah l g 0) (au g 0)) (pinP l (llq a.rs) ds (ah l g 1) (au g 1));rw[m1,m2,p0.1,p0.2,p1.1,p1.2]
   rw[jD L.pos e,L.sg];exact(N.n1 h).1
  ·have qb:=fun pt=>L.pt l (sm (ah l g 1).b) pt
   have e:aa L.pos (a7 (an l s.ts ds (ah l g 1).b (ah l g 1).on) (an l s.ts ds (ah l g 1).b (ah l g 1).to))=aa L.pos (aq s.ts (a7 (an l (llq a.rs) ds (ah l g 1).b (ah l g 1).on) (an l (llq a.rs) ds (ah l g 1).b (ah l g 1).to))):=by
    refine(ow L.pos (an l s.ts ds (ah l g 1).b (ah l g 1).to) (an l s.ts ds (ah l g 1).b (ah l g 1).on)).trans ?_;rw[(qb _).1,(qb _).2,(qb _).1,(qb _).2];unfold a7 co dotE aE;dsimp only;simp only[L.sub,L.mul,L.add]
   rw[jD L.pos e,L.sg];exact(N.n2 h).1
  ·have qa:=L.pt l (sm (ah l g 1).a) (ah l g 1).point;have p0:=L.pinP (l:=l) (bs:=ds) (bs':=ds) (j:=ah l g 0) (au g 0) (sm _) (sm _)
   have e:aa L.pos (co (aE (an l s.ts ds (ah l g 1).a (ah l g 1).point) (pinP l s.ts ds (ah l g 0) (au g 0))) (aE (an l s.ts ds (ah l g 1).a (ah l g 1).point) (pinP l s.ts ds (ah l g 0) (au g 0)))) =
     aa L.pos (aq s.ts (co (aE (an l (llq a.rs) ds (ah l g 1).a (ah l g 1).point) (pinP l (llq a.rs) ds (ah l g 0) (au g 0))) (aE (an l (llq a.rs) ds (ah l g 1).a (ah l g 1).point) (pinP l (llq a.rs) ds (ah l g 0) (au g 0))))):=by
    refine(ow L.pos (an l s.ts ds (ah l g 1).a (ah l g 1).point) (pinP l s.ts ds (ah l g 0) (au g 0))).trans ?_;rw[qa.1,qa.2,p0.1,p0.2];unfold co dotE aE;dsimp only;simp only[L.sub,L.mul,L.add]
   rw[jD L.pos e,L.sg];exact(N.n3 h).1
 have hdt:aa L.pos (cV l s.ts ds g)=aa L.pos (cV l s.ts (a8 (aC a) g.bo s.ps) g):=by
  refine Uh L.pos (k:=g.kind) ?_ ?_
  ·rw[jD L.pos zd,L.sg,Dt.sg,hm]
  ·rw[zq,Ai L.pos hg H.1.js H.1.cs,Dt.rd];refine(L.z hp hsq).trans ?_;refine L.z hp ?_;have h:=pY (kG hp) (l:=l) (g:=g) (bs:=ds) (bs':=aC a);simp only[cR]at h;rw[mS];refine(h (fun hk=>?_) (fun hk=>?_) (fun hk pt=>?_) (fun h0 h1 h2 pt=>?_)).symm
   ·cases hg with
    |drv t d0 hd hb=>exact absurd rfl hk
    | @rrr i k z0 z1 z2 j0 j1 j2 ne t0 t1 h0 h2 kd tie =>
     have e0:ah l ⟨1,[i,k],[z0,z1,z2],0⟩ 0=j0:=ao t0.hj;rw[e0];exact gI hp A t0 (by simp) (by simp[au])
    | @pr i z0 z1 j0 j1 t0 t1 ha =>
     have e0:ah l ⟨2,[i],[z0,z1],0⟩ 0=j0:=ao t0.hj;rw[e0];exact gI hp A t0 (by simp) (by simp[au])
    | @rp i z0 z1 j0 j1 t0 t1 ha =>
     have e0:ah l ⟨3,[i],[z0,z1],0⟩ 0=j0:=ao t0.hj;rw[e0];exact gI hp A t0 (by simp) (by simp[au])
   ·cases hg with
    |drv t d0 hd hb=>exact absurd hk (by simp)
    | @rrr i k z0 z1 z2 j0 j1 j2 ne t0 t1 h0 h2 kd tie =>
     have e1:ah l ⟨1,[i,k],[z0,z1,z2],0⟩ 1=j1:=ao t1.hj;rw[e1];exact gI hp A t1 (by simp) (by simp[au])
    |pr t0 t1 ha=>exact absurd hk (by simp)
    |rp t0 t1 ha=>exact absurd hk (by simp)
   ·cases hg with
    |drv t d0 hd hb=>exact absurd hk (by simp)
    |rrr ne t0 t1 h0 h2 kd tie=>exact absurd hk (by simp)
    | @pr i z0 z1 j0 j1 t0 t1 ha =>
     have e1:ah l ⟨2,[i],[z0,z1],0⟩ 1=j1:=ao t1.hj;rw[e1]
     have hjb:j1.b∉[i]:=by
      rcases t1.tie with⟨_,hb⟩ |⟨_,hb⟩
      ·exact hb
      ·exact absurd (by simp[ha]) hb
     exact((A z1 (by simp) j1 t1.hj).2 hjb).at _
    |rp t0 t1 ha=>exact absurd hk (by simp)
   ·cases hg with
    |drv t d0 hd hb=>exact absurd rfl h0
    |rrr ne t0 t1 h0 h2 kd tie=>exact absurd rfl h1
    |pr t0 t1 ha=>exact absurd rfl h2
    | @rp i z0 z1 j0 j1 t0 t1 ha =>
     have e1:ah l ⟨3,[i],[z0,z1],0⟩ 1=j1:=ao t1.hj;rw[e1]
     have tn:j1.a∉[i]:=by
      rcases t1.tie with⟨e,_⟩ |⟨_,hb⟩
      ·exact absurd e ha
      ·exact hb
     exact((A z1 (by simp) j1 t1.hj).1 tn).at _
 have E:=JI L.pos hg A2 N2 js2 cs2 H.1.js H.1.cs hdt (fun hk=>by
  obtain⟨c1,c2⟩:=H.2 hk;obtain⟨c3,c4⟩:=dr hk;obtain⟨n1,n2,_⟩:=nd (au g 0).toNat;rw[c1,c2,<- L.low _ n1,<- L.low _ n2,c3,c4,L.q,L.q];exact⟨rfl,rfl⟩)
 intro b hb;have e:=E b hb;exact⟨e.c.symm,e.s.symm,e.x.symm,e.y.symm⟩
end
end Go.Lw
namespace Go.Lw
structure R4 where
  c:Rat
  s:Rat
  x:Rat
  y:Rat
instance:Inhabited R4:=⟨⟨0,0,0,0⟩⟩
namespace R4
def pq(b:R4):Pq:=⟨sh 0 (b.c:Rat),sh 0 (b.s:Rat),sh 0 (b.x:Rat),sh 0 (b.y:Rat)⟩
def pl(b:R4):Pl:=⟨b.pq.c.map rt,b.pq.s.map rt,b.pq.x.map rt,b.pq.y.map rt⟩
structure ok(b:R4):Prop where
  c:Qb 1000 b.c
  s:Qb 1000 b.s
  x:Qb 1000 b.x
  y:Qb 1000 b.y
end R4
instance:Inhabited Pse:=⟨⟨default,⟨⟨false,[],[]⟩,⟨false,[],[]⟩⟩⟩⟩
def Pse.r4(p:Pse):R4:=⟨dM p.turn.half p.turn.t.q,dP p.turn.half p.turn.t.q,p.at_.x.q,p.at_.y.q⟩
def mi(bs:List R4):As:=⟨[],bs.map R4.pl,[]⟩
theorem u5{q:Rat}(h:Qb 1000 q):NR ((sh 0 (q:Rat)).map rt) 4000:=by
 have h1:=(oy (n:=0) oz h).mono (f:=4000) oz;refine⟨fun x hx=>?_,?_,by rw[cU];exact h1.cb⟩
 ·obtain⟨p,hp,rfl⟩:=List.mem_map.1 hx
  have:p=q:=by
   unfold sh at hp;split at hp
   ·cases hp
   ·exact List.mem_singleton.1 hp
  rw[this];exact(h.qs oz).ok
 ·rw[length_map];unfold sh;split <;> simp
theorem Tl(q:Rat):bZ 0 ((sh 0 (q:Rat)).map rt)=0:=oP (di 0 q)
theorem R4.ok.nr{b:R4}(h:b.ok):∀x∈b.pl.l,NR x 4000:=by
 intro x hx;simp only[Pl.l,R4.pl,mem_cons,not_mem_nil,or_false]at hx;rcases hx with rfl |rfl |rfl |rfl
 ·exact u5 h.c
 ·exact u5 h.s
 ·exact u5 h.x
 ·exact u5 h.y
theorem Mr(b:R4):bi [] b.pl.l=0:=by
 refine nU (by decide) (fun x hx=>?_);simp only[Pl.l,R4.pl,mem_cons,not_mem_nil,or_false]at hx;rcases hx with rfl |rfl |rfl |rfl <;> exact Tl _
theorem Ml{r:Nat}(hr:r<=5000000000):TR [] r:=⟨fun d hd=>(by cases hd),fun d hd=>(by cases hd),(by decide),⟨1,1,oz,fun d hd=>(by cases hd),Nat.one_le_two_pow,Nat.one_le_two_pow⟩,hr,.inl (by decide)⟩
theorem Me:TR [] 40000:=Ml oz
theorem JL{bs:List R4}(h:∀b∈bs,b.ok)(hl:bs.length<=20):AL (mi bs) :=
 ⟨Me,fun b hb=>by obtain⟨r,hr,rfl⟩:=List.mem_map.1 hb;exact(h r hr).nr,zero_le _,by show(bs.map _).length<=20;rw[length_map];exact hl⟩
theorem Tr{l:Li}(hl:l.ok)(hli:aO l=0){bs:List R4}(h:∀b∈bs,b.ok)(hlen:bs.length=l.bo.length):Good l (mi bs) :=
 ⟨hl,hli,JL h (by have:=(dY hli).2.2.2.1;omega),(by decide:bt []=0),fun b hb=>by obtain⟨r,hr,rfl⟩:=List.mem_map.1 hb;exact Mr r,by show(bs.map _).length=_;rw[length_map,hlen]⟩
theorem wE(x y:Rat):dV [] x y=decide (x=y):=by
 refine decide_eq_decide.2 ?_;show bN ((x:Rat)+-y)=0↔x=y;constructor
 ·intro h;have:=lY h;grind
 ·intro h;subst h;have:x + -x = 0:=by grind
  rw[this];rfl
def uy(b:R4):Bool:=decide (b.c=1)&&decide (b.s=0)&&decide (b.x=0)&&decide (b.y=0)
def kP(l:Li)(ps:List Pse):Bool :=
  decide (aO l=0/\ps.length=l.bo.length)&&(ps.all Pse.ok&&(decide (splitE l=0)&&(uy ((ps.getD 0 default).r4)&&l.jo.all (fun j=>nC l (mi (ps.map Pse.r4)) j))))
def mo(l:Li)(ps:List Pse):List Tn:=l.dv.map (fun d=>(ps.getD d.body.toNat default).turn)
theorem Ln{l:Li}{ps:List Pse}(h:kP l ps=true):aO l=0/\ps.length=l.bo.length/\(∀p∈ps,p.ok=true)/\uy ((ps.getD 0 default).r4)=true/\∀j∈l.jo,nC l (mi (ps.map Pse.r4)) j=true:=by
 unfold kP at h;simp only[and_eq_true,decide_eq_true_eq,all_eq_true]at h;exact⟨h.1.1,h.1.2,h.2.1,h.2.2.2.1,h.2.2.2.2⟩
def l6(s:ByteArray)(n:Int):Bd:=⟨s,[⟨⟨#[97]⟩,rt ((0:Int):Rat),rt ((0:Int):Rat)⟩,⟨⟨#[98]⟩,rt (n:Rat),rt ((0:Int):Rat)⟩]⟩
def fb:Li:=⟨⟨#[102,111,117,114,98,97,114]⟩,[l6 ⟨#[102,114,97,109,101]⟩ 4,l6 ⟨#[99,114,97,110,107]⟩ 3,l6 ⟨#[99,111,117,112,108,101,114]⟩ 5,l6 ⟨#[114,111,99,107,101,114]⟩ 6],
  [⟨⟨#[111]⟩,0,1,0,0,0,0⟩,⟨⟨#[112]⟩,0,2,0,1,1,0⟩,⟨⟨#[113]⟩,0,3,0,0,1,0⟩,⟨⟨#[114]⟩,0,2,1,3,1,0⟩],[⟨⟨#[100]⟩,1⟩]⟩
def t0:Tn:=⟨⟨false,[],[]⟩,false⟩
theorem xF(a b:ByteArray):dS a b=(a.data.toList==b.data.toList):=by
 unfold dS;rw[Go.ByteArray.toList_eq,Go.ByteArray.toList_eq]
theorem QZ:aO fb=0:=by
 have h1:iI fb=0:=by
  unfold iI fm eA gH eg;simp only[xF];decide +kernel
 have h2:eU fb=0:=by
  unfold eU fm fT gH;simp only[xF];decide +kernel
 have h3:ir fb=0:=by
  unfold ir fm ek gH;simp only[xF];decide +kernel
 unfold aO;rw[h1,h2,h3];decide +kernel
theorem RZ{s:ByteArray}(hs:s.size<=281474976710656){n:Int}(hn:-9223372036854775808<=n/\n<=9223372036854775807) :
  (l6 s n).name.size<=281474976710656/\(l6 s n).pts.length<=281474976710656/\∀m∈(l6 s n).pts,m.name.size<=281474976710656/\m.x.wok/\m.y.wok:=by
 have h0:(rt ((0:Int):Rat)).ok:=(mG oz).ok;have h1:(rt (n:Rat)).ok:=(mG hn).ok;refine⟨hs,by show 2<=_;omega,fun m hm=>?_⟩;simp only[l6,mem_cons,not_mem_nil,or_false]at hm;rcases hm with rfl |rfl
 ·exact⟨by show 1<=_;omega,h0.wok,h0.wok⟩
 ·exact⟨by show 1<=_;omega,h1.wok,h0.wok⟩
theorem S9:fb.okw:=by
 refine⟨by decide,fun b hb=>?_,fun j hj=>?_,fun d hd=>?_,by decide,by decide,by decide⟩
 ·simp only[fb,mem_cons,not_mem_nil,or_false]at hb;rcases hb with rfl |rfl |rfl |rfl <;> exact RZ (by decide) oz
 ·simp only[fb,mem_cons,not_mem_nil,or_false]at hj;rcases hj with rfl |rfl |rfl |rfl <;> decide
 ·simp only[fb,mem_cons,not_mem_nil,or_false]at hd;rcases hd with rfl;decide
theorem Hx:fb.ok:=Gx (by decide +kernel) S9
def sQ:Pl:=⟨[rt ((1:Int):Rat)],[],[],[]⟩
def tp:Pl:=⟨[],[],[],[]⟩
def d6:As:=⟨[],[sQ,sQ,tp,tp],[]⟩
def jO:Jt:=⟨⟨#[112]⟩,0,2,0,1,1,0⟩
def jF:Jt:=⟨⟨#[113]⟩,0,3,0,0,1,0⟩
def jL:Jt:=⟨⟨#[114]⟩,0,2,1,3,1,0⟩
theorem FH:∃d,eH fb 1=⟨1,[2,3],[1,2,3],d⟩:=by
 have h:(eH fb 1).kind=1/\(eH fb 1).bo=[2,3]/\(eH fb 1).jo=[1,2,3]:=by decide +kernel
 generalize eH fb 1=g at h ⊢;obtain⟨a,b,c,d⟩:=g;obtain⟨rfl,rfl,rfl⟩:=h;exact⟨d,rfl⟩
theorem DY:eJ fb 1 d6 false=0:=by
 unfold eJ jJ;rw[if_neg (by rw[QZ];decide),if_neg (show ¬splitE fb≠0 by decide +kernel),if_neg (show ¬((1:Int)<0\/((splitG fb).length:Int)<=1) by decide +kernel),if_neg (show ¬d6.bs.length≠fb.bo.length by decide +kernel),if_neg (show ¬bt d6.rs≠0 by decide +kernel)];refine qi fun b hb=>?_
 have h:∀b∈cM fb (eH fb 1) false,fZ d6 b=0:=by decide +kernel
 exact h b (wG.1 hb)
theorem TX(x:Tn):kp fb 1 x d6=iA fb d6 2 3 jO jF jL:=by
 obtain⟨d,h⟩:=FH;unfold kp;rw[if_pos DY,h];rfl
def mQ:Mt:=dc (ax fb d6 jO 2) (ax fb d6 jF 3) (qE (aZ (ai fb jL 2) (ai fb jO 2))) (qE (aZ (ai fb jL 3) (ai fb jF 3)))
theorem xH:mQ.ts=[]/\mQ.ps.length=1:=by
 have h1:¬ak (az (ax fb d6 jO 2) (ax fb d6 jF 3))=0:=by decide +kernel
 have h2:¬ak (bg (ax fb d6 jO 2) (qE (aZ (ai fb jL 2) (ai fb jO 2))) (ax fb d6 jF 3) (qE (aZ (ai fb jL 3) (ai fb jF 3))))<0:=by decide +kernel
 have h3:ak (bg (ax fb d6 jO 2) (qE (aZ (ai fb jL 2) (ai fb jO 2))) (ax fb d6 jF 3) (qE (aZ (ai fb jL 3) (ai fb jF 3))))=0:=by decide +kernel
 unfold mQ dc;rw[if_neg h1,if_neg h2,if_pos h3];exact⟨rfl,rfl⟩
def sR:Hd:=⟨ai fb jO 2,P2.l (ax fb d6 jO 2),ai fb jL 2⟩
def vA:Hd:=⟨ai fb jF 3,P2.l (ax fb d6 jF 3),ai fb jL 3⟩
theorem UK:(fS mQ.ts (mQ.ps.getD 0 ([],[])) sR).c=[((-1:Int):Rat)]:=by decide +kernel
theorem LF(x:Tn):∃p0 p1:Pq,kp fb 1 x d6=([(⟨[],[p0,p1],0⟩:Sv).av],0)/\p0.c=[((-1:Int):Rat)]:=by
 refine⟨fS mQ.ts (mQ.ps.getD 0 ([],[])) sR,fS mQ.ts (mQ.ps.getD 0 ([],[])) vA,?_,UK⟩;rw[TX];unfold iA;rw[if_neg (show ¬fX [bw (ai fb jL 2) (ai fb jO 2),bw (ai fb jL 3) (ai fb jF 3)]=true by decide +kernel),if_neg (show ¬eL (ax fb d6 jO 2) (ax fb d6 jF 3) (qE (aZ (ai fb jL 2) (ai fb jO 2))) (qE (aZ (ai fb jL 3) (ai fb jF 3)))≠0 by decide +kernel)];show(ig mQ [sR,vA] mQ.ps.length,0)=_;rw[xH.2];show([(⟨mQ.ts,[fS mQ.ts (mQ.ps.getD 0 ([],[])) sR,fS mQ.ts (mQ.ps.getD 0 ([],[])) vA],if mQ.ps.length=1 then 0 else 1-2*((0:Nat):Int)⟩:Sv).av],0)=_;generalize fS mQ.ts (mQ.ps.getD 0 ([],[])) sR=p;generalize fS mQ.ts (mQ.ps.getD 0 ([],[])) vA=q;rw[xH.1,if_pos xH.2]
theorem PN:p6 fb d6 (eH fb 1)=[]:=by
 obtain⟨d,h⟩:=FH;rw[h];show p6 fb d6 ⟨1,[2,3],[1,2,3],0⟩=[];decide +kernel
theorem Jf:∀b∈d6.bs,fv b.l:=by
 have h1:(rt ((1:Int):Rat)).wok:=(mG (n:=1) oz).ok.wok
 have h2:fv sQ.l:=by
  intro x hx;simp only[Pl.l,sQ,mem_cons,not_mem_nil,or_false]at hx;rcases hx with rfl |rfl |rfl |rfl
  ·exact⟨fun r hr=>by rw[List.mem_singleton.1 hr];exact h1,by show 1<=_;omega⟩
  all_goals exact⟨fun r hr=>(by cases hr),by show 0<=_;omega⟩
 have h3:fv tp.l:=by
  intro x hx;simp only[Pl.l,tp,mem_cons,not_mem_nil,or_false]at hx;rcases hx with rfl |rfl |rfl |rfl
  all_goals exact⟨fun r hr=>(by cases hr),by show 0<=_;omega⟩
 intro b hb;simp only[d6,mem_cons,not_mem_nil,or_false]at hb;rcases hb with rfl |rfl |rfl |rfl
 ·exact h2
 ·exact h2
 ·exact h3
 ·exact h3
theorem tR:AL d6:=RR (by decide +kernel) ⟨x8,by decide,Jf,by decide⟩
open Go.Proofs
theorem jG.ofL{l l':List AV}(h:SubL l l')(ho:l'.all AV.one=true):jG (.agg l) (.agg l') :=
 ⟨h.len,fun j x y hx hy=>⟨List.all_eq_true.1 ho y (mem_of_getElem? hy),h.get j x y hx hy⟩⟩
theorem HO:jG (.agg [nS,nS,nS,nS]) tp.av:=.ofL (.cons (.nil _ _ _) (.cons (.nil _ _ _) (.cons (.nil _ _ _) (.cons (.nil _ _ _) .nil)))) rfl
theorem FF:jG (.agg [nA [1],nA [],nA [],nA []]) sQ.av:=.ofL (.cons (.refl _) (.cons (.refl _) (.cons (.refl _) (.cons (.refl _) .nil)))) rfl
theorem EK:Sub (.agg [nS,.lst 4 [.agg [nA [1],nA [],nA [],nA []],.agg [nA [1],nA [],nA [],nA []],.agg [nS,nS,nS,nS],.agg [nS,nS,nS,nS]],nS]) d6.av:=by
 refine .agg (.cons (.nil _ _ _) (.cons (Sub.lst rfl (fun i x y hx hy=>?_)) (.cons (.nil _ _ _) .nil))) rfl
 match i,hx,hy with
 |0,hx,hy=>cases hx;cases hy;exact FF
 |1,hx,hy=>cases hx;cases hy;exact FF
 |2,hx,hy=>cases hx;cases hy;exact HO
 |3,hx,hy=>cases hx;cases hy;exact HO
theorem CN(s:ByteArray)(x y:Int)(hx:-9223372036854775808<=x/\x<=9223372036854775807)(hy:-9223372036854775808<=y/\y<=9223372036854775807):FP 243 [.v (.string s),i64 x,i64 y] (Mk.av ⟨s,rt (x:Rat),rt (y:Rat)⟩):=by
 refine aj func243 ?_;refine gc (qL x hx) ?_;refine gc (qL y hy) ?_;refine af ?_
 first |rfl |(simp;done)
theorem vj(s:ByteArray)(n:Int)(hn:-9223372036854775808<=n/\n<=9223372036854775807):FP 131 [.v (.string s),i64 n] (l6 s n).av:=by
 refine aj func131 ?_;refine gc (CN _ 0 0 oz oz) ?_;refine gc (CN _ n 0 hn oz) ?_;refine af ?_
 first |rfl |(simp;done)
theorem MF:FP 54 [] fb.av:=by
 refine aj func54 ?_;refine gc (vj _ 4 oz) ?_;refine gc (vj _ 3 oz) ?_;refine gc (vj _ 5 oz) ?_;refine gc (vj _ 6 oz) ?_;refine af ?_
 first |rfl |(simp;done)
theorem H6:FP 13 [] (bl true):=by
 have z:(⟨false,[],[]⟩:Rt).q=0:=Rt.zero (fun h=>h.2 rfl);obtain⟨p0,p1,hr,hp⟩:=LF ⟨⟨false,[],[]⟩,false⟩;have hS:=QR fb Hx 1 (x:=⟨⟨false,[],[]⟩,false⟩) ⟨oe,oe,zero_le _,zero_le _⟩ (by show Qb 1000 (⟨false,[],[]⟩:Rt).q;rw[z];exact Qb.zero.mono oz) d6 tR (fun _=>by decide);rw[hr]at hS;have hS2:=Con.sA (.cons (.refl _) (.cons (.refl _) (.cons (Sub.agg (.cons (.refl _) (.cons (Sub.nil 1 none 0) (.cons (Sub.nil 1 none 0) (.cons (.refl _) .nil)))) rfl) (.cons EK .nil)))) hS;have hD:=PQ fb Hx 1 d6 tR.ab (tR.dys (fun _=>by decide)) (tR.sma fb 1 false);rw[DY,if_pos rfl,PN]at hD;have hD2:=Con.sA (.cons (.refl _) (.cons (.refl _) (.cons EK .nil))) hD;have tw0:Tw [] 40000:=(cI (rs:=[]) tR.tr (by decide +kernel)).1;have n1:Nm 0 10 [((-1:Int):Rat)]:=(oy (n:=0) oz (show Qb 1 ((-1:Int):Rat)from⟨by decide,by decide⟩)).mono oz;have hE:=nQ (ts:=[]) tw0 n1 n1 (by decide);rw[Q0]at hE;have hG:=E8 (ts:=[]) tw0 (a:=[]) (e:=0) ⟨by decide,.inl rfl,Cb.nil⟩ (by decide);have tq:Sub (.agg [nS]) (aR []):=.agg (.cons (.nil _ _ _) .nil) rfl;have hE2:=Con.sA (.cons tq (.cons (.refl _) (.cons (.refl _) .nil))) hE;have hG2:=Con.sA (.cons tq (.cons (.refl _) .nil)) hG;refine aj func13 ?_;refine gc MF ?_;refine gc yh ?_;refine gc yh ?_;refine gc hS2 ?_;refine gc hD2 ?_;refine RY (fun _=>rfl) ?_;refine jw (fun _=>(rfl)) ?_;refine jw (fun _=>(rfl)) ?_;refine cO ?_;refine bT (fun _=>hG2) ?_;refine jw (fun _=>(rfl)) ?_;refine cO ?_;refine jw (fun _=>(rfl)) ?_;refine jw (fun _=>(rfl)) ?_;refine bT (fun _=>(MZ (-1) oz)) ?_;refine bT (fun _=>(by rw[hp];exact hE2)) ?_;refine gD ?_;refine af ?_;rfl
deriving instance DecidableEq for Pq
deriving instance DecidableEq for Aq
theorem xO{ts:LL}{r:Nat}(hr:r<=400000000)(h2:ts.length<=2):kB r ts.length<=1200000006:=by
 have h:=g9 r h2;have h3:eB r 2=3*r+6:=by simp only[eB];omega
 show eB r ts.length<=_;omega
theorem ug{ts:LL}(h2:ts.length<=2):lm ts.length=200000000000:=by unfold lm;rw[if_pos h2]
theorem LI{ts:LL}{r:Nat}(tw:Tw ts r):FP 28 [aR ts,nS] (i64 (0:Nat)):=by
 have h:=Gf (ts.map (List.map rt)) r 0 tw.tr [] (fun x hx=>by cases hx) (zero_le _) (by show 0<=_;omega)
 have e:bi (ts.map (List.map rt)) []=0:=by
  unfold bi;rw[if_neg (by rw[tw.chk];simp)];rfl
 rw[e,gO]at h;exact Con.sA (.cons (.refl _) (.cons (Sub.nil 1 none 0) .nil)) h
theorem U5{ts:LL}{r e:Nat}(tw:Tw ts r){p:Pq}(hp:Pq.ok ts.length e p)(he:e<=lm ts.length):FP 28 [aR ts,.lst 1 [nA p.c,nA p.s,nA p.x,nA p.y]] (i64 (0:Nat)):=by
 have h:=Gf (ts.map (List.map rt)) r e tw.tr p.pl.l (hp.nr he) (by rw[length_map];exact he) (by show 4<=_;omega)
 have e0:bi (ts.map (List.map rt)) p.pl.l=0:=by
  unfold bi;rw[if_neg (by rw[tw.chk];simp),length_map];exact qi (fun x hx=>hp.num x hx)
 have e1:p.pl.l.map nR=[nA p.c,nA p.s,nA p.x,nA p.y]:=by
  unfold Pl.l Pq.pl;simp only[map_cons,List.map_nil,dA]
 rw[e0,gO,e1]at h;exact h
section
variable{l:Li}{xs:List Tn}{a:Aq}(F:AqFin l xs a)
include F
end
structure AqS(l:Li)(a:Aq):Prop where
  li:aO l=0
  tw:∃r,r<=400000000/\Tw a.ts r
  two:a.ts.length<=2
  bs:∀p∈a.bs,Pq.ok a.ts.length 3200000000 p
  ln:a.bs.length=l.bo.length
theorem AqFin.s{l:Li}{xs:List Tn}{a:Aq}(F:AqFin l xs a):AqS l a:=⟨F.li,F.tw,F.two,F.bs,F.ln⟩
theorem zR{l:Li}{a:Aq}(F:AqS l a)(hl:l.ok){body pt:Int}(h1:bD body l.bo.length=true)(h2:bD pt (cE l body).length=true) :
  Nm a.ts.length 12100000000 (sX (an l a.ts a.bs body pt).1)/\Nm a.ts.length 12100000000 (sX (an l a.ts a.bs body pt).2):=by
 obtain⟨n,k,bd,m,h⟩:=qD hl F.li h1 h2;obtain⟨r,hr,tw⟩:=F.tw;have hk:=xO hr F.two;obtain⟨p,hp⟩:=aG (l:=a.bs) (i:=n) (by rw[F.ln];exact(List.getElem?_eq_some_iff.1 h.gbd).1);have po:=F.bs p (mem_of_getElem? hp);have e:body.toNat=n:=by have:=h.hn;omega
 have hb:Pq.ok a.ts.length 3200000000 ⟨lq p.pl.c,lq p.pl.s,lq p.pl.x,lq p.pl.y⟩:=by
  unfold Pq.pl;dsimp only;rw[cU,cU,cU,cU];exact po
 have hq:=Vk tw hb h.sm;unfold Pq.pl at hq;dsimp only[ib]at hq;rw[cU,cU,cU,cU]at hq;unfold an;rw[e,ao hp];exact⟨hq.1.mono oz,hq.2.mono oz⟩
def ue(l:Li)(a:Aq)(j:Jt):Bool :=
  if j.kind=0 then decide (T.sgn (aw a.ts) a.ts.length (subT a.ts (an l a.ts a.bs j.a j.point).1 (an l a.ts a.bs j.b j.on).1)=0/\T.sgn (aw a.ts) a.ts.length (subT a.ts (an l a.ts a.bs j.a j.point).2 (an l a.ts a.bs j.b j.on).2)=0)
  else decide (T.sgn (aw a.ts) a.ts.length (pi a.ts (an l a.ts a.bs j.b j.on).1 (an l a.ts a.bs j.b j.on).2 (an l a.ts a.bs j.b j.to).1 (an l a.ts a.bs j.b j.to).2 (an l a.ts a.bs j.a j.point).1 (an l a.ts a.bs j.a j.point).2)=0)
def Pq.l(p:Pq):LL:=[p.c,p.s,p.x,p.y]
theorem Pq.ok.mem{n e:Nat}{p:Pq}(h:Pq.ok n e p):∀x∈p.l,Nm n e x:=by
 intro x hx;simp only[Pq.l,mem_cons,not_mem_nil,or_false]at hx;rcases hx with rfl |rfl |rfl |rfl
 ·exact h.c
 ·exact h.s
 ·exact h.x
 ·exact h.y
section
variable{ts:LL}{r e f:Nat}(tw:Tw ts r){x y x2 y2:Et ts}
include tw
end
section
variable{E:Nat}{l:Li}{a:As}(D:DyW l a)(h3:(llq a.rs).length<=2)
include D h3
end
structure AqE(E:Nat)(l:Li)(a:Aq):Prop where
  s:AqS l a
  be:∀p∈a.bs,Pq.ok a.ts.length E p
  le:E<=3200000000
theorem AqS.e{l:Li}{a:Aq}(F:AqS l a):AqE 3200000000 l a:=⟨F,F.bs,le_refl _⟩
section
variable{E:Nat}{l:Li}(hl:l.ok){a:Aq}(F:AqE E l a)(hs:splitE l=0){k:Nat}{g:Gr}(hg:(splitG l)[k]?=some g)
include hl F hs hg
end
section
variable{l:Li}(hl:l.ok){a:Aq}(F:AqS l a)(hs:splitE l=0){k:Nat}{g:Gr}(hg:(splitG l)[k]?=some g)
include hl F hs hg
end
open Lean.Grind (CommRing)
def cA(ps:List Pse):Aq:=⟨[],ps.map bK,[]⟩
theorem Fz(ps:List Pse):(cA ps).as=mi (ps.map Pse.r4):=by
 unfold cA Aq.as mi;rw[map_map,map_map];rfl
theorem VE{l:Li}{a:As}{j:Jt}(h:nC l a j=true):JH l (llq a.rs) (aC a) j:=by
 have e:∀b pt,fD l a b pt=an l (llq a.rs) (aC a) b pt:=fun b pt=>eO l a b pt
 unfold nC at h;unfold JH
 by_cases hk:j.kind=0
 ·rw[if_pos hk]at h ⊢;rw[e,e,and_eq_true]at h;exact⟨of_decide_eq_true h.1,of_decide_eq_true h.2⟩
 ·rw[if_neg hk]at h ⊢;rw[e,e,e]at h;exact of_decide_eq_true h
theorem NL{U:LL}(hp:cP U)(p:Pse):CH U (bK p):=by
 have hc:(dE U (bK p).c:Et U)=qE (dM p.turn.half p.turn.t.q):=ik _ _;have hs:(dE U (bK p).s:Et U)=qE (dP p.turn.half p.turn.t.q):=ik _ _;have q1:(qE 1:Et U)=1:=rfl;unfold CH;rw[hc,hs,<- fH,<- fH,<- lc,HS,q1,show(1:Et U)-1=0 by grind];exact(du _ _ hp).zero
theorem Su(p:Pse):Nq 0 (bK p):=⟨(di 0 _).le,(di 0 _).le,(di 0 _).le,(di 0 _).le⟩
structure Drw(l:Li)(ps:List Pse):Prop where
  hl:l.ok
  li:aO l=0
  sp:splitE l=0
  ln:ps.length=l.bo.length
  lok:∀p∈ps,p.lok
  ok:∀p∈ps,p.ok=true
  js:∀j∈l.jo,JH l [] (ps.map bK) j
theorem Vu{l:Li}{ps:List Pse}(hl:l.ok)(hps:∀p∈ps,p.lok)(h:kP l ps=true):Drw l ps:=by
 obtain⟨h1,h2,h3,h4,h5⟩:=Ln h
 have hsp:splitE l=0:=by
  unfold kP at h;simp only[and_eq_true,decide_eq_true_eq]at h;exact h.2.2.1
 refine⟨hl,h1,hsp,h2,hps,h3,fun j hj=>?_⟩;have h9:=h5 j hj;rw[<- Fz]at h9;have h8:=VE h9
 have:∀(U:LL)(bs:List Pq),U=[]->bs=ps.map bK->JH l U bs j->JH l [] (ps.map bK) j:=by
  rintro _ _ rfl rfl h;exact h
 exact this _ _ (cA ps).llq (vn (cA ps)) h8
theorem Ui{ps:List Pse}{i:Nat}(h:i<ps.length):(ps.map bK).getD i aS=bK (ps.getD i default):=by
 obtain⟨p,hp⟩:=aG h;rw[ao hp];exact ao (by rw[getElem?_map,hp];rfl)
def ma(l:Li)(ps:List Pse)(g:Gr):List Sv:=fO l (cA ps).as g (fE g (mo l ps))
def lO(l:Li)(ps:List Pse)(g:Gr):Nat:=sL l (cA ps).as g (fE g (mo l ps))
section
variable{l:Li}{ps:List Pse}(D:Drw l ps)
include D
theorem Drw.ch{U:LL}(hp:cP U){b:Int}(h0:0<=b)(hb:b<l.bo.length):CH U ((ps.map bK).getD b.toNat aS):=by
 have:=D.ln;rw[Ui oz];exact NL hp _
theorem Drw.w:WkC l (mo l ps) 1000 1000:=by
 refine⟨D.hl,D.li,D.sp,fun b hb m hm=>?_,length_map _,fun x hx=>?_⟩
 ·have h:=(D.hl.bo b hb).pts m hm;exact⟨h.qx,h.qy⟩
 ·obtain⟨d,hd,rfl⟩:=List.mem_map.1 hx;obtain⟨i,hi,rfl⟩:=List.mem_iff_getElem.1 hd;have hb:=dz (lQ D.li (getElem?_eq_getElem hi));have hln:=D.ln;obtain⟨p,hp⟩:=aG (l:=ps) (i:=l.dv[i].body.toNat) oz;rw[ao hp];have hm:=mem_of_getElem? hp;have hk:=D.lok p hm;exact⟨hk.ok.t,(zW (D.ok p hm)).1,hk.t.mono oz,Cb.one ((qN hk.t).mono oz),Cb.one ((rg hk.t).mono oz)⟩
theorem Drw.q:QInv l 0 0 1000 (cA ps):=by
 refine⟨vY,le_refl _,fun p hp=>?_,?_⟩
 ·obtain⟨q,hq,rfl⟩:=List.mem_map.1 hp;exact xq (by show 0<=5;omega) (D.lok q hq)
 ·show(ps.map bK).length=_;rw[length_map];exact D.ln
theorem Drw.tn{g:Gr}(hg:DyK l g)(hk:g.kind=0):∃p∈ps,(ps.map bK).getD (au g 0).toNat aS=bK p/\fE g (mo l ps)=p.turn/\ps[(au g 0).toNat]?=some p:=by
 cases hg with
 | @drv b z d j dr t d0 hd hb =>
  have hi:=(List.getElem?_eq_some_iff.1 hd).1;have hbb:=dz (lQ D.li hd);have hln:=D.ln;have e0:au ⟨0,[b],[z],d⟩ 0=b:=rfl;obtain⟨p,hp⟩:=aG (l:=ps) (i:=b.toNat) oz;refine⟨p,mem_of_getElem? hp,?_,?_,by rw[e0];exact hp⟩
  ·rw[e0];exact ao (by rw[getElem?_map,hp];rfl)
  ·show(if(0:Int)=0 then(mo l ps).getD d.toNat ko else ko)=_;rw[if_pos rfl];refine ao ?_;unfold mo;rw[getElem?_map,hd];show some (ps.getD dr.body.toNat default).turn=_;rw[hb,ao hp]
 |rrr ne t0 t1 h0 h2 kd tie=>exact absurd hk (by simp)
 |pr t0 t1 ha=>exact absurd hk (by simp)
 |rp t0 t1 ha=>exact absurd hk (by simp)
theorem ta:jN 1000 1000 1 1 0 0 1000=true:=by
 have:=D;decide +kernel
variable{k:Nat}{g:Gr}(hg:(splitG l)[k]?=some g)
include hg
theorem Qr(he:lO l ps g=0) :
  ∃s∈ma l ps g,∃hp:cP s.ts,∀b∈g.bo,Eqp hp ((a8 (ps.map bK) g.bo s.ps).getD b.toNat aS) ((ps.map bK).getD b.toNat aS):=by
 have W:=D.w;have Q:=D.q;obtain⟨dy,ok⟩:=W.grp hg;have tw:=QInv.twl W hg Q;have hq:(Lw.llq (cA ps).as.rs)=[]:=(cA ps).llq;have hb:aC (cA ps).as=ps.map bK:=vn (cA ps);have hln:=D.ln;have L0:Lf [] (Lw.llq (cA ps).as.rs):=by rw[hq];exact kG vY.pos
 have nd:∀p∈ps.map bK,Nq 0 p:=fun p hp=>by
  obtain⟨q,_,rfl⟩:=List.mem_map.1 hp;exact Su q
 have sm:∀b:Int,el (ps.map bK) (ps.map bK) ([]:LL).length b:=fun b=>⟨rfl,xf nd _⟩
 obtain ⟨s, hs, L, h⟩ := L3 tw (ds := ps.map bK) (fun p hp => by rw [hb] at hp; exact Gt (nd p hp) (zero_le _)) nd dy (fun b hb' => by
  have:=ok.b b hb'
  rw[hb,length_map];omega) D.li he (fun z hz j hj=>by
   rw[hb];exact⟨fun _=>Eqp.rf _ _,fun _=>Eqp.rf _ _⟩) (fun z hz=>by
   obtain⟨jt,hj⟩:=aG (l:=l.jo) (i:=z.toNat) (by have:=ok.j z hz;omega);rw[ao hj];exact L0.jh (sm _) (sm _) (D.js jt (mem_of_getElem? hj))) (fun b hb'=>D.ch tw.pos (ok.b b hb').1 (ok.b b hb').2) (fun hk=>by
   obtain⟨p,_,e1,e2,_⟩:=D.tn dy hk;rw[e1,e2];exact⟨ik _ _,ik _ _⟩)
 rw[hb]at h;exact⟨s,hs,L.pos,h⟩
theorem Drw.err:lO l ps g=0\/lO l ps g=15:=by
 unfold lO;have W:=D.w;have Q:=D.q;obtain⟨dy,ok⟩:=W.grp hg;have tw:=QInv.twl W hg Q;have hp:=tw.pos;have hb:aC (cA ps).as=ps.map bK:=vn (cA ps);obtain⟨_,_,htn⟩:=W.tn hg;cases dy with
 | @drv b z d j dr t d0 hd hb' =>
  left;obtain⟨x,hx,ex⟩:=htn rfl;have he:=(W.ok x hx).2.1;rw[ex];show(kA l (cA ps).as b (ah l ⟨0,[b],[z],d⟩ 0) x).2=0;unfold kA;rw[if_neg oz]
 | @rrr i k z0 z1 z2 j0 j1 j2 ne t0 t1 h0 h2 kd tie =>
  show(iA l (cA ps).as i k (ah l ⟨1,[i,k],[z0,z1,z2],0⟩ 0) (ah l ⟨1,[i,k],[z0,z1,z2],0⟩ 1) (ah l ⟨1,[i,k],[z0,z1,z2],0⟩ 2)).2=0\/(iA l (cA ps).as i k (ah l ⟨1,[i,k],[z0,z1,z2],0⟩ 0) (ah l ⟨1,[i,k],[z0,z1,z2],0⟩ 1) (ah l ⟨1,[i,k],[z0,z1,z2],0⟩ 2)).2=15;unfold iA;split
  ·exact .inr rfl
  ·split
   ·rename_i hc;right;show eL _ _ _ _=15;unfold eL kc at hc ⊢;split at hc
    ·rename_i h1;rw[if_pos h1];split at hc
     ·rename_i h2;rw[if_pos h2]
     ·exact absurd rfl hc
    ·exact absurd rfl hc
   ·exact .inl rfl
 | @pr i z0 z1 j0 j1 t0 t1 ha =>
  have e1:ah l ⟨2,[i],[z0,z1],0⟩ 1=j1:=ao t1.hj
  have hlin:eP (aA l (cA ps).as j1.b j1.on) (aA l (cA ps).as j1.b j1.to)=0:=by
   unfold eP;rw[if_neg];intro h9;obtain⟨i1,i2,_⟩:=dw D.li t1.hj;have i2:=dz i2;have hv:=rm D.li t1.hj (by rw[t1.kd];decide) rfl;have hc:=D.ch hp i2.1 i2.2;have hd:=rW hp hc (aB l j1.b j1.on) (aB l j1.b j1.to)
   have e:aa hp (a7 (aA l (cA ps).as j1.b j1.on) (aA l (cA ps).as j1.b j1.to))=aa hp (qE (aZ (aB l j1.b j1.to) (aB l j1.b j1.on))):=by
    refine(ow hp _ _).trans ?_;rw[eO,eO,hb];exact hd
   have h8:=(jD hp e).symm.trans h9;rw[vU]at h8;exact hv (lY h8)
  show(jx l (cA ps).as i (ah l ⟨2,[i],[z0,z1],0⟩ 0) (ah l ⟨2,[i],[z0,z1],0⟩ 1)).2=0\/(jx l (cA ps).as i (ah l ⟨2,[i],[z0,z1],0⟩ 0) (ah l ⟨2,[i],[z0,z1],0⟩ 1)).2=15;rw[e1];unfold jx;split
  ·exact .inr rfl
  ·rw[if_neg (by rw[hlin];simp)];exact .inl rfl
 | @rp i z0 z1 j0 j1 t0 t1 ha =>
  show(iG l (cA ps).as i (ah l ⟨3,[i],[z0,z1],0⟩ 0) (ah l ⟨3,[i],[z0,z1],0⟩ 1)).2=0\/(iG l (cA ps).as i (ah l ⟨3,[i],[z0,z1],0⟩ 0) (ah l ⟨3,[i],[z0,z1],0⟩ 1)).2=15;unfold iG;split
  ·exact .inr rfl
  ·split
   ·exact .inl rfl
   ·split
    ·exact .inl rfl
    ·exact .inl rfl
theorem Drw.sol{s:Sv}(hs:s∈ma l ps g):AqE 100000000 l ⟨s.ts,a8 (ps.map bK) g.bo s.ps,[]⟩/\s.ps.length=g.bo.length/\(∃r,r<=400000000/\Tw s.ts r)/\(∀p∈s.ps,Pq.ok s.ts.length 80000000000 p):=by
 have W:=D.w;have Q:=D.q;have O:=ta D;have P:=E3 W hg Q O (fun _=>by decide);obtain⟨i,hi⟩:=List.getElem?_of_mem hs;have h1:=(P.md i s hi).2.2;have h2:=(P.ok s hs).ps
 have key:∃r E,r<=400000000/\E<=100000000/\QInv l 1 r E ((cA ps).nxt g s):=by
  by_cases hk:g.kind=0
  ·have Q':=QInv.drv W hg Q O hk s hs;exact⟨0,lZ 1000 1000 0 0 1000,by decide,by decide,⟨Q'.tw,le_trans Q'.lv oz,Q'.bs,Q'.ln⟩⟩
  ·have Q':=QInv.dy W hg Q (y:=0) O hk s hs;exact⟨0+j4 1000 0 0 1000,pJ 1000 0 0 1000,by decide,by decide +kernel,Q'⟩
 obtain⟨r,E,hr,hE,Q'⟩:=key;have two:s.ts.length<=2:=le_trans Q'.lv oz;have hbs:∀p∈a8 (ps.map bK) g.bo s.ps,Pq.ok s.ts.length 100000000 p:=fun p hp=>(Q'.bs p hp).up (le_refl _) Q'.tw.five hE
 exact⟨⟨⟨D.li,⟨r,hr,Q'.tw⟩,two,fun p hp=>(hbs p hp).up (le_refl _) Q'.tw.five oz,Q'.ln⟩,hbs,by omega⟩,h1,⟨r,hr,Q'.tw⟩,h2⟩
end
end Go.Lw
namespace Go.Lw
open Go.Proofs
theorem Af{l:Li}(hl:l.ok){a:Aq}(F:AqS l a){body pt:Int}(h1:bD body l.bo.length=true)(h2:bD pt (cE l body).length=true) :
  FP 83 [l.av,a.av,i64 body,i64 pt] (aK (sX (an l a.ts a.bs body pt).1) (sX (an l a.ts a.bs body pt).2)):=by
 obtain⟨n,k,bd,m,h⟩:=qD hl F.li h1 h2;obtain⟨r,hr,tw⟩:=F.tw;have hkb:=xO hr F.two;have hlm:=ug F.two;have hlb:=(dY F.li).2.2.2.1;obtain⟨p,hp⟩:=aG (l:=a.bs) (i:=n) (by rw[F.ln];exact(List.getElem?_eq_some_iff.1 h.gbd).1);have po:=F.bs p (mem_of_getElem? hp);have hn:=h.hn;have hk:=h.hk
 have e:an l a.ts a.bs body pt=a6 a.ts p (aB l body pt):=by
  unfold an;rw[hn,toNat_natCast,ao hp]
 have hat:FP 179 [aR a.ts,p.av,m.x.av,m.y.av] (aK (sX (an l a.ts a.bs body pt).1) (sX (an l a.ts a.bs body pt).2)):=by
  rw[h.ex,h.ey,e];exact Ue tw po.c po.s po.x po.y (h.sm.x.mono oz) (h.sm.y.mono oz) oz
 have gb:=h.gbd;have gm:=h.gm;clear h h1 h2 e;subst hn;subst hk;refine aj func83 ?_;refine gi (aN gb) ?_;refine gi (aN gm) ?_;refine gi (aN hp) ?_;refine gc hat ?_;refine gD ?_;refine af ?_
 first |rfl |(simp;done)
theorem MG{l:Li}(hl:l.ok){a:Aq}(F:AqS l a){i:Nat}{j:Jt}(hj:l.jo[i]?=some j):FP 23 [l.av,a.av,j.av] (bl (ue l a j)):=by
 obtain⟨r,hr,tw⟩:=F.tw;have hkb:=xO hr F.two;have hlm:=ug F.two;obtain⟨i1,i2,i3,i4,i5⟩:=dw F.li hj;have np:=zR F hl i1 i3;have nq:=zR F hl i2 i4;refine aj func23 ?_;refine gc (Af hl F i1 i3) ?_;refine gc (Af hl F i2 i4) ?_;refine gC (fun t25=>?_) (fun t25=>?_)
 ·have hk:j.kind=0:=cK t25;have hsame:=LT tw np.1 np.2 nq.1 nq.2 oz;rw[show ae a.ts.length (sX (an l a.ts a.bs j.a j.point).1)=_ from bc _ _,show ae a.ts.length (sX (an l a.ts a.bs j.a j.point).2)=_ from bc _ _,show ae a.ts.length (sX (an l a.ts a.bs j.b j.on).1)=_ from bc _ _,show ae a.ts.length (sX (an l a.ts a.bs j.b j.on).2)=_ from bc _ _]at hsame;refine gc hsame ?_;refine af ?_;unfold ue;rw[if_pos hk];exact congrArg bl (Bool.decide_and _ _).symm
 have hk:j.kind≠0:=dj t25;have nr:=zR F hl i2 (i5 hk);have hor:=L8 tw nq.1 nq.2 nr.1 nr.2 np.1 np.2 oz;rw[show ae a.ts.length (sX (an l a.ts a.bs j.a j.point).1)=_ from bc _ _,show ae a.ts.length (sX (an l a.ts a.bs j.a j.point).2)=_ from bc _ _,show ae a.ts.length (sX (an l a.ts a.bs j.b j.on).1)=_ from bc _ _,show ae a.ts.length (sX (an l a.ts a.bs j.b j.on).2)=_ from bc _ _,show ae a.ts.length (sX (an l a.ts a.bs j.b j.to).1)=_ from bc _ _,show ae a.ts.length (sX (an l a.ts a.bs j.b j.to).2)=_ from bc _ _]at hor
 refine gc (Af hl F i2 (i5 hk)) ?_;refine gc hor ?_;refine gD ?_;refine af ?_;unfold ue;rw[if_neg hk];exact congrArg bl qJ
theorem My{l:Li}(hl:l.ok)(hli:aO l=0)(hsp:splitE l=0){k:Nat}{g:Gr}(hg:(splitG l)[k]?=some g){a:Aq}(lbs:a.bs.length=l.bo.length){s:Sv}(hpl:s.ps.length=g.bo.length)
  {r E:Nat} (tw:Tw s.ts r) (hr:r<=400000000) (h2:s.ts.length<=2) (hps:∀p∈s.ps,Pq.ok s.ts.length E p) (hE:E<=80000000000) :
  FP 20 [l.av,i64 k,a.av,s.av] (.tup [(Aq.mk s.ts (a8 a.bs g.bo s.ps) []).av,bl true]):=by
 have hS:=Bb l hl hli;rw[hsp]at hS;have hkl:=(List.getElem?_eq_some_iff.1 hg).1;have hgl:=Cv hli;have hbl:=(dY hli).2.2.2.1;have hlm:=ug h2;have ok:=(nV hli (mem_of_getElem? hg)).2;have hgb:=ok.lb;refine aj func20 ?_;refine gc hS ?_;refine cO ?_;refine cO ?_;refine jw (fun _=>(aN hg)) ?_;refine cO ?_;refine bT (fun _=>(LI tw)) ?_;refine gD ?_;refine gC (fun t50=>?_) (fun t50=>?_) (st1:=(3,0));exact absurd t50 (by simp[ac,hpl];omega);refine gs (kE T38 rfl T69 rfl rfl rfl) ?_;refine gs (da (.tmp rfl) rfl rfl (.tmp rfl) T38 rfl T69 rfl rfl (by simp only[length_map];omega) rfl rfl) ?_;refine gD ?_ (5,0);refine gW (Wk.of (sl:=[(7,some (.ptr 7 0)),(8,some (.ptr 8 0)),(10,some (.lst 4 ((splitG l).map Gr.av))),(1,some (i64 k)),(12,some (.ptr 12 0))]) (hp:=[(7,some (.box s.av.cells)),(8,some (.box [nS,nS,nS])),(12,some (.box [.lst 1 (s.ts.map nA),.ms 57 4 0 a.bs.length,nS])),(57,some (.row 4 ((a8 a.bs (g.bo.take 0) (s.ps.take 0)).map Pq.av)))]) bj (.k (.k (.cons rfl (BlkSub.bL (.cons (.refl _) (.cons (Sub.of (congrArg (AV.ms 57 4 0) (by rw[length_map];omega))) (.cons (.refl _) .nil))) rfl) (.k .nil))))) ?_
 refine gi (aN hg) ?_;refine gl ?_;refine a5 [7,8,12,63,64] [7,8,12] (fun(i:Nat)=>[(65,some (i64 i))]) (fun i=>[(57,some (.row 4 ((a8 a.bs (g.bo.take i) (s.ps.take i)).map Pq.av)))]) (fun i=>i<=g.bo.length) (fun i=>g.bo.length-i) 0 (zero_le _) ?_;rintro i hi K1 J1;refine gC (fun t66=>?_) (fun t66=>?_) (st2:=(13,0))
 ·have hin:=bn t66;obtain⟨b,hbi⟩:=aG hin;obtain⟨p,hp⟩:=aG (l:=s.ps) (i:=i) oz;obtain⟨hb0,hb1⟩:=ok.b b (mem_of_getElem? hbi);have hpl2:=wt a.bs (g.bo.take i) (s.ps.take i);obtain⟨o,ho⟩:=aG (l:=a8 a.bs (g.bo.take i) (s.ps.take i)) (i:=b.toNat) oz;have hsn:=U5 tw (hps p (mem_of_getElem? hp)) oz;refine gi (aN hbi) ?_;refine gi (aN hp) ?_;refine bT (fun _=>hsn) ?_;refine gC (fun t94=>?_) (fun t94=>?_) (st1:=(10,0));exact absurd t94 (by simp[ac];omega);refine gs (lP (.tmp rfl) (.tmp rfl) T38 rfl T69 rfl oz oz rfl) ?_;refine gs (dF (.tmp rfl) rfl (by rw[Nat.zero_add,getElem?_map,ho];rfl) rfl (.tmp rfl) rfl rfl T69 rfl rfl) ?_;refine ga aW ?_;exact aT J1 (i+1) hin (hw:=Wk.of bj (.cons rfl (BlkSub.of (by rw[Rf hbi hp,map_set,Nat.zero_add];rfl)) (.k (.k (.k .nil)))))
 have hin:=bE hi t66;subst hin;refine gW ((Wk.freeze (k:=57) rfl).trans<|Wk.of (sl:=[(8,some (.ptr 8 0)),(12,some (.ptr 12 0))]) (hp:=[(8,some (.box [nS,nS,nS])),(12,some (.box [.lst 1 (s.ts.map nA),.lst 4 ((a8 a.bs g.bo s.ps).map Pq.av),nS]))]) bj (.k (.cons rfl (BlkSub.bL (.cons (.refl _) (.cons (Sub.of (by rw[cw (by rw[length_map,wt])];rw[take_length,take_of_length_le oz])) (.cons (.refl _) .nil))) rfl) .nil))) ?_;refine gR ?_;exact ef (Sub.tup (.cons (Sub.agg (.cons (.refl _) (.cons (.refl _) (.cons (Sub.nil _ _ _) .nil))) rfl) (.cons (.refl _) .nil)))
theorem G0(ps:List Pse)(hps:∀p∈ps,p.lok)(hpl:ps.length<=20)(h2:∀p∈ps,p.ok=true):FP 17 [.lst 10 (ps.map Pse.av)] (Ij (ps.map bK)):=by
 refine aj func17 ?_;refine gl ?_;refine gW (Wk.virt 900 4 rfl) ?_;refine a5 [2,3,6,7] [2] (fun(i:Nat)=>[(8,some (i64 i))]) (fun i=>[(3,some (.box [nS,.ms 900 4 0 i,nS])),(900,some (.row 4 (((ps.take i).map bK).map Pq.av)))]) (fun i=>i<=ps.length) (fun i=>ps.length-i) 0 (zero_le _) ?_ (h2:=(.cons rfl (BlkSub.bL (.cons (.refl _) (.cons (.nM _ _ _) (.cons (.refl _) .nil))) rfl) (.k .nil)));rintro i hi K1 J1;refine gC (fun t9=>?_) (fun t9=>?_) (st2:=(7,0))
 ·have hin:=bn t9;obtain⟨p,hp⟩:=aG hin;have hpm:=mem_of_getElem? hp;have hpo:=hps p hpm;have h1:=h2 p hpm;have hc:=I5 p.turn.half hpo.t oz;rw[<- Rt.eq_rt hpo.ok.t (Tn.ok_valid (zW h1).1)]at hc;have hs:=VA p.turn.half hpo.t oz;rw[<- Rt.eq_rt hpo.ok.t (Tn.ok_valid (zW h1).1)]at hs;refine gi (aN hp) ?_;refine gc hc ?_;refine gc (pH ((qN hpo.t).qs oz)) ?_;refine gc hs ?_;refine gc (pH ((rg hpo.t).qs oz)) ?_;refine gc (yT p.at_.x hpo.ok.x (hpo.x.qs oz)) ?_;refine gc (yT p.at_.y hpo.ok.y (hpo.y.qs oz)) ?_;refine gs (da (.tmp rfl) rfl (by rw[length_map,length_map,length_take];omega) (.tmp rfl) T38 rfl T69 rfl rfl (by dsimp only;simp only[length_cons,length_nil];omega) rfl rfl) ?_;refine gD ?_ (6,0);refine gW (Wk.of (sl:=[(2,some (.ptr 2 0)),(3,some (.ptr 3 0)),(6,some (.lst 10 (ps.map Pse.av))),(7,some (i64 ps.length)),(8,some (i64 i))]) (hp:=[(2,some (.box [nS,nS,nS])),(3,some (.box [nS,.ms 32 4 0 (i+1),nS])),(32,some (.row 4 (((ps.take (i+1)).map bK).map Pq.av)))]) bj (.k (.k (.cons rfl (BlkSub.of (by rw[d9 hp,map_append,map_append];rfl)) .nil)))) ?_ (6,0);refine gW (Wk.rk (k:=32) (d:=900) rfl rfl) ?_;refine ga aW ?_;exact aT J1 (i+1) hin
 have hin:=bE hi t9;subst hin;refine gW ((Wk.freeze (k:=900) rfl).trans<|Wk.of (sl:=[(2,some (.ptr 2 0)),(3,some (.ptr 3 0))]) (hp:=[(2,some (.box [nS,nS,nS])),(3,some (.box [nS,.lst 4 ((ps.map bK).map Pq.av),nS]))]) bj (.k (.cons rfl (BlkSub.bL (.cons (.refl _) (.cons (Sub.of (by rw[cw (by rw[length_map,length_map,length_take];omega),take_length])) (.cons (.refl _) .nil))) rfl) .nil))) ?_;refine gR ?_;exact iF SA
theorem RS{l:Li}(hli:aO l=0){ps:List Pse}(hps:∀p∈ps,p.lok)(hln:ps.length=l.bo.length):AqS l (cA ps):=by
 refine⟨hli,⟨0,by omega,vY⟩,by show 0<=2;omega,fun p hp=>?_,by show(ps.map bK).length=_;rw[length_map];exact hln⟩;obtain⟨q,hq,rfl⟩:=List.mem_map.1 hp;exact Pq.ok.up (xq (n:=0) oz (hps q hq)) (le_refl _) (by show 0<=5;omega) oz
theorem KI{l:Li}{ps:List Pse}{j:Jt}:ue l (cA ps) j=nC l (mi (ps.map Pse.r4)) j:=by
 rw[<- Fz]
 have e:∀(U:LL)(bs:List Pq),U=[]->bs=ps.map bK->(if j.kind=0 then decide (T.sgn (aw U) U.length (subT U (an l U bs j.a j.point).1 (an l U bs j.b j.on).1)=0/\T.sgn (aw U) U.length (subT U (an l U bs j.a j.point).2 (an l U bs j.b j.on).2)=0)
   else decide (T.sgn (aw U) U.length (pi U (an l U bs j.b j.on).1 (an l U bs j.b j.on).2 (an l U bs j.b j.to).1 (an l U bs j.b j.to).2 (an l U bs j.a j.point).1 (an l U bs j.a j.point).2)=0))=ue l (cA ps) j:=by
  rintro _ _ rfl rfl;rfl
 rw[<- e _ _ (cA ps).llq (vn (cA ps))];have g:∀b pt,fD l (cA ps).as b pt=an l (llq (cA ps).as.rs) (aC (cA ps).as) b pt:=fun b pt=>eO l (cA ps).as b pt
 unfold nC;rw[g,g,g];split
 ·exact Bool.decide_and _ _
 ·rfl
theorem Ql{p:Pse}(h:p.lok):p.r4.ok:=⟨(qN h.t).mono oz,(rg h.t).mono oz,h.x.mono oz,h.y.mono oz⟩
theorem Vp{p:Pse}(h:p.lok):FP 21 [.agg [.lst 1 []],(bK p).av,.agg [nA [1],nA [],nA [],nA []]] (bl (uy p.r4)):=by
 have hp:=xq (n:=0) oz h;have hf:=MT (n:=0) oz;have h1:=Ga (ts:=[]) vY (hp.c.mono oz) (hp.s.mono oz) (hp.x.mono oz) (hp.y.mono oz) hf.c hf.s hf.x hf.y (by have:=ug (ts:=[]) (by show 0<=2;omega);omega)
 have e:(dV [] (ae 0 (bK p).c) (ae 0 tv.c)&&dV [] (ae 0 (bK p).s) (ae 0 tv.s)&&dV [] (ae 0 (bK p).x) (ae 0 tv.x)&&dV [] (ae 0 (bK p).y) (ae 0 tv.y))=uy p.r4:=by
  rw[show ae 0 (bK p).c=p.r4.c from bc 0 _,show ae 0 (bK p).s=p.r4.s from bc 0 _,show ae 0 (bK p).x=p.r4.x from bc 0 _,show ae 0 (bK p).y=p.r4.y from bc 0 _];unfold uy;rw[<- wE,<- wE,<- wE,<- wE];rfl
 rw[<- e];exact h1
theorem Oq{e n m:Nat}(h:cond (ac .neq (e:Int) 0) true (ac .neq (n:Int) (m:Int))=true):decide (e=0/\n=m)=false:=by
 refine decide_eq_false (fun⟨h1,h2⟩=>?_);subst h1;subst h2
 simp[ac]at h
theorem KK{e n m:Nat}(h:cond (ac .neq (e:Int) 0) true (ac .neq (n:Int) (m:Int))=false):e=0/\n=m:=by
 cases h1:ac .neq (e:Int) 0
 ·rw[h1]at h;exact⟨gf h1,by have:=wB h;omega⟩
 ·rw[h1]at h;cases h
theorem Kr{l:Li}(hl:l.ok)(ps:List Pse)(hps:∀p∈ps,p.lok)(hpl:ps.length<=20):FP 15 [Ad l ps] (bl (kP l ps)):=by
 have hlb:=hl.lb;have hlj:=hl.lj;have hrp:∀b∈ps.map Pse.r4,b.ok:=fun b hb=>by obtain⟨p,hp,rfl⟩:=List.mem_map.1 hb;exact Ql (hps p hp)
 refine aj func15 ?_;refine gc (I8 l hl) ?_;refine cO ?_;refine cO ?_;refine gC (fun t23=>?_) (fun t23=>?_)
 ·have h1:=Oq t23;refine af ?_;unfold kP;rw[h1];rfl
 have h1:=KK t23;have h10:decide (aO l=0/\ps.length=l.bo.length)=true:=decide_eq_true h1;refine gl ?_;refine a5 [1,25,26] [1] (fun(i:Nat)=>[(27,some (i64 i))]) (fun _=>[]) (fun i=>i<=ps.length/\(ps.take i).all Pse.ok=true) (fun i=>ps.length-i) 0 ⟨zero_le _,rfl⟩ ?_;rintro i ⟨hi,hj⟩ K1 J1;refine gC (fun t28=>?_) (fun t28=>?_)
 ·have hin:=bn t28;obtain⟨p,hp⟩:=aG hin;have hpo:=hps p (mem_of_getElem? hp);refine gi (aN hp) ?_;refine gc (QX p hpo.ok.t hpo.ok.x hpo.ok.y) ?_;refine gC (fun t33=>?_) (fun t33=>?_)
  ·have h2:=mj hp (dH t33);refine af ?_;unfold kP;rw[h10,h2];rfl
  have h2:=dC t33;refine ga aW ?_;exact aT J1 (i+1) ⟨hin,ov hj hp h2⟩
 have hall:=oM (bE hi t28) hj;have hok:∀p∈ps,p.ok=true:=List.all_eq_true.1 hall;have hlen:(ps.map Pse.r4).length=l.bo.length:=by rw[length_map,h1.2]
 have hg:=Tr hl h1.1 hrp hlen;obtain⟨p0,hp0⟩:=aG (l:=ps) (i:=0) (by have:=(dY h1.1).2.2.2.2;omega);refine gc (Bb l hl h1.1) ?_;refine gC (fun t42=>?_) (fun t42=>?_)
 ·have h3:=hP t42;refine af ?_;unfold kP;rw[h10,hall,decide_eq_false h3];rfl
 have h3:=gf t42;refine gc (G0 ps hps hpl hok) ?_;refine gi (aN (show(ps.map bK)[0]?=some (bK p0) by rw[getElem?_map,hp0];rfl)) ?_;refine gc yh ?_;refine gc (Vp (hps p0 (mem_of_getElem? hp0))) ?_;refine gD ?_;refine gC (fun t54=>?_) (fun t54=>?_)
 ·have h4:=dH t54;refine af ?_;unfold kP;rw[h10,hall,decide_eq_true h3,ao hp0,h4];rfl
 have h4:=dC t54;refine gl ?_;refine a5 [1,7,57,58] [1,7] (fun(i:Nat)=>[(59,some (i64 i))]) (fun _=>[]) (fun i=>i<=l.jo.length/\(l.jo.take i).all (fun j=>nC l (mi (ps.map Pse.r4)) j)=true) (fun i=>l.jo.length-i) 0 ⟨zero_le _,rfl⟩ ?_;rintro i ⟨hi2,hj2⟩ K2 J2;refine gC (fun t60=>?_) (fun t60=>?_)
 ·have hin:=bn t60;obtain⟨j,hjt⟩:=aG hin;have hh:=MG hl (RS h1.1 hps h1.2) hjt;rw[KI]at hh;refine gi (aN hjt) ?_;refine gc hh ?_;refine gC (fun t68=>?_) (fun t68=>?_)
  ·have h5:=mj (p:=fun j=>nC l (mi (ps.map Pse.r4)) j) hjt (dH t68);refine af ?_;unfold kP;rw[h10,hall,decide_eq_true h3,ao hp0,h4,h5];rfl
  have h5:=dC t68;refine ga aW ?_;exact aT J2 (i+1) ⟨hin,ov hj2 hjt h5⟩
 have h6:=oM (bE hi2 t60) hj2;refine af ?_;unfold kP;rw[h10,hall,decide_eq_true h3,ao hp0,h4,h6];rfl
def IH(ps:List Pse)(g:Gr)(s:Sv):Aq:=⟨s.ts,a8 (ps.map bK) g.bo s.ps,[]⟩
section
variable{l:Li}{ps:List Pse}(D:Drw l ps){k:Nat}{g:Gr}(hg:(splitG l)[k]?=some g)
include D hg
theorem Mc:FP 18 [l.av,i64 k,(fE g (mo l ps)).av,(cA ps).av] (.tup [.lst 3 ((ma l ps g).map Sv.av),cg (lO l ps g)]) :=
 I0 D.w hg D.q (ta D) (fun _=>by decide)
variable{s:Sv}(hs:s∈ma l ps g)
include hs
end
theorem SR{d:Bool}(h:cond (!true) true (!d)=false):d=true:=by cases d <;> simp_all
theorem TQ{d f:Bool}(h:cond (cond (!true) true (!d)) true (!f)=false):d=true/\f=true:=by cases d <;> cases f <;> simp_all
theorem Iy{l:Li}{ps:List Pse}(h:p5 l ps=true)(hw:l.okw)(hps:∀p∈ps,p.wok):l.ok/\(∀p∈ps,p.lok)/\ps.length<=20:=by
 unfold p5 at h;simp only[and_eq_true,all_eq_true,decide_eq_true_eq]at h;exact⟨Gx h.2.2 hw,fun p hp=>OY (h.1 p hp) (hps p hp),h.2.1⟩
theorem Sy{a b:Nat}:(a:Int).tmod (b:Int)=((a%b:Nat):Int):=by rw[Int.natCast_emod,Int.tmod_eq_emod_of_nonneg oz]
theorem Mm(e:Nat)(n:Int):FP 19 [cg e,i64 n] (bl (ac .eql (e:Int) n)):=by
 refine aj func19 ?_;refine gc (Vc e) ?_;refine af ?_;rfl
def tu(U:LL)(p q:Pq):Bool:=dV U (ae U.length p.c) (ae U.length q.c)&&dV U (ae U.length p.s) (ae U.length q.s)&&dV U (ae U.length p.x) (ae U.length q.x)&&dV U (ae U.length p.y) (ae U.length q.y)
theorem VB{U:LL}{hp:cP U}{p q:Pq}(h:Eqp hp q p):tu U p q=true:=by
 have e:∀{a b:Et U},aa hp b=aa hp a->dV U a b=true:=fun h=>decide_eq_true ((fh hp).1 h.symm)
 unfold tu;rw[and_eq_true,and_eq_true,and_eq_true];exact⟨⟨⟨e h.c,e h.s⟩,e h.x⟩,e h.y⟩
def oK(ps:List Pse)(g:Gr)(s:Sv)(n:Nat):Bool:=(g.bo.take n).all fun b=>tu s.ts ((ps.map bK).getD b.toNat aS) ((a8 (ps.map bK) g.bo s.ps).getD b.toNat aS)
theorem UE{ps:List Pse}{g:Gr}{s:Sv}{n:Nat}{b:Int}(hb:g.bo[n]?=some b):oK ps g s (n+1)=(oK ps g s n&&tu s.ts ((ps.map bK).getD b.toNat aS) ((a8 (ps.map bK) g.bo s.ps).getD b.toNat aS)):=by
 unfold oK;rw[d9 hb,all_append];simp
theorem L9{l:Li}{g:Gr}(hg:DyK l g):g.bo[0]?=some (au g 0):=by cases hg <;> rfl
theorem SZ{l:Li}{k:Int}{x y:Tn}{a:As}(h:(eH l k).kind≠0):kp l k x a=kp l k y a:=by
 unfold kp iO;rw[if_neg h,if_neg h]
section
variable{l:Li}{ps:List Pse}(D:Drw l ps){k:Nat}{g:Gr}(hg:(splitG l)[k]?=some g)
include D hg
theorem S7{p:Pse}(hp:ps[(au g 0).toNat]?=some p):FP 18 [l.av,i64 k,p.turn.av,(cA ps).av] (.tup [.lst 3 ((ma l ps g).map Sv.av),cg (lO l ps g)]):=by
 have W:=D.w;have Q:=D.q
 by_cases hk:g.kind=0
 ·obtain⟨p',_,_,e,hp'⟩:=D.tn (W.grp hg).1 hk;rw[hp]at hp';cases hp';rw[<- e];exact Mc D hg
 ·have hgA:eH l (k:Nat)=g:=ao hg;obtain⟨F,hF,hs,al,h3,hR⟩:=BX W hg Q (ta D) (fun _=>by decide);have lo:=D.lok p (mem_of_getElem? hp);have h:=A7 l D.hl k (x:=p.turn) lo.ok.t (lo.t.mono oz) (cA ps).as al (fun _=>h3) hF hs (fun _ h=>hR (by rw[hgA]at h;exact h));rw[SZ (y:=fE g (mo l ps)) (by rw[hgA];exact hk),GD W hg Q (ta D) (fun _=>by decide),Aq.as_av]at h;exact h
theorem NS{s:Sv}(hs:s∈ma l ps g){b:Int}(hb:0<=b/\b<l.bo.length){p q:Pq}(hp:(ps.map bK)[b.toNat]?=some p)(hq:(a8 (ps.map bK) g.bo s.ps)[b.toNat]?=some q) :
  FP 21 [aR s.ts,p.av,q.av] (bl (tu s.ts ((ps.map bK).getD b.toNat aS) ((a8 (ps.map bK) g.bo s.ps).getD b.toNat aS))):=by
 obtain⟨A,_,⟨r,hr,tw⟩,_⟩:=D.sol hg hs;have hlm:lm s.ts.length=200000000000:=ug A.s.two;have po:Pq.ok s.ts.length 100000000 p:=(D.q.bs p (mem_of_getElem? hp)).up (zero_le _) tw.five oz;have qo:Pq.ok s.ts.length 100000000 q:=A.be q (mem_of_getElem? hq);rw[ao hp,ao hq];exact Ga tw po.c po.s po.x po.y qo.c qo.s qo.x qo.y oz
theorem SW(he:lO l ps g=0):∃(i:Nat)(s:Sv),(ma l ps g)[i]?=some s/\oK ps g s g.bo.length=true:=by
 obtain⟨s,hs,hp,h⟩:=Qr D hg he;obtain⟨i,hi⟩:=List.getElem?_of_mem hs;refine⟨i,s,hi,?_⟩;unfold oK;rw[take_length,all_eq_true];exact fun b hb=>VB (h b hb)
end
theorem Mh(l:Li)(hw:l.okw)(ps:List Pse)(hps:∀p∈ps,p.wok)(hpl:ps.length<=281474976710656)(kk:Nat)(hkk:kk<256):FP 3 [Ad l ps,u8 kk] (bl true):=by
 refine aj func3 ?_;refine gc H6 ?_;refine bT (fun _=>(VL l ps hw hps hpl)) ?_;refine bT (fun h=>(by have hd:=Iy (SR h) hw hps;exact Kr hd.1 ps hd.2.1 hd.2.2)) ?_;refine gC (fun t30=>?_) (fun t30=>?_)
 ·refine gc H6 ?_;refine af ?_
  first |rfl |(simp;done)
 obtain⟨g1,g2⟩:=TQ t30;obtain⟨hl,hlok,hp20⟩:=Iy g1 hw hps;have D:=Vu hl hlok g2;have hli:=D.li;have hgl:=(Cv hli).2;have hlb:=hl.lb;have hS:=Bb l hl hli;rw[D.sp]at hS;refine gc hS ?_;refine gl ?_;refine gC (fun t40=>?_) (fun t40=>?_)
 ·refine af ?_;rfl
 have hn0:(splitG l).length≠0:=by simpa[ac]using t40
 obtain⟨k,hk⟩:∃k,k=kk%(splitG l).length:=⟨_,rfl⟩
 have hkl:k<(splitG l).length:=by rw[hk];exact Nat.mod_lt _ oz
 obtain⟨g,hg⟩:=aG hkl;obtain⟨dy,ok⟩:=nV hli (mem_of_getElem? hg);have hR:=G0 ps hlok hp20 D.ok;have hb0:=L9 dy;have hbb:=ok.b _ (mem_of_getElem? hb0);have hln:=D.ln;obtain⟨p,hpg⟩:=aG (l:=ps) (i:=(au g 0).toNat) oz;refine gv (i64_in oz) ?_;refine gl ?_;refine gs (tN (.tmp rfl) (.tmp rfl) oz (show _=((k:Nat):Int) by rw[hk];exact Sy) rfl) ?_;refine gc hR ?_;refine gi (aN hg) ?_;refine gi (aN hb0) ?_;refine gi (f9 (n:=(au g 0).toNat) oz hpg) ?_;refine gD ?_;refine gc (S7 D hg hpg) ?_;refine gC (fun t71=>?_) (fun t71=>?_)
 ·have he:lO l ps g≠0:=fp t71;have he15:=(D.err hg).resolve_left he;rw[he15];refine gc (Mm 15 15) ?_;refine af ?_;rfl
 have he:lO l ps g=0:=eM t71;obtain⟨i0,s0,hi0,hsam⟩:=SW D hg he;have hi0l:=(List.getElem?_eq_some_iff.1 hi0).1;have P:=E3 D.w hg D.q (ta D) (fun _=>by decide);have hS2:(ma l ps g).length<=2:=P.two;refine gl ?_;refine a5 [2,5,7,8,74,75] [2,8] (fun(i:Nat)=>[(76,some (i64 i))]) (fun _=>[]) (fun i=>i<=i0) (fun i=>(ma l ps g).length-i) 0 (zero_le _) ?_;rintro i hi K1 J1;refine gC (fun t77=>?_) (fun t77=>?_) (st2:=(77777,0))
 ·have hin:=bn t77;obtain⟨s,hsi⟩:=aG hin;have hs:=mem_of_getElem? hsi;obtain⟨AE,hpb,⟨r,hr,tw⟩,hpo⟩:=D.sol hg hs;have F:AqS l (IH ps g s):=AE.s;have hql:=F.ln;have two:s.ts.length<=2:=F.two;have hgb:=ok.lb;have hbl:=(dY hli).2.2.2.1;have hdl:(ps.map bK).length=ps.length:=length_map _;refine gi (aN hsi) ?_;refine gc (My hl hli D.sp hg D.q.ln hpb tw hr two hpo oz) ?_;refine gC (fun t90=>?_) (fun t90=>?_) (st1:=(17,0));cases t90;refine gi (aN hg) ?_;refine gl ?_;refine a5 [2,5,7,8,74,75,76,14,95,96] [2,8,14] (fun(j:Nat)=>[(16,some (bl (oK ps g s j))),(97,some (i64 j))]) (fun _=>[]) (fun j=>j<=g.bo.length) (fun j=>g.bo.length-j) 0 (zero_le _) ?_;rintro j hj K2 J2;refine gC (fun t98=>?_) (fun t98=>?_)
  ·have hjn:=bn t98;obtain⟨b,hbi⟩:=aG hjn;have hbr:=ok.b b (mem_of_getElem? hbi);obtain⟨p1,hp1⟩:=aG (l:=(cA ps).bs) (i:=b.toNat) (by show _<(ps.map bK).length;omega);obtain⟨q1,hq1⟩:=aG (l:=(IH ps g s).bs) (i:=b.toNat) oz;refine gi (aN hbi) ?_;refine jw (fun _=>(f9 (n:=b.toNat) oz hp1)) ?_;refine jw (fun _=>(f9 (n:=b.toNat) oz hq1)) ?_;refine bT (fun _=>(NS D hg hs hbr hp1 hq1)) ?_;refine gD ?_;refine ga aW ?_;exact aT J2 (j+1) hjn (hw:=Wk.of (.cons rfl (Sub.of (by rw[UE hbi];cases oK ps g s j <;> rfl)) (.k (.k (.k (.k (.k (.k (.k (.k (.k (.k (.k .nil)))))))))))) (.k (.k (.k .nil))))
  have hjn:=bE hj t98;subst hjn;refine gC (fun t118=>?_) (fun t118=>?_)
  ·refine af ?_;rfl
  have hlt:i<i0:=by
   rcases Nat.lt_or_eq_of_le hi with h9 |h9
   ·exact h9
   ·subst h9;rw[hsi]at hi0;cases hi0;rw[hsam]at t118;cases t118
  refine ga aW ?_;exact aT J1 (i+1) hlt
 exact absurd (q7 t77) oz
open Go.Proofs Go.Proofs.YtpdiojikejnehaaGreat
open Go.ChangeShapes Go.WideShapes Go.ChangeAt Go.RowKit
set_option maxRecDepth 100000 in
theorem J6(os:Os)(started:os.Started)(H:Type)(enc:TypeId×Value->H) :
  ReturnsInHanded {} Tryz.checked os 3 .any (Rows.dyadCompleteSpec.pre6 enc prog Tryz.f3 Rows.dyadCompleteRow.domain false) (Rows.dyadCompleteSpec.post enc prog Tryz.f3 false true false false):=by
 refine returnsInHanded_of_change_sized (C := Tryz.checked) own started (by kernel_rfl) func3
  (ChangeSpec.witness6 (enc:=enc) (C:=Tryz.checked) false ⟨#[],#[.agg #[.string ⟨#[]⟩,.slice none 0 0,.slice none 0 0,.slice none 0 0,.slice none 0 0],.int .u8 0],[]⟩ 8 (by kernel_rfl) (by kernel_rfl) (by kernel_rfl) (by kernel_rfl)) ?_
 intro W base args ds gs before hval0 hW hcnd hwt0 _;have hval:∀(j:Nat) t v,Tryz.f3.params[j]?=some t->args[j]?=some v->Value.okWide prog W .any base t v:=hval0;have hwt:(DataW.weightsEach prog (Tryz.f3.params.toList++Rows.dyadCompleteSpec.plain.varTypes prog) (ds++gs)).all (· <= reachBytes)=true:=hwt0;have hW':=hW;obtain⟨p,q,hA0,hV,rfl,hfz,hnd⟩:=hW;have hA:DataW.TrodAll enc prog W 0 (fun _=>true) true Tryz.f3.params.toList args.toList ds p:=hA0;rw[Tryz.params3]at hA hval hwt;obtain⟨v0,v1,d0,d1,p0,p1,rfl,rfl,rfl,h0,h1⟩:=trodAll_two hA;obtain⟨rfl,rfl⟩:=trodVars_none hV;clear hA0 hval0 hwt0;have hlt:∀x∈p0++p1,x.block<W.heap.size:=fun x hx=>hW'.lt x (by simpa using hx)
 have hw0:∀n∈d0.weights prog 29,n<=reachBytes:=fun n hn=>by
  have:=List.all_eq_true.1 hwt n (DataW.weights_mem_each (j:=0) rfl rfl n hn);simpa using this
 have hw1:∀n∈d1.weights prog 5,n<=reachBytes:=fun n hn=>by
  have:=List.all_eq_true.1 hwt n (DataW.weights_mem_each (j:=1) rfl rfl n hn);simpa using this
 obtain⟨x0,q0,r0⟩:=KD Tryz.underlying29 Nu (hval 0 29 v0 rfl rfl) h0 hw0;obtain⟨x1,q1,r1⟩:=NB Rd (fun _=>rfl) (Oa Tryz.underlying5 (hval 1 5 v1 rfl rfl)) h1 hw1
 have hc:=iM.calls (W:=W) (vs:=#[v0,v1]) (Mh x0.1 q0.1 x0.2 q0.2.1 q0.2.2 x1 q1) rfl (fun j v x hv hx=>by
  match j,hv,hx with
  |0,hv,hx=>cases hv;cases hx;exact r0
  |1,hv,hx=>cases hv;cases hx;exact r1)
 refine hc.mono fun e W' ⟨he,hb⟩=>?_
 subst he;refine⟨_,rfl,UL hW' rfl rfl (fun _ _ _=>trodAll_mk1 (shut_bool Tryz.underlying4 _)) (fun sp hsp=>?_) rfl hb (ok_one (by kernel_rfl) rfl (okWide_bool_mk Tryz.underlying4 _))⟩;rw[Tryz.params3];have hs:∀x∈p0++p1,sp x.block=true:=fun x hx=>hsp x (by simpa using hx)
 have g0:=Ix (sp':=sp) (by kernel_rfl) (of_decide_eq_true (by kernel_rfl)) h0 hb (fun x hx=>hlt x (by simp[hx])) (fun x hx=>hs x (by simp[hx]));have g1:=Ix (sp':=sp) (by kernel_rfl) (of_decide_eq_true (by kernel_rfl)) h1 hb (fun x hx=>hlt x (by simp[hx])) (fun x hx=>hs x (by simp[hx]));have g:=trodAll_mk2 g0 g1;rw[show p0++p1++[]=p0++p1 from by simp];exact g
set_option maxRecDepth 100000 in
theorem UY:prog.closure 3=[3,13,54,131,243,88,188,295,362,189,187,221,312,368,313,292,293,360,386,375,388,335,387,334,294,361,389,336,45,60,107,220,236,326,327,374,247,139,248,337,18,63,143,250,104,204,300,363,364,390,205,208,303,305,325,367,366,373,391,392,351,393,394,397,395,396,323,258,257,304,306,324,206,301,302,365,232,321,372,207,339,376,398,405,400,408,409,407,377,399,406,402,401,378,251,340,144,252,318,230,237,278,328,209,319,238,329,286,233,234,322,370,371,330,331,239,231,320,240,121,145,253,341,146,255,352,254,342,348,384,343,379,344,380,381,345,382,383,403,346,347,349,350,147,229,64,148,105,256,151,262,353,385,404,149,150,170,91,89,190,153,165,191,280,127,357,283,176,285,356,172,192,171,152,169,261,80,174,284,177,71,163,281,358,77,175,75,78,154,65,70,166,156,155,259,354,260,73,157,167,272,273,274,116,168,282,173,275,270,266,276,267,263,264,265,355,268,269,271,161,277,279,158,164,66,74,90,159,67,81,178,76,82,79,160,162,22,69,72,29,94,182,92,193,290,183,195,296,291,194,196,140,184,185,222,26,24,86,14,55,132,56,15,40,111,225,316,315,317,112,226,113,227,228,38,108,114,57,133,244,134,16,58,135,59,136,245,137,246,333,138,17,61,142,141,249,338,62,21,23,83,179,97,288,30,95,289,359,87,186,287,84,85,181,180,19,68,20,28,93]:=by kernel_rfl
theorem Oh:joinedFacts prog 3 Tryz.f3 Rows.dyadCompleteSpec Rows.dyadCompleteRow=true:=by
 unfold joinedFacts Program.recurses Program.inPlace Program.unfollowed Program.varsNamed;rw[UY,Do,MX,Lp,RJ,Rj,Vs]
 kernel_rfl
theorem dyadComplete_holds:Rows.DyadCompleteSaid :=
 OpenClaim.holds_of_wide 3 Tryz.f3 rfl rfl rfl rfl rfl rfl rfl ⟨rfl, rfl, rfl, rfl, rfl⟩ rfl rfl rfl rfl rfl (by kernel_rfl) func3 Oh
  (of_decide_eq_true (by kernel_rfl)) (by unfold Func.isWrapper;first |(rw[if_pos (by decide +kernel)];kernel_rfl) |(rw[if_neg (by decide +kernel)];exact⟨rfl,rfl⟩))
  (fun os started H enc _=>J6 os started H enc)
end Go.Lw
namespace Go.Proofs.YtpdiojikejnehaaGreat
theorem dyadComplete_proved:Rows.DyadCompleteSaid:=Go.Lw.dyadComplete_holds
end Go.Proofs.YtpdiojikejnehaaGreat
