/- SingularMirrored: for any linkage and any turns the law returns true and leaves its arguments as they were. No other condition. Part 8 of 8: the statement -/
import Derived.Test.YtpdiojikejnehaaGreatRg
set_option linter.unusedVariables false
open List (mem_append append_nil map_id range_succ)
open List renaming mem_of_getElem? → Xx, mem_cons → X6, length_cons → XK, length_nil → XM, getD_eq_getElem?_getD → Xy, getElem?_append_left → XU, getElem?_map → XE, getElem?_append_right → XT, getElem?_eq_getElem → XC, map_append → XQ, length_take → XO, take_length → XP, not_mem_nil → XV, length_map → XA, getElem?_of_mem → Yd
open Nat renaming le_refl → XD, lt_or_ge → XH, le_trans → XW, zero_le → XJ
open Int renaming toNat_natCast → X3
open Go.Proofs.Tryz
namespace Go.Lw
open Lean.Grind (CommRing)
section
variable{ts T:LL}(L:Lf ts T)
include L
theorem Lf.pp{l:Li}{bs bs':List Pq}{j:Jt}{i:Int}(tie:(j.a=i/\cV bs bs' ts.length j.b)\/(j.a≠i/\j.b=i/\cV bs bs' ts.length j.a)) :
  ai L.pos (Lw.pinP l T bs' j i).1=ai L.pos (ay T (Lw.pinP l ts bs j i).1)/\ai L.pos (Lw.pinP l T bs' j i).2=ai L.pos (ay T (Lw.pinP l ts bs j i).2):=by
 unfold Lw.pinP;rcases tie with⟨e,hs⟩ |⟨e,e2,hs⟩
 ·rw[Yl e,Yl e];exact L.pt l hs j.on
 ·rw[Yk e,Yk e];exact L.pt l hs j.point
end
structure DetH(l:Li)(a:As)(g:Gr)(s:Sv):Prop where
  lf:Lf (llq a.rs) s.ts
  sg:am (cD l s.ts (a7 (aK a) g.bo s.ps) g)=s.mode
  rd:ai lf.pos (p7 l s.ts (a7 (aK a) g.bo s.ps) g)=ai lf.pos (ay s.ts (Am l a g))
section
variable{l:Li}{a:As}{r:Nat}(tw:Tw (llq a.rs) r)(hN:∀p∈aK a,Nq (llq a.rs).length p)
include tw hN
theorem WQ{i k z0 z1 z2:Int}{j0 j1 j2:Jt}(ne:i≠k)(t0:TieO l 0 [i,k] z0 i j0)(t1:TieO l 0 [i,k] z1 k j1)(h2:l.jo[z2.toNat]?=some j2)
  (hi:0<=i) (hk:0<=k) (hil:i.toNat<(aK a).length) (hkl:k.toNat<(aK a).length) (hn:∀j∈l.jo,0<=j.a/\0<=j.b)
  {s:Sv} (hs:s∈jb l a i k j0 j1 j2):DetH l a ⟨1,[i,k],[z0,z1,z2],0⟩ s:=by
 have e0:ao l ⟨1,[i,k],[z0,z1,z2],0⟩ 0=j0:=aq t0.hj;have e1:ao l ⟨1,[i,k],[z0,z1,z2],0⟩ 1=j1:=aq t1.hj;have e2:ao l ⟨1,[i,k],[z0,z1,z2],0⟩ 2=j2:=aq h2;have b0:aP ⟨1,[i,k],[z0,z1,z2],0⟩ 0=i:=rfl;have b1:aP ⟨1,[i,k],[z0,z1,z2],0⟩ 1=k:=rfl;unfold jb at hs;split at hs
 ·cases hs
 ·rename_i hz;obtain⟨w1,w2⟩:=rS (Bool.eq_false_iff.2 hz);split at hs
  ·cases hs
  ·rename_i hc;have hc:=Decidable.not_not.1 hc;have geo:=QS tw hc (Ic tw hN w1);unfold jq at hs;obtain⟨m,hm,rfl⟩:=List.mem_map.1 hs;obtain⟨x,hx⟩:=aw (List.mem_range.1 hm);have G:=geo m x hx;unfold jp;rw[aq hx];obtain⟨n0,n1⟩:=hn j0 (Xx t0.hj);obtain⟨n2,n3⟩:=hn j1 (Xx t1.hj);generalize hM:dY (aG l a j0 i) (aG l a j1 k) (qE (bF (ak l j2 i) (ak l j0 i))) (qE (bF (ak l j2 k) (ak l j1 k)))=M at *;obtain⟨B0,hB0⟩:∃B0,B0=kF M.ts x ⟨ak l j0 i,P2.l (aG l a j0 i),ak l j2 i⟩:=⟨_,rfl⟩
   obtain⟨B1,hB1⟩:∃B1,B1=kF M.ts x ⟨ak l j1 k,P2.l (aG l a j1 k),ak l j2 k⟩:=⟨_,rfl⟩
   have hbs:a7 (aK a) [i,k] [B0,B1]=((aK a).set i.toNat B0).set k.toNat B1:=rfl;have g0:(a7 (aK a) [i,k] [B0,B1]).getD i.toNat bb=B0:=by rw[hbs,ki hk hi ne,mn hil]
   have gn:∀b:Int,0<=b->b∉[i,k]->cV (aK a) (a7 (aK a) [i,k] [B0,B1]) (llq a.rs).length b:=fun b h0 hb=>oh tw hN (by
    rw[hbs,ki hk h0 (fun e=>hb (by simp[e])),ki hi h0 (fun e=>hb (by simp[e]))])
   have q0:co M.ts B0 (ak l j2 i)=(dE M.ts x.1,dE M.ts x.2):=by
    rw[hB0];refine(sF w1).trans ?_;unfold ky jy;refine Prod.ext ?_ ?_
    ·dsimp only;grind
    ·dsimp only;grind
   have L:=G.lf
   have P0:=L.pp (l:=l) (bs:=aK a) (bs':=a7 (aK a) [i,k] [B0,B1]) (j:=j0) (i:=i) (by
    rcases t0.tie with⟨e,hb⟩ |⟨e,hb⟩
    ·exact .inl ⟨e,gn _ n1 hb⟩
    ·exact .inr ⟨fun e2=>hb (by simp[e2]),e,gn _ n0 hb⟩)
   have P1:=L.pp (l:=l) (bs:=aK a) (bs':=a7 (aK a) [i,k] [B0,B1]) (j:=j1) (i:=k) (by
    rcases t1.tie with⟨e,hb⟩ |⟨e,hb⟩
    ·exact .inl ⟨e,gn _ n3 hb⟩
    ·exact .inr ⟨fun e2=>hb (by simp[e2]),e,gn _ n2 hb⟩)
   have hr:=yr L (l:=l) (g:=⟨1,[i,k],[z0,z1,z2],0⟩) (bs:=aK a) (bs':=a7 (aK a) [i,k] [B0,B1]) (fun _=>by rw[e0,b0];exact P0) (fun _=>by rw[e1,b1];exact P1) (fun h=>absurd h (by simp)) (fun _ h=>absurd rfl h)
   have hd:=G.ex (cD l M.ts (a7 (aK a) [i,k] [B0,B1]) ⟨1,[i,k],[z0,z1,z2],0⟩) (by
    rw[Si rfl,e0,e1,e2,b0,b1,g0,q0];unfold gN crsE aQ;dsimp only;rw[bR,bM,bM,bR,bR,bR,bR,P0.1,P0.2,P1.1,P1.2,<- o0,<- o0])
   rw[hB0,hB1]at hr hd;exact⟨L,hd,by rw[zG];exact hr⟩
theorem VI{i z0 z1:Int}{j0 j:Jt}(t0:TieO l 0 [i] z0 i j0)(t1:TieO l 1 [i] z1 i j)(ha:j.a=i)(hi:0<=i)(hil:i.toNat<(aK a).length)(hn:∀j∈l.jo,0<=j.a/\0<=j.b)
  {s:Sv} (hs:s∈jk l a i j0 j):DetH l a ⟨2,[i],[z0,z1],0⟩ s:=by
 have e0:ao l ⟨2,[i],[z0,z1],0⟩ 0=j0:=aq t0.hj;have e1:ao l ⟨2,[i],[z0,z1],0⟩ 1=j:=aq t1.hj;have b0:aP ⟨2,[i],[z0,z1],0⟩ 0=i:=rfl;unfold jk at hs;split at hs
 ·cases hs
 ·rename_i hz;have w1:=r4 (Bool.eq_false_iff.2 hz);split at hs
  ·cases hs
  ·rename_i hc;have hc:=Decidable.not_not.1 hc;have geo:=Nk tw (c:=aG l a j0 i) (z:=qE (bF (aS l i j.point) (ak l j0 i))) hc;unfold jq at hs;obtain⟨m,hm,rfl⟩:=List.mem_map.1 hs;obtain⟨x,hx⟩:=aw (List.mem_range.1 hm);have G:=geo m x hx;have L:=G.lf;unfold jp;rw[aq hx];obtain⟨n0,n1⟩:=hn j0 (Xx t0.hj);obtain⟨n2,n3⟩:=hn j (Xx t1.hj);generalize hM:dZ (bh l a j.b j.on) (bh l a j.b j.to) (aG l a j0 i) (qE (bF (aS l i j.point) (ak l j0 i)))=M at *;obtain⟨B0,hB0⟩:∃B0,B0=kF M.ts x ⟨ak l j0 i,P2.l (aG l a j0 i),aS l i j.point⟩:=⟨_,rfl⟩
   have hbs:a7 (aK a) [i] [B0]=(aK a).set i.toNat B0:=rfl;have g0:(a7 (aK a) [i] [B0]).getD i.toNat bb=B0:=by rw[hbs,mn hil]
   have gn:∀b:Int,0<=b->b∉[i]->cV (aK a) (a7 (aK a) [i] [B0]) (llq a.rs).length b:=fun b h0 hb=>oh tw hN (by
    rw[hbs,ki hi h0 (fun e=>hb (by simp[e]))])
   have q0:co M.ts B0 (aS l i j.point)=(dE M.ts x.1,dE M.ts x.2):=by
    rw[hB0];refine(sF w1).trans ?_;unfold ky jy;refine Prod.ext ?_ ?_
    ·dsimp only;grind
    ·dsimp only;grind
   have hjb:cV (aK a) (a7 (aK a) [i] [B0]) (llq a.rs).length j.b:=by
    rcases t1.tie with⟨e,hb⟩ |⟨e,hb⟩
    ·exact gn _ n3 hb
    ·exact absurd (by simp[ha]) hb
   have P0:=L.pp (l:=l) (bs:=aK a) (bs':=a7 (aK a) [i] [B0]) (j:=j0) (i:=i) (by
    rcases t0.tie with⟨e,hb⟩ |⟨e,hb⟩
    ·exact .inl ⟨e,gn _ n1 hb⟩
    ·exact .inr ⟨fun e2=>hb (by simp[e2]),e,gn _ n0 hb⟩)
   have on:=L.pt l hjb j.on;have to:=L.pt l hjb j.to;have hr:=yr L (l:=l) (g:=⟨2,[i],[z0,z1],0⟩) (bs:=aK a) (bs':=a7 (aK a) [i] [B0]) (fun _=>by rw[e0,b0];exact P0) (fun h=>absurd h (by simp)) (fun _ pt=>by rw[e1];exact L.pt l hjb pt) (fun _ _ h=>absurd rfl h)
   have hd:=G.ex (cD l M.ts (a7 (aK a) [i] [B0]) ⟨2,[i],[z0,z1],0⟩) (by
    rw[LR rfl,e0,e1,b0,g0,q0];unfold dB dotE aQ;dsimp only;rw[fZ,bM,bM,bR,bR,bR,bR,P0.1,P0.2,on.1,on.2,to.1,to.2,<- o0,<- iM,<- iM])
   rw[hB0]at hr hd;exact⟨L,hd,by rw[zG];exact hr⟩
theorem zL{i z0 z1:Int}{j0 j:Jt}(t0:TieO l 0 [i] z0 i j0)(t1:TieO l 1 [i] z1 i j)(ha:j.a≠i)(hi:0<=i)(hil:i.toNat<(aK a).length)(hn:∀j∈l.jo,0<=j.a/\0<=j.b)(hv:bY (cr l i j) (cr l i j)≠0)
  (hd:am (cc l a i j0 j)≠0) {T:LL} (L:Lf (llq a.rs) T) {q:List Rat} {n:Int} (hm:am (dE T q)=n) :
  DetH l a ⟨3,[i],[z0,z1],0⟩ ⟨T,[no T (di l a i j0 j) q],n⟩:=by
 have a0:ao l ⟨3,[i],[z0,z1],0⟩ 0=j0:=aq t0.hj;have a1:ao l ⟨3,[i],[z0,z1],0⟩ 1=j:=aq t1.hj;have b0:aP ⟨3,[i],[z0,z1],0⟩ 0=i:=rfl;obtain⟨n0,n1⟩:=hn j0 (Xx t0.hj);obtain⟨n2,n3⟩:=hn j (Xx t1.hj)
 obtain⟨tb,tn⟩:j.b=i/\j.a∉[i]:=by
  rcases t1.tie with⟨e,hb⟩ |h
  ·exact absurd e ha
  ·exact h
 obtain⟨w,hw⟩:∃w:P2 T,w=mM T q (di l a i j0 j).h (di l a i j0 j).d (di l a i j0 j).w:=⟨_,rfl⟩
 obtain⟨o,ho⟩:∃o:P2 T,o=(ay T (aG l a j0 i).1,ay T (aG l a j0 i).2):=⟨_,rfl⟩
 obtain⟨B0,hB0⟩:∃B0,B0=gd (cr l i j) w (ak l j0 i) o:=⟨_,rfl⟩
 have e0:no T (di l a i j0 j) q=B0:=by rw[hB0,hw,ho];rfl
 rw[e0];have hbs:a7 (aK a) [i] [B0]=(aK a).set i.toNat B0:=rfl;have g0:(a7 (aK a) [i] [B0]).getD i.toNat bb=B0:=by rw[hbs,mn hil]
 have gn:∀b:Int,0<=b->b∉[i]->cV (aK a) (a7 (aK a) [i] [B0]) (llq a.rs).length b:=fun b h0 hb=>oh tw hN (by
  rw[hbs,ki hi h0 (fun e=>hb (by simp[e]))])
 have hD:ai L.pos (ay T (cc l a i j0 j))=ai L.pos (ay T (bU l a i j0 j).1)*ai L.pos (ay T (bU l a i j0 j).1)+ai L.pos (ay T (bU l a i j0 j).2)*ai L.pos (ay T (bU l a i j0 j).2):=by
  rw[<- L.mul,<- L.mul,<- L.add];rfl
 have hI:ai L.pos (iE (ay T (cc l a i j0 j)))*ai L.pos (ay T (cc l a i j0 j))=1:=xg L.pos (fun e=>hd ((L.zero _).1 e));have eh:dE T (di l a i j0 j).h=qE (cm l i j0 j):=gM _ _;have x1:w.1=(dE T q*ay T (bU l a i j0 j).1-qE (cm l i j0 j)*-ay T (bU l a i j0 j).2)*iE (ay T (cc l a i j0 j)):=by rw[hw,<- eh];rfl
 have x2:w.2=(dE T q*ay T (bU l a i j0 j).2-qE (cm l i j0 j)*ay T (bU l a i j0 j).1)*iE (ay T (cc l a i j0 j)):=by rw[hw,<- eh];rfl
 have G:=SY hD hI (t:=ai L.pos (dE T q)) (hh:=ai L.pos (qE (cm l i j0 j))) (w1:=ai L.pos w.1) (w2:=ai L.pos w.2) (by rw[x1,bM,bR,bM,bM,Cz]) (by rw[x2,bM,bR,bM,bM])
 have P0:=L.pp (l:=l) (bs:=aK a) (bs':=a7 (aK a) [i] [B0]) (j:=j0) (i:=i) (by
  rcases t0.tie with⟨e,hb⟩ |⟨e,hb⟩
  ·exact .inl ⟨e,gn _ n1 hb⟩
  ·exact .inr ⟨fun e2=>hb (by simp[e2]),e,gn _ n0 hb⟩)
 have hja:=gn _ n2 tn;have pp:=L.pt l hja j.point;have hr:=yr L (l:=l) (g:=⟨3,[i],[z0,z1],0⟩) (bs:=aK a) (bs':=a7 (aK a) [i] [B0]) (fun _=>by rw[a0,b0];exact P0) (fun h=>absurd h (by simp)) (fun h=>absurd h (by simp)) (fun _ _ _ pt=>by rw[a1];exact L.pt l hja pt)
 have W1:ai L.pos (ay T (bU l a i j0 j).1)=ai L.pos (aV l T (a7 (aK a) [i] [B0]) j.a j.point).1-ai L.pos (pinP l T (a7 (aK a) [i] [B0]) j0 i).1:=by
  rw[pp.1,P0.1,<- L.sub,<- iM,<- o0];rfl
 have W2:ai L.pos (ay T (bU l a i j0 j).2)=ai L.pos (aV l T (a7 (aK a) [i] [B0]) j.a j.point).2-ai L.pos (pinP l T (a7 (aK a) [i] [B0]) j0 i).2:=by
  rw[pp.2,P0.2,<- L.sub,<- iM,<- o0];rfl
 have eon:aV l T (a7 (aK a) [i] [B0]) j.b j.on=co T B0 (aS l i j.on):=by unfold aV;rw[tb,g0]
 have eto:aV l T (a7 (aK a) [i] [B0]) j.b j.to=co T B0 (aS l i j.to):=by unfold aV;rw[tb,g0]
 have gg:=A5 (w:=w) hv;have v1:(qE (cr l i j).1:Et T)=qE ((aS l i j.to).1-(ak l j0 i).1)-qE ((aS l i j.on).1-(ak l j0 i).1):=by rw[<- mz];congr 1;show(aS l i j.to).1-(aS l i j.on).1=_;grind
 have v2:(qE (cr l i j).2:Et T)=qE ((aS l i j.to).2-(ak l j0 i).2)-qE ((aS l i j.on).2-(ak l j0 i).2):=by rw[<- mz];congr 1;show(aS l i j.to).2-(aS l i j.on).2=_;grind
 have d1:(co T B0 (aS l i j.to)).1-(co T B0 (aS l i j.on)).1=w.1:=by
  rw[hB0,nJ,nJ];dsimp only;have g1:=gg.1;rw[v1,v2]at g1;rw[<- g1];generalize dt (cr l i j) w=C;generalize dc (cr l i j) w=S;clear g1;grind
 have d2:(co T B0 (aS l i j.to)).2-(co T B0 (aS l i j.on)).2=w.2:=by
  rw[hB0,nJ,nJ];dsimp only;have g1:=gg.2;rw[v1,v2]at g1;rw[<- g1];generalize dt (cr l i j) w=C;generalize dc (cr l i j) w=S;clear g1;grind
 have hdt:ai L.pos (cD l T (a7 (aK a) [i] [B0]) ⟨3,[i],[z0,z1],0⟩)=ai L.pos (dE T q):=by
  rw[S8 rfl,a0,a1,b0,eon,eto];unfold dB dotE aQ;dsimp only;rw[d1,d2,fZ,bM,bM,bR,bR,<- W1,<- W2];exact G
 refine⟨L,?_,by rw[zG];exact hr⟩;show am (cD l T (a7 (aK a) [i] [B0]) _)=n;rw[<- hm];exact wm L.pos hdt
theorem W4{i z0 z1:Int}{j0 j:Jt}(t0:TieO l 0 [i] z0 i j0)(t1:TieO l 1 [i] z1 i j)(ha:j.a≠i)(hi:0<=i)(hil:i.toNat<(aK a).length)(hn:∀j∈l.jo,0<=j.a/\0<=j.b)(hv:bY (cr l i j) (cr l i j)≠0)
  {s:Sv} (hs:s∈jN l a i j0 j):DetH l a ⟨3,[i],[z0,z1],0⟩ s:=by
 unfold jN at hs;split at hs
 ·cases hs
 ·rename_i h1;split at hs
  ·cases hs
  ·rename_i h2;have hd:=sC tw h2 h1;split at hs
   ·rename_i h3;have hp:=pg tw.pos h3;have L:=rf (bq l a i j0 j) hp;have s1:=yX (GH tw.pos h3);unfold jw at hs;obtain⟨m,hm,rfl⟩:=List.mem_map.1 hs;have hm:=List.mem_range.1 hm;unfold iH
    match m,hm with
    |0,_ =>
     exact zL tw hN t0 t1 ha hi hil hn hv hd L s1
    |1,_ =>
     refine zL tw hN t0 t1 ha hi hil hn hv hd L ?_;show am (dE _ (sX (-bt (bq l a i j0 j))))=_;rw[ek,yD hp,s1];rfl
    |m+2,h=>exact absurd h (by simp)
   ·rename_i h3;have hX:am (bq l a i j0 j) = 0:=by omega
    have L:=nO (ts:=llq a.rs) tw.pos;unfold jw at hs;obtain⟨m,hm,rfl⟩:=List.mem_map.1 hs;have hm:=List.mem_range.1 hm;unfold iH;have e0:(dE (llq a.rs) []:Et (llq a.rs))=0:=by rw[E.zero_def];exact iW _
    match m,hm with
    |0,_ =>
     refine zL tw hN t0 t1 ha hi hil hn hv hd L ?_;show am (dE _ [])=_;rw[e0];exact(ep _ _ L.pos).zero
    |m+1,h=>exact absurd h (by simp)
theorem PT{g:Gr}(hg:DyK l g)(hgb:∀b∈g.bo,0<=b/\b.toNat<(aK a).length)(hli:aA l=0){x:Tn}{s:Sv}(hs:s∈eV l a g x):DetH l a g s:=by
 have hn:∀j∈l.jo,0<=j.a/\0<=j.b:=fun j hj=>by
  obtain⟨n,hn⟩:=Yd hj;obtain⟨i1,i2,_⟩:=cO hli hn;have i1:=cW i1;have i2:=cW i2;omega
 cases hg with
 | @drv b z d j dr t d0 hd hb =>
  have e:ao l ⟨0,[b],[z],d⟩ 0=j:=aq t.hj;have hs:s∈j9 l a b j x:=by rw[<- e];exact hs
  unfold j9 at hs;split at hs
  ·cases hs
  ·rw[List.mem_singleton.1 hs];have L:=nO (ts:=llq a.rs) tw.pos;have q1:(qE 1:Et (llq a.rs))=1:=rfl;refine⟨L,?_,?_⟩
   ·show am (qE 1:Et (llq a.rs))=1;rw[q1];exact(ep _ _ tw.pos).one
   ·show ai L.pos (qE 1:Et (llq a.rs))=ai L.pos (ay (llq a.rs) (qE 1));rw[dh]
 | @rrr i k z0 z1 z2 j0 j1 j2 ne t0 t1 h0 h2 kd tie =>
  have e0:ao l ⟨1,[i,k],[z0,z1,z2],0⟩ 0=j0:=aq t0.hj;have e1:ao l ⟨1,[i,k],[z0,z1,z2],0⟩ 1=j1:=aq t1.hj;have e2:ao l ⟨1,[i,k],[z0,z1,z2],0⟩ 2=j2:=aq h2;have hs:s∈jb l a i k j0 j1 j2:=by rw[<- e0,<- e1,<- e2];exact hs
  obtain⟨b1,b2⟩:=hgb i (by simp);obtain⟨b3,b4⟩:=hgb k (by simp);exact WQ tw hN ne t0 t1 h2 b1 b3 b2 b4 hn hs
 | @pr i z0 z1 j0 j1 t0 t1 ha =>
  have e0:ao l ⟨2,[i],[z0,z1],0⟩ 0=j0:=aq t0.hj;have e1:ao l ⟨2,[i],[z0,z1],0⟩ 1=j1:=aq t1.hj;have hs:s∈jk l a i j0 j1:=by rw[<- e0,<- e1];exact hs
  obtain⟨b1,b2⟩:=hgb i (by simp);exact VI tw hN t0 t1 ha b1 b2 hn hs
 | @rp i z0 z1 j0 j1 t0 t1 ha =>
  have e0:ao l ⟨3,[i],[z0,z1],0⟩ 0=j0:=aq t0.hj;have e1:ao l ⟨3,[i],[z0,z1],0⟩ 1=j1:=aq t1.hj;have hs:s∈jN l a i j0 j1:=by rw[<- e0,<- e1];exact hs
  obtain⟨b1,b2⟩:=hgb i (by simp)
  have tb:j1.b=i:=by
   rcases t1.tie with⟨e,_⟩ |⟨e,_⟩
   ·exact absurd e ha
   ·exact e
  exact W4 tw hN t0 t1 ha b1 b2 hn (wT hli t1.hj (by rw[t1.kd];decide) tb) hs
end
def sf(l:Li)(a:Aq):Prop:=∀m g,m<a.ms.length->(splitG l)[m]?=some g->am (cD l a.ts a.bs g)=a.ms.getD m 0
section
variable{l:Li}{xs:List Tn}{s g:Nat}(W:WkC l xs s g){gr:Gr}{a:Aq}(hg:(splitG l)[a.ms.length]?=some gr)
variable{j r E:Nat}(Q:QInv l j r E a)
include W hg Q
theorem KW(ps:List Pq):∀m g2,m<a.ms.length->(splitG l)[m]?=some g2->∀b:Int,0<=b->(b∈g2.bo\/kn (fA l (splitG l) m) b=true)->cV a.bs (a7 a.bs gr.bo ps) a.ts.length b:=by
 obtain⟨dy,ok⟩:=W.grp hg;have N:=uU W.li W.sp hg;have hN':∀i,Nq a.ts.length (a.bs.getD i bb):=fun i=>z9 (fun p hp=>(Q.bs p hp).nq) i
 have mono:∀(k m:Nat),m+k<=a.ms.length->∀b:Int,0<=b->kn (fA l (splitG l) m) b=true->kn (fA l (splitG l) (m+k)) b=true:=by
  intro k
  induction k with
  |zero=>intro m _ b _ h;exact h
  |succ k ih =>
   intro m hm b h0 h;have h1:=ih m oz b h0 h;have hlt:m+k<(splitG l).length:=by have:=(List.getElem?_eq_some_iff.1 hg).1;omega
   obtain⟨g2,hg2⟩:=aw hlt;rw[show m+(k+1)=(m+k)+1 by omega,rH hg2 (W.grp hg2).2 h0,h1];simp
 intro m g2 hm hg2 b h0 hb
 have h1:kn (fA l (splitG l) (m+1)) b=true:=by
  rw[rH hg2 (W.grp hg2).2 h0];rcases hb with hb |hb
  ·have : g2.bo.any (fun x => decide (x = b)) = true := by rw [List.any_eq_true]; exact ⟨b, hb, by simp⟩
   rw[this];rfl
  ·rw[hb];simp
 have h2:=mono (a.ms.length-(m+1)) (m+1) oz b h0 h1;rw[show m+1+(a.ms.length-(m+1))=a.ms.length by omega]at h2;have hb2:b∉gr.bo:=fun hb=>by rw[N.b b hb]at h2;cases h2
 exact⟨G0 (fun x hx=>(ok.b x hx).1) hb2 h0,hN' _⟩
theorem RR(H:sf l a){sv:Sv}(hs:sv∈eV l a.as gr (cz gr xs)):sf l (a.nxt gr sv):=by
 have tw:=QInv.twl W hg Q;have hq:(Lw.llq a.as.rs)=a.ts:=a.llq;obtain⟨dy,ok⟩:=W.grp hg
 have hN:∀p∈aK a.as,Nq (Lw.llq a.as.rs).length p:=by
  intro p hp;rw[mW]at hp;rw[hq];exact(Q.bs p hp).nq
 have D:=PT tw hN dy (fun b hb=>by
  rw[mW];have:=ok.b b hb;have:=Q.ln;omega) W.li hs
 have L:Lf a.ts sv.ts:=Hc hq D.lf;have hsg:=D.sg;rw[mW]at hsg;have hml:(a.nxt gr sv).ms.length=a.ms.length+1:=by show(a.ms++[sv.mode]).length=_;simp
 intro m g2 hm hg2;rw[hml]at hm;show am (cD l sv.ts (a7 a.bs gr.bo sv.ps) g2)=(a.ms++[sv.mode]).getD m 0
 by_cases e:m=a.ms.length
 ·subst e;rw[hg]at hg2;cases hg2;rw[Xy,XT (XD _),Nat.sub_self];exact hsg
 ·have hlt : m < a.ms.length := by omega
  have S:=KW W hg Q sv.ps m g2 hlt hg2;have h1:=H m g2 hlt hg2;have N2:=uU W.li W.sp hg2;obtain⟨dy2,ok2⟩:=W.grp hg2
  have jn:∀{z:Int}{jt:Jt},z∈g2.jo->l.jo[z.toNat]?=some jt->cV a.bs (a7 a.bs gr.bo sv.ps) a.ts.length jt.a/\cV a.bs (a7 a.bs gr.bo sv.ps) a.ts.length jt.b:=fun hz hj=>by
   obtain⟨i1,i2,_⟩:=cO W.li hj;have i1:=cW i1;have i2:=cW i2;obtain⟨na,nb⟩:=N2.j _ hz _ hj;exact⟨S _ i1.1 na,S _ i2.1 nb⟩
  have A:(g2.kind≠0->cV a.bs (a7 a.bs gr.bo sv.ps) a.ts.length (ao l g2 0).a/\cV a.bs (a7 a.bs gr.bo sv.ps) a.ts.length (ao l g2 0).b)/\(g2.kind≠0->cV a.bs (a7 a.bs gr.bo sv.ps) a.ts.length (ao l g2 1).a/\cV a.bs (a7 a.bs gr.bo sv.ps) a.ts.length (ao l g2 1).b) /\
    (g2.kind≠0->cV a.bs (a7 a.bs gr.bo sv.ps) a.ts.length (aP g2 0)):=by
   have own:∀b∈g2.bo,cV a.bs (a7 a.bs gr.bo sv.ps) a.ts.length b:=fun b hb=>S b (ok2.b b hb).1 (.inl hb)
   cases dy2 with
   | @drv b z d jt dr t d0 hd hb=>exact⟨fun h=>absurd rfl h,fun h=>absurd rfl h,fun h=>absurd rfl h⟩
   | @rrr i k z0 z1 z2 j0 j1 j2 ne t0 t1 h0 h2 kd tie =>
    have e0:ao l ⟨1,[i,k],[z0,z1,z2],0⟩ 0=j0:=aq t0.hj;have e1:ao l ⟨1,[i,k],[z0,z1,z2],0⟩ 1=j1:=aq t1.hj;rw[e0,e1];exact⟨fun _=>jn (by simp) t0.hj,fun _=>jn (by simp) t1.hj,fun _=>own _ (by simp[aP])⟩
   | @pr i z0 z1 j0 j1 t0 t1 ha =>
    have e0:ao l ⟨2,[i],[z0,z1],0⟩ 0=j0:=aq t0.hj;have e1:ao l ⟨2,[i],[z0,z1],0⟩ 1=j1:=aq t1.hj;rw[e0,e1];exact⟨fun _=>jn (by simp) t0.hj,fun _=>jn (by simp) t1.hj,fun _=>own _ (by simp[aP])⟩
   | @rp i z0 z1 j0 j1 t0 t1 ha =>
    have e0:ao l ⟨3,[i],[z0,z1],0⟩ 0=j0:=aq t0.hj;have e1:ao l ⟨3,[i],[z0,z1],0⟩ 1=j1:=aq t1.hj;rw[e0,e1];exact⟨fun _=>jn (by simp) t0.hj,fun _=>jn (by simp) t1.hj,fun _=>own _ (by simp[aP])⟩
  have zd:=SH L (l:=l) (g:=g2) A.1 A.2.1 A.2.2;rw[wm L.pos zd,L.sg,h1,Xy,Xy,XU hlt]
end
theorem EA{l:Li}{xs:List Tn}{s g:Nat}(W:WkC l xs s g){F:Nat->Int->Bool}{sg:Bool}:∀(n:Nat)(a:Aq),WkSt l s g n a->sf l a->∀b∈(gh F sg l xs (splitG l) n a).1,WkSt l s g 0 b/\sf l b
 |0,a,h,H,b,hb=>by rw[List.mem_singleton.1 hb];exact⟨h,H⟩
 |n+1,a,h,H,b,hb=>by
  obtain⟨gr,hg,_,hP,hn⟩:=h.next W;obtain⟨⟨j,r,E,y,Q,ok,hc⟩,hl⟩:=h;unfold gh at hb;rw[aq hg]at hb;split at hb
  ·cases hb
  ·obtain⟨sv,hsv,h2⟩:=IA hb;exact EA W n _ (hn sv hsv) (RR W hg Q H hsv) b h2
structure AqMd(l:Li)(a:Aq):Prop where
  sp:splitE l=0
  ml:a.ms.length=(splitG l).length
  md:sf l a
theorem Tz{l:Li}(hl:l.ok){xs:List Tn}(hL:i7 l xs=true)(hxw:∀x∈xs,x.t.wok){A:List Aq}{e:Nat}(h:jc l xs=(A,e)):∀a∈A,AqMd l a:=by
 by_cases h0:cJ l xs=0
 ·obtain⟨s,g,W,St⟩:=uW hL hl hxw h0;have hw:=EA W (F:=ia) (sg:=false) (splitG l).length (eO l) St (fun m g h=>absurd h (Nat.not_lt_zero _));unfold jc at h;rw[Yk (fun h=>h h0)]at h;intro a ha;split at h
  ·cases h;cases ha
  ·have e1:(mb ia false l xs).1=A:=congrArg Prod.fst h;rw[<- e1]at ha;obtain⟨h1,h2⟩:=hw a ha;obtain⟨_,hl⟩:=h1;exact⟨W.sp,by omega,h2⟩
 ·unfold jc at h;rw[Yl h0]at h;cases h;intro a ha;cases ha
end Go.Lw
namespace Go.Lw
def mv(s:ByteArray)(n:Int):Bd:=⟨s,[⟨⟨#[97]⟩,rt ((0:Int):Rat),rt ((0:Int):Rat)⟩,⟨⟨#[98]⟩,rt (n:Rat),rt ((0:Int):Rat)⟩]⟩
def fb:Li:=⟨⟨#[102,111,117,114,98,97,114]⟩,[mv ⟨#[102,114,97,109,101]⟩ 4,mv ⟨#[99,114,97,110,107]⟩ 3,mv ⟨#[99,111,117,112,108,101,114]⟩ 5,mv ⟨#[114,111,99,107,101,114]⟩ 6],
  [⟨⟨#[111]⟩,0,1,0,0,0,0⟩,⟨⟨#[112]⟩,0,2,0,1,1,0⟩,⟨⟨#[113]⟩,0,3,0,0,1,0⟩,⟨⟨#[114]⟩,0,2,1,3,1,0⟩],[⟨⟨#[100]⟩,1⟩]⟩
def t0:Tn:=⟨⟨false,[],[]⟩,false⟩
theorem yV(a b:ByteArray):dS a b=(a.data.toList==b.data.toList):=by
 unfold dS;rw[Go.ByteArray.toList_eq,Go.ByteArray.toList_eq]
theorem FD:aA fb=0:=by
 have h1:fQ fb=0:=by
  unfold fQ fh dG gE dC;simp only[yV];decide +kernel
 have h2:d6 fb=0:=by
  unfold d6 fh fK gE;simp only[yV];decide +kernel
 have h3:fu fb=0:=by
  unfold fu fh dM gE;simp only[yV];decide +kernel
 unfold aA;rw[h1,h2,h3];decide +kernel
theorem MC{s:ByteArray}(hs:s.size<=281474976710656){n:Int}(hn:-9223372036854775808<=n/\n<=9223372036854775807) :
  (mv s n).name.size<=281474976710656/\(mv s n).pts.length<=281474976710656/\∀m∈(mv s n).pts,m.name.size<=281474976710656/\m.x.wok/\m.y.wok:=by
 have h0:(rt ((0:Int):Rat)).ok:=(rL oz).ok;have h1:(rt (n:Rat)).ok:=(rL hn).ok;refine⟨hs,by show 2<=_;omega,fun m hm=>?_⟩;simp only[mv,X6,XV,or_false]at hm;rcases hm with rfl |rfl
 ·exact⟨by show 1<=_;omega,h0.wok,h0.wok⟩
 ·exact⟨by show 1<=_;omega,h1.wok,h0.wok⟩
theorem Vm:fb.okw:=by
 refine⟨by decide,fun b hb=>?_,fun j hj=>?_,fun d hd=>?_,by decide,by decide,by decide⟩
 ·simp only[fb,X6,XV,or_false]at hb;rcases hb with rfl |rfl |rfl |rfl <;> exact MC (by decide) oz
 ·simp only[fb,X6,XV,or_false]at hj;rcases hj with rfl |rfl |rfl |rfl <;> decide
 ·simp only[fb,X6,XV,or_false]at hd;rcases hd with rfl;decide
theorem uG:fb.ok:=uT (by decide +kernel) Vm
open Go.Proofs
theorem kC.ofL{l l':List AV}(h:SubL l l')(ho:l'.all AV.one=true):kC (.agg l) (.agg l') :=
 ⟨h.len,fun j x y hx hy=>⟨List.all_eq_true.1 ho y (Xx hy),h.get j x y hx hy⟩⟩
theorem Io(s:ByteArray)(x y:Int)(hx:-9223372036854775808<=x/\x<=9223372036854775807)(hy:-9223372036854775808<=y/\y<=9223372036854775807):FP 243 [.v (.string s),i64 x,i64 y] (Mk.av ⟨s,rt (x:Rat),rt (y:Rat)⟩):=by
 refine aj func243 ?_;refine gc (Js x hx) ?_;refine gc (Js y hy) ?_;refine af ?_
 first |rfl |(simp;done)
theorem vu(s:ByteArray)(n:Int)(hn:-9223372036854775808<=n/\n<=9223372036854775807):FP 131 [.v (.string s),i64 n] (mv s n).av:=by
 refine aj func131 ?_;refine gc (Io _ 0 0 oz oz) ?_;refine gc (Io _ n 0 hn oz) ?_;refine af ?_
 first |rfl |(simp;done)
theorem VH:FP 54 [] fb.av:=by
 refine aj func54 ?_;refine gc (vu _ 4 oz) ?_;refine gc (vu _ 3 oz) ?_;refine gc (vu _ 5 oz) ?_;refine gc (vu _ 6 oz) ?_;refine af ?_
 first |rfl |(simp;done)
deriving instance DecidableEq for Pq
deriving instance DecidableEq for Aq
def PX:List Aq×Nat:=mb ia false fb [cZ]
theorem PD:cJ fb [cZ]=0:=by
 unfold cJ sS;rw[Yk (by rw[FD];decide),Yk (show ¬splitE fb≠0 by decide +kernel),Yk (show ¬[cZ].length≠fb.dv.length by decide +kernel)];decide +kernel
def aF:Aq:=⟨[],[⟨[1],[],[],[]⟩,⟨[1],[],[],[]⟩,⟨[-1],[],[3],[]⟩,⟨[-1],[],[4],[]⟩],[1,0]⟩
theorem MQ:PX=([aF],0):=by decide +kernel
theorem u7:WkC fb [cZ] 32 134:=by
 have z:cZ.t.q=0:=by decide +kernel
 have h0:Qb 32 cZ.t.q:=by rw[z];exact Qb.zero.mono oz
 refine⟨uG,FD,by decide +kernel,?_,rfl,fun x hx=>?_⟩
 ·have h : ∀ b ∈ fb.bo, ∀ m ∈ b.pts, (m.x.q.num.natAbs < 2 ^ 32 /\ m.x.q.den < 2 ^ 32) /\ (m.y.q.num.natAbs < 2 ^ 32 /\ m.y.q.den < 2 ^ 32) := by decide +kernel
  exact h
 ·rw[List.mem_singleton.1 hx];exact⟨zR,by decide +kernel,FC,Cb.one (sD h0),Cb.one (tG h0)⟩
theorem DZ:WkSt fb 32 134 (splitG fb).length (eO fb):=by
 refine⟨⟨0,0,2,1,Jo fb,vQ C9 ?_ (XD _),?_⟩,Nat.zero_add _⟩
 ·decide +kernel
 ·decide +kernel
theorem Al:Sub (.lst 4 [.agg [.v (.bool false),nS,nS,.v (.bool false)]]) (.lst 4 [cZ.av]) :=
 Sub.lst rfl (fun i x y hx hy=>by
  match i,hx,hy with
  |0,hx,hy=>cases hx;cases hy;exact .ofL (.cons (.refl _) (.cons (.nil _ _ _) (.cons (.nil _ _ _) (.cons (.refl _) .nil)))) rfl)
theorem q8{ts:LL}{r:Nat}(hr:r<=400000000)(h2:ts.length<=2):kB r ts.length<=1200000006:=by
 have h:=ig r h2;have h3:eB r 2=3*r+6:=by simp only[eB];omega
 show eB r ts.length<=_;omega
theorem lR{ts:LL}(h2:ts.length<=2):lm ts.length=200000000000:=by unfold lm;rw[Yl h2]
section
variable{l:Li}{xs:List Tn}{a:Aq}(F:AqFin l xs a)
include F
end
theorem NP{l:Li}{xs:List Tn}{A:List Aq}{e:Nat}(h:jc l xs=(A,e))(he:e≠0):A=[]:=by
 unfold jc at h;split at h
 ·exact(congrArg Prod.fst h).symm
 ·split at h
  ·exact(congrArg Prod.fst h).symm
  ·rename_i h1 h2;exact absurd (congrArg Prod.snd h) (fun h9=>h2 (by rw[h9];exact he))
theorem Sa{l:Li}{xs:List Tn}{A:List Aq}{e:Nat}(h:jc l xs=(A,e))(he:e=0):cJ l xs=0:=by
 unfold jc at h;split at h
 ·rename_i h1;exact absurd ((congrArg Prod.snd h).trans he) h1
 ·rename_i h1;exact Decidable.not_not.1 h1
structure AsmS(l:Li)(xs:List Tn)(A:List Aq)(e:Nat):Prop where
  eq:jc l xs=(A,e)
  all:FP 33 [l.av,.lst 4 (xs.map Tn.av)] (.tup [.lst 3 (A.map Aq.av),br e])
  ln:A.length<=1000
theorem WU{l:Li}(hl:l.ok){xs:List Tn}(hL:i7 l xs=true)(hxw:∀x∈xs,x.t.wok):∃A e,AsmS l xs A e:=by
 obtain⟨_,hx20,hxo⟩:=Ar hL hxw;have hop:=Dk l hl xs hxo oz
 by_cases h0:cJ l xs=0
 ·obtain ⟨s, g, W, St⟩:=uW hL hl hxw h0;have hsl:=so W.li;have hlb:=(cK W.li).2.2.2;have hp:2 ^ (splitG l).length <= 256:=XW (cM (b:=8) oz) (by decide);have hw:=xT W ia false (fo:=198) (caps:=[]) (fun k m _=>SK k m) (splitG l).length (eO l) St [] (by simp only [XM]; omega);have hA:=PQ h0 hop oz oz (R:=mb ia false l xs) hw;have hlen:=zo W ia false (splitG l).length (eO l) St;refine ⟨_,_,⟨?_,hA,?_⟩⟩
  ·unfold jc;rw[Yk (fun h=>h h0)]
   by_cases hE:(mb ia false l xs).2≠0
   ·rw[Yl hE,Yl hE]
   ·rw[Yk hE,Yk hE]
  ·split
   ·exact XJ _
   ·exact XW hlen oz
 ·have hA:=Vb h0 hop;refine⟨[],cJ l xs,⟨?_,hA,XJ _⟩⟩;unfold jc;rw[Yl h0]
theorem KK{p:Bool}{e:Nat}(h:cond (cond (!true) true (!p)) true (aa .neq (e:Int) 0)=false):p=true/\e=0:=by
 cases p
 ·simp at h
 ·exact⟨rfl,qG h⟩
theorem tq{ts:LL}{r e f:Nat}(tw:Tw ts r){x:List Rat}(hx:Nm ts.length e x){v:Rat}(hv:Qb f v)(he:e+2*f+1<=lm ts.length)(hf:f<=9000) :
  FP 308 [aY ts,nA x,qA v] (bl (gP ts (ae ts.length x) (ae ts.length (sh 0 (v:Rat))))):=by
 have hlm:=kE ts.length;refine aj func308 ?_;refine gc (lT (hv.qs oz)) ?_;refine gc (Cc tw hx (O5 tw.five hv) oz) ?_;refine gD ?_;refine af ?_;exact congrArg bl (I8 _)
theorem MX{ts:LL}{r e:Nat}(tw:Tw ts r){x:List Rat}(hx:Nm ts.length e x)(he:e<=lm ts.length):FP 307 [aY ts,nA x] (bl true):=by
 have h:=VK (ts.map (List.map rt)) r tw.tr (x.map rt) e (hx.rt he)
 have e0:bN (ts.map (List.map rt)) [x.map rt]=0:=by
  unfold bN;rw[Yk (by rw[tw.chk];simp),XA];exact o5 (fun y hy=>by rw[List.mem_singleton.1 hy];exact o7 hx.nl)
 rw[e0,j7,eZ]at h;exact h
theorem Ow{ts:LL}{r:Nat}(tw:Tw ts r):FP 144 [aY ts] (br 0):=by
 have h:=qN (ts.map (List.map rt)) r tw.tr;rw[tw.chk,j7]at h;exact h
structure AqS(l:Li)(a:Aq):Prop where
  li:aA l=0
  tw:∃r,r<=400000000/\Tw a.ts r
  two:a.ts.length<=2
  bs:∀p∈a.bs,Pq.ok a.ts.length 3200000000 p
  ln:a.bs.length=l.bo.length
theorem AqFin.s{l:Li}{xs:List Tn}{a:Aq}(F:AqFin l xs a):AqS l a:=⟨F.li,F.tw,F.two,F.bs,F.ln⟩
theorem wc{l:Li}{a:Aq}(F:AqS l a)(hl:l.ok){body pt:Int}(h1:bu body l.bo.length=true)(h2:bu pt (cA l body).length=true) :
  Nm a.ts.length 12100000000 (sX (aV l a.ts a.bs body pt).1)/\Nm a.ts.length 12100000000 (sX (aV l a.ts a.bs body pt).2):=by
 obtain⟨n,k,bd,m,h⟩:=oD hl F.li h1 h2;obtain⟨r,hr,tw⟩:=F.tw;have hk:=q8 hr F.two;obtain⟨p,hp⟩:=aw (l:=a.bs) (i:=n) (by rw[F.ln];exact(List.getElem?_eq_some_iff.1 h.gbd).1);have po:=F.bs p (Xx hp);have e:body.toNat=n:=by have:=h.hn;omega
 have hb:Pq.ok a.ts.length 3200000000 ⟨lq p.pl.c,lq p.pl.s,lq p.pl.x,lq p.pl.y⟩:=by
  unfold Pq.pl;dsimp only;rw[eA,eA,eA,eA];exact po
 have hq:=GU tw hb h.sm;unfold Pq.pl at hq;dsimp only[fL]at hq;rw[eA,eA,eA,eA]at hq;unfold aV;rw[e,aq hp];exact⟨hq.1.mono oz,hq.2.mono oz⟩
def rV(ts:LL)(p:Pq):Bool:=gP ts (nT ts (ae ts.length p.c) (ae ts.length p.s) (ae ts.length p.c) (ae ts.length p.s)) (T.ofQ ts.length 1)
def q7(ts:LL)(p:Pq):Bool:=gP ts (ae ts.length p.c) (T.ofQ ts.length 1)&&gP ts (ae ts.length p.s) (T.ofQ ts.length 0)&&gP ts (ae ts.length p.x) (T.ofQ ts.length 0)&&gP ts (ae ts.length p.y) (T.ofQ ts.length 0)
def mg(l:Li)(a:Aq)(j:Jt):Bool :=
  if j.kind=0 then decide (T.sgn (ax a.ts) a.ts.length (subT a.ts (aV l a.ts a.bs j.a j.point).1 (aV l a.ts a.bs j.b j.on).1)=0/\T.sgn (ax a.ts) a.ts.length (subT a.ts (aV l a.ts a.bs j.a j.point).2 (aV l a.ts a.bs j.b j.on).2)=0)
  else decide (T.sgn (ax a.ts) a.ts.length (nC a.ts (aV l a.ts a.bs j.b j.on).1 (aV l a.ts a.bs j.b j.on).2 (aV l a.ts a.bs j.b j.to).1 (aV l a.ts a.bs j.b j.to).2 (aV l a.ts a.bs j.a j.point).1 (aV l a.ts a.bs j.a j.point).2)=0)
theorem Rk{ts:LL}{p:Pq}(h:CH ts p):rV ts p=true:=decide_eq_true h
theorem Nd(ts:LL):q7 ts kc=true:=by
 unfold q7 kc;dsimp only;rw[kN,iW,T.ofQ_zero,w6,w6];rfl
theorem WY{l:Li}{a:Aq}{j:Jt}(h:JH l a.ts a.bs j):mg l a j=true:=by
 unfold JH at h;unfold mg;split
 ·rename_i hk;rw[Yl hk]at h;exact decide_eq_true h
 ·rename_i hk;rw[Yk hk]at h;exact decide_eq_true h
def Pq.l(p:Pq):LL:=[p.c,p.s,p.x,p.y]
theorem Pq.ok.mem{n e:Nat}{p:Pq}(h:Pq.ok n e p):∀x∈p.l,Nm n e x:=by
 intro x hx;simp only[Pq.l,X6,XV,or_false]at hx;rcases hx with rfl |rfl |rfl |rfl
 ·exact h.c
 ·exact h.s
 ·exact h.x
 ·exact h.y
theorem OS{ts:LL}{r e:Nat}(tw:Tw ts r){p:Pq}(hp:Pq.ok ts.length e p)(he:e+1000<=lm ts.length):FP 213 [aY ts,p.av] (bl (q7 ts p)):=by
 have hlm:=kE ts.length
 have h1:FP 308 [aY ts,nA p.c,qA ((1:Int):Rat)] (bl (gP ts (ae ts.length p.c) (T.ofQ ts.length 1))):=by
  have h:=tq tw hp.c Qb.one oz oz;rw[gM]at h;exact h
 have h0:∀x:List Rat,Nm ts.length e x->FP 308 [aY ts,nA x,.agg [.v (.bool false),nS,nS]] (bl (gP ts (ae ts.length x) (T.ofQ ts.length 0))):=fun x hx=>by
  have h:=tq tw hx Qb.zero oz oz;rw[gM]at h;exact Con.sA (.cons (.refl _) (.cons (.refl _) (.cons jx .nil))) h
 refine aj func213 ?_;refine gc (kA 1 oz) ?_;refine gc h1 ?_;refine b7 (fun _=>(h0 _ hp.s)) ?_;refine b7 (fun _=>(h0 _ hp.x)) ?_;refine b7 (fun _=>(h0 _ hp.y)) ?_;refine gD ?_;refine af ?_;exact congrArg bl (Pu _ _ _ _)
theorem V7{l:Li}{a:Aq}(F:AqS l a){p:Pq}(hpm:p∈a.bs):FP 212 [aY a.ts,p.av] (bl (rV a.ts p)):=by
 obtain⟨r,hr,tw⟩:=F.tw;have hkb:=q8 hr F.two;have hlm:=lR F.two;have hp:=F.bs p hpm;refine aj func212 ?_;refine ge rfl ?_;refine aW [2,3,18,19] [2,3] (fun(k:Nat)=>[(20,some (i64 k))]) (fun _=>[]) (fun k=>k<=4) (fun k=>4-k) 0 (XJ _) ?_;rintro k hk K1 J1;refine gC (fun t21=>?_) (fun t21=>?_)
 ·have hkn:k<4:=a6 (b:=4) t21;obtain⟨x,hx⟩:∃x,p.l[k]?=some x:=aw (l:=p.l) hkn;refine gi (aE hx) ?_;refine gc (MX tw (hp.mem x (Xx hx)) oz) ?_;refine gC (fun t27=>?_) (fun t27=>?_) (st1:=(5,0));cases t27;refine ga aN ?_;exact aO J1 (k+1) hkn
 have hdn:=xL tw hp.c hp.s hp.c hp.s;have hdot:=um tw hp.c hp.s hp.c hp.s oz;have heq:=tq tw hdn Qb.one oz oz;rw[bg,gM]at heq;refine gc hdot ?_;refine b7 (fun _=>(kA 1 oz)) ?_;refine b7 (fun _=>heq) ?_;refine gD ?_;refine af ?_;rfl
def vg(ts:LL)(p:Pq)(x:Tn):Bool:=gP ts (ae ts.length p.c) (ae ts.length (sh 0 (de x.half x.t.q:Rat)))&&gP ts (ae ts.length p.s) (ae ts.length (sh 0 (db x.half x.t.q:Rat)))
theorem Nh{ts:LL}{r e:Nat}(tw:Tw ts r){p:Pq}(hp:Pq.ok ts.length e p)(hle:e+20000<=lm ts.length){x:Tn}(hx:x.t.ok)(he:x.err=0)(hq:Qb 1000 x.t.q) :
  FP 219 [aY ts,p.av,x.av] (bl (vg ts p x)):=by
 have hc:=AA x hx hq oz;rw[Yl he,he]at hc;have hs:=GJ x hx hq oz;rw[Yl he,he]at hs;refine aj func219 ?_;refine gc hc ?_;refine gC (fun t16=>?_) (fun t16=>?_) (st1:=(3,0));cases t16;refine gc hs ?_;refine b7 (fun _=>(tq tw hp.c (SM x.half hq) oz oz)) ?_;refine b7 (fun _=>(tq tw hp.s (O3 x.half hq) oz oz)) ?_;refine af ?_;exact congrArg bl (iC _ _)
theorem Aw{l:Li}(hl:l.ok){a:Aq}(F:AqS l a){body pt:Int}(h1:bu body l.bo.length=true)(h2:bu pt (cA l body).length=true) :
  FP 309 [l.av,a.av,i64 body,i64 pt] (.tup [aM (sX (aV l a.ts a.bs body pt).1) (sX (aV l a.ts a.bs body pt).2),.v .nilIface]):=by
 obtain⟨n,k,bd,m,h⟩:=oD hl F.li h1 h2;obtain⟨r,hr,tw⟩:=F.tw;have hkb:=q8 hr F.two;have hlm:=lR F.two;have hlb:=(cK F.li).2.2.2.1;obtain⟨p,hp⟩:=aw (l:=a.bs) (i:=n) (by rw[F.ln];exact(List.getElem?_eq_some_iff.1 h.gbd).1);have po:=F.bs p (Xx hp);have hn:=h.hn;have hk:=h.hk
 have e:aV l a.ts a.bs body pt=co a.ts p (aS l body pt):=by
  unfold aV;rw[hn,X3,aq hp]
 have hat:FP 89 [aY a.ts,p.av,m.x.av,m.y.av] (.tup [aM (sX (aV l a.ts a.bs body pt).1) (sX (aV l a.ts a.bs body pt).2),.v .nilIface]):=by
  rw[h.ex,h.ey,e];exact vF tw po.c po.s po.x po.y (h.sm.x.mono oz) (h.sm.y.mono oz) oz
 have gb:=h.gbd;have gm:=h.gm;clear h h1 h2 e;subst hn;subst hk;refine aj func309 ?_;refine gi (aE gb) ?_;refine gi (aE gm) ?_;refine gi (aE hp) ?_;refine gc hat ?_;refine gD ?_;refine bp ?_
 first |rfl |(simp;done)
theorem JQ{l:Li}(hl:l.ok){a:Aq}(F:AqS l a){i:Nat}{j:Jt}(hj:l.jo[i]?=some j):FP 216 [l.av,a.av,j.av] (bl (mg l a j)):=by
 obtain⟨r,hr,tw⟩:=F.tw;have hkb:=q8 hr F.two;have hlm:=lR F.two;obtain⟨i1,i2,i3,i4,i5⟩:=cO F.li hj;have np:=wc F hl i1 i3;have nq:=wc F hl i2 i4;have ed:∀y:Et a.ts,ae a.ts.length (sX y)=y:=fun y=>bg _ _
 refine aj func216 ?_;refine gc (Aw hl F i1 i3) ?_;refine gC (fun t25=>?_) (fun t25=>?_) (st1:=(3,0));cases t25;refine gc (Aw hl F i2 i4) ?_;refine gC (fun t37=>?_) (fun t37=>?_) (st1:=(6,0));cases t37;refine gC (fun t40=>?_) (fun t40=>?_)
 ·have hk:j.kind=0:=cH t40;have hsame:=N5 tw np.1 np.2 nq.1 nq.2 oz;rw[ed,ed,ed,ed]at hsame;refine gc hsame ?_;refine af ?_;unfold mg;rw[Yl hk];rfl
 have hk:j.kind≠0:=dm t40;have nr:=wc F hl i2 (i5 hk);have hor:=M5 tw nq.1 nq.2 nr.1 nr.2 np.1 np.2 oz;rw[ed,ed,ed,ed,ed,ed]at hor;refine gc (Aw hl F i2 (i5 hk)) ?_;refine gC (fun t65=>?_) (fun t65=>?_) (st1:=(12,0));cases t65;refine gc hor ?_;refine af ?_;unfold mg;rw[Yk hk];exact congrArg bl (I8 _)
theorem R7(bs:List Pq)(hl:bs.length<=281474976710656)(f:FuncId)(c:List AV)(ok:Nat->Bool)
  (hf:∀(i:Nat)(b:Pq),bs[i]?=some b->(∀j,j<i->ok j=true)->FP f ([i64 i,b.av]++[.iptr c]) (bl (!ok i))) :
  FP 210 [.lst 4 (bs.map Pq.av),.fn f [.iptr c]] (i64 (jA (cC bs.length ok))):=by
 refine aj func210 ?_;refine gl ?_;refine aW [1,7,8] [] (fun(i:Nat)=>[(9,some (i64 i))]) (fun _=>[]) (fun i=>i<=bs.length/\∀j,j<i->ok j=true) (fun i=>bs.length-i) 0 ⟨XJ _,fun j h=>by omega⟩ ?_;rintro i ⟨hi,hj⟩ K1 J1;refine gC (fun t10=>?_) (fun t10=>?_)
 ·have hin:=a6 t10;obtain⟨b,hb⟩:=aw hin;refine gi (aE hb) ?_;refine gs (vK (.tmp rfl) (hf i b hb hj) (bB rfl rfl) aI rfl rfl) ?_;refine gC (fun t17=>?_) (fun t17=>?_)
  ·have h2:=dg t17;refine af ?_;rw[gH hin hj h2];rfl
  have h2:=da t17;refine ga aN ?_;exact aO J1 (i+1) ⟨hin,fun j h9=>by rcases XH j i with g |g;exact hj j g;(have:j=i:=by omega);subst this;exact h2⟩
 have hin:=bc hi t10;subst hin;refine af ?_;rw[fM hj];rfl
theorem SL(bs:List Jt)(hl:bs.length<=281474976710656)(f:FuncId)(c d:List AV)(ok:Nat->Bool)
  (hf:∀(i:Nat)(b:Jt),bs[i]?=some b->(∀j,j<i->ok j=true)->FP f ([i64 i,b.av]++[.iptr c,.iptr d]) (bl (!ok i))) :
  FP 214 [.lst 7 (bs.map Jt.av),.fn f [.iptr c,.iptr d]] (i64 (jA (cC bs.length ok))):=by
 refine aj func214 ?_;refine gl ?_;refine aW [1,7,8] [] (fun(i:Nat)=>[(9,some (i64 i))]) (fun _=>[]) (fun i=>i<=bs.length/\∀j,j<i->ok j=true) (fun i=>bs.length-i) 0 ⟨XJ _,fun j h=>by omega⟩ ?_;rintro i ⟨hi,hj⟩ K1 J1;refine gC (fun t10=>?_) (fun t10=>?_)
 ·have hin:=a6 t10;obtain⟨b,hb⟩:=aw hin;refine gi (aE hb) ?_;refine gs (vK (.tmp rfl) (hf i b hb hj) (bB rfl rfl) aI rfl rfl) ?_;refine gC (fun t17=>?_) (fun t17=>?_)
  ·have h2:=dg t17;refine af ?_;rw[gH hin hj h2];rfl
  have h2:=da t17;refine ga aN ?_;exact aO J1 (i+1) ⟨hin,fun j h9=>by rcases XH j i with g |g;exact hj j g;(have:j=i:=by omega);subst this;exact h2⟩
 have hin:=bc hi t10;subst hin;refine af ?_;rw[fM hj];rfl
theorem Vx(bs:List Dr)(hl:bs.length<=281474976710656)(f:FuncId)(c d:List AV)(ok:Nat->Bool)
  (hf:∀(i:Nat)(b:Dr),bs[i]?=some b->(∀j,j<i->ok j=true)->FP f ([i64 i,b.av]++[.iptr c,.iptr d]) (bl (!ok i))) :
  FP 217 [.lst 2 (bs.map Dr.av),.fn f [.iptr c,.iptr d]] (i64 (jA (cC bs.length ok))):=by
 refine aj func217 ?_;refine gl ?_;refine aW [1,7,8] [] (fun(i:Nat)=>[(9,some (i64 i))]) (fun _=>[]) (fun i=>i<=bs.length/\∀j,j<i->ok j=true) (fun i=>bs.length-i) 0 ⟨XJ _,fun j h=>by omega⟩ ?_;rintro i ⟨hi,hj⟩ K1 J1;refine gC (fun t10=>?_) (fun t10=>?_)
 ·have hin:=a6 t10;obtain⟨b,hb⟩:=aw hin;refine gi (aE hb) ?_;refine gs (vK (.tmp rfl) (hf i b hb hj) (bB rfl rfl) aI rfl rfl) ?_;refine gC (fun t17=>?_) (fun t17=>?_)
  ·have h2:=dg t17;refine af ?_;rw[gH hin hj h2];rfl
  have h2:=da t17;refine ga aN ?_;exact aO J1 (i+1) ⟨hin,fun j h9=>by rcases XH j i with g |g;exact hj j g;(have:j=i:=by omega);subst this;exact h2⟩
 have hin:=bc hi t10;subst hin;refine af ?_;rw[fM hj];rfl
def oV(ts:LL)(i:Nat)(p:Pq):Bool:=rV ts p&&(decide (0<i)||q7 ts p)
theorem Up(ts:LL)(i:Nat)(p:Pq):cond (!rV ts p) true (cond (aa .eql (i:Int) 0) (!q7 ts p) false)=!oV ts i p:=by
 unfold oV
 have e:aa .eql (i:Int) 0=!decide (0<i):=by
  rw[oT,<- decide_not];exact decide_eq_decide.2 oz
 rw[e];cases rV ts p <;> cases decide (0<i) <;> cases q7 ts p <;> rfl
theorem Rn{l:Li}{a:Aq}(F:AqS l a){i:Nat}{p:Pq}(hp:a.bs[i]?=some p):FP 211 [i64 i,p.av,.iptr a.cs] (bl (!oV a.ts i p)):=by
 obtain⟨r,hr,tw⟩:=F.tw;have hlm:=lR F.two;have hpm:=Xx hp;refine aj func211 ?_;refine gc (V7 F hpm) ?_;refine b7 (fun _=>(OS tw (F.bs p hpm) oz)) ?_;refine af ?_;exact congrArg bl (Up _ _ _)
theorem RJ{l:Li}(hl:l.ok){a:Aq}(F:AqS l a){i:Nat}{j:Jt}(hj:l.jo[i]?=some j):FP 215 [i64 i,j.av,.iptr l.av.cells,.iptr a.cs] (bl (!mg l a j)):=by
 refine aj func215 ?_;refine gc (JQ hl F hj) ?_;refine af ?_;rfl
def oC(l:Li)(ys:List Tn)(a:Aq)(i:Nat):Bool:=vg a.ts (a.bs.getD (l.dv.getD i default).body.toNat bb) (ys.getD i cZ)
def jl(l:Li)(ys:List Tn)(a:Aq):Nat×Nat:=match cC a.bs.length (fun i=>oV a.ts i (a.bs.getD i bb))with
  |some i=>(2,i)
  |none=>match cC l.jo.length (fun i=>mg l a (l.jo.getD i default))with
    |some i=>(3,i)
    |none=>match cC l.dv.length (oC l ys a)with
      |none=>(0,0)
      |some i=>(4,i)
theorem WW{l:Li}{ys:List Tn}{a:Aq}:(((jl l ys a).1:Int)==0&&((jl l ys a).2:Int)==0)=(decide ((0:Nat)=0)&&decide ((jl l ys a).1=0)):=by
 unfold jl;split
 ·rfl
 ·split
  ·rfl
  ·split <;> rfl
theorem KQ{l:Li}{a:Aq}(F:AqS l a){ys:List Tn}(hy:∀x∈ys,x.t.ok/\x.err=0/\Qb 1000 x.t.q)(hyl:ys.length=l.dv.length){i:Nat}{d:Dr}(hd:l.dv[i]?=some d) :
  FP 218 [i64 i,d.av,.iptr a.cs,.iptr [.lst 4 (ys.map Tn.av)]] (bl (!oC l ys a i)):=by
 have hin:=(List.getElem?_eq_some_iff.1 hd).1;have hd2:=wA F.li;have hbl:=(cK F.li).2.2.2.1;have hln:=F.ln;obtain⟨r,hr,tw⟩:=F.tw;have hlm:=lR F.two;have hdb:=cW (lc F.li hd);obtain⟨p,hp⟩:=aw (l:=a.bs) (i:=d.body.toNat) oz;obtain⟨x,hx⟩:=aw (l:=ys) (i:=i) oz;have hxo:=hy x (Xx hx);have ht:=Nh tw (F.bs p (Xx hp)) oz hxo.1 hxo.2.1 hxo.2.2
 have e:oC l ys a i=vg a.ts p x:=by
  unfold oC;rw[aq hd,aq hp,aq hx]
 refine aj func218 ?_;refine gi (aE hp) ?_;refine gi (aE hx) ?_;refine gc ht ?_;refine gD ?_;refine af ?_;rw[e];rfl
theorem RF{l:Li}(hl:l.ok){a:Aq}(F:AqS l a){ys:List Tn}(hy:∀x∈ys,x.t.ok/\x.err=0/\Qb 1000 x.t.q)(hyl:ys.length=l.dv.length) :
  FP 106 [l.av,.lst 4 (ys.map Tn.av),a.av] (xO (jl l ys a)):=by
 obtain⟨r,hr,tw⟩:=F.tw;have hbl:=(cK F.li).2.2.2.1;have hln:=F.ln;refine aj func106 ?_ (1,0);refine gW ((Wk.freezeB (k:=3) rfl rfl).trans<|(Wk.freezeB (k:=4) rfl rfl).trans<|(Wk.freezeB (k:=5) rfl rfl).trans<|Wk.o (sl:=[(3,some (.iptr l.av.cells)),(4,some (.iptr [.lst 4 (ys.map Tn.av)])),(5,some (.iptr a.cs)),(6,some (.ptr 6 0))]) (hp:=[(6,some (.box [i64 0,i64 0]))])) ?_;refine gc (Ow tw) ?_;refine cQ ?_;refine cQ ?_;refine gC (fun t22=>?_) (fun t22=>?_) (st1:=(2,0));exact((VM t22).elim (fun h=>h rfl) (fun h=>h hln)).elim;refine gc (R7 a.bs oz 211 a.cs (fun i=>oV a.ts i (a.bs.getD i bb)) (fun i b hb _=>by have h:=Rn F hb;rw[<- aq (d:=bb) hb]at h ⊢;exact h)) ?_;refine gC (fun t29=>?_) (fun t29=>?_)
 ·obtain⟨i,hi⟩:=yt t29;refine af ?_;unfold jl;rw[hi];rfl
 have f1:=BI t29;refine gc (SL l.jo hl.lj 215 l.av.cells a.cs (fun i=>mg l a (l.jo.getD i default)) (fun i j hj _=>by have h:=RJ hl F hj;rw[<- aq (d:=default) hj]at h ⊢;exact h)) ?_;refine gC (fun t37=>?_) (fun t37=>?_)
 ·obtain⟨i,hi⟩:=yt t37;refine af ?_;unfold jl;rw[f1,hi];rfl
 have f2:=BI t37;refine gc (Vx l.dv hl.ld 218 a.cs [.lst 4 (ys.map Tn.av)] (oC l ys a) (fun i d hd _=>KQ F hy hyl hd)) ?_;refine gC (fun t45=>?_) (fun t45=>?_)
 ·obtain⟨i,hi⟩:=yt t45;refine af ?_;unfold jl;rw[f1,f2,hi];rfl
 have f3:=BI t45;refine af ?_;unfold jl;rw[f1,f2,f3];rfl
theorem R3{l:Li}(hl:l.ok){a:Aq}(F:AqS l a)(ys:List Tn)(hy:∀x∈ys,x.t.ok/\Qb 1000 x.t.q)(hyl:ys.length<=281474976710656) :
  FP 37 [l.av,.lst 4 (ys.map Tn.av),a.av] (.tup [bl (decide (jP l ys=0)&&decide ((jl l ys a).1=0)),xO (if jP l ys=0 then jl l ys a else(0,0)),br (jP l ys)]):=by
 have hld:=hl.ld;refine aj func37 ?_;refine gc (uY l hl) ?_;refine gC (fun t17=>?_) (fun t17=>?_) (st1:=(3,0));exact absurd F.li (cU t17);have h1:=F.li;refine gl ?_;refine gl ?_;refine gC (fun t25=>?_) (fun t25=>?_)
 ·have h2 : ys.length ≠ l.dv.length := by have := mR t25; omega
  have hb:jP l ys≠0:=by rw[FZ h1 h2];decide
  refine wt ?_;rw[Yk hb,decide_eq_false hb,FZ h1 h2];rfl
 have h2:ys.length=l.dv.length:=by have:=ui t25;omega
 refine gl ?_;refine aW [1,3,5,7,28,29] [3,5,7] (fun(i:Nat)=>[(30,some (i64 i))]) (fun _=>[]) (fun i=>i<=ys.length/\∀x∈ys.take i,x.err=0) (fun i=>ys.length-i) 0 ⟨XJ _,fun x hx=>by simp at hx⟩ ?_;rintro i ⟨hi,hj⟩ K1 J1;refine gC (fun t31=>?_) (fun t31=>?_)
 ·have hin:=a6 t31;obtain⟨x,hxx⟩:=aw hin;refine gi (aE hxx) ?_;refine gc (tB x (hy x (Xx hxx)).1) ?_;refine gC (fun t37=>?_) (fun t37=>?_)
  ·have h3:=cU t37;have hb:jP l ys ≠ 0:=by rw [Ht h1 h2 hxx hj h3]; exact h3
   refine wt ?_;rw[Yk hb,decide_eq_false hb,Ht h1 h2 hxx hj h3];rfl
  have h3:=cS t37;refine ga aN ?_;exact aO J1 (i+1) ⟨hin,fun y hy=>by rw[dR hxx]at hy;rcases List.mem_append.1 hy with h9 |h9;exact hj y h9;(rw[List.mem_singleton.1 h9];exact h3)⟩
 have hin:=bc hi t31;subst hin;rw[XP]at hj;have hb:=CQ h1 h2 hj;refine gc (RF hl F (fun x h9=>⟨(hy x h9).1,hj x h9,(hy x h9).2⟩) h2) ?_;refine gs (Tq (.tmp rfl) (.tmp rfl) (by kernel_rfl) rfl) ?_;refine gD ?_;refine wt ?_;rw[hb,Yl rfl,WW];rfl
theorem dV{ts:LL}{e f:Nat}{x y:Et ts}(h1:Bz e x)(h2:Bz f y):Nm ts.length (e+f+1) (sX (x-y)):=Bz.sub h1 h2
section
variable{ts:LL}{r e f:Nat}(tw:Tw ts r){x y x2 y2:Et ts}
include tw
theorem rm(h1:Nm ts.length e (sX x))(h2:Nm ts.length e (sX y))(h3:Nm ts.length e (sX x2))(h4:Nm ts.length e (sX y2))(he:2*e<=lm ts.length) :
  FP 76 [aY ts,aM (sX x) (sX y),aM (sX x2) (sX y2)] (.tup [aM (sX (x-x2)) (sX (y-y2)),.v .nilIface]):=by
 have h:=zC tw h1 h2 h3 h4 he;have ew:∀z:Et ts,ae ts.length (sX z)=z:=fun z=>bg _ _
 rw[ew,ew,ew,ew]at h;exact h
theorem Lv(h1:Nm ts.length e (sX x))(h2:Nm ts.length e (sX y))(h3:Nm ts.length e (sX x2))(h4:Nm ts.length e (sX y2))(he:2*(e+e+kB r ts.length)<=lm ts.length) :
  FP 77 [aY ts,aM (sX x) (sX y),aM (sX x2) (sX y2)] (.tup [nA (sX (crsE x y x2 y2)),.v .nilIface]):=by
 have h:=BE tw h1 h2 h3 h4 he;have ew:∀z:Et ts,ae ts.length (sX z)=z:=fun z=>bg _ _
 rw[ew,ew,ew,ew]at h;exact h
theorem AJ(h1:Nm ts.length e (sX x))(h2:Nm ts.length e (sX y))(h3:Nm ts.length e (sX x2))(h4:Nm ts.length e (sX y2))(he:2*(e+e+kB r ts.length)<=lm ts.length) :
  FP 80 [aY ts,aM (sX x) (sX y),aM (sX x2) (sX y2)] (.tup [nA (sX (dotE x y x2 y2)),.v .nilIface]):=by
 have h:=um tw h1 h2 h3 h4 he;have ew:∀z:Et ts,ae ts.length (sX z)=z:=fun z=>bg _ _
 rw[ew,ew,ew,ew]at h;exact h
theorem OD(h1:Bz e x)(h2:Bz e y)(h3:Bz f x2)(h4:Bz f y2):Nm ts.length (2*(e+f+kB r ts.length)+1) (sX (crsE x y x2 y2)) :=
 ((h1.mul tw (XD _) h4).sub (h2.mul tw (XD _) h3)).mono (by show e+f+kB r ts.length+(e+f+kB r ts.length)+1<=_;omega)
theorem Cq(h1:Bz e x)(h2:Bz e y)(h3:Bz f x2)(h4:Bz f y2):Nm ts.length (2*(e+f+kB r ts.length)+1) (sX (dotE x y x2 y2)) :=
 ((h1.mul tw (XD _) h3).add (h2.mul tw (XD _) h4)).mono (by show e+f+kB r ts.length+(e+f+kB r ts.length)+1<=_;omega)
end
def nV(l:Li)(a:As)(g:Gr):List Rat:=if g.kind=0 then sh 0 ((1:Int):Rat)else sX (iJ l a g)
section
variable{E:Nat}{l:Li}{a:As}(D:DyW l a)(h3:(llq a.rs).length<=2)
include D h3
theorem jO{body pt:Int}(h1:bu body l.bo.length=true)(h2:bu pt (cA l body).length=true)(hb:Pd E a body) :
  Nm (llq a.rs).length (3*E+2400002022) (sX (bh l a body pt).1)/\Nm (llq a.rs).length (3*E+2400002022) (sX (bh l a body pt).2):=by
 obtain⟨n,k,bd,m,b,hp⟩:=tU D.hl D.li D.al D.hc h1 h2 hb;obtain⟨tw,_⟩:=df D.al.tr D.hc;have kb:=oe h3;have c1:Qb 1000 m.x.q:=by rw[hp.mp.ex,bV];exact hp.mp.sm.x
 have c2:Qb 1000 m.y.q:=by rw[hp.mp.ey,bV];exact hp.mp.sm.y
 have h:=uA tw hp.ok c1 c2;unfold bh;rw[hp.eq];exact⟨h.1.mono oz,h.2.mono oz⟩
theorem nQ{i:Nat}{j:Jt}(hj:l.jo[i]?=some j){b:Int}(h:PinP E l a j b) :
  Nm (llq a.rs).length (3*E+2400002022) (sX (aG l a j b).1)/\Nm (llq a.rs).length (3*E+2400002022) (sX (aG l a j b).2):=by
 obtain⟨i1,i2,i3,i4,_⟩:=cO D.li hj;unfold aG;rcases h.tie with⟨e,hb⟩ |⟨e,e2,hb⟩
 ·rw[Yl e];exact jO D h3 i2 i4 hb
 ·rw[Yk e];exact jO D h3 i1 i3 hb
theorem vH{b:Int}(hb:Pd E a b){q:Rat×Rat}(hq:Sm 1000 q):Nm (llq a.rs).length (3*E+2400002022) (sX (km a b q).1)/\Nm (llq a.rs).length (3*E+2400002022) (sX (km a b q).2):=by
 obtain⟨p,hp,hn,hbn⟩:=hb;obtain⟨tw,_⟩:=df D.al.tr D.hc;have h5:a.rs.length<=5:=by have:=tw.five;rwa [rg]at this
 have h9:=(xR hn hbn h5).2;rw[<- rg a.rs]at h9;have kb:=oe h3;have h:=GU tw h9 hq;unfold km;rw[aq hp];exact⟨h.1.mono oz,h.2.mono oz⟩
theorem HY(hE:E<=3200000000){b:Int}{p:Pl}(hp:a.bs[b.toNat]?=some p)(hn:bN a.rs p.l=0)(hbn:∀x∈p.l,NR x E){q:Rat×Rat}(hq:Sm 1000 q) :
  FP 89 [.agg [.lst 1 (a.rs.map nR)],p.av,qA q.1,qA q.2] (.tup [aM (sX (km a b q).1) (sX (km a b q).2),.v .nilIface]):=by
 obtain⟨tw,hta⟩:=df D.al.tr D.hc;have h5:a.rs.length<=5:=by have:=tw.five;rwa [rg]at this
 obtain⟨e1,ok⟩:=xR hn hbn h5;rw[<- rg a.rs]at ok;have kb:=oe h3;have hlm:=lR h3;have h:=vF tw (ok.c.mono (f:=E+1000) oz) (ok.s.mono oz) (ok.x.mono oz) (ok.y.mono oz) (hq.x.mono (f:=E+1000) oz) (hq.y.mono (f:=E+1000) oz) oz;rw[e1,<- lh D.al.tr D.hc];unfold km;rw[aq hp];exact h
end
theorem Uc{E:Nat}{l:Li}{a:As}(D:DyW l a)(h3:(llq a.rs).length<=2){k:Int}{n:Nat}{g:Gr}(ok:DyOk E l k a true n g):Nm (llq a.rs).length (24*E+21600016203) (nV l a g):=by
 obtain⟨tw,hta⟩:=df D.al.tr D.hc;have kb:=oe h3;unfold nV
 by_cases h0:g.kind=0
 ·rw[Yl h0];exact(Nm.ofQ tw.five (Cb.int (z:=1) (e:=1) (by decide))).mono oz
 ·rw[Yk h0]
  by_cases h1:g.kind=1
  ·obtain⟨i,k2,z0,z1,z2,j0,j1,j2,P⟩:=ok.rrr h1;obtain⟨y1,y2⟩:=nQ D h3 P.h0 P.p0;obtain⟨y3,y4⟩:=nQ D h3 P.h1 P.p1;obtain⟨y5,y6⟩:=vH D h3 (ok.own (b:=i) (by rw[P.eq];simp)) (gG D.hl D.li P.h2 P.t1);obtain⟨e0,e1,e2,b0,b1,_⟩:=P.at;unfold iJ;rw[Yk h0,Yl h1,e0,e1,e2,b0,b1];exact(OD tw (dV y3 y1) (dV y4 y2) (dV y5 y1) (dV y6 y2)).mono oz
  ·by_cases h2:g.kind=2
   ·obtain ⟨i, z0, z1, j0, j, P, ha, hb⟩:=ok.pr h2;obtain ⟨i1,i2,i3,i4,i5⟩:=cO D.li P.h1;have q2:Sm 1000 (aS l i j.point):=by rw [<- ha]; exact jW D.hl D.li i1 i3
    obtain⟨y1,y2⟩:=nQ D h3 P.h0 P.p0;obtain⟨y3,y4⟩:=jO D h3 i2 (i5 P.hk) hb;obtain⟨y7,y8⟩:=jO D h3 i2 i4 hb;obtain⟨y5,y6⟩:=vH D h3 (ok.own (b:=i) (by rw[P.eq];simp)) q2;obtain⟨e0,e1,b0,_⟩:=P.at;unfold iJ;rw[Yk h0,Yk h1,Yl h2,e0,e1,b0];exact(Cq tw (dV y3 y7) (dV y4 y8) (dV y5 y1) (dV y6 y2)).mono oz
   ·obtain ⟨i, z0, z1, j0, j, P, _, hj, hb⟩:=ok.rp h0 h1 h2;obtain ⟨i1,i2,i3,i4,i5⟩:=cO D.li P.h1;have hpi:Pd E a j.b:=by rw [hj]; exact ok.own (b:=i) (by rw [P.eq]; simp)
    obtain⟨y1,y2⟩:=nQ D h3 P.h0 P.p0;obtain⟨y3,y4⟩:=jO D h3 i1 i3 hb;obtain⟨y5,y6⟩:=jO D h3 i2 i4 hpi;obtain⟨y7,y8⟩:=jO D h3 i2 (i5 P.hk) hpi;obtain⟨e0,e1,b0,_⟩:=P.at;unfold iJ;rw[Yk h0,Yk h1,Yk h2,e0,e1,b0];exact(Cq tw (dV y7 y5) (dV y8 y6) (dV y3 y1) (dV y4 y2)).mono oz
theorem R4{E:Nat}(hE:E<=3200000000){l:Li}{k:Int}{a:As}{n:Nat}{g:Gr}(hop:Con prog 63 [l.av,i64 k,a.av,bl true] [] (.tup [.ptr 900 0,.v .nilIface]) [(900,some (cf l g a))])(D:DyW l a)(h3:(llq a.rs).length<=2)(ok:DyOk E l k a true n g) :
  FP 27 [l.av,i64 k,a.av] (.tup [nA (nV l a g),.v .nilIface]):=by
 obtain⟨tw,hta⟩:=df D.al.tr D.hc;have kb:=oe h3;have hlm:=lR h3;have hgo:=ok.ok;have hbl:=D.al.bl;refine aj func27 ?_;refine gt (aH hop (.cons (.tmp rfl) (.cons (.tmp rfl) (.cons (.tmp rfl) (.cons (.const _) .nil)))) aI rfl rfl) ?_ (2,0);refine gW (Wk.o (sl:=[(5,some (.ptr 5 0)),(8,some (.ptr 900 0)),(9,some (.v .nilIface))]) (hp:=[(5,some (.box a.av.cells)),(900,some (cf l g a))])) ?_;refine gC (fun t30=>?_) (fun t30=>?_) (st1:=(3,0)) (st2:=(5,0));cases t30;refine gW (Wk.o (sl:=[(5,some (.ptr 5 0)),(8,some (.ptr 900 0)),(10,some (.ptr 35 0))]) (hp:=[(5,some (.box a.av.cells)),(900,some (cf l g a)),(35,some (dz a.rs))])) ?_ (10,0);refine BK [8,10] [900,35] [(11,some (nA (sX (iJ l a g))))] [] (g.kind≠0) ?_ ?_ 2
 ·intro K1 J1;refine gC (fun t79=>?_) (fun t79=>?_)
  ·have hk:g.kind=0:=cH t79;have hd:nV l a g=sh 0 ((1:Int):Rat):=Yl hk;rw[hd];refine gc (WT) ?_;refine gR ?_;exact kl rfl
  have hk0:g.kind≠0:=dm t79;refine gC (fun t82=>?_) (fun t82=>?_)
  ·have hk:g.kind = 1:=cH t82;obtain ⟨i,k2,z0,z1,z2,j0,j1,j2,P⟩:=ok.rrr hk;obtain ⟨e0,e1,e2,b0,b1,_⟩:=P.at;have hE9:iJ l a g = gN (aQ (aG l a j1 k2) (aG l a j0 i)) (aQ (km a i (ak l j2 i)) (aG l a j0 i)):=by unfold iJ; rw [Yk hk0,Yl hk,e0,e1,e2,b0,b1]
   obtain rfl:=P.eq;have hi0:=(hgo.b i (by simp)).1;obtain⟨p,hp,hn,hbn⟩:=ok.own (b:=i) (by simp);have hil:=(List.getElem?_eq_some_iff.1 hp).1;have hq:=gG D.hl D.li P.h2 P.t1;obtain⟨y1,y2⟩:=nQ D h3 P.h0 P.p0;obtain⟨y3,y4⟩:=nQ D h3 P.h1 P.p1;obtain⟨y5,y6⟩:=vH D h3 (ok.own (b:=i) (by simp)) hq;have s1:=rm tw y3 y4 y1 y2 oz;have s2:=rm tw y5 y6 y1 y2 oz;have s3:=Lv tw (dV y3 y1) (dV y4 y2) (dV y5 y1) (dV y6 y2) oz;rw[lh D.al.tr D.hc]at s1 s2 s3;refine gt (aH (Con.rB 900 rfl rfl rfl rfl (Hy D.hl D.li D.al D.hc h3 hgo P.h0 P.h1 P.h2 P.p0 P.p1 P.t1 P.t2)) (cB rfl) aI rfl rfl) ?_;refine gi (rfl) ?_;refine gi (f6 (n:=i.toNat) oz hp) ?_;refine gc (HY D h3 hE (b:=i) hp hn hbn hq) ?_;refine gt (aX (Con.rB 35 rfl rfl rfl rfl (lV _ _ _)) (aJ rfl rfl rfl) rfl rfl rfl) ?_;refine gD ?_;refine gc s1 ?_;refine gt (aX (Con.rB 35 rfl rfl rfl rfl (lV _ _ _)) (aJ rfl rfl rfl) rfl rfl rfl) ?_;refine gc s2 ?_;refine gt (aX (Con.rB 35 rfl rfl rfl rfl (lV _ _ _)) (aJ rfl rfl rfl) rfl rfl rfl) ?_;refine gc s3 ?_;refine gt (aX (Con.rB 35 rfl rfl rfl rfl (oE _ _)) (aJ rfl rfl rfl) rfl rfl rfl) ?_;refine gD ?_;exact o9 J1 hk0 (hw:=Wk.of (.cons rfl (Sub.of (congrArg (fun z=>nA (sX z)) hE9.symm)) (.k (.k .nil))) (.k (.k .nil)))
  have hk1:g.kind≠1:=dm t82;refine gC (fun t149=>?_) (fun t149=>?_)
  ·have hk:g.kind = 2:=cH t149;obtain ⟨i,z0,z1,j0,j,P,ha,hb⟩:=ok.pr hk;obtain ⟨e0,e1,b0,_⟩:=P.at;have hE9:iJ l a g = dB (aQ (bh l a j.b j.to) (bh l a j.b j.on)) (aQ (km a i (aS l i j.point)) (aG l a j0 i)):=by unfold iJ; rw [Yk hk0,Yk hk1,Yl hk,e0,e1,b0]
   obtain rfl:=P.eq;obtain⟨i1,i2,i3,i4,i5⟩:=cO D.li P.h1;have hi0:=(hgo.b i (by simp)).1;obtain⟨p,hp,hn,hbn⟩:=ok.own (b:=i) (by simp);have hil:=(List.getElem?_eq_some_iff.1 hp).1;have hq:Sm 1000 (aS l i j.point):=by rw[<- ha];exact jW D.hl D.li i1 i3
   obtain⟨y1,y2⟩:=nQ D h3 P.h0 P.p0;obtain⟨y3,y4⟩:=jO D h3 i2 (i5 P.hk) hb;obtain⟨y7,y8⟩:=jO D h3 i2 i4 hb;obtain⟨y5,y6⟩:=vH D h3 (ok.own (b:=i) (by simp)) hq;have s1:=rm tw y3 y4 y7 y8 oz;have s2:=rm tw y5 y6 y1 y2 oz;have s3:=AJ tw (dV y3 y7) (dV y4 y8) (dV y5 y1) (dV y6 y2) oz;rw[lh D.al.tr D.hc]at s1 s2 s3;refine gt (aH (Con.rB 900 rfl rfl rfl rfl (Jh D.hl D.li D.al D.hc h3 hgo P.h0 P.h1 P.p0 ha P.hk hb)) (cB rfl) aI rfl rfl) ?_;refine gi (rfl) ?_;refine gi (f6 (n:=i.toNat) oz hp) ?_;refine gc (HY D h3 hE (b:=i) hp hn hbn hq) ?_;refine gt (aX (Con.rB 35 rfl rfl rfl rfl (lV _ _ _)) (aJ rfl rfl rfl) rfl rfl rfl) ?_;refine gD ?_;refine gc s1 ?_;refine gt (aX (Con.rB 35 rfl rfl rfl rfl (lV _ _ _)) (aJ rfl rfl rfl) rfl rfl rfl) ?_;refine gc s2 ?_;refine gt (aX (Con.rB 35 rfl rfl rfl rfl (lV _ _ _)) (aJ rfl rfl rfl) rfl rfl rfl) ?_;refine gc s3 ?_;refine gt (aX (Con.rB 35 rfl rfl rfl rfl (oE _ _)) (aJ rfl rfl rfl) rfl rfl rfl) ?_;refine gD ?_;exact o9 J1 hk0 (hw:=Wk.of (.cons rfl (Sub.of (congrArg (fun z=>nA (sX z)) hE9.symm)) (.k (.k .nil))) (.k (.k .nil)))
  have hk2:g.kind≠2:=dm t149;obtain⟨i,z0,z1,j0,j,P,ha,hj,hb⟩:=ok.rp hk0 hk1 hk2;obtain⟨e0,e1,b0,_⟩:=P.at;have hE9:iJ l a g=dB (aQ (bh l a j.b j.to) (bh l a j.b j.on)) (bU l a i j0 j):=by unfold iJ;rw[Yk hk0,Yk hk1,Yk hk2,e0,e1,b0]
  obtain rfl:=P.eq;obtain⟨i1,i2,i3,i4,i5⟩:=cO D.li P.h1;have hpi:Pd E a j.b:=by rw[hj];exact ok.own (b:=i) (by simp)
  obtain⟨y1,y2⟩:=nQ D h3 P.h0 P.p0;obtain⟨y5,y6⟩:=jO D h3 i1 i3 hb;obtain⟨y3,y4⟩:=jO D h3 i2 (i5 P.hk) hpi;obtain⟨y7,y8⟩:=jO D h3 i2 i4 hpi;have s0:=rm tw y5 y6 y1 y2 oz;have sd:=AJ tw (dV y5 y1) (dV y6 y2) (dV y5 y1) (dV y6 y2) oz;have s1:=rm tw y3 y4 y7 y8 oz;have s3:=AJ tw (dV y3 y7) (dV y4 y8) (dV y5 y1) (dV y6 y2) oz;rw[lh D.al.tr D.hc]at s0 sd s1 s3;refine gt (aX (Con.rB 900 rfl rfl rfl rfl (BY D.hl _ hgo a rfl P.h1)) (cB rfl) rfl rfl rfl) ?_;refine gt (aH (Con.rekeyBB 900 35 (by decide) (by decide) rfl rfl rfl rfl rfl rfl (Dt (E:=E) oz D h3 hgo P.h0 P.h1 P.p0 hj P.hk hb s0 sd)) (bB rfl rfl) aI rfl rfl) ?_;refine gt (aH (Con.rB 900 rfl rfl rfl rfl (oS (E:=E) D.hl D.li _ D.al D.hc i2 (i5 P.hk) oz h3 hpi)) (aJ rfl rfl rfl) aI rfl rfl) ?_;refine gt (aH (Con.rB 900 rfl rfl rfl rfl (oS (E:=E) D.hl D.li _ D.al D.hc i2 i4 oz h3 hpi)) (aJ rfl rfl rfl) aI rfl rfl) ?_;refine gc s1 ?_;refine gt (aX (Con.rB 35 rfl rfl rfl rfl (lV _ _ _)) (aJ rfl rfl rfl) rfl rfl rfl) ?_;refine gD ?_;refine gc s3 ?_;refine gt (aX (Con.rB 35 rfl rfl rfl rfl (oE _ _)) (aJ rfl rfl rfl) rfl rfl rfl) ?_;refine gD ?_;exact o9 J1 hk0 (hw:=Wk.of (.cons rfl (Sub.of (congrArg (fun z=>nA (sX z)) hE9.symm)) (.k (.k .nil))) (.k (.k .nil)))
 rintro hk9;rw[show nV l a g=sX (iJ l a g)from Yk hk9];refine gC (fun t219=>?_) (fun t219=>?_) (st2:=(77777,0))
 ·refine gC (fun t231=>?_) (fun t231=>?_) (st1:=(23,0));cases t231;refine gR ?_;exact kl rfl
 cases t219
def lP(l:Li)(a:Aq)(g:Gr):List Rat:=if g.kind=0 then sh 0 ((1:Int):Rat)else sX (cD l a.ts a.bs g)
theorem EB(l:Li)(a:Aq)(g:Gr):nV l a.as g=lP l a g:=by
 unfold nV lP;split
 ·rfl
 ·rw[SP]
  have:∀(T:LL)(bs:List Pq),T=a.ts->bs=a.bs->(sX (cD l T bs g):List Rat)=sX (cD l a.ts a.bs g):=by
   rintro _ _ rfl rfl;rfl
  exact this _ _ a.llq (mW a)
theorem LC{l:Li}{a:Aq}{g:Gr}:T.sgn (ax a.ts) a.ts.length (ae a.ts.length (lP l a g))=am (cD l a.ts a.bs g):=by
 unfold lP;split
 ·rename_i h;rw [gM];have e:cD l a.ts a.bs g = qE 1:=by unfold cD; rw [Yl h]
  rw[e];rfl
 ·have e:ae a.ts.length (sX (cD l a.ts a.bs g))=cD l a.ts a.bs g:=bg _ _;rw[e];rfl
structure AqE(E:Nat)(l:Li)(a:Aq):Prop where
  s:AqS l a
  be:∀p∈a.bs,Pq.ok a.ts.length E p
  le:E<=3200000000
theorem AqS.e{l:Li}{a:Aq}(F:AqS l a):AqE 3200000000 l a:=⟨F,F.bs,XD _⟩
section
variable{E:Nat}{l:Li}(hl:l.ok){a:Aq}(F:AqE E l a)(hs:splitE l=0){k:Nat}{g:Gr}(hg:(splitG l)[k]?=some g)
include hl F hs hg
theorem IS(own:Bool):DyW l a.as/\DyOk E l k a.as own k g/\(Lw.llq a.as.rs).length<=2/\fI l k a.as own=0:=by
 obtain⟨r,hr,tw⟩:=F.s.tw;have hE:=F.le;have Q:QInv l 2 r E a:=⟨tw,F.s.two,F.be,F.s.ln⟩
 have D:DyW l a.as:=⟨hl,F.s.li,Q.ab F.s.li oz hr,Q.chk⟩
 have h0:=Q.dy0 F.s.li hs hg own;obtain⟨i,g',h⟩:=yo (Q.sma oz (XD _) k own) h0;have e:i=k:=by have:=h.hk;omega
 subst e;have h2:=h.hg;rw[hg]at h2;cases h2;exact⟨D,h,by rw[a.llq];exact F.s.two,h0⟩
theorem Mq:Nm a.ts.length (24*E+21600016203) (lP l a g):=by
 obtain⟨D,ok,h3,_⟩:=IS hl F hs hg true;have h:=Uc D h3 ok;rw[EB,a.llq]at h;exact h
theorem OX:FP 27 [l.av,i64 k,a.av] (.tup [nA (lP l a g),.v .nilIface]):=by
 obtain⟨D,ok,h3,h0⟩:=IS hl F hs hg true;have hop:=Ha l hl k a.as D.al true;have hgA:iz l (k:Nat)=g:=aq hg;rw[h0,hgA]at hop;have h:=R4 F.le hop D h3 ok;rw[Aq.as_av,EB]at h;exact h
end
section
variable{l:Li}(hl:l.ok){a:Aq}(F:AqS l a)(hs:splitE l=0){k:Nat}{g:Gr}(hg:(splitG l)[k]?=some g)
include hl F hs hg
theorem Tk:Nm a.ts.length 99300000000 (lP l a g):=(Mq hl F.e hs hg).mono oz
theorem IU:FP 27 [l.av,i64 k,a.av] (.tup [nA (lP l a g),.v .nilIface]):=OX hl F.e hs hg
theorem Ey:FP 116 [aY a.ts,nA (lP l a g)] (.tup [i64 (am (cD l a.ts a.bs g)),.v .nilIface]):=by
 obtain⟨r,hr,tw⟩:=F.tw;have hlm:=lR F.two;have h:=qU tw (Tk hl F hs hg) oz;rw[LC]at h;exact h
end
theorem MT{l:Li}{xs:List Tn}{a:Aq}(F:AqFin l xs a):jP l xs=0:=CQ F.li F.lx (fun x hx=>(F.xo x hx).1)
theorem R9{l:Li}{xs:List Tn}{a:Aq}(F:AqFin l xs a):jl l xs a=(0,0):=by
 have f1:cC a.bs.length (fun i=>oV a.ts i (a.bs.getD i bb))=none:=fM (fun i hi=>by
  have hc:=F.cs i (by rw[<- F.ln];exact hi);unfold oV;rw[Rk hc,Bool.true_and]
  by_cases h0:i=0
  ·subst h0;rw[F.fr,Nd];simp
  ·rw[decide_eq_true (by omega:0<i)];rfl)
 have f2:cC l.jo.length (fun i=>mg l a (l.jo.getD i default))=none:=fM (fun i hi=>by
  obtain⟨j,hj⟩:=aw hi;rw[aq hj];exact WY (F.js j (Xx hj)))
 have f3:cC l.dv.length (oC l xs a)=none:=fM (fun i hi=>by
  obtain⟨d,hd⟩:=aw hi;have h:=F.dr i d hd;unfold oC vg;rw[aq hd,gM,gM];rw[show ae a.ts.length (a.bs.getD d.body.toNat bb).c=T.ofQ a.ts.length (de (xs.getD i cZ).half (xs.getD i cZ).t.q)from h.1,show ae a.ts.length (a.bs.getD d.body.toNat bb).s=T.ofQ a.ts.length (db (xs.getD i cZ).half (xs.getD i cZ).t.q)from h.2,w6,w6];rfl)
 unfold jl;rw[f1,f2,f3]
section
variable{l:Li}{xs:List Tn}{s g:Nat}(W:WkC l xs s g)
include W
end
section
variable{l:Li}{xs:List Tn}{s g:Nat}(W:WkC l xs s g)
include W
end
theorem H2{l:Li}(hl:l.ok){xs:List Tn}{a:Aq}(F:AqFin l xs a)(hxl:xs.length<=281474976710656):FP 37 [l.av,.lst 4 (xs.map Tn.av),a.av] (.tup [bl true,xO (0,0),br 0]):=by
 have hv:=R3 hl F.s xs (fun x hx=>⟨(F.xo x hx).2.2,(F.xo x hx).2.1⟩) hxl;rw[MT F,Yl rfl,R9 F]at hv;exact hv
theorem Fg{l:Li}(hl:l.ok)(h1:aA l=0)(h2:splitE l=0):FP 143 [l.av] (.tup [.lst 4 ((splitG l).map Gr.av),br 0]):=by
 have h:=Aj l hl;rw[Yl h1,Yl h1,h2]at h;exact h
structure AqM0(l:Li)(a:Aq):Prop where
  sp:splitE l=0
  ml:a.ms.length=(splitG l).length
structure AqSg(l:Li)(a:Aq):Prop extends AqM0 l a where
  sg:∀m g,m<a.ms.length->(splitG l)[m]?=some g->am (cD l a.ts a.bs g)=a.ms.getD m 0
theorem Qg{l:Li}{a:Aq}(M:AqMd l a):AqSg l a:=⟨⟨M.sp,M.ml⟩,fun m g h hg=>M.md m g h hg⟩
theorem OB{l:Li}(hl:l.ok){xs:List Tn}{a:Aq}(F:AqFin l xs a)(hs:splitE l=0)(hxl:xs.length<=281474976710656) :
  FP 115 [l.av,.lst 4 (xs.map Tn.av),a.av] (.tup [.lst 4 ((splitG l).map Gr.av),.v .nilIface]):=by
 have z0:ef (ic 0)=true:=rfl;refine aj func115 ?_;refine gc (Fg hl F.li hs) ?_;refine gC (fun t18=>?_) (fun t18=>?_) (st1:=(3,0));cases t18;refine gc (H2 hl F hxl) ?_;refine gC (fun t28=>?_) (fun t28=>?_) (st1:=(6,0));cases t28;refine gC (fun t32=>?_) (fun t32=>?_) (st1:=(8,0));cases t32;refine bp ?_;rfl
def jU(f:Int)(q:Rat):Rat:=if f<0 then -q else q
theorem Ia{q:Rat}(h:Qs q):FP 120 [qA q] (qA q):=by
 have h1:=Ge (rt q) h.ok;rw[bV]at h1;exact h1
theorem P9{q:Rat}(h:Qs q):Qs (-q):=by
 obtain⟨k,hk,h1,h2⟩:=h;exact⟨k,hk,h1.neg,h2⟩
theorem Au(x:List Rat)(hx:∀q∈x,Qs q)(hl:x.length<=1000)(f:Int):FP 117 [nA x,i64 f] (nA (x.map (jU f))):=by
 refine aj func117 ?_;refine gl ?_;refine gW (Wk.virt 900 3 rfl) ?_;refine aW [1,8,9] [] (fun(i:Nat)=>[(5,some (.ms 900 3 0 i)),(10,some (i64 i))]) (fun i=>[(900,some (.row 3 (((x.take i).map (jU f)).map qA)))]) (fun i=>i<=x.length) (fun i=>x.length-i) 0 (XJ _) ?_;rintro i hi K1 J1;refine gC (fun t11=>?_) (fun t11=>?_) (st2:=(9,0))
 ·have hin:=a6 t11;obtain⟨q,hq⟩:=aw hin;have hqs:=hx q (Xx hq);refine gi (aE hq) ?_;refine gC (fun t15=>?_) (fun t15=>?_)
  ·have hs:jU f q=-q:=Yl (of_decide_eq_true t15);have hw:=Ia (P9 hqs);refine gc (RQ hqs) ?_;refine gc hw ?_;refine gs (bX (.tmp rfl) rfl (kD oz).symm (.tmp rfl) T67 rfl T45 rfl rfl (by simp only[XK,XM];omega) rfl rfl) ?_ (8,0);refine gW (Wk.of (sl:=[(1,some (i64 f)),(5,some (.ms 22 3 0 (i+1))),(8,some (.lst 3 (x.map qA))),(9,some (i64 x.length)),(10,some (i64 i))]) (hp:=[(22,some (.row 3 (((x.take (i+1)).map (jU f)).map qA)))]) aZ (.cons rfl (BlkSub.of (by rw[pv hq,hs])) .nil)) ?_ (8,0);refine gW (Wk.rk (k:=22) (d:=900) rfl rfl) ?_;refine ga aN ?_;exact aO J1 (i+1) hin
  have hs:jU f q=q:=Yk (of_decide_eq_false t15);have hw:=Ia hqs;refine gc hw ?_;refine gs (bX (.tmp rfl) rfl (kD oz).symm (.tmp rfl) T67 rfl T45 rfl rfl (by simp only[XK,XM];omega) rfl rfl) ?_ (8,0);refine gW (Wk.of (sl:=[(1,some (i64 f)),(5,some (.ms 22 3 0 (i+1))),(8,some (.lst 3 (x.map qA))),(9,some (i64 x.length)),(10,some (i64 i))]) (hp:=[(22,some (.row 3 (((x.take (i+1)).map (jU f)).map qA)))]) aZ (.cons rfl (BlkSub.of (by rw[pv hq,hs])) .nil)) ?_ (8,0);refine gW (Wk.rk (k:=22) (d:=900) rfl rfl) ?_;refine ga aN ?_;exact aO J1 (i+1) hin
 have hin:=bc hi t11;subst hin;refine gW ((Wk.freeze (k:=900) rfl).trans<|Wk.of (sl:=[(5,some (.lst 3 ((x.map (jU f)).map qA)))]) (hp:=[]) (.cons rfl (Sub.of (by rw[bJ (kD (XD _)).symm,XP])) .nil) .nil) ?_;refine af ?_;rfl
def xw(m:Int):Int:=IntKind.i64.wrap (0-m)
def e8(p:Pq):Pq:=⟨p.c,p.s.map (fun q=>-q),p.x,p.y.map (fun q=>-q)⟩
def iI(l:Li)(a:Aq)(k:Nat):Int:=if((splitG l).getD k default).kind=1 then xw (a.ms.getD k 0)else a.ms.getD k 0
def jJ(l:Li)(a:Aq):Aq:=⟨a.ts,a.bs.map e8,(List.range a.ms.length).map (iI l a)⟩
theorem G5{n e:Nat}{x:List Rat}(h:Nm n e x)(he:e<4398046511104):FP 117 [nA x,i64 1] (nA x):=by
 have hl:=h.nl.len5 h.five;have c:=Au x (fun q hq=>h.cb.qs he hq) oz 1;rw[show x.map (jU 1)=x from by rw[show jU 1=id from funext fun q=>Yk (by decide)];exact map_id _]at c;exact c
theorem Gy{n e:Nat}{x:List Rat}(h:Nm n e x)(he:e<4398046511104):FP 117 [nA x,i64 (-1)] (nA (x.map fun q=>-q)):=by
 have hl:=h.nl.len5 h.five;have c:=Au x (fun q hq=>h.cb.qs he hq) oz (-1);rw[show jU (-1)=(fun q=>-q)from funext fun q=>Yl (by decide)]at c;exact c
theorem VD{ts:LL}{r:Nat}(tw:Tw ts r){x:List Rat}(hm:x∈ts):FP 117 [nA x,i64 1] (nA x):=by
 obtain⟨j,hj,e⟩:=List.mem_iff_getElem.1 hm;have h6:=tw.len j hj;rw[aq (XC hj),e]at h6;have h7:=tw.three
 have h8:x.length<=32:=by
  rw[h6];exact XW (Nat.pow_le_pow_right oz (show j<=5 by omega)) (by decide)
 have c:=Au x (tw.rb.qs tw.le x hm) oz 1;rw[show x.map (jU 1)=x from by rw[show jU 1=id from funext fun q=>Yk (by decide)];exact map_id _]at c;exact c
theorem Nm.ng{n e:Nat}{a:List Rat}(ha:Nm n e a):Nm n e (a.map fun q=>-q):=⟨ha.five,ri ha.nl,ha.cb.minus⟩
theorem KT{l:Li}{a:Aq}(F:AqS l a):AqS l (jJ l a):=by
 refine⟨F.li,F.tw,F.two,fun p hp=>?_,?_⟩
 ·obtain⟨q,hq,rfl⟩:=List.mem_map.1 hp;have h:=F.bs q hq;exact⟨h.c,h.s.ng,h.x,h.y.ng⟩
 ·show(a.bs.map e8).length=_;rw[XA];exact F.ln
theorem UJ{l:Li}(hl:l.ok){xs:List Tn}{a:Aq}(F:AqFin l xs a)(M:AqM0 l a)(hxl:xs.length<=281474976710656) :
  FP 44 [l.av,.lst 4 (xs.map Tn.av),a.av] (.tup [(jJ l a).av,.v .nilIface]):=by
 have hln:=F.ln;have hbl:=(cK F.li).2.2.2.1;have hml:=M.ml;have hlm:=F.lm;have h2:=F.two;obtain⟨r,hr,tw⟩:=F.tw;have hgl:=ra F.li;refine aj func44 ?_;refine gc (OB hl F M.sp hxl) ?_;refine gC (fun t25=>?_) (fun t25=>?_) (st1:=(3,0));cases t25;refine gl ?_;refine gW (Wk.virt 900 1 rfl) ?_;refine aW [5,6,8,10,30,31] [5,6] (fun(i:Nat)=>[(32,some (i64 i))]) (fun i=>[(10,some (.box [.ms 900 1 0 i,nS,nS])),(900,some (.row 1 ((a.ts.take i).map nA)))]) (fun i=>i<=a.ts.length) (fun i=>a.ts.length-i) 0 (XJ _) ?_ (h2:=(.cons rfl (BlkSub.bL (.cons (.nM _ _ _) (.cons (.refl _) (.cons (.refl _) .nil))) rfl) (.k .nil)));rintro i hi K1 J1;refine gC (fun t33=>?_) (fun t33=>?_) (st2:=(10,0))
 ·have hin:=a6 t33;obtain ⟨d,hd⟩:=aw hin;have hn1:=VD tw (Xx hd);refine gi (aE hd) ?_;refine gc hn1 ?_;refine gs (bX (.tmp rfl) rfl (uB oz).symm (.tmp rfl) T35 rfl T67 rfl rfl (by simp only [XK,XM]; omega) rfl rfl) ?_;refine gD ?_ (9,0);refine gW (Wk.of (sl:=[(5,some (.ptr 5 0)),(6,some (.ptr 6 0)),(8,some (.lst 4 ((splitG l).map Gr.av))),(10,some (.ptr 10 0)),(30,some (.lst 1 (a.ts.map nA))),(31,some (i64 a.ts.length)),(32,some (i64 i))]) (hp:=[(5,some (.box a.cs)),(6,some (.box [nS,nS,nS])),(10,some (.box [.ms 42 1 0 (i + 1),nS,nS])),(42,some (.row 1 ((a.ts.take (i + 1)).map nA)))]) aZ (.k (.k (.k (.cons rfl (BlkSub.of (by rw [dR hd,XQ]; rfl)) .nil))))) ?_ (9,0)
  refine gW (Wk.rk (k:=42) (d:=900) rfl rfl) ?_;refine ga aN ?_;exact aO J1 (i+1) hin
 have hin:=bc hi t33;subst hin;refine gW ((Wk.freeze (k:=900) rfl).trans<|Wk.of (sl:=[(5,some (.ptr 5 0)),(6,some (.ptr 6 0)),(8,some (.lst 4 ((splitG l).map Gr.av))),(10,some (.ptr 10 0))]) (hp:=[(5,some (.box a.cs)),(6,some (.box [nS,nS,nS])),(10,some (.box [.lst 1 (a.ts.map nA),nS,nS]))]) aZ (.k (.k (.cons rfl (BlkSub.bL (.cons (.of (by rw[bJ (uB (XD _)).symm,XP])) (.cons (.refl _) (.cons (.refl _) .nil))) rfl) .nil)))) ?_
 refine gl ?_;refine gW (Wk.virt 900 4 rfl) ?_;refine aW [5,6,8,10,47,48] [5,6] (fun(i:Nat)=>[(49,some (i64 i))]) (fun i=>[(10,some (.box [.lst 1 (a.ts.map nA),.ms 900 4 0 i,nS])),(900,some (.row 4 (((a.bs.take i).map e8).map Pq.av)))]) (fun i=>i<=a.bs.length) (fun i=>a.bs.length-i) 0 (XJ _) ?_ (h2:=(.cons rfl (BlkSub.bL (.cons (.refl _) (.cons (.nM _ _ _) (.cons (.refl _) .nil))) rfl) (.k .nil)));rintro i hi2 K2 J2;refine gC (fun t50=>?_) (fun t50=>?_) (st2:=(15,0))
 ·have hin:=a6 t50;obtain ⟨b,hb⟩:=aw hin;have hbm:=Xx hb;have po:=F.bs b hbm;refine gi (aE hb) ?_;refine gc (G5 po.c oz) ?_;refine gc (Gy po.s oz) ?_;refine gc (G5 po.x oz) ?_;refine gc (Gy po.y oz) ?_;refine gs (bX (.tmp rfl) rfl (kD oz).symm (.tmp rfl) T38 rfl T69 rfl rfl (by simp only [XK,XM]; omega) rfl rfl) ?_;refine gD ?_ (14,0);refine gW (Wk.of (sl:=[(5,some (.ptr 5 0)),(6,some (.ptr 6 0)),(8,some (.lst 4 ((splitG l).map Gr.av))),(10,some (.ptr 10 0)),(47,some (.lst 4 (a.bs.map Pq.av))),(48,some (i64 a.bs.length)),(49,some (i64 i))]) (hp:=[(5,some (.box a.cs)),(6,some (.box [nS,nS,nS])),(10,some (.box [.lst 1 (a.ts.map nA),.ms 69 4 0 (i + 1),nS])),(69,some (.row 4 (((a.bs.take (i + 1)).map e8).map Pq.av)))]) aZ (.k (.k (.k (.cons rfl (BlkSub.of (by rw [pv hb]; rfl)) .nil))))) ?_ (14,0)
  refine gW (Wk.rk (k:=69) (d:=900) rfl rfl) ?_;refine ga aN ?_;exact aO J2 (i+1) hin
 have hin:=bc hi2 t50;subst hin;refine gW ((Wk.freeze (k:=900) rfl).trans<|Wk.of (sl:=[(5,some (.ptr 5 0)),(6,some (.ptr 6 0)),(8,some (.lst 4 ((splitG l).map Gr.av))),(10,some (.ptr 10 0))]) (hp:=[(5,some (.box a.cs)),(6,some (.box [nS,nS,nS])),(10,some (.box [.lst 1 (a.ts.map nA),.lst 4 ((a.bs.map e8).map Pq.av),nS]))]) aZ (.k (.k (.cons rfl (BlkSub.bL (.cons (.refl _) (.cons (.of (by rw[bJ (kD (XD _)).symm,XP])) (.cons (.refl _) .nil))) rfl) .nil)))) ?_
 refine gl ?_;refine gl ?_;refine gC (fun t77=>?_) (fun t77=>?_) (st1:=(16,0));exact absurd hml (w7 t77);refine gl ?_;refine gW (Wk.virt 900 1 rfl) ?_;refine aW [6,8,10,80,81] [6] (fun(i:Nat)=>[(82,some (i64 i))]) (fun i=>[(10,some (.box [.lst 1 (a.ts.map nA),.lst 4 ((a.bs.map e8).map Pq.av),.ms 900 1 0 i])),(900,some (.row 1 (((List.range i).map (iI l a)).map i64)))]) (fun i=>i<=a.ms.length) (fun i=>a.ms.length-i) 0 (XJ _) ?_ (h2:=(.cons rfl (BlkSub.bL (.cons (.refl _) (.cons (.refl _) (.cons (.nM _ _ _) .nil))) rfl) (.k .nil)));rintro i hi4 K3 J3;refine gC (fun t83=>?_) (fun t83=>?_) (st2:=(24,0))
 ·have hin:=a6 t83;obtain⟨m,hm⟩:=aw hin;obtain⟨g,hgi⟩:=aw (l:=splitG l) (i:=i) oz;refine gi (aE hm) ?_;refine gi (aE hgi) ?_;refine gC (fun t92=>?_) (fun t92=>?_)
  ·have hk : iI l a i = xw m := by unfold iI; rw [aq hgi, aq hm, Yl (cH t92)]
   refine gs (vm (.tmp rfl) rfl) ?_;refine gs (bX (.tmp rfl) rfl (by simp) (.tmp rfl) T39 rfl T3 rfl rfl (by simp only[XK,XM];omega) rfl rfl) ?_ (23,0);refine gW (Wk.of (sl:=[(6,some (.ptr 6 0)),(8,some (.lst 4 ((splitG l).map Gr.av))),(10,some (.ptr 10 0)),(80,some (.lst 1 (a.ms.map i64))),(81,some (i64 a.ms.length)),(82,some (i64 i))]) (hp:=[(6,some (.box [nS,nS,nS])),(10,some (.box [.lst 1 (a.ts.map nA),.lst 4 ((a.bs.map e8).map Pq.av),.ms 99 1 0 (i+1)])),(99,some (.row 1 (((List.range (i+1)).map (iI l a)).map i64)))]) aZ (.k (.k (.cons rfl (BlkSub.of (by first |(rw[range_succ,XQ,XQ,List.map_singleton,List.map_singleton,hk];done) |(rw[range_succ,XQ,XQ,List.map_singleton,List.map_singleton,hk];rfl))) .nil)))) ?_ (23,0)
   refine gW (Wk.rk (k:=99) (d:=900) rfl rfl) ?_;refine ga aN ?_;exact aO J3 (i+1) hin
  have hk:iI l a i=m:=by unfold iI;rw[aq hgi,aq hm,Yk (dm t92)]
  refine gs (bX (.tmp rfl) rfl (by simp) (.tmp rfl) T39 rfl T3 rfl rfl (by simp only[XK,XM];omega) rfl rfl) ?_ (23,0);refine gW (Wk.of (sl:=[(6,some (.ptr 6 0)),(8,some (.lst 4 ((splitG l).map Gr.av))),(10,some (.ptr 10 0)),(80,some (.lst 1 (a.ms.map i64))),(81,some (i64 a.ms.length)),(82,some (i64 i))]) (hp:=[(6,some (.box [nS,nS,nS])),(10,some (.box [.lst 1 (a.ts.map nA),.lst 4 ((a.bs.map e8).map Pq.av),.ms 99 1 0 (i+1)])),(99,some (.row 1 (((List.range (i+1)).map (iI l a)).map i64)))]) aZ (.k (.k (.cons rfl (BlkSub.of (by first |(rw[range_succ,XQ,XQ,List.map_singleton,List.map_singleton,hk];done) |(rw[range_succ,XQ,XQ,List.map_singleton,List.map_singleton,hk];rfl))) .nil)))) ?_ (23,0)
  refine gW (Wk.rk (k:=99) (d:=900) rfl rfl) ?_;refine ga aN ?_;exact aO J3 (i+1) hin
 have hin:=bc hi4 t83;subst hin;refine gW ((Wk.freeze (k:=900) rfl).trans<|Wk.of (sl:=[(6,some (.ptr 6 0)),(10,some (.ptr 10 0))]) (hp:=[(6,some (.box [nS,nS,nS])),(10,some (.box (jJ l a).cs))]) aZ (.k (.cons rfl (BlkSub.bL (.cons (.refl _) (.cons (.refl _) (.cons (.of (by rw[bJ (by simp)];rfl)) .nil))) rfl) .nil))) ?_;refine bp ?_;rfl
open Lean.Grind (CommRing)
section
variable{l:Li}{xs:List Tn}{s g:Nat}(W:WkC l xs s g){gr:Gr}{a:Aq}(hg:(splitG l)[a.ms.length]?=some gr)
variable{j r E:Nat}(Q:QInv l j r E a)
include W hg Q
end
structure AqD(l:Li)(a:Aq):Prop where
  tw:∃r,r<=60000000/\Tw a.ts r
  an:∀(m:Nat)(g:Gr),(splitG l)[m]?=some g->g.kind≠0->∀b∈cR l g false,0<=b->Pq.ok a.ts.length 3900000 (a.bs.getD b.toNat bb)
section
variable{E r:Nat}{l:Li}{a:As}(D:DyW l a)(tw:Tw (llq a.rs) r)(hK:kB r (llq a.rs).length<=180000006)
include D tw hK
end
end Go.Lw
namespace Go.Lw
open Go.Proofs
def yw(ts:LL)(a b c d p q:T ts.length):T ts.length:=nT ts (subT ts a p) (subT ts b q) (subT ts c p) (subT ts d q)
def pN(ts:LL)(a b c d p q:T ts.length):Bool:=decide (T.sgn (ax ts) ts.length (nC ts a b c d p q)=0)&&decide (T.sgn (ax ts) ts.length (yw ts a b c d p q)<=0)
theorem KR(x y:Int):cond (aa .eql x 0) (aa .leq y 0) false=(decide (x=0)&&decide (y<=0)):=by
 by_cases h:x=0 <;> by_cases h2:y<=0 <;> simp[aa,h,h2]
theorem RG(x y:Int):cond (cond (aa .eql x 0) (aa .leq y 0) false) (ef Value.nilIface) false=(decide (x=0)&&decide (y<=0)):=by
 rw[KR];cases(decide (x=0)&&decide (y<=0)) <;> rfl
theorem Ui{ts:LL}{r e:Nat}(tw:Tw ts r){a b c d p q:List Rat}(ha:Nm ts.length e a)(hb:Nm ts.length e b)(hc:Nm ts.length e c)(hd:Nm ts.length e d)(hp:Nm ts.length e p)(hq:Nm ts.length e q)
  (he:16*e+20+4*kB r ts.length<=lm ts.length) :
  FP 242 [aY ts,aM a b,aM c d,aM p q] (.tup [bl (pN ts (ae ts.length a) (ae ts.length b) (ae ts.length c) (ae ts.length d) (ae ts.length p) (ae ts.length q)),.v .nilIface]):=by
 have ho:=Iv tw ha hb hc hd hp hq;have s1:=ha.sub hp;have s2:=hb.sub hq;have s3:=hc.sub hp;have s4:=hd.sub hq;have hD:=B7 tw s1 s2 s3 s4 oz;have hN:=xL tw s1 s2 s3 s4;simp only[bg]at hD hN;refine aj func242 ?_;refine gc (my (e:=e) tw [(a,b),(c,d),(p,q)] (by simp only[X6,XV,or_false];rintro x (rfl |rfl |rfl);exact⟨ha,hb⟩;exact⟨hc,hd⟩;exact⟨hp,hq⟩) oz (by simp)) ?_;refine gC (fun t24=>?_) (fun t24=>?_) (st1:=(3,0));cases t24;refine gt (aH (Con.rB 28 rfl rfl rfl rfl (Co tw ha hb hc hd hp hq oz)) (.cons (.tmp rfl) (.cons (.tmp rfl) (.cons (.tmp rfl) (.cons (.tmp rfl) .nil)))) aI rfl rfl) ?_;refine gt (aX (Con.rB 28 rfl rfl rfl rfl (p5 tw ha hb hp hq oz)) (aJ rfl rfl rfl) rfl rfl rfl) ?_;refine gt (aX (Con.rB 28 rfl rfl rfl rfl (p5 tw hc hd hp hq oz)) (aJ rfl rfl rfl) rfl rfl rfl) ?_;refine gt (aX (Con.rB 28 rfl rfl rfl rfl hD) (aJ rfl rfl rfl) rfl rfl rfl) ?_;refine gt (aX (Con.rB 28 rfl rfl rfl rfl (v9 _ _)) (bB rfl rfl) rfl rfl rfl) ?_;refine gD ?_;refine gC (fun t50=>?_) (fun t50=>?_) (st1:=(8,0));cases t50;refine gc (qU tw ho oz) ?_;refine gC (fun t59=>?_) (fun t59=>?_) (st1:=(11,0));cases t59;refine gc (qU tw hN oz) ?_;refine bp ?_;rw[bg,bg];exact congrArg (fun z=>AV.tup [bl z,.v .nilIface]) (RG _ _)
theorem EN{l:Li}(hl:l.ok){xs:List Tn}{a:Aq}(F:AqFin l xs a)(hs:splitE l=0)(hxl:xs.length<=281474976710656) :
  FP 125 [l.av,.lst 4 (xs.map Tn.av),a.av] (.tup [.lst 4 ((splitG l).map Gr.av),.v .nilIface]):=by
 have z0:ef (ic 0)=true:=rfl;refine aj func125 ?_;refine gc (Fg hl F.li hs) ?_;refine gC (fun t18=>?_) (fun t18=>?_) (st1:=(3,0));cases t18;refine gc (H2 hl F hxl) ?_;refine gC (fun t28=>?_) (fun t28=>?_) (st1:=(6,0));cases t28;refine gC (fun t32=>?_) (fun t32=>?_) (st1:=(8,0));cases t32;refine bp ?_;rfl
def oK(l:Li)(a:Aq)(g:Gr):AV:=nA (lP l a g)
theorem Q4{l:Li}(hl:l.ok){xs:List Tn}{a:Aq}(F:AqFin l xs a)(hs:splitE l=0) :
  FP 126 [l.av,i64 (splitG l).length,a.av] (.tup [.lst 1 ((splitG l).map (oK l a)),.v .nilIface]):=by
 have hgl:=ra F.li;refine aj func126 ?_;refine gW (Wk.virt 900 1 rfl) ?_;refine aW [3,5,12] [3,5] (fun(i:Nat)=>[(8,some (.ms 900 1 0 i)),(13,some (i64 i))]) (fun i=>[(900,some (.row 1 (((splitG l).take i).map (oK l a))))]) (fun i=>i<=(splitG l).length) (fun i=>(splitG l).length-i) 0 (XJ _) ?_;rintro i hi K1 J1;refine gC (fun t14=>?_) (fun t14=>?_) (st2:=(10,0))
 ·have hin:i<(splitG l).length:=a6 t14;obtain⟨g,hg⟩:=aw hin;refine gc (IU hl F.s hs hg) ?_;refine gC (fun t24=>?_) (fun t24=>?_) (st1:=(7,0));cases t24;refine gs (bX (.tmp rfl) rfl (uB oz).symm (.tmp rfl) T35 rfl T67 rfl rfl (by simp only[XK,XM];omega) rfl rfl) ?_ (9,0);refine gW (Wk.of (sl:=[(3,some (.ptr 3 0)),(5,some (.ptr 5 0)),(8,some (.ms 29 1 0 (i+1))),(12,some (i64 (splitG l).length)),(13,some (i64 i))]) (hp:=[(3,some (.box l.av.cells)),(5,some (.box a.cs)),(29,some (.row 1 (((splitG l).take (i+1)).map (oK l a))))]) aZ (.k (.k (.cons rfl (BlkSub.of (by rw[dR hg,XQ];rfl)) .nil)))) ?_ (9,0);refine gW (Wk.rk (k:=29) (d:=900) rfl rfl) ?_;refine ga aN ?_;exact aO J1 (i+1) hin
 have hin:=bc hi t14;subst hin;refine gW ((Wk.freeze (k:=900) rfl).trans<|Wk.of (sl:=[(8,some (.lst 1 ((splitG l).map (oK l a))))]) (hp:=[]) (.cons rfl (Sub.of (by rw[bJ (uB (XD _)).symm,XP])) .nil) .nil) ?_;refine bp ?_
 first |rfl |(simp;done)
theorem OU{l:Li}(hl:l.ok){xs:List Tn}{a:Aq}(F:AqFin l xs a)(hs:splitE l=0)(hxl:xs.length<=281474976710656) :
  FP 129 [l.av,.lst 4 (xs.map Tn.av),a.av] (.tup [.lst 1 ((splitG l).map (oK l a)),.v .nilIface]):=by
 have hgl:=ra F.li;refine aj func129 ?_;refine gc (EN hl F hs hxl) ?_;refine gC (fun t18=>?_) (fun t18=>?_) (st1:=(3,0));cases t18;refine gl ?_;refine gc (Q4 hl F hs) ?_;refine bp ?_
 first |rfl |(simp;done)
def eF(ms:List Int)(n:Nat):List Int:=((List.range n).filter fun k=>decide (ms.getD k 0=0)).map Int.ofNat
theorem uV{ms:List Int}{n:Nat}(h:ms.getD n 0=0):eF ms (n+1)=eF ms n++[(n:Int)]:=by
 unfold eF;rw[range_succ,List.filter_append,XQ]
 congr 1;rw[List.filter_cons,Yl (decide_eq_true h)];rfl
theorem vp{ms:List Int}{n:Nat}(h:ms.getD n 0≠0):eF ms (n+1)=eF ms n:=by
 unfold eF;rw[range_succ,List.filter_append,XQ]
 have e:List.filter (fun k=>decide (ms.getD k 0=0)) [n]=[]:=by rw[List.filter_cons,Yk (by rw[decide_eq_false h];decide)];rfl
 rw[e];exact append_nil _
theorem Ib(ms:List Int)(n:Nat):(eF ms n).length<=n:=by
 unfold eF;rw[XA];exact XW (List.length_filter_le _ _) (by simp)
theorem Af{l:Li}(hl:l.ok){xs:List Tn}{a:Aq}(F:AqFin l xs a)(M:AqSg l a)(hxl:xs.length<=281474976710656) :
  FP 52 [l.av,.lst 4 (xs.map Tn.av),a.av] (.tup [.lst 1 ((eF a.ms (splitG l).length).map i64),.v .nilIface]):=by
 have hgl:=ra F.li;have hml:=M.ml;refine aj func52 ?_;refine gc (OU hl F M.sp hxl) ?_;refine gC (fun t23=>?_) (fun t23=>?_) (st1:=(3,0));cases t23;refine gl ?_;refine gW (Wk.virt 900 1 rfl) ?_;refine aW [5,25,26] [5] (fun(i:Nat)=>[(10,some (.ms 900 1 0 (eF a.ms i).length)),(27,some (i64 i))]) (fun i=>[(900,some (.row 1 ((eF a.ms i).map i64)))]) (fun i=>i<=(splitG l).length) (fun i=>(splitG l).length-i) 0 (XJ _) ?_;rintro i hi K1 J1;refine gC (fun t28=>?_) (fun t28=>?_) (st2:=(14,0))
 ·have hin:i<(splitG l).length:=a6 t28;obtain⟨g,hg⟩:=aw hin;have hsl:=Ib a.ms i;have hsn:=Ey hl F.s M.sp hg;rw[M.sg i g oz hg]at hsn;refine gi (aE hg) ?_;refine gc hsn ?_;refine gC (fun t40=>?_) (fun t40=>?_) (st1:=(10,0));cases t40;refine gC (fun t43=>?_) (fun t43=>?_) (st2:=(77777,0))
  ·have hz:a.ms.getD i 0 = 0:=of_decide_eq_true t43;refine gs (bX (.tmp rfl) rfl (by simp) (.tmp rfl) T39 rfl T3 rfl rfl (by simp only [XK,XM]; omega) rfl rfl) ?_ (13,0);refine gW (Wk.of (sl:=[(5,some (.ptr 5 0)),(10,some (.ms 47 1 0 (eF a.ms (i + 1)).length)),(25,some (.lst 1 ((splitG l).map (oK l a)))),(26,some (i64 (splitG l).length)),(27,some (i64 i))]) (hp:=[(5,some (.box a.cs)),(47,some (.row 1 ((eF a.ms (i + 1)).map i64)))]) (.k (.cons rfl (Sub.of (by rw [uV hz]; simp)) (.k (.k (.k .nil))))) (.k (.cons rfl (BlkSub.of (by rw [uV hz]; simp)) .nil))) ?_ (13,0)
   refine gW (Wk.rk (k:=47) (d:=900) rfl rfl) ?_;refine ga aN ?_;exact aO J1 (i+1) hin
  have hz:a.ms.getD i 0≠0:=of_decide_eq_false t43;refine gW (Wk.of (sl:=[(5,some (.ptr 5 0)),(10,some (.ms 900 1 0 (eF a.ms (i+1)).length)),(25,some (.lst 1 ((splitG l).map (oK l a)))),(26,some (i64 (splitG l).length)),(27,some (i64 i))]) (hp:=[(5,some (.box a.cs)),(900,some (.row 1 ((eF a.ms (i+1)).map i64)))]) (.k (.cons rfl (Sub.of (by rw[vp hz])) (.k (.k (.k .nil))))) (.k (.cons rfl (BlkSub.of (by rw[vp hz])) .nil))) ?_;refine ga aN ?_;exact aO J1 (i+1) hin
 have hin:=bc hi t28;subst hin;refine gW ((Wk.freeze (k:=900) rfl).trans<|Wk.of (sl:=[(10,some (.lst 1 ((eF a.ms (splitG l).length).map i64)))]) (hp:=[]) (.cons rfl (Sub.of (by rw[bJ (by simp)])) .nil) .nil) ?_;refine bp ?_
 first |rfl |(simp;done)
theorem Vq{l:Li}(hl:l.ok){a:Aq}(F:AqS l a){body pt:Int}(h1:bu body l.bo.length=true)(h2:bu pt (cA l body).length=true) :
  FP 241 [l.av,a.av,i64 body,i64 pt] (.tup [aM (sX (aV l a.ts a.bs body pt).1) (sX (aV l a.ts a.bs body pt).2),.v .nilIface]):=by
 obtain⟨n,k,bd,m,h⟩:=oD hl F.li h1 h2;obtain⟨r,hr,tw⟩:=F.tw;have hkb:=q8 hr F.two;have hlm:=lR F.two;have hlb:=(cK F.li).2.2.2.1;obtain⟨p,hp⟩:=aw (l:=a.bs) (i:=n) (by rw[F.ln];exact(List.getElem?_eq_some_iff.1 h.gbd).1);have po:=F.bs p (Xx hp);have hn:=h.hn;have hk:=h.hk
 have e:aV l a.ts a.bs body pt=co a.ts p (aS l body pt):=by
  unfold aV;rw[hn,X3,aq hp]
 have hat:FP 89 [aY a.ts,p.av,m.x.av,m.y.av] (.tup [aM (sX (aV l a.ts a.bs body pt).1) (sX (aV l a.ts a.bs body pt).2),.v .nilIface]):=by
  rw[h.ex,h.ey,e];exact vF tw po.c po.s po.x po.y (h.sm.x.mono oz) (h.sm.y.mono oz) oz
 have gb:=h.gbd;have gm:=h.gm;clear h h1 h2 e;subst hn;subst hk;refine aj func241 ?_;refine gi (aE gb) ?_;refine gi (aE gm) ?_;refine gi (aE hp) ?_;refine gc hat ?_;refine gD ?_;refine bp ?_
 first |rfl |(simp;done)
def dD(l:Li)(a:Aq)(z:Int):Et a.ts×Et a.ts:=aV l a.ts a.bs (l.jo.getD z.toNat default).a (l.jo.getD z.toNat default).point
def kT(l:Li)(a:Aq)(zs:List Int):Bool :=
  pN a.ts (dD l a (zs.getD 0 0)).1 (dD l a (zs.getD 0 0)).2 (dD l a (zs.getD 1 0)).1 (dD l a (zs.getD 1 0)).2 (dD l a (zs.getD 2 0)).1 (dD l a (zs.getD 2 0)).2
def BO(l:Li)(a:Aq)(zs:List Int)(i k:Nat):List Rat:=if k<i then sX (dD l a (zs.getD k 0)).1 else[]
def xQ(l:Li)(a:Aq)(zs:List Int)(i k:Nat):List Rat:=if k<i then sX (dD l a (zs.getD k 0)).2 else[]
abbrev xc(l:Li)(a:Aq)(zs:List Int)(i:Nat):List AV:=[nA (BO l a zs i 0),nA (xQ l a zs i 0),nA (BO l a zs i 1),nA (xQ l a zs i 1),nA (BO l a zs i 2),nA (xQ l a zs i 2)]
abbrev IB(l:Li)(a:Aq)(z:Int):AV:=aM (sX (dD l a z).1) (sX (dD l a z).2)
theorem WC{l:Li}{a:Aq}{zs:List Int}{i:Nat}{z:Int}(hi:i<3)(hz:zs[i]?=some z) :
  over (xc l a zs i) (0+((i:Nat):Int).toNat*2) (AV.cells (IB l a z))=xc l a zs (i+1):=by
 have e:zs.getD i 0=z:=aq hz;subst e;have h:i=0\/i=1\/i=2:=by omega
 rcases h with rfl |rfl |rfl <;> rfl
theorem Ko{l:Li}{a:Aq}{zs:List Int}{i:Nat}(hi:i<3):Nat.ble (0+((i:Nat):Int).toNat*2+2) (xc l a zs i).length=true:=by
 rw[Nat.ble_eq];show 0+((i:Nat):Int).toNat*2+2<=6;omega
theorem AM{l:Li}(hl:l.ok){a:Aq}(F:AqS l a){z:Int}(h:0<=z/\z<l.jo.length) :
  Nm a.ts.length 12100000000 (sX (dD l a z).1)/\Nm a.ts.length 12100000000 (sX (dD l a z).2):=by
 obtain⟨j,hj⟩:=aw (l:=l.jo) (i:=z.toNat) oz;obtain⟨i1,i2,i3,i4,_⟩:=cO F.li hj;unfold dD;rw[aq hj];exact wc F hl i1 i3
theorem PJ{l:Li}(hl:l.ok){a:Aq}(F:AqS l a){g:Gr}(hgo:GrOk l g)(h3:g.jo.length=3) :
  FP 130 [l.av,a.av,g.av] (.tup [i64 (if kT l a g.jo=true then 1 else 2),.v .nilIface]):=by
 have hlj:=hl.lj;obtain⟨z0,hz0⟩:=aw (l:=g.jo) (i:=0) oz;obtain⟨z1,hz1⟩:=aw (l:=g.jo) (i:=1) oz;obtain⟨z2,hz2⟩:=aw (l:=g.jo) (i:=2) oz;have e0:g.jo.getD 0 0=z0:=aq hz0;have e1:g.jo.getD 1 0=z1:=aq hz1;have e2:g.jo.getD 2 0=z2:=aq hz2;obtain⟨r,hr,tw⟩:=F.tw;have hkb:=q8 hr F.two;have hlm:=lR F.two;have n0:=AM hl F (hgo.j z0 (Xx hz0));have n1:=AM hl F (hgo.j z1 (Xx hz1));have n2:=AM hl F (hgo.j z2 (Xx hz2));have hb:=Ui tw n0.1 n0.2 n1.1 n1.2 n2.1 n2.2 oz;have ed:∀y:Et a.ts,ae a.ts.length (sX y)=y:=fun y=>bg _ _
 rw[ed,ed,ed,ed,ed,ed]at hb;have hd:kT l a g.jo=pN a.ts (dD l a z0).1 (dD l a z0).2 (dD l a z1).1 (dD l a z1).2 (dD l a z2).1 (dD l a z2).2:=by unfold kT;rw[e0,e1,e2]
 rw[<- hd]at hb;refine aj func130 ?_;refine gl ?_;refine aW [3,4,8,17,18] [3,4] (fun(i:Nat)=>[(19,some (i64 i))]) (fun i=>[(8,some (.box (xc l a g.jo i)))]) (fun i=>i<=g.jo.length) (fun i=>g.jo.length-i) 0 (XJ _) ?_ (h2:=(.cons rfl (BlkSub.bL (.cons (Sub.nil _ _ _) (.cons (Sub.nil _ _ _) (.cons (Sub.nil _ _ _) (.cons (Sub.nil _ _ _) (.cons (Sub.nil _ _ _) (.cons (Sub.nil _ _ _) .nil)))))) rfl) .nil));rintro i hi K1 J1;refine gC (fun t20=>?_) (fun t20=>?_) (st2:=(11,0))
 ·have hin:i < g.jo.length:=a6 t20;obtain ⟨z,hz⟩:=aw hin;have hzj:=hgo.j z (Xx hz);obtain ⟨j,hj⟩:=aw (l:=l.jo) (i:=z.toNat) oz;obtain ⟨i1,i2,i3,i4,_⟩:=cO F.li hj;have hpl:=Vq hl F i1 i3;have ej:aV l a.ts a.bs j.a j.point = dD l a z:=by unfold dD; rw [aq hj]
  rw[ej]at hpl;have hpl2:FP 241 [l.av,a.av,i64 j.a,i64 j.point] (.tup [IB l a z,.v .nilIface]):=hpl;refine gi (aE hz) ?_;refine gi (f6 (n:=z.toNat) oz hj) ?_;refine gc hpl2 ?_;refine gC (fun t40=>?_) (fun t40=>?_) (st1:=(8,0));cases t40;refine gs ((vY (.tmp rfl) (.tmp rfl) T309 rfl T77 rfl oz oz rfl)) ?_ (9,4);refine gs ((Eb (.tmp rfl) rfl (.tmp rfl) rfl T77 rfl (Ko oz))) ?_;refine ga aN ?_;exact aO J1 (i+1) hin (hw:=Wk.of aZ (.cons rfl (BlkSub.of (congrArg Blk.box (WC oz hz))) (.k (.k .nil))))
 have hin:=bc hi t20;have hi3:i=3:=by omega
 subst hi3;refine gW (Wk.of (sl:=[(4,some (.ptr 4 0)),(8,some (.ptr 8 0))]) (hp:=[(4,some (.box a.cs)),(8,some (.box [nA (sX (dD l a z0).1),nA (sX (dD l a z0).2),nA (sX (dD l a z1).1),nA (sX (dD l a z1).2),nA (sX (dD l a z2).1),nA (sX (dD l a z2).2)]))]) aZ (.k (.cons rfl (BlkSub.of (by rw[<- e0,<- e1,<- e2];rfl)) .nil))) ?_;refine gs (vY (.tmp rfl) (.const _) T309 rfl T77 rfl oz oz rfl) ?_;refine gs (vY (.tmp rfl) (.const _) T309 rfl T77 rfl oz oz rfl) ?_;refine gs (vY (.tmp rfl) (.const _) T309 rfl T77 rfl oz oz rfl) ?_;refine gc hb ?_;refine gC (fun t59=>?_) (fun t59=>?_) (st1:=(13,0));cases t59;refine gC (fun t61=>?_) (fun t61=>?_)
 ·have hd1:kT l a g.jo=true:=t61;refine bp ?_;rw[Yl hd1];rfl
 have hd1:kT l a g.jo=false:=t61;refine bp ?_;rw[Yk (by rw[hd1];decide)];rfl
def l6(l:Li)(a:Aq)(k:Nat):Int:=if a.ms.getD k 0≠0 then 0 else if((splitG l).getD k default).kind=1 then(if kT l a ((splitG l).getD k default).jo=true then 1 else 2)else 3
theorem Mc{k n:Nat}(h:k<n)(h1:cond (aa .lss (k:Int) 0) true (aa .geq (k:Int) (n:Int))=true):False:=by
 rcases Eu h1 with h2 |h2 <;> omega
theorem Wx{l:Li}{g:Gr}(h:DyK l g)(hk:g.kind=1):g.jo.length=3:=by
 cases h with
 |drv=>exact absurd hk (by simp)
 |pr=>exact absurd hk (by simp)
 |rp=>exact absurd hk (by simp)
 |rrr=>rfl
theorem yJ{l:Li}(hl:l.ok){xs:List Tn}{a:Aq}(F:AqFin l xs a)(M:AqSg l a)(hxl:xs.length<=281474976710656){k:Nat}(hk:k<(splitG l).length) :
  FP 53 [l.av,.lst 4 (xs.map Tn.av),a.av,i64 k] (.tup [i64 (l6 l a k),.v .nilIface]):=by
 have hgl:=ra F.li;have hml:=M.ml;obtain⟨g,hg⟩:=aw hk;have ega:(splitG l).getD k default=g:=aq hg;have hsn:=Ey hl F.s M.sp hg;rw[M.sg k g oz hg]at hsn;have ekn:l6 l a k=if a.ms.getD k 0≠0 then 0 else if g.kind=1 then(if kT l a g.jo=true then 1 else 2)else 3:=by unfold l6;rw[ega]
 rw[ekn];obtain⟨dy,ok⟩:=oY F.li (Xx hg);refine aj func53 ?_;refine gc (EN hl F M.sp hxl) ?_;refine gC (fun t22=>?_) (fun t22=>?_) (st1:=(3,0));cases t22;refine cQ ?_;refine gC (fun t31=>?_) (fun t31=>?_) (st1:=(5,0));exact(Mc hk t31).elim;refine gc (IU hl F.s M.sp hg) ?_;refine gC (fun t41=>?_) (fun t41=>?_) (st1:=(8,0));cases t41;refine gc hsn ?_;refine gC (fun t50=>?_) (fun t50=>?_) (st1:=(11,0));cases t50;refine gC (fun t54=>?_) (fun t54=>?_)
 ·have h7:a.ms.getD k 0≠0:=mR t54;refine bp ?_;rw[Yl h7];rfl
 have h7:a.ms.getD k 0=0:=ui t54;rw[Yk oz];refine gi (aE hg) ?_;refine gC (fun t57=>?_) (fun t57=>?_)
 ·have h8:g.kind=1:=cH t57;refine gi (aE hg) ?_;refine gc (PJ hl F.s ok (Wx dy h8)) ?_;refine gD ?_;refine bp ?_;rw[Yl h8]
 have h8:g.kind≠1:=dm t57;refine bp ?_;rw[Yk h8];rfl
section
variable{l:Li}(hl:l.ok){a:Aq}(F:AqS l a)(DD:AqD l a)(hs:splitE l=0)
include hl F DD hs
end
section
variable{ts:LL}{r:Nat}(tw:Tw ts r)
include tw
end
def bP{T:LL}(p:P2 T):P2 T:=(p.1,-p.2)
def tW(q:Rat×Rat):Rat×Rat:=(q.1,-q.2)
section
variable{T:LL}
theorem uL(x:List Rat):(dE T (x.map fun q=>-q):Et T)=-dE T x:=nI (k:=T.length) (a:=x)
theorem E1(q:Rat):(qE (-q):Et T)=-qE q:=by
 have h:(qE (0-q):Et T)=qE 0-qE q:=mz _ _;have h0:(qE (0:Rat):Et T)=0:=rfl;rw[show -q=0-q by grind,h,h0];grind
theorem yv(p:Pq)(q:Rat×Rat):co T (e8 p) (tW q)=bP (co T p q):=by
 unfold co e8 tW bP;dsimp only;rw[uL,uL,E1];refine Prod.ext ?_ ?_ <;> dsimp only <;> grind
theorem ru(bs:List Pq)(i:Nat):(bs.map e8).getD i bb=e8 (bs.getD i bb):=by
 rw[Xy,Xy,XE];cases bs[i]? <;> rfl
theorem yU(l:Li)(b pt:Int):aS (dL l) b pt=tW (aS l b pt):=by
 unfold aS tW;rw[FJ,HC,IH]
theorem Ky(l:Li)(j:Jt)(b:Int):ak (dL l) j b=tW (ak l j b):=by
 unfold ak;split <;> exact yU _ _ _
theorem kj(l:Li)(bs:List Pq)(b pt:Int):aV (dL l) T (bs.map e8) b pt=bP (aV l T bs b pt):=by
 unfold aV;rw[ru,yU,yv]
theorem u4(l:Li)(bs:List Pq)(j:Jt)(b:Int):pinP (dL l) T (bs.map e8) j b=bP (pinP l T bs j b):=by
 unfold pinP;split <;> exact kj _ _ _ _
theorem mU(p q:P2 T):aQ (bP p) (bP q)=bP (aQ p q):=by
 unfold aQ bP;refine Prod.ext rfl ?_;dsimp only;grind
theorem Cu(p q:P2 T):gN (bP p) (bP q)=-gN p q:=by
 unfold gN crsE bP;dsimp only;grind
theorem FG(p q:P2 T):dB (bP p) (bP q)=dB p q:=by
 unfold dB dotE bP;dsimp only;grind
end
section
variable{ts:LL}(hp:eJ ts)
include hp
theorem Ce(x:Et ts):am (-x)=-am x:=(ep (ax ts) ts.length hp).neg x
theorem Di{x:Et ts}(h:am x=0):am (-x)=0:=by rw[Ce hp,h];rfl
theorem WV{l:Li}{bs:List Pq}{j:Jt}(h:JH l ts bs j):JH (dL l) ts (bs.map e8) j:=by
 unfold JH at h ⊢;split
 ·rename_i hk;rw[Yl hk]at h;rw[kj,kj];refine⟨h.1,?_⟩;unfold bP;dsimp only;have e:=Di hp h.2;rw[<- e];congr 1;grind
 ·rename_i hk;rw[Yk hk]at h;rw[kj,kj,kj,mU,mU,Cu];exact Di hp h
theorem Wf{p:Pq}(h:CH ts p):CH ts (e8 p):=by
 have _:=hp;unfold CH at h ⊢;rw[<- h];congr 1;show dE ts p.c*dE ts p.c+dE ts (p.s.map fun q=>-q)*dE ts (p.s.map fun q=>-q)-1=_;rw[uL];grind
end
theorem QA(h:Bool)(t:Rat):de h (-t)=de h t:=by
 unfold de;rw[show -t*-t=t*t by grind]
theorem Lr(h:Bool)(t:Rat):db h (-t)=-db h t:=by
 unfold db;split
 ·decide +kernel
 ·rw[show -t*-t=t*t by grind,show -t+-t=-(t+t) by grind,Rat.div_def,Rat.div_def,Rat.neg_mul]
theorem U6(xs:List Tn)(i:Nat)(h:i<xs.length):(xs.map jF).getD i cZ=jF (xs.getD i cZ):=by
 rw[Xy,Xy,XE,XC h];rfl
theorem KC{l:Li}{xs:List Tn}{a:Aq}(F:AqFin l xs a):AqFin (dL l) (xs.map jF) (jJ l a):=by
 have S:=KT F.s;obtain⟨r,hr,tw⟩:=F.tw;refine⟨PU F.li,by rw[XA];exact F.lx,?_,S.tw,S.two,S.bs,by rw[o8];exact S.ln,?_,?_,?_,?_,?_⟩
 ·intro x hx;obtain⟨y,hy,rfl⟩:=List.mem_map.1 hx;obtain⟨h1,h2,h3⟩:=F.xo y hy;refine⟨P3 h1,?_,S9 h2 oz⟩;show Qb 1000 (rt (-y.t.q)).q;rw[bV];exact h2.neg
 ·show((List.range a.ms.length).map (iI l a)).length<=100;rw[XA,List.length_range];exact F.lm
 ·intro j hj;exact WV tw.pos (F.js j hj)
 ·intro i hi;rw[o8]at hi;show CH a.ts ((a.bs.map e8).getD i bb);rw[ru];exact Wf tw.pos (F.cs i hi)
 ·intro i d hd;obtain ⟨h1,h2⟩:=F.dr i d hd;have hil:i < xs.length:=by rw [F.lx]; exact (List.getElem?_eq_some_iff.1 hd).1
  rw[U6 xs i hil];show dE a.ts ((a.bs.map e8).getD d.body.toNat bb).c=qE (de (xs.getD i cZ).half (rt (-(xs.getD i cZ).t.q)).q)/\dE a.ts ((a.bs.map e8).getD d.body.toNat bb).s=qE (db (xs.getD i cZ).half (rt (-(xs.getD i cZ).t.q)).q);rw[ru,bV,QA,Lr,E1,<- h2];exact⟨h1,uL _⟩
 ·show(a.bs.map e8).getD 0 bb=kc;rw[ru,F.fr];rfl
theorem Pf(l:Li)(T:LL)(bs:List Pq)(g:Gr):cD (dL l) T (bs.map e8) g=if g.kind=1 then -cD l T bs g else cD l T bs g:=by
 have hj:∀k,ao (dL l) g k=ao l g k:=fun k=>rfl
 unfold cD
 by_cases h0:g.kind=0
 ·rw[Yl h0,Yl h0,Yk oz]
 ·rw[Yk h0,Yk h0]
  by_cases h1:g.kind=1
  ·rw[Yl h1,Yl h1,Yl h1,hj,hj,hj,u4,u4,ru,Ky,yv,mU,mU,Cu]
  ·rw[Yk h1,Yk h1,Yk h1]
   by_cases h2:g.kind=2
   ·rw[Yl h2,Yl h2,hj,hj,kj,kj,ru,yU,yv,u4,mU,mU,FG]
   ·rw[Yk h2,Yk h2,hj,hj,kj,kj,kj,u4,mU,mU,FG]
theorem rP(l:Li):splitG (dL l)=splitG l:=(E5 l).splitG
theorem Tf(l:Li):splitE (dL l)=splitE l:=(E5 l).splitE
theorem Jb{m:Int}(h:m=-1\/m=0\/m=1):xw m=-m:=by
 rcases h with rfl |rfl |rfl <;> rfl
theorem Ek(l:Li)(a:Aq):(jJ l a).ms.length=a.ms.length:=by
 show((List.range a.ms.length).map (iI l a)).length=_;rw[XA,List.length_range]
theorem DV{l:Li}{a:Aq}{k:Nat}(hk:k<a.ms.length):(jJ l a).ms.getD k 0=iI l a k:=by
 show((List.range a.ms.length).map (iI l a)).getD k 0=_;rw[Xy,XE,List.getElem?_range hk];rfl
theorem NS{l:Li}{a:Aq}{r:Nat}(tw:Tw a.ts r)(M:AqSg l a):AqSg (dL l) (jJ l a):=by
 refine⟨⟨by rw[Tf];exact M.sp,by rw[Ek,rP];exact M.ml⟩,fun m g hm hg=>?_⟩;rw[Ek]at hm;rw[rP]at hg;have h:=M.sg m g hm hg;rw[DV hm];show am (cD (dL l) a.ts (a.bs.map e8) g)=_;rw[Pf];unfold iI;rw[aq hg,<- h];split
 ·rw[Ce tw.pos,Jb];have:=T.sgn_cases (ax a.ts) a.ts.length (cD l a.ts a.bs g);exact this
 ·rfl
theorem Hb{l:Li}{a:Aq}{r:Nat}(tw:Tw a.ts r)(M:AqSg l a){k:Nat}(hk:k<a.ms.length):(jJ l a).ms.getD k 0=0↔a.ms.getD k 0=0:=by
 have hml:=M.ml;obtain⟨g,hg⟩:=aw (l:=splitG l) (i:=k) oz;have h:=M.sg k g hk hg;rw[DV hk];unfold iI;rw[aq hg];split
 ·have h9:xw (am (cD l a.ts a.bs g))=-am (cD l a.ts a.bs g):=Jb (T.sgn_cases (ax a.ts) a.ts.length (cD l a.ts a.bs g));rw[<- h,h9];omega
 ·exact Iff.rfl
theorem Ju{l:Li}{a:Aq}{r:Nat}(tw:Tw a.ts r)(M:AqSg l a):∀{n:Nat},n<=a.ms.length->eF (jJ l a).ms n=eF a.ms n
 |0,_=>rfl
 |n+1,hn=>by
  have ih:=Ju tw M (n:=n) oz;have hz:=Hb tw M (k:=n) oz
  by_cases h:a.ms.getD n 0=0
  ·rw[uV h,uV (hz.2 h),ih]
  ·rw[vp h,vp (fun h9=>h (hz.1 h9)),ih]
theorem LO{ts:LL}(hp:eJ ts)(p q s:P2 ts):pN ts (bP p).1 (bP p).2 (bP q).1 (bP q).2 (bP s).1 (bP s).2=pN ts p.1 p.2 q.1 q.2 s.1 s.2:=by
 obtain⟨O,hO⟩:∃O:Et ts,O=(q.1-p.1)*(s.2-p.2)-(q.2-p.2)*(s.1-p.1):=⟨_,rfl⟩
 have e1:nC ts p.1 p.2 q.1 q.2 s.1 s.2=O:=hO.symm
 have h1:nC ts (bP p).1 (bP p).2 (bP q).1 (bP q).2 (bP s).1 (bP s).2=-O:=by
  rw[hO];show((bP q).1-(bP p).1)*((bP s).2-(bP p).2)-((bP q).2-(bP p).2)*((bP s).1-(bP p).1)=-((q.1-p.1)*(s.2-p.2)-(q.2-p.2)*(s.1-p.1));unfold bP;dsimp only;grind
 have h2:yw ts (bP p).1 (bP p).2 (bP q).1 (bP q).2 (bP s).1 (bP s).2=(yw ts p.1 p.2 q.1 q.2 s.1 s.2:Et ts):=by
  show((bP p).1-(bP s).1)*((bP q).1-(bP s).1)+((bP p).2-(bP s).2)*((bP q).2-(bP s).2)=(p.1-s.1)*(q.1-s.1)+(p.2-s.2)*(q.2-s.2);unfold bP;dsimp only;grind
 unfold pN;rw[h1,h2,e1];congr 1;have h3:T.sgn (ax ts) ts.length (-O)=-(T.sgn (ax ts) ts.length O):=Ce hp O;rw[h3];exact decide_eq_decide.2 oz
theorem RT{l:Li}{a:Aq}{r:Nat}(tw:Tw a.ts r)(M:AqSg l a){k:Nat}(hk:k<a.ms.length):l6 (dL l) (jJ l a) k=l6 l a k:=by
 have hz:=Hb tw M hk;have hjp:∀z,dD (dL l) (jJ l a) z=bP (dD l a z):=fun z=>kj _ _ _ _
 have hd:∀zs,kT (dL l) (jJ l a) zs=kT l a zs:=fun zs=>by
  unfold kT;rw[hjp,hjp,hjp];exact LO tw.pos _ _ _
 unfold l6;rw[rP,hd]
 by_cases h:a.ms.getD k 0=0
 ·have h2:=hz.2 h;simp only[h,h2]
 ·have h2:(jJ l a).ms.getD k 0≠0:=fun h9=>h (hz.1 h9)
  rw[Yl h,Yl h2]
theorem Us{l:Li}{a:Aq}{k:Nat}(h:a.ms.getD k 0=0):l6 l a k≠0:=by
 unfold l6;rw[Yk (fun h9=>h9 h)];split
 ·split <;> decide
 ·decide
theorem VF{ms:List Int}{n j:Nat}{z:Int}(h:(eF ms n)[j]?=some z):∃k:Nat,z=(k:Int)/\k<n/\ms.getD k 0=0:=by
 have hm:=Xx h;unfold eF at hm;obtain⟨k,hk,rfl⟩:=List.mem_map.1 hm;obtain⟨h1,h2⟩:=List.mem_filter.1 hk;exact⟨k,rfl,List.mem_range.1 h1,of_decide_eq_true h2⟩
theorem S5:aF∈(gh ia false fb [cZ] (splitG fb) (splitG fb).length (eO fb)).1:=by
 have h:(gh ia false fb [cZ] (splitG fb) (splitG fb).length (eO fb))=([aF],0):=MQ;rw[h];exact List.mem_singleton.2 rfl
theorem Hq:AqFin fb [cZ] aF:=by
 obtain⟨h1,h2⟩:=zM u7 (F:=ia) (sg:=false) _ _ DZ (C5 fb _ (by decide)) _ S5;exact FV u7 h1 h2
theorem Rz:(List.range 2).all (fun m=>decide (am (cD fb aF.ts aF.bs ((splitG fb).getD m default))=aF.ms.getD m 0))=true:=by decide +kernel
theorem HR:AqSg fb aF:=by
 refine⟨⟨u7.sp,by decide +kernel⟩,fun m g hm hg=>?_⟩;have h:=List.all_eq_true.1 Rz m (List.mem_range.2 hm);rw[aq hg]at h;exact of_decide_eq_true h
def HS:List Aq×Nat:=mb (G1 [1,0]) true fb [cZ]
theorem C0:HS=([aF],0):=by decide +kernel
theorem fb_one:FP 109 [fb.av,.lst 4 [cZ.av],.lst 1 [i64 1,i64 0]] (.tup [aF.av,br 0]):=by
 have hop:=Dk fb uG [cZ] (fun x hx=>by rw[List.mem_singleton.1 hx];exact zR) (by show 1<=100;omega);have hp:([]:List Aq).length+2^(splitG fb).length<=1000:=by decide +kernel
 have hs2:(splitG fb).length=2:=by decide +kernel
 have hw:=fun(hm:([1,0]:List Int).length=(splitG fb).length)=>xT u7 (G1 [1,0]) true (fo:=223) (caps:=[.iptr [.lst 1 (([1,0]:List Int).map i64)]]) (fun k m hk=>Qr (modes:=[1,0]) (by show k<2;omega) (by decide) m) (splitG fb).length (eO fb) DZ [] hp
 have hA:=O2 (modes:=[1,0]) (by decide) PD hop (by show 0<4;omega) (by show 4<=100;omega) oz (R:=HS) hw (by rw[C0];decide);rw[C0,hs2]at hA;exact hA
theorem DC:FP 50 [] (bl true):=by
 have hA:=Af uG Hq HR (by decide);rw[show eF aF.ms (splitG fb).length=[1] by decide +kernel]at hA;have hK:=yJ uG Hq HR (by decide) (show 1<(splitG fb).length by decide +kernel);rw[show l6 fb aF 1=2 by decide +kernel]at hK;refine aj func50 ?_;refine gc VH ?_;refine gc (Con.sA (.cons (.refl _) (.cons Al (.cons (.refl _) .nil))) fb_one) ?_;refine gc (Con.sA (.cons (.refl _) (.cons Al (.cons (.refl _) .nil))) hA) ?_;refine gc (Con.sA (.cons (.refl _) (.cons Al (.cons (.refl _) (.cons (.refl _) .nil)))) hK) ?_;refine b7 (fun _=>(Dg [1] (by decide))) ?_;refine af ?_;rfl
theorem Mj(l:Li)(hw:l.okw)(xs:List Tn)(hxw:∀x∈xs,x.t.wok)(hxl:xs.length<=281474976710656):FP 12 [l.av,.lst 4 (xs.map Tn.av)] (bl true):=by
 refine aj func12 ?_;refine gc DC ?_;refine b7 (fun _=>(Kc l hw xs hxl)) ?_;refine b7 (fun h=>(Fj l (uT (Ar (RL h) hxw).1 hw))) ?_;refine gC (fun t37=>?_) (fun t37=>?_)
 ·refine gc DC ?_;refine af ?_
  first |rfl |(simp;done)
 obtain⟨h1,hli⟩:=KK t37;obtain⟨g1,hx20,hxo⟩:=Ar h1 hxw;have hl:=uT g1 hw;obtain⟨A,e,P⟩:=WU hl h1 hxw;have FF:=QC hl h1 hxw P.eq;have MM:=Tz hl h1 hxw P.eq;have hAl:=P.ln;refine gc P.all ?_;refine gC (fun t46=>?_) (fun t46=>?_)
 ·have he:e≠0:=cU t46;have hA:=NP P.eq he;subst hA;refine gl ?_;refine af ?_;rfl
 have he:e=0:=cS t46;have hop:=Sa P.eq he;obtain⟨s0,g0,W,_⟩:=uW h1 hl hxw hop;have hgl:=(ra hli).2;have hts:=DE (fun x hx=>(W.ok x hx).2.1);have hM:=Mf l hl;rw[hli,GE hli]at hM;have hT:=LS xs (fun x hx=>(W.ok x hx).1) oz;rw[hts,CC hts]at hT;refine gc hM ?_;refine gc hT ?_;refine gC (fun t65=>?_) (fun t65=>?_) (st1:=(9,0));cases t65;refine gl ?_;refine aW [1,2,7,9,66,67] [2,7] (fun(i:Nat)=>[(68,some (i64 i))]) (fun _=>[]) (fun i=>i<=A.length) (fun i=>A.length-i) 0 (XJ _) ?_;rintro i hi K1 J1;refine gC (fun t69=>?_) (fun t69=>?_)
 ·have hin:=a6 t69;obtain ⟨a,ha⟩:=aw hin;have ham:=Xx ha;have F:=FF a ham;have M:=Qg (MM a ham);have hml:=M.ml;have hlm:=F.lm;obtain ⟨r,hr,tw⟩:=F.tw;have F':=KC F;have M':=NS tw M;have hzl:=Ib a.ms (splitG l).length;have hA2:=Af (H3 hl) F' M' (by rw [XA]; omega);rw [rP,Ju tw M oz] at hA2;refine gi (aE ha) ?_;refine gc (UJ hl F M.toAqM0 oz) ?_;refine gc (Af hl F M hxl) ?_;refine gc hA2 ?_;refine b7 (fun _=>(Dg (eF a.ms (splitG l).length) oz)) ?_;refine gC (fun t108=>?_) (fun t108=>?_) (st1:=(17,0));cases t108;refine gl ?_;refine aW [1,2,7,9,66,67,68,12,13,109,110] [2,7,12,13] (fun (k:Nat)=>[(111,some (i64 k))]) (fun _=>[]) (fun k=>k <= (eF a.ms (splitG l).length).length) (fun k=>(eF a.ms (splitG l).length).length - k) 0 (XJ _) ?_;rintro k hk K2 J2;refine gC (fun t112=>?_) (fun t112=>?_)
  ·have hkn:=a6 t112;obtain⟨z,hz⟩:=aw hkn;obtain⟨n,rfl,hn,hnz⟩:=VF hz;have hq1:=yJ hl F M hxl hn;have hq2:=yJ (H3 hl) F' M' (by rw[XA];omega) (k:=n) (by rw[rP];exact hn);rw[RT tw M oz]at hq2;have hkn0:=Us (l:=l) hnz;refine gi (aE hz) ?_;refine gc hq1 ?_;refine gc hq2 ?_;refine gC (fun t145=>?_) (fun t145=>?_) (st1:=(24,0));exact absurd t145 (by simp[aa,hkn0,ef]);refine ga aN ?_;exact aO J2 (k+1) hkn
  refine ga aN ?_;exact aO J1 (i+1) hin
 refine af ?_;rfl
open Go.Proofs Go.Proofs.YtpdiojikejnehaaGreat
open Go.ChangeShapes Go.WideShapes Go.ChangeAt Go.RowKit
set_option maxRecDepth 100000 in
theorem Nf(os:Os)(started:os.Started)(H:Type)(enc:TypeId×Value->H) :
  ReturnsInHanded {} Tryz.checked os 12 .any (Rows.singularMirroredSpec.pre6 enc prog Tryz.f12 Rows.singularMirroredRow.domain false) (Rows.singularMirroredSpec.post enc prog Tryz.f12 false true false false):=by
 refine returnsInHanded_of_change_sized (C := Tryz.checked) own started (by kernel_rfl) func12
  (ChangeSpec.witness6 (enc:=enc) (C:=Tryz.checked) false ⟨#[],#[.agg #[.string ⟨#[]⟩,.slice none 0 0,.slice none 0 0,.slice none 0 0],.slice none 0 0],[]⟩ 8 (by kernel_rfl) (by kernel_rfl) (by kernel_rfl) (by kernel_rfl)) ?_
 intro W base args ds gs before hval0 hW hcnd hwt0 _;have hval:∀(j:Nat) t v,Tryz.f12.params[j]?=some t->args[j]?=some v->Value.okWide prog W .any base t v:=hval0;have hwt:(DataW.weightsEach prog (Tryz.f12.params.toList++Rows.singularMirroredSpec.plain.varTypes prog) (ds++gs)).all (· <= reachBytes)=true:=hwt0;have hW':=hW;obtain⟨p,q,hA0,hV,rfl,hfz,hnd⟩:=hW;have hA:DataW.TrodAll enc prog W 0 (fun _=>true) true Tryz.f12.params.toList args.toList ds p:=hA0;rw[Tryz.params12]at hA hval hwt;obtain⟨v0,v1,d0,d1,p0,p1,rfl,rfl,rfl,h0,h1⟩:=trodAll_two hA;obtain⟨rfl,rfl⟩:=trodVars_none hV;clear hA0 hval0 hwt0;have hlt:∀x∈p0++p1,x.block<W.heap.size:=fun x hx=>hW'.lt x (by simpa using hx)
 have hw0:∀n∈d0.weights prog 26,n<=reachBytes:=fun n hn=>by
  have:=List.all_eq_true.1 hwt n (DataW.weights_mem_each (j:=0) rfl rfl n hn);simpa using this
 have hw1:∀n∈d1.weights prog 88,n<=reachBytes:=fun n hn=>by
  have:=List.all_eq_true.1 hwt n (DataW.weights_mem_each (j:=1) rfl rfl n hn);simpa using this
 obtain⟨x0,q0,r0⟩:=UC Tryz.underlying26 R6 (hval 0 26 v0 rfl rfl) h0 hw0;obtain⟨x1,q1,r1⟩:=Tg Qu (fun _=>rfl) (V0 Tryz.underlying88 (hval 1 88 v1 rfl rfl)) h1 hw1
 have hc:=gO.calls (W:=W) (vs:=#[v0,v1]) (Mj x0 q0 x1 q1.1 q1.2) rfl (fun j v x hv hx=>by
  match j,hv,hx with
  |0,hv,hx=>cases hv;cases hx;exact r0
  |1,hv,hx=>cases hv;cases hx;exact r1)
 refine hc.mono fun e W' ⟨he,hb⟩=>?_
 subst he;refine⟨_,rfl,Ms hW' rfl rfl (fun _ _ _=>trodAll_mk1 (shut_bool Tryz.underlying4 _)) (fun sp hsp=>?_) rfl hb (ok_one (by kernel_rfl) rfl (okWide_bool_mk Tryz.underlying4 _))⟩;rw[Tryz.params12];have hs:∀x∈p0++p1,sp x.block=true:=fun x hx=>hsp x (by simpa using hx)
 have g0:=Hf (sp':=sp) (by kernel_rfl) (of_decide_eq_true (by kernel_rfl)) h0 hb (fun x hx=>hlt x (by simp[hx])) (fun x hx=>hs x (by simp[hx]));have g1:=Hf (sp':=sp) (by kernel_rfl) (of_decide_eq_true (by kernel_rfl)) h1 hb (fun x hx=>hlt x (by simp[hx])) (fun x hx=>hs x (by simp[hx]));have g:=trodAll_mk2 g0 g1;rw[show p0++p1++[]=p0++p1 from by simp];exact g
set_option maxRecDepth 100000 in
theorem TE:prog.closure 12=[12,50,54,131,243,88,188,295,362,189,187,221,312,368,313,292,293,360,386,375,388,335,387,334,294,361,389,336,109,99,143,250,104,204,300,363,364,390,205,208,303,305,325,367,366,373,391,392,351,393,394,397,395,396,323,258,257,304,306,324,206,301,302,365,232,321,372,207,339,376,398,405,400,408,409,407,377,399,406,402,401,378,251,340,105,209,198,223,101,151,233,234,322,370,371,165,231,320,237,318,278,328,100,199,297,298,200,18,63,144,252,230,319,238,329,286,330,331,239,240,121,145,253,341,146,255,352,254,342,348,384,343,379,344,380,381,345,382,383,403,346,347,349,350,147,229,64,148,256,262,353,385,404,149,150,170,91,89,190,153,191,280,127,357,283,176,285,356,172,192,171,152,169,261,80,174,284,177,71,163,281,358,77,175,75,78,154,65,70,166,156,155,259,354,260,73,157,167,272,273,274,116,168,282,173,275,270,266,276,267,263,264,265,355,268,269,271,161,277,279,158,164,66,74,90,159,67,81,178,76,82,79,160,162,201,299,52,129,125,37,106,211,212,307,308,128,213,210,215,216,309,310,311,332,214,218,219,217,126,27,69,53,130,241,242,42,32,56,40,111,225,316,315,317,112,226,236,326,327,374,247,113,227,228,38,108,222,220,139,248,337,107,114,16,58,135,59,136,245,137,246,333,138,98,197,33,46,118,119,120,47,122,235,44,115,117]:=by kernel_rfl
theorem WM:joinedFacts prog 12 Tryz.f12 Rows.singularMirroredSpec Rows.singularMirroredRow=true:=by
 unfold joinedFacts Program.recurses Program.inPlace Program.unfollowed Program.varsNamed;rw[TE,Jm,VC,Qo,NE,Rj,K6]
 kernel_rfl
theorem singularMirrored_holds:Rows.SingularMirroredSaid :=
 OpenClaim.holds_of_wide 12 Tryz.f12 rfl rfl rfl rfl rfl rfl rfl ⟨rfl, rfl, rfl, rfl, rfl⟩ rfl rfl rfl rfl rfl (by kernel_rfl) func12 WM
  (of_decide_eq_true (by kernel_rfl)) (by unfold Func.isWrapper;first |(rw[Yl (by decide +kernel)];kernel_rfl) |(rw[Yk (by decide +kernel)];exact⟨rfl,rfl⟩))
  (fun os started H enc _=>Nf os started H enc)
end Go.Lw
namespace Go.Proofs.YtpdiojikejnehaaGreat
theorem singularMirrored_proved:Rows.SingularMirroredSaid:=Go.Lw.singularMirrored_holds
end Go.Proofs.YtpdiojikejnehaaGreat
