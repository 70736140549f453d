/- SingularNear: for any linkage and any turns the law returns true and leaves its arguments as they were. No other condition. Part 8 of 8: the statement -/
import Derived.Test.YtpdiojikejnehaaGreatTg
set_option linter.unusedVariables false
open List (mem_append append_nil)
open List renaming mem_of_getElem? → WU, mem_cons → Xu, length_cons → W9, length_nil → Xi, getD_eq_getElem?_getD → WV, getElem?_append_left → Xe, getElem?_map → W0, getElem?_append_right → Xd, getElem?_eq_getElem → WY, map_append → Xl, length_take → Xh, take_length → Xg, not_mem_nil → Xf, length_map → WW, getElem?_of_mem → XC
open Nat renaming le_refl → WZ, lt_or_ge → W3, le_trans → Xj, zero_le → W7
open Option renaming map_eq_some_iff → WX
open Int renaming toNat_natCast → Xk
open Go.Proofs.Tryz
namespace Go.Lw
open Lean.Grind (CommRing)
section
variable{ts T:LL}(L:Lf ts T)
include L
theorem Lf.pp{l:Li}{bs bs':List Pq}{j:Jt}{i:Int}(tie:(j.a=i/\cT bs bs' ts.length j.b)\/(j.a≠i/\j.b=i/\cT bs bs' ts.length j.a)) :
  ah L.pos (Lw.pinP l T bs' j i).1=ah L.pos (aq T (Lw.pinP l ts bs j i).1)/\ah L.pos (Lw.pinP l T bs' j i).2=ah L.pos (aq T (Lw.pinP l ts bs j i).2):=by
 unfold Lw.pinP;rcases tie with⟨e,hs⟩ |⟨e,e2,hs⟩
 ·rw[XK e,XK e];exact L.pt l hs j.on
 ·rw[XJ e,XJ e];exact L.pt l hs j.point
end
structure DetH(l:Li)(a:As)(g:Gr)(s:Sv):Prop where
  lf:Lf (llq a.rs) s.ts
  sg:ak (cW l s.ts (a5 (aK a) g.bo s.ps) g)=s.mode
  rd:ah lf.pos (pY l s.ts (a5 (aK a) g.bo s.ps) g)=ah lf.pos (aq s.ts (yM l a g))
section
variable{l:Li}{a:As}{r:Nat}(tw:Tw (llq a.rs) r)(hN:∀p∈aK a,Nq (llq a.rs).length p)
include tw hN
theorem RM{i k z0 z1 z2:Int}{j0 j1 j2:Jt}(ne:i≠k)(t0:TieO l 0 [i,k] z0 i j0)(t1:TieO l 0 [i,k] z1 k j1)(h2:l.jo[z2.toNat]?=some j2)
  (hi:0<=i) (hk:0<=k) (hil:i.toNat<(aK a).length) (hkl:k.toNat<(aK a).length) (hn:∀j∈l.jo,0<=j.a/\0<=j.b)
  {s:Sv} (hs:s∈jH l a i k j0 j1 j2):DetH l a ⟨1,[i,k],[z0,z1,z2],0⟩ s:=by
 have e0:am l ⟨1,[i,k],[z0,z1,z2],0⟩ 0=j0:=au t0.hj;have e1:am l ⟨1,[i,k],[z0,z1,z2],0⟩ 1=j1:=au t1.hj;have e2:am l ⟨1,[i,k],[z0,z1,z2],0⟩ 2=j2:=au h2;have b0:aN ⟨1,[i,k],[z0,z1,z2],0⟩ 0=i:=rfl;have b1:aN ⟨1,[i,k],[z0,z1,z2],0⟩ 1=k:=rfl;unfold jH at hs;split at hs
 ·cases hs
 ·rename_i hz;obtain⟨w1,w2⟩:=rY (Bool.eq_false_iff.2 hz);split at hs
  ·cases hs
  ·rename_i hc;have hc:=Decidable.not_not.1 hc;have geo:=UG tw hc (Df tw hN w1);unfold jI at hs;obtain⟨m,hm,rfl⟩:=List.mem_map.1 hs;obtain⟨x,hx⟩:=ax (List.mem_range.1 hm);have G:=geo m x hx;unfold jx;rw[au hx];obtain⟨n0,n1⟩:=hn j0 (WU t0.hj);obtain⟨n2,n3⟩:=hn j1 (WU t1.hj);generalize hM:dY (aC l a j0 i) (aC l a j1 k) (qE (bE (ao l j2 i) (ao l j0 i))) (qE (bE (ao l j2 k) (ao l j1 k)))=M at *;obtain⟨B0,hB0⟩:∃B0,B0=kF M.ts x ⟨ao l j0 i,P2.l (aC l a j0 i),ao l j2 i⟩:=⟨_,rfl⟩
   obtain⟨B1,hB1⟩:∃B1,B1=kF M.ts x ⟨ao l j1 k,P2.l (aC l a j1 k),ao l j2 k⟩:=⟨_,rfl⟩
   have hbs:a5 (aK a) [i,k] [B0,B1]=((aK a).set i.toNat B0).set k.toNat B1:=rfl;have g0:(a5 (aK a) [i,k] [B0,B1]).getD i.toNat bc=B0:=by rw[hbs,j9 hk hi ne,mz hil]
   have gn:∀b:Int,0<=b->b∉[i,k]->cT (aK a) (a5 (aK a) [i,k] [B0,B1]) (llq a.rs).length b:=fun b h0 hb=>oF tw hN (by
    rw[hbs,j9 hk h0 (fun e=>hb (by simp[e])),j9 hi h0 (fun e=>hb (by simp[e]))])
   have q0:bR M.ts B0 (ao l j2 i)=(dE M.ts x.1,dE M.ts x.2):=by
    rw[hB0];refine(tI w1).trans ?_;unfold kE jG;refine Prod.ext ?_ ?_
    ·dsimp only;grind
    ·dsimp only;grind
   have L:=G.lf
   have P0:=L.pp (l:=l) (bs:=aK a) (bs':=a5 (aK a) [i,k] [B0,B1]) (j:=j0) (i:=i) (by
    rcases t0.tie with⟨e,hb⟩ |⟨e,hb⟩
    ·exact .inl ⟨e,gn _ n1 hb⟩
    ·exact .inr ⟨fun e2=>hb (by simp[e2]),e,gn _ n0 hb⟩)
   have P1:=L.pp (l:=l) (bs:=aK a) (bs':=a5 (aK a) [i,k] [B0,B1]) (j:=j1) (i:=k) (by
    rcases t1.tie with⟨e,hb⟩ |⟨e,hb⟩
    ·exact .inl ⟨e,gn _ n3 hb⟩
    ·exact .inr ⟨fun e2=>hb (by simp[e2]),e,gn _ n2 hb⟩)
   have hr:=Ae L (l:=l) (g:=⟨1,[i,k],[z0,z1,z2],0⟩) (bs:=aK a) (bs':=a5 (aK a) [i,k] [B0,B1]) (fun _=>by rw[e0,b0];exact P0) (fun _=>by rw[e1,b1];exact P1) (fun h=>absurd h (by simp)) (fun _ h=>absurd rfl h)
   have hd:=G.ex (cW l M.ts (a5 (aK a) [i,k] [B0,B1]) ⟨1,[i,k],[z0,z1,z2],0⟩) (by
    rw[Jx rfl,e0,e1,e2,b0,b1,g0,q0];unfold jr crsE aR;dsimp only;rw[bJ,bB,bB,bJ,bJ,bJ,bJ,P0.1,P0.2,P1.1,P1.2,<- oJ,<- oJ])
   rw[hB0,hB1]at hr hd;exact⟨L,hd,by rw[AQ];exact hr⟩
theorem JY{i z0 z1:Int}{j0 j:Jt}(t0:TieO l 0 [i] z0 i j0)(t1:TieO l 1 [i] z1 i j)(ha:j.a=i)(hi:0<=i)(hil:i.toNat<(aK a).length)(hn:∀j∈l.jo,0<=j.a/\0<=j.b)
  {s:Sv} (hs:s∈jb l a i j0 j):DetH l a ⟨2,[i],[z0,z1],0⟩ s:=by
 have e0:am l ⟨2,[i],[z0,z1],0⟩ 0=j0:=au t0.hj;have e1:am l ⟨2,[i],[z0,z1],0⟩ 1=j:=au t1.hj;have b0:aN ⟨2,[i],[z0,z1],0⟩ 0=i:=rfl;unfold jb at hs;split at hs
 ·cases hs
 ·rename_i hz;have w1:=uu (Bool.eq_false_iff.2 hz);split at hs
  ·cases hs
  ·rename_i hc;have hc:=Decidable.not_not.1 hc;have geo:=PD tw (c:=aC l a j0 i) (z:=qE (bE (aQ l i j.point) (ao l j0 i))) hc;unfold jI at hs;obtain⟨m,hm,rfl⟩:=List.mem_map.1 hs;obtain⟨x,hx⟩:=ax (List.mem_range.1 hm);have G:=geo m x hx;have L:=G.lf;unfold jx;rw[au hx];obtain⟨n0,n1⟩:=hn j0 (WU t0.hj);obtain⟨n2,n3⟩:=hn j (WU t1.hj);generalize hM:dX (ba l a j.b j.on) (ba l a j.b j.to) (aC l a j0 i) (qE (bE (aQ l i j.point) (ao l j0 i)))=M at *;obtain⟨B0,hB0⟩:∃B0,B0=kF M.ts x ⟨ao l j0 i,P2.l (aC l a j0 i),aQ l i j.point⟩:=⟨_,rfl⟩
   have hbs:a5 (aK a) [i] [B0]=(aK a).set i.toNat B0:=rfl;have g0:(a5 (aK a) [i] [B0]).getD i.toNat bc=B0:=by rw[hbs,mz hil]
   have gn:∀b:Int,0<=b->b∉[i]->cT (aK a) (a5 (aK a) [i] [B0]) (llq a.rs).length b:=fun b h0 hb=>oF tw hN (by
    rw[hbs,j9 hi h0 (fun e=>hb (by simp[e]))])
   have q0:bR M.ts B0 (aQ l i j.point)=(dE M.ts x.1,dE M.ts x.2):=by
    rw[hB0];refine(tI w1).trans ?_;unfold kE jG;refine Prod.ext ?_ ?_
    ·dsimp only;grind
    ·dsimp only;grind
   have hjb:cT (aK a) (a5 (aK a) [i] [B0]) (llq a.rs).length j.b:=by
    rcases t1.tie with⟨e,hb⟩ |⟨e,hb⟩
    ·exact gn _ n3 hb
    ·exact absurd (by simp[ha]) hb
   have P0:=L.pp (l:=l) (bs:=aK a) (bs':=a5 (aK a) [i] [B0]) (j:=j0) (i:=i) (by
    rcases t0.tie with⟨e,hb⟩ |⟨e,hb⟩
    ·exact .inl ⟨e,gn _ n1 hb⟩
    ·exact .inr ⟨fun e2=>hb (by simp[e2]),e,gn _ n0 hb⟩)
   have on:=L.pt l hjb j.on;have to:=L.pt l hjb j.to;have hr:=Ae L (l:=l) (g:=⟨2,[i],[z0,z1],0⟩) (bs:=aK a) (bs':=a5 (aK a) [i] [B0]) (fun _=>by rw[e0,b0];exact P0) (fun h=>absurd h (by simp)) (fun _ pt=>by rw[e1];exact L.pt l hjb pt) (fun _ _ h=>absurd rfl h)
   have hd:=G.ex (cW l M.ts (a5 (aK a) [i] [B0]) ⟨2,[i],[z0,z1],0⟩) (by
    rw[Qa rfl,e0,e1,b0,g0,q0];unfold dK dotE aR;dsimp only;rw[eP,bB,bB,bJ,bJ,bJ,bJ,P0.1,P0.2,on.1,on.2,to.1,to.2,<- oJ,<- gQ,<- gQ])
   rw[hB0]at hr hd;exact⟨L,hd,by rw[AQ];exact hr⟩
theorem yo{i z0 z1:Int}{j0 j:Jt}(t0:TieO l 0 [i] z0 i j0)(t1:TieO l 1 [i] z1 i j)(ha:j.a≠i)(hi:0<=i)(hil:i.toNat<(aK a).length)(hn:∀j∈l.jo,0<=j.a/\0<=j.b)(hv:bW (cw l i j) (cw l i j)≠0)
  (hd:ak (cc l a i j0 j)≠0) {T:LL} (L:Lf (llq a.rs) T) {q:List Rat} {n:Int} (hm:ak (dE T q)=n) :
  DetH l a ⟨3,[i],[z0,z1],0⟩ ⟨T,[mQ T (dk l a i j0 j) q],n⟩:=by
 have a0:am l ⟨3,[i],[z0,z1],0⟩ 0=j0:=au t0.hj;have a1:am l ⟨3,[i],[z0,z1],0⟩ 1=j:=au t1.hj;have b0:aN ⟨3,[i],[z0,z1],0⟩ 0=i:=rfl;obtain⟨n0,n1⟩:=hn j0 (WU t0.hj);obtain⟨n2,n3⟩:=hn j (WU t1.hj)
 obtain⟨tb,tn⟩:j.b=i/\j.a∉[i]:=by
  rcases t1.tie with⟨e,hb⟩ |h
  ·exact absurd e ha
  ·exact h
 obtain⟨w,hw⟩:∃w:P2 T,w=nJ T q (dk l a i j0 j).h (dk l a i j0 j).d (dk l a i j0 j).w:=⟨_,rfl⟩
 obtain⟨o,ho⟩:∃o:P2 T,o=(aq T (aC l a j0 i).1,aq T (aC l a j0 i).2):=⟨_,rfl⟩
 obtain⟨B0,hB0⟩:∃B0,B0=gz (cw l i j) w (ao l j0 i) o:=⟨_,rfl⟩
 have e0:mQ T (dk l a i j0 j) q=B0:=by rw[hB0,hw,ho];rfl
 rw[e0];have hbs:a5 (aK a) [i] [B0]=(aK a).set i.toNat B0:=rfl;have g0:(a5 (aK a) [i] [B0]).getD i.toNat bc=B0:=by rw[hbs,mz hil]
 have gn:∀b:Int,0<=b->b∉[i]->cT (aK a) (a5 (aK a) [i] [B0]) (llq a.rs).length b:=fun b h0 hb=>oF tw hN (by
  rw[hbs,j9 hi h0 (fun e=>hb (by simp[e]))])
 have hD:ah L.pos (aq T (cc l a i j0 j))=ah L.pos (aq T (bS l a i j0 j).1)*ah L.pos (aq T (bS l a i j0 j).1)+ah L.pos (aq T (bS l a i j0 j).2)*ah L.pos (aq T (bS l a i j0 j).2):=by
  rw[<- L.mul,<- L.mul,<- L.add];rfl
 have hI:ah L.pos (iE (aq T (cc l a i j0 j)))*ah L.pos (aq T (cc l a i j0 j))=1:=wQ L.pos (fun e=>hd ((L.zero _).1 e));have eh:dE T (dk l a i j0 j).h=qE (cq l i j0 j):=fL _ _;have x1:w.1=(dE T q*aq T (bS l a i j0 j).1-qE (cq l i j0 j)*-aq T (bS l a i j0 j).2)*iE (aq T (cc l a i j0 j)):=by rw[hw,<- eh];rfl
 have x2:w.2=(dE T q*aq T (bS l a i j0 j).2-qE (cq l i j0 j)*aq T (bS l a i j0 j).1)*iE (aq T (cc l a i j0 j)):=by rw[hw,<- eh];rfl
 have G:=Tr hD hI (t:=ah L.pos (dE T q)) (hh:=ah L.pos (qE (cq l i j0 j))) (w1:=ah L.pos w.1) (w2:=ah L.pos w.2) (by rw[x1,bB,bJ,bB,bB,Hk]) (by rw[x2,bB,bJ,bB,bB])
 have P0:=L.pp (l:=l) (bs:=aK a) (bs':=a5 (aK a) [i] [B0]) (j:=j0) (i:=i) (by
  rcases t0.tie with⟨e,hb⟩ |⟨e,hb⟩
  ·exact .inl ⟨e,gn _ n1 hb⟩
  ·exact .inr ⟨fun e2=>hb (by simp[e2]),e,gn _ n0 hb⟩)
 have hja:=gn _ n2 tn;have pp:=L.pt l hja j.point;have hr:=Ae L (l:=l) (g:=⟨3,[i],[z0,z1],0⟩) (bs:=aK a) (bs':=a5 (aK a) [i] [B0]) (fun _=>by rw[a0,b0];exact P0) (fun h=>absurd h (by simp)) (fun h=>absurd h (by simp)) (fun _ _ _ pt=>by rw[a1];exact L.pt l hja pt)
 have W1:ah L.pos (aq T (bS l a i j0 j).1)=ah L.pos (aX l T (a5 (aK a) [i] [B0]) j.a j.point).1-ah L.pos (pinP l T (a5 (aK a) [i] [B0]) j0 i).1:=by
  rw[pp.1,P0.1,<- L.sub,<- gQ,<- oJ];rfl
 have W2:ah L.pos (aq T (bS l a i j0 j).2)=ah L.pos (aX l T (a5 (aK a) [i] [B0]) j.a j.point).2-ah L.pos (pinP l T (a5 (aK a) [i] [B0]) j0 i).2:=by
  rw[pp.2,P0.2,<- L.sub,<- gQ,<- oJ];rfl
 have eon:aX l T (a5 (aK a) [i] [B0]) j.b j.on=bR T B0 (aQ l i j.on):=by unfold aX;rw[tb,g0]
 have eto:aX l T (a5 (aK a) [i] [B0]) j.b j.to=bR T B0 (aQ l i j.to):=by unfold aX;rw[tb,g0]
 have gg:=Ce (w:=w) hv;have v1:(qE (cw l i j).1:Et T)=qE ((aQ l i j.to).1-(ao l j0 i).1)-qE ((aQ l i j.on).1-(ao l j0 i).1):=by rw[<- mc];congr 1;show(aQ l i j.to).1-(aQ l i j.on).1=_;grind
 have v2:(qE (cw l i j).2:Et T)=qE ((aQ l i j.to).2-(ao l j0 i).2)-qE ((aQ l i j.on).2-(ao l j0 i).2):=by rw[<- mc];congr 1;show(aQ l i j.to).2-(aQ l i j.on).2=_;grind
 have d1:(bR T B0 (aQ l i j.to)).1-(bR T B0 (aQ l i j.on)).1=w.1:=by
  rw[hB0,mW,mW];dsimp only;have g1:=gg.1;rw[v1,v2]at g1;rw[<- g1];generalize dg (cw l i j) w=C;generalize db (cw l i j) w=S;clear g1;grind
 have d2:(bR T B0 (aQ l i j.to)).2-(bR T B0 (aQ l i j.on)).2=w.2:=by
  rw[hB0,mW,mW];dsimp only;have g1:=gg.2;rw[v1,v2]at g1;rw[<- g1];generalize dg (cw l i j) w=C;generalize db (cw l i j) w=S;clear g1;grind
 have hdt:ah L.pos (cW l T (a5 (aK a) [i] [B0]) ⟨3,[i],[z0,z1],0⟩)=ah L.pos (dE T q):=by
  rw[UA rfl,a0,a1,b0,eon,eto];unfold dK dotE aR;dsimp only;rw[d1,d2,eP,bB,bB,bJ,bJ,<- W1,<- W2];exact G
 refine⟨L,?_,by rw[AQ];exact hr⟩;show ak (cW l T (a5 (aK a) [i] [B0]) _)=n;rw[<- hm];exact sH L.pos hdt
theorem RD{i z0 z1:Int}{j0 j:Jt}(t0:TieO l 0 [i] z0 i j0)(t1:TieO l 1 [i] z1 i j)(ha:j.a≠i)(hi:0<=i)(hil:i.toNat<(aK a).length)(hn:∀j∈l.jo,0<=j.a/\0<=j.b)(hv:bW (cw l i j) (cw l i j)≠0)
  {s:Sv} (hs:s∈je l a i j0 j):DetH l a ⟨3,[i],[z0,z1],0⟩ s:=by
 unfold je at hs;split at hs
 ·cases hs
 ·rename_i h1;split at hs
  ·cases hs
  ·rename_i h2;have hd:=sM tw h2 h1;split at hs
   ·rename_i h3;have hp:=pR tw.pos h3;have L:=rq (bp l a i j0 j) hp;have s1:=Aj (Gv tw.pos h3);unfold jD at hs;obtain⟨m,hm,rfl⟩:=List.mem_map.1 hs;have hm:=List.mem_range.1 hm;unfold iV
    match m,hm with
    |0,_ =>
     exact yo tw hN t0 t1 ha hi hil hn hv hd L s1
    |1,_ =>
     refine yo tw hN t0 t1 ha hi hil hn hv hd L ?_;show ak (dE _ (sX (-bu (bp l a i j0 j))))=_;rw[d9,yE hp,s1];rfl
    |m+2,h=>exact absurd h (by simp)
   ·rename_i h3;have hX:ak (bp l a i j0 j) = 0:=by omega
    have L:=mV (ts:=llq a.rs) tw.pos;unfold jD at hs;obtain⟨m,hm,rfl⟩:=List.mem_map.1 hs;have hm:=List.mem_range.1 hm;unfold iV;have e0:(dE (llq a.rs) []:Et (llq a.rs))=0:=by rw[E.zero_def];exact iA _
    match m,hm with
    |0,_ =>
     refine yo tw hN t0 t1 ha hi hil hn hv hd L ?_;show ak (dE _ [])=_;rw[e0];exact(da _ _ L.pos).zero
    |m+1,h=>exact absurd h (by simp)
theorem HE{g:Gr}(hg:DyK l g)(hgb:∀b∈g.bo,0<=b/\b.toNat<(aK a).length)(hli:aG l=0){x:Tn}{s:Sv}(hs:s∈ez l a g x):DetH l a g s:=by
 have hn:∀j∈l.jo,0<=j.a/\0<=j.b:=fun j hj=>by
  obtain⟨n,hn⟩:=XC hj;obtain⟨i1,i2,_⟩:=cA hli hn;have i1:=cM i1;have i2:=cM i2;omega
 cases hg with
 | @drv b z d j dr t d0 hd hb =>
  have e:am l ⟨0,[b],[z],d⟩ 0=j:=au t.hj;have hs:s∈ka l a b j x:=by rw[<- e];exact hs
  unfold ka at hs;split at hs
  ·cases hs
  ·rw[List.mem_singleton.1 hs];have L:=mV (ts:=llq a.rs) tw.pos;have q1:(qE 1:Et (llq a.rs))=1:=rfl;refine⟨L,?_,?_⟩
   ·show ak (qE 1:Et (llq a.rs))=1;rw[q1];exact(da _ _ tw.pos).one
   ·show ah L.pos (qE 1:Et (llq a.rs))=ah L.pos (aq (llq a.rs) (qE 1));rw[dc]
 | @rrr i k z0 z1 z2 j0 j1 j2 ne t0 t1 h0 h2 kd tie =>
  have e0:am l ⟨1,[i,k],[z0,z1,z2],0⟩ 0=j0:=au t0.hj;have e1:am l ⟨1,[i,k],[z0,z1,z2],0⟩ 1=j1:=au t1.hj;have e2:am l ⟨1,[i,k],[z0,z1,z2],0⟩ 2=j2:=au h2;have hs:s∈jH l a i k j0 j1 j2:=by rw[<- e0,<- e1,<- e2];exact hs
  obtain⟨b1,b2⟩:=hgb i (by simp);obtain⟨b3,b4⟩:=hgb k (by simp);exact RM tw hN ne t0 t1 h2 b1 b3 b2 b4 hn hs
 | @pr i z0 z1 j0 j1 t0 t1 ha =>
  have e0:am l ⟨2,[i],[z0,z1],0⟩ 0=j0:=au t0.hj;have e1:am l ⟨2,[i],[z0,z1],0⟩ 1=j1:=au t1.hj;have hs:s∈jb l a i j0 j1:=by rw[<- e0,<- e1];exact hs
  obtain⟨b1,b2⟩:=hgb i (by simp);exact JY tw hN t0 t1 ha b1 b2 hn hs
 | @rp i z0 z1 j0 j1 t0 t1 ha =>
  have e0:am l ⟨3,[i],[z0,z1],0⟩ 0=j0:=au t0.hj;have e1:am l ⟨3,[i],[z0,z1],0⟩ 1=j1:=au t1.hj;have hs:s∈je l a i j0 j1:=by rw[<- e0,<- e1];exact hs
  obtain⟨b1,b2⟩:=hgb i (by simp)
  have tb:j1.b=i:=by
   rcases t1.tie with⟨e,_⟩ |⟨e,_⟩
   ·exact absurd e ha
   ·exact e
  exact RD tw hN t0 t1 ha b1 b2 hn (un hli t1.hj (by rw[t1.kd];decide) tb) hs
end
def sO(l:Li)(a:Aq):Prop:=∀m g,m<a.ms.length->(splitG l)[m]?=some g->ak (cW l a.ts a.bs g)=a.ms.getD m 0
section
variable{l:Li}{xs:List Tn}{s g:Nat}(W:WkC l xs s g){gr:Gr}{a:Aq}(hg:(splitG l)[a.ms.length]?=some gr)
variable{j r E:Nat}(Q:QInv l j r E a)
include W hg Q
theorem Dg(ps:List Pq):∀m g2,m<a.ms.length->(splitG l)[m]?=some g2->∀b:Int,0<=b->(b∈g2.bo\/kn (eI l (splitG l) m) b=true)->cT a.bs (a5 a.bs gr.bo ps) a.ts.length b:=by
 obtain⟨dy,ok⟩:=W.grp hg;have N:=oG W.li W.sp hg;have hN':∀i,Nq a.ts.length (a.bs.getD i bc):=fun i=>zQ (fun p hp=>(Q.bs p hp).nq) i
 have mono:∀(k m:Nat),m+k<=a.ms.length->∀b:Int,0<=b->kn (eI l (splitG l) m) b=true->kn (eI l (splitG l) (m+k)) b=true:=by
  intro k
  induction k with
  |zero=>intro m _ b _ h;exact h
  |succ k ih =>
   intro m hm b h0 h;have h1:=ih m oz b h0 h;have hlt:m+k<(splitG l).length:=by have:=(List.getElem?_eq_some_iff.1 hg).1;omega
   obtain⟨g2,hg2⟩:=ax hlt;rw[show m+(k+1)=(m+k)+1 by omega,oe hg2 (W.grp hg2).2 h0,h1];simp
 intro m g2 hm hg2 b h0 hb
 have h1:kn (eI l (splitG l) (m+1)) b=true:=by
  rw[oe hg2 (W.grp hg2).2 h0];rcases hb with hb |hb
  ·have : g2.bo.any (fun x => decide (x = b)) = true := by rw [List.any_eq_true]; exact ⟨b, hb, by simp⟩
   rw[this];rfl
  ·rw[hb];simp
 have h2:=mono (a.ms.length-(m+1)) (m+1) oz b h0 h1;rw[show m+1+(a.ms.length-(m+1))=a.ms.length by omega]at h2;have hb2:b∉gr.bo:=fun hb=>by rw[N.b b hb]at h2;cases h2
 exact⟨AT (fun x hx=>(ok.b x hx).1) hb2 h0,hN' _⟩
theorem TM(H:sO l a){sv:Sv}(hs:sv∈ez l a.as gr (bZ gr xs)):sO l (a.nxt gr sv):=by
 have tw:=QInv.twl W hg Q;have hq:(Lw.llq a.as.rs)=a.ts:=a.llq;obtain⟨dy,ok⟩:=W.grp hg
 have hN:∀p∈aK a.as,Nq (Lw.llq a.as.rs).length p:=by
  intro p hp;rw[kN]at hp;rw[hq];exact(Q.bs p hp).nq
 have D:=HE tw hN dy (fun b hb=>by
  rw[kN];have:=ok.b b hb;have:=Q.ln;omega) W.li hs
 have L:Lf a.ts sv.ts:=B6 hq D.lf;have hsg:=D.sg;rw[kN]at hsg;have hml:(a.nxt gr sv).ms.length=a.ms.length+1:=by show(a.ms++[sv.mode]).length=_;simp
 intro m g2 hm hg2;rw[hml]at hm;show ak (cW l sv.ts (a5 a.bs gr.bo sv.ps) g2)=(a.ms++[sv.mode]).getD m 0
 by_cases e:m=a.ms.length
 ·subst e;rw[hg]at hg2;cases hg2;rw[WV,Xd (WZ _),Nat.sub_self];exact hsg
 ·have hlt : m < a.ms.length := by omega
  have S:=Dg W hg Q sv.ps m g2 hlt hg2;have h1:=H m g2 hlt hg2;have N2:=oG W.li W.sp hg2;obtain⟨dy2,ok2⟩:=W.grp hg2
  have jn:∀{z:Int}{jt:Jt},z∈g2.jo->l.jo[z.toNat]?=some jt->cT a.bs (a5 a.bs gr.bo sv.ps) a.ts.length jt.a/\cT a.bs (a5 a.bs gr.bo sv.ps) a.ts.length jt.b:=fun hz hj=>by
   obtain⟨i1,i2,_⟩:=cA W.li hj;have i1:=cM i1;have i2:=cM i2;obtain⟨na,nb⟩:=N2.j _ hz _ hj;exact⟨S _ i1.1 na,S _ i2.1 nb⟩
  have A:(g2.kind≠0->cT a.bs (a5 a.bs gr.bo sv.ps) a.ts.length (am l g2 0).a/\cT a.bs (a5 a.bs gr.bo sv.ps) a.ts.length (am l g2 0).b)/\(g2.kind≠0->cT a.bs (a5 a.bs gr.bo sv.ps) a.ts.length (am l g2 1).a/\cT a.bs (a5 a.bs gr.bo sv.ps) a.ts.length (am l g2 1).b) /\
    (g2.kind≠0->cT a.bs (a5 a.bs gr.bo sv.ps) a.ts.length (aN g2 0)):=by
   have own:∀b∈g2.bo,cT a.bs (a5 a.bs gr.bo sv.ps) a.ts.length b:=fun b hb=>S b (ok2.b b hb).1 (.inl hb)
   cases dy2 with
   | @drv b z d jt dr t d0 hd hb=>exact⟨fun h=>absurd rfl h,fun h=>absurd rfl h,fun h=>absurd rfl h⟩
   | @rrr i k z0 z1 z2 j0 j1 j2 ne t0 t1 h0 h2 kd tie =>
    have e0:am l ⟨1,[i,k],[z0,z1,z2],0⟩ 0=j0:=au t0.hj;have e1:am l ⟨1,[i,k],[z0,z1,z2],0⟩ 1=j1:=au t1.hj;rw[e0,e1];exact⟨fun _=>jn (by simp) t0.hj,fun _=>jn (by simp) t1.hj,fun _=>own _ (by simp[aN])⟩
   | @pr i z0 z1 j0 j1 t0 t1 ha =>
    have e0:am l ⟨2,[i],[z0,z1],0⟩ 0=j0:=au t0.hj;have e1:am l ⟨2,[i],[z0,z1],0⟩ 1=j1:=au t1.hj;rw[e0,e1];exact⟨fun _=>jn (by simp) t0.hj,fun _=>jn (by simp) t1.hj,fun _=>own _ (by simp[aN])⟩
   | @rp i z0 z1 j0 j1 t0 t1 ha =>
    have e0:am l ⟨3,[i],[z0,z1],0⟩ 0=j0:=au t0.hj;have e1:am l ⟨3,[i],[z0,z1],0⟩ 1=j1:=au t1.hj;rw[e0,e1];exact⟨fun _=>jn (by simp) t0.hj,fun _=>jn (by simp) t1.hj,fun _=>own _ (by simp[aN])⟩
  have zd:=Ml L (l:=l) (g:=g2) A.1 A.2.1 A.2.2;rw[sH L.pos zd,L.sg,h1,WV,WV,Xe hlt]
end
theorem GK{l:Li}{xs:List Tn}{s g:Nat}(W:WkC l xs s g){F:Nat->Int->Bool}{sg:Bool}:∀(n:Nat)(a:Aq),WkSt l s g n a->sO l a->∀b∈(fM F sg l xs (splitG l) n a).1,WkSt l s g 0 b/\sO l b
 |0,a,h,H,b,hb=>by rw[List.mem_singleton.1 hb];exact⟨h,H⟩
 |n+1,a,h,H,b,hb=>by
  obtain⟨gr,hg,_,hP,hn⟩:=h.next W;obtain⟨⟨j,r,E,y,Q,ok,hc⟩,hl⟩:=h;unfold fM at hb;rw[au hg]at hb;split at hb
  ·cases hb
  ·obtain⟨sv,hsv,h2⟩:=BA hb;exact GK W n _ (hn sv hsv) (TM W hg Q H hsv) b h2
structure AqMd(l:Li)(a:Aq):Prop where
  sp:splitE l=0
  ml:a.ms.length=(splitG l).length
  md:sO l a
theorem Jw{l:Li}(hl:l.ok){xs:List Tn}(hL:iG l xs=true)(hxw:∀x∈xs,x.t.wok){A:List Aq}{e:Nat}(h:hO l xs=(A,e)):∀a∈A,AqMd l a:=by
 by_cases h0:cI l xs=0
 ·obtain⟨s,g,W,St⟩:=tX hL hl hxw h0;have hw:=GK W (F:=gI) (sg:=false) (splitG l).length (eG l) St (fun m g h=>absurd h (Nat.not_lt_zero _));unfold hO at h;rw[XJ (fun h=>h h0)]at h;intro a ha;split at h
  ·cases h;cases ha
  ·have e1:(lh gI false l xs).1=A:=congrArg Prod.fst h;rw[<- e1]at ha;obtain⟨h1,h2⟩:=hw a ha;obtain⟨_,hl⟩:=h1;exact⟨W.sp,by omega,h2⟩
 ·unfold hO at h;rw[XK h0]at h;cases h;intro a ha;cases ha
end Go.Lw
namespace Go.Lw
def l6(s:ByteArray)(n:Int):Bd:=⟨s,[⟨⟨#[97]⟩,rt ((0:Int):Rat),rt ((0:Int):Rat)⟩,⟨⟨#[98]⟩,rt (n:Rat),rt ((0:Int):Rat)⟩]⟩
def fb:Li:=⟨⟨#[102,111,117,114,98,97,114]⟩,[l6 ⟨#[102,114,97,109,101]⟩ 4,l6 ⟨#[99,114,97,110,107]⟩ 3,l6 ⟨#[99,111,117,112,108,101,114]⟩ 5,l6 ⟨#[114,111,99,107,101,114]⟩ 6],
  [⟨⟨#[111]⟩,0,1,0,0,0,0⟩,⟨⟨#[112]⟩,0,2,0,1,1,0⟩,⟨⟨#[113]⟩,0,3,0,0,1,0⟩,⟨⟨#[114]⟩,0,2,1,3,1,0⟩],[⟨⟨#[100]⟩,1⟩]⟩
def t0:Tn:=⟨⟨false,[],[]⟩,false⟩
theorem A4(a b:ByteArray):dJ a b=(a.data.toList==b.data.toList):=by
 unfold dJ;rw[Go.ByteArray.toList_eq,Go.ByteArray.toList_eq]
theorem CV:aG fb=0:=by
 have h1:il fb=0:=by
  unfold il fa ep gy d8;simp only[A4];decide +kernel
 have h2:eT fb=0:=by
  unfold eT fa fT gy;simp only[A4];decide +kernel
 have h3:gM fb=0:=by
  unfold gM fa d6 gy;simp only[A4];decide +kernel
 unfold aG;rw[h1,h2,h3];decide +kernel
theorem QF{s:ByteArray}(hs:s.size<=281474976710656){n:Int}(hn:-9223372036854775808<=n/\n<=9223372036854775807) :
  (l6 s n).name.size<=281474976710656/\(l6 s n).pts.length<=281474976710656/\∀m∈(l6 s n).pts,m.name.size<=281474976710656/\m.x.wok/\m.y.wok:=by
 have h0:(rt ((0:Int):Rat)).ok:=(rO oz).ok;have h1:(rt (n:Rat)).ok:=(rO hn).ok;refine⟨hs,by show 2<=_;omega,fun m hm=>?_⟩;simp only[l6,Xu,Xf,or_false]at hm;rcases hm with rfl |rfl
 ·exact⟨by show 1<=_;omega,h0.wok,h0.wok⟩
 ·exact⟨by show 1<=_;omega,h1.wok,h0.wok⟩
theorem JG:fb.okw:=by
 refine⟨by decide,fun b hb=>?_,fun j hj=>?_,fun d hd=>?_,by decide,by decide,by decide⟩
 ·simp only[fb,Xu,Xf,or_false]at hb;rcases hb with rfl |rfl |rfl |rfl <;> exact QF (by decide) oz
 ·simp only[fb,Xu,Xf,or_false]at hj;rcases hj with rfl |rfl |rfl |rfl <;> decide
 ·simp only[fb,Xu,Xf,or_false]at hd;rcases hd with rfl;decide
theorem vz:fb.ok:=wl (by decide +kernel) JG
open Go.Proofs
theorem kM.ofL{l l':List AV}(h:SubL l l')(ho:l'.all AV.one=true):kM (.agg l) (.agg l') :=
 ⟨h.len,fun j x y hx hy=>⟨List.all_eq_true.1 ho y (WU hy),h.get j x y hx hy⟩⟩
theorem E0(s:ByteArray)(x y:Int)(hx:-9223372036854775808<=x/\x<=9223372036854775807)(hy:-9223372036854775808<=y/\y<=9223372036854775807):FP 243 [.v (.string s),i64 x,i64 y] (Mk.av ⟨s,rt (x:Rat),rt (y:Rat)⟩):=by
 refine aj func243 ?_;refine gc (Em x hx) ?_;refine gc (Em y hy) ?_;refine af ?_
 first |rfl |(simp;done)
theorem uG(s:ByteArray)(n:Int)(hn:-9223372036854775808<=n/\n<=9223372036854775807):FP 131 [.v (.string s),i64 n] (l6 s n).av:=by
 refine aj func131 ?_;refine gc (E0 _ 0 0 oz oz) ?_;refine gc (E0 _ n 0 hn oz) ?_;refine af ?_
 first |rfl |(simp;done)
theorem Qn:FP 54 [] fb.av:=by
 refine aj func54 ?_;refine gc (uG _ 4 oz) ?_;refine gc (uG _ 3 oz) ?_;refine gc (uG _ 5 oz) ?_;refine gc (uG _ 6 oz) ?_;refine af ?_
 first |rfl |(simp;done)
deriving instance DecidableEq for Pq
deriving instance DecidableEq for Aq
def Ud:List Aq×Nat:=lh gI false fb [dx]
theorem RR:cI fb [dx]=0:=by
 unfold cI sW;rw[XJ (by rw[CV];decide),XJ (show ¬splitE fb≠0 by decide +kernel),XJ (show ¬[dx].length≠fb.dv.length by decide +kernel)];decide +kernel
def aF:Aq:=⟨[],[⟨[1],[],[],[]⟩,⟨[1],[],[],[]⟩,⟨[-1],[],[3],[]⟩,⟨[-1],[],[4],[]⟩],[1,0]⟩
theorem Km:Ud=([aF],0):=by decide +kernel
theorem wa:WkC fb [dx] 32 134:=by
 have z:dx.t.q=0:=by decide +kernel
 have h0:Qb 32 dx.t.q:=by rw[z];exact Qb.zero.mono oz
 refine⟨vz,CV,by decide +kernel,?_,rfl,fun x hx=>?_⟩
 ·have h : ∀ b ∈ fb.bo, ∀ m ∈ b.pts, (m.x.q.num.natAbs < 2 ^ 32 /\ m.x.q.den < 2 ^ 32) /\ (m.y.q.num.natAbs < 2 ^ 32 /\ m.y.q.den < 2 ^ 32) := by decide +kernel
  exact h
 ·rw[List.mem_singleton.1 hx];exact⟨yU,by decide +kernel,Ck,Cb.one (nQ h0),Cb.one (ow h0)⟩
theorem IZ:WkSt fb 32 134 (splitG fb).length (eG fb):=by
 refine⟨⟨0,0,2,1,CP fb,vF Ea ?_ (WZ _),?_⟩,Nat.zero_add _⟩
 ·decide +kernel
 ·decide +kernel
theorem xL:Sub (.lst 4 [.agg [.v (.bool false),nS,nS,.v (.bool false)]]) (.lst 4 [dx.av]) :=
 Sub.lst rfl (fun i x y hx hy=>by
  match i,hx,hy with
  |0,hx,hy=>cases hx;cases hy;exact .ofL (.cons (.refl _) (.cons (.nil _ _ _) (.cons (.nil _ _ _) (.cons (.refl _) .nil)))) rfl)
theorem pH{ts:LL}{r:Nat}(hr:r<=400000000)(h2:ts.length<=2):kB r ts.length<=1200000006:=by
 have h:=gO r h2;have h3:eB r 2=3*r+6:=by simp only[eB];omega
 show eB r ts.length<=_;omega
theorem jN{ts:LL}(h2:ts.length<=2):lm ts.length=200000000000:=by unfold lm;rw[XK h2]
section
variable{l:Li}{xs:List Tn}{a:Aq}(F:AqFin l xs a)
include F
end
theorem La{l:Li}{xs:List Tn}{A:List Aq}{e:Nat}(h:hO l xs=(A,e))(he:e≠0):A=[]:=by
 unfold hO at h;split at h
 ·exact(congrArg Prod.fst h).symm
 ·split at h
  ·exact(congrArg Prod.fst h).symm
  ·rename_i h1 h2;exact absurd (congrArg Prod.snd h) (fun h9=>h2 (by rw[h9];exact he))
theorem VC{l:Li}{xs:List Tn}{A:List Aq}{e:Nat}(h:hO l xs=(A,e))(he:e=0):cI l xs=0:=by
 unfold hO at h;split at h
 ·rename_i h1;exact absurd ((congrArg Prod.snd h).trans he) h1
 ·rename_i h1;exact Decidable.not_not.1 h1
structure AsmS(l:Li)(xs:List Tn)(A:List Aq)(e:Nat):Prop where
  eq:hO l xs=(A,e)
  all:FP 33 [l.av,.lst 4 (xs.map Tn.av)] (.tup [.lst 3 (A.map Aq.av),bq e])
  ln:A.length<=1000
theorem LJ{l:Li}(hl:l.ok){xs:List Tn}(hL:iG l xs=true)(hxw:∀x∈xs,x.t.wok):∃A e,AsmS l xs A e:=by
 obtain⟨_,hx20,hxo⟩:=BU hL hxw;have hop:=Dy l hl xs hxo oz
 by_cases h0:cI l xs=0
 ·obtain ⟨s, g, W, St⟩:=tX hL hl hxw h0;have hsl:=rW W.li;have hlb:=(cU W.li).2.2.2;have hp:2 ^ (splitG l).length <= 256:=Xj (cQ (b:=8) oz) (by decide);have hw:=yP W gI false (fo:=198) (caps:=[]) (fun k m _=>L9 k m) (splitG l).length (eG l) St [] (by simp only [Xi]; omega);have hA:=O7 h0 hop oz oz (R:=lh gI false l xs) hw;have hlen:=yx W gI false (splitG l).length (eG l) St;refine ⟨_,_,⟨?_,hA,?_⟩⟩
  ·unfold hO;rw[XJ (fun h=>h h0)]
   by_cases hE:(lh gI false l xs).2≠0
   ·rw[XK hE,XK hE]
   ·rw[XJ hE,XJ hE]
  ·split
   ·exact W7 _
   ·exact Xj hlen oz
 ·have hA:=S0 h0 hop;refine⟨[],cI l xs,⟨?_,hA,W7 _⟩⟩;unfold hO;rw[XK h0]
theorem Su{p:Bool}{e:Nat}(h:cond (cond (!true) true (!p)) true (aa .neq (e:Int) 0)=false):p=true/\e=0:=by
 cases p
 ·simp at h
 ·exact⟨rfl,pV h⟩
theorem uk{ts:LL}{r e f:Nat}(tw:Tw ts r){x:List Rat}(hx:Nm ts.length e x){v:Rat}(hv:Qb f v)(he:e+2*f+1<=lm ts.length)(hf:f<=9000) :
  FP 308 [aV ts,nA x,qA v] (bl (ia ts (ae ts.length x) (ae ts.length (sh 0 (v:Rat))))):=by
 have hlm:=jY ts.length;refine aj func308 ?_;refine gc (mg (hv.qs oz)) ?_;refine gc (wA tw hx (pc tw.five hv) oz) ?_;refine gD ?_;refine af ?_;exact congrArg bl (IS _)
theorem LR{ts:LL}{r e:Nat}(tw:Tw ts r){x:List Rat}(hx:Nm ts.length e x)(he:e<=lm ts.length):FP 307 [aV ts,nA x] (bl true):=by
 have h:=Qw (ts.map (List.map rt)) r tw.tr (x.map rt) e (hx.rt he)
 have e0:bQ (ts.map (List.map rt)) [x.map rt]=0:=by
  unfold bQ;rw[XJ (by rw[tw.chk];simp),WW];exact pN (fun y hy=>by rw[List.mem_singleton.1 hy];exact oC hx.nl)
 rw[e0,ki,fq]at h;exact h
theorem Ky{ts:LL}{r:Nat}(tw:Tw ts r):FP 144 [aV ts] (bq 0):=by
 have h:=qG (ts.map (List.map rt)) r tw.tr;rw[tw.chk,ki]at h;exact h
structure AqS(l:Li)(a:Aq):Prop where
  li:aG l=0
  tw:∃r,r<=400000000/\Tw a.ts r
  two:a.ts.length<=2
  bs:∀p∈a.bs,Pq.ok a.ts.length 3200000000 p
  ln:a.bs.length=l.bo.length
theorem AqFin.s{l:Li}{xs:List Tn}{a:Aq}(F:AqFin l xs a):AqS l a:=⟨F.li,F.tw,F.two,F.bs,F.ln⟩
theorem xi{l:Li}{a:Aq}(F:AqS l a)(hl:l.ok){body pt:Int}(h1:bt body l.bo.length=true)(h2:bt pt (cE l body).length=true) :
  Nm a.ts.length 12100000000 (sX (aX l a.ts a.bs body pt).1)/\Nm a.ts.length 12100000000 (sX (aX l a.ts a.bs body pt).2):=by
 obtain⟨n,k,bd,m,h⟩:=oP hl F.li h1 h2;obtain⟨r,hr,tw⟩:=F.tw;have hk:=pH hr F.two;obtain⟨p,hp⟩:=ax (l:=a.bs) (i:=n) (by rw[F.ln];exact(List.getElem?_eq_some_iff.1 h.gbd).1);have po:=F.bs p (WU hp);have e:body.toNat=n:=by have:=h.hn;omega
 have hb:Pq.ok a.ts.length 3200000000 ⟨lq p.pl.c,lq p.pl.s,lq p.pl.x,lq p.pl.y⟩:=by
  unfold Pq.pl;dsimp only;rw[ef,ef,ef,ef];exact po
 have hq:=BV tw hb h.sm;unfold Pq.pl at hq;dsimp only[fP]at hq;rw[ef,ef,ef,ef]at hq;unfold aX;rw[e,au hp];exact⟨hq.1.mono oz,hq.2.mono oz⟩
def tO(ts:LL)(p:Pq):Bool:=ia ts (mZ ts (ae ts.length p.c) (ae ts.length p.s) (ae ts.length p.c) (ae ts.length p.s)) (T.ofQ ts.length 1)
def pS(ts:LL)(p:Pq):Bool:=ia ts (ae ts.length p.c) (T.ofQ ts.length 1)&&ia ts (ae ts.length p.s) (T.ofQ ts.length 0)&&ia ts (ae ts.length p.x) (T.ofQ ts.length 0)&&ia ts (ae ts.length p.y) (T.ofQ ts.length 0)
def lU(l:Li)(a:Aq)(j:Jt):Bool :=
  if j.kind=0 then decide (T.sgn (ay a.ts) a.ts.length (subT a.ts (aX l a.ts a.bs j.a j.point).1 (aX l a.ts a.bs j.b j.on).1)=0/\T.sgn (ay a.ts) a.ts.length (subT a.ts (aX l a.ts a.bs j.a j.point).2 (aX l a.ts a.bs j.b j.on).2)=0)
  else decide (T.sgn (ay a.ts) a.ts.length (qe a.ts (aX l a.ts a.bs j.b j.on).1 (aX l a.ts a.bs j.b j.on).2 (aX l a.ts a.bs j.b j.to).1 (aX l a.ts a.bs j.b j.to).2 (aX l a.ts a.bs j.a j.point).1 (aX l a.ts a.bs j.a j.point).2)=0)
theorem PG{ts:LL}{p:Pq}(h:CH ts p):tO ts p=true:=decide_eq_true h
theorem LI(ts:LL):pS ts ky=true:=by
 unfold pS ky;dsimp only;rw[lO,iA,T.ofQ_zero,wJ,wJ];rfl
theorem V3{l:Li}{a:Aq}{j:Jt}(h:JH l a.ts a.bs j):lU l a j=true:=by
 unfold JH at h;unfold lU;split
 ·rename_i hk;rw[XK hk]at h;exact decide_eq_true h
 ·rename_i hk;rw[XJ hk]at h;exact decide_eq_true h
def Pq.l(p:Pq):LL:=[p.c,p.s,p.x,p.y]
theorem Pq.ok.mem{n e:Nat}{p:Pq}(h:Pq.ok n e p):∀x∈p.l,Nm n e x:=by
 intro x hx;simp only[Pq.l,Xu,Xf,or_false]at hx;rcases hx with rfl |rfl |rfl |rfl
 ·exact h.c
 ·exact h.s
 ·exact h.x
 ·exact h.y
theorem QO{ts:LL}{r e:Nat}(tw:Tw ts r){p:Pq}(hp:Pq.ok ts.length e p)(he:e+1000<=lm ts.length):FP 213 [aV ts,p.av] (bl (pS ts p)):=by
 have hlm:=jY ts.length
 have h1:FP 308 [aV ts,nA p.c,qA ((1:Int):Rat)] (bl (ia ts (ae ts.length p.c) (T.ofQ ts.length 1))):=by
  have h:=uk tw hp.c Qb.one oz oz;rw[fL]at h;exact h
 have h0:∀x:List Rat,Nm ts.length e x->FP 308 [aV ts,nA x,.agg [.v (.bool false),nS,nS]] (bl (ia ts (ae ts.length x) (T.ofQ ts.length 0))):=fun x hx=>by
  have h:=uk tw hx Qb.zero oz oz;rw[fL]at h;exact Con.sA (.cons (.refl _) (.cons (.refl _) (.cons j7 .nil))) h
 refine aj func213 ?_;refine gc (kv 1 oz) ?_;refine gc h1 ?_;refine b9 (fun _=>(h0 _ hp.s)) ?_;refine b9 (fun _=>(h0 _ hp.x)) ?_;refine b9 (fun _=>(h0 _ hp.y)) ?_;refine gD ?_;refine af ?_;exact congrArg bl (Lb _ _ _ _)
theorem Uk{l:Li}{a:Aq}(F:AqS l a){p:Pq}(hpm:p∈a.bs):FP 212 [aV a.ts,p.av] (bl (tO a.ts p)):=by
 obtain⟨r,hr,tw⟩:=F.tw;have hkb:=pH hr F.two;have hlm:=jN F.two;have hp:=F.bs p hpm;refine aj func212 ?_;refine ge rfl ?_;refine aZ [2,3,18,19] [2,3] (fun(k:Nat)=>[(20,some (i64 k))]) (fun _=>[]) (fun k=>k<=4) (fun k=>4-k) 0 (W7 _) ?_;rintro k hk K1 J1;refine gC (fun t21=>?_) (fun t21=>?_)
 ·have hkn:k<4:=a6 (b:=4) t21;obtain⟨x,hx⟩:∃x,p.l[k]?=some x:=ax (l:=p.l) hkn;refine gi (aI hx) ?_;refine gc (LR tw (hp.mem x (WU hx)) oz) ?_;refine gC (fun t27=>?_) (fun t27=>?_) (st1:=(5,0));cases t27;refine ga aO ?_;exact aP J1 (k+1) hkn
 have hdn:=uS tw hp.c hp.s hp.c hp.s;have hdot:=tL tw hp.c hp.s hp.c hp.s oz;have heq:=uk tw hdn Qb.one oz oz;rw[bf,fL]at heq;refine gc hdot ?_;refine b9 (fun _=>(kv 1 oz)) ?_;refine b9 (fun _=>heq) ?_;refine gD ?_;refine af ?_;rfl
def wU(ts:LL)(p:Pq)(x:Tn):Bool:=ia ts (ae ts.length p.c) (ae ts.length (sh 0 (dF x.half x.t.q:Rat)))&&ia ts (ae ts.length p.s) (ae ts.length (sh 0 (dD x.half x.t.q:Rat)))
theorem LF{ts:LL}{r e:Nat}(tw:Tw ts r){p:Pq}(hp:Pq.ok ts.length e p)(hle:e+20000<=lm ts.length){x:Tn}(hx:x.t.ok)(he:x.err=0)(hq:Qb 1000 x.t.q) :
  FP 219 [aV ts,p.av,x.av] (bl (wU ts p x)):=by
 have hc:=yr x hx hq oz;rw[XK he,he]at hc;have hs:=D7 x hx hq oz;rw[XK he,he]at hs;refine aj func219 ?_;refine gc hc ?_;refine gC (fun t16=>?_) (fun t16=>?_) (st1:=(3,0));cases t16;refine gc hs ?_;refine b9 (fun _=>(uk tw hp.c (Vz x.half hq) oz oz)) ?_;refine b9 (fun _=>(uk tw hp.s (N6 x.half hq) oz oz)) ?_;refine af ?_;exact congrArg bl (iO _ _)
theorem Bj{l:Li}(hl:l.ok){a:Aq}(F:AqS l a){body pt:Int}(h1:bt body l.bo.length=true)(h2:bt pt (cE l body).length=true) :
  FP 309 [l.av,a.av,i64 body,i64 pt] (.tup [aM (sX (aX l a.ts a.bs body pt).1) (sX (aX l a.ts a.bs body pt).2),.v .nilIface]):=by
 obtain⟨n,k,bd,m,h⟩:=oP hl F.li h1 h2;obtain⟨r,hr,tw⟩:=F.tw;have hkb:=pH hr F.two;have hlm:=jN F.two;have hlb:=(cU F.li).2.2.2.1;obtain⟨p,hp⟩:=ax (l:=a.bs) (i:=n) (by rw[F.ln];exact(List.getElem?_eq_some_iff.1 h.gbd).1);have po:=F.bs p (WU hp);have hn:=h.hn;have hk:=h.hk
 have e:aX l a.ts a.bs body pt=bR a.ts p (aQ l body pt):=by
  unfold aX;rw[hn,Xk,au hp]
 have hat:FP 89 [aV a.ts,p.av,m.x.av,m.y.av] (.tup [aM (sX (aX l a.ts a.bs body pt).1) (sX (aX l a.ts a.bs body pt).2),.v .nilIface]):=by
  rw[h.ex,h.ey,e];exact uP tw po.c po.s po.x po.y (h.sm.x.mono oz) (h.sm.y.mono oz) oz
 have gb:=h.gbd;have gm:=h.gm;clear h h1 h2 e;subst hn;subst hk;refine aj func309 ?_;refine gi (aI gb) ?_;refine gi (aI gm) ?_;refine gi (aI hp) ?_;refine gc hat ?_;refine gD ?_;refine br ?_
 first |rfl |(simp;done)
theorem Kn{l:Li}(hl:l.ok){a:Aq}(F:AqS l a){i:Nat}{j:Jt}(hj:l.jo[i]?=some j):FP 216 [l.av,a.av,j.av] (bl (lU l a j)):=by
 obtain⟨r,hr,tw⟩:=F.tw;have hkb:=pH hr F.two;have hlm:=jN F.two;obtain⟨i1,i2,i3,i4,i5⟩:=cA F.li hj;have np:=xi F hl i1 i3;have nq:=xi F hl i2 i4;have ed:∀y:Et a.ts,ae a.ts.length (sX y)=y:=fun y=>bf _ _
 refine aj func216 ?_;refine gc (Bj hl F i1 i3) ?_;refine gC (fun t25=>?_) (fun t25=>?_) (st1:=(3,0));cases t25;refine gc (Bj hl F i2 i4) ?_;refine gC (fun t37=>?_) (fun t37=>?_) (st1:=(6,0));cases t37;refine gC (fun t40=>?_) (fun t40=>?_)
 ·have hk:j.kind=0:=cK t40;have hsame:=OD tw np.1 np.2 nq.1 nq.2 oz;rw[ed,ed,ed,ed]at hsame;refine gc hsame ?_;refine af ?_;unfold lU;rw[XK hk];rfl
 have hk:j.kind≠0:=dq t40;have nr:=xi F hl i2 (i5 hk);have hor:=V4 tw nq.1 nq.2 nr.1 nr.2 np.1 np.2 oz;rw[ed,ed,ed,ed,ed,ed]at hor;refine gc (Bj hl F i2 (i5 hk)) ?_;refine gC (fun t65=>?_) (fun t65=>?_) (st1:=(12,0));cases t65;refine gc hor ?_;refine af ?_;unfold lU;rw[XJ hk];exact congrArg bl (IS _)
theorem Uo(bs:List Pq)(hl:bs.length<=281474976710656)(f:FuncId)(c:List AV)(ok:Nat->Bool)
  (hf:∀(i:Nat)(b:Pq),bs[i]?=some b->(∀j,j<i->ok j=true)->FP f ([i64 i,b.av]++[.iptr c]) (bl (!ok i))) :
  FP 210 [.lst 4 (bs.map Pq.av),.fn f [.iptr c]] (i64 (jc (cB bs.length ok))):=by
 refine aj func210 ?_;refine gl ?_;refine aZ [1,7,8] [] (fun(i:Nat)=>[(9,some (i64 i))]) (fun _=>[]) (fun i=>i<=bs.length/\∀j,j<i->ok j=true) (fun i=>bs.length-i) 0 ⟨W7 _,fun j h=>by omega⟩ ?_;rintro i ⟨hi,hj⟩ K1 J1;refine gC (fun t10=>?_) (fun t10=>?_)
 ·have hin:=a6 t10;obtain⟨b,hb⟩:=ax hin;refine gi (aI hb) ?_;refine gs (w7 (.tmp rfl) (hf i b hb hj) (bD rfl rfl) aH rfl rfl) ?_;refine gC (fun t17=>?_) (fun t17=>?_)
  ·have h2:=df t17;refine af ?_;rw[gx hin hj h2];rfl
  have h2:=c9 t17;refine ga aO ?_;exact aP J1 (i+1) ⟨hin,fun j h9=>by rcases W3 j i with g |g;exact hj j g;(have:j=i:=by omega);subst this;exact h2⟩
 have hin:=bi hi t10;subst hin;refine af ?_;rw[fO hj];rfl
theorem PW(bs:List Jt)(hl:bs.length<=281474976710656)(f:FuncId)(c d:List AV)(ok:Nat->Bool)
  (hf:∀(i:Nat)(b:Jt),bs[i]?=some b->(∀j,j<i->ok j=true)->FP f ([i64 i,b.av]++[.iptr c,.iptr d]) (bl (!ok i))) :
  FP 214 [.lst 7 (bs.map Jt.av),.fn f [.iptr c,.iptr d]] (i64 (jc (cB bs.length ok))):=by
 refine aj func214 ?_;refine gl ?_;refine aZ [1,7,8] [] (fun(i:Nat)=>[(9,some (i64 i))]) (fun _=>[]) (fun i=>i<=bs.length/\∀j,j<i->ok j=true) (fun i=>bs.length-i) 0 ⟨W7 _,fun j h=>by omega⟩ ?_;rintro i ⟨hi,hj⟩ K1 J1;refine gC (fun t10=>?_) (fun t10=>?_)
 ·have hin:=a6 t10;obtain⟨b,hb⟩:=ax hin;refine gi (aI hb) ?_;refine gs (w7 (.tmp rfl) (hf i b hb hj) (bD rfl rfl) aH rfl rfl) ?_;refine gC (fun t17=>?_) (fun t17=>?_)
  ·have h2:=df t17;refine af ?_;rw[gx hin hj h2];rfl
  have h2:=c9 t17;refine ga aO ?_;exact aP J1 (i+1) ⟨hin,fun j h9=>by rcases W3 j i with g |g;exact hj j g;(have:j=i:=by omega);subst this;exact h2⟩
 have hin:=bi hi t10;subst hin;refine af ?_;rw[fO hj];rfl
theorem Q9(bs:List Dr)(hl:bs.length<=281474976710656)(f:FuncId)(c d:List AV)(ok:Nat->Bool)
  (hf:∀(i:Nat)(b:Dr),bs[i]?=some b->(∀j,j<i->ok j=true)->FP f ([i64 i,b.av]++[.iptr c,.iptr d]) (bl (!ok i))) :
  FP 217 [.lst 2 (bs.map Dr.av),.fn f [.iptr c,.iptr d]] (i64 (jc (cB bs.length ok))):=by
 refine aj func217 ?_;refine gl ?_;refine aZ [1,7,8] [] (fun(i:Nat)=>[(9,some (i64 i))]) (fun _=>[]) (fun i=>i<=bs.length/\∀j,j<i->ok j=true) (fun i=>bs.length-i) 0 ⟨W7 _,fun j h=>by omega⟩ ?_;rintro i ⟨hi,hj⟩ K1 J1;refine gC (fun t10=>?_) (fun t10=>?_)
 ·have hin:=a6 t10;obtain⟨b,hb⟩:=ax hin;refine gi (aI hb) ?_;refine gs (w7 (.tmp rfl) (hf i b hb hj) (bD rfl rfl) aH rfl rfl) ?_;refine gC (fun t17=>?_) (fun t17=>?_)
  ·have h2:=df t17;refine af ?_;rw[gx hin hj h2];rfl
  have h2:=c9 t17;refine ga aO ?_;exact aP J1 (i+1) ⟨hin,fun j h9=>by rcases W3 j i with g |g;exact hj j g;(have:j=i:=by omega);subst this;exact h2⟩
 have hin:=bi hi t10;subst hin;refine af ?_;rw[fO hj];rfl
def od(ts:LL)(i:Nat)(p:Pq):Bool:=tO ts p&&(decide (0<i)||pS ts p)
theorem Q1(ts:LL)(i:Nat)(p:Pq):cond (!tO ts p) true (cond (aa .eql (i:Int) 0) (!pS ts p) false)=!od ts i p:=by
 unfold od
 have e:aa .eql (i:Int) 0=!decide (0<i):=by
  rw[oh,<- decide_not];exact decide_eq_decide.2 oz
 rw[e];cases tO ts p <;> cases decide (0<i) <;> cases pS ts p <;> rfl
theorem Pk{l:Li}{a:Aq}(F:AqS l a){i:Nat}{p:Pq}(hp:a.bs[i]?=some p):FP 211 [i64 i,p.av,.iptr a.cs] (bl (!od a.ts i p)):=by
 obtain⟨r,hr,tw⟩:=F.tw;have hlm:=jN F.two;have hpm:=WU hp;refine aj func211 ?_;refine gc (Uk F hpm) ?_;refine b9 (fun _=>(QO tw (F.bs p hpm) oz)) ?_;refine af ?_;exact congrArg bl (Q1 _ _ _)
theorem Lo{l:Li}(hl:l.ok){a:Aq}(F:AqS l a){i:Nat}{j:Jt}(hj:l.jo[i]?=some j):FP 215 [i64 i,j.av,.iptr l.av.cells,.iptr a.cs] (bl (!lU l a j)):=by
 refine aj func215 ?_;refine gc (Kn hl F hj) ?_;refine af ?_;rfl
def nZ(l:Li)(ys:List Tn)(a:Aq)(i:Nat):Bool:=wU a.ts (a.bs.getD (l.dv.getD i default).body.toNat bc) (ys.getD i dx)
def jm(l:Li)(ys:List Tn)(a:Aq):Nat×Nat:=match cB a.bs.length (fun i=>od a.ts i (a.bs.getD i bc))with
  |some i=>(2,i)
  |none=>match cB l.jo.length (fun i=>lU l a (l.jo.getD i default))with
    |some i=>(3,i)
    |none=>match cB l.dv.length (nZ l ys a)with
      |none=>(0,0)
      |some i=>(4,i)
theorem OP{l:Li}{ys:List Tn}{a:Aq}:(((jm l ys a).1:Int)==0&&((jm l ys a).2:Int)==0)=(decide ((0:Nat)=0)&&decide ((jm l ys a).1=0)):=by
 unfold jm;split
 ·rfl
 ·split
  ·rfl
  ·split <;> rfl
theorem Un{l:Li}{a:Aq}(F:AqS l a){ys:List Tn}(hy:∀x∈ys,x.t.ok/\x.err=0/\Qb 1000 x.t.q)(hyl:ys.length=l.dv.length){i:Nat}{d:Dr}(hd:l.dv[i]?=some d) :
  FP 218 [i64 i,d.av,.iptr a.cs,.iptr [.lst 4 (ys.map Tn.av)]] (bl (!nZ l ys a i)):=by
 have hin:=(List.getElem?_eq_some_iff.1 hd).1;have hd2:=rD F.li;have hbl:=(cU F.li).2.2.2.1;have hln:=F.ln;obtain⟨r,hr,tw⟩:=F.tw;have hlm:=jN F.two;have hdb:=cM (j6 F.li hd);obtain⟨p,hp⟩:=ax (l:=a.bs) (i:=d.body.toNat) oz;obtain⟨x,hx⟩:=ax (l:=ys) (i:=i) oz;have hxo:=hy x (WU hx);have ht:=LF tw (F.bs p (WU hp)) oz hxo.1 hxo.2.1 hxo.2.2
 have e:nZ l ys a i=wU a.ts p x:=by
  unfold nZ;rw[au hd,au hp,au hx]
 refine aj func218 ?_;refine gi (aI hp) ?_;refine gi (aI hx) ?_;refine gc ht ?_;refine gD ?_;refine af ?_;rw[e];rfl
theorem MD{l:Li}(hl:l.ok){a:Aq}(F:AqS l a){ys:List Tn}(hy:∀x∈ys,x.t.ok/\x.err=0/\Qb 1000 x.t.q)(hyl:ys.length=l.dv.length) :
  FP 106 [l.av,.lst 4 (ys.map Tn.av),a.av] (B3 (jm l ys a)):=by
 obtain⟨r,hr,tw⟩:=F.tw;have hbl:=(cU F.li).2.2.2.1;have hln:=F.ln;refine aj func106 ?_ (1,0);refine gW ((Wk.freezeB (k:=3) rfl rfl).trans<|(Wk.freezeB (k:=4) rfl rfl).trans<|(Wk.freezeB (k:=5) rfl rfl).trans<|Wk.o (sl:=[(3,some (.iptr l.av.cells)),(4,some (.iptr [.lst 4 (ys.map Tn.av)])),(5,some (.iptr a.cs)),(6,some (.ptr 6 0))]) (hp:=[(6,some (.box [i64 0,i64 0]))])) ?_;refine gc (Ky tw) ?_;refine cD ?_;refine cD ?_;refine gC (fun t22=>?_) (fun t22=>?_) (st1:=(2,0));exact((Kv t22).elim (fun h=>h rfl) (fun h=>h hln)).elim;refine gc (Uo a.bs oz 211 a.cs (fun i=>od a.ts i (a.bs.getD i bc)) (fun i b hb _=>by have h:=Pk F hb;rw[<- au (d:=bc) hb]at h ⊢;exact h)) ?_;refine gC (fun t29=>?_) (fun t29=>?_)
 ·obtain⟨i,hi⟩:=Bw t29;refine af ?_;unfold jm;rw[hi];rfl
 have f1:=Bq t29;refine gc (PW l.jo hl.lj 215 l.av.cells a.cs (fun i=>lU l a (l.jo.getD i default)) (fun i j hj _=>by have h:=Lo hl F hj;rw[<- au (d:=default) hj]at h ⊢;exact h)) ?_;refine gC (fun t37=>?_) (fun t37=>?_)
 ·obtain⟨i,hi⟩:=Bw t37;refine af ?_;unfold jm;rw[f1,hi];rfl
 have f2:=Bq t37;refine gc (Q9 l.dv hl.ld 218 a.cs [.lst 4 (ys.map Tn.av)] (nZ l ys a) (fun i d hd _=>Un F hy hyl hd)) ?_;refine gC (fun t45=>?_) (fun t45=>?_)
 ·obtain⟨i,hi⟩:=Bw t45;refine af ?_;unfold jm;rw[f1,f2,hi];rfl
 have f3:=Bq t45;refine af ?_;unfold jm;rw[f1,f2,f3];rfl
theorem LZ{l:Li}(hl:l.ok){a:Aq}(F:AqS l a)(ys:List Tn)(hy:∀x∈ys,x.t.ok/\Qb 1000 x.t.q)(hyl:ys.length<=281474976710656) :
  FP 37 [l.av,.lst 4 (ys.map Tn.av),a.av] (.tup [bl (decide (ko l ys=0)&&decide ((jm l ys a).1=0)),B3 (if ko l ys=0 then jm l ys a else(0,0)),bq (ko l ys)]):=by
 have hld:=hl.ld;refine aj func37 ?_;refine gc (AN l hl) ?_;refine gC (fun t17=>?_) (fun t17=>?_) (st1:=(3,0));exact absurd F.li (dl t17);have h1:=F.li;refine gl ?_;refine gl ?_;refine gC (fun t25=>?_) (fun t25=>?_)
 ·have h2 : ys.length ≠ l.dv.length := by have := ni t25; omega
  have hb:ko l ys≠0:=by rw[FQ h1 h2];decide
  refine uV ?_;rw[XJ hb,decide_eq_false hb,FQ h1 h2];rfl
 have h2:ys.length=l.dv.length:=by have:=rZ t25;omega
 refine gl ?_;refine aZ [1,3,5,7,28,29] [3,5,7] (fun(i:Nat)=>[(30,some (i64 i))]) (fun _=>[]) (fun i=>i<=ys.length/\∀x∈ys.take i,x.err=0) (fun i=>ys.length-i) 0 ⟨W7 _,fun x hx=>by simp at hx⟩ ?_;rintro i ⟨hi,hj⟩ K1 J1;refine gC (fun t31=>?_) (fun t31=>?_)
 ·have hin:=a6 t31;obtain⟨x,hxx⟩:=ax hin;refine gi (aI hxx) ?_;refine gc (xz x (hy x (WU hxx)).1) ?_;refine gC (fun t37=>?_) (fun t37=>?_)
  ·have h3:=dl t37;have hb:ko l ys ≠ 0:=by rw [Ih h1 h2 hxx hj h3]; exact h3
   refine uV ?_;rw[XJ hb,decide_eq_false hb,Ih h1 h2 hxx hj h3];rfl
  have h3:=cZ t37;refine ga aO ?_;exact aP J1 (i+1) ⟨hin,fun y hy=>by rw[eA hxx]at hy;rcases List.mem_append.1 hy with h9 |h9;exact hj y h9;(rw[List.mem_singleton.1 h9];exact h3)⟩
 have hin:=bi hi t31;subst hin;rw[Xg]at hj;have hb:=Jl h1 h2 hj;refine gc (MD hl F (fun x h9=>⟨(hy x h9).1,hj x h9,(hy x h9).2⟩) h2) ?_;refine gs (N1 (.tmp rfl) (.tmp rfl) (by kernel_rfl) rfl) ?_;refine gD ?_;refine uV ?_;rw[hb,XK rfl,OP];rfl
theorem cz{ts:LL}{e f:Nat}{x y:Et ts}(h1:Bz e x)(h2:Bz f y):Nm ts.length (e+f+1) (sX (x-y)):=Bz.sub h1 h2
section
variable{ts:LL}{r e f:Nat}(tw:Tw ts r){x y x2 y2:Et ts}
include tw
theorem o9(h1:Nm ts.length e (sX x))(h2:Nm ts.length e (sX y))(h3:Nm ts.length e (sX x2))(h4:Nm ts.length e (sX y2))(he:2*e<=lm ts.length) :
  FP 76 [aV ts,aM (sX x) (sX y),aM (sX x2) (sX y2)] (.tup [aM (sX (x-x2)) (sX (y-y2)),.v .nilIface]):=by
 have h:=xI tw h1 h2 h3 h4 he;have ew:∀z:Et ts,ae ts.length (sX z)=z:=fun z=>bf _ _
 rw[ew,ew,ew,ew]at h;exact h
theorem Ua(h1:Nm ts.length e (sX x))(h2:Nm ts.length e (sX y))(h3:Nm ts.length e (sX x2))(h4:Nm ts.length e (sX y2))(he:2*(e+e+kB r ts.length)<=lm ts.length) :
  FP 77 [aV ts,aM (sX x) (sX y),aM (sX x2) (sX y2)] (.tup [nA (sX (crsE x y x2 y2)),.v .nilIface]):=by
 have h:=Ar tw h1 h2 h3 h4 he;have ew:∀z:Et ts,ae ts.length (sX z)=z:=fun z=>bf _ _
 rw[ew,ew,ew,ew]at h;exact h
theorem zp(h1:Nm ts.length e (sX x))(h2:Nm ts.length e (sX y))(h3:Nm ts.length e (sX x2))(h4:Nm ts.length e (sX y2))(he:2*(e+e+kB r ts.length)<=lm ts.length) :
  FP 80 [aV ts,aM (sX x) (sX y),aM (sX x2) (sX y2)] (.tup [nA (sX (dotE x y x2 y2)),.v .nilIface]):=by
 have h:=tL tw h1 h2 h3 h4 he;have ew:∀z:Et ts,ae ts.length (sX z)=z:=fun z=>bf _ _
 rw[ew,ew,ew,ew]at h;exact h
theorem EE(h1:Bz e x)(h2:Bz e y)(h3:Bz f x2)(h4:Bz f y2):Nm ts.length (2*(e+f+kB r ts.length)+1) (sX (crsE x y x2 y2)) :=
 ((h1.mul tw (WZ _) h4).sub (h2.mul tw (WZ _) h3)).mono (by show e+f+kB r ts.length+(e+f+kB r ts.length)+1<=_;omega)
theorem uB(h1:Bz e x)(h2:Bz e y)(h3:Bz f x2)(h4:Bz f y2):Nm ts.length (2*(e+f+kB r ts.length)+1) (sX (dotE x y x2 y2)) :=
 ((h1.mul tw (WZ _) h3).add (h2.mul tw (WZ _) h4)).mono (by show e+f+kB r ts.length+(e+f+kB r ts.length)+1<=_;omega)
end
def mj(l:Li)(a:As)(g:Gr):List Rat:=if g.kind=0 then sh 0 ((1:Int):Rat)else sX (gq l a g)
section
variable{E:Nat}{l:Li}{a:As}(D:DyW l a)(h3:(llq a.rs).length<=2)
include D h3
theorem jT{body pt:Int}(h1:bt body l.bo.length=true)(h2:bt pt (cE l body).length=true)(hb:Pd E a body) :
  Nm (llq a.rs).length (3*E+2400002022) (sX (ba l a body pt).1)/\Nm (llq a.rs).length (3*E+2400002022) (sX (ba l a body pt).2):=by
 obtain⟨n,k,bd,m,b,hp⟩:=qf D.hl D.li D.al D.hc h1 h2 hb;obtain⟨tw,_⟩:=de D.al.tr D.hc;have kb:=oX h3;have c1:Qb 1000 m.x.q:=by rw[hp.mp.ex,co];exact hp.mp.sm.x
 have c2:Qb 1000 m.y.q:=by rw[hp.mp.ey,co];exact hp.mp.sm.y
 have h:=ua tw hp.ok c1 c2;unfold ba;rw[hp.eq];exact⟨h.1.mono oz,h.2.mono oz⟩
theorem nk{i:Nat}{j:Jt}(hj:l.jo[i]?=some j){b:Int}(h:PinP E l a j b) :
  Nm (llq a.rs).length (3*E+2400002022) (sX (aC l a j b).1)/\Nm (llq a.rs).length (3*E+2400002022) (sX (aC l a j b).2):=by
 obtain⟨i1,i2,i3,i4,_⟩:=cA D.li hj;unfold aC;rcases h.tie with⟨e,hb⟩ |⟨e,e2,hb⟩
 ·rw[XK e];exact jT D h3 i2 i4 hb
 ·rw[XJ e];exact jT D h3 i1 i3 hb
theorem vV{b:Int}(hb:Pd E a b){q:Rat×Rat}(hq:Sm 1000 q):Nm (llq a.rs).length (3*E+2400002022) (sX (iR a b q).1)/\Nm (llq a.rs).length (3*E+2400002022) (sX (iR a b q).2):=by
 obtain⟨p,hp,hn,hbn⟩:=hb;obtain⟨tw,_⟩:=de D.al.tr D.hc;have h5:a.rs.length<=5:=by have:=tw.five;rwa [mS]at this
 have h9:=(w9 hn hbn h5).2;rw[<- mS a.rs]at h9;have kb:=oX h3;have h:=BV tw h9 hq;unfold iR;rw[au hp];exact⟨h.1.mono oz,h.2.mono oz⟩
theorem ED(hE:E<=3200000000){b:Int}{p:Pl}(hp:a.bs[b.toNat]?=some p)(hn:bQ a.rs p.l=0)(hbn:∀x∈p.l,NR x E){q:Rat×Rat}(hq:Sm 1000 q) :
  FP 89 [.agg [.lst 1 (a.rs.map nR)],p.av,qA q.1,qA q.2] (.tup [aM (sX (iR a b q).1) (sX (iR a b q).2),.v .nilIface]):=by
 obtain⟨tw,hta⟩:=de D.al.tr D.hc;have h5:a.rs.length<=5:=by have:=tw.five;rwa [mS]at this
 obtain⟨e1,ok⟩:=w9 hn hbn h5;rw[<- mS a.rs]at ok;have kb:=oX h3;have hlm:=jN h3;have h:=uP tw (ok.c.mono (f:=E+1000) oz) (ok.s.mono oz) (ok.x.mono oz) (ok.y.mono oz) (hq.x.mono (f:=E+1000) oz) (hq.y.mono (f:=E+1000) oz) oz;rw[e1,<- lg D.al.tr D.hc];unfold iR;rw[au hp];exact h
end
theorem Sd{E:Nat}{l:Li}{a:As}(D:DyW l a)(h3:(llq a.rs).length<=2){k:Int}{n:Nat}{g:Gr}(ok:DyOk E l k a true n g):Nm (llq a.rs).length (24*E+21600016203) (mj l a g):=by
 obtain⟨tw,hta⟩:=de D.al.tr D.hc;have kb:=oX h3;unfold mj
 by_cases h0:g.kind=0
 ·rw[XK h0];exact(Nm.ofQ tw.five (Cb.int (z:=1) (e:=1) (by decide))).mono oz
 ·rw[XJ h0]
  by_cases h1:g.kind=1
  ·obtain⟨i,k2,z0,z1,z2,j0,j1,j2,P⟩:=ok.rrr h1;obtain⟨y1,y2⟩:=nk D h3 P.h0 P.p0;obtain⟨y3,y4⟩:=nk D h3 P.h1 P.p1;obtain⟨y5,y6⟩:=vV D h3 (ok.own (b:=i) (by rw[P.eq];simp)) (fQ D.hl D.li P.h2 P.t1);obtain⟨e0,e1,e2,b0,b1,_⟩:=P.at;unfold gq;rw[XJ h0,XK h1,e0,e1,e2,b0,b1];exact(EE tw (cz y3 y1) (cz y4 y2) (cz y5 y1) (cz y6 y2)).mono oz
  ·by_cases h2:g.kind=2
   ·obtain ⟨i, z0, z1, j0, j, P, ha, hb⟩:=ok.pr h2;obtain ⟨i1,i2,i3,i4,i5⟩:=cA D.li P.h1;have q2:Sm 1000 (aQ l i j.point):=by rw [<- ha]; exact jw D.hl D.li i1 i3
    obtain⟨y1,y2⟩:=nk D h3 P.h0 P.p0;obtain⟨y3,y4⟩:=jT D h3 i2 (i5 P.hk) hb;obtain⟨y7,y8⟩:=jT D h3 i2 i4 hb;obtain⟨y5,y6⟩:=vV D h3 (ok.own (b:=i) (by rw[P.eq];simp)) q2;obtain⟨e0,e1,b0,_⟩:=P.at;unfold gq;rw[XJ h0,XJ h1,XK h2,e0,e1,b0];exact(uB tw (cz y3 y7) (cz y4 y8) (cz y5 y1) (cz y6 y2)).mono oz
   ·obtain ⟨i, z0, z1, j0, j, P, _, hj, hb⟩:=ok.rp h0 h1 h2;obtain ⟨i1,i2,i3,i4,i5⟩:=cA D.li P.h1;have hpi:Pd E a j.b:=by rw [hj]; exact ok.own (b:=i) (by rw [P.eq]; simp)
    obtain⟨y1,y2⟩:=nk D h3 P.h0 P.p0;obtain⟨y3,y4⟩:=jT D h3 i1 i3 hb;obtain⟨y5,y6⟩:=jT D h3 i2 i4 hpi;obtain⟨y7,y8⟩:=jT D h3 i2 (i5 P.hk) hpi;obtain⟨e0,e1,b0,_⟩:=P.at;unfold gq;rw[XJ h0,XJ h1,XJ h2,e0,e1,b0];exact(uB tw (cz y7 y5) (cz y8 y6) (cz y3 y1) (cz y4 y2)).mono oz
theorem US{E:Nat}(hE:E<=3200000000){l:Li}{k:Int}{a:As}{n:Nat}{g:Gr}(hop:Con prog 63 [l.av,i64 k,a.av,bl true] [] (.tup [.ptr 900 0,.v .nilIface]) [(900,some (cf l g a))])(D:DyW l a)(h3:(llq a.rs).length<=2)(ok:DyOk E l k a true n g) :
  FP 27 [l.av,i64 k,a.av] (.tup [nA (mj l a g),.v .nilIface]):=by
 obtain⟨tw,hta⟩:=de D.al.tr D.hc;have kb:=oX h3;have hlm:=jN h3;have hgo:=ok.ok;have hbl:=D.al.bl;refine aj func27 ?_;refine gt (aE hop (.cons (.tmp rfl) (.cons (.tmp rfl) (.cons (.tmp rfl) (.cons (.const _) .nil)))) aH rfl rfl) ?_ (2,0);refine gW (Wk.o (sl:=[(5,some (.ptr 5 0)),(8,some (.ptr 900 0)),(9,some (.v .nilIface))]) (hp:=[(5,some (.box a.av.cells)),(900,some (cf l g a))])) ?_;refine gC (fun t30=>?_) (fun t30=>?_) (st1:=(3,0)) (st2:=(5,0));cases t30;refine gW (Wk.o (sl:=[(5,some (.ptr 5 0)),(8,some (.ptr 900 0)),(10,some (.ptr 35 0))]) (hp:=[(5,some (.box a.av.cells)),(900,some (cf l g a)),(35,some (dw a.rs))])) ?_ (10,0);refine B2 [8,10] [900,35] [(11,some (nA (sX (gq l a g))))] [] (g.kind≠0) ?_ ?_ 2
 ·intro K1 J1;refine gC (fun t79=>?_) (fun t79=>?_)
  ·have hk:g.kind=0:=cK t79;have hd:mj l a g=sh 0 ((1:Int):Rat):=XK hk;rw[hd];refine gc (Uu) ?_;refine gR ?_;exact kQ rfl
  have hk0:g.kind≠0:=dq t79;refine gC (fun t82=>?_) (fun t82=>?_)
  ·have hk:g.kind = 1:=cK t82;obtain ⟨i,k2,z0,z1,z2,j0,j1,j2,P⟩:=ok.rrr hk;obtain ⟨e0,e1,e2,b0,b1,_⟩:=P.at;have hE9:gq l a g = jr (aR (aC l a j1 k2) (aC l a j0 i)) (aR (iR a i (ao l j2 i)) (aC l a j0 i)):=by unfold gq; rw [XJ hk0,XK hk,e0,e1,e2,b0,b1]
   obtain rfl:=P.eq;have hi0:=(hgo.b i (by simp)).1;obtain⟨p,hp,hn,hbn⟩:=ok.own (b:=i) (by simp);have hil:=(List.getElem?_eq_some_iff.1 hp).1;have hq:=fQ D.hl D.li P.h2 P.t1;obtain⟨y1,y2⟩:=nk D h3 P.h0 P.p0;obtain⟨y3,y4⟩:=nk D h3 P.h1 P.p1;obtain⟨y5,y6⟩:=vV D h3 (ok.own (b:=i) (by simp)) hq;have s1:=o9 tw y3 y4 y1 y2 oz;have s2:=o9 tw y5 y6 y1 y2 oz;have s3:=Ua tw (cz y3 y1) (cz y4 y2) (cz y5 y1) (cz y6 y2) oz;rw[lg D.al.tr D.hc]at s1 s2 s3;refine gt (aE (Con.rB 900 rfl rfl rfl rfl (Iz D.hl D.li D.al D.hc h3 hgo P.h0 P.h1 P.h2 P.p0 P.p1 P.t1 P.t2)) (cC rfl) aH rfl rfl) ?_;refine gi (rfl) ?_;refine gi (f0 (n:=i.toNat) oz hp) ?_;refine gc (ED D h3 hE (b:=i) hp hn hbn hq) ?_;refine gt (aW (Con.rB 35 rfl rfl rfl rfl (lZ _ _ _)) (aJ rfl rfl rfl) rfl rfl rfl) ?_;refine gD ?_;refine gc s1 ?_;refine gt (aW (Con.rB 35 rfl rfl rfl rfl (lZ _ _ _)) (aJ rfl rfl rfl) rfl rfl rfl) ?_;refine gc s2 ?_;refine gt (aW (Con.rB 35 rfl rfl rfl rfl (lZ _ _ _)) (aJ rfl rfl rfl) rfl rfl rfl) ?_;refine gc s3 ?_;refine gt (aW (Con.rB 35 rfl rfl rfl rfl (nV _ _)) (aJ rfl rfl rfl) rfl rfl rfl) ?_;refine gD ?_;exact oA J1 hk0 (hw:=Wk.of (.cons rfl (Sub.of (congrArg (fun z=>nA (sX z)) hE9.symm)) (.k (.k .nil))) (.k (.k .nil)))
  have hk1:g.kind≠1:=dq t82;refine gC (fun t149=>?_) (fun t149=>?_)
  ·have hk:g.kind = 2:=cK t149;obtain ⟨i,z0,z1,j0,j,P,ha,hb⟩:=ok.pr hk;obtain ⟨e0,e1,b0,_⟩:=P.at;have hE9:gq l a g = dK (aR (ba l a j.b j.to) (ba l a j.b j.on)) (aR (iR a i (aQ l i j.point)) (aC l a j0 i)):=by unfold gq; rw [XJ hk0,XJ hk1,XK hk,e0,e1,b0]
   obtain rfl:=P.eq;obtain⟨i1,i2,i3,i4,i5⟩:=cA D.li P.h1;have hi0:=(hgo.b i (by simp)).1;obtain⟨p,hp,hn,hbn⟩:=ok.own (b:=i) (by simp);have hil:=(List.getElem?_eq_some_iff.1 hp).1;have hq:Sm 1000 (aQ l i j.point):=by rw[<- ha];exact jw D.hl D.li i1 i3
   obtain⟨y1,y2⟩:=nk D h3 P.h0 P.p0;obtain⟨y3,y4⟩:=jT D h3 i2 (i5 P.hk) hb;obtain⟨y7,y8⟩:=jT D h3 i2 i4 hb;obtain⟨y5,y6⟩:=vV D h3 (ok.own (b:=i) (by simp)) hq;have s1:=o9 tw y3 y4 y7 y8 oz;have s2:=o9 tw y5 y6 y1 y2 oz;have s3:=zp tw (cz y3 y7) (cz y4 y8) (cz y5 y1) (cz y6 y2) oz;rw[lg D.al.tr D.hc]at s1 s2 s3;refine gt (aE (Con.rB 900 rfl rfl rfl rfl (HS D.hl D.li D.al D.hc h3 hgo P.h0 P.h1 P.p0 ha P.hk hb)) (cC rfl) aH rfl rfl) ?_;refine gi (rfl) ?_;refine gi (f0 (n:=i.toNat) oz hp) ?_;refine gc (ED D h3 hE (b:=i) hp hn hbn hq) ?_;refine gt (aW (Con.rB 35 rfl rfl rfl rfl (lZ _ _ _)) (aJ rfl rfl rfl) rfl rfl rfl) ?_;refine gD ?_;refine gc s1 ?_;refine gt (aW (Con.rB 35 rfl rfl rfl rfl (lZ _ _ _)) (aJ rfl rfl rfl) rfl rfl rfl) ?_;refine gc s2 ?_;refine gt (aW (Con.rB 35 rfl rfl rfl rfl (lZ _ _ _)) (aJ rfl rfl rfl) rfl rfl rfl) ?_;refine gc s3 ?_;refine gt (aW (Con.rB 35 rfl rfl rfl rfl (nV _ _)) (aJ rfl rfl rfl) rfl rfl rfl) ?_;refine gD ?_;exact oA J1 hk0 (hw:=Wk.of (.cons rfl (Sub.of (congrArg (fun z=>nA (sX z)) hE9.symm)) (.k (.k .nil))) (.k (.k .nil)))
  have hk2:g.kind≠2:=dq t149;obtain⟨i,z0,z1,j0,j,P,ha,hj,hb⟩:=ok.rp hk0 hk1 hk2;obtain⟨e0,e1,b0,_⟩:=P.at;have hE9:gq l a g=dK (aR (ba l a j.b j.to) (ba l a j.b j.on)) (bS l a i j0 j):=by unfold gq;rw[XJ hk0,XJ hk1,XJ hk2,e0,e1,b0]
  obtain rfl:=P.eq;obtain⟨i1,i2,i3,i4,i5⟩:=cA D.li P.h1;have hpi:Pd E a j.b:=by rw[hj];exact ok.own (b:=i) (by simp)
  obtain⟨y1,y2⟩:=nk D h3 P.h0 P.p0;obtain⟨y5,y6⟩:=jT D h3 i1 i3 hb;obtain⟨y3,y4⟩:=jT D h3 i2 (i5 P.hk) hpi;obtain⟨y7,y8⟩:=jT D h3 i2 i4 hpi;have s0:=o9 tw y5 y6 y1 y2 oz;have sd:=zp tw (cz y5 y1) (cz y6 y2) (cz y5 y1) (cz y6 y2) oz;have s1:=o9 tw y3 y4 y7 y8 oz;have s3:=zp tw (cz y3 y7) (cz y4 y8) (cz y5 y1) (cz y6 y2) oz;rw[lg D.al.tr D.hc]at s0 sd s1 s3;refine gt (aW (Con.rB 900 rfl rfl rfl rfl (Ap D.hl _ hgo a rfl P.h1)) (cC rfl) rfl rfl rfl) ?_;refine gt (aE (Con.rekeyBB 900 35 (by decide) (by decide) rfl rfl rfl rfl rfl rfl (GN (E:=E) oz D h3 hgo P.h0 P.h1 P.p0 hj P.hk hb s0 sd)) (bD rfl rfl) aH rfl rfl) ?_;refine gt (aE (Con.rB 900 rfl rfl rfl rfl (oE (E:=E) D.hl D.li _ D.al D.hc i2 (i5 P.hk) oz h3 hpi)) (aJ rfl rfl rfl) aH rfl rfl) ?_;refine gt (aE (Con.rB 900 rfl rfl rfl rfl (oE (E:=E) D.hl D.li _ D.al D.hc i2 i4 oz h3 hpi)) (aJ rfl rfl rfl) aH rfl rfl) ?_;refine gc s1 ?_;refine gt (aW (Con.rB 35 rfl rfl rfl rfl (lZ _ _ _)) (aJ rfl rfl rfl) rfl rfl rfl) ?_;refine gD ?_;refine gc s3 ?_;refine gt (aW (Con.rB 35 rfl rfl rfl rfl (nV _ _)) (aJ rfl rfl rfl) rfl rfl rfl) ?_;refine gD ?_;exact oA J1 hk0 (hw:=Wk.of (.cons rfl (Sub.of (congrArg (fun z=>nA (sX z)) hE9.symm)) (.k (.k .nil))) (.k (.k .nil)))
 rintro hk9;rw[show mj l a g=sX (gq l a g)from XJ hk9];refine gC (fun t219=>?_) (fun t219=>?_) (st2:=(77777,0))
 ·refine gC (fun t231=>?_) (fun t231=>?_) (st1:=(23,0));cases t231;refine gR ?_;exact kQ rfl
 cases t219
def gE(l:Li)(a:Aq)(g:Gr):List Rat:=if g.kind=0 then sh 0 ((1:Int):Rat)else sX (cW l a.ts a.bs g)
theorem Am(l:Li)(a:Aq)(g:Gr):mj l a.as g=gE l a g:=by
 unfold mj gE;split
 ·rfl
 ·rw[JS]
  have:∀(T:LL)(bs:List Pq),T=a.ts->bs=a.bs->(sX (cW l T bs g):List Rat)=sX (cW l a.ts a.bs g):=by
   rintro _ _ rfl rfl;rfl
  exact this _ _ a.llq (kN a)
theorem Ku{l:Li}{a:Aq}{g:Gr}:T.sgn (ay a.ts) a.ts.length (ae a.ts.length (gE l a g))=ak (cW l a.ts a.bs g):=by
 unfold gE;split
 ·rename_i h;rw [fL];have e:cW l a.ts a.bs g = qE 1:=by unfold cW; rw [XK h]
  rw[e];rfl
 ·have e:ae a.ts.length (sX (cW l a.ts a.bs g))=cW l a.ts a.bs g:=bf _ _;rw[e];rfl
structure AqE(E:Nat)(l:Li)(a:Aq):Prop where
  s:AqS l a
  be:∀p∈a.bs,Pq.ok a.ts.length E p
  le:E<=3200000000
theorem AqS.e{l:Li}{a:Aq}(F:AqS l a):AqE 3200000000 l a:=⟨F,F.bs,WZ _⟩
section
variable{E:Nat}{l:Li}(hl:l.ok){a:Aq}(F:AqE E l a)(hs:splitE l=0){k:Nat}{g:Gr}(hg:(splitG l)[k]?=some g)
include hl F hs hg
theorem wk(own:Bool):DyW l a.as/\DyOk E l k a.as own k g/\(Lw.llq a.as.rs).length<=2/\fH l k a.as own=0:=by
 obtain⟨r,hr,tw⟩:=F.s.tw;have hE:=F.le;have Q:QInv l 2 r E a:=⟨tw,F.s.two,F.be,F.s.ln⟩
 have D:DyW l a.as:=⟨hl,F.s.li,Q.ab F.s.li oz hr,Q.chk⟩
 have h0:=Q.dy0 F.s.li hs hg own;obtain⟨i,g',h⟩:=uI (Q.sma oz (WZ _) k own) h0;have e:i=k:=by have:=h.hk;omega
 subst e;have h2:=h.hg;rw[hg]at h2;cases h2;exact⟨D,h,by rw[a.llq];exact F.s.two,h0⟩
theorem TP:Nm a.ts.length (24*E+21600016203) (gE l a g):=by
 obtain⟨D,ok,h3,_⟩:=wk hl F hs hg true;have h:=Sd D h3 ok;rw[Am,a.llq]at h;exact h
theorem Oa:FP 27 [l.av,i64 k,a.av] (.tup [nA (gE l a g),.v .nilIface]):=by
 obtain⟨D,ok,h3,h0⟩:=wk hl F hs hg true;have hop:=DU l hl k a.as D.al true;have hgA:ik l (k:Nat)=g:=au hg;rw[h0,hgA]at hop;have h:=US F.le hop D h3 ok;rw[Aq.as_av,Am]at h;exact h
end
section
variable{l:Li}(hl:l.ok){a:Aq}(F:AqS l a)(hs:splitE l=0){k:Nat}{g:Gr}(hg:(splitG l)[k]?=some g)
include hl F hs hg
theorem P3:Nm a.ts.length 99300000000 (gE l a g):=(TP hl F.e hs hg).mono oz
theorem Gj:FP 27 [l.av,i64 k,a.av] (.tup [nA (gE l a g),.v .nilIface]):=Oa hl F.e hs hg
theorem Dl:FP 116 [aV a.ts,nA (gE l a g)] (.tup [i64 (ak (cW l a.ts a.bs g)),.v .nilIface]):=by
 obtain⟨r,hr,tw⟩:=F.tw;have hlm:=jN F.two;have h:=qR tw (P3 hl F hs hg) oz;rw[Ku]at h;exact h
end
theorem RZ{l:Li}{xs:List Tn}{a:Aq}(F:AqFin l xs a):ko l xs=0:=Jl F.li F.lx (fun x hx=>(F.xo x hx).1)
theorem KI{l:Li}{xs:List Tn}{a:Aq}(F:AqFin l xs a):jm l xs a=(0,0):=by
 have f1:cB a.bs.length (fun i=>od a.ts i (a.bs.getD i bc))=none:=fO (fun i hi=>by
  have hc:=F.cs i (by rw[<- F.ln];exact hi);unfold od;rw[PG hc,Bool.true_and]
  by_cases h0:i=0
  ·subst h0;rw[F.fr,LI];simp
  ·rw[decide_eq_true (by omega:0<i)];rfl)
 have f2:cB l.jo.length (fun i=>lU l a (l.jo.getD i default))=none:=fO (fun i hi=>by
  obtain⟨j,hj⟩:=ax hi;rw[au hj];exact V3 (F.js j (WU hj)))
 have f3:cB l.dv.length (nZ l xs a)=none:=fO (fun i hi=>by
  obtain⟨d,hd⟩:=ax hi;have h:=F.dr i d hd;unfold nZ wU;rw[au hd,fL,fL];rw[show ae a.ts.length (a.bs.getD d.body.toNat bc).c=T.ofQ a.ts.length (dF (xs.getD i dx).half (xs.getD i dx).t.q)from h.1,show ae a.ts.length (a.bs.getD d.body.toNat bc).s=T.ofQ a.ts.length (dD (xs.getD i dx).half (xs.getD i dx).t.q)from h.2,wJ,wJ];rfl)
 unfold jm;rw[f1,f2,f3]
section
variable{l:Li}{xs:List Tn}{s g:Nat}(W:WkC l xs s g)
include W
end
section
variable{l:Li}{xs:List Tn}{s g:Nat}(W:WkC l xs s g)
include W
end
theorem Kd{l:Li}(hl:l.ok){xs:List Tn}{a:Aq}(F:AqFin l xs a)(hxl:xs.length<=281474976710656):FP 37 [l.av,.lst 4 (xs.map Tn.av),a.av] (.tup [bl true,B3 (0,0),bq 0]):=by
 have hv:=LZ hl F.s xs (fun x hx=>⟨(F.xo x hx).2.2,(F.xo x hx).2.1⟩) hxl;rw[RZ F,XK rfl,KI F]at hv;exact hv
theorem Ri{l:Li}(hl:l.ok)(h1:aG l=0)(h2:splitE l=0):FP 143 [l.av] (.tup [.lst 4 ((splitG l).map Gr.av),bq 0]):=by
 have h:=xM l hl;rw[XK h1,XK h1,h2]at h;exact h
structure AqM0(l:Li)(a:Aq):Prop where
  sp:splitE l=0
  ml:a.ms.length=(splitG l).length
structure AqSg(l:Li)(a:Aq):Prop extends AqM0 l a where
  sg:∀m g,m<a.ms.length->(splitG l)[m]?=some g->ak (cW l a.ts a.bs g)=a.ms.getD m 0
theorem QE{l:Li}{a:Aq}(M:AqMd l a):AqSg l a:=⟨⟨M.sp,M.ml⟩,fun m g h hg=>M.md m g h hg⟩
open Lean.Grind (CommRing)
theorem Bk{ts:LL}{r:Nat}(hr:r<=60000000)(h2:ts.length<=2):kB r ts.length<=180000006:=by
 have h9:=gO r h2;have h8:=r4 hr 2;have h7:eB 60000000 2=180000006:=by decide
 show eB r _<=_;omega
theorem Ql{l:Li}(hl:aG l=0)(hs:splitE l=0){m:Nat}{g:Gr}(hg:(splitG l)[m]?=some g){b:Int}(hb:b∈cF l g false)(h0:0<=b):kn (eI l (splitG l) m) b=true:=by
 obtain⟨_,ok⟩:=jK hl (WU hg);have N:=oG hl hs hg;unfold cF at hb;rw[XJ (by decide),append_nil]at hb;unfold fJ at hb;obtain⟨z,hz,rfl⟩:=List.mem_map.1 hb;obtain⟨z0,z1⟩:=ok.j z hz;obtain⟨j,hj⟩:=ax (l:=l.jo) (i:=z.toNat) oz;obtain⟨na,nb⟩:=N.j z hz j hj;rw[au hj]at h0 ⊢;unfold iw at h0 ⊢;split at h0
 ·rename_i h1;rw[XK h1];split at h0
  ·omega
  ·rename_i h2;rw[XJ h2];rcases nb with h |h
   ·exact absurd (List.contains_iff_mem.2 h) h2
   ·exact h
 ·rename_i h1;rw[XJ h1];rcases na with h |h
  ·exact absurd (List.contains_iff_mem.2 h) h1
  ·exact h
def uX(l:Li)(a:Aq):Prop:=∀m g,m<a.ms.length->(splitG l)[m]?=some g->g.kind≠0->∀b∈cF l g false,0<=b->Pq.ok a.ts.length 3900000 (a.bs.getD b.toNat bc)
section
variable{l:Li}{xs:List Tn}{s g:Nat}(W:WkC l xs s g){gr:Gr}{a:Aq}(hg:(splitG l)[a.ms.length]?=some gr)
variable{j r E:Nat}(Q:QInv l j r E a)
include W hg Q
theorem Mz{n y:Nat}(okz:ek s g (n+1) y j r E=true)(hy:gr.kind≠0->0<y)(H:uX l a){sv:Sv}(hs:sv∈ez l a.as gr (bZ gr xs)):uX l (a.nxt gr sv):=by
 have tw:=QInv.twl W hg Q;have hq:(Lw.llq a.as.rs)=a.ts:=a.llq;obtain⟨dy,ok⟩:=W.grp hg
 have hN:∀p∈aK a.as,Nq (Lw.llq a.as.rs).length p:=by
  intro p hp;rw[kN]at hp;rw[hq];exact(Q.bs p hp).nq
 have D:=HE tw hN dy (fun b hb=>by
  rw[kN];have:=ok.b b hb;have:=Q.ln;omega) W.li hs
 have L:Lf a.ts sv.ts:=B6 hq D.lf;obtain⟨y',j',r',E',ok',ey,hQ⟩:=D9 W hg Q okz hy;have h5:sv.ts.length<=5:=(hQ sv hs).tw.five;have hml:(a.nxt gr sv).ms.length=a.ms.length+1:=by show(a.ms++[sv.mode]).length=_;simp
 intro m g2 hm hg2 hk2 b hb h0;rw[hml]at hm;have hkn:=Ql W.li W.sp hg2 hb h0;show Pq.ok sv.ts.length 3900000 ((a5 a.bs gr.bo sv.ps).getD b.toNat bc)
 by_cases e:m=a.ms.length
 ·subst e;rw [hg] at hg2;cases hg2;have N:=oG W.li W.sp hg;have hb2:b ∉ gr.bo:=fun hb=>by rw [N.b b hb] at hkn; cases hkn
  rw[AT (fun x hx=>(ok.b x hx).1) hb2 h0];obtain⟨z,rfl⟩:∃z,y=z+1:=⟨y-1,by have:=hy hk2;omega⟩
  obtain⟨⟨_,hE,_⟩,_⟩:=q7 okz;have h1:=v8 W.li ok b hb;obtain⟨p,hp⟩:=ax (l:=a.bs) (i:=b.toNat) (by have:=Q.ln;omega);rw[au hp];exact(Q.bs p (WU hp)).up L.len h5 hE
 ·have hlt : m < a.ms.length := by omega
  have S:=Dg W hg Q sv.ps m g2 hlt hg2 b h0 (.inr hkn);rw[S.1];exact(H m g2 hlt hg2 hk2 b hb h0).up L.len h5 (WZ _)
end
theorem Ew{l:Li}{xs:List Tn}{s g:Nat}(W:WkC l xs s g){F:Nat->Int->Bool}{sg:Bool}:∀(n:Nat)(a:Aq),WkSt l s g n a->uX l a->∀b∈(fM F sg l xs (splitG l) n a).1,WkSt l s g 0 b/\uX l b
 |0,a,h,H,b,hb=>by rw[List.mem_singleton.1 hb];exact⟨h,H⟩
 |n+1,a,h,H,b,hb=>by
  obtain⟨gr,hg,_,hP,hn⟩:=h.next W;obtain⟨⟨j,r,E,y,Q,ok,hc⟩,hl⟩:=h
  have hy:gr.kind≠0->0<y:=fun hk=>by
   have hdr:=p6 hg;rw[hdr,List.countP_cons]at hc;have:kz gr=true:=decide_eq_true hk;rw[XK this]at hc;omega
  unfold fM at hb;rw[au hg]at hb;split at hb
  ·cases hb
  ·obtain⟨sv,hsv,h2⟩:=BA hb;exact Ew W n _ (hn sv hsv) (Mz W hg Q ok hy H hsv) b h2
structure AqD(l:Li)(a:Aq):Prop where
  tw:∃r,r<=60000000/\Tw a.ts r
  an:∀(m:Nat)(g:Gr),(splitG l)[m]?=some g->g.kind≠0->∀b∈cF l g false,0<=b->Pq.ok a.ts.length 3900000 (a.bs.getD b.toNat bc)
theorem Sq{l:Li}(hl:l.ok){xs:List Tn}(hL:iG l xs=true)(hxw:∀x∈xs,x.t.wok){A:List Aq}{e:Nat}(h:hO l xs=(A,e)):∀a∈A,AqD l a:=by
 by_cases h0:cI l xs=0
 ·obtain⟨s,g,W,St⟩:=tX hL hl hxw h0;have hw:=Ew W (F:=gI) (sg:=false) (splitG l).length (eG l) St (fun m g h=>absurd h (Nat.not_lt_zero _));unfold hO at h;rw[XJ (fun h=>h h0)]at h;intro a ha;split at h
  ·cases h;cases ha
  ·have e1:(lh gI false l xs).1=A:=congrArg Prod.fst h;rw[<- e1]at ha;obtain⟨h1,h2⟩:=hw a ha;obtain⟨⟨j,r,E,y,Q,ok,hc⟩,hln⟩:=h1;obtain⟨_,hr,_⟩:=uO ok;refine⟨⟨r,hr,Q.tw⟩,fun m g hg hk b hb hb0=>h2 m g ?_ hg hk b hb hb0⟩;have:=(List.getElem?_eq_some_iff.1 hg).1;omega
 ·unfold hO at h;rw[XK h0]at h;cases h;intro a ha;cases ha
section
variable{E r:Nat}{l:Li}{a:As}(D:DyW l a)(tw:Tw (llq a.rs) r)(hK:kB r (llq a.rs).length<=180000006)
include D tw hK
theorem nN{body pt:Int}(h1:bt body l.bo.length=true)(h2:bt pt (cE l body).length=true)(hb:Pd E a body) :
  Nm (llq a.rs).length (3*E+360002022) (sX (ba l a body pt).1)/\Nm (llq a.rs).length (3*E+360002022) (sX (ba l a body pt).2):=by
 obtain⟨n,k,bd,m,b,hp⟩:=qf D.hl D.li D.al D.hc h1 h2 hb;have c1:Qb 1000 m.x.q:=by rw[hp.mp.ex,co];exact hp.mp.sm.x
 have c2:Qb 1000 m.y.q:=by rw[hp.mp.ey,co];exact hp.mp.sm.y
 have h:=ua tw hp.ok c1 c2;unfold ba;rw[hp.eq];exact⟨h.1.mono oz,h.2.mono oz⟩
theorem xt{i:Nat}{j:Jt}(hj:l.jo[i]?=some j){b:Int}(h:PinP E l a j b) :
  Nm (llq a.rs).length (3*E+360002022) (sX (aC l a j b).1)/\Nm (llq a.rs).length (3*E+360002022) (sX (aC l a j b).2):=by
 obtain⟨i1,i2,i3,i4,_⟩:=cA D.li hj;unfold aC;rcases h.tie with⟨e,hb⟩ |⟨e,e2,hb⟩
 ·rw[XK e];exact nN D tw hK i2 i4 hb
 ·rw[XJ e];exact nN D tw hK i1 i3 hb
theorem Dw{b:Int}(hb:Pd E a b){q:Rat×Rat}(hq:Sm 1000 q):Nm (llq a.rs).length (3*E+360002022) (sX (iR a b q).1)/\Nm (llq a.rs).length (3*E+360002022) (sX (iR a b q).2):=by
 have _:=D;obtain⟨p,hp,hn,hbn⟩:=hb;have h5:a.rs.length<=5:=by have:=tw.five;rwa [mS]at this
 have h9:=(w9 hn hbn h5).2;rw[<- mS a.rs]at h9;have h:=BV tw h9 hq;unfold iR;rw[au hp];exact⟨h.1.mono oz,h.2.mono oz⟩
end
theorem N7{E E' r:Nat}(hE:E<=3200000000)(hE':E'<=3900000){l:Li}{a:As}(D:DyW l a)(tw:Tw (llq a.rs) r)(hK:kB r (llq a.rs).length<=180000006){k:Int}{n:Nat}{g:Gr}(ok:DyOk E l k a true n g)(ok2:g.kind≠0->DyOk E' l k a false n g):Nm (llq a.rs).length 41700000000 (mj l a g):=by
 unfold mj
 by_cases h0:g.kind=0
 ·rw[XK h0];exact(Nm.ofQ tw.five (Cb.int (z:=1) (e:=1) (by decide))).mono oz
 ·rw[XJ h0];have ok2:=ok2 h0
  by_cases h1:g.kind=1
  ·obtain⟨i,k2,z0,z1,z2,j0,j1,j2,P⟩:=ok2.rrr h1;obtain⟨y1,y2⟩:=xt D tw hK P.h0 P.p0;obtain⟨y3,y4⟩:=xt D tw hK P.h1 P.p1;obtain⟨y5,y6⟩:=Dw D tw hK (ok.own (b:=i) (by rw[P.eq];simp)) (fQ D.hl D.li P.h2 P.t1);obtain⟨e0,e1,e2,b0,b1,_⟩:=P.at;unfold gq;rw[XJ h0,XK h1,e0,e1,e2,b0,b1];exact(EE tw (cz y3 y1) (cz y4 y2) (cz y5 y1) (cz y6 y2)).mono oz
  ·by_cases h2:g.kind=2
   ·obtain ⟨i, z0, z1, j0, j, P, ha, hb⟩:=ok2.pr h2;obtain ⟨i1,i2,i3,i4,i5⟩:=cA D.li P.h1;have q2:Sm 1000 (aQ l i j.point):=by rw [<- ha]; exact jw D.hl D.li i1 i3
    obtain⟨y1,y2⟩:=xt D tw hK P.h0 P.p0;obtain⟨y3,y4⟩:=nN D tw hK i2 (i5 P.hk) hb;obtain⟨y7,y8⟩:=nN D tw hK i2 i4 hb;obtain⟨y5,y6⟩:=Dw D tw hK (ok.own (b:=i) (by rw[P.eq];simp)) q2;obtain⟨e0,e1,b0,_⟩:=P.at;unfold gq;rw[XJ h0,XJ h1,XK h2,e0,e1,b0];exact(uB tw (cz y3 y7) (cz y4 y8) (cz y5 y1) (cz y6 y2)).mono oz
   ·obtain ⟨i, z0, z1, j0, j, P, _, hj, hb⟩:=ok2.rp h0 h1 h2;obtain ⟨i1,i2,i3,i4,i5⟩:=cA D.li P.h1;have hpi:Pd E a j.b:=by rw [hj]; exact ok.own (b:=i) (by rw [P.eq]; simp)
    obtain⟨y1,y2⟩:=xt D tw hK P.h0 P.p0;obtain⟨y3,y4⟩:=nN D tw hK i1 i3 hb;obtain⟨y5,y6⟩:=nN D tw hK i2 i4 hpi;obtain⟨y7,y8⟩:=nN D tw hK i2 (i5 P.hk) hpi;obtain⟨e0,e1,b0,_⟩:=P.at;unfold gq;rw[XJ h0,XJ h1,XJ h2,e0,e1,b0];exact(uB tw (cz y7 y5) (cz y8 y6) (cz y3 y1) (cz y4 y2)).mono oz
theorem QD{l:Li}(hl:l.ok){a:Aq}(F:AqS l a)(DD:AqD l a)(hs:splitE l=0){k:Nat}{g:Gr}(hg:(splitG l)[k]?=some g)(h0:g.kind≠0):DyOk 3900000 l k a.as false k g:=by
 obtain⟨_,_,_,hd⟩:=wk hl F.e hs hg false;have hgA:ik l (k:Nat)=g:=au hg
 have hS:ta 3900000 l (k:Nat) a.as false:=by
  intro b hb hb0 p hp x hx;rw[hgA]at hb;have h1:=DD.an k g hg h0 b hb hb0;have hp2:(a.bs.map Pq.pl)[b.toNat]?=some p:=hp;rw[W0,WX]at hp2;obtain⟨q,hq,rfl⟩:=hp2;rw[au hq]at h1;exact h1.nr (by have:=jY a.ts.length;omega) x hx
 obtain⟨i,g',h⟩:=uI hS hd;have e:i=k:=by have:=h.hk;omega
 subst e;have h2:=h.hg;rw[hg]at h2;cases h2;exact h
theorem Cm{l:Li}(hl:l.ok){a:Aq}(F:AqS l a)(DD:AqD l a)(hs:splitE l=0){k:Nat}{g:Gr}(hg:(splitG l)[k]?=some g):Nm a.ts.length 41700000000 (gE l a g):=by
 obtain⟨D,ok,h3,_⟩:=wk hl F.e hs hg true;obtain⟨r,hr,tw⟩:=DD.tw;have tw2:Tw (llq a.as.rs) r:=by rw[a.llq];exact tw
 have h:=N7 (WZ _) (WZ _) D tw2 (by rw[a.llq];exact Bk hr F.two) ok (fun h0=>QD hl F DD hs hg h0);rw[Am,a.llq]at h;exact h
end Go.Lw
namespace Go.Lw
open Go.Proofs
def Wa(ts:LL)(a b c d p q:T ts.length):T ts.length:=mZ ts (subT ts a p) (subT ts b q) (subT ts c p) (subT ts d q)
def xZ(ts:LL)(a b c d p q:T ts.length):Bool:=decide (T.sgn (ay ts) ts.length (qe ts a b c d p q)=0)&&decide (T.sgn (ay ts) ts.length (Wa ts a b c d p q)<=0)
theorem My(x y:Int):cond (aa .eql x 0) (aa .leq y 0) false=(decide (x=0)&&decide (y<=0)):=by
 by_cases h:x=0 <;> by_cases h2:y<=0 <;> simp[aa,h,h2]
theorem SB(x y:Int):cond (cond (aa .eql x 0) (aa .leq y 0) false) (eF Value.nilIface) false=(decide (x=0)&&decide (y<=0)):=by
 rw[My];cases(decide (x=0)&&decide (y<=0)) <;> rfl
theorem Kg{ts:LL}{r e:Nat}(tw:Tw ts r){a b c d p q:List Rat}(ha:Nm ts.length e a)(hb:Nm ts.length e b)(hc:Nm ts.length e c)(hd:Nm ts.length e d)(hp:Nm ts.length e p)(hq:Nm ts.length e q)
  (he:16*e+20+4*kB r ts.length<=lm ts.length) :
  FP 242 [aV ts,aM a b,aM c d,aM p q] (.tup [bl (xZ ts (ae ts.length a) (ae ts.length b) (ae ts.length c) (ae ts.length d) (ae ts.length p) (ae ts.length q)),.v .nilIface]):=by
 have ho:=Hj tw ha hb hc hd hp hq;have s1:=ha.sub hp;have s2:=hb.sub hq;have s3:=hc.sub hp;have s4:=hd.sub hq;have hD:=zO tw s1 s2 s3 s4 oz;have hN:=uS tw s1 s2 s3 s4;simp only[bf]at hD hN;refine aj func242 ?_;refine gc (mI (e:=e) tw [(a,b),(c,d),(p,q)] (by simp only[Xu,Xf,or_false];rintro x (rfl |rfl |rfl);exact⟨ha,hb⟩;exact⟨hc,hd⟩;exact⟨hp,hq⟩) oz (by simp)) ?_;refine gC (fun t24=>?_) (fun t24=>?_) (st1:=(3,0));cases t24;refine gt (aE (Con.rB 28 rfl rfl rfl rfl (Jo tw ha hb hc hd hp hq oz)) (.cons (.tmp rfl) (.cons (.tmp rfl) (.cons (.tmp rfl) (.cons (.tmp rfl) .nil)))) aH rfl rfl) ?_;refine gt (aW (Con.rB 28 rfl rfl rfl rfl (pj tw ha hb hp hq oz)) (aJ rfl rfl rfl) rfl rfl rfl) ?_;refine gt (aW (Con.rB 28 rfl rfl rfl rfl (pj tw hc hd hp hq oz)) (aJ rfl rfl rfl) rfl rfl rfl) ?_;refine gt (aW (Con.rB 28 rfl rfl rfl rfl hD) (aJ rfl rfl rfl) rfl rfl rfl) ?_;refine gt (aW (Con.rB 28 rfl rfl rfl rfl (vh _ _)) (bD rfl rfl) rfl rfl rfl) ?_;refine gD ?_;refine gC (fun t50=>?_) (fun t50=>?_) (st1:=(8,0));cases t50;refine gc (qR tw ho oz) ?_;refine gC (fun t59=>?_) (fun t59=>?_) (st1:=(11,0));cases t59;refine gc (qR tw hN oz) ?_;refine br ?_;rw[bf,bf];exact congrArg (fun z=>AV.tup [bl z,.v .nilIface]) (SB _ _)
theorem zT{l:Li}(hl:l.ok){xs:List Tn}{a:Aq}(F:AqFin l xs a)(hs:splitE l=0)(hxl:xs.length<=281474976710656) :
  FP 125 [l.av,.lst 4 (xs.map Tn.av),a.av] (.tup [.lst 4 ((splitG l).map Gr.av),.v .nilIface]):=by
 have z0:eF (iY 0)=true:=rfl;refine aj func125 ?_;refine gc (Ri hl F.li hs) ?_;refine gC (fun t18=>?_) (fun t18=>?_) (st1:=(3,0));cases t18;refine gc (Kd hl F hxl) ?_;refine gC (fun t28=>?_) (fun t28=>?_) (st1:=(6,0));cases t28;refine gC (fun t32=>?_) (fun t32=>?_) (st1:=(8,0));cases t32;refine br ?_;rfl
def kf(l:Li)(a:Aq)(g:Gr):AV:=nA (gE l a g)
theorem Hw{l:Li}(hl:l.ok){xs:List Tn}{a:Aq}(F:AqFin l xs a)(hs:splitE l=0) :
  FP 126 [l.av,i64 (splitG l).length,a.av] (.tup [.lst 1 ((splitG l).map (kf l a)),.v .nilIface]):=by
 have hgl:=pW F.li;refine aj func126 ?_;refine gW (Wk.virt 900 1 rfl) ?_;refine aZ [3,5,12] [3,5] (fun(i:Nat)=>[(8,some (.ms 900 1 0 i)),(13,some (i64 i))]) (fun i=>[(900,some (.row 1 (((splitG l).take i).map (kf l a))))]) (fun i=>i<=(splitG l).length) (fun i=>(splitG l).length-i) 0 (W7 _) ?_;rintro i hi K1 J1;refine gC (fun t14=>?_) (fun t14=>?_) (st2:=(10,0))
 ·have hin:i<(splitG l).length:=a6 t14;obtain⟨g,hg⟩:=ax hin;refine gc (Gj hl F.s hs hg) ?_;refine gC (fun t24=>?_) (fun t24=>?_) (st1:=(7,0));cases t24;refine gs (cO (.tmp rfl) rfl (Hc oz).symm (.tmp rfl) T35 rfl T67 rfl rfl (by simp only[W9,Xi];omega) rfl rfl) ?_ (9,0);refine gW (Wk.of (sl:=[(3,some (.ptr 3 0)),(5,some (.ptr 5 0)),(8,some (.ms 29 1 0 (i+1))),(12,some (i64 (splitG l).length)),(13,some (i64 i))]) (hp:=[(3,some (.box l.av.cells)),(5,some (.box a.cs)),(29,some (.row 1 (((splitG l).take (i+1)).map (kf l a))))]) a8 (.k (.k (.cons rfl (BlkSub.of (by rw[eA hg,Xl];rfl)) .nil)))) ?_ (9,0);refine gW (Wk.rk (k:=29) (d:=900) rfl rfl) ?_;refine ga aO ?_;exact aP J1 (i+1) hin
 have hin:=bi hi t14;subst hin;refine gW ((Wk.freeze (k:=900) rfl).trans<|Wk.of (sl:=[(8,some (.lst 1 ((splitG l).map (kf l a))))]) (hp:=[]) (.cons rfl (Sub.of (by rw[bV (Hc (WZ _)).symm,Xg])) .nil) .nil) ?_;refine br ?_
 first |rfl |(simp;done)
theorem QZ{l:Li}(hl:l.ok){xs:List Tn}{a:Aq}(F:AqFin l xs a)(hs:splitE l=0)(hxl:xs.length<=281474976710656) :
  FP 129 [l.av,.lst 4 (xs.map Tn.av),a.av] (.tup [.lst 1 ((splitG l).map (kf l a)),.v .nilIface]):=by
 have hgl:=pW F.li;refine aj func129 ?_;refine gc (zT hl F hs hxl) ?_;refine gC (fun t18=>?_) (fun t18=>?_) (st1:=(3,0));cases t18;refine gl ?_;refine gc (Hw hl F hs) ?_;refine br ?_
 first |rfl |(simp;done)
def dI(ms:List Int)(n:Nat):List Int:=((List.range n).filter fun k=>decide (ms.getD k 0=0)).map Int.ofNat
theorem Av{ms:List Int}{n:Nat}(h:ms.getD n 0=0):dI ms (n+1)=dI ms n++[(n:Int)]:=by
 unfold dI;rw[List.range_succ,List.filter_append,Xl]
 congr 1;rw[List.filter_cons,XK (decide_eq_true h)];rfl
theorem xX{ms:List Int}{n:Nat}(h:ms.getD n 0≠0):dI ms (n+1)=dI ms n:=by
 unfold dI;rw[List.range_succ,List.filter_append,Xl]
 have e:List.filter (fun k=>decide (ms.getD k 0=0)) [n]=[]:=by rw[List.filter_cons,XJ (by rw[decide_eq_false h];decide)];rfl
 rw[e];exact append_nil _
theorem Hv(ms:List Int)(n:Nat):(dI ms n).length<=n:=by
 unfold dI;rw[WW];exact Xj (List.length_filter_le _ _) (by simp)
theorem CI{l:Li}(hl:l.ok){xs:List Tn}{a:Aq}(F:AqFin l xs a)(M:AqSg l a)(hxl:xs.length<=281474976710656) :
  FP 52 [l.av,.lst 4 (xs.map Tn.av),a.av] (.tup [.lst 1 ((dI a.ms (splitG l).length).map i64),.v .nilIface]):=by
 have hgl:=pW F.li;have hml:=M.ml;refine aj func52 ?_;refine gc (QZ hl F M.sp hxl) ?_;refine gC (fun t23=>?_) (fun t23=>?_) (st1:=(3,0));cases t23;refine gl ?_;refine gW (Wk.virt 900 1 rfl) ?_;refine aZ [5,25,26] [5] (fun(i:Nat)=>[(10,some (.ms 900 1 0 (dI a.ms i).length)),(27,some (i64 i))]) (fun i=>[(900,some (.row 1 ((dI a.ms i).map i64)))]) (fun i=>i<=(splitG l).length) (fun i=>(splitG l).length-i) 0 (W7 _) ?_;rintro i hi K1 J1;refine gC (fun t28=>?_) (fun t28=>?_) (st2:=(14,0))
 ·have hin:i<(splitG l).length:=a6 t28;obtain⟨g,hg⟩:=ax hin;have hsl:=Hv a.ms i;have hsn:=Dl hl F.s M.sp hg;rw[M.sg i g oz hg]at hsn;refine gi (aI hg) ?_;refine gc hsn ?_;refine gC (fun t40=>?_) (fun t40=>?_) (st1:=(10,0));cases t40;refine gC (fun t43=>?_) (fun t43=>?_) (st2:=(77777,0))
  ·have hz:a.ms.getD i 0 = 0:=of_decide_eq_true t43;refine gs (cO (.tmp rfl) rfl (by simp) (.tmp rfl) T39 rfl T3 rfl rfl (by simp only [W9,Xi]; omega) rfl rfl) ?_ (13,0);refine gW (Wk.of (sl:=[(5,some (.ptr 5 0)),(10,some (.ms 47 1 0 (dI a.ms (i + 1)).length)),(25,some (.lst 1 ((splitG l).map (kf l a)))),(26,some (i64 (splitG l).length)),(27,some (i64 i))]) (hp:=[(5,some (.box a.cs)),(47,some (.row 1 ((dI a.ms (i + 1)).map i64)))]) (.k (.cons rfl (Sub.of (by rw [Av hz]; simp)) (.k (.k (.k .nil))))) (.k (.cons rfl (BlkSub.of (by rw [Av hz]; simp)) .nil))) ?_ (13,0)
   refine gW (Wk.rk (k:=47) (d:=900) rfl rfl) ?_;refine ga aO ?_;exact aP J1 (i+1) hin
  have hz:a.ms.getD i 0≠0:=of_decide_eq_false t43;refine gW (Wk.of (sl:=[(5,some (.ptr 5 0)),(10,some (.ms 900 1 0 (dI a.ms (i+1)).length)),(25,some (.lst 1 ((splitG l).map (kf l a)))),(26,some (i64 (splitG l).length)),(27,some (i64 i))]) (hp:=[(5,some (.box a.cs)),(900,some (.row 1 ((dI a.ms (i+1)).map i64)))]) (.k (.cons rfl (Sub.of (by rw[xX hz])) (.k (.k (.k .nil))))) (.k (.cons rfl (BlkSub.of (by rw[xX hz])) .nil))) ?_;refine ga aO ?_;exact aP J1 (i+1) hin
 have hin:=bi hi t28;subst hin;refine gW ((Wk.freeze (k:=900) rfl).trans<|Wk.of (sl:=[(10,some (.lst 1 ((dI a.ms (splitG l).length).map i64)))]) (hp:=[]) (.cons rfl (Sub.of (by rw[bV (by simp)])) .nil) .nil) ?_;refine br ?_
 first |rfl |(simp;done)
theorem UK{l:Li}(hl:l.ok){a:Aq}(F:AqS l a){body pt:Int}(h1:bt body l.bo.length=true)(h2:bt pt (cE l body).length=true) :
  FP 241 [l.av,a.av,i64 body,i64 pt] (.tup [aM (sX (aX l a.ts a.bs body pt).1) (sX (aX l a.ts a.bs body pt).2),.v .nilIface]):=by
 obtain⟨n,k,bd,m,h⟩:=oP hl F.li h1 h2;obtain⟨r,hr,tw⟩:=F.tw;have hkb:=pH hr F.two;have hlm:=jN F.two;have hlb:=(cU F.li).2.2.2.1;obtain⟨p,hp⟩:=ax (l:=a.bs) (i:=n) (by rw[F.ln];exact(List.getElem?_eq_some_iff.1 h.gbd).1);have po:=F.bs p (WU hp);have hn:=h.hn;have hk:=h.hk
 have e:aX l a.ts a.bs body pt=bR a.ts p (aQ l body pt):=by
  unfold aX;rw[hn,Xk,au hp]
 have hat:FP 89 [aV a.ts,p.av,m.x.av,m.y.av] (.tup [aM (sX (aX l a.ts a.bs body pt).1) (sX (aX l a.ts a.bs body pt).2),.v .nilIface]):=by
  rw[h.ex,h.ey,e];exact uP tw po.c po.s po.x po.y (h.sm.x.mono oz) (h.sm.y.mono oz) oz
 have gb:=h.gbd;have gm:=h.gm;clear h h1 h2 e;subst hn;subst hk;refine aj func241 ?_;refine gi (aI gb) ?_;refine gi (aI gm) ?_;refine gi (aI hp) ?_;refine gc hat ?_;refine gD ?_;refine br ?_
 first |rfl |(simp;done)
def dV(l:Li)(a:Aq)(z:Int):Et a.ts×Et a.ts:=aX l a.ts a.bs (l.jo.getD z.toNat default).a (l.jo.getD z.toNat default).point
def oo(l:Li)(a:Aq)(zs:List Int):Bool :=
  xZ a.ts (dV l a (zs.getD 0 0)).1 (dV l a (zs.getD 0 0)).2 (dV l a (zs.getD 1 0)).1 (dV l a (zs.getD 1 0)).2 (dV l a (zs.getD 2 0)).1 (dV l a (zs.getD 2 0)).2
def xY(l:Li)(a:Aq)(zs:List Int)(i k:Nat):List Rat:=if k<i then sX (dV l a (zs.getD k 0)).1 else[]
def z7(l:Li)(a:Aq)(zs:List Int)(i k:Nat):List Rat:=if k<i then sX (dV l a (zs.getD k 0)).2 else[]
abbrev vn(l:Li)(a:Aq)(zs:List Int)(i:Nat):List AV:=[nA (xY l a zs i 0),nA (z7 l a zs i 0),nA (xY l a zs i 1),nA (z7 l a zs i 1),nA (xY l a zs i 2),nA (z7 l a zs i 2)]
abbrev HY(l:Li)(a:Aq)(z:Int):AV:=aM (sX (dV l a z).1) (sX (dV l a z).2)
theorem VM{l:Li}{a:Aq}{zs:List Int}{i:Nat}{z:Int}(hi:i<3)(hz:zs[i]?=some z) :
  over (vn l a zs i) (0+((i:Nat):Int).toNat*2) (AV.cells (HY l a z))=vn l a zs (i+1):=by
 have e:zs.getD i 0=z:=au hz;subst e;have h:i=0\/i=1\/i=2:=by omega
 rcases h with rfl |rfl |rfl <;> rfl
theorem Ve{l:Li}{a:Aq}{zs:List Int}{i:Nat}(hi:i<3):Nat.ble (0+((i:Nat):Int).toNat*2+2) (vn l a zs i).length=true:=by
 rw[Nat.ble_eq];show 0+((i:Nat):Int).toNat*2+2<=6;omega
theorem AY{l:Li}(hl:l.ok){a:Aq}(F:AqS l a){z:Int}(h:0<=z/\z<l.jo.length) :
  Nm a.ts.length 12100000000 (sX (dV l a z).1)/\Nm a.ts.length 12100000000 (sX (dV l a z).2):=by
 obtain⟨j,hj⟩:=ax (l:=l.jo) (i:=z.toNat) oz;obtain⟨i1,i2,i3,i4,_⟩:=cA F.li hj;unfold dV;rw[au hj];exact xi F hl i1 i3
theorem KO{l:Li}(hl:l.ok){a:Aq}(F:AqS l a){g:Gr}(hgo:GrOk l g)(h3:g.jo.length=3) :
  FP 130 [l.av,a.av,g.av] (.tup [i64 (if oo l a g.jo=true then 1 else 2),.v .nilIface]):=by
 have hlj:=hl.lj;obtain⟨z0,hz0⟩:=ax (l:=g.jo) (i:=0) oz;obtain⟨z1,hz1⟩:=ax (l:=g.jo) (i:=1) oz;obtain⟨z2,hz2⟩:=ax (l:=g.jo) (i:=2) oz;have e0:g.jo.getD 0 0=z0:=au hz0;have e1:g.jo.getD 1 0=z1:=au hz1;have e2:g.jo.getD 2 0=z2:=au hz2;obtain⟨r,hr,tw⟩:=F.tw;have hkb:=pH hr F.two;have hlm:=jN F.two;have n0:=AY hl F (hgo.j z0 (WU hz0));have n1:=AY hl F (hgo.j z1 (WU hz1));have n2:=AY hl F (hgo.j z2 (WU hz2));have hb:=Kg tw n0.1 n0.2 n1.1 n1.2 n2.1 n2.2 oz;have ed:∀y:Et a.ts,ae a.ts.length (sX y)=y:=fun y=>bf _ _
 rw[ed,ed,ed,ed,ed,ed]at hb;have hd:oo l a g.jo=xZ a.ts (dV l a z0).1 (dV l a z0).2 (dV l a z1).1 (dV l a z1).2 (dV l a z2).1 (dV l a z2).2:=by unfold oo;rw[e0,e1,e2]
 rw[<- hd]at hb;refine aj func130 ?_;refine gl ?_;refine aZ [3,4,8,17,18] [3,4] (fun(i:Nat)=>[(19,some (i64 i))]) (fun i=>[(8,some (.box (vn l a g.jo i)))]) (fun i=>i<=g.jo.length) (fun i=>g.jo.length-i) 0 (W7 _) ?_ (h2:=(.cons rfl (BlkSub.bL (.cons (Sub.nil _ _ _) (.cons (Sub.nil _ _ _) (.cons (Sub.nil _ _ _) (.cons (Sub.nil _ _ _) (.cons (Sub.nil _ _ _) (.cons (Sub.nil _ _ _) .nil)))))) rfl) .nil));rintro i hi K1 J1;refine gC (fun t20=>?_) (fun t20=>?_) (st2:=(11,0))
 ·have hin:i < g.jo.length:=a6 t20;obtain ⟨z,hz⟩:=ax hin;have hzj:=hgo.j z (WU hz);obtain ⟨j,hj⟩:=ax (l:=l.jo) (i:=z.toNat) oz;obtain ⟨i1,i2,i3,i4,_⟩:=cA F.li hj;have hpl:=UK hl F i1 i3;have ej:aX l a.ts a.bs j.a j.point = dV l a z:=by unfold dV; rw [au hj]
  rw[ej]at hpl;have hpl2:FP 241 [l.av,a.av,i64 j.a,i64 j.point] (.tup [HY l a z,.v .nilIface]):=hpl;refine gi (aI hz) ?_;refine gi (f0 (n:=z.toNat) oz hj) ?_;refine gc hpl2 ?_;refine gC (fun t40=>?_) (fun t40=>?_) (st1:=(8,0));cases t40;refine gs ((vL (.tmp rfl) (.tmp rfl) T309 rfl T77 rfl oz oz rfl)) ?_ (9,4);refine gs ((DV (.tmp rfl) rfl (.tmp rfl) rfl T77 rfl (Ve oz))) ?_;refine ga aO ?_;exact aP J1 (i+1) hin (hw:=Wk.of a8 (.cons rfl (BlkSub.of (congrArg Blk.box (VM oz hz))) (.k (.k .nil))))
 have hin:=bi hi t20;have hi3:i=3:=by omega
 subst hi3;refine gW (Wk.of (sl:=[(4,some (.ptr 4 0)),(8,some (.ptr 8 0))]) (hp:=[(4,some (.box a.cs)),(8,some (.box [nA (sX (dV l a z0).1),nA (sX (dV l a z0).2),nA (sX (dV l a z1).1),nA (sX (dV l a z1).2),nA (sX (dV l a z2).1),nA (sX (dV l a z2).2)]))]) a8 (.k (.cons rfl (BlkSub.of (by rw[<- e0,<- e1,<- e2];rfl)) .nil))) ?_;refine gs (vL (.tmp rfl) (.const _) T309 rfl T77 rfl oz oz rfl) ?_;refine gs (vL (.tmp rfl) (.const _) T309 rfl T77 rfl oz oz rfl) ?_;refine gs (vL (.tmp rfl) (.const _) T309 rfl T77 rfl oz oz rfl) ?_;refine gc hb ?_;refine gC (fun t59=>?_) (fun t59=>?_) (st1:=(13,0));cases t59;refine gC (fun t61=>?_) (fun t61=>?_)
 ·have hd1:oo l a g.jo=true:=t61;refine br ?_;rw[XK hd1];rfl
 have hd1:oo l a g.jo=false:=t61;refine br ?_;rw[XJ (by rw[hd1];decide)];rfl
def ww(l:Li)(a:Aq)(k:Nat):Int:=if a.ms.getD k 0≠0 then 0 else if((splitG l).getD k default).kind=1 then(if oo l a ((splitG l).getD k default).jo=true then 1 else 2)else 3
theorem Wr{k n:Nat}(h:k<n)(h1:cond (aa .lss (k:Int) 0) true (aa .geq (k:Int) (n:Int))=true):False:=by
 rcases DY h1 with h2 |h2 <;> omega
theorem JE{l:Li}{g:Gr}(h:DyK l g)(hk:g.kind=1):g.jo.length=3:=by
 cases h with
 |drv=>exact absurd hk (by simp)
 |pr=>exact absurd hk (by simp)
 |rp=>exact absurd hk (by simp)
 |rrr=>rfl
theorem LB{l:Li}(hl:l.ok){xs:List Tn}{a:Aq}(F:AqFin l xs a)(M:AqSg l a)(hxl:xs.length<=281474976710656){k:Nat}(hk:k<(splitG l).length) :
  FP 53 [l.av,.lst 4 (xs.map Tn.av),a.av,i64 k] (.tup [i64 (ww l a k),.v .nilIface]):=by
 have hgl:=pW F.li;have hml:=M.ml;obtain⟨g,hg⟩:=ax hk;have ega:(splitG l).getD k default=g:=au hg;have hsn:=Dl hl F.s M.sp hg;rw[M.sg k g oz hg]at hsn;have ekn:ww l a k=if a.ms.getD k 0≠0 then 0 else if g.kind=1 then(if oo l a g.jo=true then 1 else 2)else 3:=by unfold ww;rw[ega]
 rw[ekn];obtain⟨dy,ok⟩:=jK F.li (WU hg);refine aj func53 ?_;refine gc (zT hl F M.sp hxl) ?_;refine gC (fun t22=>?_) (fun t22=>?_) (st1:=(3,0));cases t22;refine cD ?_;refine gC (fun t31=>?_) (fun t31=>?_) (st1:=(5,0));exact(Wr hk t31).elim;refine gc (Gj hl F.s M.sp hg) ?_;refine gC (fun t41=>?_) (fun t41=>?_) (st1:=(8,0));cases t41;refine gc hsn ?_;refine gC (fun t50=>?_) (fun t50=>?_) (st1:=(11,0));cases t50;refine gC (fun t54=>?_) (fun t54=>?_)
 ·have h7:a.ms.getD k 0≠0:=ni t54;refine br ?_;rw[XK h7];rfl
 have h7:a.ms.getD k 0=0:=rZ t54;rw[XJ oz];refine gi (aI hg) ?_;refine gC (fun t57=>?_) (fun t57=>?_)
 ·have h8:g.kind=1:=cK t57;refine gi (aI hg) ?_;refine gc (KO hl F.s ok (JE dy h8)) ?_;refine gD ?_;refine br ?_;rw[XK h8]
 have h8:g.kind≠1:=dq t57;refine br ?_;rw[XJ h8];rfl
def jZ(l:Li)(a:Aq)(k:Nat):Et a.ts:=cW l a.ts a.bs ((splitG l).getD k default)
def fu(l:Li)(a:Aq)(k:Nat):Et a.ts:=jZ l a k*jZ l a k
def bw(l:Li)(a:Aq):Nat->Int
  |0=>-1
  |k+1=>if((splitG l).getD k default).kind=0 then bw l a k else if bw l a k<0\/ak (fu l a k-fu l a (bw l a k).toNat)<0 then(k:Int)else bw l a k
def jU(l:Li)(a:Aq)(n:Nat):List Rat:=if bw l a n<0 then[]else sX (fu l a (bw l a n).toNat)
theorem xb{l:Li}{a:Aq}{k:Nat}{g:Gr}(hg:(splitG l)[k]?=some g)(h:g.kind=0):bw l a (k+1)=bw l a k:=by
 rw[bw,au hg,XK h]
theorem oy{l:Li}{a:Aq}{k:Nat}{g:Gr}(hg:(splitG l)[k]?=some g)(h:g.kind≠0)(h1:bw l a k<0\/ak (fu l a k-fu l a (bw l a k).toNat)<0):bw l a (k+1)=(k:Int):=by
 rw[bw,au hg,XJ h,XK h1]
theorem tW{l:Li}{a:Aq}{k:Nat}{g:Gr}(hg:(splitG l)[k]?=some g)(h:g.kind≠0)(h1:¬(bw l a k<0\/ak (fu l a k-fu l a (bw l a k).toNat)<0)):bw l a (k+1)=bw l a k:=by
 rw[bw,au hg,XJ h,XJ h1]
theorem Dh{l:Li}{a:Aq}{k n:Nat}(h:bw l a n=(k:Int)):jU l a n=sX (fu l a k):=by
 unfold jU;rw[h,XJ oz,Xk]
theorem zM{l:Li}{a:Aq}{k n:Nat}(h:bw l a n=bw l a k):jU l a n=jU l a k:=by unfold jU;rw[h]
theorem qw{l:Li}{a:Aq}:∀{n:Nat},n<=(splitG l).length->0<=bw l a n->(bw l a n).toNat<n/\((splitG l).getD (bw l a n).toNat default).kind≠0
 |0,_,h=>by unfold bw at h;omega
 |n+1,hn,h=>by
  have ih:=qw (l:=l) (a:=a) (n:=n) oz;obtain⟨g,hg⟩:=ax (l:=splitG l) (i:=n) oz
  by_cases h0:g.kind=0
  ·rw[xb hg h0]at h ⊢;have:=ih h;exact⟨by omega,this.2⟩
  ·by_cases h1:bw l a n<0\/ak (fu l a n-fu l a (bw l a n).toNat)<0
   ·rw[oy hg h0 h1];refine⟨by omega,?_⟩;rw[Xk,au hg];exact h0
   ·rw[tW hg h0 h1];have:=ih oz;exact⟨by omega,this.2⟩
section
variable{l:Li}(hl:l.ok){a:Aq}(F:AqS l a)(DD:AqD l a)(hs:splitE l=0)
include hl F DD hs
theorem I7{k:Nat}(hk:k<(splitG l).length)(h0:((splitG l).getD k default).kind≠0):Nm a.ts.length 83600000000 (sX (fu l a k)):=by
 obtain⟨g,hg⟩:=ax hk;obtain⟨r,hr,tw⟩:=DD.tw;have h:=Cm hl F DD hs hg;rw[au hg]at h0;have e:gE l a g=sX (jZ l a k):=by unfold gE jZ;rw[XJ h0,au hg]
 rw[e]at h;have hk:=Bk hr F.two;exact Bz.mono (Bz.mul tw (WZ _) (show Bz _ (jZ l a k)from h) h) (by show _+_+kB r _<=_;omega)
theorem RU{k:Nat}{g:Gr}(hg:(splitG l)[k]?=some g)(h0:g.kind≠0):FP 127 [aV a.ts,nA (gE l a g),nA (gE l a g)] (.tup [nA (sX (fu l a k)),.v .nilIface]):=by
 obtain⟨r,hr,tw⟩:=DD.tw;have h:=Cm hl F DD hs hg;have hk:=Bk hr F.two;have hlm:=jN F.two;have e:gE l a g=sX (jZ l a k):=by unfold gE jZ;rw[XJ h0,au hg]
 have c:=wS tw h h oz;rw[e]at c ⊢;have ed:ae a.ts.length (sX (jZ l a k))=jZ l a k:=bf _ _;rw[ed]at c;exact c
theorem P9{k b:Nat}(hk:k<(splitG l).length)(h0:((splitG l).getD k default).kind≠0)(hb:b<(splitG l).length)(h1:((splitG l).getD b default).kind≠0) :
  FP 128 [aV a.ts,nA (sX (fu l a k)),nA (sX (fu l a b))] (.tup [i64 (ak (fu l a k-fu l a b)),.v .nilIface]):=by
 obtain⟨r,hr,tw⟩:=DD.tw;have hlm:=jN F.two;have c:=wA tw (I7 hl F DD hs hk h0) (I7 hl F DD hs hb h1) oz;have ed:∀y:Et a.ts,ae a.ts.length (sX y)=y:=fun y=>bf _ _
 rw[ed,ed]at c;exact c
end
theorem A8{z:Int}(h:aa .lss z 0=true):z<0:=of_decide_eq_true h
theorem Bs{z:Int}(h:aa .lss z 0=false):¬z<0:=of_decide_eq_false h
theorem Kx{z:Int}(h:aa .geq z 0=true):0<=z:=of_decide_eq_true h
theorem Ch{z:Int}(h:aa .geq z 0=false):z<0:=by have:=of_decide_eq_false (p:=z>=0) h;omega
theorem QH{l:Li}(hl:l.ok){xs:List Tn}{a:Aq}(F:AqFin l xs a)(DD:AqD l a)(hs:splitE l=0)(hxl:xs.length<=281474976710656) :
  FP 51 [l.av,.lst 4 (xs.map Tn.av),a.av] (.tup [i64 (if bw l a (splitG l).length<0 then 0 else bw l a (splitG l).length),bq (if bw l a (splitG l).length<0 then 16 else 0)]):=by
 have hgl:=pW F.li;refine aj func51 ?_;refine gc (zT hl F hs hxl) ?_;refine gC (fun t26=>?_) (fun t26=>?_) (st1:=(3,0));cases t26;refine gl ?_;refine gc (Hw hl F hs) ?_;refine gC (fun t37=>?_) (fun t37=>?_) (st1:=(6,0));cases t37;refine gl ?_;refine aZ [5,10,39,40] [5] (fun(i:Nat)=>[(11,some (i64 (bw l a i))),(12,some (nA (jU l a i))),(41,some (i64 i))]) (fun _=>[]) (fun i=>i<=(splitG l).length) (fun i=>(splitG l).length-i) 0 (W7 _) ?_ (h1:=(.k (.cons rfl (Sub.nil _ _ _) (.k .nil))));rintro i hi K1 J1;refine gC (fun t42=>?_) (fun t42=>?_)
 ·have hin:i<(splitG l).length:=a6 t42;obtain⟨g,hgi⟩:=ax hin;refine gi (aI hgi) ?_;refine gC (fun t48=>?_) (fun t48=>?_) (st1:=(77777,0))
  ·have hk:bw l a (i+1)=bw l a i:=xb hgi (cK t48);refine gW (Wk.of (sl:=[(5,some (.ptr 5 0)),(10,some (.lst 1 ((splitG l).map (kf l a)))),(11,some (i64 (bw l a (i+1)))),(12,some (nA (jU l a (i+1)))),(39,some (.lst 4 ((splitG l).map Gr.av))),(40,some (i64 (splitG l).length)),(41,some (i64 i))]) (hp:=[(5,some (.box a.cs))]) (.k (.k (.cons rfl (Sub.of (by rw[hk])) (.cons rfl (Sub.of (by rw[zM hk])) (.k (.k (.k .nil))))))) (.k .nil)) ?_;refine ga aO ?_;exact aP J1 (i+1) hin
  have hkd:g.kind≠0:=dq t48;have hkd2:((splitG l).getD i default).kind≠0:=by rw[au hgi];exact hkd
  refine gi (aI hgi) ?_;refine gi (aI hgi) ?_;refine gc (RU (k:=i) hl F.s DD hs hgi hkd) ?_;refine gD ?_;refine gC (fun t64=>?_) (fun t64=>?_) (st1:=(15,0));cases t64;refine gC (fun t67=>?_) (fun t67=>?_)
  ·have hge : 0 <= bw l a i := by first | exact Kx t67 | omega
   obtain⟨b1,b2⟩:=qw hi hge;have hcm:=P9 (k:=i) (b:=(bw l a i).toNat) hl F.s DD hs hin hkd2 oz b2;have hev:jU l a i=sX (fu l a (bw l a i).toNat):=XJ oz;rw[<- hev]at hcm;refine gc hcm ?_;refine gC (fun t77=>?_) (fun t77=>?_) (st1:=(20,0));cases t77;refine gC (fun t80=>?_) (fun t80=>?_) (st1:=(23,0)) (st2:=(77777,0))
   ·have hk:bw l a (i+1)=(i:Int):=by
     first |exact oy hgi hkd (.inr (A8 t80)) |exact oy hgi hkd (.inl (by first |exact Ch t67 |omega))
    refine gW (Wk.of (sl:=[(5,some (.ptr 5 0)),(10,some (.lst 1 ((splitG l).map (kf l a)))),(11,some (i64 (bw l a (i+1)))),(12,some (nA (jU l a (i+1)))),(39,some (.lst 4 ((splitG l).map Gr.av))),(40,some (i64 (splitG l).length)),(41,some (i64 i))]) (hp:=[(5,some (.box a.cs))]) (.k (.k (.cons rfl (Sub.of (by rw[hk])) (.cons rfl (Sub.of (by rw[Dh hk])) (.k (.k (.k .nil))))))) (.k .nil)) ?_;refine ga aO ?_;exact aP J1 (i+1) hin
   have hk:bw l a (i+1)=bw l a i:=by
    first |(cases t80;done) |exact tW hgi hkd (by have h8:=Bs t80;omega)
   refine gW (Wk.of (sl:=[(5,some (.ptr 5 0)),(10,some (.lst 1 ((splitG l).map (kf l a)))),(11,some (i64 (bw l a (i+1)))),(12,some (nA (jU l a (i+1)))),(39,some (.lst 4 ((splitG l).map Gr.av))),(40,some (i64 (splitG l).length)),(41,some (i64 i))]) (hp:=[(5,some (.box a.cs))]) (.k (.k (.cons rfl (Sub.of (by rw[hk])) (.cons rfl (Sub.of (by rw[zM hk])) (.k (.k (.k .nil))))))) (.k .nil)) ?_;refine ga aO ?_;exact aP J1 (i+1) hin
  simp only[aa,decide_eq_false_iff_not]at t67;refine gC (fun t80=>?_) (fun t80=>?_) (st1:=(23,0)) (st2:=(77777,0))
  ·have hk:bw l a (i+1)=(i:Int):=by
    first |exact oy hgi hkd (.inr (A8 t80)) |exact oy hgi hkd (.inl (by first |exact Ch t67 |omega))
   refine gW (Wk.of (sl:=[(5,some (.ptr 5 0)),(10,some (.lst 1 ((splitG l).map (kf l a)))),(11,some (i64 (bw l a (i+1)))),(12,some (nA (jU l a (i+1)))),(39,some (.lst 4 ((splitG l).map Gr.av))),(40,some (i64 (splitG l).length)),(41,some (i64 i))]) (hp:=[(5,some (.box a.cs))]) (.k (.k (.cons rfl (Sub.of (by rw[hk])) (.cons rfl (Sub.of (by rw[Dh hk])) (.k (.k (.k .nil))))))) (.k .nil)) ?_;refine ga aO ?_;exact aP J1 (i+1) hin
  have hk:bw l a (i+1)=bw l a i:=by
   first |(cases t80;done) |exact tW hgi hkd (by have h8:=Bs t80;omega)
  refine gW (Wk.of (sl:=[(5,some (.ptr 5 0)),(10,some (.lst 1 ((splitG l).map (kf l a)))),(11,some (i64 (bw l a (i+1)))),(12,some (nA (jU l a (i+1)))),(39,some (.lst 4 ((splitG l).map Gr.av))),(40,some (i64 (splitG l).length)),(41,some (i64 i))]) (hp:=[(5,some (.box a.cs))]) (.k (.k (.cons rfl (Sub.of (by rw[hk])) (.cons rfl (Sub.of (by rw[zM hk])) (.k (.k (.k .nil))))))) (.k .nil)) ?_;refine ga aO ?_;exact aP J1 (i+1) hin
 have hin:=bi hi t42;subst hin;refine gC (fun t85=>?_) (fun t85=>?_)
 ·have h6:=A8 t85;refine br ?_;rw[XK h6,XK h6];rfl
 have h6:=Bs t85;refine br ?_;rw[XJ h6,XJ h6];rfl
theorem FL{l:Li}(hl:aG l=0){b:Int}(h0:0<=b):∀(k m:Nat),m+k<=(splitG l).length->kn (eI l (splitG l) m) b=true->kn (eI l (splitG l) (m+k)) b=true
 |0,m,_,h=>h
 |k+1,m,hm,h=>by
  have h1:=FL hl h0 k m oz h;obtain⟨g2,hg2⟩:=ax (l:=splitG l) (i:=m+k) oz;obtain⟨_,ok⟩:=jK hl (WU hg2);rw[show m+(k+1)=(m+k)+1 by omega,oe hg2 ok h0,h1];simp
theorem Vq{l:Li}(hl:aG l=0)(hs:splitE l=0){m n:Nat}(hmn:m<n){g h:Gr}(hg:(splitG l)[m]?=some g)(hh:(splitG l)[n]?=some h){b:Int}(hb:b∈g.bo):b∉h.bo:=by
 intro hb2;obtain⟨_,ok⟩:=jK hl (WU hg);have h0:=(ok.b b hb).1;have hn:=(List.getElem?_eq_some_iff.1 hh).1;have N:=oG hl hs hh
 have h1:kn (eI l (splitG l) (m+1)) b=true:=by
  rw[oe hg ok h0];have:g.bo.any (fun x=>decide (x=b))=true:=by rw[List.any_eq_true];exact⟨b,hb,by simp⟩
  rw[this];rfl
 have h2:=FL hl h0 (n-(m+1)) (m+1) oz h1;rw[show m+1+(n-(m+1))=n by omega]at h2;rw[N.b b hb2]at h2;cases h2
theorem xp{l:Li}(hl:aG l=0)(hs:splitE l=0){m n:Nat}(hmn:m<n){g h:Gr}(hg:(splitG l)[m]?=some g)(hh:(splitG l)[n]?=some h)(kg:g.kind=0)(kh:h.kind=0):g.driver≠h.driver:=by
 intro e;obtain⟨d1,_⟩:=jK hl (WU hg);obtain⟨d2,_⟩:=jK hl (WU hh);have hd:=fun b=>Vq hl hs hmn hg hh (b:=b)
 cases d1 with
 | @drv b z d jt dr t d0 hd1 hb =>
  cases d2 with
  | @drv b2 z2 d2 jt2 dr2 t2 d02 hd2 hb2 =>
   have e:d=d2:=e;subst e;rw[hd1]at hd2;cases hd2;exact hd b (by simp) (by rw[<- hb,hb2];simp)
  |rrr=>exact absurd kh (by simp)
  |pr=>exact absurd kh (by simp)
  |rp=>exact absurd kh (by simp)
 |rrr=>exact absurd kg (by simp)
 |pr=>exact absurd kg (by simp)
 |rp=>exact absurd kg (by simp)
theorem Uc{l:Li}(hl:aG l=0)(hs:splitE l=0)(hk:∀g∈splitG l,g.kind=0):(splitG l).length=l.dv.length:=by
 have h1:=Gp hl hs;have h2:=rD hl;have h3:(splitG l).countP (fun g=>decide (g.kind=0))<=(splitG l).length:=List.countP_le_length;refine Nat.le_antisymm ?_ oz;refine Decidable.byContradiction fun h4=>?_
 have key:∀m,m<(splitG l).length->∃g,(splitG l)[m]?=some g/\g.kind=0/\0<=g.driver/\g.driver<l.dv.length:=fun m hm=>by
  obtain⟨g,hg⟩:=ax hm;have h0:=hk g (WU hg);obtain⟨d1,_⟩:=jK hl (WU hg);exact⟨g,hg,h0,Au d1 h0⟩
 have hlt:l.dv.length<(splitG l).length:=by omega
 obtain⟨g0,q0,k0,a0,b0⟩:=key 0 oz
 by_cases e1:l.dv.length=1
 ·obtain⟨g1,q1,k1,a1,b1⟩:=key 1 oz;have:=xp hl hs oz q0 q1 k0 k1;omega
 ·have e2 : l.dv.length = 2 := by omega
  obtain⟨g1,q1,k1,a1,b1⟩:=key 1 oz;obtain⟨g2,q2,k2,a2,b2⟩:=key 2 oz;have:=xp hl hs oz q0 q1 k0 k1;have:=xp hl hs oz q0 q2 k0 k2;have:=xp hl hs (m:=1) (n:=2) oz q1 q2 k1 k2;omega
theorem FM{l:Li}{a:Aq}:∀{n:Nat},n<=(splitG l).length->bw l a n<0->∀k,k<n->((splitG l).getD k default).kind=0
 |0,_,_,k,hk=>by omega
 |n+1,hn,h,k,hk=>by
  obtain⟨g,hg⟩:=ax (l:=splitG l) (i:=n) oz
  by_cases h0:g.kind=0
  ·rw[xb hg h0]at h
   by_cases e:k=n
   ·subst e;rw[au hg];exact h0
   ·exact FM (n:=n) oz h k oz
  ·by_cases h1:bw l a n<0\/ak (fu l a n-fu l a (bw l a n).toNat)<0
   ·rw[oy hg h0 h1]at h;omega
   ·rw[tW hg h0 h1]at h;exact absurd (.inl h) h1
section
variable{ts:LL}{r:Nat}(tw:Tw ts r)
include tw
theorem uT(x:Et ts):ak (x*x)=ak x*ak x:=(da (ay ts) ts.length tw.pos).mul x x
theorem UJ{x y:Et ts}(h:ak y=0):¬ak (x*x-y*y)<0:=by
 have hy:ak (y*y)=0:=by rw[uT tw,h];rfl
 have h2:ak (-(y*y))=0:=by
  have:=(da (ay ts) ts.length tw.pos).neg (y*y);show sg (ay ts) ts.length _=0;rw[this];show -(ak (y*y))=0;rw[hy];rfl
 have h3:ak (-(y*y)+x*x)=ak (x*x):=(da (ay ts) ts.length tw.pos).zadd h2;rw[show x*x-y*y=-(y*y)+x*x by grind,h3,uT tw];have:=T.sgn_cases (ay ts) ts.length x;have e:ak x=T.sgn (ay ts) ts.length x:=rfl;rcases this with h9 |h9 |h9 <;> rw[e,h9] <;> decide
theorem U3{x y:Et ts}(h:ak x=0)(hy:ak y≠0):ak (x*x-y*y)<0:=by
 have hx:ak (x*x)=0:=by rw[uT tw,h];rfl
 have h3:ak (x*x+-(y*y))=ak (-(y*y)):=(da (ay ts) ts.length tw.pos).zadd hx;have h2:ak (-(y*y))=-(ak (y*y)):=(da (ay ts) ts.length tw.pos).neg (y*y);rw[show x*x-y*y=x*x+-(y*y) by grind,h3,h2,uT tw];have:=T.sgn_cases (ay ts) ts.length y;have e:ak y=T.sgn (ay ts) ts.length y:=rfl;rcases this with h9 |h9 |h9
 ·rw[e,h9];decide
 ·exact absurd (e.trans h9) hy
 ·rw[e,h9];decide
end
theorem xK{l:Li}{a:Aq}{r:Nat}(tw:Tw a.ts r)(M:AqSg l a):∀{n:Nat},n<=(splitG l).length->(∃k,k<n/\a.ms.getD k 0=0) ->
  0<=bw l a n/\a.ms.getD (bw l a n).toNat 0=0/\∀k,k<n->a.ms.getD k 0=0->(bw l a n).toNat<=k
 |0,_,⟨k,h,_⟩=>by omega
 |n+1,hn,⟨k,hk,hz⟩=>by
  have hml:=M.ml;obtain⟨g,hg⟩:=ax (l:=splitG l) (i:=n) oz
  have sgs:∀i,i<(splitG l).length->ak (jZ l a i)=a.ms.getD i 0:=fun i hi=>by
   obtain⟨g2,hg2⟩:=ax hi;have:=M.sg i g2 oz hg2;unfold jZ;rw[au hg2];exact this
  by_cases h0:g.kind=0
  ·have hm1:a.ms.getD n 0=1:=by
    rw[<- M.sg n g oz hg];have e:cW l a.ts a.bs g=qE 1:=by unfold cW;rw[XK h0]
    rw[e];exact(da _ _ tw.pos).one
   have hk2:k<n:=by
    rcases W3 k n with h |h
    ·exact h
    ·have : k = n := by omega
     subst this;omega
   obtain⟨i1,i2,i3⟩:=xK tw M (n:=n) oz ⟨k,hk2,hz⟩;rw[xb hg h0];refine⟨i1,i2,fun j hj hz2=>i3 j ?_ hz2⟩;rcases W3 j n with h |h
   ·exact h
   ·have : j = n := by omega
    subst this;omega
  ·by_cases hx:∃k,k<n/\a.ms.getD k 0=0
   ·obtain ⟨i1, i2, i3⟩:=xK tw M (n:=n) oz hx;obtain ⟨b1,b2⟩:=qw (l:=l) (a:=a) (n:=n) oz i1;have hb:ak (jZ l a (bw l a n).toNat) = 0:=by rw [sgs _ oz]; exact i2
    rw[tW hg h0 (by
     rintro(h |h)
     ·omega
     ·exact UJ tw hb h)]
    refine⟨i1,i2,fun j hj hz2=>?_⟩;rcases W3 j n with h |h
    ·exact i3 j h hz2
    ·omega
   ·have hkn:k=n:=by
     rcases W3 k n with h |h
     ·exact absurd ⟨k,h,hz⟩ hx
     ·omega
    subst hkn
    have hc:bw l a k<0\/ak (fu l a k-fu l a (bw l a k).toNat)<0:=by
     by_cases h1:bw l a k<0
     ·exact .inl h1
     ·obtain⟨b1,b2⟩:=qw (l:=l) (a:=a) (n:=k) oz oz;refine .inr (U3 tw (by rw[sgs k oz];exact hz) ?_);rw[sgs _ oz];exact fun h9=>hx ⟨_,b1,h9⟩
    rw[oy hg h0 hc];refine⟨by omega,by rw[Xk];exact hz,fun j hj hz2=>?_⟩;rw[Xk];rcases W3 j k with h |h
    ·exact absurd ⟨j,h,hz2⟩ hx
    ·exact h
theorem yW{ms:List Int}:∀{n:Nat}{z:Int},(dI ms n)[0]?=some z->∃k:Nat,z=(k:Int)/\k<n/\ms.getD k 0=0/\∀j,j<n->ms.getD j 0=0->k<=j
 |0,z,h=>by
  have e:dI ms 0=[]:=rfl;rw[e]at h;cases h
 |n+1,z,h=>by
  by_cases hz:ms.getD n 0=0
  ·rw[Av hz]at h;cases hl:dI ms n with
   |nil =>
    rw[hl]at h;cases h;refine⟨n,rfl,by omega,hz,fun j hj hz2=>?_⟩;rcases W3 j n with h9 |h9
    ·exfalso
     have:(j:Int)∈dI ms n:=by
      unfold dI;exact List.mem_map.2 ⟨j,List.mem_filter.2 ⟨List.mem_range.2 h9,decide_eq_true hz2⟩,rfl⟩
     rw[hl]at this;cases this
    ·exact h9
   |cons y ys =>
    have hy:(dI ms n)[0]?=some y:=by rw[hl];rfl
    rw[hl]at h
    have e:y=z:=by
     have h8:some y=some z:=h;exact Option.some.inj h8
    subst e;obtain⟨k,e1,h1,h2,h3⟩:=yW hy;refine⟨k,e1,by omega,h2,fun j hj hz2=>?_⟩;rcases W3 j n with h9 |h9
    ·exact h3 j h9 hz2
    ·omega
  ·rw [xX hz] at h;obtain ⟨k,e1,h1,h2,h3⟩:=yW h;refine ⟨k,e1,by omega,h2,fun j hj hz2=>?_⟩;rcases W3 j n with h9 | h9
   ·exact h3 j h9 hz2
   ·have : j = n := by omega
    subst this;exact absurd hz2 hz
theorem Wi{l:Li}{a:Aq}{r:Nat}(tw:Tw a.ts r)(M:AqSg l a){z:Int}(h:(dI a.ms (splitG l).length)[0]?=some z):0<=bw l a (splitG l).length/\bw l a (splitG l).length=z:=by
 obtain⟨k,e,h1,h2,h3⟩:=yW h;obtain⟨i1,i2,i3⟩:=xK tw M (WZ _) ⟨k,h1,h2⟩;have h4:=i3 k h1 h2;obtain⟨b1,_⟩:=qw (l:=l) (a:=a) (WZ _) i1;have h5:=h3 _ b1 i2;exact⟨i1,by omega⟩
theorem JV:aF∈(fM gI false fb [dx] (splitG fb) (splitG fb).length (eG fb)).1:=by
 have h:(fM gI false fb [dx] (splitG fb) (splitG fb).length (eG fb))=([aF],0):=Km;rw[h];exact List.mem_singleton.2 rfl
theorem Ji:AqFin fb [dx] aF:=by
 obtain⟨h1,h2⟩:=yL wa (F:=gI) (sg:=false) _ _ IZ (Ij fb _ (by decide)) _ JV;exact Fb wa h1 h2
theorem M7:(List.range 2).all (fun m=>decide (ak (cW fb aF.ts aF.bs ((splitG fb).getD m default))=aF.ms.getD m 0))=true:=by decide +kernel
theorem Gy:AqSg fb aF:=by
 refine⟨⟨wa.sp,by decide +kernel⟩,fun m g hm hg=>?_⟩;have h:=List.all_eq_true.1 M7 m (List.mem_range.2 hm);rw[au hg]at h;exact of_decide_eq_true h
def E4:List Aq×Nat:=lh (CD [1,0]) true fb [dx]
theorem EB:E4=([aF],0):=by decide +kernel
theorem fb_one:FP 109 [fb.av,.lst 4 [dx.av],.lst 1 [i64 1,i64 0]] (.tup [aF.av,bq 0]):=by
 have hop:=Dy fb vz [dx] (fun x hx=>by rw[List.mem_singleton.1 hx];exact yU) (by show 1<=100;omega);have hp:([]:List Aq).length+2^(splitG fb).length<=1000:=by decide +kernel
 have hs2:(splitG fb).length=2:=by decide +kernel
 have hw:=fun(hm:([1,0]:List Int).length=(splitG fb).length)=>yP wa (CD [1,0]) true (fo:=223) (caps:=[.iptr [.lst 1 (([1,0]:List Int).map i64)]]) (fun k m hk=>Mx (modes:=[1,0]) (by show k<2;omega) (by decide) m) (splitG fb).length (eG fb) IZ [] hp
 have hA:=SA (modes:=[1,0]) (by decide) RR hop (by show 0<4;omega) (by show 4<=100;omega) oz (R:=E4) hw (by rw[EB];decide);rw[EB,hs2]at hA;exact hA
theorem HH:FP 50 [] (bl true):=by
 have hA:=CI vz Ji Gy (by decide);rw[show dI aF.ms (splitG fb).length=[1] by decide +kernel]at hA;have hK:=LB vz Ji Gy (by decide) (show 1<(splitG fb).length by decide +kernel);rw[show ww fb aF 1=2 by decide +kernel]at hK;refine aj func50 ?_;refine gc Qn ?_;refine gc (Con.sA (.cons (.refl _) (.cons xL (.cons (.refl _) .nil))) fb_one) ?_;refine gc (Con.sA (.cons (.refl _) (.cons xL (.cons (.refl _) .nil))) hA) ?_;refine gc (Con.sA (.cons (.refl _) (.cons xL (.cons (.refl _) (.cons (.refl _) .nil)))) hK) ?_;refine b9 (fun _=>(Q8 [1] (by decide))) ?_;refine af ?_;rfl
open Lean.Grind (CommRing)
section
variable{R:Type}[CommRing R]
end
section
variable{T:LL}(hp:dL T)
include hp
variable{hp} in
end
section
variable{l:Li}{T:LL}(hp:dL T){bs ds:List Pq}
include hp
end
end Go.Lw
namespace Go.Lw
open Lean.Grind (CommRing)
section
variable{ts T:LL}(L:Lf ts T)
include L
theorem Lf.z(hp:dL ts){u v:Et ts}(h:ah hp u=ah hp v):ah L.pos (aq T u)=ah L.pos (aq T v):=by
 have e1:=(eU L.pos).2 ((L.zero _).2 ((km hp).1 h));rw[L.sub]at e1
 revert e1
 generalize ah L.pos (aq T u)=a;generalize ah L.pos (aq T v)=b;intro e1;grind
theorem Lf.trans{U:LL}(M:Lf T U):Lf ts U:=by
 have e:∀y:Et ts,aq U (aq T y)=aq U y:=fun y=>by
  show aq U (dE T (sX y))=dE U (sX y);exact M.low _ (Xj (eH _ _).le (Nat.pow_le_pow_right oz L.len))
 have hm:Hm (fun y:Et ts=>ah M.pos (aq U (aq T y))):=by
  refine⟨fun x y=>?_,fun x y=>?_,fun x=>?_,?_,fun x hx=>?_,fun x=>?_⟩
  ·show ah M.pos (aq U (aq T (x+y)))=_;rw[L.ad,M.ad,eP]
  ·show ah M.pos (aq U (aq T (x*y)))=_;rw[L.mu,M.mu,bB]
  ·have h:=M.z L.pos (L.hm.neg x);show ah M.pos (aq U (aq T (-x)))=-ah M.pos (aq U (aq T x));have h2:ah M.pos (aq U (-aq T x))=-ah M.pos (aq U (aq T x)):=M.hm.neg _;rw[<- h2];exact M.z L.pos (L.hm.neg x)
  ·have h:=M.z L.pos (u:=aq T 1) (v:=1) L.hm.one;show ah M.pos (aq U (aq T 1))=1;rw[h];exact M.hm.one
  ·have h := M.z L.pos (u := aq T (iE x)*aq T x) (v := 1) (by rw[bB];exact L.hm.inv x hx);rw[M.mu,bB]at h;exact h.trans M.hm.one
  ·show ah M.pos (aq U (aq T x))=0↔_;have h:=M.hm.zero (aq T x);rw[L.sg]at h;exact h
 refine⟨M.pos,?_,fun l h=>?_,fun q=>?_,Xj L.len M.len,fun y=>?_,fun x y=>?_,fun x y=>?_⟩
 ·have e2 : (fun y : Et ts => ah M.pos (aq U (aq T y))) = fun y => ah M.pos (aq U y) := funext fun y => by rw [e]
  rw[<- e2];exact hm
 ·rw[<- e,L.low l h];exact M.low l (Xj h (Nat.pow_le_pow_right oz L.len))
 ·rw[<- e,L.q,M.q]
 ·rw[<- e,M.sg,L.sg]
 ·rw[<- e,<- e,<- e,L.ad,M.ad]
 ·rw[<- e,<- e,<- e,L.mu,M.mu]
end
theorem Wn{ts:LL}(hp:dL ts)(p q:P2 ts):ah hp (dK (aR p q) (aR p q))=(ah hp p.1-ah hp q.1)*(ah hp p.1-ah hp q.1)+(ah hp p.2-ah hp q.2)*(ah hp p.2-ah hp q.2):=by
 unfold dK dotE aR;dsimp only;simp only[bB,bJ,eP]
section
variable{l:Li}{a:As}{r:Nat}(tw:Tw (llq a.rs) r){ds:List Pq}
include tw
end
section
variable{l:Li}{a:As}{r:Nat}(tw:Tw (llq a.rs) r)(hN:∀p∈aK a,Nq (llq a.rs).length p){ds:List Pq}(hD:∀p∈ds,Nq 0 p)
include tw hN hD
end
end Go.Lw
namespace Go.Lw
structure R4 where
  c:Rat
  s:Rat
  x:Rat
  y:Rat
instance:Inhabited R4:=⟨⟨0,0,0,0⟩⟩
namespace R4
def pq(b:R4):Pq:=⟨sh 0 (b.c:Rat),sh 0 (b.s:Rat),sh 0 (b.x:Rat),sh 0 (b.y:Rat)⟩
def pl(b:R4):Pl:=⟨b.pq.c.map rt,b.pq.s.map rt,b.pq.x.map rt,b.pq.y.map rt⟩
structure ok(b:R4):Prop where
  c:Qb 1000 b.c
  s:Qb 1000 b.s
  x:Qb 1000 b.x
  y:Qb 1000 b.y
end R4
instance:Inhabited Pse:=⟨⟨default,⟨⟨false,[],[]⟩,⟨false,[],[]⟩⟩⟩⟩
theorem wc{q:Rat}(h:Qb 1000 q):NR ((sh 0 (q:Rat)).map rt) 4000:=by
 have h1:=(pc (n:=0) oz h).mono (f:=4000) oz;refine⟨fun x hx=>?_,?_,by rw[ef];exact h1.cb⟩
 ·obtain⟨p,hp,rfl⟩:=List.mem_map.1 hx
  have:p=q:=by
   unfold sh at hp;split at hp
   ·cases hp
   ·exact List.mem_singleton.1 hp
  rw[this];exact(h.qs oz).ok
 ·rw[WW];unfold sh;split <;> simp
theorem R4.ok.nr{b:R4}(h:b.ok):∀x∈b.pl.l,NR x 4000:=by
 intro x hx;simp only[Pl.l,R4.pl,Xu,Xf,or_false]at hx;rcases hx with rfl |rfl |rfl |rfl
 ·exact wc h.c
 ·exact wc h.s
 ·exact wc h.x
 ·exact wc h.y
def q9(l:Li)(ps:List Pse):List Tn:=l.dv.map (fun d=>(ps.getD d.body.toNat default).turn)
open Lean.Grind (CommRing)
def gY(ps:List Pse):Aq:=⟨[],ps.map iu,[]⟩
theorem Qc{U:LL}(hp:dL U)(p:Pse):CH U (iu p):=by
 have hc:(dE U (iu p).c:Et U)=qE (dF p.turn.half p.turn.t.q):=fL _ _;have hs:(dE U (iu p).s:Et U)=qE (dD p.turn.half p.turn.t.q):=fL _ _;have q1:(qE 1:Et U)=1:=rfl;unfold CH;rw[hc,hs,<- jk,<- jk,<- no,HO,q1,show(1:Et U)-1=0 by grind];exact(da _ _ hp).zero
structure Drw(l:Li)(ps:List Pse):Prop where
  hl:l.ok
  li:aG l=0
  sp:splitE l=0
  ln:ps.length=l.bo.length
  lok:∀p∈ps,p.lok
  ok:∀p∈ps,p.ok=true
  js:∀j∈l.jo,JH l [] (ps.map iu) j
theorem VF{ps:List Pse}{i:Nat}(h:i<ps.length):(ps.map iu).getD i bc=iu (ps.getD i default):=by
 obtain⟨p,hp⟩:=ax h;rw[au hp];exact au (by rw[W0,hp];rfl)
def KK(l:Li)(ps:List Pse)(g:Gr):List Sv:=ez l (gY ps).as g (bZ g (q9 l ps))
def A5(l:Li)(ps:List Pse)(g:Gr):Nat:=lV l (gY ps).as g (bZ g (q9 l ps))
section
variable{l:Li}{ps:List Pse}(D:Drw l ps)
include D
theorem Drw.ch{U:LL}(hp:dL U){b:Int}(h0:0<=b)(hb:b<l.bo.length):CH U ((ps.map iu).getD b.toNat bc):=by
 have:=D.ln;rw[VF oz];exact Qc hp _
theorem Drw.w:WkC l (q9 l ps) 1000 1000:=by
 refine⟨D.hl,D.li,D.sp,fun b hb m hm=>?_,WW _,fun x hx=>?_⟩
 ·have h:=(D.hl.bo b hb).pts m hm;exact⟨h.qx,h.qy⟩
 ·obtain⟨d,hd,rfl⟩:=List.mem_map.1 hx;obtain⟨i,hi,rfl⟩:=List.mem_iff_getElem.1 hd;have hb:=cM (j6 D.li (WY hi));have hln:=D.ln;obtain⟨p,hp⟩:=ax (l:=ps) (i:=l.dv[i].body.toNat) oz;rw[au hp];have hm:=WU hp;have hk:=D.lok p hm;exact⟨hk.ok.t,(VX (D.ok p hm)).1,hk.t.mono oz,Cb.one ((nQ hk.t).mono oz),Cb.one ((ow hk.t).mono oz)⟩
theorem Drw.q:QInv l 0 0 1000 (gY ps):=by
 refine⟨zI,WZ _,fun p hp=>?_,?_⟩
 ·obtain⟨q,hq,rfl⟩:=List.mem_map.1 hp;exact Pe (by show 0<=5;omega) (D.lok q hq)
 ·show(ps.map iu).length=_;rw[WW];exact D.ln
theorem Drw.tn{g:Gr}(hg:DyK l g)(hk:g.kind=0):∃p∈ps,(ps.map iu).getD (aN g 0).toNat bc=iu p/\bZ g (q9 l ps)=p.turn/\ps[(aN g 0).toNat]?=some p:=by
 cases hg with
 | @drv b z d j dr t d0 hd hb =>
  have hi:=(List.getElem?_eq_some_iff.1 hd).1;have hbb:=cM (j6 D.li hd);have hln:=D.ln;have e0:aN ⟨0,[b],[z],d⟩ 0=b:=rfl;obtain⟨p,hp⟩:=ax (l:=ps) (i:=b.toNat) oz;refine⟨p,WU hp,?_,?_,by rw[e0];exact hp⟩
  ·rw[e0];exact au (by rw[W0,hp];rfl)
  ·show(if(0:Int)=0 then(q9 l ps).getD d.toNat dx else dx)=_;rw[XK rfl];refine au ?_;unfold q9;rw[W0,hd];show some (ps.getD dr.body.toNat default).turn=_;rw[hb,au hp]
 |rrr ne t0 t1 h0 h2 kd tie=>exact absurd hk (by simp)
 |pr t0 t1 ha=>exact absurd hk (by simp)
 |rp t0 t1 ha=>exact absurd hk (by simp)
variable{k:Nat}{g:Gr}(hg:(splitG l)[k]?=some g)
include hg
theorem Drw.err:A5 l ps g=0\/A5 l ps g=15:=by
 unfold A5;have W:=D.w;have Q:=D.q;obtain⟨dy,ok⟩:=W.grp hg;have tw:=QInv.twl W hg Q;have hp:=tw.pos;have hb:aK (gY ps).as=ps.map iu:=kN (gY ps);obtain⟨_,_,htn⟩:=W.tn hg;cases dy with
 | @drv b z d j dr t d0 hd hb' =>
  left;obtain⟨x,hx,ex⟩:=htn rfl;have he:=(W.ok x hx).2.1;rw[ex];show(lX l (gY ps).as b (am l ⟨0,[b],[z],d⟩ 0) x).2=0;unfold lX;rw[XJ oz]
 | @rrr i k z0 z1 z2 j0 j1 j2 ne t0 t1 h0 h2 kd tie =>
  show(kP l (gY ps).as i k (am l ⟨1,[i,k],[z0,z1,z2],0⟩ 0) (am l ⟨1,[i,k],[z0,z1,z2],0⟩ 1) (am l ⟨1,[i,k],[z0,z1,z2],0⟩ 2)).2=0\/(kP l (gY ps).as i k (am l ⟨1,[i,k],[z0,z1,z2],0⟩ 0) (am l ⟨1,[i,k],[z0,z1,z2],0⟩ 1) (am l ⟨1,[i,k],[z0,z1,z2],0⟩ 2)).2=15;unfold kP;split
  ·exact .inr rfl
  ·split
   ·rename_i hc;right;show fg _ _ _ _=15;unfold fg kR at hc ⊢;split at hc
    ·rename_i h1;rw[XK h1];split at hc
     ·rename_i h2;rw[XK h2]
     ·exact absurd rfl hc
    ·exact absurd rfl hc
   ·exact .inl rfl
 | @pr i z0 z1 j0 j1 t0 t1 ha =>
  have e1:am l ⟨2,[i],[z0,z1],0⟩ 1=j1:=au t1.hj
  have hlin:eZ (ba l (gY ps).as j1.b j1.on) (ba l (gY ps).as j1.b j1.to)=0:=by
   unfold eZ;rw[XJ];intro h9;obtain⟨i1,i2,_⟩:=cA D.li t1.hj;have i2:=cM i2;have hv:=un D.li t1.hj (by rw[t1.kd];decide) rfl;have hc:=D.ch hp i2.1 i2.2;have hd:=Tt hp hc (aQ l j1.b j1.on) (aQ l j1.b j1.to)
   have e:ah hp (bh (ba l (gY ps).as j1.b j1.on) (ba l (gY ps).as j1.b j1.to))=ah hp (qE (bE (aQ l j1.b j1.to) (aQ l j1.b j1.on))):=by
    refine(Wn hp _ _).trans ?_;rw[gQ,gQ,hb];exact hd
   have h8:=(sH hp e).symm.trans h9;rw[ya]at h8;exact hv (oL h8)
  show(ku l (gY ps).as i (am l ⟨2,[i],[z0,z1],0⟩ 0) (am l ⟨2,[i],[z0,z1],0⟩ 1)).2=0\/(ku l (gY ps).as i (am l ⟨2,[i],[z0,z1],0⟩ 0) (am l ⟨2,[i],[z0,z1],0⟩ 1)).2=15;rw[e1];unfold ku;split
  ·exact .inr rfl
  ·rw[XJ (by rw[hlin];simp)];exact .inl rfl
 | @rp i z0 z1 j0 j1 t0 t1 ha =>
  show(jC l (gY ps).as i (am l ⟨3,[i],[z0,z1],0⟩ 0) (am l ⟨3,[i],[z0,z1],0⟩ 1)).2=0\/(jC l (gY ps).as i (am l ⟨3,[i],[z0,z1],0⟩ 0) (am l ⟨3,[i],[z0,z1],0⟩ 1)).2=15;unfold jC;split
  ·exact .inr rfl
  ·split
   ·exact .inl rfl
   ·split
    ·exact .inl rfl
    ·exact .inl rfl
end
end Go.Lw
namespace Go.Lw
open Go.Proofs
section
variable{l:Li}{ps:List Pse}(D:Drw l ps){k:Nat}{g:Gr}(hg:(splitG l)[k]?=some g)
include D hg
variable{s:Sv}(hs:s∈KK l ps g)
include hs
end
theorem Rb(e:Nat)(n:Int):FP 19 [bq e,i64 n] (bl (aa .eql (e:Int) n)):=by
 refine aj func19 ?_;refine gc (MP e) ?_;refine af ?_;rfl
theorem Nt{n:Nat}(h:aa .gtr (n:Int) 0=true):0<n:=by
 have h1:(n:Int)>0:=of_decide_eq_true h;omega
theorem Sh(l:Li)(hw:l.okw)(xs:List Tn)(hxw:∀x∈xs,x.t.wok)(hxl:xs.length<=281474976710656):FP 10 [l.av,.lst 4 (xs.map Tn.av)] (bl true):=by
 refine aj func10 ?_;refine gc HH ?_;refine b9 (fun _=>(L1 l hw xs hxl)) ?_;refine b9 (fun h=>(Gn l (wl (BU (Ov h) hxw).1 hw))) ?_;refine gC (fun t27=>?_) (fun t27=>?_)
 ·refine gc HH ?_;refine af ?_
  first |rfl |(simp;done)
 obtain⟨h1,hli⟩:=Su t27;obtain⟨g1,hx20,hxo⟩:=BU h1 hxw;have hl:=wl g1 hw;obtain⟨A,e,P⟩:=LJ hl h1 hxw;have FF:=Pm hl h1 hxw P.eq;have MM:=Jw hl h1 hxw P.eq;have DDD:=Sq hl h1 hxw P.eq;have hAl:=P.ln;have hld:=hl.ld;refine gc P.all ?_;refine gC (fun t36=>?_) (fun t36=>?_)
 ·have he:e≠0:=dl t36;have hA:=La P.eq he;subst hA;refine gl ?_;refine af ?_;rfl
 have he:e=0:=cZ t36;have hop:=VC P.eq he;obtain⟨s0,g0,W,_⟩:=tX h1 hl hxw hop;have hsp:=W.sp;have hgl:=(pW hli).2;have hS:=C1 l hl hli;rw[hsp]at hS;refine gc hS ?_;refine gC (fun t46=>?_) (fun t46=>?_) (st1:=(8,0));cases t46;refine gl ?_;refine aZ [1,2,7,47,48] [2] (fun(i:Nat)=>[(49,some (i64 i))]) (fun _=>[]) (fun i=>i<=A.length) (fun i=>A.length-i) 0 (W7 _) ?_;rintro i hi K1 J1;refine gC (fun t50=>?_) (fun t50=>?_)
 ·have hin:=a6 t50;obtain⟨a,ha⟩:=ax hin;have ham:=WU ha;have F:=FF a ham;have M:=QE (MM a ham);have DD:=DDD a ham;obtain⟨r,hr,tw⟩:=F.tw;have hzl:=Hv a.ms (splitG l).length
  obtain⟨z,hz⟩:∃z:Int,(0<(dI a.ms (splitG l).length).length->(dI a.ms (splitG l).length)[0]?=some z/\bw l a (splitG l).length=z):=by
   by_cases h:0<(dI a.ms (splitG l).length).length
   ·obtain⟨z,hz⟩:=ax h;exact⟨z,fun _=>⟨hz,(Wi tw M hz).2⟩⟩
   ·exact⟨0,fun h9=>absurd h9 h⟩
  refine gi (aI ha) ?_;refine gc (QH hl F DD hsp hxl) ?_;refine gc (CI hl F M hxl) ?_;refine gC (fun t68=>?_) (fun t68=>?_) (st1:=(15,0));cases t68;refine gC (fun t70=>?_) (fun t70=>?_)
  ·have hn:bw l a (splitG l).length<0:=by
    refine Decidable.byContradiction fun h=>?_
    rw[XJ h]at t70;cases t70
   have hall:=Uc hli hsp (fun g hg=>by
    obtain⟨k,hk⟩:=XC hg;have:=FM (WZ _) hn k (List.getElem?_eq_some_iff.1 hk).1
    rwa [au hk]at this)
   rw[XK hn,XK hn];refine gc (Rb 16 16) ?_;refine cD ?_;refine cD ?_;refine gC (fun t81=>?_) (fun t81=>?_) (st1:=(18,0));exact absurd t81 (by simp[aa,hall]);refine ga aO ?_;exact aP J1 (i+1) hin
  have hn:¬bw l a (splitG l).length<0:=by
   intro h;rw[XK h]at t70;cases t70
  rw[XJ hn,XJ hn];obtain⟨b1,b2⟩:=qw (l:=l) (a:=a) (WZ _) (Int.not_lt.1 hn);obtain⟨k,hk⟩:∃k:Nat,bw l a (splitG l).length=(k:Int):=⟨_,(Int.toNat_of_nonneg (Int.not_lt.1 hn)).symm⟩
  rw[hk,Xk]at b1 b2;rw[hk]at hz;obtain⟨g,hg⟩:=ax b1;rw[au hg]at b2;rw[hk];refine cD ?_;refine mb (fun _=>(aI hg)) ?_;refine gC (fun t97=>?_) (fun t97=>?_) (st1:=(20,0));exact absurd t97 (by simp[aa,b2];omega);refine gl ?_;refine mb (fun h=>(aI (hz (Nt h)).1)) ?_;refine gC (fun t107=>?_) (fun t107=>?_) (st1:=(22,0));exact absurd t107 (by by_cases h9:0<(dI a.ms (splitG l).length).length;have h8:=(hz h9).2;simp[aa,h8];simp[aa];omega);refine ga aO ?_;exact aP J1 (i+1) hin
 refine af ?_;rfl
open Go.Proofs Go.Proofs.YtpdiojikejnehaaGreat
open Go.ChangeShapes Go.WideShapes Go.ChangeAt Go.RowKit
set_option maxRecDepth 100000 in
theorem PJ(os:Os)(started:os.Started)(H:Type)(enc:TypeId×Value->H) :
  ReturnsInHanded {} Tryz.checked os 10 .any (Rows.singularNearSpec.pre6 enc prog Tryz.f10 Rows.singularNearRow.domain false) (Rows.singularNearSpec.post enc prog Tryz.f10 false true false false):=by
 refine returnsInHanded_of_change_sized (C := Tryz.checked) own started (by kernel_rfl) func10
  (ChangeSpec.witness6 (enc:=enc) (C:=Tryz.checked) false ⟨#[],#[.agg #[.string ⟨#[]⟩,.slice none 0 0,.slice none 0 0,.slice none 0 0],.slice none 0 0],[]⟩ 8 (by kernel_rfl) (by kernel_rfl) (by kernel_rfl) (by kernel_rfl)) ?_
 intro W base args ds gs before hval0 hW hcnd hwt0 _;have hval:∀(j:Nat) t v,Tryz.f10.params[j]?=some t->args[j]?=some v->Value.okWide prog W .any base t v:=hval0;have hwt:(DataW.weightsEach prog (Tryz.f10.params.toList++Rows.singularNearSpec.plain.varTypes prog) (ds++gs)).all (· <= reachBytes)=true:=hwt0;have hW':=hW;obtain⟨p,q,hA0,hV,rfl,hfz,hnd⟩:=hW;have hA:DataW.TrodAll enc prog W 0 (fun _=>true) true Tryz.f10.params.toList args.toList ds p:=hA0;rw[Tryz.params10]at hA hval hwt;obtain⟨v0,v1,d0,d1,p0,p1,rfl,rfl,rfl,h0,h1⟩:=trodAll_two hA;obtain⟨rfl,rfl⟩:=trodVars_none hV;clear hA0 hval0 hwt0;have hlt:∀x∈p0++p1,x.block<W.heap.size:=fun x hx=>hW'.lt x (by simpa using hx)
 have hw0:∀n∈d0.weights prog 26,n<=reachBytes:=fun n hn=>by
  have:=List.all_eq_true.1 hwt n (DataW.weights_mem_each (j:=0) rfl rfl n hn);simpa using this
 have hw1:∀n∈d1.weights prog 88,n<=reachBytes:=fun n hn=>by
  have:=List.all_eq_true.1 hwt n (DataW.weights_mem_each (j:=1) rfl rfl n hn);simpa using this
 obtain⟨x0,q0,r0⟩:=PN Tryz.underlying26 K7 (hval 0 26 v0 rfl rfl) h0 hw0;obtain⟨x1,q1,r1⟩:=KH Lv (fun _=>rfl) (Uh Tryz.underlying88 (hval 1 88 v1 rfl rfl)) h1 hw1
 have hc:=iI.calls (W:=W) (vs:=#[v0,v1]) (Sh x0 q0 x1 q1.1 q1.2) rfl (fun j v x hv hx=>by
  match j,hv,hx with
  |0,hv,hx=>cases hv;cases hx;exact r0
  |1,hv,hx=>cases hv;cases hx;exact r1)
 refine hc.mono fun e W' ⟨he,hb⟩=>?_
 subst he;refine⟨_,rfl,OX hW' rfl rfl (fun _ _ _=>trodAll_mk1 (shut_bool Tryz.underlying4 _)) (fun sp hsp=>?_) rfl hb (ok_one (by kernel_rfl) rfl (okWide_bool_mk Tryz.underlying4 _))⟩;rw[Tryz.params10];have hs:∀x∈p0++p1,sp x.block=true:=fun x hx=>hsp x (by simpa using hx)
 have g0:=DR (sp':=sp) (by kernel_rfl) (of_decide_eq_true (by kernel_rfl)) h0 hb (fun x hx=>hlt x (by simp[hx])) (fun x hx=>hs x (by simp[hx]));have g1:=DR (sp':=sp) (by kernel_rfl) (of_decide_eq_true (by kernel_rfl)) h1 hb (fun x hx=>hlt x (by simp[hx])) (fun x hx=>hs x (by simp[hx]));have g:=trodAll_mk2 g0 g1;rw[show p0++p1++[]=p0++p1 from by simp];exact g
set_option maxRecDepth 100000 in
theorem Tm:prog.closure 10=[10,50,54,131,243,88,188,295,362,189,187,221,312,368,313,292,293,360,386,375,388,335,387,334,294,361,389,336,109,99,143,250,104,204,300,363,364,390,205,208,303,305,325,367,366,373,391,392,351,393,394,397,395,396,323,258,257,304,306,324,206,301,302,365,232,321,372,207,339,376,398,405,400,408,409,407,377,399,406,402,401,378,251,340,105,209,198,223,101,151,233,234,322,370,371,165,231,320,237,318,278,328,100,199,297,298,200,18,63,144,252,230,319,238,329,286,330,331,239,240,121,145,253,341,146,255,352,254,342,348,384,343,379,344,380,381,345,382,383,403,346,347,349,350,147,229,64,148,256,262,353,385,404,149,150,170,91,89,190,153,191,280,127,357,283,176,285,356,172,192,171,152,169,261,80,174,284,177,71,163,281,358,77,175,75,78,154,65,70,166,156,155,259,354,260,73,157,167,272,273,274,116,168,282,173,275,270,266,276,267,263,264,265,355,268,269,271,161,277,279,158,164,66,74,90,159,67,81,178,76,82,79,160,162,201,299,52,129,125,37,106,211,212,307,308,128,213,210,215,216,309,310,311,332,214,218,219,217,126,27,69,53,130,241,242,42,32,56,40,111,225,316,315,317,112,226,236,326,327,374,247,113,227,228,38,108,222,220,139,248,337,107,114,16,58,135,59,136,245,137,246,333,138,98,197,33,51,19,68]:=by kernel_rfl
theorem N4:joinedFacts prog 10 Tryz.f10 Rows.singularNearSpec Rows.singularNearRow=true:=by
 unfold joinedFacts Program.recurses Program.inPlace Program.unfollowed Program.varsNamed;rw[Tm,GP,Tv,Le,Sc,Ur,LQ]
 kernel_rfl
theorem singularNear_holds:Rows.SingularNearSaid :=
 OpenClaim.holds_of_wide 10 Tryz.f10 rfl rfl rfl rfl rfl rfl rfl ⟨rfl, rfl, rfl, rfl, rfl⟩ rfl rfl rfl rfl rfl (by kernel_rfl) func10 N4
  (of_decide_eq_true (by kernel_rfl)) (by unfold Func.isWrapper;first |(rw[XK (by decide +kernel)];kernel_rfl) |(rw[XJ (by decide +kernel)];exact⟨rfl,rfl⟩))
  (fun os started H enc _=>PJ os started H enc)
end Go.Lw
namespace Go.Proofs.YtpdiojikejnehaaGreat
theorem singularNear_proved:Rows.SingularNearSaid:=Go.Lw.singularNear_holds
end Go.Proofs.YtpdiojikejnehaaGreat
