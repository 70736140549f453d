/- AssembleHolds: for any linkage and any turns the law returns true and leaves its arguments as they were. No other condition. Part 7 of 8: what the later parts need -/
import Derived.Test.YtlilpljpajeafaaGreatWf
set_option linter.unusedVariables false
open List (mem_of_getElem? mem_cons_of_mem mem_append map_cons mem_cons length_cons foldl_cons mem_cons_self length_append length_nil getD_eq_getElem?_getD all_eq_true getElem?_take getElem?_map append_assoc getElem?_eq_getElem nil_append getElem?_replicate append_nil map_append length_take take_of_length_le drop_zero take_length map_nil not_mem_nil length_map map_map map_replicate map_set length_set)
open Nat (eq_of_beq_eq_true le_refl lt_or_ge le_trans mul_le_mul_right zero_le pow_add lt_of_le_of_lt)
open Option (map_eq_some_iff)
open Bool (and_eq_true or_eq_true)
open Int (toNat_natCast)
open Go.Proofs.Tryz
namespace Go.Lw
open Go.Proofs
theorem NP:Sub (.agg [bl (rt ((1:Int):Rat)).neg,ws (rt ((1:Int):Rat)).num,ws (rt ((1:Int):Rat)).den,.v (.bool false),nS,nS]) (qP (((1:Int):Rat),0)) :=
 Sub.agg (.cons (.refl _) (.cons (.refl _) (.cons (.refl _) (.cons (.refl _) (.cons (Sub.nil _ _ _) (.cons (Sub.nil _ _ _) .nil)))))) rfl
theorem q7{ts:LL}(q:Rat):sX (qE q:Et ts)=sh 0 (q:Rat):=yN _ _
def kJ(l:Li)(a:As)(i:Int)(j0:Jt)(x:Tn):Pq:=gU (((1:Int):Rat),0) ((qE (du x.half x.t.q),qE (dw x.half x.t.q)):P2 (llq a.rs)) (ai l j0 i) (aP l a j0 i)
def oB(l:Li)(a:As)(i:Int)(j0:Jt)(x:Tn):List AV×Nat:=if x.err≠0 then([],x.err)else([(⟨llq a.rs,[kJ l a i j0 x],1⟩:Sv).av],0)
theorem R6{l:Li}{g:Gr}{a:As}{x:Tn}(hx:x.t.ok)(hq:Qb 1000 x.t.q)(he:x.err≠0) :
  Con prog 62 [.ptr 1000 0,x.av] [(1000,some (cC l g a))] (.tup [.lst 3 [],bp x.err]) [(1000,some (cC l g a))]:=by
 refine gF func62 (fun k z h=>bq h) ?_;refine gc (FK x hx hq oz) ?_;refine gC (fun t20=>?_) (fun t20=>?_) (st2:=(77777,0))
 ·refine gR ?_;exact(ao.keep (bb rfl)).sub (Sub.tup (.cons (.nil _ _ _) (.cons (.refl _) .nil)))
 exact absurd (cQ t20) he
theorem Iy:Sm 3000 (((1:Int):Rat),(0:Rat)):=⟨Qb.one.mono oz,Qb.mono (e:=1) (q:=0) ⟨by decide,by decide⟩ oz⟩
theorem FH{E:Nat}(hE:E<=20000000000){l:Li}{a:As}(D:DyW l a)(h3:(llq a.rs).length<=2){body pt:Int}(h1:bn body l.bo.length=true)(h2:bn pt (cH l body).length=true)(hb:Pd E a body) :
  Nm (llq a.rs).length 62500000000 (sX (bJ l a body pt).1)/\Nm (llq a.rs).length 62500000000 (sX (bJ l a body pt).2):=by
 obtain⟨n,k,bd,m,b,hp⟩:=v6 D.hl D.li D.al D.hc h1 h2 hb;obtain⟨tw,_⟩:=cA D.al.tr D.hc;have kb:=DT h3;have qx:Qb 1000 m.x.q:=by rw[hp.mp.ex,bA];exact hp.mp.sm.x
 have qy:Qb 1000 m.y.q:=by rw[hp.mp.ey,bA];exact hp.mp.sm.y
 have h:=xK tw hp.ok qx qy;unfold bJ;rw[hp.eq];exact⟨h.1.mono oz,h.2.mono oz⟩
theorem Lq{E:Nat}(hE:E<=20000000000){l:Li}{a:As}(D:DyW l a)(h3:(llq a.rs).length<=2){i:Nat}{j:Jt}(hj:l.jo[i]?=some j){b:Int}(h:PinP E l a j b) :
  Nm (llq a.rs).length 62500000000 (sX (aP l a j b).1)/\Nm (llq a.rs).length 62500000000 (sX (aP l a j b).2):=by
 obtain⟨i1,i2,i3,i4,_⟩:=dZ D.li hj;unfold aP;rcases h.tie with⟨e,hb⟩ |⟨e,e2,hb⟩
 ·rw[if_pos e];exact FH hE D h3 i2 i4 hb
 ·rw[if_neg e];exact FH hE D h3 i1 i3 hb
theorem HH{E:Nat}(hE:E<=20000000000){l:Li}{a:As}(D:DyW l a)(h3:(llq a.rs).length<=2){n:Nat}{i:Int}{j0:Jt}(h0:l.jo[n]?=some j0)(p0:PinP E l a j0 i){x:Tn}(hq:Qb 1000 x.t.q) :
  BdP (llq a.rs) (((1:Int):Rat),(0:Rat)) ((qE (du x.half x.t.q),qE (dw x.half x.t.q)):P2 (llq a.rs)) (ai l j0 i) (aP l a j0 i):=by
 obtain⟨tw,etw⟩:=cA D.al.tr D.hc;have qc:=tE (half:=x.half) hq;have qs:=rU (half:=x.half) hq;have hs0:Sm 1000 (ai l j0 i):=ig D.hl D.li h0 p0.or;obtain⟨y1,y2⟩:=Lq hE D h3 h0 p0
 exact G1 (F := 80000000000) (W := 10000) (u := (((1 : Int) : Rat), (0 : Rat))) (p := ai l j0 i) (w := ((qE (du x.half x.t.q), qE (dw x.half x.t.q)) : P2 (llq a.rs))) (o := aP l a j0 i) tw h3 (DT h3) Iy (hs0.mono oz) (by decide +kernel)
  (by show Nm _ _ (sX (qE (du x.half x.t.q):Et (llq a.rs)));rw[q7];exact(nJ tw.five qc).mono oz) (by show Nm _ _ (sX (qE (dw x.half x.t.q):Et (llq a.rs)));rw[q7];exact(nJ tw.five qs).mono oz) y1 y2 oz oz oz
theorem JA{E:Nat}(hE:E<=20000000000){l:Li}{a:As}(D:DyW l a)(h3:(llq a.rs).length<=2){i z0 d:Int}{j0:Jt}(hg:GrOk l ⟨0,[i],[z0],d⟩)(h0:l.jo[z0.toNat]?=some j0)(p0:PinP E l a j0 i){x:Tn}(hx:x.t.ok)(hq:Qb 1000 x.t.q)(he:x.err=0) :
  Con prog 62 [.ptr 1000 0,x.av] [(1000,some (cC l ⟨0,[i],[z0],d⟩ a))] (.tup [.lst 3 [(⟨llq a.rs,[kJ l a i j0 x],1⟩:Sv).av],.v .nilIface]) [(1000,some (cC l ⟨0,[i],[z0],d⟩ a))]:=by
 obtain⟨tw,etw⟩:=cA D.al.tr D.hc;have hc:=FK x hx hq oz;rw[if_pos he,he]at hc;have hs:=Mg x hx hq oz;rw[if_pos he,he]at hs;have qc:=tE (half:=x.half) hq;have qs:=rU (half:=x.half) hq;have hs0:Sm 1000 (ai l j0 i):=ig D.hl D.li h0 p0.or;have hb:=A5 Iy (hs0.mono oz) (HH hE D h3 h0 p0 hq)
 have ew:da (P2.l ((qE (du x.half x.t.q),qE (dw x.half x.t.q)):P2 (llq a.rs)))=aA (sh 0 (du x.half x.t.q:Rat)) (sh 0 (dw x.half x.t.q:Rat)):=by
  show aA (sX (qE (du x.half x.t.q):Et (llq a.rs))) (sX (qE (dw x.half x.t.q):Et (llq a.rs)))=_;rw[q7,q7]
 rw[ew]at hb;have hcl:=z8 tw;have hcl2:FP 144 [cf a.rs] (aI (llq a.rs)):=by rw[etw];exact hcl
 refine gF func62 (fun k z h=>bq h) ?_;refine gc hc ?_;refine gC (fun t20=>?_) (fun t20=>?_) (st1:=(3,0));cases t20;refine gc hs ?_;refine gC (fun t28=>?_) (fun t28=>?_) (st1:=(6,0));cases t28;refine gi rfl ?_;refine gt (aR (tl hE D.hl D.li _ hg D.al D.hc (k:=0) rfl h0 h3 p0) (.cons (.tmp rfl) (.cons (.const _) (cI rfl))) rfl rfl rfl) ?_;refine gD ?_ (9,0);refine gW (Wk.of (sl:=[(0,some (.ptr 1000 0)),(6,some (.ptr 6 0)),(8,some (.ptr 8 0)),(9,some (.ptr 9 0)),(10,some (.ptr 10 0)),(11,some (.ptr 52 0))]) (hp:=[(1000,some (cC l ⟨0,[i],[z0],d⟩ a)),(6,some (.box [bl (rt (du x.half x.t.q)).neg,ws (rt (du x.half x.t.q)).num,ws (rt (du x.half x.t.q)).den])),(8,some (.box [bl (rt (dw x.half x.t.q)).neg,ws (rt (dw x.half x.t.q)).num,ws (rt (dw x.half x.t.q)).den])),(9,some (.box (qC (ai l j0 i)))),(10,some (.box [nA (sX (aP l a j0 i).1),nA (sX (aP l a j0 i).2)])),(52,some (a7 (llq a.rs)))]) aY (.k (.k (.k (.k (.k (.cons rfl (BlkSub.bL (.cons (.of (kq etw)) (.cons (.refl _) .nil)) rfl) .nil))))))) ?_
 refine gc (mo 1 oz) ?_;refine gc (uG (qc.qs oz) (qs.qs oz)) ?_;refine gt (aR (Con.rB 52 rfl rfl rfl rfl (Con.sA (.cons (.refl _) (.cons NP (.cons (.refl _) (.cons (.refl _) (.cons (.refl _) .nil))))) hb)) (.cons (.tmp rfl) (.cons (.tmp rfl) (az rfl rfl rfl))) rfl rfl rfl) ?_;refine gD ?_;refine gC (fun t67=>?_) (fun t67=>?_) (st1:=(12,0));cases t67;refine gc hcl2 ?_;refine gD ?_;refine gR ?_;exact ao.keep (bb rfl)
theorem UB{E:Nat}(hE:E<=20000000000){l:Li}{a:As}(D:DyW l a)(h3:(llq a.rs).length<=2){i z0 d:Int}{j0:Jt}(hg:GrOk l ⟨0,[i],[z0],d⟩)(h0:l.jo[z0.toNat]?=some j0)(p0:PinP E l a j0 i){x:Tn}(hx:x.t.ok)(hq:Qb 1000 x.t.q) :
  Con prog 62 [.ptr 1000 0,x.av] [(1000,some (cC l ⟨0,[i],[z0],d⟩ a))] (pi (oB l a i j0 x)) [(1000,some (cC l ⟨0,[i],[z0],d⟩ a))]:=by
 by_cases he:x.err=0
 ·have h:=JA hE D h3 hg h0 p0 hx hq he;unfold oB;rw[if_neg oz];exact h
 ·have h:=R6 (l:=l) (g:=⟨0,[i],[z0],d⟩) (a:=a) hx hq he;unfold oB;rw[if_pos he];exact h
def jB(l:Li)(a:As)(g:Gr)(x:Tn):List AV×Nat :=
  if g.kind=0 then oB l a (eW g 0) (dA l g 0) x
  else if g.kind=1 then mN l a (eW g 0) (eW g 1) (dA l g 0) (dA l g 1) (dA l g 2)
  else if g.kind=2 then no l a (eW g 0) (dA l g 0) (dA l g 1)
  else lr l a (eW g 0) (dA l g 0) (dA l g 1)
theorem yO{E:Nat}{l:Li}{k:Int}{a:As}{own:Bool}{n:Nat}{g:Gr}(h:DyOk E l k a own n g)(hk:g.kind=0):∃i z0 d j0,g=⟨0,[i],[z0],d⟩/\l.jo[z0.toNat]?=some j0/\PinP E l a j0 i:=by
 have hd:=h.dy;cases hd with
 |rrr _ _ _ _ _ _ _=>exact absurd hk (by simp)
 |pr _ _ _=>exact absurd hk (by simp)
 |rp _ _ _=>exact absurd hk (by simp)
 | @drv b z d j x t d0 hd hb=>exact⟨b,z,d,j,rfl,t.hj,h.pin rfl t (by simp) (by simp)⟩
theorem JG{l:Li}{k:Int}{x:Tn}{a:As}{E:Nat}(hop:FP 61 [l.av,i64 k,a.av,bl false] (.tup [.v (.pointer none),bp E]))(h0:E≠0) :
  FP 17 [l.av,i64 k,x.av,a.av] (.tup [.lst 3 [],bp E]):=by
 refine af func17 ?_;refine gc hop ?_;refine gC (fun t20=>?_) (fun t20=>?_) (st2:=(77777,0))
 ·refine gR ?_;exact dp (Sub.tup (.cons (.nil _ _ _) (.cons (.refl _) .nil)))
 exact absurd (cQ t20) h0
theorem KE{E:Nat}(hE:E<=20000000000){l:Li}{k:Int}{a:As}{n:Nat}{g:Gr}{x:Tn}(hx:x.t.ok)(hq:Qb 1000 x.t.q)(h3:(llq a.rs).length<=2)(hR:g.kind≠0->E=3900000/\DyS a)(hop:Con prog 61 [l.av,i64 k,a.av,bl false] [] (.tup [.ptr 900 0,.v .nilIface]) [(900,some (cC l g a))])(D:DyW l a)(ok:DyOk E l k a false n g) :
  FP 17 [l.av,i64 k,x.av,a.av] (pi (jB l a g x)):=by
 have hgo:=ok.ok;refine af func17 ?_;refine gt (ay hop (.cons (.tmp rfl) (.cons (.tmp rfl) (.cons (.tmp rfl) (.cons (.const _) .nil)))) aE rfl rfl) ?_ (2,0);refine gW (Wk.o (sl:=[(6,some (.ptr 6 0)),(10,some (.ptr 900 0)),(11,some (.v .nilIface))]) (hp:=[(6,some (.box x.av.cells)),(900,some (cC l g a))])) ?_;refine gC (fun t20=>?_) (fun t20=>?_) (st1:=(3,0));cases t20;refine gC (fun t27=>?_) (fun t27=>?_)
 ·have hk:g.kind = 0:=cT t27;obtain ⟨i,z0,d,j0,e,hj0,p0⟩:=yO ok hk;have eR:jB l a g x = oB l a i j0 x:=by unfold jB; rw [if_pos hk,e]; show oB l a i (l.jo.getD z0.toNat default) x = _; rw [aD hj0]
  subst e;refine gt (aR (Con.rB 900 rfl rfl rfl rfl (UB hE D h3 hgo hj0 p0 hx hq)) (bB rfl rfl) rfl rfl rfl) ?_;refine gR ?_;exact dp (Sub.of (by rw[eR];rfl))
 have hk0:g.kind≠0:=d5 t27;obtain⟨hE9,S⟩:=hR hk0;subst hE9;have D:DyR l a:=⟨D,S⟩
 have hn:=S.one D.hc;refine gC (fun t34=>?_) (fun t34=>?_)
 ·have hk:g.kind = 1:=cT t34;obtain ⟨i,k2,z0,z1,z2,j0,j1,j2,P⟩:=ok.rrr hk;obtain ⟨e0,e1,e2,b0,b1,_⟩:=P.at;have eR:jB l a g x = mN l a i k2 j0 j1 j2:=by unfold jB; rw [if_neg hk0,if_pos hk,e0,e1,e2,b0,b1]
  have e:=P.eq;subst e;refine gt (aR (Con.rB 900 rfl rfl rfl rfl (Jp D hn hgo P)) (cI rfl) rfl rfl rfl) ?_;refine gR ?_;exact dp (Sub.of (by rw[eR];rfl))
 have hk1:g.kind≠1:=d5 t34;refine gC (fun t40=>?_) (fun t40=>?_)
 ·have hk:g.kind = 2:=cT t40;obtain ⟨i,z0,z1,j0,j,P,ha,hb⟩:=ok.pr hk;obtain ⟨e0,e1,b0,_⟩:=P.at;have eR:jB l a g x = no l a i j0 j:=by unfold jB; rw [if_neg hk0,if_neg hk1,if_pos hk,e0,e1,b0]
  have e:=P.eq;subst e;refine gt (aR (Con.rB 900 rfl rfl rfl rfl (JE D hn hgo P ha hb)) (cI rfl) rfl rfl rfl) ?_;refine gR ?_;exact dp (Sub.of (by rw[eR];rfl))
 have hk2:g.kind≠2:=d5 t40;obtain⟨i,z0,z1,j0,j,P,_,hj,hb⟩:=ok.rp hk0 hk1 hk2;obtain⟨e0,e1,b0,_⟩:=P.at;have eR:jB l a g x=lr l a i j0 j:=by unfold jB;rw[if_neg hk0,if_neg hk1,if_neg hk2,e0,e1,b0]
 have e:=P.eq;subst e;refine gt (aR (Con.rB 900 rfl rfl rfl rfl (RQ D hn hgo P hj hb)) (cI rfl) rfl rfl rfl) ?_;refine gR ?_;exact dp (Sub.of (by rw[eR];rfl))
def vJ(l:Li)(k:Int)(x:Tn)(a:As):List AV×Nat:=if fC l k a false=0 then jB l a (ja l k) x else([],fC l k a false)
theorem Sk(l:Li)(hl:l.ok)(k:Int){x:Tn}(hx:x.t.ok)(hq:Qb 1000 x.t.q)(a:As)(al:AB a)(h3:a9 a.rs=0->(llq a.rs).length<=2){E:Nat}(hE:E<=20000000000)(hs:ry E l k a false)(hR:fC l k a false=0->(ja l k).kind≠0->E=3900000/\DyS a) :
  FP 17 [l.av,i64 k,x.av,a.av] (pi (vJ l k x a)):=by
 have hop:=Mz l hl k a al false;unfold vJ
 by_cases h0:fC l k a false=0
 ·obtain ⟨n, g, ok⟩:=BA hs h0;have hgA:ja l k = g:=by unfold ja; rw [ok.hk,toNat_natCast]; exact aD ok.hg
  have hR:=hR h0;rw[hgA]at hR;rw[h0,hgA]at hop;rw[if_pos h0,hgA];exact KE hE hx hq (h3 ok.chk) hR hop ⟨hl,ok.li,al,ok.chk⟩ ok
 ·rw[kZ h0,p4 h0]at hop;rw[if_neg h0];exact JG hop h0
theorem AL.sma{a:As}(al:AL a)(l:Li)(k:Int)(own:Bool):ry 3900000 l k a own:=fun b _ _ p hp x hx=>(al.nr p (mem_of_getElem? hp) x hx).mono oz
structure SvOk(s:Sv):Prop where
  tw:∃r,Tw s.ts r
  two:s.ts.length<=2
  ps:∀p∈s.ps,Pq.ok s.ts.length 80000000000 p
  ln:s.ps.length<=2
theorem mR(ts:LL)(x:T ts.length):gG ts x x=true:=by
 unfold gG subT;rw[T.add_neg,T.sgn_zero];rfl
theorem TN{ts:LL}{r:Nat}(tw:Tw ts r)(h2:ts.length<=2){p:Pq}(hp:Pq.ok ts.length 80000000000 p):FP 20 [aI ts,p.av,p.av] (bl true):=by
 have hl:lm ts.length=200000000000:=by unfold lm;rw[if_pos h2]
 have h:=Ri tw hp.c hp.s hp.x hp.y hp.c hp.s hp.x hp.y (by rw[hl];omega);rw[mR,mR,mR,mR]at h;exact h
structure SolP(S:List Sv)(kd:Int)(n b:Nat):Prop where
  two:S.length<=2
  ok:∀s∈S,SvOk s
  md:∀(i:Nat)(s:Sv),S[i]?=some s->s.mode=(if kd=0 then 1 else if S.length=2 then 1-2*(i:Int)else 0)/\s.ts.length=n+(if S.length=2 then 1 else 0)/\s.ps.length=b
theorem oq(kd:Int)(n b:Nat):SolP [] kd n b:=⟨by simp,by simp,by simp⟩
theorem u9(f:Nat->Sv)(n:Nat):((List.range n).map fun i=>(f i).av)=((List.range n).map f).map Sv.av:=by rw[map_map];rfl
theorem Mc{ts:LL}(p q:P2 ts)(z z2:Et ts)(h0:fR p q z z2=0):(eY p q z z2).ts.length=ts.length+(if(eY p q z z2).ps.length=2 then 1 else 0):=by
 unfold fR l0 at h0;unfold eY l7;split
 ·rename_i hd;rw[if_pos hd]at h0;split
  ·simp
  ·rename_i hz;split
   ·rename_i hp;rw[if_pos ⟨Decidable.not_not.1 hz,hp⟩]at h0;cases h0
   ·simp
 ·split
  ·simp
  ·split
   ·simp
   ·simp[dP]
theorem Mw{ts:LL}(p q o:P2 ts)(z:Et ts)(h0:fV p q=0):(fa p q o z).ts.length=ts.length+(if(fa p q o z).ps.length=2 then 1 else 0):=by
 unfold fV at h0;unfold fa;split
 ·rename_i hd;rw[if_pos hd]at h0;cases h0
 ·split
  ·simp
  ·split
   ·simp
   ·simp[dP]
def kj(m:Mt)(hs:List Hd):List Sv:=(List.range m.ps.length).map (kl m hs)
def lh(l:Li)(a:As)(i k:Int)(j0 j1 j2:Jt):List Sv :=
  if gw [b9 (ai l j2 i) (ai l j0 i),b9 (ai l j2 k) (ai l j1 k)]=true then[]
  else if fR (aP l a j0 i) (aP l a j1 k) (qE (bT (ai l j2 i) (ai l j0 i))) (qE (bT (ai l j2 k) (ai l j1 k)))≠0 then[]
  else kj (eY (aP l a j0 i) (aP l a j1 k) (qE (bT (ai l j2 i) (ai l j0 i))) (qE (bT (ai l j2 k) (ai l j1 k)))) [⟨ai l j0 i,P2.l (aP l a j0 i),ai l j2 i⟩,⟨ai l j1 k,P2.l (aP l a j1 k),ai l j2 k⟩]
def kP(l:Li)(a:As)(i:Int)(j0 j:Jt):List Sv :=
  if gw [b9 (a5 l i j.point) (ai l j0 i)]=true then[]
  else if fV (bJ l a j.b j.on) (bJ l a j.b j.to)≠0 then[]
  else kj (fa (bJ l a j.b j.on) (bJ l a j.b j.to) (aP l a j0 i) (qE (bT (a5 l i j.point) (ai l j0 i)))) [⟨ai l j0 i,P2.l (aP l a j0 i),a5 l i j.point⟩]
def kg(ts:LL)(R:Rp)(qs:LL):List Sv:=(List.range qs.length).map (jN ts R qs)
def kL(l:Li)(a:As)(i:Int)(j0 j:Jt):List Sv :=
  if ak (cJ l a i j0 j)=0/\ak (qE (cP l i j0 j):Et (llq a.rs))=0 then[]
  else if ak (bg l a i j0 j)<0 then[]
  else if 0<ak (bg l a i j0 j)then kg (aJ (llq a.rs) (sX (bg l a i j0 j))) (eg l a i j0 j) [cc (llq a.rs).length,sX (-bw (bg l a i j0 j))]
  else kg (llq a.rs) (eg l a i j0 j) [[]]
def kK(l:Li)(a:As)(i:Int)(j0:Jt)(x:Tn):List Sv:=if x.err≠0 then[]else[⟨llq a.rs,[kJ l a i j0 x],1⟩]
def fg(l:Li)(a:As)(g:Gr)(x:Tn):List Sv :=
  if g.kind=0 then kK l a (eW g 0) (dA l g 0) x
  else if g.kind=1 then lh l a (eW g 0) (eW g 1) (dA l g 0) (dA l g 1) (dA l g 2)
  else if g.kind=2 then kP l a (eW g 0) (dA l g 0) (dA l g 1)
  else kL l a (eW g 0) (dA l g 0) (dA l g 1)
theorem IQ(l:Li)(a:As)(i k:Int)(j0 j1 j2:Jt):(mN l a i k j0 j1 j2).1=(lh l a i k j0 j1 j2).map Sv.av:=by
 unfold mN lh;split
 ·rfl
 ·split
  ·rfl
  ·exact u9 _ _
theorem UL(l:Li)(a:As)(i:Int)(j0 j:Jt):(no l a i j0 j).1=(kP l a i j0 j).map Sv.av:=by
 unfold no kP;split
 ·rfl
 ·split
  ·rfl
  ·exact u9 _ _
theorem Kj(l:Li)(a:As)(i:Int)(j0 j:Jt):(lr l a i j0 j).1=(kL l a i j0 j).map Sv.av:=by
 unfold lr kL;split
 ·rfl
 ·split
  ·rfl
  ·split
   ·exact u9 _ _
   ·exact u9 _ _
theorem SC(l:Li)(a:As)(g:Gr)(x:Tn):(jB l a g x).1=(fg l a g x).map Sv.av:=by
 unfold jB fg;split
 ·unfold oB kK;split <;> rfl
 ·split
  ·exact IQ ..
  ·split
   ·exact UL ..
   ·exact Kj ..
theorem DI{ts:LL}{m:Mt}(ok:MtOk ts m){hs:List Hd}(hl:hs.length<=2)(H:∀x∈m.ps,∀h∈hs,HdP m.ts x h){kd:Int}(hk:kd≠0)(lv:m.ts.length=ts.length+(if m.ps.length=2 then 1 else 0)) :
  SolP (kj m hs) kd ts.length hs.length:=by
 have hln:=ok.ln;refine⟨by simpa[kj]using hln,?_,?_⟩
 ·intro s hs2;obtain⟨i,hi,rfl⟩:=List.mem_map.1 hs2;obtain⟨x,hx⟩:=aw (List.mem_range.1 hi);obtain⟨r,tw,_⟩:=ok.tw;refine⟨⟨r,tw⟩,ok.two,?_,by simpa[kl]using hl⟩;intro p hp;unfold kl at hp;rw[aD hx]at hp;obtain⟨h,hh,rfl⟩:=List.mem_map.1 hp;exact(H x (mem_of_getElem? hx) h hh).b.ok
 ·intro i s hi;unfold kj at hi;have hin:i < m.ps.length:=by have:=(List.getElem?_eq_some_iff.1 hi).1; simpa using this
  have e:s=kl m hs i:=by simp[hin]at hi;exact hi.symm
  subst e;have hlen:(kj m hs).length=m.ps.length:=by simp[kj]
  rw[hlen,if_neg hk];refine⟨?_,lv,by simp[kl]⟩;show(if m.ps.length=1 then 0 else 1-2*(i:Int))=_
  by_cases h2:m.ps.length=2
  ·rw[if_neg oz,if_pos h2]
  ·rw[if_pos oz,if_neg h2]
theorem Ro{l:Li}{a:As}(D:DyR l a)(hn:(llq a.rs).length<=1){g:Gr}{i k z0 z1 z2:Int}{j0 j1 j2:Jt}(P:RrrP 3900000 l a g i k z0 z1 z2 j0 j1 j2):SolP (lh l a i k j0 j1 j2) 1 (llq a.rs).length 2:=by
 have c:=D.s.ct D.hc;obtain⟨tw,etw⟩:=cA D.s.tr D.hc;have hq0:=ig D.hl D.li P.h0 P.p0.or;have hq1:=ig D.hl D.li P.h1 P.p1.or;have hq2:=ig D.hl D.li P.h2 P.t1;have hq3:=ig D.hl D.li P.h2 P.t2;obtain⟨y1,y2⟩:=ma D.hl D.li D.al D.s D.hc P.h0 P.p0;obtain⟨y3,y4⟩:=ma D.hl D.li D.al D.s D.hc P.h1 P.p1;haveI:=c;haveI q1:=qN hq2 hq0;haveI q2:=qN hq3 hq1;have z1:Zu 310000 65000 (qE (bT (ai l j2 i) (ai l j0 i)):Et (llq a.rs)) 3 0:=inferInstance;have z2:Zu 310000 65000 (qE (bT (ai l j2 k) (ai l j1 k)):Et (llq a.rs)) 3 0:=inferInstance;unfold lh
 by_cases h1:gw [b9 (ai l j2 i) (ai l j0 i),b9 (ai l j2 k) (ai l j1 k)]=true
 ·rw[if_pos h1];exact oq _ _ _
 ·rw[if_neg h1];obtain⟨w1,w2⟩:=ul (Bool.eq_false_iff.2 h1)
  by_cases h2:fR (aP l a j0 i) (aP l a j1 k) (qE (bT (ai l j2 i) (ai l j0 i))) (qE (bT (ai l j2 k) (ai l j1 k)))≠0
  ·rw[if_pos h2];exact oq _ _ _
  ·rw[if_neg h2];have h3:=Decidable.not_not.1 h2;have ok:=Hr (x:=(aP l a j0 i).1) (y:=(aP l a j0 i).2) (x2:=(aP l a j1 k).1) (y2:=(aP l a j1 k).2) tw hn c y1 y2 z1 y3 y4 z2 h3;exact DI ok (by simp) (fun x hx=>kT (pF ok hx (y1.nm.mono (by decide)) (y2.nm.mono (by decide)) hq0 hq2 w1) (pF ok hx (y3.nm.mono (by decide)) (y4.nm.mono (by decide)) hq1 hq3 w2)) (by decide) (Mc _ _ _ _ h3)
theorem TA{l:Li}{a:As}(D:DyR l a)(hn:(llq a.rs).length<=1){g:Gr}{i z0 z1:Int}{j0 j:Jt}(P:SlP 3900000 l a g 2 i z0 z1 j0 j)(ha:j.a=i)(hb:Pd 3900000 a j.b):SolP (kP l a i j0 j) 2 (llq a.rs).length 1:=by
 have c:=D.s.ct D.hc;obtain⟨tw,etw⟩:=cA D.s.tr D.hc;obtain⟨i1,i2,i3,i4,i5⟩:=dZ D.li P.h1;have hq2:Sm 1000 (a5 l i j.point):=by rw[<- ha];exact kQ D.hl D.li i1 i3
 have hq0:=ig D.hl D.li P.h0 P.p0.or;obtain⟨y1,y2⟩:=ma D.hl D.li D.al D.s D.hc P.h0 P.p0;obtain⟨y3,y4⟩:=mD D.hl D.li D.al D.s D.hc i2 i4 hb;obtain⟨y5,y6⟩:=mD D.hl D.li D.al D.s D.hc i2 (i5 P.hk) hb;haveI:=c;haveI q1:=qN hq2 hq0;have z1:Zu 310000 65000 (qE (bT (a5 l i j.point) (ai l j0 i)):Et (llq a.rs)) 3 0:=inferInstance;unfold kP
 by_cases h1:gw [b9 (a5 l i j.point) (ai l j0 i)]=true
 ·rw[if_pos h1];exact oq _ _ _
 ·rw[if_neg h1];have w1:=vQ (Bool.eq_false_iff.2 h1)
  by_cases h2:fV (bJ l a j.b j.on) (bJ l a j.b j.to)≠0
  ·rw[if_pos h2];exact oq _ _ _
  ·rw[if_neg h2];have h3:=Decidable.not_not.1 h2;have ok:=Dj (o:=aP l a j0 i) (p:=bJ l a j.b j.on) (q:=bJ l a j.b j.to) (z:=qE (bT (a5 l i j.point) (ai l j0 i))) tw hn c y1 y2 y3 y4 y5 y6 z1 h3;exact DI ok (by simp) (fun x hx=>iw (pF ok hx (y1.nm.mono (by decide)) (y2.nm.mono (by decide)) hq0 hq2 w1)) (by decide) (Mw _ _ _ _ h3)
theorem GG{ts T:LL}{R:Rp}{qs:LL}(ct:Cy T 773000000 1101400000)(hl:qs.length<=2)(h1:1<=qs.length)(H:∀q∈qs,RqP T R q)(lv:T.length=ts.length+(if qs.length=2 then 1 else 0)):SolP (kg T R qs) 3 ts.length 1:=by
 refine⟨by simpa[kg]using hl,?_,?_⟩
 ·intro s hs2;obtain⟨i,hi,rfl⟩:=List.mem_map.1 hs2;obtain⟨x,hx⟩:=aw (List.mem_range.1 hi);obtain⟨r,tw,_⟩:=ct.ex;refine⟨⟨r,tw⟩,ct.two,?_,by simp[jN]⟩;intro p hp;unfold jN at hp;rw[aD hx]at hp;rw[List.mem_singleton.1 hp];exact(H x (mem_of_getElem? hx)).b.ok
 ·intro i s hi;unfold kg at hi;have hin:i < qs.length:=by have:=(List.getElem?_eq_some_iff.1 hi).1; simpa using this
  have e:s=jN T R qs i:=by simp[hin]at hi;exact hi.symm
  subst e;have hlen:(kg T R qs).length=qs.length:=by simp[kg]
  rw[hlen,if_neg (by decide)];refine⟨?_,lv,by simp[jN]⟩;show(if qs.length=1 then 0 else 1-2*(i:Int))=_
  by_cases h2:qs.length=2
  ·rw[if_neg oz,if_pos h2]
  ·rw[if_pos oz,if_neg h2]
theorem Jd{l:Li}{a:As}(D:DyR l a)(hn:(llq a.rs).length<=1){g:Gr}{i z0 z1:Int}{j0 j:Jt}(P:SlP 3900000 l a g 3 i z0 z1 j0 j)(hj:j.b=i)(hb:Pd 3900000 a j.a):SolP (kL l a i j0 j) 3 (llq a.rs).length 1:=by
 obtain⟨tw,etw⟩:=cA D.s.tr D.hc;have F:=Fi D hn P hj hb;unfold kL
 by_cases h1:ak (cJ l a i j0 j)=0/\ak (qE (cP l i j0 j):Et (llq a.rs))=0
 ·rw[if_pos h1];exact oq _ _ _
 ·rw[if_neg h1]
  by_cases h2:ak (bg l a i j0 j)<0
  ·rw[if_pos h2];exact oq _ _ _
  ·rw[if_neg h2];have hd0:ak (cJ l a i j0 j)≠0:=wA tw h2 h1
   by_cases h3:0<ak (bg l a i j0 j)
   ·rw[if_pos h3];obtain⟨E,R1,R2,_⟩:=B5 F tw hn hd0 oz;exact GG (ts:=llq a.rs) (qs:=[cc (llq a.rs).length,sX (-bw (bg l a i j0 j))]) E.cy (le_refl 2) (by show 1<=2;omega) (kT R1 R2) (dP (llq a.rs) (sX (bg l a i j0 j)))
   ·rw[if_neg h3];obtain⟨cs,R0⟩:=DF F tw hn hd0;exact GG (ts:=llq a.rs) (qs:=[[]]) cs (by show 1<=2;omega) (le_refl 1) (iw R0) rfl
theorem OP{E:Nat}(hE:E<=20000000000){l:Li}{a:As}(D:DyW l a)(h3:(llq a.rs).length<=2){i z0:Int}{j0:Jt}(h0:l.jo[z0.toNat]?=some j0)(p0:PinP E l a j0 i){x:Tn}(hq:Qb 1000 x.t.q):SolP (kK l a i j0 x) 0 (llq a.rs).length 1:=by
 obtain⟨tw,etw⟩:=cA D.al.tr D.hc;unfold kK
 by_cases he:x.err≠0
 ·rw[if_pos he];exact oq _ _ _
 ·rw [if_neg he];refine ⟨by simp,iw ⟨⟨_,tw⟩,h3,iw (HH hE D h3 h0 p0 hq).ok,by show 1 <= 2; omega⟩,?_⟩;intro n s hs
  match n,hs with
  |0,hs=>cases hs;exact⟨rfl,rfl,rfl⟩
theorem HG{E:Nat}(hE:E<=20000000000){l:Li}{k:Int}{a:As}{n:Nat}{g:Gr}{x:Tn}(D:DyW l a)(h3:(llq a.rs).length<=2)(ok:DyOk E l k a false n g)(hR:g.kind≠0->E=3900000/\DyS a)(hq:Qb 1000 x.t.q):SolP (fg l a g x) g.kind (llq a.rs).length g.bo.length:=by
 unfold fg
 by_cases hk0:g.kind=0
 ·obtain⟨i,z0,d,j0,e,hj0,p0⟩:=yO ok hk0;rw[if_pos hk0,e];show SolP (kK l a i (l.jo.getD z0.toNat default) x) _ _ _;rw[aD hj0];exact OP hE D h3 hj0 p0 hq
 ·rw[if_neg hk0];obtain⟨hE9,S⟩:=hR hk0;subst hE9;have D:DyR l a:=⟨D,S⟩
  have hn:=S.one D.hc
  by_cases hk1:g.kind=1
  ·obtain⟨i,k2,z0,z1,z2,j0,j1,j2,P⟩:=ok.rrr hk1;obtain⟨e0,e1,e2,b0,b1,_⟩:=P.at;rw[if_pos hk1,e0,e1,e2,b0,b1,hk1,P.eq];exact Ro D hn P
  ·rw[if_neg hk1]
   by_cases hk2:g.kind=2
   ·obtain⟨i,z0,z1,j0,j,P,ha,hb⟩:=ok.pr hk2;obtain⟨e0,e1,b0,_⟩:=P.at;rw[if_pos hk2,e0,e1,b0,hk2,P.eq];exact TA D hn P ha hb
   ·obtain⟨i,z0,z1,j0,j,P,_,hj,hb⟩:=ok.rp hk0 hk1 hk2;obtain⟨e0,e1,b0,hk3⟩:=P.at;rw[if_neg hk2,e0,e1,b0,hk3,P.eq];exact Jd D hn P hj hb
theorem T.inv_congr{r r':(k:Nat)->T k}:∀(k:Nat),(∀j,j<k->r j=r' j)->∀x,T.inv r k x=T.inv r' k x
 |0,_,x=>rfl
 |k+1,h,x=>by
  have ih:=T.inv_congr k (fun j hj=>h j oz);have hm:=T.mul_congr k (fun j hj=>h j oz);have hs:=T.sgn_congr k (fun j hj=>h j oz)
  have hn:T.norm r k x=T.norm r' k x:=by
   unfold T.norm;rw[h k oz];simp only[hm]
  conv=>lhs;unfold T.inv
  conv=>rhs;unfold T.inv
  simp only[ih,hm,hs,hn]
def iH{n N:Nat}(x:T n):T N:=ad N (sh n x)
section
variable{n N:Nat}{r r':(k:Nat)->T k}
theorem jW(x:T n):(iH x:T (n+1))=(x,T.zero n):=by
 unfold iH;rw[fW (eM n x).le,a6]
theorem L1(hN:N=n+1)(h:∀j,j<n->r j=r' j)(x y:T n):(iH (T.mul r n x y):T N)=T.mul r' N (iH x) (iH y):=by
 subst hN;rw[jW,jW,jW,mul_low,T.zero_mul,T.mul_congr n h]
theorem QT(hN:N=n+1)(x y:T n):(iH (T.add n x y):T N)=T.add N (iH x) (iH y):=by
 subst hN;rw[jW,jW,jW];show(T.add n x y,T.zero n)=(T.add n x y,T.add n (T.zero n) (T.zero n));rw[T.zero_add]
theorem U3(hN:N=n+1)(x:T n):(iH (T.neg n x):T N)=T.neg N (iH x):=by
 subst hN;rw[jW,jW];show(T.neg n x,T.zero n)=(T.neg n x,T.neg n (T.zero n));rw[T.neg_zero]
theorem SZ(hN:N=n+1)(q:Rat):(iH (T.ofQ n q):T N)=T.ofQ N q:=by
 subst hN;rw[jW];rfl
theorem QW(hN:N=n+1)(h:∀j,j<n->r j=r' j)(x:T n):(iH (T.inv r n x):T N)=T.inv r' N (iH x):=by
 subst hN;rw[jW,jW,T.inv_low,T.inv_congr n h]
end
section
variable{ts:LL}(X:Et ts)
theorem B3{l:List Rat}(j:Nat)(hj:j<ts.length):aj ts j=aj (aJ ts l) j:=(wJ hj).symm
theorem fi(x y:Et ts):aL X (x*y)=aL X x*aL X y:=L1 (dP _ _) B3 x y
theorem sD(x y:Et ts):aL X (x+y)=aL X x+aL X y:=QT (dP _ _) x y
theorem F3(x:Et ts):aL X (-x)=-aL X x:=U3 (dP _ _) x
theorem nc(q:Rat):aL X (qE q)=qE q:=SZ (dP _ _) q
theorem oC(x:Et ts):aL X (iE x)=iE (aL X x):=QW (dP _ _) B3 x
end
theorem lE{ts:LL}:(qE ((1:Int):Rat):Et ts)=1:=rfl
theorem DO{ts:LL}:(qE ((-1:Int):Rat):Et ts)=-1:=by
 have h:=(T.ofQ_neg ts.length ((1:Nat):Rat))
 rw[show(((-1:Int):Rat))=-((1:Nat):Rat) by rfl];exact h
theorem Ac{ts:LL}(d:Et ts):ek d=d+d:=by
 have h:(qE ((2:Int):Rat):Et ts)=1+1:=by
  have h:=T.ofQ_add ts.length ((1:Nat):Rat) ((1:Nat):Rat);rw[show(((2:Int):Rat))=((1:Nat):Rat)+((1:Nat):Rat) by decide +kernel];exact h
 unfold ek;rw[h];grind
theorem z7{ts:LL}:(qE 0:Et ts)=0:=rfl
section
variable{ts:LL}
theorem EA(p q:P2 ts)(z z2:Et ts):eZ p q z z2=dS p ((qE ((1:Int):Rat)*iE (aC p q+aC p q))*(z+aC p q-z2)) (bu q p):=by
 unfold eZ fN dS;rw[Ac,lE];refine Prod.ext ?_ ?_
 ·show p.1+(z+aC p q-z2)*iE (aC p q+aC p q)*(q.1-p.1)=p.1+1*iE (aC p q+aC p q)*(z+aC p q-z2)*(q.1-p.1);grind
 ·show p.2+(z+aC p q-z2)*iE (aC p q+aC p q)*(q.2-p.2)=p.2+1*iE (aC p q+aC p q)*(z+aC p q-z2)*(q.2-p.2);grind
def kt(p q:P2 ts):P2 ts:=(qE ((1:Int):Rat)*iE (aC p q+aC p q)*(0-(bu q p).2),qE ((1:Int):Rat)*iE (aC p q+aC p q)*(bu q p).1)
theorem xB(X:Et ts)(f p q:P2 ts):ib X f (fN p q) (ee X (aC p q))=(aL X f.1+bw X*aL X (kt p q).1,aL X f.2+bw X*aL X (kt p q).2):=by
 unfold ib dS ee kt;rw[Ac,DO];refine Prod.ext ?_ ?_
 ·show aL X f.1+bw X*iE (aL X (aC p q+aC p q))*(-1*aL X (q.2-p.2))=aL X f.1+bw X*aL X (qE ((1:Int):Rat)*iE (aC p q+aC p q)*(0-(q.2-p.2)));rw[fi,fi,nc,oC,show(0:Et ts)-(q.2-p.2)=-(q.2-p.2) by grind,F3,lE];grind
 ·show aL X f.2+bw X*iE (aL X (aC p q+aC p q))*aL X (q.1-p.1)=aL X f.2+bw X*aL X (qE ((1:Int):Rat)*iE (aC p q+aC p q)*(q.1-p.1));rw[fi,fi,nc,oC,lE];grind
theorem By(X:Et ts)(f p q:P2 ts):ib X f (fN p q) (qE ((-1:Int):Rat)*ee X (aC p q))=(aL X f.1-bw X*aL X (kt p q).1,aL X f.2-bw X*aL X (kt p q).2):=by
 have h:=xB X f p q;have h1:=congrArg Prod.fst h;have h2:=congrArg Prod.snd h;unfold ib dS at h1 h2 ⊢;rw[DO]at h1 h2 ⊢;dsimp only at h1 h2;refine Prod.ext ?_ ?_
 ·dsimp only;grind
 ·dsimp only;grind
def jF(p q:P2 ts):P2 ts:=(qE ((1:Int):Rat)*iE (br p q)*(bu q p).1,qE ((1:Int):Rat)*iE (br p q)*(bu q p).2)
theorem HA(X:Et ts)(p q c:P2 ts):kf X p (bu q p) (fq X (br p q) (aL X (bS p q c)+bw X)) =
  (aL X (dS p (bS p q c*iE (br p q)) (bu q p)).1+bw X*aL X (jF p q).1,aL X (dS p (bS p q c*iE (br p q)) (bu q p)).2+bw X*aL X (jF p q).2):=by
 unfold kf fq jF dS;refine Prod.ext ?_ ?_
 ·dsimp only;rw[sD,fi,fi,fi,fi,oC,nc,lE];grind
 ·dsimp only;rw[sD,fi,fi,fi,fi,oC,nc,lE];grind
theorem CY(X:Et ts)(p q c:P2 ts):kf X p (bu q p) (fq X (br p q) (aL X (bS p q c)-bw X)) =
  (aL X (dS p (bS p q c*iE (br p q)) (bu q p)).1-bw X*aL X (jF p q).1,aL X (dS p (bS p q c*iE (br p q)) (bu q p)).2-bw X*aL X (jF p q).2):=by
 unfold kf fq jF dS;refine Prod.ext ?_ ?_
 ·dsimp only;rw[sD,fi,fi,fi,fi,oC,nc,lE];grind
 ·dsimp only;rw[sD,fi,fi,fi,fi,oC,nc,lE];grind
theorem vN(r:(k:Nat)->T k):∀(n:Nat)(q:Rat),T.inv r n (T.ofQ n q)=T.ofQ n (1/q)
 |0,q=>rfl
 |n+1,q=>by
  show T.inv r (n+1) (T.ofQ n q,T.zero n)=(T.ofQ n (1/q),T.zero n);rw[T.inv_low,vN r n q]
theorem zU:(iE (qE 1):Et ts)=1:=by
 show T.inv (aj ts) ts.length (T.ofQ ts.length 1)=_;rw[vN,show(1:Rat)/1=((1:Nat):Rat) by decide +kernel];rfl
end
theorem x8(r:(k:Nat)->T k)(q:Rat):∀(k:Nat){a c:List Rat},(∀i,i<2^k->c.getD i 0=q*a.getD i 0)->ad k c=T.mul r k (T.ofQ k q) (ad k a)
 |0,a,c,h=>h 0 (by decide)
 |k+1,a,c,h=>by
  have h1:=x8 r q k (a:=a.take (2^k)) (c:=c.take (2^k)) (fun i hi=>by rw[ky,ky,if_pos hi,if_pos hi];exact h i (by rw[Nat.pow_succ];omega));have h2:=x8 r q k (a:=a.drop (2^k)) (c:=c.drop (2^k)) (fun i hi=>by rw[kv,kv];exact h _ (by rw[Nat.pow_succ];omega));show(ad k (c.take (2^k)),ad k (c.drop (2^k)))=T.mul r (k+1) (T.ofQ k q,T.zero k) (ad k (a.take (2^k)),ad k (a.drop (2^k)));rw[T.mul_comm,T.mul_half,h1,h2,T.mul_comm r k (ad k (a.take _)),T.mul_comm r k (ad k (a.drop _))]
section
variable{ts:LL}
def Bz(e:Nat)(x:Et ts):Prop:=Nm ts.length e (sX x)
theorem Bz.mono{e f:Nat}{x:Et ts}(h:Bz e x)(hf:e<=f):Bz f x:=Nm.mono h hf
theorem Bz.add{e f:Nat}{x y:Et ts}(hx:Bz e x)(hy:Bz f y):Bz (e+f+1) (x+y):=Nm.addT hx hy
theorem Bz.sub{e f:Nat}{x y:Et ts}(hx:Bz e x)(hy:Bz f y):Bz (e+f+1) (x-y):=Nm.subT hx hy
theorem Bz.neg{e:Nat}{x:Et ts}(hx:Bz e x):Bz e (-x):=Nm.negT hx
theorem Bz.mul{r K e f:Nat}(tw:Tw ts r)(hK:eB r ts.length<=K){x y:Et ts}(hx:Bz e x)(hy:Bz f y):Bz (e+f+K) (x*y):=by
 have h:=Nm.mul tw rfl hx hy;have e1:∀z:Et ts,ad ts.length (sX z)=z:=fun z=>a6 _ _
 rw[e1,e1]at h;exact Nm.mono h (Nat.add_le_add_left hK _)
theorem Bz.q{e:Nat}{q:Rat}(h5:ts.length<=5)(hq:Cb e [q]):Bz e (qE q:Et ts):=by
 unfold Bz;rw[q7];exact Nm.ofQ h5 hq
theorem Bz.qm{e f:Nat}{q:Rat}{x:Et ts}(hq:Cb e [q])(hx:Bz f x):Bz (e+f) (qE q*x):=by
 obtain⟨D,N,h1,h2,h3⟩:=hq;obtain⟨D',N',k1,k2,k3⟩:=hx.cb;obtain⟨n,hn,hN⟩:=h1.2 q (List.mem_singleton.2 rfl);have hx2:ad ts.length (sX x)=x:=a6 _ _
 have hd:ad ts.length ((sX x).map (q*·))=T.mul (aj ts) ts.length (T.ofQ ts.length q) (ad ts.length (sX x)):=x8 _ q _ (fun i _=>by
  rw[getD_eq_getElem?_getD,getElem?_map,getD_eq_getElem?_getD];cases(sX x)[i]? with
  |none=>exact(Rat.mul_zero q).symm
  |some v=>rfl)
 rw[hx2]at hd
 have hc:Cb (e+f) ((sX x).map (q*·)):=by
  refine⟨D*D',N*N',⟨Nat.mul_pos h1.1 k1.1,?_⟩,?_,?_⟩
  ·intro z hz;obtain⟨y,hy,rfl⟩:=List.mem_map.1 hz;obtain⟨m,hm,hM⟩:=k1.2 y hy;refine⟨n*m,?_,?_⟩
   ·rw[Int.natCast_mul,Rat.intCast_mul,Rat.intCast_mul,<- hn,<- hm];grind
   ·rw[Int.natAbs_mul];exact Nat.mul_le_mul hN hM
  ·rw[pow_add];exact Nat.mul_le_mul h2 k2
  ·rw[pow_add];exact Nat.mul_le_mul h3 k3
 have hnl:Nl ts.length ((sX x).map (q*·)):=by
  rcases hx.nl with h |⟨j,hj,h⟩
  ·exact .inl (by rw[h];rfl)
  ·exact .inr ⟨j,hj,by rw[length_map];exact h⟩
 refine⟨hx.five,eM _ _,?_⟩;have:=hc.sh hnl;rw[hd]at this;exact this
theorem Bz.mq{e f:Nat}{q:Rat}{x:Et ts}(hx:Bz f x)(hq:Cb e [q]):Bz (e+f) (x*qE q):=by
 rw[show x*qE q=qE q*x by grind];exact hx.qm hq
theorem Bz.iq{e f:Nat}{q:Rat}{x:Et ts}(hx:Bz f x)(hq:Cb e [q])(h0:q≠0):Bz (e+f) (x*iE (qE q)):=by
 have h:(iE (qE q):Et ts)=qE (1/q):=vN _ _ q;rw[h];exact hx.mq (hq.inv1 h0)
theorem Bz.iv{r f j I:Nat}{y:Et ts}(tw:Tw ts r)(hy:Bz f y)(nb:Nl j (sX y))(hj:j<=ts.length)(h0:ak y≠0)(hI:iB r j f<=I)(hs:I<=50000000000):Bz I (iE y):=by
 have hf:=AP r j f;have hl:=km ts.length;have e1:ad ts.length (sX y)=y:=a6 _ _;obtain⟨L,_,k2,k3,k4⟩:=Bf (b:=sX y) tw hy hj nb (by rw[e1];exact h0) oz oz;rw[e1]at k4;have:=k3.sh k2;rw[k4]at this;exact⟨tw.five,eM _ _,this.mono hI⟩
structure Pz(n ec ex:Nat)(p:Pq):Prop where
  c:Nm n ec p.c
  s:Nm n ec p.s
  x:Nm n ex p.x
  y:Nm n ex p.y
theorem Pz.mono{n n' a b a' b':Nat}{p:Pq}(h:Pz n a b p)(hn:n<=n')(h5:n'<=5)(ha:a<=a')(hb:b<=b'):Pz n' a' b' p :=
 ⟨⟨h5,h.c.nl.mono hn,h.c.cb.mono ha⟩,⟨h5,h.s.nl.mono hn,h.s.cb.mono ha⟩,⟨h5,h.x.nl.mono hn,h.x.cb.mono hb⟩,⟨h5,h.y.nl.mono hn,h.y.cb.mono hb⟩⟩
theorem DB{s t e f:Nat}{u p:Rat×Rat}{w o:P2 ts}(hu:Sm t u)(hp:Sm s p)(h0:bW u u≠0)(w1:Bz e w.1)(w2:Bz e w.2)(o1:Bz f o.1)(o2:Bz f o.2) :
  Pz ts.length (2*e+6*t+2) (f+4*e+12*t+2*s+6) (gU u w p o):=by
 have u1:=Cb.one hu.x;have u2:=Cb.one hu.y;have p1:=Cb.one hp.x;have p2:=Cb.one hp.y;have n:=Cb.one (hu.dot hu);have c:=(((w1.qm u1).add (w2.qm u2)).iq n h0).mono (f:=2*e+6*t+2) oz;have d:=(((w2.qm u1).sub (w1.qm u2)).iq n h0).mono (f:=2*e+6*t+2) oz;exact⟨c,d,(o1.sub ((c.mq p1).sub (d.mq p2))).mono oz,(o2.sub ((d.mq p1).add (c.mq p2))).mono oz⟩
theorem p7{a:List Rat}{e:Nat}(h:Nm ts.length e a):Bz e (dE ts a):=by
 have:=h.cb.sh h.nl;exact⟨h.five,eM _ _,this⟩
theorem MW{s f:Nat}{p:Rat×Rat}{c d:Rat}{o:P2 ts}{g:Nat}(hc:Cb g [c])(hd:Cb g [d])(hp:Sm s p)(h5:ts.length<=5)(o1:Bz f o.1)(o2:Bz f o.2) :
  Pz ts.length (g+1) (f+2*g+2*s+4) (gU (((1:Int):Rat),0) ((qE c,qE d):P2 ts) p o):=by
 have e0:∀x:Et ts,(qE ((1:Int):Rat):Et ts)*x=x:=fun x=>by
  have:(qE ((1:Int):Rat):Et ts)=1:=rfl;rw[this];grind
 have e1:∀x:Et ts,(qE (0:Rat):Et ts)*x=0:=fun x=>by
  have:(qE (0:Rat):Et ts)=0:=rfl;rw[this];grind
 have e2:(iE (jP (((1:Int):Rat),0)):Et ts)=1:=by
  show iE (qE (bW (((1:Int):Rat),0) (((1:Int):Rat),0)))=_;rw[show bW (((1:Int):Rat),(0:Rat)) (((1:Int):Rat),(0:Rat))=1 by decide +kernel];exact zU
 have ec:dH (((1:Int):Rat),0) ((qE c,qE d):P2 ts)=qE c:=by
  unfold dH;rw[e0,e1,e2];grind
 have ed:dk (((1:Int):Rat),0) ((qE c,qE d):P2 ts)=qE d:=by
  unfold dk;rw[e0,e1,e2];grind
 have p1:=Cb.one hp.x;have p2:=Cb.one hp.y;have c1:Bz g (qE c:Et ts):=Bz.q h5 hc;have d1:Bz g (qE d:Et ts):=Bz.q h5 hd;refine⟨?_,?_,?_,?_⟩
 ·show Bz _ (dH _ _);rw[ec];exact c1.mono oz
 ·show Bz _ (dk _ _);rw[ed];exact d1.mono oz
 ·show Bz _ (qo _ _ p o);unfold qo;rw[ec,ed];exact(o1.sub ((c1.mq p1).sub (d1.mq p2))).mono oz
 ·show Bz _ (pH _ _ p o);unfold pH;rw[ec,ed];exact(o2.sub ((d1.mq p1).add (c1.mq p2))).mono oz
structure Xz(ts:LL)(r X:Nat)(us:LL):Prop where
  tw:Tw us (r+X)
  up:ts.length<=us.length
  ln:us.length<=ts.length+1
theorem xM{r X:Nat}(tw:Tw ts r)(hx:r+X<=5000000000):Xz ts r X ts:=⟨⟨tw.three,tw.len,tw.pos,tw.rb.mono oz,hx⟩,le_refl _,by omega⟩
theorem uu{r X:Nat}(tw:Tw ts r)(hn:ts.length<=1)(hx:r+X<=5000000000){x:Et ts}(h:Bz X x)(hs:0<=ak x):Xz ts r X (aJ ts (sX x)) :=
 ⟨xy tw oz h hx (by rw[show ad ts.length (sX x)=x from a6 _ _];exact hs),by rw[dP];omega,by rw[dP];omega⟩
theorem Bz.up{e:Nat}{X x:Et ts}(h:Bz e x)(hn:ts.length<=1):Bz e (aL X x):=by
 have h1:Nm (aJ ts (sX X)).length e (sX x):=lW h oz;exact p7 h1
structure Szs(n r a b X K K' I J:Nat):Prop where
  n1:n<=1
  hK:eB r n<=K
  hX:24*a+8*K+5*b+23<=X
  hL:r+X<=5000000000
  hK':eB (r+X) (n+1)<=K'
  hI:iB r n (8*a+2*K+8)<=I
  hJ:iB (r+X) n (8*a+2*K+8)<=J
  hJ':J<=50000000000
  kk:K<=K'
  ij:I<=J
theorem Szs.kx{n r a b X K K' I J:Nat}(h:Szs n r a b X K K' I J){us:LL}(hu:us.length<=n+1):eB (r+X) us.length<=K':=le_trans (g9 _ hu) h.hK'
section
variable{r a b X K K' I J:Nat}(Z:Szs ts.length r a b X K K' I J)(tw:Tw ts r)
include Z tw
theorem yY{p q:P2 ts}(p1:Bz a p.1)(p2:Bz a p.2)(q1:Bz a q.1)(q2:Bz a q.2):Bz (8*a+2*K+5) (oS (bu q p) (bu q p)):=by
 have v1:=q1.sub p1;have v2:=q2.sub p2;exact((v1.mul tw Z.hK v1).add (v2.mul tw Z.hK v2)).mono oz
theorem xt{y:Et ts}(hy:Bz (8*a+2*K+8) y)(h0:ak y≠0):Bz I (iE y) :=
 hy.iv tw (eM _ _) (le_refl _) h0 Z.hI (by have:=Z.ij;have:=Z.hJ';omega)
theorem yj{x y:Et ts}(hx:Bz X x)(hs:0<=ak x)(hy:Bz (8*a+2*K+8) y)(h0:ak y≠0):Bz J (iE (aL x y)):=by
 have E:=uu tw Z.n1 Z.hL hx hs
 have e1:sX (aL x y)=sX y:=by
  have:=(vc (X:=x) Z.n1 _ y hy).2;exact this
 refine(hy.up Z.n1).iv E.tw (j:=ts.length) (by rw[e1];exact eM _ _) E.up (by rw[oV];exact h0) Z.hJ Z.hJ'
theorem yd{x:Et ts}:Bz 1 (dE (aJ ts (sX x)) (cc ts.length)):=by have _:=tw;exact p7 (rI (by have:=Z.n1;omega))
theorem K7{p q:P2 ts}{z z2:Et ts}(p1:Bz a p.1)(p2:Bz a p.2)(q1:Bz a q.1)(q2:Bz a q.2)(hz:Bz b z)(hz2:Bz b z2)(h0:fR p q z z2=0) :
  Xz ts r X (eY p q z z2).ts/\∀m∈(eY p q z z2).ps,Nm (eY p q z z2).ts.length (13*a+2*b+5*K+2*K'+I+J+20) m.1/\Nm (eY p q z z2).ts.length (13*a+2*b+5*K+2*K'+I+J+20) m.2:=by
 have hn:=Z.n1;have hkk:=Z.kk;have hd:Bz (8*a+2*K+5) (aC p q):=yY Z tw (p:=q) (q:=p) q1 q2 p1 p2;have hm:=(hz.add hd).sub hz2;have q4:Cb 3 [((4:Int):Rat)]:=Cb.int (z:=4) (by decide);have q2':Cb 2 [((2:Int):Rat)]:=Cb.int (z:=2) (by decide);have qm1:Cb 1 [((-1:Int):Rat)]:=Cb.int (z:=-1) (by decide)
 have hX:Bz X (bC p z q z2):=by
  have h:=((hz.mul tw Z.hK hd).qm q4).sub (hm.mul tw Z.hK hm);have h2:=h.mono (f:=X) (by have:=Z.hX;omega);exact h2
 have same:=xM (X:=X) tw Z.hL;have v1:=q1.sub p1;have v2:=q2.sub p2;unfold fR l0 at h0;unfold eY l7
 by_cases hs:ak (aC p q)=0
 ·rw[if_pos hs]at h0 ⊢
  by_cases hz0:ak (z-z2)≠0
  ·rw[if_pos hz0];exact⟨same,fun m hm=>by cases hm⟩
  ·rw[if_neg hz0]
   by_cases hp:0<ak z
   ·rw[if_pos ⟨Decidable.not_not.1 hz0,hp⟩]at h0;cases h0
   ·rw[if_neg hp]
    have n0:Bz 0 (0:Et ts):=by
     have:=Bz.q (ts:=ts) (e:=0) (q:=0) oz (Cb.int (z:=0) (by decide));exact this
    refine⟨same,iw ⟨?_,?_⟩⟩
    ·exact(p1.add (n0.mul tw Z.hK p1)).mono (f:=13*a+2*b+5*K+2*K'+I+J+20) oz
    ·exact(p2.add (n0.mul tw Z.hK p2)).mono (f:=13*a+2*b+5*K+2*K'+I+J+20) oz
 ·rw [if_neg hs];have ht0:ak (ek (aC p q)) ≠ 0:=by rw [wF tw]; exact hs
  have ht:Bz (8*a+2*K+8) (ek (aC p q)):=Bz.mono (e:=2+(8*a+2*K+5)) (hd.qm q2') oz
  by_cases hx0:ak (bC p z q z2)<0
  ·rw[if_pos hx0];exact⟨same,fun m hm=>by cases hm⟩
  ·rw[if_neg hx0];have hk:=hm.mul tw Z.hK (xt Z tw ht ht0);have f1:Bz (11*a+2*b+4*K+I+10) (eZ p q z z2).1:=(p1.add (hk.mul tw Z.hK v1)).mono oz;have f2:Bz (11*a+2*b+4*K+I+10) (eZ p q z z2).2:=(p2.add (hk.mul tw Z.hK v2)).mono oz
   by_cases hx1:ak (bC p z q z2)=0
   ·rw[if_pos hx1];exact⟨same,iw ⟨f1.mono oz,f2.mono oz⟩⟩
   ·rw [if_neg hx1];have hpos:0 <= ak (bC p z q z2):=by omega
    have E:=uu tw hn Z.hL hX hpos;have hkx:=Z.kx E.ln;have s1:=(yd Z tw (x:=bC p z q z2)).mul E.tw hkx (yj Z tw hX hpos ht ht0);have s2:=s1.qm qm1;have w1:=(v2.up (X:=bC p z q z2) hn).qm qm1;have w2:=v1.up (X:=bC p z q z2) hn;have g1:=f1.up (X:=bC p z q z2) hn;have g2:=f2.up (X:=bC p z q z2) hn;exact⟨E,kT ⟨(g1.add (s1.mul E.tw hkx w1)).mono oz,(g2.add (s1.mul E.tw hkx w2)).mono oz⟩ ⟨(g1.add (s2.mul E.tw hkx w1)).mono oz,(g2.add (s2.mul E.tw hkx w2)).mono oz⟩⟩
theorem TF{p q o:P2 ts}{z:Et ts}(p1:Bz a p.1)(p2:Bz a p.2)(q1:Bz a q.1)(q2:Bz a q.2)(o1:Bz a o.1)(o2:Bz a o.2)(hz:Bz b z)(h0:fV p q=0) :
  Xz ts r X (fa p q o z).ts/\∀m∈(fa p q o z).ps,Nm (fa p q o z).ts.length (13*a+2*b+5*K+2*K'+I+J+20) m.1/\Nm (fa p q o z).ts.length (13*a+2*b+5*K+2*K'+I+J+20) m.2:=by
 have hn:=Z.n1;have hkk:=Z.kk;have hS:=(yY Z tw p1 p2 q1 q2)
 have v1:=q1.sub p1;have v2:=q2.sub p2;have w1:=o1.sub p1;have w2:=o2.sub p2;have hE:Bz (8*a+2*K+5) (bS p q o):=((v1.mul tw Z.hK w1).add (v2.mul tw Z.hK w2)).mono oz;have hC:Bz (8*a+2*K+5) (iR p q o):=((v1.mul tw Z.hK w2).sub (v2.mul tw Z.hK w1)).mono oz;have hX:Bz X (aU p q o z):=((hS.mul tw Z.hK hz).sub (hC.mul tw Z.hK hC)).mono (by have:=Z.hX;omega);have same:=xM (X:=X) tw Z.hL;unfold fV at h0;unfold fa
 by_cases hs:ak (br p q)=0
 ·rw[if_pos hs]at h0;cases h0
 ·rw[if_neg hs]
  by_cases h1:ak (aU p q o z)=-1
  ·rw[if_pos h1];exact⟨same,fun m hm=>by cases hm⟩
  ·rw[if_neg h1]
   by_cases h2:ak (aU p q o z)=0
   ·rw[if_pos h2];have hk:=hE.mul tw Z.hK (xt Z tw (hS.mono oz) hs);exact⟨same,iw ⟨(p1.add (hk.mul tw Z.hK v1)).mono (f:=13*a+2*b+5*K+2*K'+I+J+20) oz,(p2.add (hk.mul tw Z.hK v2)).mono (f:=13*a+2*b+5*K+2*K'+I+J+20) oz⟩⟩
   ·rw[if_neg h2]
    have hpos:0<=ak (aU p q o z):=by
     have:=T.sgn_cases (aj ts) ts.length (aU p q o z);have e:ak (aU p q o z)=T.sgn (aj ts) ts.length (aU p q o z):=rfl;omega
    have E:=uu tw hn Z.hL hX hpos;have hkx:=Z.kx E.ln;have hi:=yj Z tw hX hpos (hS.mono oz) hs;have rt:=yd Z tw (x:=aU p q o z);have k1:=((hE.up (X:=aU p q o z) hn).add rt).mul E.tw hkx hi;have k2:=((hE.up (X:=aU p q o z) hn).sub rt).mul E.tw hkx hi;have g1:=p1.up (X:=aU p q o z) hn;have g2:=p2.up (X:=aU p q o z) hn;have u1:=v1.up (X:=aU p q o z) hn;have u2:=v2.up (X:=aU p q o z) hn;exact⟨E,kT ⟨(g1.add (k1.mul E.tw hkx u1)).mono oz,(g2.add (k1.mul E.tw hkx u2)).mono oz⟩ ⟨(g1.add (k2.mul E.tw hkx u1)).mono oz,(g2.add (k2.mul E.tw hkx u2)).mono oz⟩⟩
end
end
def Cs(s:Nat)(l:Li):Prop:=∀b∈l.bo,∀m∈b.pts,Qb s m.x.q/\Qb s m.y.q
section
variable{s:Nat}{l:Li}(hl:l.ok)(hli:aB l=0)(hcs:Cs s l)
include hl hli hcs
theorem sr{body pt:Int}(h1:bn body l.bo.length=true)(h2:bn pt (cH l body).length=true):Sm s (a5 l body pt):=by
 obtain⟨n,k,bd,m,h⟩:=qS hl hli h1 h2;obtain⟨c1,c2⟩:=hcs bd (mem_of_getElem? h.gbd) m (mem_of_getElem? h.gm);rw[h.ex,bA]at c1;rw[h.ey,bA]at c2;exact⟨c1,c2⟩
theorem nH{i:Nat}{j:Jt}(hj:l.jo[i]?=some j){b:Int}(h:j.a=b\/j.b=b):Sm s (ai l j b):=by
 obtain⟨i1,i2,i3,i4,_⟩:=dZ hli hj;unfold ai
 by_cases e:j.a=b
 ·rw[if_pos e];subst e;exact sr hl hli hcs i1 i3
 ·rw[if_neg e];rcases h with h |h
  ·exact absurd h e
  ·subst h;exact sr hl hli hcs i2 i4
theorem ru{E r K:Nat}{a:As}(al:AB a)(hc:a9 a.rs=0)(tw:Tw (llq a.rs) r)(hK:eB r (llq a.rs).length<=K){body pt:Int}(h1:bn body l.bo.length=true)(h2:bn pt (cH l body).length=true)(hb:Pd E a body) :
  Bz (3*E+2*s+2*K+10) (bJ l a body pt).1/\Bz (3*E+2*s+2*K+10) (bJ l a body pt).2:=by
 obtain⟨n,k,bd,m,b,hp⟩:=v6 hl hli al hc h1 h2 hb;obtain⟨c1,c2⟩:=hcs bd (mem_of_getElem? hp.mp.gbd) m (mem_of_getElem? hp.mp.gm);have h:=xK tw hp.ok c1 c2;have hk:kB r (llq a.rs).length<=K:=hK;unfold bJ Bz;rw[hp.eq];exact⟨h.1.mono oz,h.2.mono oz⟩
theorem tf{E r K:Nat}{a:As}(al:AB a)(hc:a9 a.rs=0)(tw:Tw (llq a.rs) r)(hK:eB r (llq a.rs).length<=K){i:Nat}{j:Jt}(hj:l.jo[i]?=some j){b:Int}(h:PinP E l a j b) :
  Bz (3*E+2*s+2*K+10) (aP l a j b).1/\Bz (3*E+2*s+2*K+10) (aP l a j b).2:=by
 obtain⟨i1,i2,i3,i4,_⟩:=dZ hli hj;unfold aP;rcases h.tie with⟨e,hb⟩ |⟨e,e2,hb⟩
 ·rw[if_pos e];exact ru hl hli hcs al hc tw hK i2 i4 hb
 ·rw[if_neg e];exact ru hl hli hcs al hc tw hK i1 i3 hb
end
theorem Bz.upX{ts us:LL}{e:Nat}{x:Et ts}(h:Bz e x)(h1:ts.length<=us.length)(h5:us.length<=5):Bz e (dE us (sX x)):=p7 ⟨h5,Nl.mono h.nl h1,h.cb⟩
theorem xX{s:Nat}{p q:Rat×Rat}(hp:Sm s p)(hq:Sm s q):Cb (8*s+5) [bT p q]:=by
 have h:=(hp.sub hq).dot (hp.sub hq);exact Cb.one (h.mono oz)
abbrev wZ(a b K K' I J:Nat):Nat:=14*a+3*b+5*K+3*K'+I+J+25
abbrev oZ(s a b K K' I J:Nat):Nat:=a+4*wZ a b K K' I J+26*s+18
theorem ya{n a b ec ex e:Nat}{p:Pq}(h:Pz n ec ex p)(h1:ec<=e)(h2:ex<=e):Pq.ok n e p:=⟨h.c.mono h1,h.s.mono h1,h.x.mono h2,h.y.mono h2⟩
section
variable{ts:LL}{r a b X K K' I J:Nat}(Z:Szs ts.length r a b X K K' I J)(tw:Tw ts r)
include Z tw
theorem Gx{s:Nat}{m:Mt}(hx:Xz ts r X m.ts)(hm:∀x∈m.ps,Nm m.ts.length (13*a+2*b+5*K+2*K'+I+J+20) x.1/\Nm m.ts.length (13*a+2*b+5*K+2*K'+I+J+20) x.2){hs:List Hd}
  (hh:∀h∈hs,Sm s h.p/\Sm s h.c/\bW (b9 h.c h.p) (b9 h.c h.p)≠0/\∃o:P2 ts,h.a=P2.l o/\Bz a o.1/\Bz a o.2) :
  ∀sv∈kj m hs,Xz ts r X sv.ts/\∀p∈sv.ps,Pq.ok sv.ts.length (oZ s a b K K' I J) p:=by
 have _:=Z;have _:=tw;intro sv h1;unfold kj at h1;obtain⟨i,hi,rfl⟩:=List.mem_map.1 h1;obtain⟨x,hxx⟩:=aw (List.mem_range.1 hi);obtain⟨n1,n2⟩:=hm x (mem_of_getElem? hxx);refine⟨hx,fun p hp=>?_⟩;unfold kl at hp;rw[aD hxx]at hp;obtain⟨h,h2,rfl⟩:=List.mem_map.1 hp;obtain⟨hp1,hc1,h0,o,ea,o1,o2⟩:=hh h h2;have h5:=hx.tw.five;have u1:=o1.upX hx.up h5;have u2:=o2.upX hx.up h5;have w1:=p7 n1;have w2:=p7 n2;have e1:h.a.1=sX o.1:=by rw[ea]
 have e2:h.a.2=sX o.2:=by rw[ea]
 have z:=DB (ts:=m.ts) (u:=b9 h.c h.p) (p:=h.p) (w:=j7 m.ts h x) (o:=lX m.ts h) (e:=13*a+2*b+5*K+2*K'+I+J+20+a+1) (f:=a) (hc1.sub hp1) hp1 h0
  (by unfold j7;rw[e1];exact w1.sub u1) (by unfold j7;rw[e2];exact w2.sub u2) (by unfold lX;rw[e1];exact u1) (by unfold lX;rw[e2];exact u2)
 exact ya (a:=a) (b:=b) z (by show _<=a+4*(14*a+3*b+5*K+3*K'+I+J+25)+26*s+18;omega) (by show _<=a+4*(14*a+3*b+5*K+3*K'+I+J+25)+26*s+18;omega)
theorem N1{s:Nat}{us:LL}(hx:Xz ts r X us){R:Rp}{q:List Rat}(hv:Sm (2*s+1) R.v)(hp:Sm s R.p)(h0:bW R.v R.v≠0)(hq:Bz 1 (dE us q))(w1:Bz (2*a+1) (dE us R.w.1))(w2:Bz (2*a+1) (dE us R.w.2))(hh:Bz b (dE us R.h))
  (hd:Bz J (iE (dE us R.d))) (a1:Bz a (dE us R.a.1)) (a2:Bz a (dE us R.a.2)):Pq.ok us.length (oZ s a b K K' I J) (qJ us R q):=by
 have _:=tw;have hkx:=Z.kx hx.ln;have x1:=(((hq.mul hx.tw hkx w1).sub (hh.mul hx.tw hkx w2.neg)).mul hx.tw hkx hd)
 have x2:=(((hq.mul hx.tw hkx w2).sub (hh.mul hx.tw hkx w1)).mul hx.tw hkx hd)
 have z:=DB (ts:=us) (u:=R.v) (p:=R.p) (w:=nQ us q R.h R.d R.w) (o:=(dE us R.a.1,dE us R.a.2)) (e:=wZ a b K K' I J) (f:=a) hv hp h0
  (x1.mono (by show _<=14*a+3*b+5*K+3*K'+I+J+25;omega)) (x2.mono (by show _<=14*a+3*b+5*K+3*K'+I+J+25;omega)) a1 a2
 exact ya (a:=a) (b:=b) z (by show _<=a+4*(14*a+3*b+5*K+3*K'+I+J+25)+26*s+18;simp only[wZ];omega) (by show _<=a+4*(14*a+3*b+5*K+3*K'+I+J+25)+26*s+18;simp only[wZ];omega)
end
section
variable{s r b X K K' I J E:Nat}{l:Li}{a:As}(D:DyR l a)(hn:(llq a.rs).length<=1)(hcs:Cs s l)(tw:Tw (llq a.rs) r)
  (Z:Szs (llq a.rs).length r (3*E+2*s+2*K+10) b X K K' I J) (hb:8*s+5<=b)
include D hn hcs tw Z hb
theorem SG{g:Gr}{i k z0 z1 z2:Int}{j0 j1 j2:Jt}(P:RrrP E l a g i k z0 z1 z2 j0 j1 j2) :
  ∀sv∈lh l a i k j0 j1 j2,Xz (llq a.rs) r X sv.ts/\∀p∈sv.ps,Pq.ok sv.ts.length (oZ s (3*E+2*s+2*K+10) b K K' I J) p:=by
 have _:=hn;have hq0:=nH D.hl D.li hcs P.h0 P.p0.or;have hq1:=nH D.hl D.li hcs P.h1 P.p1.or;have hq2:=nH D.hl D.li hcs P.h2 P.t1;have hq3:=nH D.hl D.li hcs P.h2 P.t2;obtain⟨y1,y2⟩:=tf D.hl D.li hcs D.al D.hc tw Z.hK P.h0 P.p0;obtain⟨y3,y4⟩:=tf D.hl D.li hcs D.al D.hc tw Z.hK P.h1 P.p1;have z1:Bz b (qE (bT (ai l j2 i) (ai l j0 i)):Et (llq a.rs)):=Bz.q tw.five ((xX hq2 hq0).mono hb);have z2:Bz b (qE (bT (ai l j2 k) (ai l j1 k)):Et (llq a.rs)):=Bz.q tw.five ((xX hq3 hq1).mono hb);unfold lh
 by_cases h1:gw [b9 (ai l j2 i) (ai l j0 i),b9 (ai l j2 k) (ai l j1 k)]=true
 ·rw[if_pos h1];intro sv h;cases h
 ·rw[if_neg h1];obtain⟨w1,w2⟩:=ul (Bool.eq_false_iff.2 h1)
  by_cases h2:fR (aP l a j0 i) (aP l a j1 k) (qE (bT (ai l j2 i) (ai l j0 i))) (qE (bT (ai l j2 k) (ai l j1 k)))≠0
  ·rw[if_pos h2];intro sv h;cases h
  ·rw[if_neg h2];obtain⟨hx,hm⟩:=K7 Z tw y1 y2 y3 y4 z1 z2 (Decidable.not_not.1 h2);exact Gx Z tw hx hm (kT ⟨hq0,hq2,w1,_,rfl,y1,y2⟩ ⟨hq1,hq3,w2,_,rfl,y3,y4⟩)
theorem PT{g:Gr}{i z0 z1:Int}{j0 j:Jt}(P:SlP E l a g 2 i z0 z1 j0 j)(ha:j.a=i)(hbd:Pd E a j.b) :
  ∀sv∈kP l a i j0 j,Xz (llq a.rs) r X sv.ts/\∀p∈sv.ps,Pq.ok sv.ts.length (oZ s (3*E+2*s+2*K+10) b K K' I J) p:=by
 have _:=hn;obtain⟨i1,i2,i3,i4,i5⟩:=dZ D.li P.h1;have hq2:Sm s (a5 l i j.point):=by rw[<- ha];exact sr D.hl D.li hcs i1 i3
 have hq0:=nH D.hl D.li hcs P.h0 P.p0.or;obtain⟨y1,y2⟩:=tf D.hl D.li hcs D.al D.hc tw Z.hK P.h0 P.p0;obtain⟨y3,y4⟩:=ru D.hl D.li hcs D.al D.hc tw Z.hK i2 i4 hbd;obtain⟨y5,y6⟩:=ru D.hl D.li hcs D.al D.hc tw Z.hK i2 (i5 P.hk) hbd;have z1:Bz b (qE (bT (a5 l i j.point) (ai l j0 i)):Et (llq a.rs)):=Bz.q tw.five ((xX hq2 hq0).mono hb);unfold kP
 by_cases h1:gw [b9 (a5 l i j.point) (ai l j0 i)]=true
 ·rw[if_pos h1];intro sv h;cases h
 ·rw[if_neg h1];have w1:=vQ (Bool.eq_false_iff.2 h1)
  by_cases h2:fV (bJ l a j.b j.on) (bJ l a j.b j.to)≠0
  ·rw[if_pos h2];intro sv h;cases h
  ·rw[if_neg h2];obtain⟨hx,hm⟩:=TF Z tw y3 y4 y5 y6 y1 y2 z1 (Decidable.not_not.1 h2);exact Gx Z tw hx hm (iw ⟨hq0,hq2,w1,_,rfl,y1,y2⟩)
theorem UN{g:Gr}{i z0 z1:Int}{j0 j:Jt}(P:SlP E l a g 3 i z0 z1 j0 j)(hj:j.b=i)(hbd:Pd E a j.a) :
  ∀sv∈kL l a i j0 j,Xz (llq a.rs) r X sv.ts/\∀p∈sv.ps,Pq.ok sv.ts.length (oZ s (3*E+2*s+2*K+10) b K K' I J) p:=by
 obtain⟨i1,i2,i3,i4,i5⟩:=dZ D.li P.h1;have hs0:=nH D.hl D.li hcs P.h0 P.p0.or;have hs1:Sm s (a5 l i j.on):=by rw[<- hj];exact sr D.hl D.li hcs i2 i4
 have hs2:Sm s (a5 l i j.to):=by rw[<- hj];exact sr D.hl D.li hcs i2 (i5 P.hk)
 have hv:Sm (2*s+1) (dh l i j):=(hs2.sub hs1).mono oz;have qn:Cb b [jE l i j]:=(Cb.one (hv.dot hv)).mono oz;have qh:Cb b [cP l i j0 j]:=(Cb.one (hv.cross (hs1.sub hs0))).mono oz;obtain⟨o1,o2⟩:=tf D.hl D.li hcs D.al D.hc tw Z.hK P.h0 P.p0;obtain⟨p1,p2⟩:=ru D.hl D.li hcs D.al D.hc tw Z.hK i1 i3 hbd;have w1:Bz (2*(3*E+2*s+2*K+10)+1) (dt l a i j0 j).1:=Bz.mono (p1.sub o1) oz;have w2:Bz (2*(3*E+2*s+2*K+10)+1) (dt l a i j0 j).2:=Bz.mono (p2.sub o2) oz;have hd:Bz (8*(3*E+2*s+2*K+10)+2*K+8) (cJ l a i j0 j):=Bz.mono (yY Z tw (p:=aP l a j0 i) (q:=bJ l a j.a j.point) o1 o2 p1 p2) oz;have hX:Bz X (bg l a i j0 j):=Bz.mono ((hd.qm qn).sub ((Bz.q tw.five qh).qm qh)) (by have:=Z.hX;omega);have h0:=x7 D.li P.h1 P.hk hj;unfold kL
 by_cases h1:ak (cJ l a i j0 j)=0/\ak (qE (cP l i j0 j):Et (llq a.rs))=0
 ·rw[if_pos h1];intro sv h;cases h
 ·rw[if_neg h1]
  by_cases h2:ak (bg l a i j0 j)<0
  ·rw[if_pos h2];intro sv h;cases h
  ·rw[if_neg h2];have hd0:ak (cJ l a i j0 j)≠0:=wA tw h2 h1
   have key:∀us,Xz (llq a.rs) r X us->Bz J (iE (dE us (sX (cJ l a i j0 j))))->∀q,Bz 1 (dE us q)->Pq.ok us.length (oZ s (3*E+2*s+2*K+10) b K K' I J) (qJ us (eg l a i j0 j) q):=by
    intro us hx hi q hq;have h5:=hx.tw.five
    have hh:Bz b (dE us (sh 0 (cP l i j0 j:Rat))):=by
     have e:dE us (sh 0 (cP l i j0 j:Rat))=qE (cP l i j0 j):=jK _ _;rw[e];exact Bz.q h5 qh
    exact N1 Z tw hx (R:=eg l a i j0 j) hv hs0 h0 hq (w1.upX hx.up h5) (w2.upX hx.up h5) hh hi (o1.upX hx.up h5) (o2.upX hx.up h5)
   by_cases h3:0<ak (bg l a i j0 j)
   ·rw [if_pos h3];have hx:=uu tw hn Z.hL hX oz;have hi:=yj Z tw hX (by omega:0 <= ak (bg l a i j0 j)) hd hd0;have rt:=yd Z tw (x:=bg l a i j0 j);have k:=key _ hx hi;intro sv h;unfold kg at h;obtain ⟨n,hn2,rfl⟩:=List.mem_map.1 h;refine ⟨hx,fun p hp=>?_⟩;unfold jN at hp;rw [List.mem_singleton.1 hp]
    match n,List.mem_range.1 hn2 with
    |0,_=>exact k _ rt
    |1,_ =>
     refine k _ ?_;show Bz 1 (dE _ (sX (-bw (bg l a i j0 j))));have e:dE (aJ (llq a.rs) (sX (bg l a i j0 j))) (sX (-bw (bg l a i j0 j)))=-bw (bg l a i j0 j):=a6 _ _;rw[e];exact rt.neg
   ·rw[if_neg h3];have hx:=xM (X:=X) tw Z.hL;have e:dE (llq a.rs) (sX (cJ l a i j0 j))=cJ l a i j0 j:=a6 _ _
    have hi:Bz J (iE (dE (llq a.rs) (sX (cJ l a i j0 j)))):=by
     rw[e];exact(xt Z tw hd hd0).mono Z.ij
    have k:=key _ hx hi;intro sv h;unfold kg at h;obtain⟨n,hn2,rfl⟩:=List.mem_map.1 h;refine⟨hx,fun p hp=>?_⟩;unfold jN at hp;rw[List.mem_singleton.1 hp]
    match n,List.mem_range.1 hn2 with
    |0,_=>exact k _ (p7 ⟨tw.five,.inl rfl,⟨1,0,⟨by decide,fun q h=>by cases h⟩,by decide,by decide⟩⟩)
end
theorem Eo{k:List Bool}{i:Nat}{b:Int}(h:kn (k.set i true) b=true):kn k b=true\/i=b.toNat:=by
 unfold kn at h ⊢
 by_cases e:i=b.toNat
 ·exact .inr e
 ·rw[getD_eq_getElem?_getD,List.getElem?_set_ne e,<- getD_eq_getElem?_getD]at h;exact .inl h
theorem yF:∀(bs:List Int){k:List Bool}{b:Int},kn (bm k bs) b=true->kn k b=true\/∃x∈bs,x.toNat=b.toNat
 |[],k,b,h=>.inl h
 |x::bs,k,b,h=>by
  have h:kn (bm (k.set x.toNat true) bs) b=true:=h;rcases yF bs h with h |⟨y,hy,e⟩
  ·rcases Eo h with h |h
   ·exact .inl h
   ·exact .inr ⟨x,mem_cons_self,h⟩
  ·exact .inr ⟨y,mem_cons_of_mem _ hy,e⟩
def tp(l:Li)(kw:List Bool)(out:List Gr):Prop:=∀d∈l.dv,kn kw d.body=true->∃g∈out,g.kind=0/\g.bo=[d.body]
theorem Rh{l:Li}{d:Dr}(hd:d∈l.dv){b:Int}(h:d.body=b):mX l b=true:=by
 unfold mX;rw[List.any_eq_true];exact⟨d,hd,by simp[h]⟩
theorem F8{l:Li}{kw:List Bool}{g:Gr}(h:cM l kw=some g):∀x∈g.bo,ep l kw x=true:=by
 unfold cM at h;rw[map_eq_some_iff]at h;obtain⟨i,hi,h⟩:=h;obtain⟨h1,h2⟩:=eU hi;split at h
 ·rename_i k hk;subst h;unfold gj at hk;rw [map_eq_some_iff] at hk;obtain ⟨k',hk',rfl⟩:=hk;obtain ⟨h3,h4⟩:=eU hk';rw [show i + 1 + k' = k' + (i + 1) by omega] at h4;unfold dz at h4;simp only [Bool.not_eq_false',and_eq_true,decide_eq_true_eq] at h4;obtain ⟨⟨f1,f2⟩,_⟩:=h4;intro x hx;simp only [gy,mem_cons,not_mem_nil,or_false] at hx;rcases hx with rfl | rfl
  ·exact f1
  ·exact f2
 ·rename_i hk;rw[hk]at h2;cases h2
theorem C6{l:Li}{kw:List Bool}{g:Gr}(h:d8 l kw=some g):∀x∈g.bo,ep l kw x=true:=by
 unfold d8 at h;rw[map_eq_some_iff]at h;obtain⟨i,hi,rfl⟩:=h;obtain⟨h1,h2⟩:=eU hi;unfold fw at h2;simp only[Bool.not_eq_false',and_eq_true,decide_eq_true_eq]at h2;intro x hx;simp only[gM,mem_cons,not_mem_nil,or_false]at hx;subst hx;exact h2.1
theorem ND{l:Li}(hl:aB l=0){kw:List Bool}{out:List Gr}{g:Gr}(h:tp l kw out)(hg:bY l kw=some g):tp l (bm kw g.bo) (out++[g]):=by
 intro d hd hk;have ho:=uP hl hg;rcases yF g.bo hk with h1 |⟨x,hx,e⟩
 ·obtain⟨g',h2,h3⟩:=h d hd h1;exact⟨g',List.mem_append_left _ h2,h3⟩
 ·obtain ⟨i, hi⟩:=List.getElem?_of_mem hd;have hb:=dj (lc hl hi);have hx0:=(ho.b x hx).1;have ex:d.body = x:=by omega
  unfold bY at hg;cases h1:di l kw with
  |some g' =>
   rw[h1]at hg;cases hg
   refine⟨g,List.mem_append_right _ (List.mem_singleton.2 rfl),?_⟩;unfold di at h1;rw[map_eq_some_iff]at h1;obtain⟨i,_,rfl⟩:=h1;refine⟨rfl,?_⟩;rw[List.mem_singleton.1 hx]at ex;rw[ex]
  |none =>
   rw[h1]at hg
   have hf:ep l kw x=true:=by
    cases h2:cM l kw with
    |some g'=>rw[h2]at hg;cases hg;exact F8 h2 x hx
    |none=>rw[h2]at hg;exact C6 hg x hx
   unfold ep at hf;rw[Rh hd ex]at hf;simp at hf
theorem Di{l:Li}(hl:aB l=0):∀(n:Nat)(kw:List Bool)(out:List Gr),tp l kw out->tp l (co l n kw out).1 (co l n kw out).2
 |0,kw,out,h=>h
 |n+1,kw,out,h=>by
  unfold co;cases hg:bY l kw with
  |none=>exact h
  |some g=>exact Di hl n _ _ (ND hl h hg)
theorem u7{l:Li}(hl:aB l=0){i:Nat}{d:Dr}(hd:l.dv[i]?=some d):d.body≠0/\∀j d',j<i->l.dv[j]?=some d'->d'.body≠d.body:=by
 have h1:=(cW hl).2.2.1;unfold f9 at h1;split at h1
 ·cases h1
 ·have h2:=rE h1 i (List.getElem?_eq_some_iff.1 hd).1;unfold dU at h2;rw[aD hd]at h2;split at h2
  ·cases h2
  ·split at h2
   ·cases h2
   ·split at h2
    ·cases h2
    ·split at h2
     ·cases h2
     ·rename_i h4;split at h2
      ·cases h2
      ·rename_i h5;refine⟨h4,fun j d' hj hd' e=>h5 ?_⟩;rw[List.any_eq_true];exact⟨d',mem_of_getElem? (by rw[getElem?_take,if_pos hj];exact hd'),by simpa using e⟩
theorem Ep{α:Type}{p:α->Bool}:∀{l:List α}{x y:α},x∈l->y∈l->x≠y->p x=true->p y=true->2<=l.countP p
 |z::l,x,y,hx,hy,hn,px,py=>by
  have pos:∀w,w∈l->p w=true->0<l.countP p:=fun w hw pw=>List.countP_pos_iff.2 ⟨w,hw,pw⟩
  rcases List.mem_cons.1 hx with e |hx
  ·rcases List.mem_cons.1 hy with e2 |hy
   ·exact absurd (e.trans e2.symm) hn
   ·have h9:=pos y hy py;rw[List.countP_cons_of_pos (e▸px)];omega
  ·rcases List.mem_cons.1 hy with e |hy
   ·have h9:=pos x hx px;rw[List.countP_cons_of_pos (e▸py)];omega
   ·have:=Ep hx hy hn px py;rw[List.countP_cons];omega
theorem xx{l:Li}(hl:aB l=0):l.dv.length<=2:=by
 have h1:=(cW hl).2.2.1;unfold f9 at h1;split at h1
 ·cases h1
 ·omega
theorem Fo{l:Li}(hl:aB l=0)(hs:cm l=0):∀d∈l.dv,∃g∈aN l,g.kind=0/\g.bo=[d.body]:=by
 have h0:tp l (cB l.bo.length 0) []:=by
  intro d hd hk;obtain⟨i,hi⟩:=List.getElem?_of_mem hd;have hb:=dj (lc hl hi);rw[oM oz oz oz]at hk;exact absurd (of_decide_eq_true hk) (u7 hl hi).1
 have h1:=Di hl l.bo.length _ _ h0;rw[CP]at h1;intro d hd;obtain⟨i,hi⟩:=List.getElem?_of_mem hd;have hb:=dj (lc hl hi)
 have hz:(eD (bM l)).length=0:=by
  unfold cm at hs;split at hs
  ·omega
  ·cases hs
 rw[vA]at hz
 have hlen:(bM l).length=l.bo.length:=by
  have:∀(gs:List Gr)(k:List Bool),(gs.foldl (fun k g=>bm k g.bo) k).length=k.length:=by
   intro gs
   induction gs with
   |nil=>intro k;rfl
   |cons g gs ih=>intro k;rw[foldl_cons,ih,i9]
  unfold bM;rw[this,ia]
 have hk:kn (bM l) d.body=true:=by
  unfold kn;rw[getD_eq_getElem?_getD,getElem?_eq_getElem (by omega:d.body.toNat<(bM l).length)];show(bM l)[d.body.toNat]=true;cases hv:(bM l)[d.body.toNat]'oz with
  |true=>rfl
  |false =>
   exfalso;have hm:false∈bM l:=hv▸List.getElem_mem _;rw[<- List.contains_iff_mem]at hm;rw[hm]at hz;cases hz
 obtain⟨g,hg,h2⟩:=h1 d hd hk;refine⟨g,?_,h2⟩;unfold aN;rw[if_pos hs];exact hg
theorem SB{l:Li}(hl:aB l=0)(hs:cm l=0):l.dv.length<=(aN l).countP (fun g=>decide (g.kind=0)):=by
 have h2:=xx hl;have hg:=Fo hl hs
 match hd:l.dv with
 |[]=>simp
 |[d] =>
  obtain⟨g,h3,h4,_⟩:=hg d (by rw[hd];simp);exact List.countP_pos_iff.2 ⟨g,h3,by simpa using h4⟩
 |[d,d'] =>
  obtain⟨g,h3,h4,h5⟩:=hg d (by rw[hd];simp);obtain⟨g',h3',h4',h5'⟩:=hg d' (by rw[hd];simp);refine Ep h3 h3' ?_ (by simpa using h4) (by simpa using h4');intro e;rw[e,h5']at h5;exact(u7 hl (i:=1) (d:=d') (by rw[hd];rfl)).2 0 d oz (by rw[hd];rfl) (by simpa using h5.symm)
 |_::_::_::_=>rw[hd]at h2;simp only[length_cons]at h2;omega
structure Aq where
  ts:LL
  bs:List Pq
  ms:List Int
instance:Inhabited Pq:=⟨⟨[],[],[],[]⟩⟩
instance:Inhabited Aq:=⟨⟨[],[],[]⟩⟩
def Pq.pl(p:Pq):Pl:=⟨p.c.map rt,p.s.map rt,p.x.map rt,p.y.map rt⟩
def Aq.as(a:Aq):As:=⟨a.ts.map (List.map rt),a.bs.map Pq.pl,a.ms⟩
theorem Pq.pl_av(p:Pq):p.pl.av=p.av:=by unfold Pl.av Pq.av Pq.pl;rw[df,df,df,df]
abbrev Aq.cs(a:Aq):List AV:=[.lst 1 (a.ts.map nA),.lst 4 (a.bs.map Pq.av),.lst 1 (a.ms.map i64)]
abbrev Aq.av(a:Aq):AV:=.agg a.cs
theorem Aq.as_av(a:Aq):a.as.av=a.av:=by
 unfold As.av Aq.as Aq.av Aq.cs;rw[map_map,map_map];congr 3
 ·exact List.map_congr_left (fun x _=>df x)
 ·congr 1;exact List.map_congr_left (fun x _=>Pq.pl_av x)
theorem Aq.llq(a:Aq):Lw.llq a.as.rs=a.ts:=mY _
def bK(bs:List Pq)(is:List Int)(ps:List Pq):List Pq:=(is.zip ps).foldl (fun k x=>k.set x.1.toNat x.2) bs
def Aq.nxt(a:Aq)(g:Gr)(s:Sv):Aq:=⟨s.ts,bK a.bs g.bo s.ps,a.ms++[s.mode]⟩
def bF:Pq:=⟨[],[],[],[]⟩
def kA:Pq:=⟨[1],[],[],[]⟩
def fK(l:Li):Aq:=⟨[],(List.replicate l.bo.length bF).set 0 kA,[]⟩
def fF:Tn:=⟨⟨false,[],[]⟩,false⟩
def cg(g:Gr)(xs:List Tn):Tn:=if g.kind=0 then xs.getD g.driver.toNat fF else fF
theorem EX:∀(zs:List (Int×Pq))(bs:List Pq),(zs.foldl (fun k x=>k.set x.1.toNat x.2) bs).length=bs.length
 |[],bs=>rfl
 |z::zs,bs=>by rw[foldl_cons,EX zs,length_set]
theorem Id:∀(zs:List (Int×Pq))(bs:List Pq)(p:Pq),p∈zs.foldl (fun k x=>k.set x.1.toNat x.2) bs->p∈bs\/∃z∈zs,z.2=p
 |[],bs,p,h=>.inl h
 |z::zs,bs,p,h=>by
  rw[foldl_cons]at h;rcases Id zs _ p h with h |⟨z',hz,e⟩
  ·rcases List.mem_or_eq_of_mem_set h with h |h
   ·exact .inl h
   ·exact .inr ⟨z,mem_cons_self,h.symm⟩
  ·exact .inr ⟨z',mem_cons_of_mem _ hz,e⟩
theorem tZ(bs:List Pq)(is:List Int)(ps:List Pq):(bK bs is ps).length=bs.length:=EX _ _
theorem Gz{bs:List Pq}{is:List Int}{ps:List Pq}{p:Pq}(h:p∈bK bs is ps):p∈bs\/p∈ps:=by
 rcases Id _ _ _ h with h |⟨z,hz,e⟩
 ·exact .inl h
 ·exact .inr (e▸(List.of_mem_zip hz).2)
theorem Ue{bs:List Pq}{is:List Int}{ps:List Pq}{i:Nat}{b:Int}{p:Pq}(hb:is[i]?=some b)(hp:ps[i]?=some p) :
  bK bs (is.take (i+1)) (ps.take (i+1))=(bK bs (is.take i) (ps.take i)).set b.toNat p:=by
 have h1:is.take (i+1)=is.take i++[b]:=by rw[List.take_add_one,hb];rfl
 have h2:ps.take (i+1)=ps.take i++[p]:=by rw[List.take_add_one,hp];rfl
 have hl1:=(List.getElem?_eq_some_iff.1 hb).1;have hl2:=(List.getElem?_eq_some_iff.1 hp).1;unfold bK;rw[h1,h2,List.zip_append (by rw[length_take,length_take];omega),List.foldl_append];rfl
def lB(s j r E:Nat):Nat:=3*E+2*s+2*eB r j+10
def kC(s j r E:Nat):Nat:=24*lB s j r E+8*eB r j+5*(8*s+5)+23
def E9(s j r E:Nat):Nat:=iB r j (8*lB s j r E+2*eB r j+8)
def wh(s j r E:Nat):Nat:=iB (r+kC s j r E) j (8*lB s j r E+2*eB r j+8)
def sM(s j r E:Nat):Nat:=oZ s (lB s j r E) (8*s+5) (eB r j) (eB (r+kC s j r E) (j+1)) (E9 s j r E) (wh s j r E)
def mP(s g j r E:Nat):Nat:=lB s j r E+2*g+2*s+4
def eG(s g:Nat):Nat->Nat->Nat->Nat->Nat->Bool
  |0,_,j,r,E=>decide (E<=3200000000/\r<=400000000/\j<=2)
  |n+1,y,j,r,E=>decide (E<=3200000000/\r<=400000000/\j<=2)&&(eG s g n y j r (mP s g j r E) &&
      (decide (y=0)||(decide (j<=1/\E<=3900000/\r<=64990/\r+kC s j r E<=5000000000/\wh s j r E<=50000000000)&&eG s g n (y-1) (j+1) (r+kC s j r E) (sM s j r E))))
theorem BO:eG 32 134 3 1 0 0 2=true:=by decide +kernel
theorem MT:eG 9 42 4 2 0 0 2=true:=by decide +kernel
theorem uE{s g n y j r E:Nat}(h:eG s g n y j r E=true):E<=3200000000/\r<=400000000/\j<=2:=by
 cases n with
 |zero=>exact of_decide_eq_true h
 |succ n =>
  unfold eG at h;simp only[and_eq_true,decide_eq_true_eq]at h;exact⟨h.1.1,h.1.2.1,h.1.2.2⟩
theorem MO{s g n y j r E:Nat}(h:eG s g n y j r E=true):E<=50000000000/\r<=400000000/\j<=2:=by
 have:=uE h;omega
theorem rJ{s g n y j r E:Nat}(h:eG s g (n+1) y j r E=true):(E<=20000000000/\r<=400000000/\j<=2)/\eG s g n y j r (mP s g j r E)=true:=by
 unfold eG at h;simp only[and_eq_true,decide_eq_true_eq]at h;exact⟨⟨by omega,h.1.2⟩,h.2.1⟩
theorem sF{s g n y j r E:Nat}(h:eG s g (n+1) (y+1) j r E=true):(j<=1/\E<=3900000/\r<=64990/\r+kC s j r E<=5000000000/\wh s j r E<=50000000000)/\eG s g n y (j+1) (r+kC s j r E) (sM s j r E)=true:=by
 unfold eG at h;simp only[and_eq_true,or_eq_true,decide_eq_true_eq,Nat.add_sub_cancel]at h;rcases h.2.2 with h1 |h1
 ·omega
 ·exact h1
structure QInv(l:Li)(j r E:Nat)(a:Aq):Prop where
  tw:Tw a.ts r
  lv:a.ts.length<=j
  bs:∀p∈a.bs,Pq.ok a.ts.length E p
  ln:a.bs.length=l.bo.length
theorem Pq.ok.up{n n' e e':Nat}{p:Pq}(h:Pq.ok n e p)(hn:n<=n')(h5:n'<=5)(he:e<=e'):Pq.ok n' e' p :=
 ⟨⟨h5,h.c.nl.mono hn,h.c.cb.mono he⟩,⟨h5,h.s.nl.mono hn,h.s.cb.mono he⟩,⟨h5,h.x.nl.mono hn,h.x.cb.mono he⟩,⟨h5,h.y.nl.mono hn,h.y.cb.mono he⟩⟩
theorem Pq.ok.lv{n m e:Nat}{p:Pq}(h:Pq.ok n e p)(hn:n=m):Pq.ok m e p:=hn▸h
theorem vU{r r':Nat}(h:r<=r'):∀j,eB r j<=eB r' j
 |0=>le_refl _
 |j+1=>by have:=vU h j;simp only[eB];omega
theorem H6{r r':Nat}(h:r<=r'):∀j e,iB r j e<=iB r' j e
 |0,e=>le_refl _
 |j+1,e=>by
  have h1:=vU h j;have h2:=vU h (j+1);have h3:=H6 h j (4*e+3*eB r j+r+1);have h4:=uK r' j (e:=4*e+3*eB r j+r+1) (f:=4*e+3*eB r' j+r'+1) oz;simp only[iB];omega
theorem vi:Pq.ok 0 2 bF:=by
 have h:Nm 0 2 []:=⟨by omega,.inl rfl,⟨1,0,⟨by decide,fun q h=>by cases h⟩,by decide,by decide⟩⟩
 exact⟨h,h,h,h⟩
theorem Ml:Pq.ok 0 2 kA:=by
 have h:Nm 0 2 [1]:=⟨by omega,.inr ⟨0,le_refl _,rfl⟩,Cb.mono (Cb.int (z:=1) (e:=1) (by decide)) oz⟩
 exact⟨h,vi.c,vi.c,vi.c⟩
theorem ud:Tw [] 0:=⟨by decide,(fun j h=>by cases h),(fun j h=>by cases h),⟨1,1,by decide,(fun d h=>by cases h),by decide,by decide⟩,by omega⟩
theorem IB(l:Li):QInv l 0 0 2 (fK l):=by
 refine⟨ud,le_refl _,fun p hp=>?_,by simp[fK]⟩;rcases List.mem_or_eq_of_mem_set hp with h |h
 ·rw[(List.mem_replicate.1 h).2];exact vi
 ·rw[h];exact Ml
theorem Pq.ok.nr{n e:Nat}{p:Pq}(h:Pq.ok n e p)(he:e<=lm n):∀x∈p.pl.l,NR x e:=by
 intro x hx;simp only[Pl.l,Pq.pl,mem_cons,not_mem_nil,or_false]at hx;rcases hx with rfl |rfl |rfl |rfl
 ·exact h.c.rt he
 ·exact h.s.rt he
 ·exact h.x.rt he
 ·exact h.y.rt he
theorem Pq.ok.num{n e:Nat}{p:Pq}(h:Pq.ok n e p):∀x∈p.pl.l,bN n x=0:=by
 intro x hx;simp only[Pl.l,Pq.pl,mem_cons,not_mem_nil,or_false]at hx;rcases hx with rfl |rfl |rfl |rfl
 ·exact qk h.c.nl
 ·exact qk h.s.nl
 ·exact qk h.x.nl
 ·exact qk h.y.nl
section
variable{l:Li}{j r E:Nat}{a:Aq}(Q:QInv l j r E a)
include Q
theorem QInv.chk:a9 a.as.rs=0:=Q.tw.chk
theorem QInv.mem{p:Pl}(h:p∈a.as.bs):∃q∈a.bs,q.pl=p:=by have _:=Q;exact List.mem_map.1 h
theorem QInv.nr(hE:E<=50000000000){p:Pl}(h:p∈a.as.bs):∀x∈p.l,NR x E:=by
 obtain⟨q,hq,rfl⟩:=Q.mem h;exact(Q.bs q hq).nr (le_trans hE (km _))
theorem QInv.ab(hl:aB l=0)(hE:E<=50000000000)(hr:r<=400000000):AB a.as:=by
 refine⟨Q.tw.tr.mono hr oz,fun p hp x hx=>(Q.nr hE hp x hx).mono hE,?_,?_⟩
 ·show(a.ts.map _).length<=8;rw[length_map];have:=Q.tw.three;omega
 ·show(a.bs.map _).length<=30;rw[length_map,Q.ln];have:=(cW hl).2.2.2.1;omega
theorem QInv.sma(hE:E<=50000000000){F:Nat}(hF:E<=F)(k:Int)(own:Bool):ry F l k a.as own :=
 fun b _ _ p hp x hx=>(Q.nr hE (mem_of_getElem? hp) x hx).mono hF
theorem QInv.nd(hl:aB l=0){g:Gr}(hg:GrOk l g){own:Bool}:∀b∈cK l g own,gf a.as b=0:=by
 intro b hb;unfold gf;split
 ·rfl
 ·have h1:=Aa hl hg b hb;obtain ⟨p,hp⟩:=aw (l:=a.bs) (i:=b.toNat) (by rw [Q.ln]; omega);have e:a.as.bs[b.toNat]? = some p.pl:=by show (a.bs.map Pq.pl)[b.toNat]? = _; rw [getElem?_map,hp]; rfl
  rw[aD e];unfold aV;rw[if_neg (by rw[Q.chk];simp)];have e2:a.as.rs.length=a.ts.length:=length_map _;rw[e2];exact oA (fun x hx=>(Q.bs p (mem_of_getElem? hp)).num x hx)
theorem QInv.dy0(hl:aB l=0)(hs:cm l=0){k:Nat}{g:Gr}(hg:(aN l)[k]?=some g)(own:Bool):fC l k a.as own=0:=by
 have hk:=(List.getElem?_eq_some_iff.1 hg).1;obtain⟨_,ho⟩:=tL hl (mem_of_getElem? hg);have hgA:ja l (k:Nat)=g:=aD hg;rw[qj hl,EB hs oz (by show(a.bs.map _).length=_;rw[length_map,Q.ln]) Q.chk,hgA];exact oA (fun b hb=>Q.nd hl ho b (zI.1 hb))
end
structure WkC(l:Li)(xs:List Tn)(s g:Nat):Prop where
  hl:l.ok
  li:aB l=0
  sp:cm l=0
  cs:Cs s l
  ln:xs.length=l.dv.length
  ok:∀x∈xs,x.t.ok/\x.err=0/\Qb 1000 x.t.q/\Cb g [du x.half x.t.q]/\Cb g [dw x.half x.t.q]
theorem CJ{l:Li}{g:Gr}(h:DyK l g)(hk:g.kind=0):0<=g.driver/\g.driver<l.dv.length:=by
 cases h with
 | @drv b z d _ _ t d0 hd hb=>have:=(List.getElem?_eq_some_iff.1 hd).1;exact⟨d0,by show d<_;omega⟩
 |rrr=>exact absurd hk (by simp)
 |pr=>exact absurd hk (by simp)
 |rp=>exact absurd hk (by simp)
theorem zi:fF.t.ok:=⟨(fun x h=>by cases h),(fun x h=>by cases h),zero_le _,zero_le _⟩
theorem Ca:Qb 1000 fF.t.q:=by
 have e:fF.t.q=0:=by decide +kernel
 rw[e];exact Qb.zero.mono oz
section
variable{l:Li}{xs:List Tn}{s g:Nat}(W:WkC l xs s g){k:Nat}{gr:Gr}(hg:(aN l)[k]?=some gr)
include W hg
theorem WkC.grp:DyK l gr/\GrOk l gr:=tL W.li (mem_of_getElem? hg)
theorem WkC.tn:(cg gr xs).t.ok/\Qb 1000 (cg gr xs).t.q/\(gr.kind=0->∃x∈xs,cg gr xs=x):=by
 unfold cg
 by_cases hk:gr.kind=0
 ·rw[if_pos hk];have h:=CJ (W.grp hg).1 hk;obtain⟨x,hx⟩:=aw (l:=xs) (i:=gr.driver.toNat) (by rw[W.ln];omega);rw[aD hx];have hm:=mem_of_getElem? hx;exact⟨(W.ok x hm).1,(W.ok x hm).2.2.1,fun _=>⟨x,hm,rfl⟩⟩
 ·rw[if_neg hk];exact⟨zi,Ca,fun h=>absurd h hk⟩
variable{j r E:Nat}{a:Aq}(Q:QInv l j r E a)
include Q
theorem QInv.dyOk{F:Nat}(hE:E<=50000000000)(hF:E<=F):DyOk F l k a.as false k gr:=by
 obtain⟨i,g',h⟩:=BA (Q.sma hE hF k false) (Q.dy0 W.li W.sp hg false);have e:i=k:=by have:=h.hk;omega
 subst e;have:=h.hg;rw[hg]at this;cases this;exact h
theorem QInv.dyS(hr:r<=64990)(hj:j<=1):DyS a.as:=by have _:=W;have _:=hg;exact⟨Q.tw.tr.mono hr oz,fun _=>by rw[a.llq];exact le_trans Q.lv hj⟩
theorem QInv.dyW(hE:E<=50000000000)(hr:r<=400000000):DyW l a.as:=by have _:=hg;exact⟨W.hl,W.li,Q.ab W.li hE hr,Q.chk⟩
theorem QInv.twl:Tw (Lw.llq a.as.rs) r:=by have _:=W;have _:=hg;rw[a.llq];exact Q.tw
theorem QInv.drv{n y:Nat}(ok:eG s g (n+1) y j r E=true)(hk:gr.kind=0):∀sv∈fg l a.as gr (cg gr xs),QInv l j r (mP s g j r E) (a.nxt gr sv):=by
 obtain⟨⟨hE,hr,hj⟩,_⟩:=rJ ok;have D:=QInv.dyW W hg Q oz hr;have O:=QInv.dyOk W hg Q (F:=E) oz (le_refl _);obtain⟨i,z0,d,j0,e,hj0,p0⟩:=yO O hk;obtain⟨_,_,hx⟩:=W.tn hg;obtain⟨x,hx,ex⟩:=hx hk;obtain⟨_,he,_,hc,hs⟩:=W.ok x hx;have hlen:(Lw.llq a.as.rs).length=a.ts.length:=by rw[a.llq]
 have tw:=QInv.twl W hg Q;have hq0:=nH W.hl W.li W.cs hj0 p0.or;have hK:eB r (Lw.llq a.as.rs).length<=eB r j:=g9 r (by rw[hlen];exact Q.lv);obtain⟨o1,o2⟩:=tf W.hl W.li W.cs D.al D.hc tw hK hj0 p0;rw[ex];unfold fg;rw[if_pos hk,e];show ∀sv∈kK l a.as i (l.jo.getD z0.toNat default) x,_;rw[aD hj0];unfold kK;rw[if_neg oz];have hp:=MW (ts:=Lw.llq a.as.rs) (p:=ai l j0 i) (o:=aP l a.as j0 i) hc hs hq0 tw.five o1 o2
 have hp2:Pq.ok a.ts.length (mP s g j r E) (kJ l a.as i j0 x):=by
  have:=ya (a:=0) (b:=0) hp (e:=mP s g j r E) (by unfold mP lB;omega) (by unfold mP lB;omega);exact Pq.ok.lv this hlen
 refine iw ⟨?_,?_,?_,?_⟩
 ·exact tw
 ·show(Lw.llq a.as.rs).length<=j;rw[hlen];exact Q.lv
 ·intro p hp3;show Pq.ok (Lw.llq a.as.rs).length _ p;rw[hlen];rcases Gz hp3 with h |h
  ·exact(Q.bs p h).up (le_refl _) Q.tw.five (by unfold mP lB;omega)
  ·rw[List.mem_singleton.1 h];exact hp2
 ·exact(tZ _ _ _).trans Q.ln
theorem QInv.dy{n y:Nat}(ok:eG s g (n+1) (y+1) j r E=true)(hk:gr.kind≠0):∀sv∈fg l a.as gr (cg gr xs),QInv l (j+1) (r+kC s j r E) (sM s j r E) (a.nxt gr sv):=by
 obtain⟨⟨hj,hE,hr,hX,hJ⟩,_⟩:=sF ok;have D:DyR l a.as:=⟨QInv.dyW W hg Q oz oz,QInv.dyS W hg Q hr hj⟩
 have O:=QInv.dyOk W hg Q (F:=E) oz (le_refl _);have hlen:(Lw.llq a.as.rs).length=a.ts.length:=by rw[a.llq]
 have hlv:(Lw.llq a.as.rs).length<=j:=by rw[hlen];exact Q.lv
 have tw:=QInv.twl W hg Q
 have Z:Szs (Lw.llq a.as.rs).length r (3*E+2*s+2*eB r j+10) (8*s+5) (kC s j r E) (eB r j) (eB (r+kC s j r E) (j+1)) (E9 s j r E) (wh s j r E):=by
  refine⟨by omega,g9 r hlv,?_,hX,g9 _ oz,?_,?_,hJ,?_,?_⟩
  ·unfold kC lB;omega
  ·exact yT r _ hlv
  ·exact yT _ _ hlv
  ·exact le_trans (g9 r oz) (vU oz _)
  ·exact H6 oz _ _
 have hn:(Lw.llq a.as.rs).length<=1:=by omega
 have key:∀sv∈fg l a.as gr (cg gr xs),Xz (Lw.llq a.as.rs) r (kC s j r E) sv.ts/\∀p∈sv.ps,Pq.ok sv.ts.length (sM s j r E) p:=by
  unfold fg;rw[if_neg hk]
  by_cases hk1:gr.kind=1
  ·obtain⟨i,k2,z0,z1,z2,j0,j1,j2,P⟩:=O.rrr hk1;obtain⟨e0,e1,e2,b0,b1,_⟩:=P.at;rw[if_pos hk1,e0,e1,e2,b0,b1];exact SG D hn W.cs tw Z (le_refl _) P
  ·rw[if_neg hk1]
   by_cases hk2:gr.kind=2
   ·obtain⟨i,z0,z1,j0,j,P,ha,hb⟩:=O.pr hk2;obtain⟨e0,e1,b0,_⟩:=P.at;rw[if_pos hk2,e0,e1,b0];exact PT D hn W.cs tw Z (le_refl _) P ha hb
   ·obtain⟨i,z0,z1,j0,j,P,_,hj,hb⟩:=O.rp hk hk1 hk2;obtain⟨e0,e1,b0,hk3⟩:=P.at;rw[if_neg hk2,e0,e1,b0];exact UN D hn W.cs tw Z (le_refl _) P hj hb
 intro sv hsv;obtain⟨hx,hp⟩:=key sv hsv;have h5:=hx.tw.five;have hup:=hx.up;have hln:=hx.ln;rw[hlen]at hup hln;refine⟨hx.tw,?_,?_,?_⟩
 ·show sv.ts.length<=j+1;have:=Q.lv;omega
 ·intro p hp3;rcases Gz hp3 with h |h
  ·exact(Q.bs p h).up hup h5 (by unfold sM oZ wZ lB;omega)
  ·exact hp p h
 ·exact(tZ _ _ _).trans Q.ln
end
def mU(l:Li)(a:As)(g:Gr)(x:Tn):Nat:=(jB l a g x).2
def fm(F:Int->Bool)(sg:Bool)(f:Sv->List Aq×Nat):List Sv->List Aq×Nat
  |[]=>([],0)
  |s::r=>if F s.mode=false then fm F sg f r else if(f s).2≠0 then f s else if sg=true then f s else((f s).1++(fm F sg f r).1,(fm F sg f r).2)
def ji(F:Nat->Int->Bool)(sg:Bool)(l:Li)(xs:List Tn)(gs:List Gr):Nat->Aq->List Aq×Nat
  |0,a=>([a],0)
  |n+1,a=>if mU l a.as (gs.getD a.ms.length default) (cg (gs.getD a.ms.length default) xs)≠0 then([],mU l a.as (gs.getD a.ms.length default) (cg (gs.getD a.ms.length default) xs))
    else fm (F a.ms.length) sg (fun s=>ji F sg l xs gs n (a.nxt (gs.getD a.ms.length default) s)) (fg l a.as (gs.getD a.ms.length default) (cg (gs.getD a.ms.length default) xs))
theorem Lu{l:Li}{xs:List Tn}{s g:Nat}(W:WkC l xs s g){k:Nat}{gr:Gr}(hg:(aN l)[k]?=some gr){j r E:Nat}{a:Aq}(Q:QInv l j r E a){n y:Nat}(ok:eG s g (n+1) y j r E=true)(hy:gr.kind≠0->0<y) :
  SolP (fg l a.as gr (cg gr xs)) gr.kind a.ts.length gr.bo.length:=by
 obtain⟨⟨hE,hr,hj⟩,_⟩:=rJ ok;have D:=QInv.dyW W hg Q oz hr;have h3:(Lw.llq a.as.rs).length<=2:=by rw[a.llq];have:=Q.lv;omega
 have hlen:(Lw.llq a.as.rs).length=a.ts.length:=by rw[a.llq]
 rw[<- hlen]
 by_cases hk:gr.kind=0
 ·exact HG hE D h3 (QInv.dyOk W hg Q (F:=E) oz (le_refl _)) (fun h=>absurd hk h) (W.tn hg).2.1
 ·have hy:=hy hk;obtain ⟨y',rfl⟩:∃ y',y = y' + 1:=⟨y - 1,by omega⟩
  obtain⟨⟨hj,hE,hr,hX,hJ⟩,_⟩:=sF ok;exact HG oz D h3 (QInv.dyOk W hg Q (F:=3900000) oz hE) (fun _=>⟨rfl,QInv.dyS W hg Q hr hj⟩) (W.tn hg).2.1
theorem Bi{P:Program}{f:FuncId}{sz:Nat}{r:AV}{H H':Hp}(h:∀(a:Option Addr)(cap:Nat),Con P f [.v (.slice a 0 cap)] H r H'):Con P f [.lst sz []] H r H' :=
 ⟨(h none 0).ok,fun ext m w vs he hr hn hv=>by
  have hn1:vs.size=1:=hn;have h0:=hv 0 vs[0] (.lst sz []) (by simp[hn1]) rfl
  have hy:∃a cap,vs[0]=.slice a 0 cap:=by
   generalize vs[0]=y at h0;cases h0 with
   |lst0 a cap=>exact⟨_,_,rfl⟩
   |lst u hb hc hl hs h1 hu hrr=>exact⟨_,_,rfl⟩
  obtain⟨a,cap,hy⟩:=hy;refine(h a cap).ret ext m w vs he hr hn (fun j v x hv2 hx=>?_)
  match j,hx with
  |0,hx =>
   cases hx;have:v=.slice a 0 cap:=by rw[<- hy];have:=Array.getElem?_eq_some_iff.1 hv2;exact this.2.symm
   subst this;exact .v _⟩
theorem Sc(e:AV)(es:List AV)(hc:∀x∈e::es,x.cells.length=1)(hl:(e::es).length<=1000):Con prog 287 [.lst 1 (e::es)] [] (.ms 901 1 0 (e::es).length) [(901,some (.row 1 (e::es)))]:=by
 refine gF func287 (fun k z h=>by cases h) ?_;refine gs (Fx (.tmp rfl) (by kernel_rfl) rfl) ?_;refine gC (fun t4=>?_) (fun t4=>?_) (st1:=(2,0));cases t4;refine gs (ju T39 rfl T3 rfl rfl rfl) ?_;refine gs (cq (.tmp rfl) rfl rfl (.tmp rfl) T39 rfl T3 rfl rfl (by simp only[];omega) rfl rfl) ?_ (77777,0);refine gW (Wk.of (sl:=[(2,some (.ms 7 1 0 (e::es).length))]) (hp:=[(7,some (.row 1 (e::es)))]) (.cons rfl (Sub.of (congrArg (AV.ms 7 1 0) (Nat.zero_add _))) .nil) (.k .nil)) ?_;refine gR ?_;exact ao.own1 rfl rfl rfl
theorem KS(a:Option Addr)(cap:Nat):Con prog 287 [.v (.slice a 0 cap)] [] (.ms 901 1 0 0) [(901,some (.row 1 []))]:=by
 refine gF func287 (fun k z h=>by cases h) ?_;refine gs (GM (.tmp rfl) (by kernel_rfl) rfl) ?_;refine gC (fun t4=>?_) (fun t4=>?_) (st1:=(2,0)) (st2:=(77777,0))
 ·refine gW ((Wk.virt 901 1 rfl).trans<|Wk.o (sl:=[]) (hp:=[(901,some (.row 1 []))])) ?_;refine gR ?_;exact(ao.keep (bb rfl)).sub (Sub.nM _ _ _)
 refine gW (Wk.of (sl:=[(0,some (.lst 1 []))]) (hp:=[]) (.cons rfl (Sub.nil _ _ _) .nil) .nil) ?_;refine gs (ju T39 rfl T3 rfl rfl rfl) ?_;refine gs (cq (.tmp rfl) rfl rfl (.tmp rfl) T39 rfl T3 rfl rfl (by simp) rfl rfl) ?_ (77777,0);refine gW (Wk.o (sl:=[(2,some (.ms 7 1 0 0))]) (hp:=[(7,some (.row 1 []))])) ?_;refine gR ?_;exact ao.own1 rfl rfl rfl
theorem S3(e:AV)(es:List AV)(hc:∀x∈e::es,x.cells.length=4)(hl:(e::es).length<=1000):Con prog 289 [.lst 4 (e::es)] [] (.ms 900 4 0 (e::es).length) [(900,some (.row 4 (e::es)))]:=by
 refine gF func289 (fun k z h=>by cases h) ?_;refine gs (Fx (.tmp rfl) (by kernel_rfl) rfl) ?_;refine gC (fun t4=>?_) (fun t4=>?_) (st1:=(2,0));cases t4;refine gs (ju T38 rfl T69 rfl rfl rfl) ?_;refine gs (cq (.tmp rfl) rfl rfl (.tmp rfl) T38 rfl T69 rfl rfl (by simp only[];omega) rfl rfl) ?_ (77777,0);refine gW (Wk.of (sl:=[(2,some (.ms 7 4 0 (e::es).length))]) (hp:=[(7,some (.row 4 (e::es)))]) (.cons rfl (Sub.of (congrArg (AV.ms 7 4 0) (Nat.zero_add _))) .nil) (.k .nil)) ?_;refine gR ?_;exact ao.own1 rfl rfl rfl
theorem J8(a:Option Addr)(cap:Nat):Con prog 289 [.v (.slice a 0 cap)] [] (.ms 900 4 0 0) [(900,some (.row 4 []))]:=by
 refine gF func289 (fun k z h=>by cases h) ?_;refine gs (GM (.tmp rfl) (by kernel_rfl) rfl) ?_;refine gC (fun t4=>?_) (fun t4=>?_) (st1:=(2,0)) (st2:=(77777,0))
 ·refine gW ((Wk.virt 900 4 rfl).trans<|Wk.o (sl:=[]) (hp:=[(900,some (.row 4 []))])) ?_;refine gR ?_;exact(ao.keep (bb rfl)).sub (Sub.nM _ _ _)
 refine gW (Wk.of (sl:=[(0,some (.lst 4 []))]) (hp:=[]) (.cons rfl (Sub.nil _ _ _) .nil) .nil) ?_;refine gs (ju T38 rfl T69 rfl rfl rfl) ?_;refine gs (cq (.tmp rfl) rfl rfl (.tmp rfl) T38 rfl T69 rfl rfl (by simp) rfl rfl) ?_ (77777,0);refine gW (Wk.o (sl:=[(2,some (.ms 7 4 0 0))]) (hp:=[(7,some (.row 4 []))])) ?_;refine gR ?_;exact ao.own1 rfl rfl rfl
theorem Ik(es:List AV)(hc:∀x∈es,x.cells.length=1)(hl:es.length<=1000):Con prog 287 [.lst 1 es] [] (.ms 901 1 0 es.length) [(901,some (.row 1 es))]:=by
 cases es with
 |nil=>exact Bi KS
 |cons e es=>exact Sc e es hc hl
theorem JU(es:List AV)(hc:∀x∈es,x.cells.length=4)(hl:es.length<=1000):Con prog 289 [.lst 4 es] [] (.ms 900 4 0 es.length) [(900,some (.row 4 es))]:=by
 cases es with
 |nil=>exact Bi J8
 |cons e es=>exact S3 e es hc hl
theorem TE(es:List AV)(hc:∀x∈es,x.cells.length=1)(hl:es.length<=1000):FP 287 [.lst 1 es] (.lst 1 es):=by
 have h:=Con.freeze oz (Ik es hc hl)
 rwa [drop_zero,take_length]at h
theorem CV(ms:List Int):∀x∈ms.map i64,x.cells.length=1:=fun x hx=>by obtain⟨m,_,rfl⟩:=List.mem_map.1 hx;rfl
theorem KF(bs:List Pq):∀x∈bs.map Pq.av,x.cells.length=4:=fun x hx=>by obtain⟨m,_,rfl⟩:=List.mem_map.1 hx;rfl
theorem sO{n e:Nat}{x:List Rat}(h:Nm n e x)(he:e<=100000000000):FP 288 [nA x] (nA x):=by
 have hlen:=h.nl.len5 h.five;have hqs:∀q∈x,Qs q:=fun q hq=>h.cb.qs oz hq
 refine af func288 ?_;refine gl ?_;refine gW (Wk.virt 901 3 rfl) ?_;refine aM [6,7] [] (fun(j:Nat)=>[(3,some (.ms 901 3 0 j)),(8,some (i64 j))]) (fun j=>[(901,some (.row 3 ((x.take j).map qA)))]) (fun j=>j<=x.length) (fun j=>x.length-j) 0 (zero_le _) ?_ (h1:=(.cons rfl (Sub.nM _ _ _) (.k .nil)));rintro j hj K1 J1;refine gC (fun t9=>?_) (fun t9=>?_) (st2:=(7,0))
 ·have hjn:=aW t9;obtain⟨q,hq⟩:=aw hjn;have hadd:=ou (rt q) (rt 0) (hqs q (mem_of_getElem? hq)).ok Qs.zero.ok;rw[sN,bA]at hadd;refine gi (ax hq) ?_;refine gc (Con.sA (.cons (.refl _) (.cons gK .nil)) hadd) ?_;refine gs (cq (.tmp rfl) rfl (by rw[length_map,length_take];omega) (.tmp rfl) T67 rfl T45 rfl rfl (by simp only[length_cons,length_nil];omega) rfl rfl) ?_ (6,0);refine gW (Wk.of (sl:=[(6,some (nA x)),(7,some (i64 x.length)),(8,some (i64 j)),(3,some (.ms 17 3 0 (j+1)))]) (hp:=[(17,some (.row 3 ((x.take (j+1)).map qA)))]) aY (.cons rfl (BlkSub.of (by rw[dl hq,map_append];rfl)) .nil)) ?_ (6,0);refine gW (Wk.rk (k:=17) (d:=901) rfl rfl) ?_;refine ga aH ?_;exact aG J1 (j+1) hjn
 have hjn:=be hj t9;subst hjn;refine gW ((Wk.freeze (k:=901) rfl).trans<|Wk.of (sl:=[(3,some (nA x))]) (hp:=[]) (.cons rfl (Sub.of (by rw[bO (by simp)];simp[nA])) .nil) .nil) ?_;refine ae ?_;rfl
theorem Np{a:Aq}{n e:Nat}(h5:n<=5)(ht:∀x∈a.ts,Nm n e x)(hb:∀p∈a.bs,Pq.ok n e p)(he:e<=100000000000)(l1:a.ts.length<=100)(l2:a.bs.length<=100)(l3:a.ms.length<=100):FP 190 [a.av] a.av:=by
 refine af func190 ?_;refine gc (TE _ (CV _) (by rw[length_map];omega)) ?_;refine gl ?_;refine gW (Wk.virt 900 1 rfl) ?_;refine aM [1,2,3,14,15] [1,2] (fun(i:Nat)=>[(16,some (i64 i))]) (fun i=>[(3,some (.box [.ms 900 1 0 i,nS,.lst 1 (a.ms.map i64)])),(900,some (.row 1 ((a.ts.take i).map nA)))]) (fun i=>i<=a.ts.length) (fun i=>a.ts.length-i) 0 (zero_le _) ?_ (h2:=(.cons rfl (BlkSub.bL (.cons (.nM _ _ _) (.cons (.refl _) (.cons (.refl _) .nil))) rfl) (.k .nil)));rintro i hi K1 J1;refine gC (fun t17=>?_) (fun t17=>?_) (st2:=(7,0))
 ·have hin:=aW t17;obtain ⟨d,hd⟩:=aw hin;refine gi (ax hd) ?_;refine gc (sO (ht d (mem_of_getElem? hd)) he) ?_;refine gs (cq (.tmp rfl) rfl (by rw [length_map,length_take]; omega) (.tmp rfl) T35 rfl T67 rfl rfl (by simp only [length_cons,length_nil]; omega) rfl rfl) ?_;refine gD ?_ (6,0);refine gW (Wk.of (sl:=[(1,some (.ptr 1 0)),(2,some (.ptr 2 0)),(3,some (.ptr 3 0)),(14,some (.lst 1 (a.ts.map nA))),(15,some (i64 a.ts.length)),(16,some (i64 i))]) (hp:=[(1,some (.box a.cs)),(2,some (.box [nS,nS,nS])),(3,some (.box [.ms 26 1 0 (i + 1),nS,.lst 1 (a.ms.map i64)])),(26,some (.row 1 ((a.ts.take (i + 1)).map nA)))]) aY (.k (.k (.k (.cons rfl (BlkSub.of (by rw [dl hd,map_append]; rfl)) .nil))))) ?_ (6,0)
  refine gW (Wk.rk (k:=26) (d:=900) rfl rfl) ?_;refine ga aH ?_;exact aG J1 (i+1) hin
 have hin:=be hi t17;subst hin;refine gW ((Wk.freeze (k:=900) rfl).trans<|Wk.of (sl:=[(1,some (.ptr 1 0)),(2,some (.ptr 2 0)),(3,some (.ptr 3 0))]) (hp:=[(1,some (.box a.cs)),(2,some (.box [nS,nS,nS])),(3,some (.box [.lst 1 (a.ts.map nA),nS,.lst 1 (a.ms.map i64)]))]) aY (.k (.k (.cons rfl (BlkSub.bL (.cons (Sub.of (by rw[bO (by simp)];simp)) (.cons (.refl _) (.cons (.refl _) .nil))) rfl) .nil)))) ?_;refine gl ?_;refine gW (Wk.virt 902 4 rfl) ?_;refine aM [1,2,3,31,32] [1,2] (fun(i:Nat)=>[(33,some (i64 i))]) (fun i=>[(3,some (.box [.lst 1 (a.ts.map nA),.ms 902 4 0 i,.lst 1 (a.ms.map i64)])),(902,some (.row 4 ((a.bs.take i).map Pq.av)))]) (fun i=>i<=a.bs.length) (fun i=>a.bs.length-i) 0 (zero_le _) ?_ (h2:=(.cons rfl (BlkSub.bL (.cons (.refl _) (.cons (.nM _ _ _) (.cons (.refl _) .nil))) rfl) (.k .nil)));rintro i hi K2 J2;refine gC (fun t34=>?_) (fun t34=>?_) (st2:=(12,0))
 ·have hin:=aW t34;obtain ⟨p,hp⟩:=aw hin;have ok:=hb p (mem_of_getElem? hp);refine gi (ax hp) ?_;refine gc (sO ok.c he) ?_;refine gc (sO ok.s he) ?_;refine gc (sO ok.x he) ?_;refine gc (sO ok.y he) ?_;refine gs (cq (.tmp rfl) rfl (by rw [length_map,length_take]; omega) (.tmp rfl) T38 rfl T69 rfl rfl (by simp only [length_cons,length_nil]; omega) rfl rfl) ?_;refine gD ?_ (11,0);refine gW (Wk.of (sl:=[(1,some (.ptr 1 0)),(2,some (.ptr 2 0)),(3,some (.ptr 3 0)),(31,some (.lst 4 (a.bs.map Pq.av))),(32,some (i64 a.bs.length)),(33,some (i64 i))]) (hp:=[(1,some (.box a.cs)),(2,some (.box [nS,nS,nS])),(3,some (.box [.lst 1 (a.ts.map nA),.ms 53 4 0 (i + 1),.lst 1 (a.ms.map i64)])),(53,some (.row 4 ((a.bs.take (i + 1)).map Pq.av)))]) aY (.k (.k (.k (.cons rfl (BlkSub.of (by rw [dl hp,map_append]; rfl)) .nil))))) ?_ (11,0)
  refine gW (Wk.rk (k:=53) (d:=902) rfl rfl) ?_;refine ga aH ?_;exact aG J2 (i+1) hin
 have hin:=be hi t34;subst hin;refine gW ((Wk.freeze (k:=902) rfl).trans<|Wk.of (sl:=[(2,some (.ptr 2 0)),(3,some (.ptr 3 0))]) (hp:=[(2,some (.box [nS,nS,nS])),(3,some (.box a.cs))]) aY (.k (.cons rfl (BlkSub.bL (.cons (.refl _) (.cons (Sub.of (by rw[bO (by simp)];simp)) (.cons (.refl _) .nil))) rfl) .nil))) ?_;refine ae ?_;rfl
theorem Qc{a:Aq}{g:Gr}{s:Sv}(hb:∀b∈g.bo,0<=b/\b<a.bs.length)(hl:s.ps.length=g.bo.length)(l1:a.bs.length<=100)(l2:a.ms.length<=100)(l3:g.bo.length<=100):FP 192 [a.av,g.av,s.av] (a.nxt g s).av:=by
 refine af func192 ?_;refine gt (ay (JU _ (KF _) (by rw[length_map];omega)) (cI rfl) aE rfl rfl) ?_;refine gt (ay (Ik _ (CV _) (by rw[length_map];omega)) (cI rfl) aE rfl rfl) ?_;refine gs (cq (.tmp rfl) rfl rfl (.tmp rfl) T39 rfl T3 rfl rfl (by simp only[length_map,length_cons,length_nil];omega) rfl rfl) ?_;refine gD ?_ (2,0);refine gW ((Wk.freeze (k:=21) rfl).trans<|Wk.of (sl:=[(3,some (.ptr 3 0)),(4,some (.ptr 4 0)),(5,some (.ptr 5 0)),(6,some (.ptr 6 0)),(7,some (.ptr 7 0))]) (hp:=[(3,some (.box a.cs)),(4,some (.box g.av.cells)),(5,some (.box s.av.cells)),(6,some (.box [nS,nS,nS])),(7,some (.box [.lst 1 (s.ts.map nA),.ms 900 4 0 a.bs.length,.lst 1 ((a.ms++[s.mode]).map i64)])),(900,some (.row 4 ((bK a.bs (g.bo.take 0) (s.ps.take 0)).map Pq.av)))]) aY (.k (.k (.k (.k (.cons rfl (BlkSub.bL (.cons (.refl _) (.cons (Sub.of (congrArg (AV.ms 900 4 0) (length_map _))) (.cons (Sub.of (by rw[bO (by simp)];simp)) .nil))) rfl) (.k .nil))))))) ?_
 refine gl ?_;refine aM [3,4,5,6,7,24,25] [3,4,5,6,7] (fun(i:Nat)=>[(26,some (i64 i))]) (fun i=>[(900,some (.row 4 ((bK a.bs (g.bo.take i) (s.ps.take i)).map Pq.av)))]) (fun i=>i<=g.bo.length) (fun i=>g.bo.length-i) 0 (zero_le _) ?_;rintro i hi K1 J1;refine gC (fun t27=>?_) (fun t27=>?_) (st2:=(7,0))
 ·have hin:=aW t27;obtain⟨b,hbi⟩:=aw hin;obtain⟨p,hp⟩:=aw (l:=s.ps) (i:=i) oz;obtain⟨hb0,hb1⟩:=hb b (mem_of_getElem? hbi);have hpl:=tZ a.bs (g.bo.take i) (s.ps.take i);obtain⟨o,ho⟩:=aw (l:=bK a.bs (g.bo.take i) (s.ps.take i)) (i:=b.toNat) oz;refine gi (ax hbi) ?_;refine gi (ax hp) ?_;refine gs (lP (.tmp rfl) (.tmp rfl) T38 rfl T69 rfl oz oz rfl) ?_;refine gs (dF (.tmp rfl) rfl (by rw[Nat.zero_add,getElem?_map,ho];rfl) rfl (.tmp rfl) rfl rfl T69 rfl rfl) ?_;refine gD ?_;refine ga aH ?_;exact aG J1 (i+1) hin (hw:=Wk.of aY (.cons rfl (BlkSub.of (by rw[Ue hbi hp,map_set,Nat.zero_add];rfl)) (.k (.k (.k (.k (.k .nil)))))))
 have hin:=be hi t27;subst hin;refine gW ((Wk.freeze (k:=900) rfl).trans<|Wk.of (sl:=[(6,some (.ptr 6 0)),(7,some (.ptr 7 0))]) (hp:=[(6,some (.box [nS,nS,nS])),(7,some (.box (a.nxt g s).cs))]) aY (.k (.cons rfl (BlkSub.bL (.cons (.refl _) (.cons (Sub.of (by rw[bO (by rw[length_map,tZ])];rw[take_length,take_of_length_le oz];rfl)) (.cons (.refl _) .nil))) rfl) .nil))) ?_;refine ae ?_;rfl
abbrev gB(l:Li)(xs:List Tn)(G:List Gr)(fo:FuncId)(caps:List AV)(sg:Bool)(o:AV):List AV:=l.av.cells++[.lst 4 (xs.map Tn.av),.lst 4 (G.map Gr.av),.cl fo [] caps,bl sg,o]
abbrev fx(l:Li)(xs:List Tn)(G:List Gr)(fo:FuncId)(caps:List AV)(sg:Bool)(k:Nat)(es:List AV):Hp :=
  [(1000,some (.box (gB l xs G fo caps sg (.ms k 3 0 es.length)))),(k,some (.row 3 es))]
theorem uY{k k0:Nat}{x y:Option Blk}{z:Blk}(h0:1000<=k0)(h:lk [(1000,x),(k0,y)] k=some z):1000<=k:=by
 rw[aK]at h;split at h
 ·omega
 ·rw[aK]at h;split at h
  ·omega
  ·cases h
theorem Tt{l:Li}{xs:List Tn}{G:List Gr}{fo:FuncId}{caps:List AV}{sg:Bool}{es:List AV}{g:Gr}(hd:g.kind=0->0<=g.driver/\g.driver<xs.length)(hl:xs.length<=100) :
  Con prog 191 [.ptr 1000 0,g.av] (fx l xs G fo caps sg 1001 es) (cg g xs).av (fx l xs G fo caps sg 1001 es):=by
 refine gF func191 (fun k z h=>uY oz h) ?_;refine gC (fun t7=>?_) (fun t7=>?_)
 ·have hk : g.kind ≠ 0 := by simpa [aa] using t7
  refine gR ?_;exact(ao.keep (mc rfl rfl)).sub (by unfold cg;rw[if_neg hk];exact Sub.agg (.cons (.refl _) (.cons (Sub.nil _ _ _) (.cons (Sub.nil _ _ _) (.cons (.refl _) .nil)))) rfl)
 have hk:g.kind=0:=by simpa[aa]using t7
 obtain⟨h0,h1⟩:=hd hk;obtain⟨x,hx⟩:=aw (l:=xs) (i:=g.driver.toNat) oz;refine gi (ir (n:=g.driver.toNat) oz hx) ?_;refine gD ?_;refine gR ?_;exact(ao.keep (mc rfl rfl)).sub (by unfold cg;rw[if_pos hk,aD hx];exact .refl _)
theorem RH:jQ (.agg [nS,nS,nS,nS]) bF.av:=by
 refine⟨rfl,?_⟩;intro j x y hx hy
 match j,hx,hy with
 |0,hx,hy=>cases hx;cases hy;exact⟨rfl,.nil _ _ _⟩
 |1,hx,hy=>cases hx;cases hy;exact⟨rfl,.nil _ _ _⟩
 |2,hx,hy=>cases hx;cases hy;exact⟨rfl,.nil _ _ _⟩
 |3,hx,hy=>cases hx;cases hy;exact⟨rfl,.nil _ _ _⟩
theorem Qe(n:Nat):BlkSub (.row 4 (List.replicate n (.agg [nS,nS,nS,nS]))) (.row 4 ((List.replicate n bF).map Pq.av)):=by
 refine .row (by simp) ?_;intro i e e' he he';rw[map_replicate,getElem?_replicate]at he';rw[getElem?_replicate]at he;split at he
 ·rename_i h;rw[if_pos h]at he';cases he;cases he'
  exact RH
 ·cases he
theorem Pw:kA.av=.agg [nA (sh 0 (((1:Int):Rat):Rat)),nA [],nA [],nA []]:=by
 have h:sh 0 (((1:Int):Rat):Rat)=[1]:=by decide +kernel
 rw[h];rfl
theorem MG{l:Li}{xs:List Tn}{G:List Gr}{fo:FuncId}{caps:List AV}{sg:Bool}{es:List AV}(h0:0<l.bo.length)(hl:l.bo.length<=100) :
  Con prog 101 [.ptr 1000 0] (fx l xs G fo caps sg 1001 es) (fK l).av (fx l xs G fo caps sg 1001 es):=by
 refine gF func101 (fun k z h=>uY oz h) ?_;refine gl ?_;refine gs (gV (.tmp rfl) T38 rfl T69 rfl rfl oz (by dsimp only;omega) rfl) ?_ (2,0);refine gW (Wk.of (sl:=[(2,some (.ptr 2 0)),(3,some (.ptr 3 0))]) (hp:=[(2,some (.box [nS,nS,nS])),(3,some (.box [nS,.ms 10 4 0 l.bo.length,nS])),(10,some (.row 4 ((List.replicate l.bo.length bF).map Pq.av))),(1000,some (.box (gB l xs G fo caps sg (.ms 1001 3 0 es.length)))),(1001,some (.row 3 es))]) aY (.k (.k (.cons rfl (Qe _) (.k (.k .nil)))))) ?_;refine gc (mo 1 oz) ?_;refine gc (od (q:=((1:Int):Rat)) (Qb.one.qs oz)) ?_;refine gs (bR (n:=0) (.tmp rfl) (.const _) T38 rfl T69 rfl oz oz rfl) ?_ (2,7);refine gs (BE (e:=bF.av) (e':=.agg [nA (sh 0 (((1:Int):Rat):Rat)),nA [],nA [],nA []]) (.tmp rfl) rfl (by rw[getElem?_map,getElem?_replicate,if_pos h0];rfl) (.tmp rfl) rfl rfl T67 rfl rfl rfl) ?_;refine gD ?_ (3,0);refine gW ((Wk.freeze (k:=10) rfl).trans<|Wk.of (sl:=[(2,some (.ptr 2 0)),(3,some (.ptr 3 0))]) (hp:=[(2,some (.box [nS,nS,nS])),(3,some (.box [nS,.lst 4 ((fK l).bs.map Pq.av),nS])),(1000,some (.box (gB l xs G fo caps sg (.ms 1001 3 0 es.length)))),(1001,some (.row 3 es))]) aY (.k (.cons rfl (BlkSub.bL (.cons (.refl _) (.cons (Sub.of (by rw[bO (by simp)];unfold fK;rw[map_set,Pw])) (.cons (.refl _) .nil))) rfl) (.k (.k .nil))))) ?_
 refine gR ?_;exact(ao.keep (mc rfl rfl)).sub (Sub.agg (.cons (Sub.nil _ _ _) (.cons (.refl _) (.cons (Sub.nil _ _ _) .nil))) rfl)
theorem C8(k m:Int):FP 189 [i64 k,i64 m] (bl true):=by
 refine af func189 ?_;refine ae ?_;rfl
def rc(l:Li)(xs:List Tn):Nat:=if cm l≠0 then cm l else if xs.length≠l.dv.length then 10 else eF (xs.map Tn.err)
def cO(l:Li)(xs:List Tn):Nat:=if aB l≠0 then aB l else rc l xs
def vm(e:Nat)(l:Li)(xs:List Tn):Hp:=if e=0 then[(900,some (.box (gB l xs (aN l) 189 [] false (nS))))]else[]
theorem vT{e:Nat}(h:e≠0){l:Li}{xs:List Tn}:vm e l xs=[]:=if_neg h
theorem Gy{l:Li}{xs:List Tn}{e:Nat}(he:(if aB l=0 then cm l else aB l)=e)(h:e≠0):cO l xs=e:=by
 unfold cO rc
 by_cases h1:aB l=0
 ·rw[if_pos h1]at he;rw[if_neg oz,if_pos oz,he]
 ·rw[if_neg h1]at he;rw[if_pos h1,he]
theorem vn{l:Li}{xs:List Tn}(h:aB l=0)(hs:cm l=0):cO l xs=if xs.length≠l.dv.length then 10 else eF (xs.map Tn.err):=by
 unfold cO rc;rw[if_neg oz,if_neg oz]
theorem FN(l:Li)(hl:l.ok)(xs:List Tn)(hx:∀x∈xs,x.t.ok)(hn:xs.length<=100) :
  Con prog 99 [l.av,.lst 4 (xs.map Tn.av)] [] (.tup [tD (cO l xs),bp (cO l xs)]) (vm (cO l xs) l xs):=by
 have hld:=hl.ld;refine gF func99 (fun k z h=>by cases h) ?_;refine gc (Ft l hl) ?_;refine gC (fun t17=>?_) (fun t17=>?_)
 ·have h1:=de t17;refine gR ?_;rw[Gy rfl h1,kZ h1,vT h1];exact lT rfl
 have h1:=cQ t17;obtain⟨hli,hsp⟩:=B8 h1;rw[show(if aB l=0 then aN l else[])=aN l from if_pos hli];refine gl ?_;refine gl ?_;refine gC (fun t24=>?_) (fun t24=>?_)
 ·have h2:=yt t24;have he:cO l xs = 10:=by rw [vn hli hsp,if_pos h2]
  refine gR ?_;rw[he,kZ (by decide),vT (by decide)];exact lT rfl
 have h2:=y7 t24;have he0:cO l xs=eF (xs.map Tn.err):=by rw[vn hli hsp,if_neg oz]
 refine gl ?_;refine aM [1,2,6,26,27] [2] (fun(i:Nat)=>[(28,some (i64 i))]) (fun _=>[]) (fun i=>i<=xs.length/\∀y∈xs.take i,y.err=0) (fun i=>xs.length-i) 0 ⟨zero_le _,fun y hy=>by simp at hy⟩ ?_;rintro i ⟨hi,hz⟩ K1 J1;refine gC (fun t29=>?_) (fun t29=>?_) (st2:=(13,0))
 ·have hin:=aW t29;obtain⟨x,hxi⟩:=aw hin;refine gi (ax hxi) ?_;refine gc (Ba x (hx x (mem_of_getElem? hxi))) ?_;refine gC (fun t35=>?_) (fun t35=>?_)
  ·have h3:=de t35;have he:cO l xs = x.err:=by rw [he0]; exact DE hxi hz h3
   refine gR ?_;rw[he,kZ h3,vT h3];exact lT rfl
  have h3:=cQ t35;refine ga aH ?_;exact aG J1 (i+1) ⟨hin,fun z hz2=>by rw[dl hxi]at hz2;rcases List.mem_append.1 hz2 with h9 |h9;exact hz z h9;(rw[List.mem_singleton.1 h9];exact h3)⟩
 have hin:=be hi t29;have he:cO l xs=0:=by rw[he0];exact oA (fun y hy=>hz y (by rw[hin,take_length];exact hy))
 refine gW (Wk.o (sl:=[(1,some (.lst 4 (xs.map Tn.av))),(2,some (.ptr 2 0)),(6,some (.lst 4 ((aN l).map Gr.av)))]) (hp:=[(2,some (.box l.av.cells))])) ?_ (77777,0);refine gW (Wk.of (sl:=[(4,some (.ptr 42 0)),(5,some (.v .nilIface))]) (hp:=[(42,some (.box (gB l xs (aN l) 189 [] false (nS))))]) aY (.cons rfl (BlkSub.bL (.cons (.refl _) (.cons (.refl _) (.cons (.refl _) (.cons (.refl _) (.cons (.refl _) (.cons (.refl _) (.cons ((Sub.fn0 _).trans (vd rfl)) (.cons (.refl _) (.cons (.refl _) .nil))))))))) rfl) .nil)) ?_ (77777,0);refine gW (Wk.rk (k:=42) (d:=900) rfl rfl) ?_;refine gR ?_;rw[he];exact ao.keep (bb rfl)
section
variable{P:Program}{N:Nat}{R:Array Oper}{s:AS}{pos:String}{after:Array Edge}
theorem Io{d f k k2:Nat}{bx bx2:Blk}{args:Array Operand}{ts:Array TypeId}{xs:List AV}{r:AV}{t:TypeId}
  (hcon:Con P f xs [(k,some bx),(k2,some bx2)] r [(k,some bx),(k2,some bx2)]) (ha:EvL s args.toList xs) (hne:Nat.beq k2 k=false) (hk:s.blk k=some bx) (hk2:s.blk k2=some bx2)
  (hok:iT s [(k,some bx),(k2,some bx2)] [(k,some bx),(k2,some bx2)] r=true) (hN:Nat.blt d N=true) :
  Step P N R s ⟨some d,.call ⟨.value (.func f),args,ts⟩,t,pos,after,none⟩ ⟨some r,[],ez args.toList,[k,k2]⟩:=by
 have hne':k2≠k:=fun e=>by rw[e,Nat.beq_refl]at hne;cases hne
 refine Step.weaken (ay (d:=d) hcon ha (fun k' z h=>by
  rcases mC h with⟨rfl,h9⟩ |⟨_,rfl,h9⟩
  ·cases h9;exact hk
  ·cases h9;exact hk2) hok hN) (fun s' h=>h) (fun s' h k' hk'=>?_) (fun s' h=>?_)
 ·left;simp only[map_append,cZ,map_cons,map_nil,mem_append,mem_cons,not_mem_nil,or_false]at hk' ⊢;rcases hk' with h9 |h9 <;> exact h9
 ·intro C m a w hr;refine ⟨m,hr.weak (fun t x hx=>⟨x,hx,.refl _⟩) (fun k' x hx=>⟨x,?_,.refl _⟩)⟩;have hb:lk s'.hp k = some bx:=(h.2 k (by simp)).trans hk;have hb2:lk s'.hp k2 = some bx2:=(h.2 k2 (by simp)).trans hk2;show lk ([(k,some bx),(k2,some bx2)] ++ cZ [(k,some bx),(k2,some bx2)] ++ s'.hp) k' = some x;have hx':lk s'.hp k' = some x:=hx;simp only [cZ,map_cons,map_nil,List.cons_append,nil_append,aK]
  by_cases e:k'=k
  ·rw[if_pos e];rw[e,hb]at hx';exact hx'
  ·rw[if_neg e]
   by_cases e2:k'=k2
   ·rw[if_pos e2];rw[e2,hb2]at hx';exact hx'
   ·rw[if_neg e2,if_neg e,if_neg e2];exact hx'
end
def q5(k:Nat):Nat:=bif Nat.beq k 1001 then 901 else bif Nat.beq k 901 then 1001 else k
theorem Rk(k:Nat):q5 (q5 k)=k:=by
 by_cases h1:k=1001
 ·subst h1;rfl
 ·by_cases h2:k=901
  ·subst h2;rfl
  ·have nb:∀{a b:Nat},a≠b->Nat.beq a b=false:=fun h=>by
    cases h9:Nat.beq _ _ with
    |false=>rfl
    |true=>exact absurd (eq_of_beq_eq_true h9) h
   have e:q5 k=k:=by simp only[q5,nb h1,nb h2,cond_false]
   rw[e,e]
theorem IN{l:Li}{xs:List Tn}{G:List Gr}{fo:FuncId}{caps:List AV}{sg:Bool}{es es':List AV}{a:Aq}{e:Nat}
  (h:Con prog 100 [.ptr 1000 0,a.av] (fx l xs G fo caps sg 1001 es) (bp e) (fx l xs G fo caps sg 900 es')) :
  Con prog 100 [.ptr 1000 0,a.av] (fx l xs G fo caps sg 901 es) (bp e) (fx l xs G fo caps sg 900 es') :=
 Con.pm Rk h
theorem Kz{l:Li}{xs:List Tn}{G:List Gr}{fo:FuncId}{caps:List AV}{sg:Bool}{o:List Aq}{a:Aq}(hk:a.ms.length=G.length)(hG:G.length<=100)(ho:o.length<=1000)
  (hcl:FP 190 [a.av] a.av) :
  Con prog 100 [.ptr 1000 0,a.av] (fx l xs G fo caps sg 1001 (o.map Aq.av)) (bp 0) (fx l xs G fo caps sg 900 ((o++[a]).map Aq.av)):=by
 refine gF func100 (fun k z h=>uY oz h) ?_;refine gl ?_;refine gl ?_;refine gC (fun t21=>?_) (fun t21=>?_) (st2:=(77777,0))
 ·refine gc hcl ?_;refine gs (cq (.tmp rfl) rfl (by rw [length_map]) (.tmp rfl) T87 rfl T41 rfl rfl (by simp only [length_map,length_cons,length_nil]; omega) rfl rfl) ?_;refine gD ?_ (4,0);refine gW (Wk.of (sl:=[(4,some (.v .nilIface))]) (hp:=[(1000,some (.box (gB l xs G fo caps sg (.ms 30 3 0 ((o ++ [a]).map Aq.av).length)))),(30,some (.row 3 ((o ++ [a]).map Aq.av)))]) aY (.cons rfl (BlkSub.bL (.cons (.refl _) (.cons (.refl _) (.cons (.refl _) (.cons (.refl _) (.cons (.refl _) (.cons (.refl _) (.cons (.refl _) (.cons (.refl _) (.cons (Sub.of (by simp)) .nil))))))))) rfl) (.cons rfl (BlkSub.of (by rw [map_append]; rfl)) .nil))) ?_ (4,0)
  refine gW (Wk.rk (k:=30) (d:=900) rfl rfl) ?_;refine gR ?_;exact ao.keep (mc rfl rfl)
 exact absurd t21 (by rw[hk];simp[aa])
theorem pY(F:Int->Bool)(sg:Bool)(f:Sv->List Aq×Nat)(s:Sv)(r:List Sv) :
  fm F sg f (s::r)=if F s.mode=false then fm F sg f r else if(f s).2≠0 then f s else if sg=true then f s else((f s).1++(fm F sg f r).1,(fm F sg f r).2):=rfl
theorem rS{α:Type}{l:List α}{i:Nat}{x:α}(h:l[i]?=some x):l.drop i=x::l.drop (i+1):=by
 obtain⟨hi,e⟩:=List.getElem?_eq_some_iff.1 h;rw[List.drop_eq_getElem_cons hi,e]
def p6(F:Int->Bool)(sg:Bool)(f:Sv->List Aq×Nat)(S:List Sv)(i:Nat)(c:List Aq):Prop :=
  i<=S.length/\fm F sg f S=(c++(fm F sg f (S.drop i)).1,(fm F sg f (S.drop i)).2)
theorem O7(F:Int->Bool)(sg:Bool)(f:Sv->List Aq×Nat)(S:List Sv):p6 F sg f S 0 []:=⟨zero_le _,rfl⟩
section
variable{F:Int->Bool}{sg:Bool}{f:Sv->List Aq×Nat}{S:List Sv}{i:Nat}{c:List Aq}(h:p6 F sg f S i c){s:Sv}(hs:S[i]?=some s)
include h hs
theorem I8(hF:F s.mode=false):p6 F sg f S (i+1) c:=by
 have h2:=h.2;rw[rS hs,pY,if_pos hF]at h2;exact⟨(List.getElem?_eq_some_iff.1 hs).1,h2⟩
theorem Ja(hF:F s.mode=true)(he:(f s).2≠0):fm F sg f S=(c++(f s).1,(f s).2):=by
 have h2:=h.2;rw[rS hs,pY,if_neg (by rw[hF];simp),if_pos he]at h2;exact h2
theorem Su(hF:F s.mode=true)(he:(f s).2=0)(h1:sg=true):fm F sg f S=(c++(f s).1,0):=by
 have h2:=h.2;rw[rS hs,pY,if_neg (by rw[hF];simp),if_neg oz,if_pos h1,he]at h2;exact h2
theorem PR(hF:F s.mode=true)(he:(f s).2=0)(h1:sg=false):p6 F sg f S (i+1) (c++(f s).1):=by
 have h2:=h.2;rw[rS hs,pY,if_neg (by rw[hF];simp),if_neg oz,if_neg (by rw[h1];simp)]at h2;exact⟨(List.getElem?_eq_some_iff.1 hs).1,by rw[h2,append_assoc]⟩
end
theorem Q3{F:Int->Bool}{sg:Bool}{f:Sv->List Aq×Nat}{S:List Sv}{c:List Aq}(h:p6 F sg f S S.length c):fm F sg f S=(c,0):=by
 have h2:=h.2;rw[List.drop_length]at h2;rw[h2];simp[fm]
theorem Om{l:Li}{xs:List Tn}{G:List Gr}{fo:FuncId}{caps:List AV}{sg:Bool}{o:List Aq}{a:Aq}{g:Gr}(hg:G[a.ms.length]?=some g)(hG:G.length<=100)(hx:xs.length<=100)(hd:g.kind=0->0<=g.driver/\g.driver<xs.length)
  {S:List Sv} {E:Nat} (hS:FP 17 [l.av,i64 a.ms.length,(cg g xs).av,a.av] (.tup [.lst 3 (S.map Sv.av),bp E])) (hSl:S.length<=100)
  {F:Int->Bool} (hF:∀m,FP fo ([i64 a.ms.length,i64 m]++caps) (bl (F m)))
  (hb:∀s∈S,FP 192 [a.av,g.av,s.av] (a.nxt g s).av)
  {f:Sv->List Aq×Nat} {M B:Nat} (hM:∀s∈S,(f s).1.length<=M) (hB:o.length+S.length*M<=B) (ih:∀(o:List Aq),o.length+M<=B->∀s∈S,Con prog 100 [.ptr 1000 0,(a.nxt g s).av] (fx l xs G fo caps sg 1001 (o.map Aq.av)) (bp (f s).2) (fx l xs G fo caps sg 900 ((o++(f s).1).map Aq.av))) :
  Con prog 100 [.ptr 1000 0,a.av] (fx l xs G fo caps sg 1001 (o.map Aq.av)) (bp (if E≠0 then E else(fm F sg f S).2)) (fx l xs G fo caps sg 900 ((o++(if E≠0 then[]else(fm F sg f S).1)).map Aq.av)):=by
 have hkG:=(List.getElem?_eq_some_iff.1 hg).1;refine gF func100 (fun k z h=>uY oz h) ?_;refine gl ?_;refine gl ?_;refine gC (fun t21=>?_) (fun t21=>?_) (st1:=(3,0));exact absurd t21 (by simp[aa];omega);refine gi (ax hg) ?_;refine gt (Io (Tt hd hx) (bB rfl rfl) rfl rfl rfl rfl rfl) ?_;refine gc hS ?_;refine gD ?_;refine gC (fun t54=>?_) (fun t54=>?_) (st1:=(8,0)) (st2:=(77777,0))
 ·have hE:=de t54;refine gW (Wk.o (sl:=[(4,some (.v .nilIface)),(8,some (bp E))]) (hp:=[(1000,some (.box (gB l xs G fo caps sg (.ms 1001 3 0 (o.map Aq.av).length)))),(1001,some (.row 3 (o.map Aq.av)))])) ?_ (8,0);refine gW (Wk.rk (k:=1001) (d:=900) rfl rfl) ?_;refine gR ?_;rw[if_pos hE,if_pos hE,append_nil];exact ao.keep (mc rfl rfl)
 have hE:=cQ t54;refine gW (Wk.of (sl:=[(0,some (.ptr 1000 0)),(3,some (.ptr 3 0)),(5,some (i64 a.ms.length)),(6,some (.ptr 6 0)),(7,some (.lst 3 (S.map Sv.av)))]) (hp:=[(3,some (.box a.cs)),(6,some (.box g.av.cells)),(1000,some (.box (gB l xs G fo caps sg (.ms 1001 3 0 ((o++[]).map Aq.av).length)))),(1001,some (.row 3 ((o++[]).map Aq.av)))]) aY (.k (.k (.cons rfl (BlkSub.bL (.cons (.refl _) (.cons (.refl _) (.cons (.refl _) (.cons (.refl _) (.cons (.refl _) (.cons (.refl _) (.cons (.refl _) (.cons (.refl _) (.cons (Sub.of (by simp)) .nil))))))))) rfl) (.cons rfl (BlkSub.of (by rw[append_nil])) .nil))))) ?_ (77777,0)
 refine gW (Wk.rk (k:=1001) (d:=901) rfl rfl) ?_;refine gl ?_;refine gz [0,3,5,6,56,57] [3,6] (fun(i:Nat)(c:List Aq)=>[(58,some (i64 i))]) (fun _ c=>[(1000,some (.box (gB l xs G fo caps sg (.ms 901 3 0 ((o++c).map Aq.av).length)))),(901,some (.row 3 ((o++c).map Aq.av)))]) (fun i c=>p6 F sg f S i c/\c.length<=i*M) (fun i _=>S.length-i) 0 ([]) ⟨O7 F sg f S,zero_le _⟩ ?_;rintro i c ⟨hfo,hcl⟩ K1 J1;refine gC (fun t59=>?_) (fun t59=>?_) (st2:=(19,0))
 ·have hin:=aW t59;obtain⟨s,hs⟩:=aw hin;have hsm:=mem_of_getElem? hs;have hfl:=hM s hsm;have hmul:(i+1)*M=i*M+M:=Nat.succ_mul i M;have hmul2:(i+1)*M<=S.length*M:=mul_le_mul_right M hin;refine gi (ax hs) ?_;refine gc (hF s.mode) ?_;refine gD ?_;refine gC (fun t70=>?_) (fun t70=>?_) (st2:=(77777,0))
  ·have hFm : F s.mode = false := by simpa using t70
   refine ga aH ?_;exact fM J1 (i+1) c ⟨I8 hfo hs hFm,by omega⟩
  have hFm:F s.mode=true:=by simpa using t70
  refine gW (Wk.o (sl:=[(0,some (.ptr 1000 0)),(3,some (.ptr 3 0)),(5,some (i64 a.ms.length)),(6,some (.ptr 6 0)),(10,some (.ptr 10 0)),(56,some (.lst 3 (S.map Sv.av))),(57,some (i64 S.length)),(58,some (i64 i))]) (hp:=[(3,some (.box a.cs)),(6,some (.box g.av.cells)),(10,some (.box s.av.cells)),(1000,some (.box (gB l xs G fo caps sg (.ms 901 3 0 ((o++c).map Aq.av).length)))),(901,some (.row 3 ((o++c).map Aq.av)))])) ?_
  refine gc (hb s hsm) ?_;refine gt (ay (IN (ih (o++c) (by rw[length_append];omega) s hsm)) (bB rfl rfl) aE rfl rfl) ?_;refine gC (fun t78=>?_) (fun t78=>?_)
  ·have he:(f s).2≠0:=de t78;have hR:=Ja hfo hs hFm he;refine gR ?_;rw[if_neg oz,if_neg oz,hR,<- append_assoc];exact ao.keep (mc rfl rfl)
  have he:(f s).2=0:=cQ t78;refine gC (fun t83=>?_) (fun t83=>?_) (st2:=(77777,0))
  ·have h1 : sg = true := by simpa using t83
   have hR:=Su hfo hs hFm he h1;refine gR ?_;rw[if_neg oz,if_neg oz,hR,<- append_assoc];exact ao.keep (mc rfl rfl)
  have h1:sg=false:=by simpa using t83
  refine gW (Wk.of (sl:=[(0,some (.ptr 1000 0)),(3,some (.ptr 3 0)),(5,some (i64 a.ms.length)),(6,some (.ptr 6 0)),(56,some (.lst 3 (S.map Sv.av))),(57,some (i64 S.length)),(58,some (i64 i))]) (hp:=[(3,some (.box a.cs)),(6,some (.box g.av.cells)),(1000,some (.box (gB l xs G fo caps sg (.ms 900 3 0 ((o++(c++(f s).1)).map Aq.av).length)))),(900,some (.row 3 ((o++(c++(f s).1)).map Aq.av)))]) aY (.k (.k (.cons rfl (BlkSub.bL (.cons (.refl _) (.cons (.refl _) (.cons (.refl _) (.cons (.refl _) (.cons (.refl _) (.cons (.refl _) (.cons (.refl _) (.cons (.refl _) (.cons (Sub.of (by rw[append_assoc])) .nil))))))))) rfl) (.cons rfl (BlkSub.of (by rw[append_assoc])) .nil))))) ?_ (77777,0)
  refine gW (Wk.rk (k:=900) (d:=901) rfl rfl) ?_;refine ga aH ?_;exact fM J1 (i+1) (c++(f s).1) ⟨PR hfo hs hFm he h1,by rw[length_append];omega⟩
 have hin:=be hfo.1 t59;subst hin;have hR:=Q3 hfo;refine gW (Wk.o (sl:=[]) (hp:=[(1000,some (.box (gB l xs G fo caps sg (.ms 901 3 0 ((o++c).map Aq.av).length)))),(901,some (.row 3 ((o++c).map Aq.av)))])) ?_ (19,0);refine gW (Wk.rk (k:=901) (d:=900) rfl rfl) ?_;refine gR ?_;rw[if_neg oz,if_neg oz,hR];exact ao.keep (mc rfl rfl)
variable{P:Program}{N:Nat}{R:Array Oper}{s:AS}{pos:String}{after:Array Edge}
end Go.Lw
namespace Go.Lw
open Go.Proofs
theorem qW(i:Int)(n:Nat):FP 187 [i64 i,i64 n] (bl (bn i n)):=by
 refine af func187 ?_;refine ae ?_;exact congrArg bl (Ic i n)
theorem JW(p q:Mk)(hp:p.ok)(hq:q.ok):FP 188 [p.av,q.av] (bl (decide (p.x.q=q.x.q/\p.y.q=q.y.q))):=by
 refine af func188 ?_;refine gc (Bt p.x q.x hp.x hq.x ((hp.qx.sub hq.qx).qs oz)) ?_;refine bI (fun _=>(Bt p.y q.y hp.y hq.y ((hp.qy.sub hq.qy).qs oz))) ?_;refine ae ?_;exact congrArg bl P8
theorem PF(b:Bd)(hbo:b.ok):FP 186 [b.av] (i64 (if 8<b.pts.length then 4 else fe b.pts.length (dX b.pts):Nat)):=by
 have hll:=hbo.ll;refine af func186 ?_;refine gl ?_;refine gC (fun t9=>?_) (fun t9=>?_)
 ·have h0:8<b.pts.length:=jC t9;refine ae ?_;rw[if_pos h0];rfl
 have h0:b.pts.length<=8:=gP t9;have e0:(if 8<b.pts.length then 4 else fe b.pts.length (dX b.pts):Nat)=fe b.pts.length (dX b.pts):=if_neg oz;refine aM [1] [1] (fun(p:Nat)=>[(3,some (i64 p))]) (fun _=>[]) (fun p=>p<=b.pts.length/\∀j,j<p->dX b.pts j=0) (fun p=>b.pts.length-p) 0 ⟨zero_le _,fun j h=>by omega⟩ ?_;rintro p ⟨hp,hpj⟩ K1 J1;refine gl ?_;refine gC (fun t14=>?_) (fun t14=>?_)
 ·have hpn:=aW t14;obtain⟨m,hm⟩:=aw hpn;have hmd:b.pts.getD p default=m:=aD hm;have hmm:=mem_of_getElem? hm;have hmdup:=nf Mk.name hm;have hmo:=hbo.pts m hmm;refine gi (ax hm) ?_;refine gc (td m.name (hbo.names m hmm)) ?_;refine gC (fun t25=>?_) (fun t25=>?_)
  ·have h4:=dq t25;have e2:dX b.pts p = 5:=by unfold dX; rw [hmd,if_pos h4]
   refine ae ?_;rw[e0,dY hpn hpj (by rw[e2];decide),e2];rfl
  have h4:=dD t25;refine aM [1,3,4] [1,4] (fun(q:Nat)=>[(5,some (i64 q))]) (fun _=>[]) (fun q=>q<=p/\(b.pts.take q).any (fun y=>dO y.name m.name)=false) (fun q=>p-q) 0 ⟨zero_le _,rfl⟩ ?_;rintro q ⟨hq,hqd⟩ K2 J2;refine gC (fun t28=>?_) (fun t28=>?_)
  ·have hqn:=aW t28;obtain⟨y,hy⟩:∃y,b.pts[q]?=some y:=aw oz;refine gi (ax hy) ?_;refine gD ?_;refine gC (fun t39=>?_) (fun t39=>?_)
   ·have h5:dO y.name m.name = true:=t39;have e2:dX b.pts p = 6:=by unfold dX; rw [hmd,if_neg (by rw [h4]; decide),if_pos (by rw [hmdup]; exact lI hy hqn h5)]
    refine ae ?_;rw[e0,dY hpn hpj (by rw[e2];decide),e2];rfl
   have h5:dO y.name m.name=false:=t39;refine ga aH ?_;exact aG J2 (q+1) ⟨hqn,kp hy hqd h5⟩
  have hqn:=be hq t28;subst hqn;have hmnd:¬f6 (b.pts.map Mk.name) q=true:=by rw[hmdup,hqd];decide
  refine gc (rC m.x hmo.x) ?_;refine bI (fun _=>(rC m.y hmo.y)) ?_;refine gC (fun t49=>?_) (fun t49=>?_)
  ·have h6:=oN t49;have e2:dX b.pts q = 3:=by unfold dX; rw [hmd,if_neg (by rw [h4]; decide),if_neg hmnd,if_neg (by rintro ⟨g1,g2⟩; rcases h6 with g | g; (rw [g1] at g; cases g); (rw [g2] at g; cases g))]
   refine ae ?_;rw[e0,dY hpn hpj (by rw[e2];decide),e2];rfl
  have h6:=nF t49;have e2:dX b.pts q=0:=by unfold dX;rw[hmd,if_neg (by rw[h4];decide),if_neg hmnd,if_pos h6]
  refine ga aH ?_;exact aG J1 (q+1) ⟨hpn,fun j h9=>by rcases lt_or_ge j q with g |g;exact hpj j g;(have:j=q:=by omega);subst this;exact e2⟩
 have hpn:=be hp t14;subst hpn;refine ae ?_;rw[e0,mV hpj];rfl
theorem SJ(l:Li)(hl:l.ok):FP 96 [l.av] (i64 (io l)):=by
 have hlb:=hl.lb;have e0:io l=fe l.bo.length (ef l.bo):=rfl;refine af func96 ?_;refine aM [1] [1] (fun(i:Nat)=>[(3,some (i64 i))]) (fun _=>[]) (fun i=>i<=l.bo.length/\∀j,j<i->ef l.bo j=0) (fun i=>l.bo.length-i) 0 ⟨zero_le _,fun j h=>by omega⟩ ?_;rintro i ⟨hi,hj⟩ K1 J1;refine gl ?_;refine gC (fun t10=>?_) (fun t10=>?_)
 ·have hin:=aW t10;obtain⟨b,hb⟩:=aw hin;have hbd:l.bo.getD i default=b:=aD hb;have hbo:=hl.bo b (mem_of_getElem? hb);have hbdup:=nf Bd.name hb;refine gi (ax hb) ?_;refine gc (td b.name hbo.name) ?_;refine gC (fun t20=>?_) (fun t20=>?_)
  ·have h1:=dq t20;have e1:ef l.bo i = 5:=by unfold ef; rw [hbd,if_pos h1]
   refine ae ?_;rw[e0,dY hin hj (by rw[e1];decide),e1];rfl
  have h1:=dD t20;refine aM [1,3] [1] (fun(k:Nat)=>[(4,some (i64 k))]) (fun _=>[]) (fun k=>k<=i/\(l.bo.take k).any (fun y=>dO y.name b.name)=false) (fun k=>i-k) 0 ⟨zero_le _,rfl⟩ ?_;rintro k ⟨hk,hd⟩ K2 J2;refine gC (fun t23=>?_) (fun t23=>?_)
  ·have hkn:=aW t23;obtain⟨y,hy⟩:∃y,l.bo[k]?=some y:=aw oz;refine gi (ax hy) ?_;refine gi (ax hb) ?_;refine gD ?_;refine gC (fun t38=>?_) (fun t38=>?_)
   ·have h2:dO y.name b.name = true:=t38;have e1:ef l.bo i = 6:=by unfold ef; rw [hbd,if_neg (by rw [h1]; decide),if_pos (by rw [hbdup]; exact lI hy hkn h2)]
    refine ae ?_;rw[e0,dY hin hj (by rw[e1];decide),e1];rfl
   have h2:dO y.name b.name=false:=t38;refine ga aH ?_;exact aG J2 (k+1) ⟨hkn,kp hy hd h2⟩
  have hkn:=be hk t23;subst hkn;have hnd:¬f6 (l.bo.map Bd.name) k=true:=by rw[hbdup,hd];decide
  have e1:ef l.bo k=if 8<b.pts.length then 4 else fe b.pts.length (dX b.pts):=by unfold ef;rw[hbd,if_neg (by rw[h1];decide),if_neg hnd]
  refine gi (ax hb) ?_;refine gc (PF b hbo) ?_;refine gC (fun t46=>?_) (fun t46=>?_)
  ·have h3:=fZ t46;refine ae ?_;rw[e0,dY hin hj (by rw[e1];exact h3),e1]
  have h3:=fI t46;refine ga aH ?_;exact aG J1 (k+1) ⟨hin,fun j h9=>by rcases lt_or_ge j k with g |g;exact hj j g;(have:j=k:=by omega);subst this;exact e1.trans h3⟩
 have hin:=be hi t10;subst hin;refine ae ?_;rw[e0,mV hj];rfl
theorem S7(l:Li)(hl:l.ok)(i:Nat)(hi:i<l.jo.length)(h16:l.jo.length<=16):FP 97 [l.av,i64 i] (i64 (fT l i)):=by
 obtain⟨j,hjj⟩:=aw hi;have hbd:l.jo.getD i default=j:=aD hjj;have hbdup:=nf Jt.name hjj;refine af func97 ?_;refine gi (ax hjj) ?_;refine gc (td j.name (hl.jnames j (mem_of_getElem? hjj))) ?_;refine gC (fun t17=>?_) (fun t17=>?_)
 ·have h0:=dq t17;refine ae ?_;unfold fT;rw[hbd,if_pos h0];rfl
 have h0:=dD t17;refine aM [1,2,5] [2,5] (fun(k:Nat)=>[(6,some (i64 k))]) (fun _=>[]) (fun k=>k<=i/\(l.jo.take k).any (fun y=>dO y.name j.name)=false) (fun k=>i-k) 0 ⟨zero_le _,rfl⟩ ?_;rintro k ⟨hk,hd⟩ K1 J1;refine gC (fun t20=>?_) (fun t20=>?_)
 ·have hkn:=aW t20;obtain⟨y,hy⟩:∃y,l.jo[k]?=some y:=aw oz;refine gi (ax hy) ?_;refine gD ?_;refine gC (fun t31=>?_) (fun t31=>?_)
  ·have h2:dO y.name j.name=true:=t31;refine ae ?_;unfold fT;rw[hbd,if_neg (by rw[h0];decide),if_pos (by rw[hbdup];exact lI hy hkn h2)];rfl
  have h2:dO y.name j.name=false:=t31;refine ga aH ?_;exact aG J1 (k+1) ⟨hkn,kp hy hd h2⟩
 have hkn:=be hk t20;subst hkn;have hnd:¬f6 (l.jo.map Jt.name) k=true:=by rw[hbdup,hd];decide
 have e1:fT l k=en l j:=by unfold fT;rw[hbd,if_neg (by rw[h0];decide),if_neg hnd]
 refine gC (fun t39=>?_) (fun t39=>?_)
 ·have h1:=Ha t39;refine ae ?_;rw[e1];unfold en;rw[if_pos h1];rfl
 have h1:=F5 t39;refine gl ?_;refine gc (qW j.a l.bo.length) ?_;refine ci ?_;refine bI (fun _=>(qW j.b l.bo.length)) ?_;refine gC (fun t55=>?_) (fun t55=>?_)
 ·have h2:=oN t55;refine ae ?_;rw[e1];unfold en;rw[if_neg h1,if_pos h2];rfl
 have h2:=nF t55;have h2n:¬(bn j.a l.bo.length=false\/bn j.b l.bo.length=false):=by rw[h2.1,h2.2];simp
 obtain⟨A,hA,pA,mA,zA0⟩:=o4 h2.1;obtain⟨B,hB,pB,mB,zB0⟩:=o4 h2.2;refine gC (fun t60=>?_) (fun t60=>?_)
 ·have h3:=cT t60;refine ae ?_;rw[e1];unfold en;rw[if_neg h1,if_neg h2n,if_pos h3];rfl
 have h3:=d5 t60;refine gi (ax hA) ?_;refine gi (ax hB) ?_;refine gD ?_;refine gl ?_;refine gc (qW j.point A.pts.length) ?_;refine ci ?_;refine bI (fun _=>(qW j.on B.pts.length)) ?_;refine gC (fun t88=>?_) (fun t88=>?_)
 ·have h4:=oN t88;refine ae ?_;rw[e1];unfold en;rw[if_neg h1,if_neg h2n,if_neg h3,pA,pB,if_pos h4];rfl
 have h4:=nF t88;have h4n:¬(bn j.point A.pts.length=false\/bn j.on B.pts.length=false):=by rw[h4.1,h4.2];simp
 refine gC (fun t91=>?_) (fun t91=>?_)
 ·have h5:=cT t91;refine gC (fun t94=>?_) (fun t94=>?_)
  ·have h6:=rK t94;refine ae ?_;rw[e1];unfold en;rw[if_neg h1,if_neg h2n,if_neg h3,pA,pB,if_neg h4n,if_pos h5,if_pos h6];rfl
  have h6:=zT t94;refine ae ?_;rw[e1];unfold en;rw[if_neg h1,if_neg h2n,if_neg h3,pA,pB,if_neg h4n,if_pos h5,if_neg (by rw[h6];simp)];rfl
 have h5:=d5 t91;refine gl ?_;refine gc (qW j.to B.pts.length) ?_;refine gC (fun t100=>?_) (fun t100=>?_)
 ·have h6:=dq t100;refine ae ?_;rw[e1];unfold en;rw[if_neg h1,if_neg h2n,if_neg h3,pA,pB,if_neg h4n,if_neg h5,if_pos h6];rfl
 have h6:=dD t100;obtain⟨m1,g1,d1,mm1,z1⟩:=s6 h4.2;obtain⟨m2,g2,d2,mm2,z2⟩:=s6 h6;have mo1:=(hl.bo B mB).pts m1 mm1;have mo2:=(hl.bo B mB).pts m2 mm2;refine gi (ax g1) ?_;refine gi (ax g2) ?_;refine gc (JW m1 m2 mo1 mo2) ?_;refine gD ?_;refine gC (fun t111=>?_) (fun t111=>?_)
 ·have h7:=of_decide_eq_true t111;refine ae ?_;rw[e1];unfold en;rw[if_neg h1,if_neg h2n,if_neg h3,pA,pB,if_neg h4n,if_neg h5,if_neg (by rw[h6];decide),d1,d2,if_pos h7];rfl
 have h7:=of_decide_eq_false t111;refine ae ?_;rw[e1];unfold en;rw[if_neg h1,if_neg h2n,if_neg h3,pA,pB,if_neg h4n,if_neg h5,if_neg (by rw[h6];decide),d1,d2,if_neg h7];rfl
theorem JT(l:Li)(hl:l.ok)(i:Nat)(hi:i<l.dv.length)(h2l:l.dv.length<=2):FP 98 [l.av,i64 i] (i64 (dU l i)):=by
 obtain⟨b,hb⟩:=aw hi;have hbd:l.dv.getD i default=b:=aD hb;have hbdup:=nf Dr.name hb;refine af func98 ?_;refine gi (ax hb) ?_;refine gc (td b.name (hl.dnames b (mem_of_getElem? hb))) ?_;refine gC (fun t16=>?_) (fun t16=>?_)
 ·have h1:=dq t16;refine ae ?_;unfold dU;rw[hbd,if_pos h1];rfl
 have h1:=dD t16;refine aM [1,2,5] [2,5] (fun(k:Nat)=>[(6,some (i64 k))]) (fun _=>[]) (fun k=>k<=i/\(l.dv.take k).any (fun y=>dO y.name b.name)=false) (fun k=>i-k) 0 ⟨zero_le _,rfl⟩ ?_;rintro k ⟨hk,hd⟩ K1 J1;refine gC (fun t19=>?_) (fun t19=>?_)
 ·have hkn:=aW t19;obtain⟨y,hy⟩:∃y,l.dv[k]?=some y:=aw oz;refine gi (ax hy) ?_;refine gD ?_;refine gC (fun t30=>?_) (fun t30=>?_)
  ·have h2:dO y.name b.name=true:=t30;refine ae ?_;unfold dU;rw[hbd,if_neg (by rw[h1];decide),if_pos (by rw[hbdup];exact lI hy hkn h2)];rfl
  have h2:dO y.name b.name=false:=t30;refine ga aH ?_;exact aG J1 (k+1) ⟨hkn,kp hy hd h2⟩
 have hkn:=be hk t19;subst hkn;have hnd:¬f6 (l.dv.map Dr.name) k=true:=by rw[hbdup,hd];decide
 refine gl ?_;refine gc (qW b.body l.bo.length) ?_;refine gC (fun t37=>?_) (fun t37=>?_)
 ·have h3:=dq t37;refine ae ?_;unfold dU;rw[hbd,if_neg (by rw[h1];decide),if_neg hnd,if_pos h3];rfl
 have h3:=dD t37;refine gC (fun t40=>?_) (fun t40=>?_)
 ·have h4:=cT t40;refine ae ?_;unfold dU;rw[hbd,if_neg (by rw[h1];decide),if_neg hnd,if_neg (by rw[h3];decide),if_pos h4];rfl
 have h4:=d5 t40;have e1:dU l k=if(l.dv.take k).any (fun d=>decide (d.body=b.body))=true then 6 else 0:=by unfold dU;rw[hbd,if_neg (by rw[h1];decide),if_neg hnd,if_neg (by rw[h3];decide),if_neg h4]
 refine aM [1,2,5] [2,5] (fun(q:Nat)=>[(7,some (i64 q))]) (fun _=>[]) (fun q=>q<=k/\(l.dv.take q).any (fun d=>decide (d.body=b.body))=false) (fun q=>k-q) 0 ⟨zero_le _,rfl⟩ ?_;rintro q ⟨hq,hqd⟩ K2 J2;refine gC (fun t43=>?_) (fun t43=>?_)
 ·have hqn:=aW t43;obtain⟨y,hy⟩:∃y,l.dv[q]?=some y:=aw oz;refine gi (ax hy) ?_;refine gD ?_;refine gC (fun t54=>?_) (fun t54=>?_)
  ·have h5:decide (y.body=b.body)=true:=decide_eq_true (cT t54);refine ae ?_;rw[e1,if_pos (lI hy hqn h5)];rfl
  have h5:decide (y.body=b.body)=false:=decide_eq_false (d5 t54);refine ga aH ?_;exact aG J2 (q+1) ⟨hqn,kp hy hqd h5⟩
 have hqn:=be hq t43;subst hqn;refine ae ?_;rw[e1,hqd];rfl
theorem Cn(l:Li)(hl:l.ok):FP 32 [l.av] (i64 (aB l)):=by
 have hlb:=hl.lb;refine af func32 ?_;refine gc (td l.name hl.name) ?_;refine gC (fun t11=>?_) (fun t11=>?_)
 ·have h1:=dq t11;refine ae ?_;unfold aB;rw[if_pos h1];rfl
 have h1:=dD t11;refine gl ?_;refine gC (fun t15=>?_) (fun t15=>?_)
 ·have h2:=E0 t15;refine ae ?_;unfold aB;rw[if_neg (by rw[h1];decide),if_pos h2];rfl
 have h2:=Ed t15;refine gl ?_;refine gC (fun t19=>?_) (fun t19=>?_)
 ·have h3:8<l.bo.length:=jC t19;refine ae ?_;unfold aB;rw[if_neg (by rw[h1];decide),if_neg h2,if_pos h3];rfl
 have h3:l.bo.length<=8:=gP t19;have e0:aB l=if io l≠0 then io l else if eQ l≠0 then eQ l else f9 l:=by unfold aB;rw[if_neg (by rw[h1];decide),if_neg h2,if_neg oz]
 refine gc (SJ l hl) ?_;refine gC (fun t23=>?_) (fun t23=>?_)
 ·have h4:io l≠0:=fZ t23;refine ae ?_;rw[e0,if_pos h4]
 have h4:io l=0:=fI t23;refine gl ?_;refine gC (fun t28=>?_) (fun t28=>?_)
 ·have h5:16 < l.jo.length:=jC t28;have ej:eQ l = 4:=by unfold eQ; rw [if_pos h5]
  refine ae ?_;rw[e0,if_neg (by rw[h4];simp),if_pos (by rw[ej];decide),ej];rfl
 have h5:l.jo.length<=16:=gP t28;have ej:eQ l=fe l.jo.length (fT l):=by unfold eQ;rw[if_neg oz]
 refine aM [1] [1] (fun(i:Nat)=>[(4,some (i64 i))]) (fun _=>[]) (fun i=>i<=l.jo.length/\∀j,j<i->fT l j=0) (fun i=>l.jo.length-i) 0 ⟨zero_le _,fun j h=>by omega⟩ ?_;rintro i ⟨hi,hj⟩ K1 J1;refine gl ?_;refine gC (fun t33=>?_) (fun t33=>?_)
 ·have hin:=aW t33;refine gc (S7 l hl i hin h5) ?_;refine gC (fun t40=>?_) (fun t40=>?_)
  ·have h6:=fZ t40;refine ae ?_;rw[e0,if_neg (by rw[h4];simp),if_pos (by rw[ej,dY hin hj h6];exact h6),ej,dY hin hj h6]
  have h6:=fI t40;refine ga aH ?_;exact aG J1 (i+1) ⟨hin,fun j h9=>by rcases lt_or_ge j i with g |g;exact hj j g;(have:j=i:=by omega);subst this;exact h6⟩
 have hin:=be hi t33;subst hin;have ejz:eQ l=0:=ej.trans (mV hj);have e0':aB l=f9 l:=by rw[e0,if_neg (by rw[h4];simp),if_neg (by rw[ejz];simp)]
 refine gl ?_;refine gC (fun t45=>?_) (fun t45=>?_)
 ·have h6:2<l.dv.length:=jC t45;refine ae ?_;rw[e0'];unfold f9;rw[if_pos h6];rfl
 have h6:l.dv.length<=2:=gP t45;have ed:f9 l=fe l.dv.length (dU l):=by unfold f9;rw[if_neg oz]
 refine aM [1] [1] (fun(k:Nat)=>[(6,some (i64 k))]) (fun _=>[]) (fun k=>k<=l.dv.length/\∀j,j<k->dU l j=0) (fun k=>l.dv.length-k) 0 ⟨zero_le _,fun j h=>by omega⟩ ?_;rintro k ⟨hk,hkj⟩ K2 J2;refine gl ?_;refine gC (fun t50=>?_) (fun t50=>?_)
 ·have hkn:=aW t50;refine gc (JT l hl k hkn h6) ?_;refine gC (fun t57=>?_) (fun t57=>?_)
  ·have h7:=fZ t57;refine ae ?_;rw[e0',ed,dY hkn hkj h7]
  have h7:=fI t57;refine ga aH ?_;exact aG J2 (k+1) ⟨hkn,fun j h9=>by rcases lt_or_ge j k with g |g;exact hkj j g;(have:j=k:=by omega);subst this;exact h7⟩
 have hkn:=be hk t50;subst hkn;refine ae ?_;rw[e0',ed,mV hkj];rfl
theorem Ng(l:Li)(hl:l.okw):FP 57 [l.av] (bl (il l)):=by
 have hbl:=hl.lb;refine af func57 ?_;refine gl ?_;refine aM [1,8,9] [1] (fun(i:Nat)=>[(10,some (i64 i))]) (fun _=>[]) (fun i=>i<=l.bo.length/\(l.bo.take i).all oE=true) (fun i=>l.bo.length-i) 0 ⟨zero_le _,rfl⟩ ?_;rintro i ⟨hi,hj⟩ K1 J1;refine gC (fun t11=>?_) (fun t11=>?_)
 ·have hin:=aW t11;obtain⟨b,hb⟩:=aw hin;refine gi (ax hb) ?_;refine gl ?_;refine gC (fun t17=>?_) (fun t17=>?_)
  ·have h1:30<b.pts.length:=jC t17;refine ae ?_;unfold il;rw[lA hb (by unfold oE;rw[decide_eq_false oz];rfl)];rfl
  have h1:b.pts.length<=30:=gP t17;refine gl ?_;refine aM [1,8,9,10,19,20] [1] (fun(k:Nat)=>[(21,some (i64 k))]) (fun _=>[]) (fun k=>k<=b.pts.length/\(b.pts.take k).all kV=true) (fun k=>b.pts.length-k) 0 ⟨zero_le _,rfl⟩ ?_;rintro k ⟨hk,hkj⟩ K2 J2;refine gC (fun t22=>?_) (fun t22=>?_)
  ·have hkn:=aW t22;obtain⟨p,hp⟩:=aw hkn;refine gi (ax hp) ?_;refine gl ?_;refine ci ?_;refine ci ?_;refine ci ?_;refine gC (fun t50=>?_) (fun t50=>?_)
   ·have h2:kV p=false:=L7 t50;refine ae ?_;unfold il;rw[lA hb (by unfold oE;rw[lA hp h2,Bool.and_false])];rfl
   have h2:kV p=true:=U8 t50;refine ga aH ?_;exact aG J2 (k+1) ⟨hkn,l9 hkj hp h2⟩
  have hkn:=be hk t22;refine ga aH ?_;exact aG J1 (i+1) ⟨hin,l9 hj hb (by unfold oE;rw[decide_eq_true h1,lN hkn hkj];rfl)⟩
 have hin:=be hi t11;refine gl ?_;refine ci ?_;refine ci ?_;refine ae ?_;exact congrArg bl (O8 (lN hin hj))
def lw(r:Rt):Bool:=!(cond (cond (cond (aa .gtr (r.num.length:Int) 1) true (aa .gtr (r.den.length:Int) 1)) true (cond (aa .eql (r.num.length:Int) 1) (aa .gtr (ah r.num 0:Int) 400) false)) true
  (cond (aa .eql (r.den.length:Int) 1) (aa .gtr (ah r.den 0:Int) 20) false))
theorem DN(rs:List Rt)(hl:rs.length<=1000):FP 184 [.lst 3 (rs.map Rt.av)] (bl (rs.all lw)):=by
 refine af func184 ?_;refine gl ?_;refine aM [5,6] [] (fun(i:Nat)=>[(7,some (i64 i))]) (fun _=>[]) (fun i=>i<=rs.length/\(rs.take i).all lw=true) (fun i=>rs.length-i) 0 ⟨zero_le _,rfl⟩ ?_;rintro i ⟨hi,hj⟩ K1 J1;refine gC (fun t8=>?_) (fun t8=>?_)
 ·have hin:=aW t8;obtain ⟨r,hr⟩:=aw hin;refine gi (ax hr) ?_;refine gl ?_;refine ci ?_;refine ci ?_;refine ka (fun ⟨h,h2⟩=>(bZ (by have:=cT h2; have e:Int.toNat 0 = 0:=rfl; omega))) ?_;refine ci ?_;refine ka (fun ⟨h,h2⟩=>(bZ (by have:=cT h2; have e:Int.toNat 0 = 0:=rfl; omega))) ?_;refine gC (fun t46=>?_) (fun t46=>?_)
  ·have h1:lw r=false:=congrArg Bool.not t46;refine ae ?_;rw[lA hr h1];rfl
  have h1:lw r=true:=congrArg Bool.not t46;refine ga aH ?_;exact aG J1 (i+1) ⟨hin,l9 hj hr h1⟩
 have hin:=be hi t8;refine ae ?_;rw[lN hin hj];rfl
def lQ(x:Tn):Bool:=decide (x.t.num.length<=1/\x.t.den.length<=1)
def kI(m:Mk):Bool:=decide (m.x.num.length<=1/\m.x.den.length<=1/\m.y.num.length<=1/\m.y.den.length<=1)
def qT(xs:List Tn):Bool:=xs.all (fun x=>[x.t].all lw)
def ta(ps:List Mk):Bool:=ps.all (fun p=>[p.x,p.y].all lw)
def pO(l:Li):Bool:=l.bo.all (fun b=>ta b.pts)
theorem OO(l:Li)(hl:l.ok)(xs:List Tn)(hxl:xs.length<=281474976710656):FP 94 [l.av,.lst 4 (xs.map Tn.av)] (bl (qT xs&&pO l)):=by
 have hlb:=hl.lb;refine af func94 ?_;refine gl ?_;refine aM [2,11,12] [2] (fun(i:Nat)=>[(13,some (i64 i))]) (fun _=>[]) (fun i=>i<=xs.length/\(xs.take i).all (fun x=>[x.t].all lw)=true) (fun i=>xs.length-i) 0 ⟨zero_le _,rfl⟩ ?_;rintro i ⟨hi,hj⟩ K1 J1;refine gC (fun t14=>?_) (fun t14=>?_)
 ·have hin:=aW t14;obtain ⟨x,hx⟩:=aw hin;refine gi (ax hx) ?_;refine gc (DN [x.t] (by show 1 <= _; omega)) ?_;refine gC (fun t21=>?_) (fun t21=>?_)
  ·have h1:=dq t21;refine ae ?_;unfold qT;rw[lA hx h1];rfl
  have h1:=dD t21;refine ga aH ?_;exact aG J1 (i+1) ⟨hin,l9 hj hx h1⟩
 have hT:qT xs=true:=lN (be hi t14) hj;refine gl ?_;refine aM [2,24,25] [2] (fun(i:Nat)=>[(26,some (i64 i))]) (fun _=>[]) (fun i=>i<=l.bo.length/\(l.bo.take i).all (fun b=>ta b.pts)=true) (fun i=>l.bo.length-i) 0 ⟨zero_le _,rfl⟩ ?_;rintro i ⟨hi2,hj2⟩ K2 J2;refine gC (fun t27=>?_) (fun t27=>?_)
 ·have hin:=aW t27;obtain⟨b,hb⟩:=aw hin;have hbl:=(hl.bo b (mem_of_getElem? hb)).ll;refine gi (ax hb) ?_;refine gl ?_;refine aM [2,24,25,26,31,32] [2] (fun(k:Nat)=>[(33,some (i64 k))]) (fun _=>[]) (fun k=>k<=b.pts.length/\(b.pts.take k).all (fun p=>[p.x,p.y].all lw)=true) (fun k=>b.pts.length-k) 0 ⟨zero_le _,rfl⟩ ?_;rintro k ⟨hk,hkj⟩ K3 J3;refine gC (fun t34=>?_) (fun t34=>?_)
  ·have hkn:=aW t34;obtain ⟨p,hp⟩:=aw hkn;refine gi (ax hp) ?_;refine gc (DN [p.x,p.y] (by show 2 <= _; omega)) ?_;refine gC (fun t43=>?_) (fun t43=>?_)
   ·have h1:=dq t43;refine ae ?_;rw[hT];unfold pO;rw[lA hb (by unfold ta;exact lA hp h1)];rfl
   have h1:=dD t43;refine ga aH ?_;exact aG J3 (k+1) ⟨hkn,l9 hkj hp h1⟩
  have hP:ta b.pts=true:=lN (be hk t34) hkj;refine ga aH ?_;exact aG J2 (i+1) ⟨hin,l9 hj2 hb hP⟩
 have hL:pO l=true:=lN (be hi2 t27) hj2;refine ae ?_;rw[hT,hL];rfl
def xm(l:Li)(xs:List Tn):Bool :=
  cond (cond (aa .neq (cm l:Int) 0) true (aa .leq (((aN l).length:Int)-l.dv.length) 1)) true (cond (aa .eql (((aN l).length:Int)-l.dv.length) 2) (qT xs&&pO l) false)
def jR(l:Li)(xs:List Tn):Bool :=
  (il l&&decide (xs.length<=20))&&(xs.all lQ&&(l.bo.all (fun b=>b.pts.all kI)&&(if aB l=0 then xm l xs else true)))
theorem MA{l:Li}{n:Nat}(h:cond (!il l) true (aa .gtr (n:Int) 20)=true):(il l&&decide (n<=20))=false:=by
 cases hb:il l
 ·rfl
 ·rw[hb]at h;have h1:20<n:=jC (b:=20) h;rw[decide_eq_false oz];rfl
theorem TZ{l:Li}{n:Nat}(h:cond (!il l) true (aa .gtr (n:Int) 20)=false):il l=true/\n<=20:=by
 cases hb:il l
 ·rw[hb]at h;cases h
 ·rw[hb]at h;exact⟨rfl,gP (b:=20) h⟩
theorem DU{x:Tn}:cond (aa .gtr (x.t.num.length:Int) 1) true (aa .gtr (x.t.den.length:Int) 1)=!lQ x:=by
 unfold lQ;have e1:=kM (n:=x.t.num.length) (k:=1);have e2:=kM (n:=x.t.den.length) (k:=1);rw[iF];refine(congr (congrArg _ e1) e2).trans ?_;rw[<- Bool.decide_or,<- decide_not];exact decide_eq_decide.2 oz
theorem Hb{m:Mk}:cond (cond (cond (aa .gtr (m.x.num.length:Int) 1) true (aa .gtr (m.x.den.length:Int) 1)) true (aa .gtr (m.y.num.length:Int) 1)) true (aa .gtr (m.y.den.length:Int) 1)=!kI m:=by
 unfold kI;have e1:=kM (n:=m.x.num.length) (k:=1);have e2:=kM (n:=m.x.den.length) (k:=1);have e3:=kM (n:=m.y.num.length) (k:=1);have e4:=kM (n:=m.y.den.length) (k:=1);rw[iF,iF,iF];refine(congr (congrArg _ (congr (congrArg _ (congr (congrArg _ e1) e2)) e3)) e4).trans ?_;rw[<- Bool.decide_or,<- Bool.decide_or,<- Bool.decide_or,<- decide_not];exact decide_eq_decide.2 oz
theorem rQ{l:Li}(hl:aB l=0):(aN l).length<=8:=by
 unfold aN;split
 ·exact(rL hl).2
 ·exact zero_le _
theorem LF(l:Li)(hw:l.okw)(xs:List Tn)(hxl:xs.length<=281474976710656):FP 31 [l.av,.lst 4 (xs.map Tn.av)] (bl (jR l xs)):=by
 refine af func31 ?_;refine gc (Ng l hw) ?_;refine ci ?_;refine gC (fun t21=>?_) (fun t21=>?_)
 ·have h1:=MA t21;refine ae ?_;unfold jR;rw[h1];rfl
 obtain⟨g1,g2⟩:=TZ t21;have hl:=uH g1 hw;have hlb:=hl.lb;refine gl ?_;refine aM [1,2,22,23] [2] (fun(i:Nat)=>[(24,some (i64 i))]) (fun _=>[]) (fun i=>i<=xs.length/\(xs.take i).all lQ=true) (fun i=>xs.length-i) 0 ⟨zero_le _,rfl⟩ ?_;rintro i ⟨hi,hj⟩ K1 J1;refine gC (fun t25=>?_) (fun t25=>?_)
 ·have hin:=aW t25;obtain⟨x,hx⟩:=aw hin;refine gi (ax hx) ?_;refine gl ?_;refine ci ?_;refine gC (fun t39=>?_) (fun t39=>?_)
  ·have h1 : lQ x = false := by rw [DU] at t39; exact dq t39
   refine ae ?_;unfold jR;rw[g1,decide_eq_true g2,lA hx h1];rfl
  have h1:lQ x=true:=by rw[DU]at t39;exact dD t39
  refine ga aH ?_;exact aG J1 (i+1) ⟨hin,l9 hj hx h1⟩
 have hT:xs.all lQ=true:=lN (be hi t25) hj;refine gl ?_;refine aM [1,2,42,43] [2] (fun(i:Nat)=>[(44,some (i64 i))]) (fun _=>[]) (fun i=>i<=l.bo.length/\(l.bo.take i).all (fun b=>b.pts.all kI)=true) (fun i=>l.bo.length-i) 0 ⟨zero_le _,rfl⟩ ?_;rintro i ⟨hi2,hj2⟩ K2 J2;refine gC (fun t45=>?_) (fun t45=>?_)
 ·have hin:=aW t45;obtain⟨b,hb⟩:=aw hin;have hbl:=(hl.bo b (mem_of_getElem? hb)).ll;refine gi (ax hb) ?_;refine gl ?_;refine aM [1,2,42,43,44,49,50] [2] (fun(k:Nat)=>[(51,some (i64 k))]) (fun _=>[]) (fun k=>k<=b.pts.length/\(b.pts.take k).all kI=true) (fun k=>b.pts.length-k) 0 ⟨zero_le _,rfl⟩ ?_;rintro k ⟨hk,hkj⟩ K3 J3;refine gC (fun t52=>?_) (fun t52=>?_)
  ·have hkn:=aW t52;obtain⟨p,hp⟩:=aw hkn;refine gi (ax hp) ?_;refine gl ?_;refine ci ?_;refine ci ?_;refine ci ?_;refine gC (fun t80=>?_) (fun t80=>?_)
   ·have h1 : kI p = false := by rw [Hb] at t80; exact dq t80
    refine ae ?_;unfold jR;rw[g1,decide_eq_true g2,hT,lA hb (lA hp h1)];rfl
   have h1:kI p=true:=by rw[Hb]at t80;exact dD t80
   refine ga aH ?_;exact aG J3 (k+1) ⟨hkn,l9 hkj hp h1⟩
  have hP:b.pts.all kI=true:=lN (be hk t52) hkj;refine ga aH ?_;exact aG J2 (i+1) ⟨hin,l9 hj2 hb hP⟩
 have hL:l.bo.all (fun b=>b.pts.all kI)=true:=lN (be hi2 t45) hj2;refine gc (Cn l hl) ?_;refine gC (fun t85=>?_) (fun t85=>?_)
 ·have h1:=fZ t85;refine ae ?_;unfold jR;rw[g1,decide_eq_true g2,hT,hL,if_neg h1];rfl
 have h1:=fI t85;have hsl:=rQ h1;have hld:=hl.ld;refine gc (G8 l hl h1) ?_;refine gl ?_;refine gl ?_;refine ga (dB oz) ?_;refine bI (fun _=>(OO l hl xs hxl)) ?_;refine ae ?_;unfold jR xm;rw[g1,decide_eq_true g2,hT,hL,if_pos h1];rfl
section
variable{l:Li}{xs:List Tn}{s g:Nat}(W:WkC l xs s g){k:Nat}{gr:Gr}(hg:(aN l)[k]?=some gr){j r E:Nat}{a:Aq}(Q:QInv l j r E a){n y:Nat}(ok:eG s g (n+1) y j r E=true)(hy:gr.kind≠0->0<y)
include W hg Q ok hy
theorem Lt:∃F,F<=20000000000/\ry F l k a.as false/\AB a.as/\(Lw.llq a.as.rs).length<=2/\(gr.kind≠0->F=3900000/\DyS a.as):=by
 obtain⟨⟨hE,hr,hj⟩,_⟩:=rJ ok;have h3:(Lw.llq a.as.rs).length<=2:=by rw[a.llq];have:=Q.lv;omega
 have al:=Q.ab W.li (by omega:E<=50000000000) hr
 by_cases hk:gr.kind=0
 ·exact⟨E,hE,Q.sma oz (le_refl _) k false,al,h3,fun h=>absurd hk h⟩
 ·have hy:=hy hk;obtain ⟨y',rfl⟩:∃ y',y = y' + 1:=⟨y - 1,by omega⟩
  obtain⟨⟨hj,hE,hr,hX,hJ⟩,_⟩:=sF ok;exact⟨3900000,by omega,Q.sma oz hE k false,al,h3,fun _=>⟨rfl,QInv.dyS W hg Q hr hj⟩⟩
theorem Oh:vJ l k (cg gr xs) a.as=((fg l a.as gr (cg gr xs)).map Sv.av,mU l a.as gr (cg gr xs)):=by
 have _:=ok;have _:=hy;unfold vJ;have hgA:ja l (k:Nat)=gr:=aD hg;rw[if_pos (Q.dy0 W.li W.sp hg false),hgA];exact Prod.ext (SC _ _ _ _) rfl
theorem Rl:FP 17 [l.av,i64 k,(cg gr xs).av,a.av] (.tup [.lst 3 ((fg l a.as gr (cg gr xs)).map Sv.av),bp (mU l a.as gr (cg gr xs))]):=by
 obtain⟨F,hF,hs,al,h3,hR⟩:=Lt W hg Q ok hy;have hgA:ja l (k:Nat)=gr:=aD hg;have h:=Sk l W.hl k (W.tn hg).1 (W.tn hg).2.1 a.as al (fun _=>h3) hF hs (fun _ h=>hR (by rw[hgA]at h;exact h));rw[Oh W hg Q ok hy,a.as_av]at h;exact h
theorem UW:∃y' j' r' E',eG s g n y' j' r' E'=true/\(y'+(if gr.kind≠0 then 1 else 0)=y)/\∀sv∈fg l a.as gr (cg gr xs),QInv l j' r' E' (a.nxt gr sv):=by
 by_cases hk:gr.kind=0
 ·exact⟨y,j,r,_,(rJ ok).2,by simp[hk],Q.drv W hg ok hk⟩
 ·have hy:=hy hk;obtain ⟨y',rfl⟩:∃ y',y = y' + 1:=⟨y - 1,by omega⟩
  exact⟨y',j+1,_,_,(sF ok).2,by simp[hk],Q.dy W hg ok hk⟩
end
def k9(g:Gr):Bool:=decide (g.kind≠0)
theorem Gf{F:Int->Bool}{sg:Bool}{f:Sv->List Aq×Nat}{M:Nat}:∀{S:List Sv},(∀s∈S,(f s).1.length<=M)->(fm F sg f S).1.length<=S.length*M
 |[],h=>zero_le _
 |s::S,h=>by
  have h1:=h s mem_cons_self;have h2:=Gf (F:=F) (sg:=sg) (S:=S) (fun x hx=>h x (mem_cons_of_mem _ hx));rw[pY,length_cons,Nat.succ_mul];split
  ·omega
  ·split
   ·omega
   ·split
    ·omega
    ·simp only[length_append];omega
structure WkSt(l:Li)(s g n:Nat)(a:Aq):Prop where
  st:∃j r E y,QInv l j r E a/\eG s g n y j r E=true/\((aN l).drop a.ms.length).countP k9<=y
  ln:a.ms.length+n=(aN l).length
theorem WkSt.next{l:Li}{xs:List Tn}{s g n:Nat}(W:WkC l xs s g){a:Aq}(h:WkSt l s g (n+1) a):∃gr,(aN l)[a.ms.length]?=some gr /\
  FP 17 [l.av,i64 a.ms.length,(cg gr xs).av,a.av] (.tup [.lst 3 ((fg l a.as gr (cg gr xs)).map Sv.av),bp (mU l a.as gr (cg gr xs))]) /\
  SolP (fg l a.as gr (cg gr xs)) gr.kind a.ts.length gr.bo.length/\∀sv∈fg l a.as gr (cg gr xs),WkSt l s g n (a.nxt gr sv):=by
 obtain⟨⟨j,r,E,y,Q,ok,hc⟩,hl⟩:=h;obtain⟨gr,hg⟩:=aw (l:=aN l) (i:=a.ms.length) oz;have hdr:=rS hg;rw[hdr,List.countP_cons]at hc
 have hy:gr.kind≠0->0<y:=fun hk=>by
  have:k9 gr=true:=decide_eq_true hk;rw[if_pos this]at hc;omega
 obtain⟨y',j',r',E',ok',ey,hQ⟩:=UW W hg Q ok hy;refine⟨gr,hg,Rl W hg Q ok hy,Lu W hg Q ok hy,fun sv hsv=>⟨⟨j',r',E',y',hQ sv hsv,ok',?_⟩,?_⟩⟩
 ·have e : (a.nxt gr sv).ms.length = a.ms.length + 1 := by show (a.ms ++ [sv.mode]).length = _; simp
  rw[e]
  by_cases hk:gr.kind=0
  ·have h1 : k9 gr = false := by unfold k9; simp [hk]
   simp only[hk,ne_eq,not_true_eq_false,if_false]at ey;rw[h1]at hc;simp only[Bool.false_eq_true,if_false]at hc;omega
  ·have h1:k9 gr=true:=decide_eq_true hk;rw[if_pos hk]at ey;rw[if_pos h1]at hc;omega
 ·show(a.ms++[sv.mode]).length+n=_;rw[length_append];simp only[length_cons,length_nil];omega
theorem ym{l:Li}{xs:List Tn}{s g:Nat}(W:WkC l xs s g)(F:Nat->Int->Bool)(sg:Bool):∀(n:Nat)(a:Aq),WkSt l s g n a->(ji F sg l xs (aN l) n a).1.length<=2^n
 |0,a,h=>le_refl _
 |n+1,a,h=>by
  obtain⟨gr,hg,_,hP,hn⟩:=h.next W;unfold ji;rw[aD hg];split
  ·exact zero_le _
  ·have h1:=Gf (F:=F a.ms.length) (sg:=sg) (f:=fun sv=>ji F sg l xs (aN l) n (a.nxt gr sv)) (M:=2^n) (S:=fg l a.as gr (cg gr xs)) (fun sv hsv=>ym W F sg n _ (hn sv hsv));have h2:=mul_le_mul_right (2^n) hP.two;rw[Nat.pow_succ];omega
theorem AA{l:Li}{xs:List Tn}{s g:Nat}(W:WkC l xs s g)(F:Nat->Int->Bool)(sg:Bool){fo:FuncId}{caps:List AV}(hF:∀(k:Nat)(m:Int),k<(aN l).length->FP fo ([i64 k,i64 m]++caps) (bl (F k m))) :
  ∀(n:Nat)(a:Aq),WkSt l s g n a->∀o:List Aq,o.length+2^n<=1000 ->
   Con prog 100 [.ptr 1000 0,a.av] (fx l xs (aN l) fo caps sg 1001 (o.map Aq.av)) (bp (ji F sg l xs (aN l) n a).2) (fx l xs (aN l) fo caps sg 900 ((o++(ji F sg l xs (aN l) n a).1).map Aq.av))
 |0,a,h,o,ho=>by
  have hG:(aN l).length<=100:=by have:=rQ W.li;omega
  obtain⟨⟨j,r,E,y,Q,ok,_⟩,hl⟩:=h;obtain⟨hE,_,_⟩:=MO ok;have hlb:=(cW W.li).2.2.2.1;have hln:=Q.ln;have h3:=Q.tw.three;obtain⟨D,N,hD,hts,h1,h2⟩:=Q.tw.rb
  exact Kz oz hG oz (Np (e:=5000000000+E) Q.tw.five (fun x hx=>by
   obtain⟨i,hi⟩:=List.getElem?_of_mem hx;have hi2:=(List.getElem?_eq_some_iff.1 hi).1;have h9:=Q.tw.len i hi2;rw[aD hi]at h9;exact⟨Q.tw.five,.inr ⟨i,by omega,h9⟩,D,N,hts x hx,le_trans h1 (b8 (by have:=Q.tw.le;omega)),le_trans h2 (b8 (by have:=Q.tw.le;omega))⟩)
   (fun p hp=>(Q.bs p hp).up (le_refl _) Q.tw.five oz) oz oz oz oz)
 |n+1,a,h,o,ho=>by
  have hG:(aN l).length<=100:=by have:=rQ W.li;omega
  have hlb:=(cW W.li).2.2.2.1;have hln:=h.ln;obtain⟨j,r,E,y,Q,ok,_⟩:=h.st;obtain⟨gr,hg,hS,hP,hn⟩:=h.next W;obtain⟨hdy,hgo⟩:=tL W.li (mem_of_getElem? hg);have h2:=xx W.li;have hxl:=W.ln;have hQl:=Q.ln;have hgb:=hgo.lb
  have key := Om (l := l) (xs := xs) (G := aN l) (fo := fo) (caps := caps) (sg := sg) (o := o) hg hG oz (fun hk => by rw [hxl]; exact CJ hdy hk) hS (by have := hP.two; omega) (F := F a.ms.length) (fun m => hF _ m oz)
   (fun sv hsv => Qc (fun b hb => by rw [hQl]; exact hgo.b b hb) (by
    obtain⟨i,hi⟩:=List.getElem?_of_mem hsv;exact(hP.md i sv hi).2.2) oz oz oz)
   (f:=fun sv=>ji F sg l xs (aN l) n (a.nxt gr sv)) (M:=2^n) (B:=1000) (fun sv hsv=>ym W F sg n _ (hn sv hsv)) (by have:=mul_le_mul_right (2^n) hP.two;rw[Nat.pow_succ]at ho;omega)
   (fun o' ho' sv hsv=>AA W F sg hF n _ (hn sv hsv) o' ho')
  have e:ji F sg l xs (aN l) (n+1) a=(if mU l a.as gr (cg gr xs)≠0 then([],mU l a.as gr (cg gr xs))else fm (F a.ms.length) sg (fun sv=>ji F sg l xs (aN l) n (a.nxt gr sv)) (fg l a.as gr (cg gr xs))):=by
   conv=>lhs;unfold ji
   rw[aD hg]
  rw[e]
  by_cases hE:mU l a.as gr (cg gr xs)≠0
  ·rw[if_pos hE]at key ⊢;rw[if_pos hE]at key;exact key
  ·rw[if_neg hE]at key ⊢;rw[if_neg hE]at key;exact key
abbrev sG(l:Li)(xs:List Tn)(G:List Gr)(fo:FuncId)(caps:List AV)(sg:Bool)(k0 k:Nat)(es:List AV):Hp :=
  [(k0,some (.box (gB l xs G fo caps sg (.ms k 3 0 es.length)))),(k,some (.row 3 es))]
def wV(k:Nat):Nat:=bif Nat.beq k 1000 then 902 else bif Nat.beq k 902 then 1000 else q5 k
theorem wO{a b:Nat}(h:¬a=b):Nat.beq a b=false:=by
 cases h1:Nat.beq a b
 ·rfl
 ·exact absurd (eq_of_beq_eq_true h1) h
theorem HK(k:Nat):wV (wV k)=k:=by
 by_cases h1:k=1000
 ·subst h1;rfl
 by_cases h2:k=902
 ·subst h2;rfl
 by_cases h3:k=1001
 ·subst h3;rfl
 by_cases h4:k=901
 ·subst h4;rfl
 have e:wV k=k:=by simp only[wV,q5,wO h1,wO h2,wO h3,wO h4,cond_false]
 rw[e,e]
theorem TH{l:Li}{xs:List Tn}{G:List Gr}{fo:FuncId}{caps:List AV}{sg:Bool}{es:List AV}(h0:0<l.bo.length)(hl:l.bo.length<=100) :
  Con prog 101 [.ptr 902 0] (sG l xs G fo caps sg 902 901 es) (fK l).av (sG l xs G fo caps sg 902 901 es):=Con.pm HK (MG h0 hl)
theorem P0{l:Li}{xs:List Tn}{G:List Gr}{fo:FuncId}{caps:List AV}{sg:Bool}{es es':List AV}{a:Aq}{e:Nat}
  (h:Con prog 100 [.ptr 1000 0,a.av] (fx l xs G fo caps sg 1001 es) (bp e) (fx l xs G fo caps sg 900 es')) :
  Con prog 100 [.ptr 902 0,a.av] (sG l xs G fo caps sg 902 901 es) (bp e) (sG l xs G fo caps sg 902 900 es'):=Con.pm HK h
def ki:Nat->Int->Bool:=fun _ _=>true
def oh(F:Nat->Int->Bool)(sg:Bool)(l:Li)(xs:List Tn):List Aq×Nat:=ji F sg l xs (aN l) (aN l).length (fK l)
def lF(l:Li)(xs:List Tn):List Aq×Nat:=if cO l xs≠0 then([],cO l xs)else if(oh ki false l xs).2≠0 then([],(oh ki false l xs).2)else oh ki false l xs
theorem Qj{l:Li}{xs:List Tn}(h0:cO l xs≠0)(hop:Con prog 99 [l.av,.lst 4 (xs.map Tn.av)] [] (.tup [tD (cO l xs),bp (cO l xs)]) (vm (cO l xs) l xs)) :
  FP 33 [l.av,.lst 4 (xs.map Tn.av)] (.tup [.lst 3 [],bp (cO l xs)]):=by
 rw[kZ h0,vT h0]at hop;refine af func33 ?_;refine gc hop ?_;refine gC (fun t16=>?_) (fun t16=>?_) (st2:=(77777,0))
 ·refine gR ?_;exact dp (Sub.tup (.cons (.nil _ _ _) (.cons (.refl _) .nil)))
 exact absurd (cQ t16) h0
theorem Dx{l:Li}{xs:List Tn}(h0:cO l xs=0)(hop:Con prog 99 [l.av,.lst 4 (xs.map Tn.av)] [] (.tup [tD (cO l xs),bp (cO l xs)]) (vm (cO l xs) l xs))(hb:0<l.bo.length)(hl:l.bo.length<=100)
  {R:List Aq×Nat} (hw:Con prog 100 [.ptr 1000 0,(fK l).av] (fx l xs (aN l) 189 [] false 1001 []) (bp R.2) (fx l xs (aN l) 189 [] false 900 (R.1.map Aq.av))) :
  FP 33 [l.av,.lst 4 (xs.map Tn.av)] (.tup [.lst 3 ((if R.2≠0 then[]else R.1).map Aq.av),bp R.2]):=by
 rw[h0]at hop;have hop:Con prog 99 [l.av,.lst 4 (xs.map Tn.av)] [] (.tup [.ptr 900 0,.v .nilIface]) [(900,some (.box (gB l xs (aN l) 189 [] false (nS))))]:=hop;refine af func33 ?_;refine gt (ay hop (bB rfl rfl) aE rfl rfl) ?_;refine gC (fun t16=>?_) (fun t16=>?_) (st1:=(3,0)) (st2:=(77777,0));cases t16;refine gW (Wk.o (sl:=[(6,some (.ptr 900 0))]) (hp:=[(900,some (.box (gB l xs (aN l) 189 [] false (nS))))])) ?_ (77777,0);refine gW (Wk.rk (k:=900) (d:=902) rfl rfl) ?_ (77777,0);refine gW (Wk.virt 901 3 rfl) ?_ (77777,0);refine gW (Wk.of (sl:=[(6,some (.ptr 902 0))]) (hp:=sG l xs (aN l) 189 [] false 902 901 []) (.k .nil) (.cons rfl (BlkSub.bL (.cons (.refl _) (.cons (.refl _) (.cons (.refl _) (.cons (.refl _) (.cons (.refl _) (.cons (.refl _) (.cons (.refl _) (.cons (.refl _) (.cons (Sub.nM _ _ _) .nil))))))))) rfl) (.k .nil))) ?_;refine gt (Io (TH hb hl) (cI rfl) rfl rfl rfl rfl rfl) ?_;refine gt (ay (P0 hw) (bB rfl rfl) aE rfl rfl) ?_;refine gC (fun t23=>?_) (fun t23=>?_) (st2:=(77777,0))
 ·have hE:=de t23;refine gR ?_;exact dp (by rw[if_pos hE];exact Sub.tup (.cons (.nil _ _ _) (.cons (.refl _) .nil)))
 have hE:=cQ t23;refine gW ((Wk.freeze (k:=900) rfl).trans<|Wk.of (sl:=[(6,some (.ptr 902 0))]) (hp:=[(902,some (.box (gB l xs (aN l) 189 [] false (.lst 3 (R.1.map Aq.av)))))]) aY (.cons rfl (BlkSub.bL (.cons (.refl _) (.cons (.refl _) (.cons (.refl _) (.cons (.refl _) (.cons (.refl _) (.cons (.refl _) (.cons (.refl _) (.cons (.refl _) (.cons (Sub.of (bO rfl)) .nil))))))))) rfl) .nil)) ?_;refine gR ?_;exact dp (Sub.of (by rw[if_neg oz,hE];rfl))
theorem OZ{a:As}(h:AL a)(hc:a9 a.rs=0):8*4000+4*kB 40000 a.rs.length+4<=lm a.rs.length:=by
 obtain⟨tw,_⟩:=cA h.tr hc;have h3:=tw.three;rw[z4]at h3;have h1:=Iz 40000 h3;have h2:=km a.rs.length;show 8*4000+4*eB 40000 a.rs.length+4<=_;omega
def jX(a:As)(k:Int):Nat :=
  if a9 a.rs≠0 then a9 a.rs else if k<0\/(a.bs.length:Int)<=k then 9 else aV a.rs (a.bs.getD k.toNat default).l
theorem Ak{a:As}{k:Int}(h:a9 a.rs≠0):jX a k=a9 a.rs:=by unfold jX;rw[if_pos h]
theorem Ax{a:As}{k:Int}(h:a9 a.rs=0)(hk:k<0\/(a.bs.length:Int)<=k):jX a k=9:=by unfold jX;rw[if_neg oz,if_pos hk]
theorem yD{a:As}{i:Nat}{b:Pl}(h:a9 a.rs=0)(hb:a.bs[i]?=some b):jX a (i:Int)=aV a.rs b.l:=by
 have hi:=(List.getElem?_eq_some_iff.1 hb).1;unfold jX;rw[if_neg oz,if_neg oz,toNat_natCast,aD hb]
theorem Ii(x y:List Rat)(hx:x=[])(hy:y=[]):Sub (.agg [nS,nS]) (aA x y):=by
 subst hx;subst hy
 exact Sub.agg (.cons (.nil _ _ _) (.cons (.nil _ _ _) .nil)) rfl
def oW(a:As)(k:Int)(x y:Rt):List Rat:=if jX a k=0 then zL a.rs (a.bs.getD k.toNat default) x y else[]
def pq(a:As)(k:Int)(x y:Rt):List Rat:=if jX a k=0 then xT a.rs (a.bs.getD k.toNat default) x y else[]
theorem Gh{a:As}{k:Int}{x y:Rt}(h:jX a k≠0):oW a k x y=[]:=if_neg h
theorem Dv{a:As}{k:Int}{x y:Rt}(h:jX a k≠0):pq a k x y=[]:=if_neg h
theorem SQ{a:As}{i:Nat}{b:Pl}{x y:Rt}(h:a9 a.rs=0)(hb:a.bs[i]?=some b):oW a i x y=if aV a.rs b.l=0 then zL a.rs b x y else[]:=by unfold oW;rw[yD h hb,toNat_natCast,aD hb]
theorem QU{a:As}{i:Nat}{b:Pl}{x y:Rt}(h:a9 a.rs=0)(hb:a.bs[i]?=some b):pq a i x y=if aV a.rs b.l=0 then xT a.rs b x y else[]:=by unfold pq;rw[yD h hb,toNat_natCast,aD hb]
abbrev Ib(a:As)(k:Int)(x y:Rt):AV:=.agg [nA (oW a k x y),nA (pq a k x y)]
theorem JN(a:As)(al:AL a)(k:Int)(x y:Rt)(hx:x.ok)(hy:y.ok)(qx:Qb 4000 x.q)(qy:Qb 4000 y.q) :
  FP 52 [a.av,i64 k,x.av,y.av] (.tup [Ib a k x y,bp (jX a k)]):=by
 have hbl:=al.bl;refine af func52 ?_;refine gc (oK a.rs 40000 al.tr) ?_;refine gC (fun t15=>?_) (fun t15=>?_)
 ·have h1:=de t15;refine gR ?_;exact dp (by rw[Ak h1];exact Sub.tup (.cons (Ii _ _ (Gh (by rw[Ak h1];exact h1)) (Dv (by rw[Ak h1];exact h1))) (.cons (.refl _) .nil)))
 have h1:=cQ t15;refine ci ?_;refine gC (fun t26=>?_) (fun t26=>?_)
 ·have h2:=G5 t26;refine gR ?_;exact dp (by rw[Ax h1 h2];exact Sub.tup (.cons (Ii _ _ (Gh (by rw[Ax h1 h2];decide)) (Dv (by rw[Ax h1 h2];decide))) (.cons (.refl _) .nil)))
 have h2:=Gu t26;obtain⟨i,rfl,hi⟩:=D4 h2;obtain⟨b,hb⟩:=aw hi;have hsz:=OZ al h1;refine gi (ax hb) ?_;refine gc (NX a.rs 40000 4000 al.tr h1 b (al.nr b (mem_of_getElem? hb)) x y hx hy qx qy hsz) ?_;refine gD ?_;refine bj ?_;show _=AV.tup [AV.agg [nA (oW a (i:Nat) x y),nA (pq a (i:Nat) x y)],_];rw[yD h1 hb,SQ h1 hb,QU h1 hb]
abbrev eN{ts:LL}(p:Et ts×Et ts):AV:=aA (sX p.1) (sX p.2)
abbrev nl:AV:=nS
section
variable{ts:LL}{a b a2 b2:List Rat}{x y x2 y2:Et ts}
end
section
variable{ts:LL}{a b c a2 b2 c2:List Rat}{x y z x2 y2 z2:Et ts}
end
theorem DyOk.drv{l:Li}{k:Int}{a:As}{own:Bool}{n:Nat}{g:Gr}(h:DyOk 3900000 l k a own n g)(hk:g.kind=0):∃i z0 d j0,g=⟨0,[i],[z0],d⟩/\l.jo[z0.toNat]?=some j0/\PinP 3900000 l a j0 i:=by
 have hd:=h.dy;cases hd with
 |rrr _ _ _ _ _ _ _=>exact absurd hk (by simp)
 |pr _ _ _=>exact absurd hk (by simp)
 |rp _ _ _=>exact absurd hk (by simp)
 | @drv b z d j x t d0 hd hb=>exact⟨b,z,d,j,rfl,t.hj,h.pin rfl t (by simp) (by simp)⟩
section
variable{ts:LL}{u k:Nat}{a b a2 b2:List Rat}{x y x2 y2:Et ts}{w v w' v' w2 v2 w3 v3:Nat}
end
section
variable{ts:LL}
end
section
variable{T:LL}
end
section
variable{l:Li}{xs:List Tn}{s g:Nat}(W:WkC l xs s g){k:Nat}{gr:Gr}(hg:(aN l)[k]?=some gr){j r E:Nat}{a:Aq}(Q:QInv l j r E a){n y:Nat}(ok:eG s g (n+1) y j r E=true)(hy:gr.kind≠0->0<y)
include W hg Q ok hy
end
theorem TL(l:Li)(hl:l.ok)(hli:aB l=0)(xs:List Tn)(hx:∀x∈xs,x.t.ok)(hn:xs.length<=100) :
  FP 34 [l.av,.lst 4 (xs.map Tn.av)] (i64 (cO l xs)):=by
 have hld:=hl.ld;refine af func34 ?_;refine gc (G8 l hl hli) ?_;refine gC (fun t16=>?_) (fun t16=>?_)
 ·have h1:cm l≠0:=fZ t16;refine ae ?_;rw[Gy (if_pos hli) h1]
 have hsp:cm l=0:=fI t16;refine gl ?_;refine gl ?_;refine gC (fun t23=>?_) (fun t23=>?_)
 ·have h2:=yt t23;refine ae ?_;rw[vn hli hsp,if_pos h2];rfl
 have h2:=y7 t23;have he0:cO l xs=eF (xs.map Tn.err):=by rw[vn hli hsp,if_neg oz]
 refine gl ?_;refine aM [24,25] [] (fun(i:Nat)=>[(26,some (i64 i))]) (fun _=>[]) (fun i=>i<=xs.length/\∀y∈xs.take i,y.err=0) (fun i=>xs.length-i) 0 ⟨zero_le _,fun y hy=>by simp at hy⟩ ?_;rintro i ⟨hi,hz⟩ K1 J1;refine gC (fun t27=>?_) (fun t27=>?_)
 ·have hin:=aW t27;obtain⟨x,hxi⟩:=aw hin;refine gi (ax hxi) ?_;refine gc (QM x (hx x (mem_of_getElem? hxi))) ?_;refine gC (fun t33=>?_) (fun t33=>?_)
  ·have h3:x.err≠0:=fZ t33;refine ae ?_;rw[he0,DE hxi hz h3]
  have h3:x.err=0:=fI t33;refine ga aH ?_;exact aG J1 (i+1) ⟨hin,fun z hz2=>by rw[dl hxi]at hz2;rcases List.mem_append.1 hz2 with h9 |h9;exact hz z h9;(rw[List.mem_singleton.1 h9];exact h3)⟩
 have hin:=be hi t27;refine ae ?_;rw[he0,oA (fun y hy=>hz y (by rw[hin,take_length];exact hy))];rfl
theorem Rt.qbV{r:Rt}{e:Nat}(h:r.ok)(he:1<=e)(hn:val r.num<2^e)(hd:val r.den<2^e):Qb e r.q:=by
 by_cases h0:r.valid=true/\r.num≠[]
 ·obtain⟨h1,h2,h3,h4,h5,h6⟩:=Rt.parts h h0.1 h0.2;refine⟨?_,?_⟩
  ·have : r.q.num.natAbs = val r.num := by rw [h1]; unfold sgn; split <;> omega
   rw[this];exact hn
  ·rw[h2];exact hd
 ·rw[Rt.zero h0];exact Qb.zero.mono he
theorem Hv{l:List Nat}{b e:Nat}(h:¬1<l.length)(hb:l.length=1->ah l 0<=b)(he:b<2^e):val l<2^e:=by
 match l with
 |[]=>exact lt_of_le_of_lt (zero_le b) he
 |[x] =>
  have h1:x<=b:=hb rfl;have h2:val [x]=x:=by simp[val]
  rw[h2];omega
 |_::_::_=>simp at h
theorem y8{r:Rt}(h:r.ok)(hl:lw r=true):Qb 9 r.q:=by
 unfold lw at hl;rw[iF,iF,iF,Bool.not_eq_true',Bool.or_eq_false_iff,Bool.or_eq_false_iff,Bool.or_eq_false_iff]at hl;obtain⟨⟨⟨h1,h2⟩,h3⟩,h4⟩:=hl;have g1:r.num.length<=1:=gP (b:=1) h1;have g2:r.den.length<=1:=gP (b:=1) h2;refine Rt.qbV h oz (Hv (b:=400) oz (fun hh=>?_) (by decide)) (Hv (b:=20) oz (fun hh=>?_) (by decide))
 ·rw[hh]at h3;exact gP (b:=400) h3
 ·rw[hh]at h4;exact gP (b:=20) h4
theorem OL{l:Li}{xs:List Tn}(h:cO l xs=0):aB l=0/\cm l=0/\xs.length=l.dv.length/\∀x∈xs,x.err=0:=by
 unfold cO at h;split at h
 ·rename_i h1;exact absurd h h1
 ·rename_i h1;have h1:=Decidable.not_not.1 h1;unfold rc at h;split at h
  ·rename_i h2;exact absurd h h2
  ·rename_i h2;have h2:=Decidable.not_not.1 h2;split at h
   ·cases h
   ·rename_i h3;exact⟨h1,h2,Decidable.not_not.1 h3,fun x hx=>nV h _ (List.mem_map.2 ⟨x,hx,rfl⟩)⟩
theorem QJ(gs:List Gr):gs.countP k9+gs.countP (fun g=>decide (g.kind=0))=gs.length:=by
 induction gs with
 |nil=>rfl
 |cons g gs ih =>
  rw[List.countP_cons,List.countP_cons,length_cons]
  by_cases hk:g.kind=0
  ·have h1 : k9 g = false := by unfold k9; simp [hk]
   rw[h1];simp only[hk,decide_true,Bool.false_eq_true,if_false,if_true];omega
  ·have h1:k9 g=true:=decide_eq_true hk;rw[h1];simp only[hk,decide_false,Bool.false_eq_true,if_false,if_true];omega
theorem wG{s g:Nat}:∀{n m y y' j r E:Nat},eG s g n y j r E=true->m<=n->y'<=y->eG s g m y' j r E=true
 |n,0,y,y',j,r,E,h,hm,hy=>by
  have h1:=uE h;exact decide_eq_true h1
 |n+1,m+1,y,y',j,r,E,h,hm,hy=>by
  have h1:=rJ h;unfold eG;simp only[and_eq_true,or_eq_true,decide_eq_true_eq];refine⟨uE h,wG h1.2 oz hy,?_⟩
  by_cases hz:y'=0
  ·exact .inl hz
  ·right;obtain ⟨y2,rfl⟩:∃ y2,y = y2 + 1:=⟨y - 1,by omega⟩
   have h2:=sF h;exact⟨h2.1,wG h2.2 oz oz⟩
theorem Bu{l:Li}{xs:List Tn}(hL:jR l xs=true)(hl:l.ok)(hxw:∀x∈xs,x.t.wok)(h0:cO l xs=0):∃s g,WkC l xs s g/\WkSt l s g (aN l).length (fK l):=by
 obtain⟨hli,hsp,hln,hxe⟩:=OL h0;unfold jR at hL;simp only[and_eq_true,decide_eq_true_eq]at hL;obtain⟨⟨_,_⟩,hT,hM,hR⟩:=hL;rw[all_eq_true]at hT hM;rw[if_pos hli]at hR;unfold xm at hR;rw[iF,iF,iS]at hR;have hdl:=SB hli hsp;have hd2:=xx hli;have hcn:=QJ (aN l)
 have hxo:∀x∈xs,x.t.ok/\Qb 32 x.t.q:=fun x hx=>by
  have h9:=hT x hx;unfold lQ at h9;rw[decide_eq_true_eq]at h9;have ho:=(hxw x hx).ok h9.1 h9.2 oz;exact⟨ho,(Rt.qb ho (k:=1) oz h9.1 h9.2).mono oz⟩
 have hstart:∀(s g n y:Nat),eG s g n y 0 0 2=true->(aN l).length<=n->(aN l).countP k9<=y->WkSt l s g (aN l).length (fK l):=fun s g n y ok h1 h2 =>
  ⟨⟨0,0,2,y,IB l,wG ok h1 (le_refl _),h2⟩,Nat.zero_add _⟩
 by_cases hn:(aN l).length<=l.dv.length+1
 ·refine⟨32,134,⟨hl,hli,hsp,?_,hln,fun x hx=>?_⟩,hstart 32 134 3 1 BO oz oz⟩
  ·intro b hb m hm;have h9:=hM b hb;rw[all_eq_true]at h9;have h8:=h9 m hm;unfold kI at h8;rw[decide_eq_true_eq]at h8;have ho:=(hl.bo b hb).pts m hm;exact⟨(Rt.qb ho.x (k:=1) oz h8.1 h8.2.1).mono oz,(Rt.qb ho.y (k:=1) oz h8.2.2.1 h8.2.2.2).mono oz⟩
  ·obtain⟨h1,h2⟩:=hxo x hx;exact⟨h1,hxe x hx,h2.mono oz,Cb.one (tE h2),Cb.one (rU h2)⟩
 ·have hlow:(aN l).length=l.dv.length+2/\qT xs=true/\pO l=true:=by
   simp only[or_eq_true,and_eq_true]at hR;rcases hR with(h9 |h9) |⟨h9,h8⟩
   ·rw[hsp]at h9;exact absurd h9 (by simp[aa])
   ·have : ((aN l).length : Int) - l.dv.length <= 1 := by simpa [aa] using h9
    omega
   ·have : ((aN l).length : Int) - l.dv.length = 2 := by simpa [aa] using h9
    exact⟨by omega,h8.1,h8.2⟩
  obtain⟨hlen,hlT,hlL⟩:=hlow;refine⟨9,42,⟨hl,hli,hsp,?_,hln,fun x hx=>?_⟩,hstart 9 42 4 2 MT oz oz⟩
  ·intro b hb m hm;unfold pO at hlL;rw[all_eq_true]at hlL;have h9:=hlL b hb;unfold ta at h9;rw[all_eq_true]at h9;have h8:=h9 m hm;simp only[List.all_cons,List.all_nil,Bool.and_true,and_eq_true]at h8;have ho:=(hl.bo b hb).pts m hm;exact⟨y8 ho.x h8.1,y8 ho.y h8.2⟩
  ·obtain⟨h1,h2⟩:=hxo x hx;unfold qT at hlT;rw[all_eq_true]at hlT;have h8:=hlT x hx;simp only[List.all_cons,List.all_nil,Bool.and_true]at h8;have h9:=y8 h1 h8;exact⟨h1,hxe x hx,h2.mono oz,Cb.one (tE h9),Cb.one (rU h9)⟩
theorem Q7(a:List Int)(ha:a.length<=281474976710656):FP 48 [.lst 1 (a.map i64),.lst 1 (a.map i64)] (bl true):=by
 refine af func48 ?_;refine gl ?_;refine gl ?_;refine gC (fun t10=>?_) (fun t10=>?_) (st1:=(2,0));exact absurd t10 (by simp[aa]);refine aM [0,1] [] (fun(i:Nat)=>[(5,some (i64 i))]) (fun _=>[]) (fun i=>i<=a.length) (fun i=>a.length-i) 0 (zero_le _) ?_;rintro i hi K1 J1;refine gl ?_;refine gC (fun t14=>?_) (fun t14=>?_)
 ·have hin:=aW t14;obtain⟨x,hx⟩:=aw hin;refine gi (ax hx) ?_;refine gi (ax hx) ?_;refine gD ?_;refine gC (fun t25=>?_) (fun t25=>?_) (st1:=(7,0));exact absurd t25 (by simp[aa]);refine ga aH ?_;exact aG J1 (i+1) hin
 refine ae ?_;rfl
theorem AR{F:Int->Bool}{sg:Bool}{f:Sv->List Aq×Nat}{b:Aq}:∀{S:List Sv},b∈(fm F sg f S).1->∃s∈S,F s.mode=true/\b∈(f s).1
 |[],h=>by cases h
 |s::S,h=>by
  rw[pY]at h;split at h
  ·obtain⟨x,hx,h2⟩:=AR h;exact⟨x,mem_cons_of_mem _ hx,h2⟩
  ·rename_i hF;have hF:F s.mode = true:=by simpa using hF
   split at h
   ·exact⟨s,mem_cons_self,hF,h⟩
   ·split at h
    ·exact⟨s,mem_cons_self,hF,h⟩
    ·rcases List.mem_append.1 h with h |h
     ·exact⟨s,mem_cons_self,hF,h⟩
     ·obtain⟨x,hx,h2⟩:=AR h;exact⟨x,mem_cons_of_mem _ hx,h2⟩
def lV(s:ByteArray)(n:Int):Bd:=⟨s,[⟨⟨#[97]⟩,rt ((0:Int):Rat),rt ((0:Int):Rat)⟩,⟨⟨#[98]⟩,rt (n:Rat),rt ((0:Int):Rat)⟩]⟩
def fb:Li:=⟨⟨#[102,111,117,114,98,97,114]⟩,[lV ⟨#[102,114,97,109,101]⟩ 4,lV ⟨#[99,114,97,110,107]⟩ 3,lV ⟨#[99,111,117,112,108,101,114]⟩ 5,lV ⟨#[114,111,99,107,101,114]⟩ 6],
  [⟨⟨#[111]⟩,0,1,0,0,0,0⟩,⟨⟨#[112]⟩,0,2,0,1,1,0⟩,⟨⟨#[113]⟩,0,3,0,0,1,0⟩,⟨⟨#[114]⟩,0,2,1,3,1,0⟩],[⟨⟨#[100]⟩,1⟩]⟩
def t0:Tn:=⟨⟨false,[],[]⟩,false⟩
theorem x9(a b:ByteArray):dO a b=(a.data.toList==b.data.toList):=by
 unfold dO;rw[Go.ByteArray.toList_eq,Go.ByteArray.toList_eq]
theorem BD:aB fb=0:=by
 have h1:io fb=0:=by
  unfold io fe ef f6 dX;simp only[x9];decide +kernel
 have h2:eQ fb=0:=by
  unfold eQ fe fT f6;simp only[x9];decide +kernel
 have h3:f9 fb=0:=by
  unfold f9 fe dU f6;simp only[x9];decide +kernel
 unfold aB;rw[h1,h2,h3];decide +kernel
theorem RS{s:ByteArray}(hs:s.size<=281474976710656){n:Int}(hn:-9223372036854775808<=n/\n<=9223372036854775807) :
  (lV s n).name.size<=281474976710656/\(lV s n).pts.length<=281474976710656/\∀m∈(lV s n).pts,m.name.size<=281474976710656/\m.x.wok/\m.y.wok:=by
 have h0:(rt ((0:Int):Rat)).ok:=(mK oz).ok;have h1:(rt (n:Rat)).ok:=(mK hn).ok;refine⟨hs,by show 2<=_;omega,fun m hm=>?_⟩;simp only[lV,mem_cons,not_mem_nil,or_false]at hm;rcases hm with rfl |rfl
 ·exact⟨by show 1<=_;omega,h0.wok,h0.wok⟩
 ·exact⟨by show 1<=_;omega,h1.wok,h0.wok⟩
theorem UF:fb.okw:=by
 refine⟨by decide,fun b hb=>?_,fun j hj=>?_,fun d hd=>?_,by decide,by decide,by decide⟩
 ·simp only[fb,mem_cons,not_mem_nil,or_false]at hb;rcases hb with rfl |rfl |rfl |rfl <;> exact RS (by decide) oz
 ·simp only[fb,mem_cons,not_mem_nil,or_false]at hj;rcases hj with rfl |rfl |rfl |rfl <;> decide
 ·simp only[fb,mem_cons,not_mem_nil,or_false]at hd;rcases hd with rfl;decide
theorem He:fb.ok:=uH (by decide +kernel) UF
theorem jQ.ofL{l l':List AV}(h:SubL l l')(ho:l'.all AV.one=true):jQ (.agg l) (.agg l') :=
 ⟨h.len,fun j x y hx hy=>⟨List.all_eq_true.1 ho y (mem_of_getElem? hy),h.get j x y hx hy⟩⟩
theorem EP(s:ByteArray)(x y:Int)(hx:-9223372036854775808<=x/\x<=9223372036854775807)(hy:-9223372036854775808<=y/\y<=9223372036854775807):FP 234 [.v (.string s),i64 x,i64 y] (Mk.av ⟨s,rt (x:Rat),rt (y:Rat)⟩):=by
 refine af func234 ?_;refine gc (mv x hx) ?_;refine gc (mv y hy) ?_;refine ae ?_
 first |rfl |(simp;done)
theorem vr(s:ByteArray)(n:Int)(hn:-9223372036854775808<=n/\n<=9223372036854775807):FP 127 [.v (.string s),i64 n] (lV s n).av:=by
 refine af func127 ?_;refine gc (EP _ 0 0 oz oz) ?_;refine gc (EP _ n 0 hn oz) ?_;refine ae ?_
 first |rfl |(simp;done)
theorem QV:FP 55 [] fb.av:=by
 refine af func55 ?_;refine gc (vr _ 4 oz) ?_;refine gc (vr _ 3 oz) ?_;refine gc (vr _ 5 oz) ?_;refine gc (vr _ 6 oz) ?_;refine ae ?_
 first |rfl |(simp;done)
deriving instance DecidableEq for Pq
deriving instance DecidableEq for Aq
def Ce:List Aq×Nat:=oh ki false fb [fF]
theorem SR:cO fb [fF]=0:=by
 unfold cO rc;rw[if_neg (by rw[BD];decide),if_neg (show ¬cm fb≠0 by decide +kernel),if_neg (show ¬[fF].length≠fb.dv.length by decide +kernel)];decide +kernel
def aF:Aq:=⟨[],[⟨[1],[],[],[]⟩,⟨[1],[],[],[]⟩,⟨[-1],[],[3],[]⟩,⟨[-1],[],[4],[]⟩],[1,0]⟩
theorem TB:Ce=([aF],0):=by decide +kernel
theorem TV:WkC fb [fF] 32 134:=by
 have z:fF.t.q=0:=by decide +kernel
 have h0:Qb 32 fF.t.q:=by rw[z];exact Qb.zero.mono oz
 refine⟨He,BD,by decide +kernel,?_,rfl,fun x hx=>?_⟩
 ·have h : ∀ b ∈ fb.bo, ∀ m ∈ b.pts, (m.x.q.num.natAbs < 2 ^ 32 /\ m.x.q.den < 2 ^ 32) /\ (m.y.q.num.natAbs < 2 ^ 32 /\ m.y.q.den < 2 ^ 32) := by decide +kernel
  exact h
 ·rw[List.mem_singleton.1 hx];exact⟨zi,by decide +kernel,Ca,Cb.one (tE h0),Cb.one (rU h0)⟩
theorem QH:WkSt fb 32 134 (aN fb).length (fK fb):=by
 refine⟨⟨0,0,2,1,IB fb,wG BO ?_ (le_refl _),?_⟩,Nat.zero_add _⟩
 ·decide +kernel
 ·decide +kernel
theorem Tx:FP 33 [fb.av,.lst 4 [fF.av]] (.tup [.lst 3 [aF.av],bp 0]):=by
 have hop:=FN fb He [fF] (fun x hx=>by rw[List.mem_singleton.1 hx];exact zi) (by show 1<=100;omega);have hp:([]:List Aq).length+2^(aN fb).length<=1000:=by decide +kernel
 have hw:=AA TV ki false (fo:=189) (caps:=[]) (fun k m _=>C8 k m) (aN fb).length (fK fb) QH [] hp;have hA:=Dx SR hop (by show 0<4;omega) (by show 4<=100;omega) (R:=Ce) hw;rw[TB]at hA;exact hA
theorem C1(n k:Nat)(hn:n<=5):Nm n k []:=⟨hn,.inl rfl,⟨1,0,⟨by decide,fun q h=>by cases h⟩,Nat.one_le_two_pow,zero_le _⟩⟩
theorem Tu:AL aF.as:=by
 have h1:∀q:Rat,Qb 1000 q->NR [rt q] 4000:=fun q h=>Nm.rt (n:=0) (e:=4000) (l:=[q]) ⟨by omega,.inr ⟨0,le_refl _,rfl⟩,(Cb.one h).mono oz⟩ (by decide)
 have h0:NR [] 4000:=Nm.rt (n:=0) (e:=4000) (l:=[]) (C1 0 4000 oz) (by decide);have hq:∀q:Rat,q.num.natAbs<2^5/\q.den<2^5->Qb 1000 q:=fun q h=>Qb.mono (e:=5) h oz
 refine⟨(ud.tr).mono oz oz,?_,by decide,by decide⟩;intro b hb x hx;simp only[aF,Aq.as,map_cons,map_nil,mem_cons,not_mem_nil,or_false]at hb;rcases hb with rfl |rfl |rfl |rfl <;> simp only[Pl.l,Pq.pl,map_cons,map_nil,mem_cons,not_mem_nil,or_false]at hx <;> rcases hx with rfl |rfl |rfl |rfl <;> first |exact h0 |exact h1 _ (hq _ (by decide +kernel))
theorem KG:FP 52 [aF.av,i64 2,(rt ((5:Int):Rat)).av,(rt 0).av] (.tup [aA [-2] [],bp 0]):=by
 have h:=JN aF.as Tu 2 (rt ((5:Int):Rat)) (rt 0) (mK (n:=5) oz).ok Qs.zero.ok (by rw[bA];exact Qb.mono (e:=5) (q:=((5:Int):Rat)) ⟨by decide,by decide⟩ oz) (by rw[bA];exact Qb.zero.mono oz);rw[aF.as_av]at h;have e1:oW aF.as 2 (rt ((5:Int):Rat)) (rt 0)=[-2]:=by decide +kernel
 have e2:pq aF.as 2 (rt ((5:Int):Rat)) (rt 0)=[]:=by decide +kernel
 have e3:jX aF.as 2=0:=by decide +kernel
 unfold Ib at h;rw[e1,e2,e3]at h;exact h
theorem U4:Sub (.lst 4 [.agg [.v (.bool false),nS,nS,.v (.bool false)]]) (.lst 4 [fF.av]) :=
 Sub.lst rfl (fun i x y hx hy=>by
  match i,hx,hy with
  |0,hx,hy=>cases hx;cases hy;exact .ofL (.cons (.refl _) (.cons (.nil _ _ _) (.cons (.nil _ _ _) (.cons (.refl _) .nil)))) rfl)
theorem Dh:FP 30 [] (bl true):=by
 have hAll:=Tx;have nx:Nm 0 10 [(-2:Rat)]:=⟨by omega,.inr ⟨0,le_refl _,rfl⟩,Cb.mono (Cb.int (z:=-2) (e:=2) (by decide)) oz⟩
 have n0:Nm 0 10 []:=C1 0 10 oz;have hE:=Ea (ts:=[]) ud nx n0 nx n0 (by decide);rw[mR,mR]at hE;have hOf:=IC (x:=((-2:Int):Rat)) (y:=0) (mK (n:=-2) oz) Qs.zero;rw[show sh 0 (((-2:Int):Rat):Rat)=[-2] by decide +kernel,show sh 0 (0:Rat)=[] by decide +kernel]at hOf;refine af func30 ?_;refine gc QV ?_;refine gc (Con.sA (.cons (.refl _) (.cons U4 .nil)) hAll) ?_;refine TU (fun _=>rfl) ?_;refine ka (fun _=>(rfl)) ?_;refine bI (fun _=>(Q7 [1,0] (by decide))) ?_;refine gC (fun t27=>?_) (fun t27=>?_) (st1:=(3,0));cases t27;refine gi (rfl) ?_;refine gc (mv 5 oz) ?_;refine gc (Con.sA (.cons (.refl _) (.cons (.refl _) (.cons (.refl _) (.cons gK .nil)))) KG) ?_;refine gD ?_;refine ka (fun _=>(rfl)) ?_;refine bI (fun _=>(mv (-2) oz)) ?_;refine bI (fun _=>(Con.sA (.cons (.refl _) (.cons gK .nil)) hOf)) ?_;refine bI (fun _=>hE) ?_;refine gD ?_;refine ae ?_;rfl
theorem At{l:Li}{xs:List Tn}(h:jR l xs=true)(hxw:∀x∈xs,x.t.wok):il l=true/\xs.length<=20/\∀x∈xs,x.t.ok:=by
 unfold jR at h;simp only[and_eq_true,decide_eq_true_eq]at h;refine⟨h.1.1,h.1.2,fun x hx=>?_⟩;have h9:=List.all_eq_true.1 h.2.1 x hx;unfold lQ at h9;rw[decide_eq_true_eq]at h9;exact(hxw x hx).ok h9.1 h9.2 oz
theorem TQ{p:Bool}(h:cond (!true) true (!p)=false):p=true:=by cases p <;> simp_all
open Lean.Grind (CommRing)
section
variable{r:(k:Nat)->T k}
def ft{n:Nat}(x:E r n):E r n:=T.inv r n x
theorem sV{n:Nat}(u:E r n)(h:Sg (E r n) (sg r n)):sg r (n+1) (bD u 0)=sg r n u:=by
 rw[ke,h.zero];unfold T.sgn3;split
 ·rfl
 ·rw[if_pos (.inr rfl)]
theorem Kb{n:Nat}{x y:E r n}(hz:T.isZ n y=true):ft (bD x y:E r (n+1))=bD (ft x) 0:=by
 have e:y=T.zero n:=(T.isZ_iff n y).1 hz;subst e;have h:=T.inv_low r n x;show T.inv r (n+1) (x,T.zero n)=_;rw[h,E.zero_def];rfl
theorem QN{n:Nat}{x y:E r n}(hz:T.isZ n y=false)(h0:sg r n (aO x y)=0):ft (bD x y:E r (n+1))=bD (ft (x+x)) 0:=by
 have h:=CC r (i:=n) (x:=((x,y):T n×T n)) hz h0;show T.inv r (n+1) (x,y)=_;rw[h,E.zero_def];rfl
theorem SH{n:Nat}{x y:E r n}(hz:T.isZ n y=false)(h0:sg r n (aO x y)≠0):ft (bD x y:E r (n+1))=bD (x*ft (aO x y)) (-y*ft (aO x y)):=by
 have h:=Hg r (i:=n) (x:=((x,y):T n×T n)) hz h0;exact h
theorem Ly{q:Rat}(hq:bH q≠0):bH ((1:Rat)/q*q+-(((1:Nat):Rat)))=0:=by
 have hq:q≠0:=by
  rintro rfl;exact hq (by decide +kernel)
 have e:(1:Rat)/q*q+-(((1:Nat):Rat))=0:=by
  rw[show(((1:Nat):Rat))=1 from rfl];grind
 rw[e];decide +kernel
theorem Cc(r:(k:Nat)->T k):∀(n:Nat),eV r n->∀x:E r n,sg r n x≠0->sg r n (ft x*x-1)=0
 |0,hp,x,hx=>Ly (q:=x) hx
 |n+1,hp,z,hz=>by
  have hp':eV r n:=fun j hj=>hp j oz
  have h:=gN r n hp';have H:=gN r (n+1) hp;have ih:=Cc r n hp';obtain⟨x,y,rfl⟩:=jU z;cases hzy:T.isZ n y
  ·by_cases h0:sg r n (aO x y)=0
   ·rw[QN hzy h0];have h2:=DL h (hp n oz) hz h0;have e1:=ih _ h2
    have c:sg r (n+1) (bD x (-y))=0:=by
     have m:=H.mul (bD x y) (bD x (-y))
     have e:(bD x y:E r (n+1))*bD x (-y)=bD (aO x y) 0:=by
      rw[kD];unfold aO;congr 1 <;> grind
     rw[e,sV _ h,h0]at m;rcases Int.mul_eq_zero.1 m.symm with g |g
     ·exact absurd g hz
     ·exact g
    have e2:bD (ft (x+x)) 0*bD x y-(1:E r (n+1))=-(bD (ft (x+x)) 0*bD x (-y))+bD (ft (x+x)*(x+x)-1) 0:=by
     rw[uF,show ∀a b:E r (n+1),a-b=a+-b from fun a b=>by grind,kD,kD,tK,tK,oa,oa];congr 1 <;> grind
    rw[e2];have e3:sg r (n+1) (-(bD (ft (x+x)) 0*bD x (-y)))=0:=by rw[H.neg,H.mul,c];simp
    rw[H.zadd e3,sV _ h];exact e1
   ·rw[SH hzy h0];have e1:=ih _ h0
    have e2:bD (x*ft (aO x y)) (-y*ft (aO x y))*bD x y-(1:E r (n+1))=bD (ft (aO x y)*aO x y-1) 0:=by
     rw[uF,show ∀a b:E r (n+1),a-b=a+-b from fun a b=>by grind,kD,tK,oa];generalize ft (aO x y)=i;unfold aO;congr 1 <;> grind
    rw[e2,sV _ h];exact e1
  ·rw [Kb hzy];have e:y = 0:=by rw [(T.isZ_iff n y).1 hzy,E.zero_def]
   subst e;rw[sV _ h]at hz;have e1:=ih _ hz
   have e2:bD (ft x) 0*bD x 0-(1:E r (n+1))=bD (ft x*x-1) 0:=by
    rw[uF,show ∀a b:E r (n+1),a-b=a+-b from fun a b=>by grind,kD,tK,oa];congr 1 <;> grind
   rw[e2,sV _ h];exact e1
end
section
variable{r:(k:Nat)->T k}{n:Nat}
def zS(h:eV r n):Setoid (E r n) where
  r x y:=sg r n (x-y)=0
  iseqv:=by
    have H:=gN r n h;refine⟨fun x=>?_,fun {x y} e=>?_,fun {x y z} e f=>?_⟩
    · rw[show x-x=0 by grind];exact H.zero
    · rw[show y-x=-(x-y) by grind,H.neg,e];rfl
    · rw[show x-z=(x-y)+(y-z) by grind,H.zadd e];exact f
def Zq(h:eV r n):Type:=Quotient (zS h)
def am(h:eV r n)(x:E r n):Zq h:=Quotient.mk (zS h) x
theorem kU(h:eV r n){x y:E r n}:am h x=am h y↔sg r n (x-y)=0 :=
 ⟨fun e=>Quotient.exact (s:=zS h) e,fun e=>Quotient.sound (s:=zS h) e⟩
instance (h:eV r n):Add (Zq h):=⟨Quotient.lift₂ (fun x y=>am h (x+y)) (by
  intro a b c d e f;have H:=gN r n h;refine(kU h).2 ?_;rw[show a+b-(c+d)=(a-c)+(b-d) by grind,H.zadd (show sg r n (a-c)=0 from e)];exact f)⟩
instance (h:eV r n):Mul (Zq h):=⟨Quotient.lift₂ (fun x y=>am h (x*y)) (by
  intro a b c d e f;have H:=gN r n h;refine(kU h).2 ?_;have e':sg r n (a-c)=0:=e;have f':sg r n (b-d)=0:=f;rw[show a*b-c*d=(a-c)*b+c*(b-d) by grind,H.zadd (by rw[H.mul,e'];simp),H.mul,f'];simp)⟩
instance (h:eV r n):Neg (Zq h):=⟨Quotient.lift (fun x=>am h (-x)) (by
  intro a c e;have H:=gN r n h;refine(kU h).2 ?_;have e':sg r n (a-c)=0:=e;rw[show -a - -c=-(a-c) by grind,H.neg,e'];rfl)⟩
instance (h:eV r n):_root_.Sub (Zq h):=⟨fun x y=>x+-y⟩
instance (h:eV r n)(c:Nat):OfNat (Zq h) c:=⟨am h (OfNat.ofNat c)⟩
instance (h:eV r n):NatCast (Zq h):=⟨fun c=>am h (c:E r n)⟩
instance (h:eV r n):IntCast (Zq h):=⟨fun c=>am h (c:E r n)⟩
instance (h:eV r n):SMul Nat (Zq h):=⟨fun c x=>am h (c:E r n)*x⟩
instance (h:eV r n):SMul Int (Zq h):=⟨fun c x=>am h (c:E r n)*x⟩
def Zq.pow{h:eV r n}(x:Zq h):Nat->Zq h
  |0=>am h 1
  |c+1=>Zq.pow x c*x
instance (h:eV r n):HPow (Zq h) Nat (Zq h):=⟨Zq.pow⟩
variable(h:eV r n)
theorem lD(x y:E r n):am h (x+y)=am h x+am h y:=rfl
theorem cG(x y:E r n):am h (x*y)=am h x*am h y:=rfl
theorem Lr(x:E r n):am h (-x)=-am h x:=rfl
theorem cS(x y:E r n):am h (x-y)=am h x-am h y:=by
 rw[show x-y=x+-y by grind];rfl
theorem eK(a:Zq h):∃x,a=am h x:=Quotient.ind (motive:=fun a=>∃x,a=am h x) (fun x=>⟨x,rfl⟩) a
instance zRing:CommRing (Zq h) where
  add_zero a:=by
    obtain⟨x,rfl⟩:=eK h a;exact congrArg (am h) (show x+0=x by grind)
  add_comm a b:=by
    obtain⟨x,rfl⟩:=eK h a;obtain⟨y,rfl⟩:=eK h b;exact congrArg (am h) (show x+y=y+x by grind)
  add_assoc a b c:=by
    obtain⟨x,rfl⟩:=eK h a;obtain⟨y,rfl⟩:=eK h b;obtain⟨z,rfl⟩:=eK h c;exact congrArg (am h) (show x+y+z=x+(y+z) by grind)
  mul_assoc a b c:=by
    obtain⟨x,rfl⟩:=eK h a;obtain⟨y,rfl⟩:=eK h b;obtain⟨z,rfl⟩:=eK h c;exact congrArg (am h) (show x*y*z=x*(y*z) by grind)
  mul_one a:=by
    obtain⟨x,rfl⟩:=eK h a;exact congrArg (am h) (show x*1=x by grind)
  one_mul a:=by
    obtain⟨x,rfl⟩:=eK h a;exact congrArg (am h) (show 1*x=x by grind)
  left_distrib a b c:=by
    obtain⟨x,rfl⟩:=eK h a;obtain⟨y,rfl⟩:=eK h b;obtain⟨z,rfl⟩:=eK h c;exact congrArg (am h) (show x*(y+z)=x*y+x*z by grind)
  right_distrib a b c:=by
    obtain⟨x,rfl⟩:=eK h a;obtain⟨y,rfl⟩:=eK h b;obtain⟨z,rfl⟩:=eK h c;exact congrArg (am h) (show(x+y)*z=x*z+y*z by grind)
  zero_mul a:=by
    obtain⟨x,rfl⟩:=eK h a;exact congrArg (am h) (show 0*x=0 by grind)
  mul_zero a:=by
    obtain⟨x,rfl⟩:=eK h a;exact congrArg (am h) (show x*0=0 by grind)
  pow_zero a:=rfl
  pow_succ a c:=rfl
  ofNat_succ c:=congrArg (am h) (Lean.Grind.Semiring.ofNat_succ (α:=E r n) c)
  ofNat_eq_natCast c:=congrArg (am h) (Lean.Grind.Semiring.ofNat_eq_natCast (α:=E r n) c)
  nsmul_eq_natCast_mul c a:=rfl
  neg_add_cancel a:=by
    obtain⟨x,rfl⟩:=eK h a;exact congrArg (am h) (show -x+x=0 by grind)
  sub_eq_add_neg a b:=rfl
  neg_zsmul i a:=by
    obtain⟨x,rfl⟩:=eK h a
    exact congrArg (am h) (show((-i:Int):E r n)*x=-((i:E r n)*x) by
      rw[Lean.Grind.Ring.intCast_neg];grind)
  zsmul_natCast_eq_nsmul c a:=rfl
  intCast_ofNat c:=congrArg (am h) (Lean.Grind.Ring.intCast_ofNat (α:=E r n) c)
  intCast_neg i:=congrArg (am h) (Lean.Grind.Ring.intCast_neg (α:=E r n) i)
  mul_comm a b:=by
    obtain⟨x,rfl⟩:=eK h a;obtain⟨y,rfl⟩:=eK h b;exact congrArg (am h) (show x*y=y*x by grind)
theorem fj{x:E r n}:am h x=0↔sg r n x=0:=by
 have e:=kU h (x:=x) (y:=0);rw[show x-0=x by grind]at e;exact e
theorem xZ{x:E r n}(hx:sg r n x≠0):am h (ft x)*am h x=1:=by
 have e:=(kU h (x:=ft x*x) (y:=1)).2 (Cc r n h x hx);exact e
theorem Qa:am h (1:E r n)=1:=rfl
end
example {r:(k:Nat)->T k} {n:Nat} (h:eV r n) (a b c:Zq h) (e:a*b=1) (f:c*a=2):c=2*b:=by grind
end Go.Lw
namespace Go.Lw
open Lean.Grind (CommRing)
structure Hm{ts:LL}{R:Type}[CommRing R](f:Et ts->R):Prop where
  add:∀x y,f (x+y)=f x+f y
  mul:∀x y,f (x*y)=f x*f y
  neg:∀x,f (-x)=-f x
  one:f 1=1
  inv:∀x,ak x≠0->f (iE x)*f x=1
  zero:∀x,f x=0↔ak x=0
section
variable{ts:LL}{R:Type}[CommRing R]{f:Et ts->R}(h:Hm f)
include h
theorem Hm.sub(x y:Et ts):f (x-y)=f x-f y:=by
 rw[show x-y=x+-y by grind,h.add,h.neg];grind
theorem Hm.nul:f 0=0:=by
 have e:=h.add 0 0;rw[show(0:Et ts)+0=0 by grind]at e;grind
theorem Hm.q1:f (qE ((1:Int):Rat))=1:=by rw[lE];exact h.one
theorem Hm.q4:f (qE 4)=4:=by
 have e:(qE 4:Et ts)=1+1+1+1:=by
  have e1:=qG (r:=aj ts) (n:=ts.length) 1 1;have e2:=qG (r:=aj ts) (n:=ts.length) 2 2;rw[show(1:Rat)+1=2 by decide +kernel]at e1;rw[show(2:Rat)+2=4 by decide +kernel,e1]at e2;rw[e2];have e3:(qE 1:Et ts)=1:=rfl;rw[e3];grind
 rw[e,h.add,h.add,h.add,h.one];grind
end
abbrev iU(ts:LL):Prop:=eV (aj ts) ts.length
theorem Rq{ts:LL}(hp:iU ts):Hm (am hp:Et ts->Zq hp) :=
 ⟨fun _ _=>rfl,fun _ _=>rfl,fun _=>rfl,rfl,fun x hx=>xZ hp hx,fun x=>fj hp⟩
theorem QE{ts:LL}(X:Et ts)(hp:iU (aJ ts (sX X))):Hm (fun x:Et ts=>am hp (aL X x)) :=
  ⟨fun x y => by rw [sD]; rfl, fun x y => by rw [fi]; rfl, fun x => by rw [F3]; rfl,
   by have e := nc X ((1 : Nat) : Rat)
      have e1:(qE ((1:Nat):Rat):Et ts)=1:=rfl;rw[e1]at e;rw[e];rfl,
   fun x hx=>by rw[oC];exact xZ hp (by show ak (aL X x)≠0;rw[oV];exact hx),
   fun x=>by rw[fj hp];show ak (aL X x)=0↔_;rw[oV]⟩
theorem KD(k:Nat):ad (k+1) (cc k)=(T.zero k,T.ofQ k 1):=by
 have h1:(cc k).take (2^k)=List.replicate (2^k) 0:=by
  unfold cc;rw[List.take_set_of_le (le_refl _),List.take_replicate];congr 1;have:=Nat.pow_lt_pow_right (a:=2) oz (Nat.lt_succ_self k);omega
 have h2:(cc k).drop (2^k)=(1:Rat)::List.replicate (2^k-1) 0:=by
  unfold cc;rw[List.drop_set,if_neg oz,Nat.sub_self,List.drop_replicate]
  have e:2^(k+1)-2^k=(2^k-1)+1:=by
   have h3:0<2^k:=Nat.pow_pos oz;have h4:2^(k+1)=2^k+2^k:=by rw[Nat.pow_succ];omega
   omega
  rw[e,List.replicate_succ,List.set_cons_zero]
 show(ad k _,ad k _)=_;rw[h1,h2]
 have e1:ad k (List.replicate (2^k) (0:Rat))=T.zero k:=by
  rw[<- gQ]
  exact nK k (fun i _=>by
   rw[getD_eq_getElem?_getD,getD_eq_getElem?_getD,getElem?_replicate];split <;> rfl)
 have e2:ad k ((1:Rat)::List.replicate (2^k-1) 0)=T.ofQ k 1:=by
  rw[<- lJ]
  exact nK k (fun i _=>by
   cases i with
   |zero=>rfl
   |succ i =>
    rw[getD_eq_getElem?_getD,getD_eq_getElem?_getD,List.getElem?_cons_succ,getElem?_replicate];split <;> rfl)
 rw[e1,e2]
theorem PQ{n N:Nat}(hN:N=n+1){r:(k:Nat)->T k}(x:T n)(hx:r n=x):T.mul r N (ad N (cc n)) (ad N (cc n))=iH x:=by
 subst hN;rw[KD,jW];show(T.add n (T.mul r n (T.zero n) (T.zero n)) (T.mul r n (T.mul r n (T.ofQ n 1) (T.ofQ n 1)) (r n)),T.add n (T.mul r n (T.zero n) (T.ofQ n 1)) (T.mul r n (T.ofQ n 1) (T.zero n)))=_;have L:=mz r n;rw[L.one,L.one,T.zero_mul,T.zero_mul,T.zero_add,L.one,T.zero_add,hx]
theorem yW{ts:LL}(X:Et ts):bw X*bw X=aL X X:=by
 refine PQ (dP _ _) X ?_;show ad ts.length ((aJ ts (sX X)).getD ts.length [])=X;rw[u6,nG];exact a6 _ _
section
variable{R:Type}[CommRing R]
theorem SK{p1 p2 q1 q2 z z2 i t:R}(hi:i*(((p1-q1)*(p1-q1)+(p2-q2)*(p2-q2))+((p1-q1)*(p1-q1)+(p2-q2)*(p2-q2)))=1)
  (ht:t*t=4*(z*((p1-q1)*(p1-q1)+(p2-q2)*(p2-q2)))-((z+((p1-q1)*(p1-q1)+(p2-q2)*(p2-q2)))-z2)*((z+((p1-q1)*(p1-q1)+(p2-q2)*(p2-q2)))-z2))
  {x y:R} (hx:x=p1+((z+((p1-q1)*(p1-q1)+(p2-q2)*(p2-q2)))-z2)*i*(q1-p1)+t*(i*-(q2-p2))) (hy:y=p2+((z+((p1-q1)*(p1-q1)+(p2-q2)*(p2-q2)))-z2)*i*(q2-p2)+t*(i*(q1-p1))) :
  (x-p1)*(x-p1)+(y-p2)*(y-p2)=z/\(x-q1)*(x-q1)+(y-q2)*(y-q2)=z2:=by
 obtain⟨d,hd⟩:∃d,d=(p1-q1)*(p1-q1)+(p2-q2)*(p2-q2):=⟨_,rfl⟩
 rw[<- hd]at hi ht hx hy;obtain⟨a,ha⟩:∃a,a=z+d-z2:=⟨_,rfl⟩
 rw[<- ha]at ht hx hy;have e1:(x-p1)*(x-p1)+(y-p2)*(y-p2)=(a*a+t*t)*(i*i)*d:=by rw[hx,hy,hd];grind
 have e2:(a*a+t*t)*(i*i)*d=z:=by
  rw[ht];have:(a*a+(4*(z*d)-a*a))*(i*i)*d=z*(i*(d+d))*(i*(d+d)):=by grind
  rw[this,hi];grind
 have e3:(x-q1)*(x-q1)+(y-q2)*(y-q2)=((x-p1)*(x-p1)+(y-p2)*(y-p2))-a*(i*(d+d))+d:=by rw[hx,hy,hd];grind
 refine⟨e1.trans e2,?_⟩;rw[e3,e1,e2,hi,ha];grind
theorem Q6(e t i S:R):(e+t)*i*S=(e+t)*(i*S):=by grind
theorem Me(z i S W:R):i*S*z-i*(S*W)+W=z*(i*S)-(i*S)*W+W:=by grind
theorem N6(z W:R):z*1-1*W+W=z:=by grind
theorem IZ(x:R):x*1=x:=by grind
theorem QZ(k e t S:R):k*k*S-(k*e+k*e)=k*(k*S)-(k*e+k*e):=by grind
theorem N5(e t i:R):(e+t)*i*(e+t)-((e+t)*i*e+(e+t)*i*e)=i*(t*t-e*e):=by grind
theorem NQ{p1 p2 q1 q2 c1 c2 z i t k:R}(hi:i*((q1-p1)*(q1-p1)+(q2-p2)*(q2-p2))=1)
  (ht:t*t=((q1-p1)*(q1-p1)+(q2-p2)*(q2-p2))*z-((q1-p1)*(c2-p2)-(q2-p2)*(c1-p1))*((q1-p1)*(c2-p2)-(q2-p2)*(c1-p1)))
  (hk:k=((q1-p1)*(c1-p1)+(q2-p2)*(c2-p2)+t)*i)
  {x y:R} (hx:x=p1+k*(q1-p1)) (hy:y=p2+k*(q2-p2)) :
  (x-c1)*(x-c1)+(y-c2)*(y-c2)=z/\(q1-p1)*(y-p2)-(q2-p2)*(x-p1)=0:=by
 refine⟨?_,by rw[hx,hy];grind⟩;obtain⟨S,hS⟩:∃S,S=(q1-p1)*(q1-p1)+(q2-p2)*(q2-p2):=⟨_,rfl⟩
 obtain⟨e,he⟩:∃e,e=(q1-p1)*(c1-p1)+(q2-p2)*(c2-p2):=⟨_,rfl⟩
 obtain⟨C,hC⟩:∃C,C=(q1-p1)*(c2-p2)-(q2-p2)*(c1-p1):=⟨_,rfl⟩
 obtain⟨W,hW⟩:∃W,W=(c1-p1)*(c1-p1)+(c2-p2)*(c2-p2):=⟨_,rfl⟩
 rw[<- hS]at hi ht;rw[<- he]at hk;rw[<- hC]at ht;have e0:e*e+C*C=S*W:=by rw[he,hC,hS,hW];grind
 have e1:(x-c1)*(x-c1)+(y-c2)*(y-c2)=k*k*S-(k*e+k*e)+W:=by rw[hx,hy,hS,he,hW];grind
 have e2:k*S=e+t:=by rw[hk,Q6,hi,IZ]
 have e3:k*k*S-(k*e+k*e)+W=i*(t*t-e*e)+W:=by
  rw[QZ k e t S,e2,hk,N5]
 rw[e1,e3,ht];have:i*(S*z-C*C-e*e)+W=i*S*z-i*(e*e+C*C)+W:=by grind
 rw[this,e0,Me,hi,N6]
theorem M6{W1 W2 N hh i t D w1 w2:R}(hD:D=W1*W1+W2*W2)(hi:i*D=1)(ht:t*t=N*D-hh*hh)
  (h1:w1=(t*W1-hh*-W2)*i) (h2:w2=(t*W2-hh*W1)*i):w1*w1+w2*w2=N/\w1*W2-w2*W1=hh:=by
 have e1:w1*w1+w2*w2=(t*t+hh*hh)*(i*D)*i:=by rw[h1,h2,hD];grind
 have e2:w1*W2-w2*W1=hh*(i*D):=by rw[h1,h2,hD];grind
 refine⟨?_,by rw[e2,hi];grind⟩;rw[e1,ht,hi];have:(N*D-hh*hh+hh*hh)*1*i=N*(i*D):=by grind
 rw[this,hi];grind
theorem GE{u1 u2 w1 w2 n i c s:R}(hn:n=u1*u1+u2*u2)(hi:i*n=1)(hc:c=(u1*w1+u2*w2)*i)(hs:s=(u1*w2-u2*w1)*i) :
  (c*u1-s*u2=w1/\s*u1+c*u2=w2)/\(w1*w1+w2*w2=n->c*c+s*s=1):=by
 have e1:c*u1-s*u2=w1*(i*n):=by rw[hc,hs,hn];grind
 have e2:s*u1+c*u2=w2*(i*n):=by rw[hc,hs,hn];grind
 refine⟨⟨by rw[e1,hi];grind,by rw[e2,hi];grind⟩,fun hw=>?_⟩;have e3:c*c+s*s=(w1*w1+w2*w2)*(i*n)*i:=by rw[hc,hs,hn];grind
 rw[e3,hw,hi];rw[show n*1*i=i*n by grind,hi]
end
end Go.Lw
namespace Go.Lw
open Lean.Grind (CommRing)
def aT{ts:LL}(T:LL)(y:Et ts):Et T:=dE T (sX y)
structure Lf(ts T:LL):Prop where
  pos:iU T
  hm:Hm (fun y:Et ts=>am pos (aT T y))
  low:∀l:List Rat,l.length<=2^ts.length->aT T (dE ts l)=dE T l
  q:∀q:Rat,aT T (qE q:Et ts)=qE q
  len:ts.length<=T.length
theorem gY{ts:LL}(y:Et ts):aT ts y=y:=a6 _ _
theorem uX{ts:LL}(hp:iU ts):Lf ts ts:=by
 refine⟨hp,?_,fun l _=>gY _,fun q=>gY _,le_refl _⟩;have e:(fun y:Et ts=>am hp (aT ts y))=am hp:=funext fun y=>by rw[gY]
 rw[e];exact Rq hp
theorem Th{n N:Nat}(hN:N=n+1){l:List Rat}(h:l.length<=2^n):ad N (sh n (ad n l))=ad N l:=by
 subst hN;rw[fW (eM n _).le,a6,fW h]
theorem zy{ts:LL}(X:Et ts)(hp:iU (aJ ts (sX X))):Lf ts (aJ ts (sX X)) :=
 ⟨hp,QE X hp,fun l h=>Th (dP _ _) h,fun q=>nc X q,by rw[dP];omega⟩
structure CirG(ts T:LL)(x:List Rat×List Rat)(p q:P2 ts)(z z2:Et ts):Prop where
  lf:Lf ts T
  c1:ak ((dE T x.1-aT T p.1)*(dE T x.1-aT T p.1)+(dE T x.2-aT T p.2)*(dE T x.2-aT T p.2)-aT T z)=0
  c2:ak ((dE T x.1-aT T q.1)*(dE T x.1-aT T q.1)+(dE T x.2-aT T q.2)*(dE T x.2-aT T q.2)-aT T z2)=0
section
variable{ts:LL}
theorem NW{R:Type}[CommRing R]{f:Et ts->R}(h:Hm f)(p q:P2 ts):f (aC p q)=(f p.1-f q.1)*(f p.1-f q.1)+(f p.2-f q.2)*(f p.2-f q.2):=by
 show f ((p.1-q.1)*(p.1-q.1)+(p.2-q.2)*(p.2-q.2))=_;rw[h.add,h.mul,h.mul,h.sub,h.sub]
theorem TD{R:Type}[CommRing R]{f:Et ts->R}(h:Hm f)(p q:P2 ts)(z z2:Et ts){D:R}(hD:f (aC p q)=D):f (bC p z q z2)=4*(f z*D)-((f z+D)-f z2)*((f z+D)-f z2):=by
 subst hD;unfold bC;rw[h.sub,h.mul,h.mul,h.mul,h.sub,h.add,h.q4]
theorem KM{R:Type}[CommRing R]{f:Et ts->R}(h:Hm f){p q:P2 ts}{z z2:Et ts}(hd2:ak (aC p q+aC p q)≠0){t:R}(ht:t*t=f (bC p z q z2)){x y:R}
  (hx:x=f (eZ p q z z2).1+t*f (kt p q).1) (hy:y=f (eZ p q z z2).2+t*f (kt p q).2) :
  (x-f p.1)*(x-f p.1)+(y-f p.2)*(y-f p.2)=f z/\(x-f q.1)*(x-f q.1)+(y-f q.2)*(y-f q.2)=f z2:=by
 have d:=NW h p q;have hi:=h.inv _ hd2;rw[h.add,d]at hi;rw[TD h p q z z2 d]at ht;refine SK hi ht ?_ ?_
 ·rw[hx,EA];unfold dS kt;dsimp only;show f (p.1+qE ((1:Int):Rat)*iE (aC p q+aC p q)*(z+aC p q-z2)*(q.1-p.1))+t*f (qE ((1:Int):Rat)*iE (aC p q+aC p q)*(0-(q.2-p.2)))=_;simp only[h.add,h.mul,h.sub,h.q1,h.nul,d];generalize(f p.1-f q.1)*(f p.1-f q.1)+(f p.2-f q.2)*(f p.2-f q.2)=D;generalize f (iE (aC p q+aC p q))=i;clear ht hi hx hy;grind
 ·rw[hy,EA];unfold dS kt;dsimp only;show f (p.2+qE ((1:Int):Rat)*iE (aC p q+aC p q)*(z+aC p q-z2)*(q.2-p.2))+t*f (qE ((1:Int):Rat)*iE (aC p q+aC p q)*(q.1-p.1))=_;simp only[h.add,h.mul,h.sub,h.q1,d];generalize(f p.1-f q.1)*(f p.1-f q.1)+(f p.2-f q.2)*(f p.2-f q.2)=D;generalize f (iE (aC p q+aC p q))=i;clear ht hi hx hy;grind
theorem RJ{r:Nat}(tw:Tw ts r){d:Et ts}(hd:ak d≠0):ak (d+d)≠0:=by
 rw[<- Ac,wF tw];exact hd
theorem yS{T:LL}(L:Lf ts T){x:List Rat×List Rat}{p q:P2 ts}{z z2:Et ts}(hd2:ak (aC p q+aC p q)≠0){t:Et T}(ht:am L.pos (t*t)=am L.pos (aT T (bC p z q z2)))
  (hx:dE T x.1=aT T (eZ p q z z2).1+t*aT T (kt p q).1) (hy:dE T x.2=aT T (eZ p q z z2).2+t*aT T (kt p q).2):CirG ts T x p q z z2:=by
 have g:=KM L.hm hd2 (t:=am L.pos t) ht (x:=am L.pos (dE T x.1)) (y:=am L.pos (dE T x.2)) (by rw[hx];rfl) (by rw[hy];rfl);refine⟨L,?_,?_⟩
 ·refine(fj L.pos).1 ?_;rw[cS,lD,cG,cG,cS,cS];have:=g.1;generalize am L.pos (aT T z)=Z at *;generalize am L.pos (aT T p.1)=P1 at *;generalize am L.pos (aT T p.2)=P2 at *;rw[this];grind
 ·refine(fj L.pos).1 ?_;rw[cS,lD,cG,cG,cS,cS];have:=g.2;rw[this];grind
theorem jk{T:LL}(y:Et T):dE T (sX y)=y:=a6 _ _
theorem Jl{r:Nat}(tw:Tw ts r)(hx4:∀X:Et ts,0<ak X->iU (aJ ts (sX X))){p q:P2 ts}{z z2:Et ts}(h0:fR p q z z2=0)(hz:0<ak z) :
  ∀x∈(eY p q z z2).ps,CirG ts (eY p q z z2).ts x p q z z2:=by
 intro x;unfold fR l0 at h0;unfold eY;split
 ·rename_i hd;rw[if_pos hd]at h0;unfold l7;split
  ·intro hx;cases hx
  ·intro hx;cases hx
 ·rename_i hd;have hd2:=RJ tw hd;split
  ·intro hx;cases hx
  ·rename_i hn;split
   ·rename_i hX;intro hx;rw[List.mem_singleton.1 hx];have hp:iU ts:=tw.pos;refine yS (uX hp) hd2 (t:=0) ?_ ?_ ?_
    ·refine((fj hp).2 ?_).trans ((fj hp).2 ?_).symm
     ·rw[show(0:Et ts)*0=0 by grind];exact(gN _ _ hp).zero
     ·rw[gY];exact hX
    ·rw[gY,gY,jk];grind
    ·rw[gY,gY,jk];grind
   ·rename_i hX;have hX1:0 < ak (bC p z q z2):=by omega
    have hp:=hx4 _ hX1;intro hx;have L:=zy (bC p z q z2) hp;have e:=yW (bC p z q z2);rcases List.mem_cons.1 hx with rfl |hx
    ·refine yS L hd2 (t := bw (bC p z q z2)) (by rw [e]; rfl) ?_ ?_
     ·rw[jk];exact congrArg Prod.fst (xB (bC p z q z2) (eZ p q z z2) p q)
     ·rw[jk];exact congrArg Prod.snd (xB (bC p z q z2) (eZ p q z z2) p q)
    ·rw [List.mem_singleton.1 hx];refine yS L hd2 (t:=-bw (bC p z q z2)) (by rw [show -bw (bC p z q z2) * -bw (bC p z q z2) = bw (bC p z q z2) * bw (bC p z q z2) by grind,e]; rfl) ?_ ?_
     ·rw[jk,congrArg Prod.fst (By (bC p z q z2) (eZ p q z z2) p q)];show aL _ _-_*aL _ _=aL _ _+-_*aL _ _;grind
     ·rw[jk,congrArg Prod.snd (By (bC p z q z2) (eZ p q z z2) p q)];show aL _ _-_*aL _ _=aL _ _+-_*aL _ _;grind
structure LinG(ts T:LL)(x:List Rat×List Rat)(p q c:P2 ts)(z:Et ts):Prop where
  lf:Lf ts T
  c:ak ((dE T x.1-aT T c.1)*(dE T x.1-aT T c.1)+(dE T x.2-aT T c.2)*(dE T x.2-aT T c.2)-aT T z)=0
  l:ak ((aT T q.1-aT T p.1)*(dE T x.2-aT T p.2)-(aT T q.2-aT T p.2)*(dE T x.1-aT T p.1))=0
theorem Ps{R:Type}[CommRing R]{f:Et ts->R}(h:Hm f){p q c:P2 ts}{z:Et ts}(hd:ak (br p q)≠0){t:R}(ht:t*t=f (aU p q c z)){x y:R}
  (hx:x=f (dS p (bS p q c*iE (br p q)) (bu q p)).1+t*f (jF p q).1) (hy:y=f (dS p (bS p q c*iE (br p q)) (bu q p)).2+t*f (jF p q).2) :
  (x-f c.1)*(x-f c.1)+(y-f c.2)*(y-f c.2)=f z/\(f q.1-f p.1)*(y-f p.2)-(f q.2-f p.2)*(x-f p.1)=0:=by
 have hi:=h.inv _ hd
 have eS:f (br p q)=(f q.1-f p.1)*(f q.1-f p.1)+(f q.2-f p.2)*(f q.2-f p.2):=by
  show f ((q.1-p.1)*(q.1-p.1)+(q.2-p.2)*(q.2-p.2))=_;simp only[h.add,h.mul,h.sub]
 have eE:f (bS p q c)=(f q.1-f p.1)*(f c.1-f p.1)+(f q.2-f p.2)*(f c.2-f p.2):=by
  show f ((q.1-p.1)*(c.1-p.1)+(q.2-p.2)*(c.2-p.2))=_;simp only[h.add,h.mul,h.sub]
 have eC:f (iR p q c)=(f q.1-f p.1)*(f c.2-f p.2)-(f q.2-f p.2)*(f c.1-f p.1):=by
  show f ((q.1-p.1)*(c.2-p.2)-(q.2-p.2)*(c.1-p.1))=_;simp only[h.mul,h.sub]
 have eX:f (aU p q c z)=f (br p q)*f z-f (iR p q c)*f (iR p q c):=by
  show f (br p q*z-iR p q c*iR p q c)=_;simp only[h.mul,h.sub]
 rw[eX,eC,eS]at ht;rw[eS]at hi;refine NQ hi ht (k:=(f (bS p q c)+t)*f (iE (br p q))) (by rw[eE]) ?_ ?_
 ·rw[hx];unfold dS jF;show f (p.1+bS p q c*iE (br p q)*(q.1-p.1))+t*f (qE ((1:Int):Rat)*iE (br p q)*(q.1-p.1))=_;simp only[h.add,h.mul,h.sub,h.q1];generalize f (iE (br p q))=i;generalize f (bS p q c)=e;clear ht hi hx hy eS eE eC eX;grind
 ·rw[hy];unfold dS jF;show f (p.2+bS p q c*iE (br p q)*(q.2-p.2))+t*f (qE ((1:Int):Rat)*iE (br p q)*(q.2-p.2))=_;simp only[h.add,h.mul,h.sub,h.q1];generalize f (iE (br p q))=i;generalize f (bS p q c)=e;clear ht hi hx hy eS eE eC eX;grind
theorem A4{T:LL}(L:Lf ts T){x:List Rat×List Rat}{p q c:P2 ts}{z:Et ts}(hd:ak (br p q)≠0){t:Et T}(ht:am L.pos (t*t)=am L.pos (aT T (aU p q c z)))
  (hx:dE T x.1=aT T (dS p (bS p q c*iE (br p q)) (bu q p)).1+t*aT T (jF p q).1) (hy:dE T x.2=aT T (dS p (bS p q c*iE (br p q)) (bu q p)).2+t*aT T (jF p q).2):LinG ts T x p q c z:=by
 have g:=Ps L.hm hd (t:=am L.pos t) ht (x:=am L.pos (dE T x.1)) (y:=am L.pos (dE T x.2)) (by rw[hx];rfl) (by rw[hy];rfl);refine⟨L,?_,?_⟩
 ·refine(fj L.pos).1 ?_;rw[cS,lD,cG,cG,cS,cS];have:=g.1;rw[this];grind
 ·refine(fj L.pos).1 ?_;rw[cS,cG,cG,cS,cS,cS,cS];exact g.2
theorem L5{r:Nat}(tw:Tw ts r)(hx4:∀X:Et ts,0<ak X->iU (aJ ts (sX X))){p q c:P2 ts}{z:Et ts}(h0:fV p q=0) :
  ∀x∈(fa p q c z).ps,LinG ts (fa p q c z).ts x p q c z:=by
 intro x;unfold fV at h0;unfold fa;split
 ·intro hx;cases hx
 ·rename_i hd;split
  ·intro hx;cases hx
  ·rename_i hn;split
   ·rename_i hX;intro hx;rw[List.mem_singleton.1 hx];have hp:iU ts:=tw.pos;refine A4 (uX hp) hd (t:=0) ?_ ?_ ?_
    ·refine((fj hp).2 ?_).trans ((fj hp).2 ?_).symm
     ·rw[show(0:Et ts)*0=0 by grind];exact(gN _ _ hp).zero
     ·rw[gY];exact hX
    ·rw[gY,gY,jk];grind
    ·rw[gY,gY,jk];grind
   ·rename_i hX
    have hX1:0<ak (aU p q c z):=by
     rcases(gN _ _ tw.pos).cs (aU p q c z)with g |g |g
     ·exact absurd g hn
     ·exact absurd g hX
     ·show 0<sg _ _ _;rw[g];decide
    have hp:=hx4 _ hX1;intro hx;have L:=zy (aU p q c z) hp;have e:=yW (aU p q c z);rcases List.mem_cons.1 hx with rfl |hx
    ·refine A4 L hd (t := bw (aU p q c z)) (by rw [e]; rfl) ?_ ?_
     ·rw[jk];exact congrArg Prod.fst (HA (aU p q c z) p q c)
     ·rw[jk];exact congrArg Prod.snd (HA (aU p q c z) p q c)
    ·rw [List.mem_singleton.1 hx];refine A4 L hd (t:=-bw (aU p q c z)) (by rw [show -bw (aU p q c z) * -bw (aU p q c z) = bw (aU p q c z) * bw (aU p q c z) by grind,e]; rfl) ?_ ?_
     ·rw[jk,congrArg Prod.fst (CY (aU p q c z) p q c)];show aL _ _-_*aL _ _=aL _ _+-_*aL _ _;grind
     ·rw[jk,congrArg Prod.snd (CY (aU p q c z) p q c)];show aL _ _-_*aL _ _=aL _ _+-_*aL _ _;grind
end
end Go.Lw
namespace Go.Lw
open Lean.Grind (CommRing)
theorem yq{ts:LL}(hp:iU ts){X:Et ts}(h:0<ak X):iU (aJ ts (sX X)):=by
 intro j hj;rw[dP]at hj;rw[zH oz];rcases lt_or_ge j ts.length with h9 |h9
 ·rw[wJ h9];exact hp j h9
 ·have : j = ts.length := by omega
  subst this
  have e1:aj (aJ ts (sX X)) ts.length=X:=by
   show ad ts.length ((aJ ts (sX X)).getD ts.length [])=_;rw[u6,nG];exact a6 _ _
  rw[e1];exact Int.le_of_lt h
def fA(T:LL)(p:Pq)(m:Rat×Rat):P2 T:=(dE T p.c*qE m.1-dE T p.s*qE m.2+dE T p.x,dE T p.s*qE m.1+dE T p.c*qE m.2+dE T p.y)
def CH(T:LL)(p:Pq):Prop:=ak (dE T p.c*dE T p.c+dE T p.s*dE T p.s-1)=0
def a8(l:Li)(T:LL)(bs:List Pq)(b pt:Int):P2 T:=fA T (bs.getD b.toNat bF) (a5 l b pt)
def JH(l:Li)(T:LL)(bs:List Pq)(j:Jt):Prop :=
  if j.kind=0 then ak ((a8 l T bs j.a j.point).1-(a8 l T bs j.b j.on).1)=0/\ak ((a8 l T bs j.a j.point).2-(a8 l T bs j.b j.on).2)=0
  else ak (vz (bu (a8 l T bs j.b j.to) (a8 l T bs j.b j.on)) (bu (a8 l T bs j.a j.point) (a8 l T bs j.b j.on)))=0
theorem BJ{ts:LL}{q:Rat}(h:q≠0):(iE (qE q)*qE q:Et ts)=1:=by
 have e:(iE (qE q):Et ts)=qE (1/q):=vN (aj ts) ts.length q;rw[e,<- mf,show 1/q*q=((1:Nat):Rat) by rw[show(((1:Nat):Rat))=1 from rfl];grind];rfl
section
variable{T:LL}{u p c:Rat×Rat}{w o:P2 T}
theorem wt:dE T (gU u w p o).c=dH u w:=a6 _ _
theorem u5:dE T (gU u w p o).s=dk u w:=a6 _ _
theorem O6:dE T (gU u w p o).x=qo u w p o:=a6 _ _
theorem I0:dE T (gU u w p o).y=pH u w p o:=a6 _ _
theorem wb(m:Rat×Rat):fA T (gU u w p o) m=(o.1+(dH u w*qE (m.1-p.1)-dk u w*qE (m.2-p.2)),o.2+(dk u w*qE (m.1-p.1)+dH u w*qE (m.2-p.2))):=by
 unfold fA;rw[wt,u5,O6,I0,rv,rv];unfold qo pH;refine Prod.ext ?_ ?_
 ·dsimp only;grind
 ·dsimp only;grind
theorem rV:fA T (gU u w p o) p=o:=by
 rw[wb,show p.1-p.1=0 by grind,show p.2-p.2=0 by grind,z7];refine Prod.ext ?_ ?_
 ·dsimp only;grind
 ·dsimp only;grind
theorem Er(h:bW u u≠0):(dH u w*qE u.1-dk u w*qE u.2=w.1/\dk u w*qE u.1+dH u w*qE u.2=w.2):=by
 have hn:(jP u:Et T)=qE u.1*qE u.1+qE u.2*qE u.2:=by
  show qE (u.1*u.1+u.2*u.2)=_;rw[qG,mf,mf]
 exact(GE hn (BJ h) rfl rfl).1
theorem zP(h:bW (b9 c p) (b9 c p)≠0):fA T (gU (b9 c p) w p o) c=(o.1+w.1,o.2+w.2):=by
 rw[wb];have g:=Er (w:=w) h;have e1:(qE (c.1-p.1):Et T)=qE (b9 c p).1:=rfl;have e2:(qE (c.2-p.2):Et T)=qE (b9 c p).2:=rfl;rw[e1,e2,g.1,g.2]
theorem wd(hp:iU T)(h:bW u u≠0)(hw:ak (w.1*w.1+w.2*w.2-qE (bW u u))=0):CH T (gU u w p o):=by
 unfold CH;rw[wt,u5]
 have hn:(jP u:Et T)=qE u.1*qE u.1+qE u.2*qE u.2:=by
  show qE (u.1*u.1+u.2*u.2)=_;rw[qG,mf,mf]
 have hi:(iE (jP u)*jP u:Et T)=1:=BJ h;have e:=congrArg (am hp) hn;have ei:=congrArg (am hp) hi;have ew:am hp w.1*am hp w.1+am hp w.2*am hp w.2=am hp (jP u):=(kU hp (x:=w.1*w.1+w.2*w.2) (y:=jP u)).2 hw;have g:=(GE (R:=Zq hp) (n:=am hp (jP u)) (i:=am hp (iE (jP u))) (u1:=am hp (qE u.1)) (u2:=am hp (qE u.2)) (c:=am hp (dH u w)) (s:=am hp (dk u w)) (w1:=am hp w.1) (w2:=am hp w.2) e ei rfl (by unfold dk;rw[cG,cS,cG,cG])).2 ew;refine(kU hp (x:=dH u w*dH u w+dk u w*dk u w) (y:=1)).1 ?_;exact g
end
def bf(a:As):List Pq:=a.bs.map fun b=>⟨lq b.c,lq b.s,lq b.x,lq b.y⟩
theorem vj(q:Aq):bf q.as=q.bs:=by
 unfold bf Aq.as;rw[map_map]
 conv=>rhs;rw[<- List.map_id q.bs]
 refine List.map_congr_left fun p _=>?_
 show(⟨lq (p.c.map rt),lq (p.s.map rt),lq (p.x.map rt),lq (p.y.map rt)⟩:Pq)=p;rw[cV,cV,cV,cV]
theorem qH(l:Li)(a:As)(b pt:Int):bJ l a b pt=a8 l (llq a.rs) (bf a) b pt:=by
 have e:(bf a).getD b.toNat bF=⟨lq (a.bs.getD b.toNat default).c,lq (a.bs.getD b.toNat default).s,lq (a.bs.getD b.toNat default).x,lq (a.bs.getD b.toNat default).y⟩:=by
  unfold bf;rw[getD_eq_getElem?_getD,getD_eq_getElem?_getD,getElem?_map];cases a.bs[b.toNat]? <;> rfl
 unfold a8;rw[e];rfl
def Nq(n:Nat)(p:Pq):Prop:=p.c.length<=2^n/\p.s.length<=2^n/\p.x.length<=2^n/\p.y.length<=2^n
section
variable{ts T:LL}(L:Lf ts T)
include L
theorem Lf.add(x y:Et ts):am L.pos (aT T (x+y))=am L.pos (aT T x)+am L.pos (aT T y):=L.hm.add x y
theorem Lf.mul(x y:Et ts):am L.pos (aT T (x*y))=am L.pos (aT T x)*am L.pos (aT T y):=L.hm.mul x y
theorem Lf.sub(x y:Et ts):am L.pos (aT T (x-y))=am L.pos (aT T x)-am L.pos (aT T y):=L.hm.sub x y
theorem Lf.one:am L.pos (aT T (1:Et ts))=1:=L.hm.one
theorem Lf.at{p:Pq}(hp:Nq ts.length p)(m:Rat×Rat):am L.pos (fA T p m).1=am L.pos (aT T (fA ts p m).1)/\am L.pos (fA T p m).2=am L.pos (aT T (fA ts p m).2):=by
 obtain⟨h1,h2,h3,h4⟩:=hp;unfold fA;dsimp only;constructor
 ·rw[L.add,L.sub,L.mul,L.mul,L.low _ h1,L.low _ h2,L.low _ h3,L.q,L.q,lD,cS,cG,cG]
 ·rw[L.add,L.add,L.mul,L.mul,L.low _ h1,L.low _ h2,L.low _ h4,L.q,L.q,lD,lD,cG,cG]
theorem Lf.zero(x:Et ts):ak (aT T x)=0↔ak x=0:=(fj L.pos).symm.trans (L.hm.zero x)
theorem Lf.ch{p:Pq}(hp:Nq ts.length p)(h:CH ts p):CH T p:=by
 obtain⟨h1,h2,h3,h4⟩:=hp;have e:=(L.zero _).2 h;have e1:=(fj L.pos).2 e;refine(fj L.pos).1 ?_;rw[L.sub,L.add,L.mul,L.mul,L.low _ h1,L.low _ h2,L.one]at e1;rw[cS,lD,cG,cG];exact e1
end
end Go.Lw
namespace Go.Lw
open Lean.Grind (CommRing)
def jZ(bs bs':List Pq)(n:Nat)(b:Int):Prop:=bs'.getD b.toNat bF=bs.getD b.toNat bF/\Nq n (bs.getD b.toNat bF)
section
variable{ts T:LL}(L:Lf ts T)
include L
theorem Lf.pt(l:Li){bs bs':List Pq}{b:Int}(h:jZ bs bs' ts.length b)(pt:Int) :
  am L.pos (a8 l T bs' b pt).1=am L.pos (aT T (a8 l ts bs b pt).1)/\am L.pos (a8 l T bs' b pt).2=am L.pos (aT T (a8 l ts bs b pt).2):=by
 unfold a8;rw[h.1];exact L.at h.2 _
end
section
variable{T:LL}(hp:iU T)
include hp
theorem vS{l:Li}{bs:List Pq}{j:Jt}(hk:j.kind=0)(h1:am hp (a8 l T bs j.a j.point).1=am hp (a8 l T bs j.b j.on).1)(h2:am hp (a8 l T bs j.a j.point).2=am hp (a8 l T bs j.b j.on).2):JH l T bs j:=by
 unfold JH;rw[if_pos hk];exact⟨(kU hp).1 h1,(kU hp).1 h2⟩
theorem zW{l:Li}{bs:List Pq}{j:Jt}(hk:j.kind≠0)
  (h:(am hp (a8 l T bs j.b j.to).1-am hp (a8 l T bs j.b j.on).1)*(am hp (a8 l T bs j.a j.point).2-am hp (a8 l T bs j.b j.on).2)-(am hp (a8 l T bs j.b j.to).2-am hp (a8 l T bs j.b j.on).2)*(am hp (a8 l T bs j.a j.point).1-am hp (a8 l T bs j.b j.on).1)=0):JH l T bs j:=by
 unfold JH;rw[if_neg hk];refine(fj hp).1 ?_;unfold vz crsE bu;dsimp only;rw[cS,cG,cG,cS,cS,cS,cS];exact h
end
section
variable{ts T:LL}(L:Lf ts T)
include L
theorem Lf.jh{l:Li}{bs bs':List Pq}{j:Jt}(ha:jZ bs bs' ts.length j.a)(hb:jZ bs bs' ts.length j.b)(h:JH l ts bs j):JH l T bs' j:=by
 have a:=L.pt l ha;have b:=L.pt l hb
 by_cases hk:j.kind=0
 ·unfold JH at h;rw[if_pos hk]at h;have e1:=(fj L.pos).2 ((L.zero _).2 h.1);have e2:=(fj L.pos).2 ((L.zero _).2 h.2);rw[L.sub]at e1 e2;refine vS L.pos hk ?_ ?_
  ·rw[(a _).1,(b _).1];grind
  ·rw[(a _).2,(b _).2];grind
 ·unfold JH at h;rw[if_neg hk]at h;have e1:=(fj L.pos).2 ((L.zero _).2 h);unfold vz crsE bu at e1;dsimp only at e1;simp only[L.sub,L.mul]at e1;refine zW L.pos hk ?_;rw[(a _).1,(a _).2,(b _).1,(b _).2,(b _).1,(b _).2];exact e1
end
section
variable{l:Li}{a:As}{T:LL}(L:Lf (llq a.rs) T)
include L
theorem Lf.pin{bs':List Pq}{j:Jt}{i:Int}(hk:j.kind=0)(tie:(j.a=i/\jZ (bf a) bs' (llq a.rs).length j.b)\/(j.a≠i/\j.b=i/\jZ (bf a) bs' (llq a.rs).length j.a))
  (h:fA T (bs'.getD i.toNat bF) (ai l j i)=(aT T (aP l a j i).1,aT T (aP l a j i).2)):JH l T bs' j:=by
 have h1:=congrArg Prod.fst h;have h2:=congrArg Prod.snd h;dsimp only at h1 h2;rcases tie with⟨e,hs⟩ |⟨e,e2,hs⟩
 ·have b:=L.pt l hs j.on;unfold ai aP at h1 h2;simp only[if_pos e]at h1 h2;rw[qH]at h1 h2;refine vS L.pos hk ?_ ?_
  ·rw[b.1];unfold a8;rw[e];exact congrArg (am L.pos) h1
  ·rw[b.2];unfold a8;rw[e];exact congrArg (am L.pos) h2
 ·have b:=L.pt l hs j.point;unfold ai aP at h1 h2;simp only[if_neg e]at h1 h2;rw[qH]at h1 h2;refine vS L.pos hk ?_ ?_
  ·rw[b.1]
   conv=>rhs;unfold a8
   rw[e2];exact(congrArg (am L.pos) h1).symm
  ·rw[b.2]
   conv=>rhs;unfold a8
   rw[e2];exact(congrArg (am L.pos) h2).symm
end
theorem n6{bs:List Pq}{i k:Int}{p:Pq}(hi:0<=i)(hk:0<=k)(h:k≠i):(bs.set i.toNat p).getD k.toNat bF=bs.getD k.toNat bF:=by
 rw[getD_eq_getElem?_getD,getD_eq_getElem?_getD,List.getElem?_set_ne oz]
theorem o8{bs:List Pq}{i:Nat}{p:Pq}(h:i<bs.length):(bs.set i p).getD i bF=p:=by
 rw[getD_eq_getElem?_getD,List.getElem?_set_self h];rfl
theorem Jm(n:Nat):Nq n bF:=⟨zero_le _,zero_le _,zero_le _,zero_le _⟩
theorem CX{bs:List Pq}{n:Nat}(h:∀p∈bs,Nq n p)(i:Nat):Nq n (bs.getD i bF):=by
 rw[getD_eq_getElem?_getD];cases e:bs[i]? with
 |none=>exact Jm n
 |some p=>exact h p (mem_of_getElem? e)
structure GrpH(l:Li)(a:As)(g:Gr)(s:Sv):Prop where
  lf:Lf (llq a.rs) s.ts
  js:∀z∈g.jo,JH l s.ts (bK (bf a) g.bo s.ps) (l.jo.getD z.toNat default)
  cs:∀b∈g.bo,CH s.ts ((bK (bf a) g.bo s.ps).getD b.toNat bF)
theorem Lc{R:Type}[CommRing R]{C S a1 a2 b1 b2 x1 x2 P1 P2 o1 o2:R}(hcs:C*C+S*S=1)(g:x1*(P2-o2)-x2*(P1-o1)=(a1-b1)*b2-(a2-b2)*b1)
  (y1:C*(a1-b1)-S*(a2-b2)=x1) (y2:S*(a1-b1)+C*(a2-b2)=x2) :
  (o1+(C*a1-S*a2)-(o1+(C*b1-S*b2)))*(P2-(o2+(S*b1+C*b2)))-(o2+(S*a1+C*a2)-(o2+(S*b1+C*b2)))*(P1-(o1+(C*b1-S*b2)))=0:=by
 have e1:o1+(C*a1-S*a2)-(o1+(C*b1-S*b2))=x1:=by rw[<- y1];grind
 have e2:o2+(S*a1+C*a2)-(o2+(S*b1+C*b2))=x2:=by rw[<- y2];grind
 rw[e1,e2];have e3:x1*(P2-(o2+(S*b1+C*b2)))-x2*(P1-(o1+(C*b1-S*b2)))=(x1*(P2-o2)-x2*(P1-o1))-(x1*(S*b1+C*b2)-x2*(C*b1-S*b2)):=by clear hcs g y1 y2 e1 e2;grind
 have e4:x1*(S*b1+C*b2)-x2*(C*b1-S*b2)=((a1-b1)*b2-(a2-b2)*b1)*(C*C+S*S):=by rw[<- y1,<- y2];clear hcs g y1 y2 e1 e2 e3;grind
 rw[e3,e4,g,hcs];grind
section
variable{l:Li}{a:As}{r:Nat}(tw:Tw (llq a.rs) r)(hN:∀p∈bf a,Nq (llq a.rs).length p)
include tw hN
theorem uB{bs':List Pq}{b:Int}(h:bs'.getD b.toNat bF=(bf a).getD b.toNat bF):jZ (bf a) bs' (llq a.rs).length b:=by
 have:=tw;exact⟨h,CX hN _⟩
theorem NZ{u:Rat×Rat}(h:bW u u≠0):0<ak (qE (bW u u):Et (llq a.rs)):=by
 have:=tw;have:=hN;have h0:0<=bW u u:=Rat.add_nonneg (oe u.1) (oe u.2)
 have h1:0<bW u u:=by
  rcases Rat.le_iff_lt_or_eq.1 h0 with g |g
  ·exact g
  ·exact absurd g.symm h
 rw[BV,vX h1];decide
theorem Py{i k z0 z1 z2:Int}{j0 j1 j2:Jt}(ne:i≠k)(t0:TieO l 0 [i,k] z0 i j0)(t1:TieO l 0 [i,k] z1 k j1)(h2:l.jo[z2.toNat]?=some j2)(kd:j2.kind=0)
  (tie:(j2.a=i/\j2.b=k)\/(j2.b=i/\j2.a=k)) (hi:0<=i) (hk:0<=k) (hil:i.toNat<(bf a).length) (hkl:k.toNat<(bf a).length) (hn:∀j∈l.jo,0<=j.a/\0<=j.b)
  {s:Sv} (hs:s∈lh l a i k j0 j1 j2):GrpH l a ⟨1,[i,k],[z0,z1,z2],0⟩ s:=by
 unfold lh at hs;split at hs
 ·cases hs
 ·rename_i hz;obtain⟨w1,w2⟩:=ul (Bool.eq_false_iff.2 hz);split at hs
  ·cases hs
  ·rename_i hc;have hc:=Decidable.not_not.1 hc;have geo:=Jl tw (fun X hX=>yq tw.pos hX) hc (NZ tw hN w1);unfold kj at hs;obtain ⟨m,hm,rfl⟩:=List.mem_map.1 hs;obtain ⟨x,hx⟩:=aw (List.mem_range.1 hm);have G:=geo x (mem_of_getElem? hx);unfold kl;rw [aD hx];have e0:TieO l 0 [i,k] z0 i j0:=t0;obtain ⟨n0,n1⟩:=hn j0 (mem_of_getElem? t0.hj);obtain ⟨n2,n3⟩:=hn j1 (mem_of_getElem? t1.hj);have hne:i.toNat ≠ k.toNat:=by omega
   generalize hM:eY (aP l a j0 i) (aP l a j1 k) (qE (bT (ai l j2 i) (ai l j0 i))) (qE (bT (ai l j2 k) (ai l j1 k)))=M at *;obtain⟨B0,hB0⟩:∃B0,B0=mM M.ts x ⟨ai l j0 i,P2.l (aP l a j0 i),ai l j2 i⟩:=⟨_,rfl⟩
   obtain⟨B1,hB1⟩:∃B1,B1=mM M.ts x ⟨ai l j1 k,P2.l (aP l a j1 k),ai l j2 k⟩:=⟨_,rfl⟩
   have hbs:bK (bf a) [i,k] [B0,B1]=((bf a).set i.toNat B0).set k.toNat B1:=rfl;have g0:(bK (bf a) [i,k] [B0,B1]).getD i.toNat bF=B0:=by rw[hbs,n6 hk hi ne,o8 hil]
   have g1:(bK (bf a) [i,k] [B0,B1]).getD k.toNat bF=B1:=by rw[hbs,o8 (by rw[length_set];exact hkl)]
   have gn:∀b:Int,0<=b->b∉[i,k]->jZ (bf a) (bK (bf a) [i,k] [B0,B1]) (llq a.rs).length b:=fun b h0 hb=>uB tw hN (by
    rw[hbs,n6 hk h0 (fun e=>hb (by simp[e])),n6 hi h0 (fun e=>hb (by simp[e]))])
   have p0:fA M.ts B0 (ai l j0 i)=(aT M.ts (aP l a j0 i).1,aT M.ts (aP l a j0 i).2):=by rw[hB0];exact rV
   have p1:fA M.ts B1 (ai l j1 k)=(aT M.ts (aP l a j1 k).1,aT M.ts (aP l a j1 k).2):=by rw[hB1];exact rV
   have q0:fA M.ts B0 (ai l j2 i)=(dE M.ts x.1,dE M.ts x.2):=by
    rw[hB0];refine(zP w1).trans ?_;unfold lX j7;refine Prod.ext ?_ ?_
    ·dsimp only;grind
    ·dsimp only;grind
   have q1:fA M.ts B1 (ai l j2 k)=(dE M.ts x.1,dE M.ts x.2):=by
    rw[hB1];refine(zP w2).trans ?_;unfold lX j7;refine Prod.ext ?_ ?_
    ·dsimp only;grind
    ·dsimp only;grind
   refine⟨G.lf,?_,?_⟩
   ·intro z hz;show JH l M.ts (bK (bf a) [i,k] [_,_]) _;rw[<- hB0,<- hB1];rcases List.mem_cons.1 hz with rfl |hz
    ·rw [aD t0.hj];refine G.lf.pin t0.kd (i:=i) ?_ (by rw [g0]; exact p0);rcases t0.tie with ⟨e,hb⟩ | ⟨e,hb⟩
     ·exact .inl ⟨e,gn _ n1 hb⟩
     ·exact .inr ⟨fun e2=>hb (by simp[e2]),e,gn _ n0 hb⟩
    ·rcases List.mem_cons.1 hz with rfl |hz
     ·rw [aD t1.hj];refine G.lf.pin t1.kd (i:=k) ?_ (by rw [g1]; exact p1);rcases t1.tie with ⟨e,hb⟩ | ⟨e,hb⟩
      ·exact .inl ⟨e,gn _ n3 hb⟩
      ·exact .inr ⟨fun e2=>hb (by simp[e2]),e,gn _ n2 hb⟩
     ·rw[List.mem_singleton.1 hz,aD h2]
      have key:a8 l M.ts (bK (bf a) [i,k] [B0,B1]) j2.a j2.point=a8 l M.ts (bK (bf a) [i,k] [B0,B1]) j2.b j2.on:=by
       unfold a8;rcases tie with⟨e,e'⟩ |⟨e,e'⟩
       ·have c0 : ai l j2 i = a5 l i j2.point := by unfold ai; rw [if_pos e]
        have c1:ai l j2 k=a5 l k j2.on:=by unfold ai;rw[if_neg oz]
        rw[e,e',g0,g1,<- c0,<- c1,q0,q1]
       ·have c0 : ai l j2 k = a5 l k j2.point := by unfold ai; rw [if_pos e']
        have c1:ai l j2 i=a5 l i j2.on:=by unfold ai;rw[if_neg oz]
        rw[e,e',g0,g1,<- c0,<- c1,q0,q1]
      exact vS G.lf.pos kd (by rw[key]) (by rw[key])
   ·intro b hb;show CH M.ts ((bK (bf a) [i,k] [_,_]).getD b.toNat bF);rw[<- hB0,<- hB1];rcases List.mem_cons.1 hb with rfl |hb
    ·rw[g0,hB0];refine wd G.lf.pos w1 ?_;have:=G.c1;rw[G.lf.q]at this;exact this
    ·rw[List.mem_singleton.1 hb,g1,hB1];refine wd G.lf.pos w2 ?_;have:=G.c2;rw[G.lf.q]at this;exact this
theorem U2{i z0 z1:Int}{j0 j:Jt}(t0:TieO l 0 [i] z0 i j0)(t1:TieO l 1 [i] z1 i j)(ha:j.a=i)(hi:0<=i)(hil:i.toNat<(bf a).length)(hn:∀j∈l.jo,0<=j.a/\0<=j.b)
  {s:Sv} (hs:s∈kP l a i j0 j):GrpH l a ⟨2,[i],[z0,z1],0⟩ s:=by
 unfold kP at hs;split at hs
 ·cases hs
 ·rename_i hz;have w1:=vQ (Bool.eq_false_iff.2 hz);split at hs
  ·cases hs
  ·rename_i hc;have hc:=Decidable.not_not.1 hc;have geo:=L5 tw (fun X hX=>yq tw.pos hX) (c:=aP l a j0 i) (z:=qE (bT (a5 l i j.point) (ai l j0 i))) hc;unfold kj at hs;obtain⟨m,hm,rfl⟩:=List.mem_map.1 hs;obtain⟨x,hx⟩:=aw (List.mem_range.1 hm);have G:=geo x (mem_of_getElem? hx);have L:=G.lf;unfold kl;rw[aD hx];obtain⟨n0,n1⟩:=hn j0 (mem_of_getElem? t0.hj);obtain⟨n2,n3⟩:=hn j (mem_of_getElem? t1.hj);generalize hM:fa (bJ l a j.b j.on) (bJ l a j.b j.to) (aP l a j0 i) (qE (bT (a5 l i j.point) (ai l j0 i)))=M at *;obtain⟨B0,hB0⟩:∃B0,B0=mM M.ts x ⟨ai l j0 i,P2.l (aP l a j0 i),a5 l i j.point⟩:=⟨_,rfl⟩
   have hbs:bK (bf a) [i] [B0]=(bf a).set i.toNat B0:=rfl;have g0:(bK (bf a) [i] [B0]).getD i.toNat bF=B0:=by rw[hbs,o8 hil]
   have gn:∀b:Int,0<=b->b∉[i]->jZ (bf a) (bK (bf a) [i] [B0]) (llq a.rs).length b:=fun b h0 hb=>uB tw hN (by
    rw[hbs,n6 hi h0 (fun e=>hb (by simp[e]))])
   have p0:fA M.ts B0 (ai l j0 i)=(aT M.ts (aP l a j0 i).1,aT M.ts (aP l a j0 i).2):=by rw[hB0];exact rV
   have q0:fA M.ts B0 (a5 l i j.point)=(dE M.ts x.1,dE M.ts x.2):=by
    rw[hB0];refine(zP w1).trans ?_;unfold lX j7;refine Prod.ext ?_ ?_
    ·dsimp only;grind
    ·dsimp only;grind
   have hjb:jZ (bf a) (bK (bf a) [i] [B0]) (llq a.rs).length j.b:=by
    rcases t1.tie with⟨e,hb⟩ |⟨e,hb⟩
    ·exact gn _ n3 hb
    ·exact absurd (by simp[ha]) hb
   refine⟨G.lf,?_,?_⟩
   ·intro z hz;show JH l M.ts (bK (bf a) [i] [_]) _;rw[<- hB0];rcases List.mem_cons.1 hz with rfl |hz
    ·rw [aD t0.hj];refine L.pin t0.kd (i:=i) ?_ (by rw [g0]; exact p0);rcases t0.tie with ⟨e,hb⟩ | ⟨e,hb⟩
     ·exact .inl ⟨e,gn _ n1 hb⟩
     ·exact .inr ⟨fun e2=>hb (by simp[e2]),e,gn _ n0 hb⟩
    ·rw [List.mem_singleton.1 hz, aD t1.hj];refine zW L.pos (by rw [t1.kd]; decide) ?_;have ec:=(fj L.pos).2 G.l;rw [cS,cG,cG,cS,cS,cS,cS,qH,qH] at ec;have on:=L.pt l hjb j.on;have to:=L.pt l hjb j.to
     have pp:a8 l M.ts (bK (bf a) [i] [B0]) j.a j.point=(dE M.ts x.1,dE M.ts x.2):=by
      unfold a8;rw[ha,g0,q0]
     rw[pp,on.1,on.2,to.1,to.2];exact ec
   ·intro b hb;show CH M.ts ((bK (bf a) [i] [_]).getD b.toNat bF);rw[<- hB0,List.mem_singleton.1 hb,g0,hB0];refine wd L.pos w1 ?_;have:=G.c;rw[L.q]at this;exact this
theorem yH{i z0 z1:Int}{j0 j:Jt}(t0:TieO l 0 [i] z0 i j0)(t1:TieO l 1 [i] z1 i j)(ha:j.a≠i)(hi:0<=i)(hil:i.toNat<(bf a).length)(hn:∀j∈l.jo,0<=j.a/\0<=j.b)(hv:bW (dh l i j) (dh l i j)≠0)
  (hd:ak (cJ l a i j0 j)≠0) {T:LL} (L:Lf (llq a.rs) T) {q:List Rat} (hq:am L.pos (dE T q*dE T q)=am L.pos (aT T (bg l a i j0 j))) {n:Int} :
  GrpH l a ⟨3,[i],[z0,z1],0⟩ ⟨T,[qJ T (eg l a i j0 j) q],n⟩:=by
 obtain⟨n0,n1⟩:=hn j0 (mem_of_getElem? t0.hj);obtain⟨n2,n3⟩:=hn j (mem_of_getElem? t1.hj)
 obtain⟨tb,tn⟩:j.b=i/\j.a∉[i]:=by
  rcases t1.tie with⟨e,hb⟩ |h
  ·exact absurd e ha
  ·exact h
 obtain⟨w,hw⟩:∃w:P2 T,w=nQ T q (eg l a i j0 j).h (eg l a i j0 j).d (eg l a i j0 j).w:=⟨_,rfl⟩
 obtain⟨o,ho⟩:∃o:P2 T,o=(aT T (aP l a j0 i).1,aT T (aP l a j0 i).2):=⟨_,rfl⟩
 obtain⟨B0,hB0⟩:∃B0,B0=gU (dh l i j) w (ai l j0 i) o:=⟨_,rfl⟩
 have e0:qJ T (eg l a i j0 j) q=B0:=by rw[hB0,hw,ho];rfl
 rw[e0];have hbs:bK (bf a) [i] [B0]=(bf a).set i.toNat B0:=rfl;have g0:(bK (bf a) [i] [B0]).getD i.toNat bF=B0:=by rw[hbs,o8 hil]
 have gn:∀b:Int,0<=b->b∉[i]->jZ (bf a) (bK (bf a) [i] [B0]) (llq a.rs).length b:=fun b h0 hb=>uB tw hN (by
  rw[hbs,n6 hi h0 (fun e=>hb (by simp[e]))])
 have hD:am L.pos (aT T (cJ l a i j0 j))=am L.pos (aT T (dt l a i j0 j).1)*am L.pos (aT T (dt l a i j0 j).1)+am L.pos (aT T (dt l a i j0 j).2)*am L.pos (aT T (dt l a i j0 j).2):=by
  rw[<- L.mul,<- L.mul,<- L.add];rfl
 have hI:am L.pos (iE (aT T (cJ l a i j0 j)))*am L.pos (aT T (cJ l a i j0 j))=1:=xZ L.pos (fun e=>hd ((L.zero _).1 e))
 have hX:am L.pos (dE T q)*am L.pos (dE T q)=am L.pos (qE (jE l i j))*am L.pos (aT T (cJ l a i j0 j))-am L.pos (qE (cP l i j0 j))*am L.pos (qE (cP l i j0 j)):=by
  rw[<- cG,hq];unfold bg;rw[L.sub,L.mul,L.mul,L.q,L.q]
 have eh:dE T (eg l a i j0 j).h=qE (cP l i j0 j):=jK _ _;have x1:w.1=(dE T q*aT T (dt l a i j0 j).1-qE (cP l i j0 j)*-aT T (dt l a i j0 j).2)*iE (aT T (cJ l a i j0 j)):=by rw[hw,<- eh];rfl
 have x2:w.2=(dE T q*aT T (dt l a i j0 j).2-qE (cP l i j0 j)*aT T (dt l a i j0 j).1)*iE (aT T (cJ l a i j0 j)):=by rw[hw,<- eh];rfl
 have G:=M6 hD hI hX (w1:=am L.pos w.1) (w2:=am L.pos w.2) (by rw[x1,cG,cS,cG,cG,Lr]) (by rw[x2,cG,cS,cG,cG])
 have hc:CH T B0:=by
  rw[hB0];refine wd L.pos hv ?_;refine(kU L.pos (x:=w.1*w.1+w.2*w.2) (y:=qE (bW (dh l i j) (dh l i j)))).1 ?_;rw[lD,cG,cG,G.1];rfl
 refine⟨L,?_,?_⟩
 ·intro z hz;show JH l T (bK (bf a) [i] [B0]) _;rcases List.mem_cons.1 hz with rfl |hz
  ·rw [aD t0.hj];refine L.pin t0.kd (i:=i) ?_ (by rw [g0,hB0,rV,ho]);rcases t0.tie with ⟨e,hb⟩ | ⟨e,hb⟩
   ·exact .inl ⟨e,gn _ n1 hb⟩
   ·exact .inr ⟨fun e2=>hb (by simp[e2]),e,gn _ n0 hb⟩
  ·rw [List.mem_singleton.1 hz, aD t1.hj];refine zW L.pos (by rw [t1.kd]; decide) ?_;have pp:=L.pt l (gn _ n2 tn) j.point;have eon:a8 l T (bK (bf a) [i] [B0]) j.b j.on = fA T B0 (a5 l i j.on):=by unfold a8; rw [tb,g0]
   have eto:a8 l T (bK (bf a) [i] [B0]) j.b j.to=fA T B0 (a5 l i j.to):=by unfold a8;rw[tb,g0]
   have W1:am L.pos (aT T (dt l a i j0 j).1)=am L.pos (aT T (a8 l (llq a.rs) (bf a) j.a j.point).1)-am L.pos o.1:=by
    rw[ho,<- L.sub,<- qH];rfl
   have W2:am L.pos (aT T (dt l a i j0 j).2)=am L.pos (aT T (a8 l (llq a.rs) (bf a) j.a j.point).2)-am L.pos o.2:=by
    rw[ho,<- L.sub,<- qH];rfl
   have g2:=G.2;rw[W1,W2]at g2;rw[pp.1,pp.2,eon,eto,hB0,wb,wb];have gg:=Er (w:=w) hv
   have hcs:am L.pos (dH (dh l i j) w)*am L.pos (dH (dh l i j) w)+am L.pos (dk (dh l i j) w)*am L.pos (dk (dh l i j) w)=1:=by
    have h9:=(fj L.pos).2 hc;rw[hB0,wt,u5,cS,lD,cG,cG,Qa]at h9;grind
   have v1:(qE (dh l i j).1:Et T)=qE ((a5 l i j.to).1-(ai l j0 i).1)-qE ((a5 l i j.on).1-(ai l j0 i).1):=by rw[<- rv];congr 1;show(a5 l i j.to).1-(a5 l i j.on).1=_;grind
   have v2:(qE (dh l i j).2:Et T)=qE ((a5 l i j.to).2-(ai l j0 i).2)-qE ((a5 l i j.on).2-(ai l j0 i).2):=by rw[<- rv];congr 1;show(a5 l i j.to).2-(a5 l i j.on).2=_;grind
   have hh:(qE (cP l i j0 j):Et T)=qE (dh l i j).1*qE ((a5 l i j.on).2-(ai l j0 i).2)-qE (dh l i j).2*qE ((a5 l i j.on).1-(ai l j0 i).1):=by
    rw[<- mf,<- mf,<- rv];rfl
   have y1:=congrArg (am L.pos) gg.1;have y2:=congrArg (am L.pos) gg.2;rw[hh,cS,cG,cG]at g2;rw[v1,v2]at g2 y1 y2;simp only[lD,cS,cG]at g2 y1 y2 ⊢
   revert hcs g2 y1 y2
   generalize am L.pos (qE ((a5 l i j.to).1-(ai l j0 i).1):Et T)=a1;generalize am L.pos (qE ((a5 l i j.to).2-(ai l j0 i).2):Et T)=a2;generalize am L.pos (qE ((a5 l i j.on).1-(ai l j0 i).1):Et T)=b1;generalize am L.pos (qE ((a5 l i j.on).2-(ai l j0 i).2):Et T)=b2;generalize am L.pos (dH (dh l i j) w)=C;generalize am L.pos (dk (dh l i j) w)=S;generalize am L.pos (aT T (a8 l (llq a.rs) (bf a) j.a j.point).1)=P1;generalize am L.pos (aT T (a8 l (llq a.rs) (bf a) j.a j.point).2)=P2;generalize am L.pos o.1=o1;generalize am L.pos o.2=o2;generalize am L.pos w.1=x1;generalize am L.pos w.2=x2;intro hcs g2 y1 y2;exact Lc hcs g2 y1 y2
 ·intro b hb;rw[List.mem_singleton.1 hb];show CH T ((bK (bf a) [i] [B0]).getD i.toNat bF);rw[g0];exact hc
end
end Go.Lw
