/- CertifyRigid: for any linkage, any turns and any three places the law returns true and leaves its arguments as they were. No other condition. Part 7 of 8: what the later parts need -/
import Derived.Test.YtlilpljpajeafaaGreatVf
set_option linter.unusedVariables false
open List (mem_of_getElem? mem_cons_of_mem mem_append map_cons mem_cons all_cons length_cons foldl_cons mem_cons_self length_append length_nil getD_eq_getElem?_getD all_eq_true getElem?_take getElem?_map append_assoc getElem?_eq_getElem nil_append getElem?_replicate append_nil map_append length_take take_of_length_le drop_zero take_length map_nil not_mem_nil length_map map_map map_replicate map_set length_set)
open Nat (eq_of_beq_eq_true le_refl lt_or_ge le_trans mul_le_mul_right zero_le pow_add lt_of_le_of_lt)
open Option (map_eq_some_iff)
open Bool (and_eq_true or_eq_true)
open Int (toNat_natCast)
open Go.Proofs.Tryz
namespace Go.Lw
open Go.Proofs
theorem QR:Sub (.agg [bl (rt ((1:Int):Rat)).neg,ws (rt ((1:Int):Rat)).num,ws (rt ((1:Int):Rat)).den,.v (.bool false),nS,nS]) (qP (((1:Int):Rat),0)) :=
 Sub.agg (.cons (.refl _) (.cons (.refl _) (.cons (.refl _) (.cons (.refl _) (.cons (Sub.nil _ _ _) (.cons (Sub.nil _ _ _) .nil)))))) rfl
theorem tO{ts:LL}(q:Rat):sX (qE q:Et ts)=sh 0 (q:Rat):=yg _ _
def kT(l:Li)(a:As)(i:Int)(j0:Jt)(x:Tn):Pq:=gX (((1:Int):Rat),0) ((qE (du x.half x.t.q),qE (dp x.half x.t.q)):P2 (llq a.rs)) (ai l j0 i) (aO l a j0 i)
def n7(l:Li)(a:As)(i:Int)(j0:Jt)(x:Tn):List AV×Nat:=if x.err≠0 then([],x.err)else([(⟨llq a.rs,[kT l a i j0 x],1⟩:Sv).av],0)
theorem Vi{l:Li}{g:Gr}{a:As}{x:Tn}(hx:x.t.ok)(hq:Qb 1000 x.t.q)(he:x.err≠0) :
  Con prog 62 [.ptr 1000 0,x.av] [(1000,some (cB l g a))] (.tup [.lst 3 [],bj x.err]) [(1000,some (cB l g a))]:=by
 refine gF func62 (fun k z h=>br h) ?_;refine gc (um x hx hq oz) ?_;refine gC (fun t20=>?_) (fun t20=>?_) (st2:=(77777,0))
 ·refine gR ?_;exact(aq.keep (a8 rfl)).sub (Sub.tup (.cons (.nil _ _ _) (.cons (.refl _) .nil)))
 exact absurd (cP t20) he
theorem IB:Sm 3000 (((1:Int):Rat),(0:Rat)):=⟨Qb.one.mono oz,Qb.mono (e:=1) (q:=0) ⟨by decide,by decide⟩ oz⟩
theorem DB{E:Nat}(hE:E<=20000000000){l:Li}{a:As}(D:DyW l a)(h3:(llq a.rs).length<=2){body pt:Int}(h1:bq body l.bo.length=true)(h2:bq pt (cI l body).length=true)(hb:Pd E a body) :
  Nm (llq a.rs).length 62500000000 (sX (bG l a body pt).1)/\Nm (llq a.rs).length 62500000000 (sX (bG l a body pt).2):=by
 obtain⟨n,k,bd,m,b,hp⟩:=wc D.hl D.li D.al D.hc h1 h2 hb;obtain⟨tw,_⟩:=dh D.al.tr D.hc;have kb:=Dk h3;have qx:Qb 1000 m.x.q:=by rw[hp.mp.ex,bP];exact hp.mp.sm.x
 have qy:Qb 1000 m.y.q:=by rw[hp.mp.ey,bP];exact hp.mp.sm.y
 have h:=yC tw hp.ok qx qy;unfold bG;rw[hp.eq];exact⟨h.1.mono oz,h.2.mono oz⟩
theorem Kq{E:Nat}(hE:E<=20000000000){l:Li}{a:As}(D:DyW l a)(h3:(llq a.rs).length<=2){i:Nat}{j:Jt}(hj:l.jo[i]?=some j){b:Int}(h:PinP E l a j b) :
  Nm (llq a.rs).length 62500000000 (sX (aO l a j b).1)/\Nm (llq a.rs).length 62500000000 (sX (aO l a j b).2):=by
 obtain⟨i1,i2,i3,i4,_⟩:=d7 D.li hj;unfold aO;rcases h.tie with⟨e,hb⟩ |⟨e,e2,hb⟩
 ·rw[if_pos e];exact DB hE D h3 i2 i4 hb
 ·rw[if_neg e];exact DB hE D h3 i1 i3 hb
theorem ER{E:Nat}(hE:E<=20000000000){l:Li}{a:As}(D:DyW l a)(h3:(llq a.rs).length<=2){n:Nat}{i:Int}{j0:Jt}(h0:l.jo[n]?=some j0)(p0:PinP E l a j0 i){x:Tn}(hq:Qb 1000 x.t.q) :
  BdP (llq a.rs) (((1:Int):Rat),(0:Rat)) ((qE (du x.half x.t.q),qE (dp x.half x.t.q)):P2 (llq a.rs)) (ai l j0 i) (aO l a j0 i):=by
 obtain⟨tw,etw⟩:=dh D.al.tr D.hc;have qc:=oY (half:=x.half) hq;have qs:=pb (half:=x.half) hq;have hs0:Sm 1000 (ai l j0 i):=iC D.hl D.li h0 p0.or;obtain⟨y1,y2⟩:=Kq hE D h3 h0 p0
 exact Dx (F := 80000000000) (W := 10000) (u := (((1 : Int) : Rat), (0 : Rat))) (p := ai l j0 i) (w := ((qE (du x.half x.t.q), qE (dp x.half x.t.q)) : P2 (llq a.rs))) (o := aO l a j0 i) tw h3 (Dk h3) IB (hs0.mono oz) (by decide +kernel)
  (by show Nm _ _ (sX (qE (du x.half x.t.q):Et (llq a.rs)));rw[tO];exact(oo tw.five qc).mono oz) (by show Nm _ _ (sX (qE (dp x.half x.t.q):Et (llq a.rs)));rw[tO];exact(oo tw.five qs).mono oz) y1 y2 oz oz oz
theorem Oi{E:Nat}(hE:E<=20000000000){l:Li}{a:As}(D:DyW l a)(h3:(llq a.rs).length<=2){i z0 d:Int}{j0:Jt}(hg:GrOk l ⟨0,[i],[z0],d⟩)(h0:l.jo[z0.toNat]?=some j0)(p0:PinP E l a j0 i){x:Tn}(hx:x.t.ok)(hq:Qb 1000 x.t.q)(he:x.err=0) :
  Con prog 62 [.ptr 1000 0,x.av] [(1000,some (cB l ⟨0,[i],[z0],d⟩ a))] (.tup [.lst 3 [(⟨llq a.rs,[kT l a i j0 x],1⟩:Sv).av],.v .nilIface]) [(1000,some (cB l ⟨0,[i],[z0],d⟩ a))]:=by
 obtain⟨tw,etw⟩:=dh D.al.tr D.hc;have hc:=um x hx hq oz;rw[if_pos he,he]at hc;have hs:=Br x hx hq oz;rw[if_pos he,he]at hs;have qc:=oY (half:=x.half) hq;have qs:=pb (half:=x.half) hq;have hs0:Sm 1000 (ai l j0 i):=iC D.hl D.li h0 p0.or;have hb:=xB IB (hs0.mono oz) (ER hE D h3 h0 p0 hq)
 have ew:di (P2.l ((qE (du x.half x.t.q),qE (dp x.half x.t.q)):P2 (llq a.rs)))=aG (sh 0 (du x.half x.t.q:Rat)) (sh 0 (dp x.half x.t.q:Rat)):=by
  show aG (sX (qE (du x.half x.t.q):Et (llq a.rs))) (sX (qE (dp x.half x.t.q):Et (llq a.rs)))=_;rw[tO,tO]
 rw[ew]at hb;have hcl:=BP tw;have hcl2:FP 144 [cZ a.rs] (aL (llq a.rs)):=by rw[etw];exact hcl
 refine gF func62 (fun k z h=>br h) ?_;refine gc hc ?_;refine gC (fun t20=>?_) (fun t20=>?_) (st1:=(3,0));cases t20;refine gc hs ?_;refine gC (fun t28=>?_) (fun t28=>?_) (st1:=(6,0));cases t28;refine gi rfl ?_;refine gt (aR (rY hE D.hl D.li _ hg D.al D.hc (k:=0) rfl h0 h3 p0) (.cons (.tmp rfl) (.cons (.const _) (cR rfl))) rfl rfl rfl) ?_;refine gD ?_ (9,0);refine gW (Wk.of (sl:=[(0,some (.ptr 1000 0)),(6,some (.ptr 6 0)),(8,some (.ptr 8 0)),(9,some (.ptr 9 0)),(10,some (.ptr 10 0)),(11,some (.ptr 52 0))]) (hp:=[(1000,some (cB l ⟨0,[i],[z0],d⟩ a)),(6,some (.box [bl (rt (du x.half x.t.q)).neg,ws (rt (du x.half x.t.q)).num,ws (rt (du x.half x.t.q)).den])),(8,some (.box [bl (rt (dp x.half x.t.q)).neg,ws (rt (dp x.half x.t.q)).num,ws (rt (dp x.half x.t.q)).den])),(9,some (.box (qC (ai l j0 i)))),(10,some (.box [nA (sX (aO l a j0 i).1),nA (sX (aO l a j0 i).2)])),(52,some (a5 (llq a.rs)))]) aV (.k (.k (.k (.k (.k (.cons rfl (BlkSub.bL (.cons (.of (l0 etw)) (.cons (.refl _) .nil)) rfl) .nil))))))) ?_
 refine gc (lh 1 oz) ?_;refine gc (ud (qc.qs oz) (qs.qs oz)) ?_;refine gt (aR (Con.rB 52 rfl rfl rfl rfl (Con.sA (.cons (.refl _) (.cons QR (.cons (.refl _) (.cons (.refl _) (.cons (.refl _) .nil))))) hb)) (.cons (.tmp rfl) (.cons (.tmp rfl) (aA rfl rfl rfl))) rfl rfl rfl) ?_;refine gD ?_;refine gC (fun t67=>?_) (fun t67=>?_) (st1:=(12,0));cases t67;refine gc hcl2 ?_;refine gD ?_;refine gR ?_;exact aq.keep (a8 rfl)
theorem Up{E:Nat}(hE:E<=20000000000){l:Li}{a:As}(D:DyW l a)(h3:(llq a.rs).length<=2){i z0 d:Int}{j0:Jt}(hg:GrOk l ⟨0,[i],[z0],d⟩)(h0:l.jo[z0.toNat]?=some j0)(p0:PinP E l a j0 i){x:Tn}(hx:x.t.ok)(hq:Qb 1000 x.t.q) :
  Con prog 62 [.ptr 1000 0,x.av] [(1000,some (cB l ⟨0,[i],[z0],d⟩ a))] (pV (n7 l a i j0 x)) [(1000,some (cB l ⟨0,[i],[z0],d⟩ a))]:=by
 by_cases he:x.err=0
 ·have h:=Oi hE D h3 hg h0 p0 hx hq he;unfold n7;rw[if_neg oz];exact h
 ·have h:=Vi (l:=l) (g:=⟨0,[i],[z0],d⟩) (a:=a) hx hq he;unfold n7;rw[if_pos he];exact h
def jv(l:Li)(a:As)(g:Gr)(x:Tn):List AV×Nat :=
  if g.kind=0 then n7 l a (ff g 0) (dF l g 0) x
  else if g.kind=1 then nD l a (ff g 0) (ff g 1) (dF l g 0) (dF l g 1) (dF l g 2)
  else if g.kind=2 then mx l a (ff g 0) (dF l g 0) (dF l g 1)
  else kM l a (ff g 0) (dF l g 0) (dF l g 1)
theorem xS{E:Nat}{l:Li}{k:Int}{a:As}{own:Bool}{n:Nat}{g:Gr}(h:DyOk E l k a own n g)(hk:g.kind=0):∃i z0 d j0,g=⟨0,[i],[z0],d⟩/\l.jo[z0.toNat]?=some j0/\PinP E l a j0 i:=by
 have hd:=h.dy;cases hd with
 |rrr _ _ _ _ _ _ _=>exact absurd hk (by simp)
 |pr _ _ _=>exact absurd hk (by simp)
 |rp _ _ _=>exact absurd hk (by simp)
 | @drv b z d j x t d0 hd hb=>exact⟨b,z,d,j,rfl,t.hj,h.pin rfl t (by simp) (by simp)⟩
theorem P5{l:Li}{k:Int}{x:Tn}{a:As}{E:Nat}(hop:FP 61 [l.av,i64 k,a.av,bl false] (.tup [.v (.pointer none),bj E]))(h0:E≠0) :
  FP 17 [l.av,i64 k,x.av,a.av] (.tup [.lst 3 [],bj E]):=by
 refine ah func17 ?_;refine gc hop ?_;refine gC (fun t20=>?_) (fun t20=>?_) (st2:=(77777,0))
 ·refine gR ?_;exact eH (Sub.tup (.cons (.nil _ _ _) (.cons (.refl _) .nil)))
 exact absurd (cP t20) h0
theorem Vg{E:Nat}(hE:E<=20000000000){l:Li}{k:Int}{a:As}{n:Nat}{g:Gr}{x:Tn}(hx:x.t.ok)(hq:Qb 1000 x.t.q)(h3:(llq a.rs).length<=2)(hR:g.kind≠0->E=3900000/\DyS a)(hop:Con prog 61 [l.av,i64 k,a.av,bl false] [] (.tup [.ptr 900 0,.v .nilIface]) [(900,some (cB l g a))])(D:DyW l a)(ok:DyOk E l k a false n g) :
  FP 17 [l.av,i64 k,x.av,a.av] (pV (jv l a g x)):=by
 have hgo:=ok.ok;refine ah func17 ?_;refine gt (ay hop (.cons (.tmp rfl) (.cons (.tmp rfl) (.cons (.tmp rfl) (.cons (.const _) .nil)))) az rfl rfl) ?_ (2,0);refine gW (Wk.o (sl:=[(6,some (.ptr 6 0)),(10,some (.ptr 900 0)),(11,some (.v .nilIface))]) (hp:=[(6,some (.box x.av.cells)),(900,some (cB l g a))])) ?_;refine gC (fun t20=>?_) (fun t20=>?_) (st1:=(3,0));cases t20;refine gC (fun t27=>?_) (fun t27=>?_)
 ·have hk:g.kind = 0:=da t27;obtain ⟨i,z0,d,j0,e,hj0,p0⟩:=xS ok hk;have eR:jv l a g x = n7 l a i j0 x:=by unfold jv; rw [if_pos hk,e]; show n7 l a i (l.jo.getD z0.toNat default) x = _; rw [aC hj0]
  subst e;refine gt (aR (Con.rB 900 rfl rfl rfl rfl (Up hE D h3 hgo hj0 p0 hx hq)) (bm rfl rfl) rfl rfl rfl) ?_;refine gR ?_;exact eH (Sub.of (by rw[eR];rfl))
 have hk0:g.kind≠0:=dZ t27;obtain⟨hE9,S⟩:=hR hk0;subst hE9;have D:DyR l a:=⟨D,S⟩
 have hn:=S.one D.hc;refine gC (fun t34=>?_) (fun t34=>?_)
 ·have hk:g.kind = 1:=da t34;obtain ⟨i,k2,z0,z1,z2,j0,j1,j2,P⟩:=ok.rrr hk;obtain ⟨e0,e1,e2,b0,b1,_⟩:=P.at;have eR:jv l a g x = nD l a i k2 j0 j1 j2:=by unfold jv; rw [if_neg hk0,if_pos hk,e0,e1,e2,b0,b1]
  have e:=P.eq;subst e;refine gt (aR (Con.rB 900 rfl rfl rfl rfl (OY D hn hgo P)) (cR rfl) rfl rfl rfl) ?_;refine gR ?_;exact eH (Sub.of (by rw[eR];rfl))
 have hk1:g.kind≠1:=dZ t34;refine gC (fun t40=>?_) (fun t40=>?_)
 ·have hk:g.kind = 2:=da t40;obtain ⟨i,z0,z1,j0,j,P,ha,hb⟩:=ok.pr hk;obtain ⟨e0,e1,b0,_⟩:=P.at;have eR:jv l a g x = mx l a i j0 j:=by unfold jv; rw [if_neg hk0,if_neg hk1,if_pos hk,e0,e1,b0]
  have e:=P.eq;subst e;refine gt (aR (Con.rB 900 rfl rfl rfl rfl (Vq D hn hgo P ha hb)) (cR rfl) rfl rfl rfl) ?_;refine gR ?_;exact eH (Sub.of (by rw[eR];rfl))
 have hk2:g.kind≠2:=dZ t40;obtain⟨i,z0,z1,j0,j,P,_,hj,hb⟩:=ok.rp hk0 hk1 hk2;obtain⟨e0,e1,b0,_⟩:=P.at;have eR:jv l a g x=kM l a i j0 j:=by unfold jv;rw[if_neg hk0,if_neg hk1,if_neg hk2,e0,e1,b0]
 have e:=P.eq;subst e;refine gt (aR (Con.rB 900 rfl rfl rfl rfl (RN D hn hgo P hj hb)) (cR rfl) rfl rfl rfl) ?_;refine gR ?_;exact eH (Sub.of (by rw[eR];rfl))
def wj(l:Li)(k:Int)(x:Tn)(a:As):List AV×Nat:=if fE l k a false=0 then jv l a (jk l k) x else([],fE l k a false)
theorem TD(l:Li)(hl:l.ok)(k:Int){x:Tn}(hx:x.t.ok)(hq:Qb 1000 x.t.q)(a:As)(al:AB a)(h3:bb a.rs=0->(llq a.rs).length<=2){E:Nat}(hE:E<=20000000000)(hs:sf E l k a false)(hR:fE l k a false=0->(jk l k).kind≠0->E=3900000/\DyS a) :
  FP 17 [l.av,i64 k,x.av,a.av] (pV (wj l k x a)):=by
 have hop:=Pu l hl k a al false;unfold wj
 by_cases h0:fE l k a false=0
 ·obtain ⟨n, g, ok⟩:=In hs h0;have hgA:jk l k = g:=by unfold jk; rw [ok.hk,toNat_natCast]; exact aC ok.hg
  have hR:=hR h0;rw[hgA]at hR;rw[h0,hgA]at hop;rw[if_pos h0,hgA];exact Vg hE hx hq (h3 ok.chk) hR hop ⟨hl,ok.li,al,ok.chk⟩ ok
 ·rw[lc h0,pN h0]at hop;rw[if_neg h0];exact P5 hop h0
theorem AL.sma{a:As}(al:AL a)(l:Li)(k:Int)(own:Bool):sf 3900000 l k a own:=fun b _ _ p hp x hx=>(al.nr p (mem_of_getElem? hp) x hx).mono oz
structure SvOk(s:Sv):Prop where
  tw:∃r,Tw s.ts r
  two:s.ts.length<=2
  ps:∀p∈s.ps,Pq.ok s.ts.length 80000000000 p
  ln:s.ps.length<=2
theorem vL(ts:LL)(x:T ts.length):fK ts x x=true:=by
 unfold fK subT;rw[T.add_neg,T.sgn_zero];rfl
structure SolP(S:List Sv)(kd:Int)(n b:Nat):Prop where
  two:S.length<=2
  ok:∀s∈S,SvOk s
  md:∀(i:Nat)(s:Sv),S[i]?=some s->s.mode=(if kd=0 then 1 else if S.length=2 then 1-2*(i:Int)else 0)/\s.ts.length=n+(if S.length=2 then 1 else 0)/\s.ps.length=b
theorem oS(kd:Int)(n b:Nat):SolP [] kd n b:=⟨by simp,by simp,by simp⟩
theorem wG(f:Nat->Sv)(n:Nat):((List.range n).map fun i=>(f i).av)=((List.range n).map f).map Sv.av:=by rw[map_map];rfl
theorem PM{ts:LL}(p q:P2 ts)(z z2:Et ts)(h0:fR p q z z2=0):(eV p q z z2).ts.length=ts.length+(if(eV p q z z2).ps.length=2 then 1 else 0):=by
 unfold fR lZ at h0;unfold eV lU;split
 ·rename_i hd;rw[if_pos hd]at h0;split
  ·simp
  ·rename_i hz;split
   ·rename_i hp;rw[if_pos ⟨Decidable.not_not.1 hz,hp⟩]at h0;cases h0
   ·simp
 ·split
  ·simp
  ·split
   ·simp
   ·simp[dO]
theorem TS{ts:LL}(p q o:P2 ts)(z:Et ts)(h0:fV p q=0):(fg p q o z).ts.length=ts.length+(if(fg p q o z).ps.length=2 then 1 else 0):=by
 unfold fV at h0;unfold fg;split
 ·rename_i hd;rw[if_pos hd]at h0;cases h0
 ·split
  ·simp
  ·split
   ·simp
   ·simp[dO]
def kJ(m:Mt)(hs:List Hd):List Sv:=(List.range m.ps.length).map (kz m hs)
def lg(l:Li)(a:As)(i k:Int)(j0 j1 j2:Jt):List Sv :=
  if gj [b8 (ai l j2 i) (ai l j0 i),b8 (ai l j2 k) (ai l j1 k)]=true then[]
  else if fR (aO l a j0 i) (aO l a j1 k) (qE (bT (ai l j2 i) (ai l j0 i))) (qE (bT (ai l j2 k) (ai l j1 k)))≠0 then[]
  else kJ (eV (aO l a j0 i) (aO l a j1 k) (qE (bT (ai l j2 i) (ai l j0 i))) (qE (bT (ai l j2 k) (ai l j1 k)))) [⟨ai l j0 i,P2.l (aO l a j0 i),ai l j2 i⟩,⟨ai l j1 k,P2.l (aO l a j1 k),ai l j2 k⟩]
def lG(l:Li)(a:As)(i:Int)(j0 j:Jt):List Sv :=
  if gj [b8 (aY l i j.point) (ai l j0 i)]=true then[]
  else if fV (bG l a j.b j.on) (bG l a j.b j.to)≠0 then[]
  else kJ (fg (bG l a j.b j.on) (bG l a j.b j.to) (aO l a j0 i) (qE (bT (aY l i j.point) (ai l j0 i)))) [⟨ai l j0 i,P2.l (aO l a j0 i),aY l i j.point⟩]
def kf(ts:LL)(R:Rp)(qs:LL):List Sv:=(List.range qs.length).map (jN ts R qs)
def kZ(l:Li)(a:As)(i:Int)(j0 j:Jt):List Sv :=
  if am (cQ l a i j0 j)=0/\am (qE (cW l i j0 j):Et (llq a.rs))=0 then[]
  else if am (bc l a i j0 j)<0 then[]
  else if 0<am (bc l a i j0 j)then kf (aH (llq a.rs) (sX (bc l a i j0 j))) (ef l a i j0 j) [cc (llq a.rs).length,sX (-bA (bc l a i j0 j))]
  else kf (llq a.rs) (ef l a i j0 j) [[]]
def k8(l:Li)(a:As)(i:Int)(j0:Jt)(x:Tn):List Sv:=if x.err≠0 then[]else[⟨llq a.rs,[kT l a i j0 x],1⟩]
def fp(l:Li)(a:As)(g:Gr)(x:Tn):List Sv :=
  if g.kind=0 then k8 l a (ff g 0) (dF l g 0) x
  else if g.kind=1 then lg l a (ff g 0) (ff g 1) (dF l g 0) (dF l g 1) (dF l g 2)
  else if g.kind=2 then lG l a (ff g 0) (dF l g 0) (dF l g 1)
  else kZ l a (ff g 0) (dF l g 0) (dF l g 1)
theorem NC(l:Li)(a:As)(i k:Int)(j0 j1 j2:Jt):(nD l a i k j0 j1 j2).1=(lg l a i k j0 j1 j2).map Sv.av:=by
 unfold nD lg;split
 ·rfl
 ·split
  ·rfl
  ·exact wG _ _
theorem Jz(l:Li)(a:As)(i:Int)(j0 j:Jt):(mx l a i j0 j).1=(lG l a i j0 j).map Sv.av:=by
 unfold mx lG;split
 ·rfl
 ·split
  ·rfl
  ·exact wG _ _
theorem PH(l:Li)(a:As)(i:Int)(j0 j:Jt):(kM l a i j0 j).1=(kZ l a i j0 j).map Sv.av:=by
 unfold kM kZ;split
 ·rfl
 ·split
  ·rfl
  ·split
   ·exact wG _ _
   ·exact wG _ _
theorem LO(l:Li)(a:As)(g:Gr)(x:Tn):(jv l a g x).1=(fp l a g x).map Sv.av:=by
 unfold jv fp;split
 ·unfold n7 k8;split <;> rfl
 ·split
  ·exact NC ..
  ·split
   ·exact Jz ..
   ·exact PH ..
theorem Gl{ts:LL}{m:Mt}(ok:MtOk ts m){hs:List Hd}(hl:hs.length<=2)(H:∀x∈m.ps,∀h∈hs,HdP m.ts x h){kd:Int}(hk:kd≠0)(lv:m.ts.length=ts.length+(if m.ps.length=2 then 1 else 0)) :
  SolP (kJ m hs) kd ts.length hs.length:=by
 have hln:=ok.ln;refine⟨by simpa[kJ]using hln,?_,?_⟩
 ·intro s hs2;obtain⟨i,hi,rfl⟩:=List.mem_map.1 hs2;obtain⟨x,hx⟩:=au (List.mem_range.1 hi);obtain⟨r,tw,_⟩:=ok.tw;refine⟨⟨r,tw⟩,ok.two,?_,by simpa[kz]using hl⟩;intro p hp;unfold kz at hp;rw[aC hx]at hp;obtain⟨h,hh,rfl⟩:=List.mem_map.1 hp;exact(H x (mem_of_getElem? hx) h hh).b.ok
 ·intro i s hi;unfold kJ at hi;have hin:i < m.ps.length:=by have:=(List.getElem?_eq_some_iff.1 hi).1; simpa using this
  have e:s=kz m hs i:=by simp[hin]at hi;exact hi.symm
  subst e;have hlen:(kJ m hs).length=m.ps.length:=by simp[kJ]
  rw[hlen,if_neg hk];refine⟨?_,lv,by simp[kz]⟩;show(if m.ps.length=1 then 0 else 1-2*(i:Int))=_
  by_cases h2:m.ps.length=2
  ·rw[if_neg oz,if_pos h2]
  ·rw[if_pos oz,if_neg h2]
theorem JS{l:Li}{a:As}(D:DyR l a)(hn:(llq a.rs).length<=1){g:Gr}{i k z0 z1 z2:Int}{j0 j1 j2:Jt}(P:RrrP 3900000 l a g i k z0 z1 z2 j0 j1 j2):SolP (lg l a i k j0 j1 j2) 1 (llq a.rs).length 2:=by
 have c:=D.s.ct D.hc;obtain⟨tw,etw⟩:=dh D.s.tr D.hc;have hq0:=iC D.hl D.li P.h0 P.p0.or;have hq1:=iC D.hl D.li P.h1 P.p1.or;have hq2:=iC D.hl D.li P.h2 P.t1;have hq3:=iC D.hl D.li P.h2 P.t2;obtain⟨y1,y2⟩:=mh D.hl D.li D.al D.s D.hc P.h0 P.p0;obtain⟨y3,y4⟩:=mh D.hl D.li D.al D.s D.hc P.h1 P.p1;haveI:=c;haveI q1:=pM hq2 hq0;haveI q2:=pM hq3 hq1;have z1:Zu 310000 65000 (qE (bT (ai l j2 i) (ai l j0 i)):Et (llq a.rs)) 3 0:=inferInstance;have z2:Zu 310000 65000 (qE (bT (ai l j2 k) (ai l j1 k)):Et (llq a.rs)) 3 0:=inferInstance;unfold lg
 by_cases h1:gj [b8 (ai l j2 i) (ai l j0 i),b8 (ai l j2 k) (ai l j1 k)]=true
 ·rw[if_pos h1];exact oS _ _ _
 ·rw[if_neg h1];obtain⟨w1,w2⟩:=we (Bool.eq_false_iff.2 h1)
  by_cases h2:fR (aO l a j0 i) (aO l a j1 k) (qE (bT (ai l j2 i) (ai l j0 i))) (qE (bT (ai l j2 k) (ai l j1 k)))≠0
  ·rw[if_pos h2];exact oS _ _ _
  ·rw[if_neg h2];have h3:=Decidable.not_not.1 h2;have ok:=GY (x:=(aO l a j0 i).1) (y:=(aO l a j0 i).2) (x2:=(aO l a j1 k).1) (y2:=(aO l a j1 k).2) tw hn c y1 y2 z1 y3 y4 z2 h3;exact Gl ok (by simp) (fun x hx=>kV (qS ok hx (y1.nm.mono (by decide)) (y2.nm.mono (by decide)) hq0 hq2 w1) (qS ok hx (y3.nm.mono (by decide)) (y4.nm.mono (by decide)) hq1 hq3 w2)) (by decide) (PM _ _ _ _ h3)
theorem Kn{l:Li}{a:As}(D:DyR l a)(hn:(llq a.rs).length<=1){g:Gr}{i z0 z1:Int}{j0 j:Jt}(P:SlP 3900000 l a g 2 i z0 z1 j0 j)(ha:j.a=i)(hb:Pd 3900000 a j.b):SolP (lG l a i j0 j) 2 (llq a.rs).length 1:=by
 have c:=D.s.ct D.hc;obtain⟨tw,etw⟩:=dh D.s.tr D.hc;obtain⟨i1,i2,i3,i4,i5⟩:=d7 D.li P.h1;have hq2:Sm 1000 (aY l i j.point):=by rw[<- ha];exact kR D.hl D.li i1 i3
 have hq0:=iC D.hl D.li P.h0 P.p0.or;obtain⟨y1,y2⟩:=mh D.hl D.li D.al D.s D.hc P.h0 P.p0;obtain⟨y3,y4⟩:=nv D.hl D.li D.al D.s D.hc i2 i4 hb;obtain⟨y5,y6⟩:=nv D.hl D.li D.al D.s D.hc i2 (i5 P.hk) hb;haveI:=c;haveI q1:=pM hq2 hq0;have z1:Zu 310000 65000 (qE (bT (aY l i j.point) (ai l j0 i)):Et (llq a.rs)) 3 0:=inferInstance;unfold lG
 by_cases h1:gj [b8 (aY l i j.point) (ai l j0 i)]=true
 ·rw[if_pos h1];exact oS _ _ _
 ·rw[if_neg h1];have w1:=xj (Bool.eq_false_iff.2 h1)
  by_cases h2:fV (bG l a j.b j.on) (bG l a j.b j.to)≠0
  ·rw[if_pos h2];exact oS _ _ _
  ·rw[if_neg h2];have h3:=Decidable.not_not.1 h2;have ok:=FQ (o:=aO l a j0 i) (p:=bG l a j.b j.on) (q:=bG l a j.b j.to) (z:=qE (bT (aY l i j.point) (ai l j0 i))) tw hn c y1 y2 y3 y4 y5 y6 z1 h3;exact Gl ok (by simp) (fun x hx=>iz (qS ok hx (y1.nm.mono (by decide)) (y2.nm.mono (by decide)) hq0 hq2 w1)) (by decide) (TS _ _ _ _ h3)
theorem Hj{ts T:LL}{R:Rp}{qs:LL}(ct:Cy T 773000000 1101400000)(hl:qs.length<=2)(h1:1<=qs.length)(H:∀q∈qs,RqP T R q)(lv:T.length=ts.length+(if qs.length=2 then 1 else 0)):SolP (kf T R qs) 3 ts.length 1:=by
 refine⟨by simpa[kf]using hl,?_,?_⟩
 ·intro s hs2;obtain⟨i,hi,rfl⟩:=List.mem_map.1 hs2;obtain⟨x,hx⟩:=au (List.mem_range.1 hi);obtain⟨r,tw,_⟩:=ct.ex;refine⟨⟨r,tw⟩,ct.two,?_,by simp[jN]⟩;intro p hp;unfold jN at hp;rw[aC hx]at hp;rw[List.mem_singleton.1 hp];exact(H x (mem_of_getElem? hx)).b.ok
 ·intro i s hi;unfold kf at hi;have hin:i < qs.length:=by have:=(List.getElem?_eq_some_iff.1 hi).1; simpa using this
  have e:s=jN T R qs i:=by simp[hin]at hi;exact hi.symm
  subst e;have hlen:(kf T R qs).length=qs.length:=by simp[kf]
  rw[hlen,if_neg (by decide)];refine⟨?_,lv,by simp[jN]⟩;show(if qs.length=1 then 0 else 1-2*(i:Int))=_
  by_cases h2:qs.length=2
  ·rw[if_neg oz,if_pos h2]
  ·rw[if_pos oz,if_neg h2]
theorem UL{l:Li}{a:As}(D:DyR l a)(hn:(llq a.rs).length<=1){g:Gr}{i z0 z1:Int}{j0 j:Jt}(P:SlP 3900000 l a g 3 i z0 z1 j0 j)(hj:j.b=i)(hb:Pd 3900000 a j.a):SolP (kZ l a i j0 j) 3 (llq a.rs).length 1:=by
 obtain⟨tw,etw⟩:=dh D.s.tr D.hc;have F:=HT D hn P hj hb;unfold kZ
 by_cases h1:am (cQ l a i j0 j)=0/\am (qE (cW l i j0 j):Et (llq a.rs))=0
 ·rw[if_pos h1];exact oS _ _ _
 ·rw[if_neg h1]
  by_cases h2:am (bc l a i j0 j)<0
  ·rw[if_pos h2];exact oS _ _ _
  ·rw[if_neg h2];have hd0:am (cQ l a i j0 j)≠0:=vQ tw h2 h1
   by_cases h3:0<am (bc l a i j0 j)
   ·rw[if_pos h3];obtain⟨E,R1,R2,_⟩:=EJ F tw hn hd0 oz;exact Hj (ts:=llq a.rs) (qs:=[cc (llq a.rs).length,sX (-bA (bc l a i j0 j))]) E.cy (le_refl 2) (by show 1<=2;omega) (kV R1 R2) (dO (llq a.rs) (sX (bc l a i j0 j)))
   ·rw[if_neg h3];obtain⟨cs,R0⟩:=EC F tw hn hd0;exact Hj (ts:=llq a.rs) (qs:=[[]]) cs (by show 1<=2;omega) (le_refl 1) (iz R0) rfl
theorem M4{E:Nat}(hE:E<=20000000000){l:Li}{a:As}(D:DyW l a)(h3:(llq a.rs).length<=2){i z0:Int}{j0:Jt}(h0:l.jo[z0.toNat]?=some j0)(p0:PinP E l a j0 i){x:Tn}(hq:Qb 1000 x.t.q):SolP (k8 l a i j0 x) 0 (llq a.rs).length 1:=by
 obtain⟨tw,etw⟩:=dh D.al.tr D.hc;unfold k8
 by_cases he:x.err≠0
 ·rw[if_pos he];exact oS _ _ _
 ·rw [if_neg he];refine ⟨by simp,iz ⟨⟨_,tw⟩,h3,iz (ER hE D h3 h0 p0 hq).ok,by show 1 <= 2; omega⟩,?_⟩;intro n s hs
  match n,hs with
  |0,hs=>cases hs;exact⟨rfl,rfl,rfl⟩
theorem Gi{E:Nat}(hE:E<=20000000000){l:Li}{k:Int}{a:As}{n:Nat}{g:Gr}{x:Tn}(D:DyW l a)(h3:(llq a.rs).length<=2)(ok:DyOk E l k a false n g)(hR:g.kind≠0->E=3900000/\DyS a)(hq:Qb 1000 x.t.q):SolP (fp l a g x) g.kind (llq a.rs).length g.bo.length:=by
 unfold fp
 by_cases hk0:g.kind=0
 ·obtain⟨i,z0,d,j0,e,hj0,p0⟩:=xS ok hk0;rw[if_pos hk0,e];show SolP (k8 l a i (l.jo.getD z0.toNat default) x) _ _ _;rw[aC hj0];exact M4 hE D h3 hj0 p0 hq
 ·rw[if_neg hk0];obtain⟨hE9,S⟩:=hR hk0;subst hE9;have D:DyR l a:=⟨D,S⟩
  have hn:=S.one D.hc
  by_cases hk1:g.kind=1
  ·obtain⟨i,k2,z0,z1,z2,j0,j1,j2,P⟩:=ok.rrr hk1;obtain⟨e0,e1,e2,b0,b1,_⟩:=P.at;rw[if_pos hk1,e0,e1,e2,b0,b1,hk1,P.eq];exact JS D hn P
  ·rw[if_neg hk1]
   by_cases hk2:g.kind=2
   ·obtain⟨i,z0,z1,j0,j,P,ha,hb⟩:=ok.pr hk2;obtain⟨e0,e1,b0,_⟩:=P.at;rw[if_pos hk2,e0,e1,b0,hk2,P.eq];exact Kn D hn P ha hb
   ·obtain⟨i,z0,z1,j0,j,P,_,hj,hb⟩:=ok.rp hk0 hk1 hk2;obtain⟨e0,e1,b0,hk3⟩:=P.at;rw[if_neg hk2,e0,e1,b0,hk3,P.eq];exact UL D hn P hj hb
theorem T.inv_congr{r r':(k:Nat)->T k}:∀(k:Nat),(∀j,j<k->r j=r' j)->∀x,T.inv r k x=T.inv r' k x
 |0,_,x=>rfl
 |k+1,h,x=>by
  have ih:=T.inv_congr k (fun j hj=>h j oz);have hm:=T.mul_congr k (fun j hj=>h j oz);have hs:=T.sgn_congr k (fun j hj=>h j oz)
  have hn:T.norm r k x=T.norm r' k x:=by
   unfold T.norm;rw[h k oz];simp only[hm]
  conv=>lhs;unfold T.inv
  conv=>rhs;unfold T.inv
  simp only[ih,hm,hs,hn]
def iJ{n N:Nat}(x:T n):T N:=ad N (sh n x)
section
variable{n N:Nat}{r r':(k:Nat)->T k}
theorem j8(x:T n):(iJ x:T (n+1))=(x,T.zero n):=by
 unfold iJ;rw[fP (eg n x).le,aZ]
theorem PX(hN:N=n+1)(h:∀j,j<n->r j=r' j)(x y:T n):(iJ (T.mul r n x y):T N)=T.mul r' N (iJ x) (iJ y):=by
 subst hN;rw[j8,j8,j8,mul_low,T.zero_mul,T.mul_congr n h]
theorem VA(hN:N=n+1)(x y:T n):(iJ (T.add n x y):T N)=T.add N (iJ x) (iJ y):=by
 subst hN;rw[j8,j8,j8];show(T.add n x y,T.zero n)=(T.add n x y,T.add n (T.zero n) (T.zero n));rw[T.zero_add]
theorem J0(hN:N=n+1)(x:T n):(iJ (T.neg n x):T N)=T.neg N (iJ x):=by
 subst hN;rw[j8,j8];show(T.neg n x,T.zero n)=(T.neg n x,T.neg n (T.zero n));rw[T.neg_zero]
theorem LB(hN:N=n+1)(q:Rat):(iJ (T.ofQ n q):T N)=T.ofQ N q:=by
 subst hN;rw[j8];rfl
theorem Mu(hN:N=n+1)(h:∀j,j<n->r j=r' j)(x:T n):(iJ (T.inv r n x):T N)=T.inv r' N (iJ x):=by
 subst hN;rw[j8,j8,T.inv_low,T.inv_congr n h]
end
section
variable{ts:LL}(X:Et ts)
theorem EP{l:List Rat}(j:Nat)(hj:j<ts.length):aj ts j=aj (aH ts l) j:=(vr hj).symm
theorem fi(x y:Et ts):aK X (x*y)=aK X x*aK X y:=PX (dO _ _) EP x y
theorem tY(x y:Et ts):aK X (x+y)=aK X x+aK X y:=VA (dO _ _) x y
theorem Dc(x:Et ts):aK X (-x)=-aK X x:=J0 (dO _ _) x
theorem ni(q:Rat):aK X (qE q)=qE q:=LB (dO _ _) q
theorem oc(x:Et ts):aK X (iE x)=iE (aK X x):=Mu (dO _ _) EP x
end
theorem lO{ts:LL}:(qE ((1:Int):Rat):Et ts)=1:=rfl
theorem H6{ts:LL}:(qE ((-1:Int):Rat):Et ts)=-1:=by
 have h:=(T.ofQ_neg ts.length ((1:Nat):Rat))
 rw[show(((-1:Int):Rat))=-((1:Nat):Rat) by rfl];exact h
theorem BR{ts:LL}(d:Et ts):er d=d+d:=by
 have h:(qE ((2:Int):Rat):Et ts)=1+1:=by
  have h:=T.ofQ_add ts.length ((1:Nat):Rat) ((1:Nat):Rat);rw[show(((2:Int):Rat))=((1:Nat):Rat)+((1:Nat):Rat) by decide +kernel];exact h
 unfold er;rw[h];grind
theorem x5{ts:LL}:(qE 0:Et ts)=0:=rfl
section
variable{ts:LL}
theorem DJ(p q:P2 ts)(z z2:Et ts):eU p q z z2=dT p ((qE ((1:Int):Rat)*iE (aD p q+aD p q))*(z+aD p q-z2)) (bu q p):=by
 unfold eU fT dT;rw[BR,lO];refine Prod.ext ?_ ?_
 ·show p.1+(z+aD p q-z2)*iE (aD p q+aD p q)*(q.1-p.1)=p.1+1*iE (aD p q+aD p q)*(z+aD p q-z2)*(q.1-p.1);grind
 ·show p.2+(z+aD p q-z2)*iE (aD p q+aD p q)*(q.2-p.2)=p.2+1*iE (aD p q+aD p q)*(z+aD p q-z2)*(q.2-p.2);grind
def kC(p q:P2 ts):P2 ts:=(qE ((1:Int):Rat)*iE (aD p q+aD p q)*(0-(bu q p).2),qE ((1:Int):Rat)*iE (aD p q+aD p q)*(bu q p).1)
theorem Ag(X:Et ts)(f p q:P2 ts):iD X f (fT p q) (d9 X (aD p q))=(aK X f.1+bA X*aK X (kC p q).1,aK X f.2+bA X*aK X (kC p q).2):=by
 unfold iD dT d9 kC;rw[BR,H6];refine Prod.ext ?_ ?_
 ·show aK X f.1+bA X*iE (aK X (aD p q+aD p q))*(-1*aK X (q.2-p.2))=aK X f.1+bA X*aK X (qE ((1:Int):Rat)*iE (aD p q+aD p q)*(0-(q.2-p.2)));rw[fi,fi,ni,oc,show(0:Et ts)-(q.2-p.2)=-(q.2-p.2) by grind,Dc,lO];grind
 ·show aK X f.2+bA X*iE (aK X (aD p q+aD p q))*aK X (q.1-p.1)=aK X f.2+bA X*aK X (qE ((1:Int):Rat)*iE (aD p q+aD p q)*(q.1-p.1));rw[fi,fi,ni,oc,lO];grind
theorem B4(X:Et ts)(f p q:P2 ts):iD X f (fT p q) (qE ((-1:Int):Rat)*d9 X (aD p q))=(aK X f.1-bA X*aK X (kC p q).1,aK X f.2-bA X*aK X (kC p q).2):=by
 have h:=Ag X f p q;have h1:=congrArg Prod.fst h;have h2:=congrArg Prod.snd h;unfold iD dT at h1 h2 ⊢;rw[H6]at h1 h2 ⊢;dsimp only at h1 h2;refine Prod.ext ?_ ?_
 ·dsimp only;grind
 ·dsimp only;grind
def jU(p q:P2 ts):P2 ts:=(qE ((1:Int):Rat)*iE (bt p q)*(bu q p).1,qE ((1:Int):Rat)*iE (bt p q)*(bu q p).2)
theorem Gf(X:Et ts)(p q c:P2 ts):kA X p (bu q p) (fu X (bt p q) (aK X (bU p q c)+bA X)) =
  (aK X (dT p (bU p q c*iE (bt p q)) (bu q p)).1+bA X*aK X (jU p q).1,aK X (dT p (bU p q c*iE (bt p q)) (bu q p)).2+bA X*aK X (jU p q).2):=by
 unfold kA fu jU dT;refine Prod.ext ?_ ?_
 ·dsimp only;rw[tY,fi,fi,fi,fi,oc,ni,lO];grind
 ·dsimp only;rw[tY,fi,fi,fi,fi,oc,ni,lO];grind
theorem CZ(X:Et ts)(p q c:P2 ts):kA X p (bu q p) (fu X (bt p q) (aK X (bU p q c)-bA X)) =
  (aK X (dT p (bU p q c*iE (bt p q)) (bu q p)).1-bA X*aK X (jU p q).1,aK X (dT p (bU p q c*iE (bt p q)) (bu q p)).2-bA X*aK X (jU p q).2):=by
 unfold kA fu jU dT;refine Prod.ext ?_ ?_
 ·dsimp only;rw[tY,fi,fi,fi,fi,oc,ni,lO];grind
 ·dsimp only;rw[tY,fi,fi,fi,fi,oc,ni,lO];grind
theorem vH(r:(k:Nat)->T k):∀(n:Nat)(q:Rat),T.inv r n (T.ofQ n q)=T.ofQ n (1/q)
 |0,q=>rfl
 |n+1,q=>by
  show T.inv r (n+1) (T.ofQ n q,T.zero n)=(T.ofQ n (1/q),T.zero n);rw[T.inv_low,vH r n q]
theorem yF:(iE (qE 1):Et ts)=1:=by
 show T.inv (aj ts) ts.length (T.ofQ ts.length 1)=_;rw[vH,show(1:Rat)/1=((1:Nat):Rat) by decide +kernel];rfl
end
theorem zB(r:(k:Nat)->T k)(q:Rat):∀(k:Nat){a c:List Rat},(∀i,i<2^k->c.getD i 0=q*a.getD i 0)->ad k c=T.mul r k (T.ofQ k q) (ad k a)
 |0,a,c,h=>h 0 (by decide)
 |k+1,a,c,h=>by
  have h1:=zB r q k (a:=a.take (2^k)) (c:=c.take (2^k)) (fun i hi=>by rw[kj,kj,if_pos hi,if_pos hi];exact h i (by rw[Nat.pow_succ];omega));have h2:=zB r q k (a:=a.drop (2^k)) (c:=c.drop (2^k)) (fun i hi=>by rw[ky,ky];exact h _ (by rw[Nat.pow_succ];omega));show(ad k (c.take (2^k)),ad k (c.drop (2^k)))=T.mul r (k+1) (T.ofQ k q,T.zero k) (ad k (a.take (2^k)),ad k (a.drop (2^k)));rw[T.mul_comm,T.mul_half,h1,h2,T.mul_comm r k (ad k (a.take _)),T.mul_comm r k (ad k (a.drop _))]
section
variable{ts:LL}
def Bz(e:Nat)(x:Et ts):Prop:=Nm ts.length e (sX x)
theorem Bz.mono{e f:Nat}{x:Et ts}(h:Bz e x)(hf:e<=f):Bz f x:=Nm.mono h hf
theorem Bz.add{e f:Nat}{x y:Et ts}(hx:Bz e x)(hy:Bz f y):Bz (e+f+1) (x+y):=Nm.addT hx hy
theorem Bz.sub{e f:Nat}{x y:Et ts}(hx:Bz e x)(hy:Bz f y):Bz (e+f+1) (x-y):=Nm.subT hx hy
theorem Bz.neg{e:Nat}{x:Et ts}(hx:Bz e x):Bz e (-x):=Nm.negT hx
theorem Bz.mul{r K e f:Nat}(tw:Tw ts r)(hK:eB r ts.length<=K){x y:Et ts}(hx:Bz e x)(hy:Bz f y):Bz (e+f+K) (x*y):=by
 have h:=Nm.mul tw rfl hx hy;have e1:∀z:Et ts,ad ts.length (sX z)=z:=fun z=>aZ _ _
 rw[e1,e1]at h;exact Nm.mono h (Nat.add_le_add_left hK _)
theorem Bz.q{e:Nat}{q:Rat}(h5:ts.length<=5)(hq:Cb e [q]):Bz e (qE q:Et ts):=by
 unfold Bz;rw[tO];exact Nm.ofQ h5 hq
theorem Bz.qm{e f:Nat}{q:Rat}{x:Et ts}(hq:Cb e [q])(hx:Bz f x):Bz (e+f) (qE q*x):=by
 obtain⟨D,N,h1,h2,h3⟩:=hq;obtain⟨D',N',k1,k2,k3⟩:=hx.cb;obtain⟨n,hn,hN⟩:=h1.2 q (List.mem_singleton.2 rfl);have hx2:ad ts.length (sX x)=x:=aZ _ _
 have hd:ad ts.length ((sX x).map (q*·))=T.mul (aj ts) ts.length (T.ofQ ts.length q) (ad ts.length (sX x)):=zB _ q _ (fun i _=>by
  rw[getD_eq_getElem?_getD,getElem?_map,getD_eq_getElem?_getD];cases(sX x)[i]? with
  |none=>exact(Rat.mul_zero q).symm
  |some v=>rfl)
 rw[hx2]at hd
 have hc:Cb (e+f) ((sX x).map (q*·)):=by
  refine⟨D*D',N*N',⟨Nat.mul_pos h1.1 k1.1,?_⟩,?_,?_⟩
  ·intro z hz;obtain⟨y,hy,rfl⟩:=List.mem_map.1 hz;obtain⟨m,hm,hM⟩:=k1.2 y hy;refine⟨n*m,?_,?_⟩
   ·rw[Int.natCast_mul,Rat.intCast_mul,Rat.intCast_mul,<- hn,<- hm];grind
   ·rw[Int.natAbs_mul];exact Nat.mul_le_mul hN hM
  ·rw[pow_add];exact Nat.mul_le_mul h2 k2
  ·rw[pow_add];exact Nat.mul_le_mul h3 k3
 have hnl:Nl ts.length ((sX x).map (q*·)):=by
  rcases hx.nl with h |⟨j,hj,h⟩
  ·exact .inl (by rw[h];rfl)
  ·exact .inr ⟨j,hj,by rw[length_map];exact h⟩
 refine⟨hx.five,eg _ _,?_⟩;have:=hc.sh hnl;rw[hd]at this;exact this
theorem Bz.mq{e f:Nat}{q:Rat}{x:Et ts}(hx:Bz f x)(hq:Cb e [q]):Bz (e+f) (x*qE q):=by
 rw[show x*qE q=qE q*x by grind];exact hx.qm hq
theorem Bz.iq{e f:Nat}{q:Rat}{x:Et ts}(hx:Bz f x)(hq:Cb e [q])(h0:q≠0):Bz (e+f) (x*iE (qE q)):=by
 have h:(iE (qE q):Et ts)=qE (1/q):=vH _ _ q;rw[h];exact hx.mq (hq.inv1 h0)
theorem Bz.iv{r f j I:Nat}{y:Et ts}(tw:Tw ts r)(hy:Bz f y)(nb:Nl j (sX y))(hj:j<=ts.length)(h0:am y≠0)(hI:iB r j f<=I)(hs:I<=50000000000):Bz I (iE y):=by
 have hf:=xt r j f;have hl:=iu ts.length;have e1:ad ts.length (sX y)=y:=aZ _ _;obtain⟨L,_,k2,k3,k4⟩:=xU (b:=sX y) tw hy hj nb (by rw[e1];exact h0) oz oz;rw[e1]at k4;have:=k3.sh k2;rw[k4]at this;exact⟨tw.five,eg _ _,this.mono hI⟩
structure Pz(n ec ex:Nat)(p:Pq):Prop where
  c:Nm n ec p.c
  s:Nm n ec p.s
  x:Nm n ex p.x
  y:Nm n ex p.y
theorem Pz.mono{n n' a b a' b':Nat}{p:Pq}(h:Pz n a b p)(hn:n<=n')(h5:n'<=5)(ha:a<=a')(hb:b<=b'):Pz n' a' b' p :=
 ⟨⟨h5,h.c.nl.mono hn,h.c.cb.mono ha⟩,⟨h5,h.s.nl.mono hn,h.s.cb.mono ha⟩,⟨h5,h.x.nl.mono hn,h.x.cb.mono hb⟩,⟨h5,h.y.nl.mono hn,h.y.cb.mono hb⟩⟩
theorem Jg{s t e f:Nat}{u p:Rat×Rat}{w o:P2 ts}(hu:Sm t u)(hp:Sm s p)(h0:bX u u≠0)(w1:Bz e w.1)(w2:Bz e w.2)(o1:Bz f o.1)(o2:Bz f o.2) :
  Pz ts.length (2*e+6*t+2) (f+4*e+12*t+2*s+6) (gX u w p o):=by
 have u1:=Cb.one hu.x;have u2:=Cb.one hu.y;have p1:=Cb.one hp.x;have p2:=Cb.one hp.y;have n:=Cb.one (hu.dot hu);have c:=(((w1.qm u1).add (w2.qm u2)).iq n h0).mono (f:=2*e+6*t+2) oz;have d:=(((w2.qm u1).sub (w1.qm u2)).iq n h0).mono (f:=2*e+6*t+2) oz;exact⟨c,d,(o1.sub ((c.mq p1).sub (d.mq p2))).mono oz,(o2.sub ((d.mq p1).add (c.mq p2))).mono oz⟩
theorem rg{a:List Rat}{e:Nat}(h:Nm ts.length e a):Bz e (dE ts a):=by
 have:=h.cb.sh h.nl;exact⟨h.five,eg _ _,this⟩
theorem Po{s f:Nat}{p:Rat×Rat}{c d:Rat}{o:P2 ts}{g:Nat}(hc:Cb g [c])(hd:Cb g [d])(hp:Sm s p)(h5:ts.length<=5)(o1:Bz f o.1)(o2:Bz f o.2) :
  Pz ts.length (g+1) (f+2*g+2*s+4) (gX (((1:Int):Rat),0) ((qE c,qE d):P2 ts) p o):=by
 have e0:∀x:Et ts,(qE ((1:Int):Rat):Et ts)*x=x:=fun x=>by
  have:(qE ((1:Int):Rat):Et ts)=1:=rfl;rw[this];grind
 have e1:∀x:Et ts,(qE (0:Rat):Et ts)*x=0:=fun x=>by
  have:(qE (0:Rat):Et ts)=0:=rfl;rw[this];grind
 have e2:(iE (jY (((1:Int):Rat),0)):Et ts)=1:=by
  show iE (qE (bX (((1:Int):Rat),0) (((1:Int):Rat),0)))=_;rw[show bX (((1:Int):Rat),(0:Rat)) (((1:Int):Rat),(0:Rat))=1 by decide +kernel];exact yF
 have ec:dA (((1:Int):Rat),0) ((qE c,qE d):P2 ts)=qE c:=by
  unfold dA;rw[e0,e1,e2];grind
 have ed:dw (((1:Int):Rat),0) ((qE c,qE d):P2 ts)=qE d:=by
  unfold dw;rw[e0,e1,e2];grind
 have p1:=Cb.one hp.x;have p2:=Cb.one hp.y;have c1:Bz g (qE c:Et ts):=Bz.q h5 hc;have d1:Bz g (qE d:Et ts):=Bz.q h5 hd;refine⟨?_,?_,?_,?_⟩
 ·show Bz _ (dA _ _);rw[ec];exact c1.mono oz
 ·show Bz _ (dw _ _);rw[ed];exact d1.mono oz
 ·show Bz _ (qL _ _ p o);unfold qL;rw[ec,ed];exact(o1.sub ((c1.mq p1).sub (d1.mq p2))).mono oz
 ·show Bz _ (pu _ _ p o);unfold pu;rw[ec,ed];exact(o2.sub ((d1.mq p1).add (c1.mq p2))).mono oz
structure Xz(ts:LL)(r X:Nat)(us:LL):Prop where
  tw:Tw us (r+X)
  up:ts.length<=us.length
  ln:us.length<=ts.length+1
theorem yJ{r X:Nat}(tw:Tw ts r)(hx:r+X<=5000000000):Xz ts r X ts:=⟨⟨tw.three,tw.len,tw.pos,tw.rb.mono oz,hx⟩,le_refl _,by omega⟩
theorem vq{r X:Nat}(tw:Tw ts r)(hn:ts.length<=1)(hx:r+X<=5000000000){x:Et ts}(h:Bz X x)(hs:0<=am x):Xz ts r X (aH ts (sX x)) :=
 ⟨yv tw oz h hx (by rw[show ad ts.length (sX x)=x from aZ _ _];exact hs),by rw[dO];omega,by rw[dO];omega⟩
theorem Bz.up{e:Nat}{X x:Et ts}(h:Bz e x)(hn:ts.length<=1):Bz e (aK X x):=by
 have h1:Nm (aH ts (sX X)).length e (sX x):=lT h oz;exact rg h1
structure Szs(n r a b X K K' I J:Nat):Prop where
  n1:n<=1
  hK:eB r n<=K
  hX:24*a+8*K+5*b+23<=X
  hL:r+X<=5000000000
  hK':eB (r+X) (n+1)<=K'
  hI:iB r n (8*a+2*K+8)<=I
  hJ:iB (r+X) n (8*a+2*K+8)<=J
  hJ':J<=50000000000
  kk:K<=K'
  ij:I<=J
theorem Szs.kx{n r a b X K K' I J:Nat}(h:Szs n r a b X K K' I J){us:LL}(hu:us.length<=n+1):eB (r+X) us.length<=K':=le_trans (gV _ hu) h.hK'
section
variable{r a b X K K' I J:Nat}(Z:Szs ts.length r a b X K K' I J)(tw:Tw ts r)
include Z tw
theorem AR{p q:P2 ts}(p1:Bz a p.1)(p2:Bz a p.2)(q1:Bz a q.1)(q2:Bz a q.2):Bz (8*a+2*K+5) (qR (bu q p) (bu q p)):=by
 have v1:=q1.sub p1;have v2:=q2.sub p2;exact((v1.mul tw Z.hK v1).add (v2.mul tw Z.hK v2)).mono oz
theorem xR{y:Et ts}(hy:Bz (8*a+2*K+8) y)(h0:am y≠0):Bz I (iE y) :=
 hy.iv tw (eg _ _) (le_refl _) h0 Z.hI (by have:=Z.ij;have:=Z.hJ';omega)
theorem AH{x y:Et ts}(hx:Bz X x)(hs:0<=am x)(hy:Bz (8*a+2*K+8) y)(h0:am y≠0):Bz J (iE (aK x y)):=by
 have E:=vq tw Z.n1 Z.hL hx hs
 have e1:sX (aK x y)=sX y:=by
  have:=(ul (X:=x) Z.n1 _ y hy).2;exact this
 refine(hy.up Z.n1).iv E.tw (j:=ts.length) (by rw[e1];exact eg _ _) E.up (by rw[o7];exact h0) Z.hJ Z.hJ'
theorem BE{x:Et ts}:Bz 1 (dE (aH ts (sX x)) (cc ts.length)):=by have _:=tw;exact rg (sr (by have:=Z.n1;omega))
theorem Sb{p q:P2 ts}{z z2:Et ts}(p1:Bz a p.1)(p2:Bz a p.2)(q1:Bz a q.1)(q2:Bz a q.2)(hz:Bz b z)(hz2:Bz b z2)(h0:fR p q z z2=0) :
  Xz ts r X (eV p q z z2).ts/\∀m∈(eV p q z z2).ps,Nm (eV p q z z2).ts.length (13*a+2*b+5*K+2*K'+I+J+20) m.1/\Nm (eV p q z z2).ts.length (13*a+2*b+5*K+2*K'+I+J+20) m.2:=by
 have hn:=Z.n1;have hkk:=Z.kk;have hd:Bz (8*a+2*K+5) (aD p q):=AR Z tw (p:=q) (q:=p) q1 q2 p1 p2;have hm:=(hz.add hd).sub hz2;have q4:Cb 3 [((4:Int):Rat)]:=Cb.int (z:=4) (by decide);have q2':Cb 2 [((2:Int):Rat)]:=Cb.int (z:=2) (by decide);have qm1:Cb 1 [((-1:Int):Rat)]:=Cb.int (z:=-1) (by decide)
 have hX:Bz X (bB p z q z2):=by
  have h:=((hz.mul tw Z.hK hd).qm q4).sub (hm.mul tw Z.hK hm);have h2:=h.mono (f:=X) (by have:=Z.hX;omega);exact h2
 have same:=yJ (X:=X) tw Z.hL;have v1:=q1.sub p1;have v2:=q2.sub p2;unfold fR lZ at h0;unfold eV lU
 by_cases hs:am (aD p q)=0
 ·rw[if_pos hs]at h0 ⊢
  by_cases hz0:am (z-z2)≠0
  ·rw[if_pos hz0];exact⟨same,fun m hm=>by cases hm⟩
  ·rw[if_neg hz0]
   by_cases hp:0<am z
   ·rw[if_pos ⟨Decidable.not_not.1 hz0,hp⟩]at h0;cases h0
   ·rw[if_neg hp]
    have n0:Bz 0 (0:Et ts):=by
     have:=Bz.q (ts:=ts) (e:=0) (q:=0) oz (Cb.int (z:=0) (by decide));exact this
    refine⟨same,iz ⟨?_,?_⟩⟩
    ·exact(p1.add (n0.mul tw Z.hK p1)).mono (f:=13*a+2*b+5*K+2*K'+I+J+20) oz
    ·exact(p2.add (n0.mul tw Z.hK p2)).mono (f:=13*a+2*b+5*K+2*K'+I+J+20) oz
 ·rw [if_neg hs];have ht0:am (er (aD p q)) ≠ 0:=by rw [wY tw]; exact hs
  have ht:Bz (8*a+2*K+8) (er (aD p q)):=Bz.mono (e:=2+(8*a+2*K+5)) (hd.qm q2') oz
  by_cases hx0:am (bB p z q z2)<0
  ·rw[if_pos hx0];exact⟨same,fun m hm=>by cases hm⟩
  ·rw[if_neg hx0];have hk:=hm.mul tw Z.hK (xR Z tw ht ht0);have f1:Bz (11*a+2*b+4*K+I+10) (eU p q z z2).1:=(p1.add (hk.mul tw Z.hK v1)).mono oz;have f2:Bz (11*a+2*b+4*K+I+10) (eU p q z z2).2:=(p2.add (hk.mul tw Z.hK v2)).mono oz
   by_cases hx1:am (bB p z q z2)=0
   ·rw[if_pos hx1];exact⟨same,iz ⟨f1.mono oz,f2.mono oz⟩⟩
   ·rw [if_neg hx1];have hpos:0 <= am (bB p z q z2):=by omega
    have E:=vq tw hn Z.hL hX hpos;have hkx:=Z.kx E.ln;have s1:=(BE Z tw (x:=bB p z q z2)).mul E.tw hkx (AH Z tw hX hpos ht ht0);have s2:=s1.qm qm1;have w1:=(v2.up (X:=bB p z q z2) hn).qm qm1;have w2:=v1.up (X:=bB p z q z2) hn;have g1:=f1.up (X:=bB p z q z2) hn;have g2:=f2.up (X:=bB p z q z2) hn;exact⟨E,kV ⟨(g1.add (s1.mul E.tw hkx w1)).mono oz,(g2.add (s1.mul E.tw hkx w2)).mono oz⟩ ⟨(g1.add (s2.mul E.tw hkx w1)).mono oz,(g2.add (s2.mul E.tw hkx w2)).mono oz⟩⟩
theorem Tq{p q o:P2 ts}{z:Et ts}(p1:Bz a p.1)(p2:Bz a p.2)(q1:Bz a q.1)(q2:Bz a q.2)(o1:Bz a o.1)(o2:Bz a o.2)(hz:Bz b z)(h0:fV p q=0) :
  Xz ts r X (fg p q o z).ts/\∀m∈(fg p q o z).ps,Nm (fg p q o z).ts.length (13*a+2*b+5*K+2*K'+I+J+20) m.1/\Nm (fg p q o z).ts.length (13*a+2*b+5*K+2*K'+I+J+20) m.2:=by
 have hn:=Z.n1;have hkk:=Z.kk;have hS:=(AR Z tw p1 p2 q1 q2)
 have v1:=q1.sub p1;have v2:=q2.sub p2;have w1:=o1.sub p1;have w2:=o2.sub p2;have hE:Bz (8*a+2*K+5) (bU p q o):=((v1.mul tw Z.hK w1).add (v2.mul tw Z.hK w2)).mono oz;have hC:Bz (8*a+2*K+5) (iX p q o):=((v1.mul tw Z.hK w2).sub (v2.mul tw Z.hK w1)).mono oz;have hX:Bz X (aU p q o z):=((hS.mul tw Z.hK hz).sub (hC.mul tw Z.hK hC)).mono (by have:=Z.hX;omega);have same:=yJ (X:=X) tw Z.hL;unfold fV at h0;unfold fg
 by_cases hs:am (bt p q)=0
 ·rw[if_pos hs]at h0;cases h0
 ·rw[if_neg hs]
  by_cases h1:am (aU p q o z)=-1
  ·rw[if_pos h1];exact⟨same,fun m hm=>by cases hm⟩
  ·rw[if_neg h1]
   by_cases h2:am (aU p q o z)=0
   ·rw[if_pos h2];have hk:=hE.mul tw Z.hK (xR Z tw (hS.mono oz) hs);exact⟨same,iz ⟨(p1.add (hk.mul tw Z.hK v1)).mono (f:=13*a+2*b+5*K+2*K'+I+J+20) oz,(p2.add (hk.mul tw Z.hK v2)).mono (f:=13*a+2*b+5*K+2*K'+I+J+20) oz⟩⟩
   ·rw[if_neg h2]
    have hpos:0<=am (aU p q o z):=by
     have:=T.sgn_cases (aj ts) ts.length (aU p q o z);have e:am (aU p q o z)=T.sgn (aj ts) ts.length (aU p q o z):=rfl;omega
    have E:=vq tw hn Z.hL hX hpos;have hkx:=Z.kx E.ln;have hi:=AH Z tw hX hpos (hS.mono oz) hs;have rt:=BE Z tw (x:=aU p q o z);have k1:=((hE.up (X:=aU p q o z) hn).add rt).mul E.tw hkx hi;have k2:=((hE.up (X:=aU p q o z) hn).sub rt).mul E.tw hkx hi;have g1:=p1.up (X:=aU p q o z) hn;have g2:=p2.up (X:=aU p q o z) hn;have u1:=v1.up (X:=aU p q o z) hn;have u2:=v2.up (X:=aU p q o z) hn;exact⟨E,kV ⟨(g1.add (k1.mul E.tw hkx u1)).mono oz,(g2.add (k1.mul E.tw hkx u2)).mono oz⟩ ⟨(g1.add (k2.mul E.tw hkx u1)).mono oz,(g2.add (k2.mul E.tw hkx u2)).mono oz⟩⟩
end
end
def Cs(s:Nat)(l:Li):Prop:=∀b∈l.bo,∀m∈b.pts,Qb s m.x.q/\Qb s m.y.q
section
variable{s:Nat}{l:Li}(hl:l.ok)(hli:aB l=0)(hcs:Cs s l)
include hl hli hcs
theorem se{body pt:Int}(h1:bq body l.bo.length=true)(h2:bq pt (cI l body).length=true):Sm s (aY l body pt):=by
 obtain⟨n,k,bd,m,h⟩:=qY hl hli h1 h2;obtain⟨c1,c2⟩:=hcs bd (mem_of_getElem? h.gbd) m (mem_of_getElem? h.gm);rw[h.ex,bP]at c1;rw[h.ey,bP]at c2;exact⟨c1,c2⟩
theorem nT{i:Nat}{j:Jt}(hj:l.jo[i]?=some j){b:Int}(h:j.a=b\/j.b=b):Sm s (ai l j b):=by
 obtain⟨i1,i2,i3,i4,_⟩:=d7 hli hj;unfold ai
 by_cases e:j.a=b
 ·rw[if_pos e];subst e;exact se hl hli hcs i1 i3
 ·rw[if_neg e];rcases h with h |h
  ·exact absurd h e
  ·subst h;exact se hl hli hcs i2 i4
theorem tE{E r K:Nat}{a:As}(al:AB a)(hc:bb a.rs=0)(tw:Tw (llq a.rs) r)(hK:eB r (llq a.rs).length<=K){body pt:Int}(h1:bq body l.bo.length=true)(h2:bq pt (cI l body).length=true)(hb:Pd E a body) :
  Bz (3*E+2*s+2*K+10) (bG l a body pt).1/\Bz (3*E+2*s+2*K+10) (bG l a body pt).2:=by
 obtain⟨n,k,bd,m,b,hp⟩:=wc hl hli al hc h1 h2 hb;obtain⟨c1,c2⟩:=hcs bd (mem_of_getElem? hp.mp.gbd) m (mem_of_getElem? hp.mp.gm);have h:=yC tw hp.ok c1 c2;have hk:kB r (llq a.rs).length<=K:=hK;unfold bG Bz;rw[hp.eq];exact⟨h.1.mono oz,h.2.mono oz⟩
theorem ss{E r K:Nat}{a:As}(al:AB a)(hc:bb a.rs=0)(tw:Tw (llq a.rs) r)(hK:eB r (llq a.rs).length<=K){i:Nat}{j:Jt}(hj:l.jo[i]?=some j){b:Int}(h:PinP E l a j b) :
  Bz (3*E+2*s+2*K+10) (aO l a j b).1/\Bz (3*E+2*s+2*K+10) (aO l a j b).2:=by
 obtain⟨i1,i2,i3,i4,_⟩:=d7 hli hj;unfold aO;rcases h.tie with⟨e,hb⟩ |⟨e,e2,hb⟩
 ·rw[if_pos e];exact tE hl hli hcs al hc tw hK i2 i4 hb
 ·rw[if_neg e];exact tE hl hli hcs al hc tw hK i1 i3 hb
end
theorem Bz.upX{ts us:LL}{e:Nat}{x:Et ts}(h:Bz e x)(h1:ts.length<=us.length)(h5:us.length<=5):Bz e (dE us (sX x)):=rg ⟨h5,Nl.mono h.nl h1,h.cb⟩
theorem z7{s:Nat}{p q:Rat×Rat}(hp:Sm s p)(hq:Sm s q):Cb (8*s+5) [bT p q]:=by
 have h:=(hp.sub hq).dot (hp.sub hq);exact Cb.one (h.mono oz)
abbrev wZ(a b K K' I J:Nat):Nat:=14*a+3*b+5*K+3*K'+I+J+25
abbrev oZ(s a b K K' I J:Nat):Nat:=a+4*wZ a b K K' I J+26*s+18
theorem yG{n a b ec ex e:Nat}{p:Pq}(h:Pz n ec ex p)(h1:ec<=e)(h2:ex<=e):Pq.ok n e p:=⟨h.c.mono h1,h.s.mono h1,h.x.mono h2,h.y.mono h2⟩
section
variable{ts:LL}{r a b X K K' I J:Nat}(Z:Szs ts.length r a b X K K' I J)(tw:Tw ts r)
include Z tw
theorem GL{s:Nat}{m:Mt}(hx:Xz ts r X m.ts)(hm:∀x∈m.ps,Nm m.ts.length (13*a+2*b+5*K+2*K'+I+J+20) x.1/\Nm m.ts.length (13*a+2*b+5*K+2*K'+I+J+20) x.2){hs:List Hd}
  (hh:∀h∈hs,Sm s h.p/\Sm s h.c/\bX (b8 h.c h.p) (b8 h.c h.p)≠0/\∃o:P2 ts,h.a=P2.l o/\Bz a o.1/\Bz a o.2) :
  ∀sv∈kJ m hs,Xz ts r X sv.ts/\∀p∈sv.ps,Pq.ok sv.ts.length (oZ s a b K K' I J) p:=by
 have _:=Z;have _:=tw;intro sv h1;unfold kJ at h1;obtain⟨i,hi,rfl⟩:=List.mem_map.1 h1;obtain⟨x,hxx⟩:=au (List.mem_range.1 hi);obtain⟨n1,n2⟩:=hm x (mem_of_getElem? hxx);refine⟨hx,fun p hp=>?_⟩;unfold kz at hp;rw[aC hxx]at hp;obtain⟨h,h2,rfl⟩:=List.mem_map.1 hp;obtain⟨hp1,hc1,h0,o,ea,o1,o2⟩:=hh h h2;have h5:=hx.tw.five;have u1:=o1.upX hx.up h5;have u2:=o2.upX hx.up h5;have w1:=rg n1;have w2:=rg n2;have e1:h.a.1=sX o.1:=by rw[ea]
 have e2:h.a.2=sX o.2:=by rw[ea]
 have z:=Jg (ts:=m.ts) (u:=b8 h.c h.p) (p:=h.p) (w:=kp m.ts h x) (o:=lQ m.ts h) (e:=13*a+2*b+5*K+2*K'+I+J+20+a+1) (f:=a) (hc1.sub hp1) hp1 h0
  (by unfold kp;rw[e1];exact w1.sub u1) (by unfold kp;rw[e2];exact w2.sub u2) (by unfold lQ;rw[e1];exact u1) (by unfold lQ;rw[e2];exact u2)
 exact yG (a:=a) (b:=b) z (by show _<=a+4*(14*a+3*b+5*K+3*K'+I+J+25)+26*s+18;omega) (by show _<=a+4*(14*a+3*b+5*K+3*K'+I+J+25)+26*s+18;omega)
theorem Vj{s:Nat}{us:LL}(hx:Xz ts r X us){R:Rp}{q:List Rat}(hv:Sm (2*s+1) R.v)(hp:Sm s R.p)(h0:bX R.v R.v≠0)(hq:Bz 1 (dE us q))(w1:Bz (2*a+1) (dE us R.w.1))(w2:Bz (2*a+1) (dE us R.w.2))(hh:Bz b (dE us R.h))
  (hd:Bz J (iE (dE us R.d))) (a1:Bz a (dE us R.a.1)) (a2:Bz a (dE us R.a.2)):Pq.ok us.length (oZ s a b K K' I J) (qQ us R q):=by
 have _:=tw;have hkx:=Z.kx hx.ln;have x1:=(((hq.mul hx.tw hkx w1).sub (hh.mul hx.tw hkx w2.neg)).mul hx.tw hkx hd)
 have x2:=(((hq.mul hx.tw hkx w2).sub (hh.mul hx.tw hkx w1)).mul hx.tw hkx hd)
 have z:=Jg (ts:=us) (u:=R.v) (p:=R.p) (w:=oA us q R.h R.d R.w) (o:=(dE us R.a.1,dE us R.a.2)) (e:=wZ a b K K' I J) (f:=a) hv hp h0
  (x1.mono (by show _<=14*a+3*b+5*K+3*K'+I+J+25;omega)) (x2.mono (by show _<=14*a+3*b+5*K+3*K'+I+J+25;omega)) a1 a2
 exact yG (a:=a) (b:=b) z (by show _<=a+4*(14*a+3*b+5*K+3*K'+I+J+25)+26*s+18;simp only[wZ];omega) (by show _<=a+4*(14*a+3*b+5*K+3*K'+I+J+25)+26*s+18;simp only[wZ];omega)
end
section
variable{s r b X K K' I J E:Nat}{l:Li}{a:As}(D:DyR l a)(hn:(llq a.rs).length<=1)(hcs:Cs s l)(tw:Tw (llq a.rs) r)
  (Z:Szs (llq a.rs).length r (3*E+2*s+2*K+10) b X K K' I J) (hb:8*s+5<=b)
include D hn hcs tw Z hb
theorem K6{g:Gr}{i k z0 z1 z2:Int}{j0 j1 j2:Jt}(P:RrrP E l a g i k z0 z1 z2 j0 j1 j2) :
  ∀sv∈lg l a i k j0 j1 j2,Xz (llq a.rs) r X sv.ts/\∀p∈sv.ps,Pq.ok sv.ts.length (oZ s (3*E+2*s+2*K+10) b K K' I J) p:=by
 have _:=hn;have hq0:=nT D.hl D.li hcs P.h0 P.p0.or;have hq1:=nT D.hl D.li hcs P.h1 P.p1.or;have hq2:=nT D.hl D.li hcs P.h2 P.t1;have hq3:=nT D.hl D.li hcs P.h2 P.t2;obtain⟨y1,y2⟩:=ss D.hl D.li hcs D.al D.hc tw Z.hK P.h0 P.p0;obtain⟨y3,y4⟩:=ss D.hl D.li hcs D.al D.hc tw Z.hK P.h1 P.p1;have z1:Bz b (qE (bT (ai l j2 i) (ai l j0 i)):Et (llq a.rs)):=Bz.q tw.five ((z7 hq2 hq0).mono hb);have z2:Bz b (qE (bT (ai l j2 k) (ai l j1 k)):Et (llq a.rs)):=Bz.q tw.five ((z7 hq3 hq1).mono hb);unfold lg
 by_cases h1:gj [b8 (ai l j2 i) (ai l j0 i),b8 (ai l j2 k) (ai l j1 k)]=true
 ·rw[if_pos h1];intro sv h;cases h
 ·rw[if_neg h1];obtain⟨w1,w2⟩:=we (Bool.eq_false_iff.2 h1)
  by_cases h2:fR (aO l a j0 i) (aO l a j1 k) (qE (bT (ai l j2 i) (ai l j0 i))) (qE (bT (ai l j2 k) (ai l j1 k)))≠0
  ·rw[if_pos h2];intro sv h;cases h
  ·rw[if_neg h2];obtain⟨hx,hm⟩:=Sb Z tw y1 y2 y3 y4 z1 z2 (Decidable.not_not.1 h2);exact GL Z tw hx hm (kV ⟨hq0,hq2,w1,_,rfl,y1,y2⟩ ⟨hq1,hq3,w2,_,rfl,y3,y4⟩)
theorem NU{g:Gr}{i z0 z1:Int}{j0 j:Jt}(P:SlP E l a g 2 i z0 z1 j0 j)(ha:j.a=i)(hbd:Pd E a j.b) :
  ∀sv∈lG l a i j0 j,Xz (llq a.rs) r X sv.ts/\∀p∈sv.ps,Pq.ok sv.ts.length (oZ s (3*E+2*s+2*K+10) b K K' I J) p:=by
 have _:=hn;obtain⟨i1,i2,i3,i4,i5⟩:=d7 D.li P.h1;have hq2:Sm s (aY l i j.point):=by rw[<- ha];exact se D.hl D.li hcs i1 i3
 have hq0:=nT D.hl D.li hcs P.h0 P.p0.or;obtain⟨y1,y2⟩:=ss D.hl D.li hcs D.al D.hc tw Z.hK P.h0 P.p0;obtain⟨y3,y4⟩:=tE D.hl D.li hcs D.al D.hc tw Z.hK i2 i4 hbd;obtain⟨y5,y6⟩:=tE D.hl D.li hcs D.al D.hc tw Z.hK i2 (i5 P.hk) hbd;have z1:Bz b (qE (bT (aY l i j.point) (ai l j0 i)):Et (llq a.rs)):=Bz.q tw.five ((z7 hq2 hq0).mono hb);unfold lG
 by_cases h1:gj [b8 (aY l i j.point) (ai l j0 i)]=true
 ·rw[if_pos h1];intro sv h;cases h
 ·rw[if_neg h1];have w1:=xj (Bool.eq_false_iff.2 h1)
  by_cases h2:fV (bG l a j.b j.on) (bG l a j.b j.to)≠0
  ·rw[if_pos h2];intro sv h;cases h
  ·rw[if_neg h2];obtain⟨hx,hm⟩:=Tq Z tw y3 y4 y5 y6 y1 y2 z1 (Decidable.not_not.1 h2);exact GL Z tw hx hm (iz ⟨hq0,hq2,w1,_,rfl,y1,y2⟩)
theorem Kg{g:Gr}{i z0 z1:Int}{j0 j:Jt}(P:SlP E l a g 3 i z0 z1 j0 j)(hj:j.b=i)(hbd:Pd E a j.a) :
  ∀sv∈kZ l a i j0 j,Xz (llq a.rs) r X sv.ts/\∀p∈sv.ps,Pq.ok sv.ts.length (oZ s (3*E+2*s+2*K+10) b K K' I J) p:=by
 obtain⟨i1,i2,i3,i4,i5⟩:=d7 D.li P.h1;have hs0:=nT D.hl D.li hcs P.h0 P.p0.or;have hs1:Sm s (aY l i j.on):=by rw[<- hj];exact se D.hl D.li hcs i2 i4
 have hs2:Sm s (aY l i j.to):=by rw[<- hj];exact se D.hl D.li hcs i2 (i5 P.hk)
 have hv:Sm (2*s+1) (dt l i j):=(hs2.sub hs1).mono oz;have qn:Cb b [j6 l i j]:=(Cb.one (hv.dot hv)).mono oz;have qh:Cb b [cW l i j0 j]:=(Cb.one (hv.cross (hs1.sub hs0))).mono oz;obtain⟨o1,o2⟩:=ss D.hl D.li hcs D.al D.hc tw Z.hK P.h0 P.p0;obtain⟨p1,p2⟩:=tE D.hl D.li hcs D.al D.hc tw Z.hK i1 i3 hbd;have w1:Bz (2*(3*E+2*s+2*K+10)+1) (dz l a i j0 j).1:=Bz.mono (p1.sub o1) oz;have w2:Bz (2*(3*E+2*s+2*K+10)+1) (dz l a i j0 j).2:=Bz.mono (p2.sub o2) oz;have hd:Bz (8*(3*E+2*s+2*K+10)+2*K+8) (cQ l a i j0 j):=Bz.mono (AR Z tw (p:=aO l a j0 i) (q:=bG l a j.a j.point) o1 o2 p1 p2) oz;have hX:Bz X (bc l a i j0 j):=Bz.mono ((hd.qm qn).sub ((Bz.q tw.five qh).qm qh)) (by have:=Z.hX;omega);have h0:=AY D.li P.h1 P.hk hj;unfold kZ
 by_cases h1:am (cQ l a i j0 j)=0/\am (qE (cW l i j0 j):Et (llq a.rs))=0
 ·rw[if_pos h1];intro sv h;cases h
 ·rw[if_neg h1]
  by_cases h2:am (bc l a i j0 j)<0
  ·rw[if_pos h2];intro sv h;cases h
  ·rw[if_neg h2];have hd0:am (cQ l a i j0 j)≠0:=vQ tw h2 h1
   have key:∀us,Xz (llq a.rs) r X us->Bz J (iE (dE us (sX (cQ l a i j0 j))))->∀q,Bz 1 (dE us q)->Pq.ok us.length (oZ s (3*E+2*s+2*K+10) b K K' I J) (qQ us (ef l a i j0 j) q):=by
    intro us hx hi q hq;have h5:=hx.tw.five
    have hh:Bz b (dE us (sh 0 (cW l i j0 j:Rat))):=by
     have e:dE us (sh 0 (cW l i j0 j:Rat))=qE (cW l i j0 j):=ia _ _;rw[e];exact Bz.q h5 qh
    exact Vj Z tw hx (R:=ef l a i j0 j) hv hs0 h0 hq (w1.upX hx.up h5) (w2.upX hx.up h5) hh hi (o1.upX hx.up h5) (o2.upX hx.up h5)
   by_cases h3:0<am (bc l a i j0 j)
   ·rw [if_pos h3];have hx:=vq tw hn Z.hL hX oz;have hi:=AH Z tw hX (by omega:0 <= am (bc l a i j0 j)) hd hd0;have rt:=BE Z tw (x:=bc l a i j0 j);have k:=key _ hx hi;intro sv h;unfold kf at h;obtain ⟨n,hn2,rfl⟩:=List.mem_map.1 h;refine ⟨hx,fun p hp=>?_⟩;unfold jN at hp;rw [List.mem_singleton.1 hp]
    match n,List.mem_range.1 hn2 with
    |0,_=>exact k _ rt
    |1,_ =>
     refine k _ ?_;show Bz 1 (dE _ (sX (-bA (bc l a i j0 j))));have e:dE (aH (llq a.rs) (sX (bc l a i j0 j))) (sX (-bA (bc l a i j0 j)))=-bA (bc l a i j0 j):=aZ _ _;rw[e];exact rt.neg
   ·rw[if_neg h3];have hx:=yJ (X:=X) tw Z.hL;have e:dE (llq a.rs) (sX (cQ l a i j0 j))=cQ l a i j0 j:=aZ _ _
    have hi:Bz J (iE (dE (llq a.rs) (sX (cQ l a i j0 j)))):=by
     rw[e];exact(xR Z tw hd hd0).mono Z.ij
    have k:=key _ hx hi;intro sv h;unfold kf at h;obtain⟨n,hn2,rfl⟩:=List.mem_map.1 h;refine⟨hx,fun p hp=>?_⟩;unfold jN at hp;rw[List.mem_singleton.1 hp]
    match n,List.mem_range.1 hn2 with
    |0,_=>exact k _ (rg ⟨tw.five,.inl rfl,⟨1,0,⟨by decide,fun q h=>by cases h⟩,by decide,by decide⟩⟩)
end
theorem EQ{k:List Bool}{i:Nat}{b:Int}(h:kn (k.set i true) b=true):kn k b=true\/i=b.toNat:=by
 unfold kn at h ⊢
 by_cases e:i=b.toNat
 ·exact .inr e
 ·rw[getD_eq_getElem?_getD,List.getElem?_set_ne e,<- getD_eq_getElem?_getD]at h;exact .inl h
theorem A8:∀(bs:List Int){k:List Bool}{b:Int},kn (bi k bs) b=true->kn k b=true\/∃x∈bs,x.toNat=b.toNat
 |[],k,b,h=>.inl h
 |x::bs,k,b,h=>by
  have h:kn (bi (k.set x.toNat true) bs) b=true:=h;rcases A8 bs h with h |⟨y,hy,e⟩
  ·rcases EQ h with h |h
   ·exact .inl h
   ·exact .inr ⟨x,mem_cons_self,h⟩
  ·exact .inr ⟨y,mem_cons_of_mem _ hy,e⟩
def ue(l:Li)(kw:List Bool)(out:List Gr):Prop:=∀d∈l.dv,kn kw d.body=true->∃g∈out,g.kind=0/\g.bo=[d.body]
theorem To{l:Li}{d:Dr}(hd:d∈l.dv){b:Int}(h:d.body=b):mZ l b=true:=by
 unfold mZ;rw[List.any_eq_true];exact⟨d,hd,by simp[h]⟩
theorem Co{l:Li}{kw:List Bool}{g:Gr}(h:cM l kw=some g):∀x∈g.bo,en l kw x=true:=by
 unfold cM at h;rw[map_eq_some_iff]at h;obtain⟨i,hi,h⟩:=h;obtain⟨h1,h2⟩:=fa hi;split at h
 ·rename_i k hk;subst h;unfold f6 at hk;rw [map_eq_some_iff] at hk;obtain ⟨k',hk',rfl⟩:=hk;obtain ⟨h3,h4⟩:=fa hk';rw [show i + 1 + k' = k' + (i + 1) by omega] at h4;unfold dB at h4;simp only [Bool.not_eq_false',and_eq_true,decide_eq_true_eq] at h4;obtain ⟨⟨f1,f2⟩,_⟩:=h4;intro x hx;simp only [gz,mem_cons,not_mem_nil,or_false] at hx;rcases hx with rfl | rfl
  ·exact f1
  ·exact f2
 ·rename_i hk;rw[hk]at h2;cases h2
theorem GI{l:Li}{kw:List Bool}{g:Gr}(h:dY l kw=some g):∀x∈g.bo,en l kw x=true:=by
 unfold dY at h;rw[map_eq_some_iff]at h;obtain⟨i,hi,rfl⟩:=h;obtain⟨h1,h2⟩:=fa hi;unfold fw at h2;simp only[Bool.not_eq_false',and_eq_true,decide_eq_true_eq]at h2;intro x hx;simp only[hO,mem_cons,not_mem_nil,or_false]at hx;subst hx;exact h2.1
theorem UN{l:Li}(hl:aB l=0){kw:List Bool}{out:List Gr}{g:Gr}(h:ue l kw out)(hg:bY l kw=some g):ue l (bi kw g.bo) (out++[g]):=by
 intro d hd hk;have ho:=ur hl hg;rcases A8 g.bo hk with h1 |⟨x,hx,e⟩
 ·obtain⟨g',h2,h3⟩:=h d hd h1;exact⟨g',List.mem_append_left _ h2,h3⟩
 ·obtain ⟨i, hi⟩:=List.getElem?_of_mem hd;have hb:=dq (lr hl hi);have hx0:=(ho.b x hx).1;have ex:d.body = x:=by omega
  unfold bY at hg;cases h1:dm l kw with
  |some g' =>
   rw[h1]at hg;cases hg
   refine⟨g,List.mem_append_right _ (List.mem_singleton.2 rfl),?_⟩;unfold dm at h1;rw[map_eq_some_iff]at h1;obtain⟨i,_,rfl⟩:=h1;refine⟨rfl,?_⟩;rw[List.mem_singleton.1 hx]at ex;rw[ex]
  |none =>
   rw[h1]at hg
   have hf:en l kw x=true:=by
    cases h2:cM l kw with
    |some g'=>rw[h2]at hg;cases hg;exact Co h2 x hx
    |none=>rw[h2]at hg;exact GI hg x hx
   unfold en at hf;rw[To hd ex]at hf;simp at hf
theorem Cl{l:Li}(hl:aB l=0):∀(n:Nat)(kw:List Bool)(out:List Gr),ue l kw out->ue l (cm l n kw out).1 (cm l n kw out).2
 |0,kw,out,h=>h
 |n+1,kw,out,h=>by
  unfold cm;cases hg:bY l kw with
  |none=>exact h
  |some g=>exact Cl hl n _ _ (UN hl h hg)
theorem ui{l:Li}(hl:aB l=0){i:Nat}{d:Dr}(hd:l.dv[i]?=some d):d.body≠0/\∀j d',j<i->l.dv[j]?=some d'->d'.body≠d.body:=by
 have h1:=(cO hl).2.2.1;unfold gh at h1;split at h1
 ·cases h1
 ·have h2:=sD h1 i (List.getElem?_eq_some_iff.1 hd).1;unfold dR at h2;rw[aC hd]at h2;split at h2
  ·cases h2
  ·split at h2
   ·cases h2
   ·split at h2
    ·cases h2
    ·split at h2
     ·cases h2
     ·rename_i h4;split at h2
      ·cases h2
      ·rename_i h5;refine⟨h4,fun j d' hj hd' e=>h5 ?_⟩;rw[List.any_eq_true];exact⟨d',mem_of_getElem? (by rw[getElem?_take,if_pos hj];exact hd'),by simpa using e⟩
theorem Cr{α:Type}{p:α->Bool}:∀{l:List α}{x y:α},x∈l->y∈l->x≠y->p x=true->p y=true->2<=l.countP p
 |z::l,x,y,hx,hy,hn,px,py=>by
  have pos:∀w,w∈l->p w=true->0<l.countP p:=fun w hw pw=>List.countP_pos_iff.2 ⟨w,hw,pw⟩
  rcases List.mem_cons.1 hx with e |hx
  ·rcases List.mem_cons.1 hy with e2 |hy
   ·exact absurd (e.trans e2.symm) hn
   ·have h9:=pos y hy py;rw[List.countP_cons_of_pos (e▸px)];omega
  ·rcases List.mem_cons.1 hy with e |hy
   ·have h9:=pos x hx px;rw[List.countP_cons_of_pos (e▸py)];omega
   ·have:=Cr hx hy hn px py;rw[List.countP_cons];omega
theorem uM{l:Li}(hl:aB l=0):l.dv.length<=2:=by
 have h1:=(cO hl).2.2.1;unfold gh at h1;split at h1
 ·cases h1
 ·omega
theorem Fe{l:Li}(hl:aB l=0)(hs:cH l=0):∀d∈l.dv,∃g∈aN l,g.kind=0/\g.bo=[d.body]:=by
 have h0:ue l (cz l.bo.length 0) []:=by
  intro d hd hk;obtain⟨i,hi⟩:=List.getElem?_of_mem hd;have hb:=dq (lr hl hi);rw[nZ oz oz oz]at hk;exact absurd (of_decide_eq_true hk) (ui hl hi).1
 have h1:=Cl hl l.bo.length _ _ h0;rw[HO]at h1;intro d hd;obtain⟨i,hi⟩:=List.getElem?_of_mem hd;have hb:=dq (lr hl hi)
 have hz:(eF (bI l)).length=0:=by
  unfold cH at hs;split at hs
  ·omega
  ·cases hs
 rw[vO]at hz
 have hlen:(bI l).length=l.bo.length:=by
  have:∀(gs:List Gr)(k:List Bool),(gs.foldl (fun k g=>bi k g.bo) k).length=k.length:=by
   intro gs
   induction gs with
   |nil=>intro k;rfl
   |cons g gs ih=>intro k;rw[foldl_cons,ih,jc]
  unfold bI;rw[this,gM]
 have hk:kn (bI l) d.body=true:=by
  unfold kn;rw[getD_eq_getElem?_getD,getElem?_eq_getElem (by omega:d.body.toNat<(bI l).length)];show(bI l)[d.body.toNat]=true;cases hv:(bI l)[d.body.toNat]'oz with
  |true=>rfl
  |false =>
   exfalso;have hm:false∈bI l:=hv▸List.getElem_mem _;rw[<- List.contains_iff_mem]at hm;rw[hm]at hz;cases hz
 obtain⟨g,hg,h2⟩:=h1 d hd hk;refine⟨g,?_,h2⟩;unfold aN;rw[if_pos hs];exact hg
theorem NS{l:Li}(hl:aB l=0)(hs:cH l=0):l.dv.length<=(aN l).countP (fun g=>decide (g.kind=0)):=by
 have h2:=uM hl;have hg:=Fe hl hs
 match hd:l.dv with
 |[]=>simp
 |[d] =>
  obtain⟨g,h3,h4,_⟩:=hg d (by rw[hd];simp);exact List.countP_pos_iff.2 ⟨g,h3,by simpa using h4⟩
 |[d,d'] =>
  obtain⟨g,h3,h4,h5⟩:=hg d (by rw[hd];simp);obtain⟨g',h3',h4',h5'⟩:=hg d' (by rw[hd];simp);refine Cr h3 h3' ?_ (by simpa using h4) (by simpa using h4');intro e;rw[e,h5']at h5;exact(ui hl (i:=1) (d:=d') (by rw[hd];rfl)).2 0 d oz (by rw[hd];rfl) (by simpa using h5.symm)
 |_::_::_::_=>rw[hd]at h2;simp only[length_cons]at h2;omega
structure Aq where
  ts:LL
  bs:List Pq
  ms:List Int
instance:Inhabited Pq:=⟨⟨[],[],[],[]⟩⟩
instance:Inhabited Aq:=⟨⟨[],[],[]⟩⟩
def Pq.pl(p:Pq):Pl:=⟨p.c.map rt,p.s.map rt,p.x.map rt,p.y.map rt⟩
def Aq.as(a:Aq):As:=⟨a.ts.map (List.map rt),a.bs.map Pq.pl,a.ms⟩
theorem Pq.pl_av(p:Pq):p.pl.av=p.av:=by unfold Pl.av Pq.av Pq.pl;rw[eA,eA,eA,eA]
abbrev Aq.cs(a:Aq):List AV:=[.lst 1 (a.ts.map nA),.lst 4 (a.bs.map Pq.av),.lst 1 (a.ms.map i64)]
abbrev Aq.av(a:Aq):AV:=.agg a.cs
theorem Aq.as_av(a:Aq):a.as.av=a.av:=by
 unfold As.av Aq.as Aq.av Aq.cs;rw[map_map,map_map];congr 3
 ·exact List.map_congr_left (fun x _=>eA x)
 ·congr 1;exact List.map_congr_left (fun x _=>Pq.pl_av x)
theorem Aq.llq(a:Aq):Lw.llq a.as.rs=a.ts:=oq _
def bH(bs:List Pq)(is:List Int)(ps:List Pq):List Pq:=(is.zip ps).foldl (fun k x=>k.set x.1.toNat x.2) bs
def Aq.nxt(a:Aq)(g:Gr)(s:Sv):Aq:=⟨s.ts,bH a.bs g.bo s.ps,a.ms++[s.mode]⟩
def bp:Pq:=⟨[],[],[],[]⟩
def gN:Pq:=⟨[1],[],[],[]⟩
def gq(l:Li):Aq:=⟨[],(List.replicate l.bo.length bp).set 0 gN,[]⟩
def iA:Tn:=⟨⟨false,[],[]⟩,false⟩
def cg(g:Gr)(xs:List Tn):Tn:=if g.kind=0 then xs.getD g.driver.toNat iA else iA
theorem Du:∀(zs:List (Int×Pq))(bs:List Pq),(zs.foldl (fun k x=>k.set x.1.toNat x.2) bs).length=bs.length
 |[],bs=>rfl
 |z::zs,bs=>by rw[foldl_cons,Du zs,length_set]
theorem Ie:∀(zs:List (Int×Pq))(bs:List Pq)(p:Pq),p∈zs.foldl (fun k x=>k.set x.1.toNat x.2) bs->p∈bs\/∃z∈zs,z.2=p
 |[],bs,p,h=>.inl h
 |z::zs,bs,p,h=>by
  rw[foldl_cons]at h;rcases Ie zs _ p h with h |⟨z',hz,e⟩
  ·rcases List.mem_or_eq_of_mem_set h with h |h
   ·exact .inl h
   ·exact .inr ⟨z,mem_cons_self,h.symm⟩
  ·exact .inr ⟨z',mem_cons_of_mem _ hz,e⟩
theorem uG(bs:List Pq)(is:List Int)(ps:List Pq):(bH bs is ps).length=bs.length:=Du _ _
theorem Dq{bs:List Pq}{is:List Int}{ps:List Pq}{p:Pq}(h:p∈bH bs is ps):p∈bs\/p∈ps:=by
 rcases Ie _ _ _ h with h |⟨z,hz,e⟩
 ·exact .inl h
 ·exact .inr (e▸(List.of_mem_zip hz).2)
theorem VW{bs:List Pq}{is:List Int}{ps:List Pq}{i:Nat}{b:Int}{p:Pq}(hb:is[i]?=some b)(hp:ps[i]?=some p) :
  bH bs (is.take (i+1)) (ps.take (i+1))=(bH bs (is.take i) (ps.take i)).set b.toNat p:=by
 have h1:is.take (i+1)=is.take i++[b]:=by rw[List.take_add_one,hb];rfl
 have h2:ps.take (i+1)=ps.take i++[p]:=by rw[List.take_add_one,hp];rfl
 have hl1:=(List.getElem?_eq_some_iff.1 hb).1;have hl2:=(List.getElem?_eq_some_iff.1 hp).1;unfold bH;rw[h1,h2,List.zip_append (by rw[length_take,length_take];omega),List.foldl_append];rfl
def lF(s j r E:Nat):Nat:=3*E+2*s+2*eB r j+10
def ke(s j r E:Nat):Nat:=24*lF s j r E+8*eB r j+5*(8*s+5)+23
def IY(s j r E:Nat):Nat:=iB r j (8*lF s j r E+2*eB r j+8)
def uz(s j r E:Nat):Nat:=iB (r+ke s j r E) j (8*lF s j r E+2*eB r j+8)
def td(s j r E:Nat):Nat:=oZ s (lF s j r E) (8*s+5) (eB r j) (eB (r+ke s j r E) (j+1)) (IY s j r E) (uz s j r E)
def mO(s g j r E:Nat):Nat:=lF s j r E+2*g+2*s+4
def eD(s g:Nat):Nat->Nat->Nat->Nat->Nat->Bool
  |0,_,j,r,E=>decide (E<=3200000000/\r<=400000000/\j<=2)
  |n+1,y,j,r,E=>decide (E<=3200000000/\r<=400000000/\j<=2)&&(eD s g n y j r (mO s g j r E) &&
      (decide (y=0)||(decide (j<=1/\E<=3900000/\r<=64990/\r+ke s j r E<=5000000000/\uz s j r E<=50000000000)&&eD s g n (y-1) (j+1) (r+ke s j r E) (td s j r E))))
theorem Mg:eD 32 134 3 1 0 0 2=true:=by decide +kernel
theorem VJ:eD 9 42 4 2 0 0 2=true:=by decide +kernel
theorem v6{s g n y j r E:Nat}(h:eD s g n y j r E=true):E<=3200000000/\r<=400000000/\j<=2:=by
 cases n with
 |zero=>exact of_decide_eq_true h
 |succ n =>
  unfold eD at h;simp only[and_eq_true,decide_eq_true_eq]at h;exact⟨h.1.1,h.1.2.1,h.1.2.2⟩
theorem Ve{s g n y j r E:Nat}(h:eD s g n y j r E=true):E<=50000000000/\r<=400000000/\j<=2:=by
 have:=v6 h;omega
theorem tc{s g n y j r E:Nat}(h:eD s g (n+1) y j r E=true):(E<=20000000000/\r<=400000000/\j<=2)/\eD s g n y j r (mO s g j r E)=true:=by
 unfold eD at h;simp only[and_eq_true,decide_eq_true_eq]at h;exact⟨⟨by omega,h.1.2⟩,h.2.1⟩
theorem rS{s g n y j r E:Nat}(h:eD s g (n+1) (y+1) j r E=true):(j<=1/\E<=3900000/\r<=64990/\r+ke s j r E<=5000000000/\uz s j r E<=50000000000)/\eD s g n y (j+1) (r+ke s j r E) (td s j r E)=true:=by
 unfold eD at h;simp only[and_eq_true,or_eq_true,decide_eq_true_eq,Nat.add_sub_cancel]at h;rcases h.2.2 with h1 |h1
 ·omega
 ·exact h1
structure QInv(l:Li)(j r E:Nat)(a:Aq):Prop where
  tw:Tw a.ts r
  lv:a.ts.length<=j
  bs:∀p∈a.bs,Pq.ok a.ts.length E p
  ln:a.bs.length=l.bo.length
theorem Pq.ok.up{n n' e e':Nat}{p:Pq}(h:Pq.ok n e p)(hn:n<=n')(h5:n'<=5)(he:e<=e'):Pq.ok n' e' p :=
 ⟨⟨h5,h.c.nl.mono hn,h.c.cb.mono he⟩,⟨h5,h.s.nl.mono hn,h.s.cb.mono he⟩,⟨h5,h.x.nl.mono hn,h.x.cb.mono he⟩,⟨h5,h.y.nl.mono hn,h.y.cb.mono he⟩⟩
theorem Pq.ok.lv{n m e:Nat}{p:Pq}(h:Pq.ok n e p)(hn:n=m):Pq.ok m e p:=hn▸h
theorem uO{r r':Nat}(h:r<=r'):∀j,eB r j<=eB r' j
 |0=>le_refl _
 |j+1=>by have:=uO h j;simp only[eB];omega
theorem FS{r r':Nat}(h:r<=r'):∀j e,iB r j e<=iB r' j e
 |0,e=>le_refl _
 |j+1,e=>by
  have h1:=uO h j;have h2:=uO h (j+1);have h3:=FS h j (4*e+3*eB r j+r+1);have h4:=xn r' j (e:=4*e+3*eB r j+r+1) (f:=4*e+3*eB r' j+r'+1) oz;simp only[iB];omega
theorem vU:Pq.ok 0 2 bp:=by
 have h:Nm 0 2 []:=⟨by omega,.inl rfl,⟨1,0,⟨by decide,fun q h=>by cases h⟩,by decide,by decide⟩⟩
 exact⟨h,h,h,h⟩
theorem GU:Pq.ok 0 2 gN:=by
 have h:Nm 0 2 [1]:=⟨by omega,.inr ⟨0,le_refl _,rfl⟩,Cb.mono (Cb.int (z:=1) (e:=1) (by decide)) oz⟩
 exact⟨h,vU.c,vU.c,vU.c⟩
theorem vg:Tw [] 0:=⟨by decide,(fun j h=>by cases h),(fun j h=>by cases h),⟨1,1,by decide,(fun d h=>by cases h),by decide,by decide⟩,by omega⟩
theorem U3(l:Li):QInv l 0 0 2 (gq l):=by
 refine⟨vg,le_refl _,fun p hp=>?_,by simp[gq]⟩;rcases List.mem_or_eq_of_mem_set hp with h |h
 ·rw[(List.mem_replicate.1 h).2];exact vU
 ·rw[h];exact GU
theorem Pq.ok.nr{n e:Nat}{p:Pq}(h:Pq.ok n e p)(he:e<=lm n):∀x∈p.pl.l,NR x e:=by
 intro x hx;simp only[Pl.l,Pq.pl,mem_cons,not_mem_nil,or_false]at hx;rcases hx with rfl |rfl |rfl |rfl
 ·exact h.c.rt he
 ·exact h.s.rt he
 ·exact h.x.rt he
 ·exact h.y.rt he
theorem Pq.ok.num{n e:Nat}{p:Pq}(h:Pq.ok n e p):∀x∈p.pl.l,bQ n x=0:=by
 intro x hx;simp only[Pl.l,Pq.pl,mem_cons,not_mem_nil,or_false]at hx;rcases hx with rfl |rfl |rfl |rfl
 ·exact om h.c.nl
 ·exact om h.s.nl
 ·exact om h.x.nl
 ·exact om h.y.nl
section
variable{l:Li}{j r E:Nat}{a:Aq}(Q:QInv l j r E a)
include Q
theorem QInv.chk:bb a.as.rs=0:=Q.tw.chk
theorem QInv.mem{p:Pl}(h:p∈a.as.bs):∃q∈a.bs,q.pl=p:=by have _:=Q;exact List.mem_map.1 h
theorem QInv.nr(hE:E<=50000000000){p:Pl}(h:p∈a.as.bs):∀x∈p.l,NR x E:=by
 obtain⟨q,hq,rfl⟩:=Q.mem h;exact(Q.bs q hq).nr (le_trans hE (iu _))
theorem QInv.ab(hl:aB l=0)(hE:E<=50000000000)(hr:r<=400000000):AB a.as:=by
 refine⟨Q.tw.tr.mono hr oz,fun p hp x hx=>(Q.nr hE hp x hx).mono hE,?_,?_⟩
 ·show(a.ts.map _).length<=8;rw[length_map];have:=Q.tw.three;omega
 ·show(a.bs.map _).length<=30;rw[length_map,Q.ln];have:=(cO hl).2.2.2.1;omega
theorem QInv.sma(hE:E<=50000000000){F:Nat}(hF:E<=F)(k:Int)(own:Bool):sf F l k a.as own :=
 fun b _ _ p hp x hx=>(Q.nr hE (mem_of_getElem? hp) x hx).mono hF
theorem QInv.nd(hl:aB l=0){g:Gr}(hg:GrOk l g){own:Bool}:∀b∈cK l g own,gE a.as b=0:=by
 intro b hb;unfold gE;split
 ·rfl
 ·have h1:=yi hl hg b hb;obtain ⟨p,hp⟩:=au (l:=a.bs) (i:=b.toNat) (by rw [Q.ln]; omega);have e:a.as.bs[b.toNat]? = some p.pl:=by show (a.bs.map Pq.pl)[b.toNat]? = _; rw [getElem?_map,hp]; rfl
  rw[aC e];unfold bn;rw[if_neg (by rw[Q.chk];simp)];have e2:a.as.rs.length=a.ts.length:=length_map _;rw[e2];exact o9 (fun x hx=>(Q.bs p (mem_of_getElem? hp)).num x hx)
theorem QInv.dy0(hl:aB l=0)(hs:cH l=0){k:Nat}{g:Gr}(hg:(aN l)[k]?=some g)(own:Bool):fE l k a.as own=0:=by
 have hk:=(List.getElem?_eq_some_iff.1 hg).1;obtain⟨_,ho⟩:=r5 hl (mem_of_getElem? hg);have hgA:jk l (k:Nat)=g:=aC hg;rw[qz hl,HB hs oz (by show(a.bs.map _).length=_;rw[length_map,Q.ln]) Q.chk,hgA];exact o9 (fun b hb=>Q.nd hl ho b (AQ.1 hb))
end
structure WkC(l:Li)(xs:List Tn)(s g:Nat):Prop where
  hl:l.ok
  li:aB l=0
  sp:cH l=0
  cs:Cs s l
  ln:xs.length=l.dv.length
  ok:∀x∈xs,x.t.ok/\x.err=0/\Qb 1000 x.t.q/\Cb g [du x.half x.t.q]/\Cb g [dp x.half x.t.q]
theorem CE{l:Li}{g:Gr}(h:DyK l g)(hk:g.kind=0):0<=g.driver/\g.driver<l.dv.length:=by
 cases h with
 | @drv b z d _ _ t d0 hd hb=>have:=(List.getElem?_eq_some_iff.1 hd).1;exact⟨d0,by show d<_;omega⟩
 |rrr=>exact absurd hk (by simp)
 |pr=>exact absurd hk (by simp)
 |rp=>exact absurd hk (by simp)
theorem UW:iA.t.ok:=⟨(fun x h=>by cases h),(fun x h=>by cases h),zero_le _,zero_le _⟩
theorem Nx:Qb 1000 iA.t.q:=by
 have e:iA.t.q=0:=by decide +kernel
 rw[e];exact Qb.zero.mono oz
section
variable{l:Li}{xs:List Tn}{s g:Nat}(W:WkC l xs s g){k:Nat}{gr:Gr}(hg:(aN l)[k]?=some gr)
include W hg
theorem WkC.grp:DyK l gr/\GrOk l gr:=r5 W.li (mem_of_getElem? hg)
theorem WkC.tn:(cg gr xs).t.ok/\Qb 1000 (cg gr xs).t.q/\(gr.kind=0->∃x∈xs,cg gr xs=x):=by
 unfold cg
 by_cases hk:gr.kind=0
 ·rw[if_pos hk];have h:=CE (W.grp hg).1 hk;obtain⟨x,hx⟩:=au (l:=xs) (i:=gr.driver.toNat) (by rw[W.ln];omega);rw[aC hx];have hm:=mem_of_getElem? hx;exact⟨(W.ok x hm).1,(W.ok x hm).2.2.1,fun _=>⟨x,hm,rfl⟩⟩
 ·rw[if_neg hk];exact⟨UW,Nx,fun h=>absurd h hk⟩
variable{j r E:Nat}{a:Aq}(Q:QInv l j r E a)
include Q
theorem QInv.dyOk{F:Nat}(hE:E<=50000000000)(hF:E<=F):DyOk F l k a.as false k gr:=by
 obtain⟨i,g',h⟩:=In (Q.sma hE hF k false) (Q.dy0 W.li W.sp hg false);have e:i=k:=by have:=h.hk;omega
 subst e;have:=h.hg;rw[hg]at this;cases this;exact h
theorem QInv.dyS(hr:r<=64990)(hj:j<=1):DyS a.as:=by have _:=W;have _:=hg;exact⟨Q.tw.tr.mono hr oz,fun _=>by rw[a.llq];exact le_trans Q.lv hj⟩
theorem QInv.dyW(hE:E<=50000000000)(hr:r<=400000000):DyW l a.as:=by have _:=hg;exact⟨W.hl,W.li,Q.ab W.li hE hr,Q.chk⟩
theorem QInv.twl:Tw (Lw.llq a.as.rs) r:=by have _:=W;have _:=hg;rw[a.llq];exact Q.tw
theorem QInv.drv{n y:Nat}(ok:eD s g (n+1) y j r E=true)(hk:gr.kind=0):∀sv∈fp l a.as gr (cg gr xs),QInv l j r (mO s g j r E) (a.nxt gr sv):=by
 obtain⟨⟨hE,hr,hj⟩,_⟩:=tc ok;have D:=QInv.dyW W hg Q oz hr;have O:=QInv.dyOk W hg Q (F:=E) oz (le_refl _);obtain⟨i,z0,d,j0,e,hj0,p0⟩:=xS O hk;obtain⟨_,_,hx⟩:=W.tn hg;obtain⟨x,hx,ex⟩:=hx hk;obtain⟨_,he,_,hc,hs⟩:=W.ok x hx;have hlen:(Lw.llq a.as.rs).length=a.ts.length:=by rw[a.llq]
 have tw:=QInv.twl W hg Q;have hq0:=nT W.hl W.li W.cs hj0 p0.or;have hK:eB r (Lw.llq a.as.rs).length<=eB r j:=gV r (by rw[hlen];exact Q.lv);obtain⟨o1,o2⟩:=ss W.hl W.li W.cs D.al D.hc tw hK hj0 p0;rw[ex];unfold fp;rw[if_pos hk,e];show ∀sv∈k8 l a.as i (l.jo.getD z0.toNat default) x,_;rw[aC hj0];unfold k8;rw[if_neg oz];have hp:=Po (ts:=Lw.llq a.as.rs) (p:=ai l j0 i) (o:=aO l a.as j0 i) hc hs hq0 tw.five o1 o2
 have hp2:Pq.ok a.ts.length (mO s g j r E) (kT l a.as i j0 x):=by
  have:=yG (a:=0) (b:=0) hp (e:=mO s g j r E) (by unfold mO lF;omega) (by unfold mO lF;omega);exact Pq.ok.lv this hlen
 refine iz ⟨?_,?_,?_,?_⟩
 ·exact tw
 ·show(Lw.llq a.as.rs).length<=j;rw[hlen];exact Q.lv
 ·intro p hp3;show Pq.ok (Lw.llq a.as.rs).length _ p;rw[hlen];rcases Dq hp3 with h |h
  ·exact(Q.bs p h).up (le_refl _) Q.tw.five (by unfold mO lF;omega)
  ·rw[List.mem_singleton.1 h];exact hp2
 ·exact(uG _ _ _).trans Q.ln
theorem QInv.dy{n y:Nat}(ok:eD s g (n+1) (y+1) j r E=true)(hk:gr.kind≠0):∀sv∈fp l a.as gr (cg gr xs),QInv l (j+1) (r+ke s j r E) (td s j r E) (a.nxt gr sv):=by
 obtain⟨⟨hj,hE,hr,hX,hJ⟩,_⟩:=rS ok;have D:DyR l a.as:=⟨QInv.dyW W hg Q oz oz,QInv.dyS W hg Q hr hj⟩
 have O:=QInv.dyOk W hg Q (F:=E) oz (le_refl _);have hlen:(Lw.llq a.as.rs).length=a.ts.length:=by rw[a.llq]
 have hlv:(Lw.llq a.as.rs).length<=j:=by rw[hlen];exact Q.lv
 have tw:=QInv.twl W hg Q
 have Z:Szs (Lw.llq a.as.rs).length r (3*E+2*s+2*eB r j+10) (8*s+5) (ke s j r E) (eB r j) (eB (r+ke s j r E) (j+1)) (IY s j r E) (uz s j r E):=by
  refine⟨by omega,gV r hlv,?_,hX,gV _ oz,?_,?_,hJ,?_,?_⟩
  ·unfold ke lF;omega
  ·exact yy r _ hlv
  ·exact yy _ _ hlv
  ·exact le_trans (gV r oz) (uO oz _)
  ·exact FS oz _ _
 have hn:(Lw.llq a.as.rs).length<=1:=by omega
 have key:∀sv∈fp l a.as gr (cg gr xs),Xz (Lw.llq a.as.rs) r (ke s j r E) sv.ts/\∀p∈sv.ps,Pq.ok sv.ts.length (td s j r E) p:=by
  unfold fp;rw[if_neg hk]
  by_cases hk1:gr.kind=1
  ·obtain⟨i,k2,z0,z1,z2,j0,j1,j2,P⟩:=O.rrr hk1;obtain⟨e0,e1,e2,b0,b1,_⟩:=P.at;rw[if_pos hk1,e0,e1,e2,b0,b1];exact K6 D hn W.cs tw Z (le_refl _) P
  ·rw[if_neg hk1]
   by_cases hk2:gr.kind=2
   ·obtain⟨i,z0,z1,j0,j,P,ha,hb⟩:=O.pr hk2;obtain⟨e0,e1,b0,_⟩:=P.at;rw[if_pos hk2,e0,e1,b0];exact NU D hn W.cs tw Z (le_refl _) P ha hb
   ·obtain⟨i,z0,z1,j0,j,P,_,hj,hb⟩:=O.rp hk hk1 hk2;obtain⟨e0,e1,b0,hk3⟩:=P.at;rw[if_neg hk2,e0,e1,b0];exact Kg D hn W.cs tw Z (le_refl _) P hj hb
 intro sv hsv;obtain⟨hx,hp⟩:=key sv hsv;have h5:=hx.tw.five;have hup:=hx.up;have hln:=hx.ln;rw[hlen]at hup hln;refine⟨hx.tw,?_,?_,?_⟩
 ·show sv.ts.length<=j+1;have:=Q.lv;omega
 ·intro p hp3;rcases Dq hp3 with h |h
  ·exact(Q.bs p h).up hup h5 (by unfold td oZ wZ lF;omega)
  ·exact hp p h
 ·exact(uG _ _ _).trans Q.ln
end
def mK(l:Li)(a:As)(g:Gr)(x:Tn):Nat:=(jv l a g x).2
def fm(F:Int->Bool)(sg:Bool)(f:Sv->List Aq×Nat):List Sv->List Aq×Nat
  |[]=>([],0)
  |s::r=>if F s.mode=false then fm F sg f r else if(f s).2≠0 then f s else if sg=true then f s else((f s).1++(fm F sg f r).1,(fm F sg f r).2)
def jb(F:Nat->Int->Bool)(sg:Bool)(l:Li)(xs:List Tn)(gs:List Gr):Nat->Aq->List Aq×Nat
  |0,a=>([a],0)
  |n+1,a=>if mK l a.as (gs.getD a.ms.length default) (cg (gs.getD a.ms.length default) xs)≠0 then([],mK l a.as (gs.getD a.ms.length default) (cg (gs.getD a.ms.length default) xs))
    else fm (F a.ms.length) sg (fun s=>jb F sg l xs gs n (a.nxt (gs.getD a.ms.length default) s)) (fp l a.as (gs.getD a.ms.length default) (cg (gs.getD a.ms.length default) xs))
theorem QN{l:Li}{xs:List Tn}{s g:Nat}(W:WkC l xs s g){k:Nat}{gr:Gr}(hg:(aN l)[k]?=some gr){j r E:Nat}{a:Aq}(Q:QInv l j r E a){n y:Nat}(ok:eD s g (n+1) y j r E=true)(hy:gr.kind≠0->0<y) :
  SolP (fp l a.as gr (cg gr xs)) gr.kind a.ts.length gr.bo.length:=by
 obtain⟨⟨hE,hr,hj⟩,_⟩:=tc ok;have D:=QInv.dyW W hg Q oz hr;have h3:(Lw.llq a.as.rs).length<=2:=by rw[a.llq];have:=Q.lv;omega
 have hlen:(Lw.llq a.as.rs).length=a.ts.length:=by rw[a.llq]
 rw[<- hlen]
 by_cases hk:gr.kind=0
 ·exact Gi hE D h3 (QInv.dyOk W hg Q (F:=E) oz (le_refl _)) (fun h=>absurd hk h) (W.tn hg).2.1
 ·have hy:=hy hk;obtain ⟨y',rfl⟩:∃ y',y = y' + 1:=⟨y - 1,by omega⟩
  obtain⟨⟨hj,hE,hr,hX,hJ⟩,_⟩:=rS ok;exact Gi oz D h3 (QInv.dyOk W hg Q (F:=3900000) oz hE) (fun _=>⟨rfl,QInv.dyS W hg Q hr hj⟩) (W.tn hg).2.1
theorem Cu{P:Program}{f:FuncId}{sz:Nat}{r:AV}{H H':Hp}(h:∀(a:Option Addr)(cap:Nat),Con P f [.v (.slice a 0 cap)] H r H'):Con P f [.lst sz []] H r H' :=
 ⟨(h none 0).ok,fun ext m w vs he hr hn hv=>by
  have hn1:vs.size=1:=hn;have h0:=hv 0 vs[0] (.lst sz []) (by simp[hn1]) rfl
  have hy:∃a cap,vs[0]=.slice a 0 cap:=by
   generalize vs[0]=y at h0;cases h0 with
   |lst0 a cap=>exact⟨_,_,rfl⟩
   |lst u hb hc hl hs h1 hu hrr=>exact⟨_,_,rfl⟩
  obtain⟨a,cap,hy⟩:=hy;refine(h a cap).ret ext m w vs he hr hn (fun j v x hv2 hx=>?_)
  match j,hx with
  |0,hx =>
   cases hx;have:v=.slice a 0 cap:=by rw[<- hy];have:=Array.getElem?_eq_some_iff.1 hv2;exact this.2.symm
   subst this;exact .v _⟩
theorem PI(e:AV)(es:List AV)(hc:∀x∈e::es,x.cells.length=1)(hl:(e::es).length<=1000):Con prog 287 [.lst 1 (e::es)] [] (.ms 901 1 0 (e::es).length) [(901,some (.row 1 (e::es)))]:=by
 refine gF func287 (fun k z h=>by cases h) ?_;refine gs (HX (.tmp rfl) (by kernel_rfl) rfl) ?_;refine gC (fun t4=>?_) (fun t4=>?_) (st1:=(2,0));cases t4;refine gs (jD T39 rfl T3 rfl rfl rfl) ?_;refine gs (cf (.tmp rfl) rfl rfl (.tmp rfl) T39 rfl T3 rfl rfl (by simp only[];omega) rfl rfl) ?_ (77777,0);refine gW (Wk.of (sl:=[(2,some (.ms 7 1 0 (e::es).length))]) (hp:=[(7,some (.row 1 (e::es)))]) (.cons rfl (Sub.of (congrArg (AV.ms 7 1 0) (Nat.zero_add _))) .nil) (.k .nil)) ?_;refine gR ?_;exact aq.own1 rfl rfl rfl
theorem Mv(a:Option Addr)(cap:Nat):Con prog 287 [.v (.slice a 0 cap)] [] (.ms 901 1 0 0) [(901,some (.row 1 []))]:=by
 refine gF func287 (fun k z h=>by cases h) ?_;refine gs (Iz (.tmp rfl) (by kernel_rfl) rfl) ?_;refine gC (fun t4=>?_) (fun t4=>?_) (st1:=(2,0)) (st2:=(77777,0))
 ·refine gW ((Wk.virt 901 1 rfl).trans<|Wk.o (sl:=[]) (hp:=[(901,some (.row 1 []))])) ?_;refine gR ?_;exact(aq.keep (a8 rfl)).sub (Sub.nM _ _ _)
 refine gW (Wk.of (sl:=[(0,some (.lst 1 []))]) (hp:=[]) (.cons rfl (Sub.nil _ _ _) .nil) .nil) ?_;refine gs (jD T39 rfl T3 rfl rfl rfl) ?_;refine gs (cf (.tmp rfl) rfl rfl (.tmp rfl) T39 rfl T3 rfl rfl (by simp) rfl rfl) ?_ (77777,0);refine gW (Wk.o (sl:=[(2,some (.ms 7 1 0 0))]) (hp:=[(7,some (.row 1 []))])) ?_;refine gR ?_;exact aq.own1 rfl rfl rfl
theorem Tg(e:AV)(es:List AV)(hc:∀x∈e::es,x.cells.length=4)(hl:(e::es).length<=1000):Con prog 289 [.lst 4 (e::es)] [] (.ms 900 4 0 (e::es).length) [(900,some (.row 4 (e::es)))]:=by
 refine gF func289 (fun k z h=>by cases h) ?_;refine gs (HX (.tmp rfl) (by kernel_rfl) rfl) ?_;refine gC (fun t4=>?_) (fun t4=>?_) (st1:=(2,0));cases t4;refine gs (jD T38 rfl T69 rfl rfl rfl) ?_;refine gs (cf (.tmp rfl) rfl rfl (.tmp rfl) T38 rfl T69 rfl rfl (by simp only[];omega) rfl rfl) ?_ (77777,0);refine gW (Wk.of (sl:=[(2,some (.ms 7 4 0 (e::es).length))]) (hp:=[(7,some (.row 4 (e::es)))]) (.cons rfl (Sub.of (congrArg (AV.ms 7 4 0) (Nat.zero_add _))) .nil) (.k .nil)) ?_;refine gR ?_;exact aq.own1 rfl rfl rfl
theorem O4(a:Option Addr)(cap:Nat):Con prog 289 [.v (.slice a 0 cap)] [] (.ms 900 4 0 0) [(900,some (.row 4 []))]:=by
 refine gF func289 (fun k z h=>by cases h) ?_;refine gs (Iz (.tmp rfl) (by kernel_rfl) rfl) ?_;refine gC (fun t4=>?_) (fun t4=>?_) (st1:=(2,0)) (st2:=(77777,0))
 ·refine gW ((Wk.virt 900 4 rfl).trans<|Wk.o (sl:=[]) (hp:=[(900,some (.row 4 []))])) ?_;refine gR ?_;exact(aq.keep (a8 rfl)).sub (Sub.nM _ _ _)
 refine gW (Wk.of (sl:=[(0,some (.lst 4 []))]) (hp:=[]) (.cons rfl (Sub.nil _ _ _) .nil) .nil) ?_;refine gs (jD T38 rfl T69 rfl rfl rfl) ?_;refine gs (cf (.tmp rfl) rfl rfl (.tmp rfl) T38 rfl T69 rfl rfl (by simp) rfl rfl) ?_ (77777,0);refine gW (Wk.o (sl:=[(2,some (.ms 7 4 0 0))]) (hp:=[(7,some (.row 4 []))])) ?_;refine gR ?_;exact aq.own1 rfl rfl rfl
theorem EZ(es:List AV)(hc:∀x∈es,x.cells.length=1)(hl:es.length<=1000):Con prog 287 [.lst 1 es] [] (.ms 901 1 0 es.length) [(901,some (.row 1 es))]:=by
 cases es with
 |nil=>exact Cu Mv
 |cons e es=>exact PI e es hc hl
theorem Pg(es:List AV)(hc:∀x∈es,x.cells.length=4)(hl:es.length<=1000):Con prog 289 [.lst 4 es] [] (.ms 900 4 0 es.length) [(900,some (.row 4 es))]:=by
 cases es with
 |nil=>exact Cu O4
 |cons e es=>exact Tg e es hc hl
theorem LA(es:List AV)(hc:∀x∈es,x.cells.length=1)(hl:es.length<=1000):FP 287 [.lst 1 es] (.lst 1 es):=by
 have h:=Con.freeze oz (EZ es hc hl)
 rwa [drop_zero,take_length]at h
theorem FL(ms:List Int):∀x∈ms.map i64,x.cells.length=1:=fun x hx=>by obtain⟨m,_,rfl⟩:=List.mem_map.1 hx;rfl
theorem Ns(bs:List Pq):∀x∈bs.map Pq.av,x.cells.length=4:=fun x hx=>by obtain⟨m,_,rfl⟩:=List.mem_map.1 hx;rfl
theorem tV{n e:Nat}{x:List Rat}(h:Nm n e x)(he:e<=100000000000):FP 288 [nA x] (nA x):=by
 have hlen:=h.nl.len5 h.five;have hqs:∀q∈x,Qs q:=fun q hq=>h.cb.qs oz hq
 refine ah func288 ?_;refine gl ?_;refine gW (Wk.virt 901 3 rfl) ?_;refine aI [6,7] [] (fun(j:Nat)=>[(3,some (.ms 901 3 0 j)),(8,some (i64 j))]) (fun j=>[(901,some (.row 3 ((x.take j).map qA)))]) (fun j=>j<=x.length) (fun j=>x.length-j) 0 (zero_le _) ?_ (h1:=(.cons rfl (Sub.nM _ _ _) (.k .nil)));rintro j hj K1 J1;refine gC (fun t9=>?_) (fun t9=>?_) (st2:=(7,0))
 ·have hjn:=aQ t9;obtain⟨q,hq⟩:=au hjn;have hadd:=oG (rt q) (rt 0) (hqs q (mem_of_getElem? hq)).ok Qs.zero.ok;rw[sF,bP]at hadd;refine gi (ax hq) ?_;refine gc (Con.sA (.cons (.refl _) (.cons jy .nil)) hadd) ?_;refine gs (cf (.tmp rfl) rfl (by rw[length_map,length_take];omega) (.tmp rfl) T67 rfl T45 rfl rfl (by simp only[length_cons,length_nil];omega) rfl rfl) ?_ (6,0);refine gW (Wk.of (sl:=[(6,some (nA x)),(7,some (i64 x.length)),(8,some (i64 j)),(3,some (.ms 17 3 0 (j+1)))]) (hp:=[(17,some (.row 3 ((x.take (j+1)).map qA)))]) aV (.cons rfl (BlkSub.of (by rw[dj hq,map_append];rfl)) .nil)) ?_ (6,0);refine gW (Wk.rk (k:=17) (d:=901) rfl rfl) ?_;refine ga aF ?_;exact aE J1 (j+1) hjn
 have hjn:=a6 hj t9;subst hjn;refine gW ((Wk.freeze (k:=901) rfl).trans<|Wk.of (sl:=[(3,some (nA x))]) (hp:=[]) (.cons rfl (Sub.of (by rw[bN (by simp)];simp[nA])) .nil) .nil) ?_;refine ae ?_;rfl
theorem L0{a:Aq}{n e:Nat}(h5:n<=5)(ht:∀x∈a.ts,Nm n e x)(hb:∀p∈a.bs,Pq.ok n e p)(he:e<=100000000000)(l1:a.ts.length<=100)(l2:a.bs.length<=100)(l3:a.ms.length<=100):FP 190 [a.av] a.av:=by
 refine ah func190 ?_;refine gc (LA _ (FL _) (by rw[length_map];omega)) ?_;refine gl ?_;refine gW (Wk.virt 900 1 rfl) ?_;refine aI [1,2,3,14,15] [1,2] (fun(i:Nat)=>[(16,some (i64 i))]) (fun i=>[(3,some (.box [.ms 900 1 0 i,nS,.lst 1 (a.ms.map i64)])),(900,some (.row 1 ((a.ts.take i).map nA)))]) (fun i=>i<=a.ts.length) (fun i=>a.ts.length-i) 0 (zero_le _) ?_ (h2:=(.cons rfl (BlkSub.bL (.cons (.nM _ _ _) (.cons (.refl _) (.cons (.refl _) .nil))) rfl) (.k .nil)));rintro i hi K1 J1;refine gC (fun t17=>?_) (fun t17=>?_) (st2:=(7,0))
 ·have hin:=aQ t17;obtain ⟨d,hd⟩:=au hin;refine gi (ax hd) ?_;refine gc (tV (ht d (mem_of_getElem? hd)) he) ?_;refine gs (cf (.tmp rfl) rfl (by rw [length_map,length_take]; omega) (.tmp rfl) T35 rfl T67 rfl rfl (by simp only [length_cons,length_nil]; omega) rfl rfl) ?_;refine gD ?_ (6,0);refine gW (Wk.of (sl:=[(1,some (.ptr 1 0)),(2,some (.ptr 2 0)),(3,some (.ptr 3 0)),(14,some (.lst 1 (a.ts.map nA))),(15,some (i64 a.ts.length)),(16,some (i64 i))]) (hp:=[(1,some (.box a.cs)),(2,some (.box [nS,nS,nS])),(3,some (.box [.ms 26 1 0 (i + 1),nS,.lst 1 (a.ms.map i64)])),(26,some (.row 1 ((a.ts.take (i + 1)).map nA)))]) aV (.k (.k (.k (.cons rfl (BlkSub.of (by rw [dj hd,map_append]; rfl)) .nil))))) ?_ (6,0)
  refine gW (Wk.rk (k:=26) (d:=900) rfl rfl) ?_;refine ga aF ?_;exact aE J1 (i+1) hin
 have hin:=a6 hi t17;subst hin;refine gW ((Wk.freeze (k:=900) rfl).trans<|Wk.of (sl:=[(1,some (.ptr 1 0)),(2,some (.ptr 2 0)),(3,some (.ptr 3 0))]) (hp:=[(1,some (.box a.cs)),(2,some (.box [nS,nS,nS])),(3,some (.box [.lst 1 (a.ts.map nA),nS,.lst 1 (a.ms.map i64)]))]) aV (.k (.k (.cons rfl (BlkSub.bL (.cons (Sub.of (by rw[bN (by simp)];simp)) (.cons (.refl _) (.cons (.refl _) .nil))) rfl) .nil)))) ?_;refine gl ?_;refine gW (Wk.virt 902 4 rfl) ?_;refine aI [1,2,3,31,32] [1,2] (fun(i:Nat)=>[(33,some (i64 i))]) (fun i=>[(3,some (.box [.lst 1 (a.ts.map nA),.ms 902 4 0 i,.lst 1 (a.ms.map i64)])),(902,some (.row 4 ((a.bs.take i).map Pq.av)))]) (fun i=>i<=a.bs.length) (fun i=>a.bs.length-i) 0 (zero_le _) ?_ (h2:=(.cons rfl (BlkSub.bL (.cons (.refl _) (.cons (.nM _ _ _) (.cons (.refl _) .nil))) rfl) (.k .nil)));rintro i hi K2 J2;refine gC (fun t34=>?_) (fun t34=>?_) (st2:=(12,0))
 ·have hin:=aQ t34;obtain ⟨p,hp⟩:=au hin;have ok:=hb p (mem_of_getElem? hp);refine gi (ax hp) ?_;refine gc (tV ok.c he) ?_;refine gc (tV ok.s he) ?_;refine gc (tV ok.x he) ?_;refine gc (tV ok.y he) ?_;refine gs (cf (.tmp rfl) rfl (by rw [length_map,length_take]; omega) (.tmp rfl) T38 rfl T69 rfl rfl (by simp only [length_cons,length_nil]; omega) rfl rfl) ?_;refine gD ?_ (11,0);refine gW (Wk.of (sl:=[(1,some (.ptr 1 0)),(2,some (.ptr 2 0)),(3,some (.ptr 3 0)),(31,some (.lst 4 (a.bs.map Pq.av))),(32,some (i64 a.bs.length)),(33,some (i64 i))]) (hp:=[(1,some (.box a.cs)),(2,some (.box [nS,nS,nS])),(3,some (.box [.lst 1 (a.ts.map nA),.ms 53 4 0 (i + 1),.lst 1 (a.ms.map i64)])),(53,some (.row 4 ((a.bs.take (i + 1)).map Pq.av)))]) aV (.k (.k (.k (.cons rfl (BlkSub.of (by rw [dj hp,map_append]; rfl)) .nil))))) ?_ (11,0)
  refine gW (Wk.rk (k:=53) (d:=902) rfl rfl) ?_;refine ga aF ?_;exact aE J2 (i+1) hin
 have hin:=a6 hi t34;subst hin;refine gW ((Wk.freeze (k:=902) rfl).trans<|Wk.of (sl:=[(2,some (.ptr 2 0)),(3,some (.ptr 3 0))]) (hp:=[(2,some (.box [nS,nS,nS])),(3,some (.box a.cs))]) aV (.k (.cons rfl (BlkSub.bL (.cons (.refl _) (.cons (Sub.of (by rw[bN (by simp)];simp)) (.cons (.refl _) .nil))) rfl) .nil))) ?_;refine ae ?_;rfl
theorem KV{a:Aq}{g:Gr}{s:Sv}(hb:∀b∈g.bo,0<=b/\b<a.bs.length)(hl:s.ps.length=g.bo.length)(l1:a.bs.length<=100)(l2:a.ms.length<=100)(l3:g.bo.length<=100):FP 192 [a.av,g.av,s.av] (a.nxt g s).av:=by
 refine ah func192 ?_;refine gt (ay (Pg _ (Ns _) (by rw[length_map];omega)) (cR rfl) az rfl rfl) ?_;refine gt (ay (EZ _ (FL _) (by rw[length_map];omega)) (cR rfl) az rfl rfl) ?_;refine gs (cf (.tmp rfl) rfl rfl (.tmp rfl) T39 rfl T3 rfl rfl (by simp only[length_map,length_cons,length_nil];omega) rfl rfl) ?_;refine gD ?_ (2,0);refine gW ((Wk.freeze (k:=21) rfl).trans<|Wk.of (sl:=[(3,some (.ptr 3 0)),(4,some (.ptr 4 0)),(5,some (.ptr 5 0)),(6,some (.ptr 6 0)),(7,some (.ptr 7 0))]) (hp:=[(3,some (.box a.cs)),(4,some (.box g.av.cells)),(5,some (.box s.av.cells)),(6,some (.box [nS,nS,nS])),(7,some (.box [.lst 1 (s.ts.map nA),.ms 900 4 0 a.bs.length,.lst 1 ((a.ms++[s.mode]).map i64)])),(900,some (.row 4 ((bH a.bs (g.bo.take 0) (s.ps.take 0)).map Pq.av)))]) aV (.k (.k (.k (.k (.cons rfl (BlkSub.bL (.cons (.refl _) (.cons (Sub.of (congrArg (AV.ms 900 4 0) (length_map _))) (.cons (Sub.of (by rw[bN (by simp)];simp)) .nil))) rfl) (.k .nil))))))) ?_
 refine gl ?_;refine aI [3,4,5,6,7,24,25] [3,4,5,6,7] (fun(i:Nat)=>[(26,some (i64 i))]) (fun i=>[(900,some (.row 4 ((bH a.bs (g.bo.take i) (s.ps.take i)).map Pq.av)))]) (fun i=>i<=g.bo.length) (fun i=>g.bo.length-i) 0 (zero_le _) ?_;rintro i hi K1 J1;refine gC (fun t27=>?_) (fun t27=>?_) (st2:=(7,0))
 ·have hin:=aQ t27;obtain⟨b,hbi⟩:=au hin;obtain⟨p,hp⟩:=au (l:=s.ps) (i:=i) oz;obtain⟨hb0,hb1⟩:=hb b (mem_of_getElem? hbi);have hpl:=uG a.bs (g.bo.take i) (s.ps.take i);obtain⟨o,ho⟩:=au (l:=bH a.bs (g.bo.take i) (s.ps.take i)) (i:=b.toNat) oz;refine gi (ax hbi) ?_;refine gi (ax hp) ?_;refine gs (mg (.tmp rfl) (.tmp rfl) T38 rfl T69 rfl oz oz rfl) ?_;refine gs (dG (.tmp rfl) rfl (by rw[Nat.zero_add,getElem?_map,ho];rfl) rfl (.tmp rfl) rfl rfl T69 rfl rfl) ?_;refine gD ?_;refine ga aF ?_;exact aE J1 (i+1) hin (hw:=Wk.of aV (.cons rfl (BlkSub.of (by rw[VW hbi hp,map_set,Nat.zero_add];rfl)) (.k (.k (.k (.k (.k .nil)))))))
 have hin:=a6 hi t27;subst hin;refine gW ((Wk.freeze (k:=900) rfl).trans<|Wk.of (sl:=[(6,some (.ptr 6 0)),(7,some (.ptr 7 0))]) (hp:=[(6,some (.box [nS,nS,nS])),(7,some (.box (a.nxt g s).cs))]) aV (.k (.cons rfl (BlkSub.bL (.cons (.refl _) (.cons (Sub.of (by rw[bN (by rw[length_map,uG])];rw[take_length,take_of_length_le oz];rfl)) (.cons (.refl _) .nil))) rfl) .nil))) ?_;refine ae ?_;rfl
abbrev g9(l:Li)(xs:List Tn)(G:List Gr)(fo:FuncId)(caps:List AV)(sg:Bool)(o:AV):List AV:=l.av.cells++[.lst 4 (xs.map Tn.av),.lst 4 (G.map Gr.av),.cl fo [] caps,bl sg,o]
abbrev fA(l:Li)(xs:List Tn)(G:List Gr)(fo:FuncId)(caps:List AV)(sg:Bool)(k:Nat)(es:List AV):Hp :=
  [(1000,some (.box (g9 l xs G fo caps sg (.ms k 3 0 es.length)))),(k,some (.row 3 es))]
theorem wT{k k0:Nat}{x y:Option Blk}{z:Blk}(h0:1000<=k0)(h:lk [(1000,x),(k0,y)] k=some z):1000<=k:=by
 rw[aJ]at h;split at h
 ·omega
 ·rw[aJ]at h;split at h
  ·omega
  ·cases h
theorem Su{l:Li}{xs:List Tn}{G:List Gr}{fo:FuncId}{caps:List AV}{sg:Bool}{es:List AV}{g:Gr}(hd:g.kind=0->0<=g.driver/\g.driver<xs.length)(hl:xs.length<=100) :
  Con prog 191 [.ptr 1000 0,g.av] (fA l xs G fo caps sg 1001 es) (cg g xs).av (fA l xs G fo caps sg 1001 es):=by
 refine gF func191 (fun k z h=>wT oz h) ?_;refine gC (fun t7=>?_) (fun t7=>?_)
 ·have hk : g.kind ≠ 0 := by simpa [aa] using t7
  refine gR ?_;exact(aq.keep (me rfl rfl)).sub (by unfold cg;rw[if_neg hk];exact Sub.agg (.cons (.refl _) (.cons (Sub.nil _ _ _) (.cons (Sub.nil _ _ _) (.cons (.refl _) .nil)))) rfl)
 have hk:g.kind=0:=by simpa[aa]using t7
 obtain⟨h0,h1⟩:=hd hk;obtain⟨x,hx⟩:=au (l:=xs) (i:=g.driver.toNat) oz;refine gi (ib (n:=g.driver.toNat) oz hx) ?_;refine gD ?_;refine gR ?_;exact(aq.keep (me rfl rfl)).sub (by unfold cg;rw[if_pos hk,aC hx];exact .refl _)
theorem MD:il (.agg [nS,nS,nS,nS]) bp.av:=by
 refine⟨rfl,?_⟩;intro j x y hx hy
 match j,hx,hy with
 |0,hx,hy=>cases hx;cases hy;exact⟨rfl,.nil _ _ _⟩
 |1,hx,hy=>cases hx;cases hy;exact⟨rfl,.nil _ _ _⟩
 |2,hx,hy=>cases hx;cases hy;exact⟨rfl,.nil _ _ _⟩
 |3,hx,hy=>cases hx;cases hy;exact⟨rfl,.nil _ _ _⟩
theorem UO(n:Nat):BlkSub (.row 4 (List.replicate n (.agg [nS,nS,nS,nS]))) (.row 4 ((List.replicate n bp).map Pq.av)):=by
 refine .row (by simp) ?_;intro i e e' he he';rw[map_replicate,getElem?_replicate]at he';rw[getElem?_replicate]at he;split at he
 ·rename_i h;rw[if_pos h]at he';cases he;cases he'
  exact MD
 ·cases he
theorem Lc:gN.av=.agg [nA (sh 0 (((1:Int):Rat):Rat)),nA [],nA [],nA []]:=by
 have h:sh 0 (((1:Int):Rat):Rat)=[1]:=by decide +kernel
 rw[h];rfl
theorem JC{l:Li}{xs:List Tn}{G:List Gr}{fo:FuncId}{caps:List AV}{sg:Bool}{es:List AV}(h0:0<l.bo.length)(hl:l.bo.length<=100) :
  Con prog 101 [.ptr 1000 0] (fA l xs G fo caps sg 1001 es) (gq l).av (fA l xs G fo caps sg 1001 es):=by
 refine gF func101 (fun k z h=>wT oz h) ?_;refine gl ?_;refine gs (gS (.tmp rfl) T38 rfl T69 rfl rfl oz (by dsimp only;omega) rfl) ?_ (2,0);refine gW (Wk.of (sl:=[(2,some (.ptr 2 0)),(3,some (.ptr 3 0))]) (hp:=[(2,some (.box [nS,nS,nS])),(3,some (.box [nS,.ms 10 4 0 l.bo.length,nS])),(10,some (.row 4 ((List.replicate l.bo.length bp).map Pq.av))),(1000,some (.box (g9 l xs G fo caps sg (.ms 1001 3 0 es.length)))),(1001,some (.row 3 es))]) aV (.k (.k (.cons rfl (UO _) (.k (.k .nil)))))) ?_;refine gc (lh 1 oz) ?_;refine gc (lD (q:=((1:Int):Rat)) (Qb.one.qs oz)) ?_;refine gs (bR (n:=0) (.tmp rfl) (.const _) T38 rfl T69 rfl oz oz rfl) ?_ (2,7);refine gs (E1 (e:=bp.av) (e':=.agg [nA (sh 0 (((1:Int):Rat):Rat)),nA [],nA [],nA []]) (.tmp rfl) rfl (by rw[getElem?_map,getElem?_replicate,if_pos h0];rfl) (.tmp rfl) rfl rfl T67 rfl rfl rfl) ?_;refine gD ?_ (3,0);refine gW ((Wk.freeze (k:=10) rfl).trans<|Wk.of (sl:=[(2,some (.ptr 2 0)),(3,some (.ptr 3 0))]) (hp:=[(2,some (.box [nS,nS,nS])),(3,some (.box [nS,.lst 4 ((gq l).bs.map Pq.av),nS])),(1000,some (.box (g9 l xs G fo caps sg (.ms 1001 3 0 es.length)))),(1001,some (.row 3 es))]) aV (.k (.cons rfl (BlkSub.bL (.cons (.refl _) (.cons (Sub.of (by rw[bN (by simp)];unfold gq;rw[map_set,Lc])) (.cons (.refl _) .nil))) rfl) (.k (.k .nil))))) ?_
 refine gR ?_;exact(aq.keep (me rfl rfl)).sub (Sub.agg (.cons (Sub.nil _ _ _) (.cons (.refl _) (.cons (Sub.nil _ _ _) .nil))) rfl)
theorem Rs(k m:Int):FP 189 [i64 k,i64 m] (bl true):=by
 refine ah func189 ?_;refine ae ?_;rfl
def vc(l:Li)(xs:List Tn):Nat:=if cH l≠0 then cH l else if xs.length≠l.dv.length then 10 else ez (xs.map Tn.err)
def dM(l:Li)(xs:List Tn):Nat:=if aB l≠0 then aB l else vc l xs
def vI(e:Nat)(l:Li)(xs:List Tn):Hp:=if e=0 then[(900,some (.box (g9 l xs (aN l) 189 [] false (nS))))]else[]
theorem vn{e:Nat}(h:e≠0){l:Li}{xs:List Tn}:vI e l xs=[]:=if_neg h
theorem LZ{l:Li}{xs:List Tn}{e:Nat}(he:(if aB l=0 then cH l else aB l)=e)(h:e≠0):dM l xs=e:=by
 unfold dM vc
 by_cases h1:aB l=0
 ·rw[if_pos h1]at he;rw[if_neg oz,if_pos oz,he]
 ·rw[if_neg h1]at he;rw[if_pos h1,he]
theorem Cm{l:Li}{xs:List Tn}(h:aB l=0)(hs:cH l=0):dM l xs=if xs.length≠l.dv.length then 10 else ez (xs.map Tn.err):=by
 unfold dM vc;rw[if_neg oz,if_neg oz]
theorem Sr(l:Li)(hl:l.ok)(xs:List Tn)(hx:∀x∈xs,x.t.ok)(hn:xs.length<=100) :
  Con prog 99 [l.av,.lst 4 (xs.map Tn.av)] [] (.tup [r7 (dM l xs),bj (dM l xs)]) (vI (dM l xs) l xs):=by
 have hld:=hl.ld;refine gF func99 (fun k z h=>by cases h) ?_;refine gc (FT l hl) ?_;refine gC (fun t17=>?_) (fun t17=>?_)
 ·have h1:=cU t17;refine gR ?_;rw[LZ rfl h1,lc h1,vn h1];exact mb rfl
 have h1:=cP t17;obtain⟨hli,hsp⟩:=Hl h1;rw[show(if aB l=0 then aN l else[])=aN l from if_pos hli];refine gl ?_;refine gl ?_;refine gC (fun t24=>?_) (fun t24=>?_)
 ·have h2:=C5 t24;have he:dM l xs = 10:=by rw [Cm hli hsp,if_pos h2]
  refine gR ?_;rw[he,lc (by decide),vn (by decide)];exact mb rfl
 have h2:=Cj t24;have he0:dM l xs=ez (xs.map Tn.err):=by rw[Cm hli hsp,if_neg oz]
 refine gl ?_;refine aI [1,2,6,26,27] [2] (fun(i:Nat)=>[(28,some (i64 i))]) (fun _=>[]) (fun i=>i<=xs.length/\∀y∈xs.take i,y.err=0) (fun i=>xs.length-i) 0 ⟨zero_le _,fun y hy=>by simp at hy⟩ ?_;rintro i ⟨hi,hz⟩ K1 J1;refine gC (fun t29=>?_) (fun t29=>?_) (st2:=(13,0))
 ·have hin:=aQ t29;obtain⟨x,hxi⟩:=au hin;refine gi (ax hxi) ?_;refine gc (tF x (hx x (mem_of_getElem? hxi))) ?_;refine gC (fun t35=>?_) (fun t35=>?_)
  ·have h3:=cU t35;have he:dM l xs = x.err:=by rw [he0]; exact Bp hxi hz h3
   refine gR ?_;rw[he,lc h3,vn h3];exact mb rfl
  have h3:=cP t35;refine ga aF ?_;exact aE J1 (i+1) ⟨hin,fun z hz2=>by rw[dj hxi]at hz2;rcases List.mem_append.1 hz2 with h9 |h9;exact hz z h9;(rw[List.mem_singleton.1 h9];exact h3)⟩
 have hin:=a6 hi t29;have he:dM l xs=0:=by rw[he0];exact o9 (fun y hy=>hz y (by rw[hin,take_length];exact hy))
 refine gW (Wk.o (sl:=[(1,some (.lst 4 (xs.map Tn.av))),(2,some (.ptr 2 0)),(6,some (.lst 4 ((aN l).map Gr.av)))]) (hp:=[(2,some (.box l.av.cells))])) ?_ (77777,0);refine gW (Wk.of (sl:=[(4,some (.ptr 42 0)),(5,some (.v .nilIface))]) (hp:=[(42,some (.box (g9 l xs (aN l) 189 [] false (nS))))]) aV (.cons rfl (BlkSub.bL (.cons (.refl _) (.cons (.refl _) (.cons (.refl _) (.cons (.refl _) (.cons (.refl _) (.cons (.refl _) (.cons ((Sub.fn0 _).trans (uE rfl)) (.cons (.refl _) (.cons (.refl _) .nil))))))))) rfl) .nil)) ?_ (77777,0);refine gW (Wk.rk (k:=42) (d:=900) rfl rfl) ?_;refine gR ?_;rw[he];exact aq.keep (a8 rfl)
section
variable{P:Program}{N:Nat}{R:Array Oper}{s:AS}{pos:String}{after:Array Edge}
theorem GA{d f k k2:Nat}{bx bx2:Blk}{args:Array Operand}{ts:Array TypeId}{xs:List AV}{r:AV}{t:TypeId}
  (hcon:Con P f xs [(k,some bx),(k2,some bx2)] r [(k,some bx),(k2,some bx2)]) (ha:EvL s args.toList xs) (hne:Nat.beq k2 k=false) (hk:s.blk k=some bx) (hk2:s.blk k2=some bx2)
  (hok:iU s [(k,some bx),(k2,some bx2)] [(k,some bx),(k2,some bx2)] r=true) (hN:Nat.blt d N=true) :
  Step P N R s ⟨some d,.call ⟨.value (.func f),args,ts⟩,t,pos,after,none⟩ ⟨some r,[],eI args.toList,[k,k2]⟩:=by
 have hne':k2≠k:=fun e=>by rw[e,Nat.beq_refl]at hne;cases hne
 refine Step.weaken (ay (d:=d) hcon ha (fun k' z h=>by
  rcases my h with⟨rfl,h9⟩ |⟨_,rfl,h9⟩
  ·cases h9;exact hk
  ·cases h9;exact hk2) hok hN) (fun s' h=>h) (fun s' h k' hk'=>?_) (fun s' h=>?_)
 ·left;simp only[map_append,dg,map_cons,map_nil,mem_append,mem_cons,not_mem_nil,or_false]at hk' ⊢;rcases hk' with h9 |h9 <;> exact h9
 ·intro C m a w hr;refine ⟨m,hr.weak (fun t x hx=>⟨x,hx,.refl _⟩) (fun k' x hx=>⟨x,?_,.refl _⟩)⟩;have hb:lk s'.hp k = some bx:=(h.2 k (by simp)).trans hk;have hb2:lk s'.hp k2 = some bx2:=(h.2 k2 (by simp)).trans hk2;show lk ([(k,some bx),(k2,some bx2)] ++ dg [(k,some bx),(k2,some bx2)] ++ s'.hp) k' = some x;have hx':lk s'.hp k' = some x:=hx;simp only [dg,map_cons,map_nil,List.cons_append,nil_append,aJ]
  by_cases e:k'=k
  ·rw[if_pos e];rw[e,hb]at hx';exact hx'
  ·rw[if_neg e]
   by_cases e2:k'=k2
   ·rw[if_pos e2];rw[e2,hb2]at hx';exact hx'
   ·rw[if_neg e2,if_neg e,if_neg e2];exact hx'
end
def qX(k:Nat):Nat:=bif Nat.beq k 1001 then 901 else bif Nat.beq k 901 then 1001 else k
theorem RF(k:Nat):qX (qX k)=k:=by
 by_cases h1:k=1001
 ·subst h1;rfl
 ·by_cases h2:k=901
  ·subst h2;rfl
  ·have nb:∀{a b:Nat},a≠b->Nat.beq a b=false:=fun h=>by
    cases h9:Nat.beq _ _ with
    |false=>rfl
    |true=>exact absurd (eq_of_beq_eq_true h9) h
   have e:qX k=k:=by simp only[qX,nb h1,nb h2,cond_false]
   rw[e,e]
theorem Ms{l:Li}{xs:List Tn}{G:List Gr}{fo:FuncId}{caps:List AV}{sg:Bool}{es es':List AV}{a:Aq}{e:Nat}
  (h:Con prog 100 [.ptr 1000 0,a.av] (fA l xs G fo caps sg 1001 es) (bj e) (fA l xs G fo caps sg 900 es')) :
  Con prog 100 [.ptr 1000 0,a.av] (fA l xs G fo caps sg 901 es) (bj e) (fA l xs G fo caps sg 900 es') :=
 Con.pm RF h
theorem Tx{l:Li}{xs:List Tn}{G:List Gr}{fo:FuncId}{caps:List AV}{sg:Bool}{o:List Aq}{a:Aq}(hk:a.ms.length=G.length)(hG:G.length<=100)(ho:o.length<=1000)
  (hcl:FP 190 [a.av] a.av) :
  Con prog 100 [.ptr 1000 0,a.av] (fA l xs G fo caps sg 1001 (o.map Aq.av)) (bj 0) (fA l xs G fo caps sg 900 ((o++[a]).map Aq.av)):=by
 refine gF func100 (fun k z h=>wT oz h) ?_;refine gl ?_;refine gl ?_;refine gC (fun t21=>?_) (fun t21=>?_) (st2:=(77777,0))
 ·refine gc hcl ?_;refine gs (cf (.tmp rfl) rfl (by rw [length_map]) (.tmp rfl) T87 rfl T41 rfl rfl (by simp only [length_map,length_cons,length_nil]; omega) rfl rfl) ?_;refine gD ?_ (4,0);refine gW (Wk.of (sl:=[(4,some (.v .nilIface))]) (hp:=[(1000,some (.box (g9 l xs G fo caps sg (.ms 30 3 0 ((o ++ [a]).map Aq.av).length)))),(30,some (.row 3 ((o ++ [a]).map Aq.av)))]) aV (.cons rfl (BlkSub.bL (.cons (.refl _) (.cons (.refl _) (.cons (.refl _) (.cons (.refl _) (.cons (.refl _) (.cons (.refl _) (.cons (.refl _) (.cons (.refl _) (.cons (Sub.of (by simp)) .nil))))))))) rfl) (.cons rfl (BlkSub.of (by rw [map_append]; rfl)) .nil))) ?_ (4,0)
  refine gW (Wk.rk (k:=30) (d:=900) rfl rfl) ?_;refine gR ?_;exact aq.keep (me rfl rfl)
 exact absurd t21 (by rw[hk];simp[aa])
theorem o8(F:Int->Bool)(sg:Bool)(f:Sv->List Aq×Nat)(s:Sv)(r:List Sv) :
  fm F sg f (s::r)=if F s.mode=false then fm F sg f r else if(f s).2≠0 then f s else if sg=true then f s else((f s).1++(fm F sg f r).1,(fm F sg f r).2):=rfl
theorem rQ{α:Type}{l:List α}{i:Nat}{x:α}(h:l[i]?=some x):l.drop i=x::l.drop (i+1):=by
 obtain⟨hi,e⟩:=List.getElem?_eq_some_iff.1 h;rw[List.drop_eq_getElem_cons hi,e]
def q9(F:Int->Bool)(sg:Bool)(f:Sv->List Aq×Nat)(S:List Sv)(i:Nat)(c:List Aq):Prop :=
  i<=S.length/\fm F sg f S=(c++(fm F sg f (S.drop i)).1,(fm F sg f (S.drop i)).2)
theorem Nv(F:Int->Bool)(sg:Bool)(f:Sv->List Aq×Nat)(S:List Sv):q9 F sg f S 0 []:=⟨zero_le _,rfl⟩
section
variable{F:Int->Bool}{sg:Bool}{f:Sv->List Aq×Nat}{S:List Sv}{i:Nat}{c:List Aq}(h:q9 F sg f S i c){s:Sv}(hs:S[i]?=some s)
include h hs
theorem Nw(hF:F s.mode=false):q9 F sg f S (i+1) c:=by
 have h2:=h.2;rw[rQ hs,o8,if_pos hF]at h2;exact⟨(List.getElem?_eq_some_iff.1 hs).1,h2⟩
theorem RO(hF:F s.mode=true)(he:(f s).2≠0):fm F sg f S=(c++(f s).1,(f s).2):=by
 have h2:=h.2;rw[rQ hs,o8,if_neg (by rw[hF];simp),if_pos he]at h2;exact h2
theorem RA(hF:F s.mode=true)(he:(f s).2=0)(h1:sg=true):fm F sg f S=(c++(f s).1,0):=by
 have h2:=h.2;rw[rQ hs,o8,if_neg (by rw[hF];simp),if_neg oz,if_pos h1,he]at h2;exact h2
theorem Th(hF:F s.mode=true)(he:(f s).2=0)(h1:sg=false):q9 F sg f S (i+1) (c++(f s).1):=by
 have h2:=h.2;rw[rQ hs,o8,if_neg (by rw[hF];simp),if_neg oz,if_neg (by rw[h1];simp)]at h2;exact⟨(List.getElem?_eq_some_iff.1 hs).1,by rw[h2,append_assoc]⟩
end
theorem SV{F:Int->Bool}{sg:Bool}{f:Sv->List Aq×Nat}{S:List Sv}{c:List Aq}(h:q9 F sg f S S.length c):fm F sg f S=(c,0):=by
 have h2:=h.2;rw[List.drop_length]at h2;rw[h2];simp[fm]
theorem TZ{l:Li}{xs:List Tn}{G:List Gr}{fo:FuncId}{caps:List AV}{sg:Bool}{o:List Aq}{a:Aq}{g:Gr}(hg:G[a.ms.length]?=some g)(hG:G.length<=100)(hx:xs.length<=100)(hd:g.kind=0->0<=g.driver/\g.driver<xs.length)
  {S:List Sv} {E:Nat} (hS:FP 17 [l.av,i64 a.ms.length,(cg g xs).av,a.av] (.tup [.lst 3 (S.map Sv.av),bj E])) (hSl:S.length<=100)
  {F:Int->Bool} (hF:∀m,FP fo ([i64 a.ms.length,i64 m]++caps) (bl (F m)))
  (hb:∀s∈S,FP 192 [a.av,g.av,s.av] (a.nxt g s).av)
  {f:Sv->List Aq×Nat} {M B:Nat} (hM:∀s∈S,(f s).1.length<=M) (hB:o.length+S.length*M<=B) (ih:∀(o:List Aq),o.length+M<=B->∀s∈S,Con prog 100 [.ptr 1000 0,(a.nxt g s).av] (fA l xs G fo caps sg 1001 (o.map Aq.av)) (bj (f s).2) (fA l xs G fo caps sg 900 ((o++(f s).1).map Aq.av))) :
  Con prog 100 [.ptr 1000 0,a.av] (fA l xs G fo caps sg 1001 (o.map Aq.av)) (bj (if E≠0 then E else(fm F sg f S).2)) (fA l xs G fo caps sg 900 ((o++(if E≠0 then[]else(fm F sg f S).1)).map Aq.av)):=by
 have hkG:=(List.getElem?_eq_some_iff.1 hg).1;refine gF func100 (fun k z h=>wT oz h) ?_;refine gl ?_;refine gl ?_;refine gC (fun t21=>?_) (fun t21=>?_) (st1:=(3,0));exact absurd t21 (by simp[aa];omega);refine gi (ax hg) ?_;refine gt (GA (Su hd hx) (bm rfl rfl) rfl rfl rfl rfl rfl) ?_;refine gc hS ?_;refine gD ?_;refine gC (fun t54=>?_) (fun t54=>?_) (st1:=(8,0)) (st2:=(77777,0))
 ·have hE:=cU t54;refine gW (Wk.o (sl:=[(4,some (.v .nilIface)),(8,some (bj E))]) (hp:=[(1000,some (.box (g9 l xs G fo caps sg (.ms 1001 3 0 (o.map Aq.av).length)))),(1001,some (.row 3 (o.map Aq.av)))])) ?_ (8,0);refine gW (Wk.rk (k:=1001) (d:=900) rfl rfl) ?_;refine gR ?_;rw[if_pos hE,if_pos hE,append_nil];exact aq.keep (me rfl rfl)
 have hE:=cP t54;refine gW (Wk.of (sl:=[(0,some (.ptr 1000 0)),(3,some (.ptr 3 0)),(5,some (i64 a.ms.length)),(6,some (.ptr 6 0)),(7,some (.lst 3 (S.map Sv.av)))]) (hp:=[(3,some (.box a.cs)),(6,some (.box g.av.cells)),(1000,some (.box (g9 l xs G fo caps sg (.ms 1001 3 0 ((o++[]).map Aq.av).length)))),(1001,some (.row 3 ((o++[]).map Aq.av)))]) aV (.k (.k (.cons rfl (BlkSub.bL (.cons (.refl _) (.cons (.refl _) (.cons (.refl _) (.cons (.refl _) (.cons (.refl _) (.cons (.refl _) (.cons (.refl _) (.cons (.refl _) (.cons (Sub.of (by simp)) .nil))))))))) rfl) (.cons rfl (BlkSub.of (by rw[append_nil])) .nil))))) ?_ (77777,0)
 refine gW (Wk.rk (k:=1001) (d:=901) rfl rfl) ?_;refine gl ?_;refine gx [0,3,5,6,56,57] [3,6] (fun(i:Nat)(c:List Aq)=>[(58,some (i64 i))]) (fun _ c=>[(1000,some (.box (g9 l xs G fo caps sg (.ms 901 3 0 ((o++c).map Aq.av).length)))),(901,some (.row 3 ((o++c).map Aq.av)))]) (fun i c=>q9 F sg f S i c/\c.length<=i*M) (fun i _=>S.length-i) 0 ([]) ⟨Nv F sg f S,zero_le _⟩ ?_;rintro i c ⟨hfo,hcl⟩ K1 J1;refine gC (fun t59=>?_) (fun t59=>?_) (st2:=(19,0))
 ·have hin:=aQ t59;obtain⟨s,hs⟩:=au hin;have hsm:=mem_of_getElem? hs;have hfl:=hM s hsm;have hmul:(i+1)*M=i*M+M:=Nat.succ_mul i M;have hmul2:(i+1)*M<=S.length*M:=mul_le_mul_right M hin;refine gi (ax hs) ?_;refine gc (hF s.mode) ?_;refine gD ?_;refine gC (fun t70=>?_) (fun t70=>?_) (st2:=(77777,0))
  ·have hFm : F s.mode = false := by simpa using t70
   refine ga aF ?_;exact fY J1 (i+1) c ⟨Nw hfo hs hFm,by omega⟩
  have hFm:F s.mode=true:=by simpa using t70
  refine gW (Wk.o (sl:=[(0,some (.ptr 1000 0)),(3,some (.ptr 3 0)),(5,some (i64 a.ms.length)),(6,some (.ptr 6 0)),(10,some (.ptr 10 0)),(56,some (.lst 3 (S.map Sv.av))),(57,some (i64 S.length)),(58,some (i64 i))]) (hp:=[(3,some (.box a.cs)),(6,some (.box g.av.cells)),(10,some (.box s.av.cells)),(1000,some (.box (g9 l xs G fo caps sg (.ms 901 3 0 ((o++c).map Aq.av).length)))),(901,some (.row 3 ((o++c).map Aq.av)))])) ?_
  refine gc (hb s hsm) ?_;refine gt (ay (Ms (ih (o++c) (by rw[length_append];omega) s hsm)) (bm rfl rfl) az rfl rfl) ?_;refine gC (fun t78=>?_) (fun t78=>?_)
  ·have he:(f s).2≠0:=cU t78;have hR:=RO hfo hs hFm he;refine gR ?_;rw[if_neg oz,if_neg oz,hR,<- append_assoc];exact aq.keep (me rfl rfl)
  have he:(f s).2=0:=cP t78;refine gC (fun t83=>?_) (fun t83=>?_) (st2:=(77777,0))
  ·have h1 : sg = true := by simpa using t83
   have hR:=RA hfo hs hFm he h1;refine gR ?_;rw[if_neg oz,if_neg oz,hR,<- append_assoc];exact aq.keep (me rfl rfl)
  have h1:sg=false:=by simpa using t83
  refine gW (Wk.of (sl:=[(0,some (.ptr 1000 0)),(3,some (.ptr 3 0)),(5,some (i64 a.ms.length)),(6,some (.ptr 6 0)),(56,some (.lst 3 (S.map Sv.av))),(57,some (i64 S.length)),(58,some (i64 i))]) (hp:=[(3,some (.box a.cs)),(6,some (.box g.av.cells)),(1000,some (.box (g9 l xs G fo caps sg (.ms 900 3 0 ((o++(c++(f s).1)).map Aq.av).length)))),(900,some (.row 3 ((o++(c++(f s).1)).map Aq.av)))]) aV (.k (.k (.cons rfl (BlkSub.bL (.cons (.refl _) (.cons (.refl _) (.cons (.refl _) (.cons (.refl _) (.cons (.refl _) (.cons (.refl _) (.cons (.refl _) (.cons (.refl _) (.cons (Sub.of (by rw[append_assoc])) .nil))))))))) rfl) (.cons rfl (BlkSub.of (by rw[append_assoc])) .nil))))) ?_ (77777,0)
  refine gW (Wk.rk (k:=900) (d:=901) rfl rfl) ?_;refine ga aF ?_;exact fY J1 (i+1) (c++(f s).1) ⟨Th hfo hs hFm he h1,by rw[length_append];omega⟩
 have hin:=a6 hfo.1 t59;subst hin;have hR:=SV hfo;refine gW (Wk.o (sl:=[]) (hp:=[(1000,some (.box (g9 l xs G fo caps sg (.ms 901 3 0 ((o++c).map Aq.av).length)))),(901,some (.row 3 ((o++c).map Aq.av)))])) ?_ (19,0);refine gW (Wk.rk (k:=901) (d:=900) rfl rfl) ?_;refine gR ?_;rw[if_neg oz,if_neg oz,hR];exact aq.keep (me rfl rfl)
variable{P:Program}{N:Nat}{R:Array Oper}{s:AS}{pos:String}{after:Array Edge}
end Go.Lw
namespace Go.Lw
open Go.Proofs
theorem pv(i:Int)(n:Nat):FP 187 [i64 i,i64 n] (bl (bq i n)):=by
 refine ah func187 ?_;refine ae ?_;exact congrArg bl (HH i n)
theorem ME(p q:Mk)(hp:p.ok)(hq:q.ok):FP 188 [p.av,q.av] (bl (decide (p.x.q=q.x.q/\p.y.q=q.y.q))):=by
 refine ah func188 ?_;refine gc (HY p.x q.x hp.x hq.x ((hp.qx.sub hq.qx).qs oz)) ?_;refine bJ (fun _=>(HY p.y q.y hp.y hq.y ((hp.qy.sub hq.qy).qs oz))) ?_;refine ae ?_;exact congrArg bl Wc
theorem JY(b:Bd)(hbo:b.ok):FP 186 [b.av] (i64 (if 8<b.pts.length then 4 else eW b.pts.length (d6 b.pts):Nat)):=by
 have hll:=hbo.ll;refine ah func186 ?_;refine gl ?_;refine gC (fun t9=>?_) (fun t9=>?_)
 ·have h0:8<b.pts.length:=jf t9;refine ae ?_;rw[if_pos h0];rfl
 have h0:b.pts.length<=8:=gH t9;have e0:(if 8<b.pts.length then 4 else eW b.pts.length (d6 b.pts):Nat)=eW b.pts.length (d6 b.pts):=if_neg oz;refine aI [1] [1] (fun(p:Nat)=>[(3,some (i64 p))]) (fun _=>[]) (fun p=>p<=b.pts.length/\∀j,j<p->d6 b.pts j=0) (fun p=>b.pts.length-p) 0 ⟨zero_le _,fun j h=>by omega⟩ ?_;rintro p ⟨hp,hpj⟩ K1 J1;refine gl ?_;refine gC (fun t14=>?_) (fun t14=>?_)
 ·have hpn:=aQ t14;obtain⟨m,hm⟩:=au hpn;have hmd:b.pts.getD p default=m:=aC hm;have hmm:=mem_of_getElem? hm;have hmdup:=mS Mk.name hm;have hmo:=hbo.pts m hmm;refine gi (ax hm) ?_;refine gc (tG m.name (hbo.names m hmm)) ?_;refine gC (fun t25=>?_) (fun t25=>?_)
  ·have h4:=cS t25;have e2:d6 b.pts p = 5:=by unfold d6; rw [hmd,if_pos h4]
   refine ae ?_;rw[e0,d8 hpn hpj (by rw[e2];decide),e2];rfl
  have h4:=cT t25;refine aI [1,3,4] [1,4] (fun(q:Nat)=>[(5,some (i64 q))]) (fun _=>[]) (fun q=>q<=p/\(b.pts.take q).any (fun y=>dQ y.name m.name)=false) (fun q=>p-q) 0 ⟨zero_le _,rfl⟩ ?_;rintro q ⟨hq,hqd⟩ K2 J2;refine gC (fun t28=>?_) (fun t28=>?_)
  ·have hqn:=aQ t28;obtain⟨y,hy⟩:∃y,b.pts[q]?=some y:=au oz;refine gi (ax hy) ?_;refine gD ?_;refine gC (fun t39=>?_) (fun t39=>?_)
   ·have h5:dQ y.name m.name = true:=t39;have e2:d6 b.pts p = 6:=by unfold d6; rw [hmd,if_neg (by rw [h4]; decide),if_pos (by rw [hmdup]; exact kU hy hqn h5)]
    refine ae ?_;rw[e0,d8 hpn hpj (by rw[e2];decide),e2];rfl
   have h5:dQ y.name m.name=false:=t39;refine ga aF ?_;exact aE J2 (q+1) ⟨hqn,ki hy hqd h5⟩
  have hqn:=a6 hq t28;subst hqn;have hmnd:¬gw (b.pts.map Mk.name) q=true:=by rw[hmdup,hqd];decide
  refine gc (wd m.x hmo.x) ?_;refine bJ (fun _=>(wd m.y hmo.y)) ?_;refine gC (fun t49=>?_) (fun t49=>?_)
  ·have h6:=n6 t49;have e2:d6 b.pts q = 3:=by unfold d6; rw [hmd,if_neg (by rw [h4]; decide),if_neg hmnd,if_neg (by rintro ⟨g1,g2⟩; rcases h6 with g | g; (rw [g1] at g; cases g); (rw [g2] at g; cases g))]
   refine ae ?_;rw[e0,d8 hpn hpj (by rw[e2];decide),e2];rfl
  have h6:=oW t49;have e2:d6 b.pts q=0:=by unfold d6;rw[hmd,if_neg (by rw[h4];decide),if_neg hmnd,if_pos h6]
  refine ga aF ?_;exact aE J1 (q+1) ⟨hpn,fun j h9=>by rcases lt_or_ge j q with g |g;exact hpj j g;(have:j=q:=by omega);subst this;exact e2⟩
 have hpn:=a6 hp t14;subst hpn;refine ae ?_;rw[e0,m8 hpj];rfl
theorem JF(l:Li)(hl:l.ok):FP 96 [l.av] (i64 (ik l)):=by
 have hlb:=hl.lb;have e0:ik l=eW l.bo.length (ek l.bo):=rfl;refine ah func96 ?_;refine aI [1] [1] (fun(i:Nat)=>[(3,some (i64 i))]) (fun _=>[]) (fun i=>i<=l.bo.length/\∀j,j<i->ek l.bo j=0) (fun i=>l.bo.length-i) 0 ⟨zero_le _,fun j h=>by omega⟩ ?_;rintro i ⟨hi,hj⟩ K1 J1;refine gl ?_;refine gC (fun t10=>?_) (fun t10=>?_)
 ·have hin:=aQ t10;obtain⟨b,hb⟩:=au hin;have hbd:l.bo.getD i default=b:=aC hb;have hbo:=hl.bo b (mem_of_getElem? hb);have hbdup:=mS Bd.name hb;refine gi (ax hb) ?_;refine gc (tG b.name hbo.name) ?_;refine gC (fun t20=>?_) (fun t20=>?_)
  ·have h1:=cS t20;have e1:ek l.bo i = 5:=by unfold ek; rw [hbd,if_pos h1]
   refine ae ?_;rw[e0,d8 hin hj (by rw[e1];decide),e1];rfl
  have h1:=cT t20;refine aI [1,3] [1] (fun(k:Nat)=>[(4,some (i64 k))]) (fun _=>[]) (fun k=>k<=i/\(l.bo.take k).any (fun y=>dQ y.name b.name)=false) (fun k=>i-k) 0 ⟨zero_le _,rfl⟩ ?_;rintro k ⟨hk,hd⟩ K2 J2;refine gC (fun t23=>?_) (fun t23=>?_)
  ·have hkn:=aQ t23;obtain⟨y,hy⟩:∃y,l.bo[k]?=some y:=au oz;refine gi (ax hy) ?_;refine gi (ax hb) ?_;refine gD ?_;refine gC (fun t38=>?_) (fun t38=>?_)
   ·have h2:dQ y.name b.name = true:=t38;have e1:ek l.bo i = 6:=by unfold ek; rw [hbd,if_neg (by rw [h1]; decide),if_pos (by rw [hbdup]; exact kU hy hkn h2)]
    refine ae ?_;rw[e0,d8 hin hj (by rw[e1];decide),e1];rfl
   have h2:dQ y.name b.name=false:=t38;refine ga aF ?_;exact aE J2 (k+1) ⟨hkn,ki hy hd h2⟩
  have hkn:=a6 hk t23;subst hkn;have hnd:¬gw (l.bo.map Bd.name) k=true:=by rw[hbdup,hd];decide
  have e1:ek l.bo k=if 8<b.pts.length then 4 else eW b.pts.length (d6 b.pts):=by unfold ek;rw[hbd,if_neg (by rw[h1];decide),if_neg hnd]
  refine gi (ax hb) ?_;refine gc (JY b hbo) ?_;refine gC (fun t46=>?_) (fun t46=>?_)
  ·have h3:=lX t46;refine ae ?_;rw[e0,d8 hin hj (by rw[e1];exact h3),e1]
  have h3:=kQ t46;refine ga aF ?_;exact aE J1 (k+1) ⟨hin,fun j h9=>by rcases lt_or_ge j k with g |g;exact hj j g;(have:j=k:=by omega);subst this;exact e1.trans h3⟩
 have hin:=a6 hi t10;subst hin;refine ae ?_;rw[e0,m8 hj];rfl
theorem Nf(l:Li)(hl:l.ok)(i:Nat)(hi:i<l.jo.length)(h16:l.jo.length<=16):FP 97 [l.av,i64 i] (i64 (fM l i)):=by
 obtain⟨j,hjj⟩:=au hi;have hbd:l.jo.getD i default=j:=aC hjj;have hbdup:=mS Jt.name hjj;refine ah func97 ?_;refine gi (ax hjj) ?_;refine gc (tG j.name (hl.jnames j (mem_of_getElem? hjj))) ?_;refine gC (fun t17=>?_) (fun t17=>?_)
 ·have h0:=cS t17;refine ae ?_;unfold fM;rw[hbd,if_pos h0];rfl
 have h0:=cT t17;refine aI [1,2,5] [2,5] (fun(k:Nat)=>[(6,some (i64 k))]) (fun _=>[]) (fun k=>k<=i/\(l.jo.take k).any (fun y=>dQ y.name j.name)=false) (fun k=>i-k) 0 ⟨zero_le _,rfl⟩ ?_;rintro k ⟨hk,hd⟩ K1 J1;refine gC (fun t20=>?_) (fun t20=>?_)
 ·have hkn:=aQ t20;obtain⟨y,hy⟩:∃y,l.jo[k]?=some y:=au oz;refine gi (ax hy) ?_;refine gD ?_;refine gC (fun t31=>?_) (fun t31=>?_)
  ·have h2:dQ y.name j.name=true:=t31;refine ae ?_;unfold fM;rw[hbd,if_neg (by rw[h0];decide),if_pos (by rw[hbdup];exact kU hy hkn h2)];rfl
  have h2:dQ y.name j.name=false:=t31;refine ga aF ?_;exact aE J1 (k+1) ⟨hkn,ki hy hd h2⟩
 have hkn:=a6 hk t20;subst hkn;have hnd:¬gw (l.jo.map Jt.name) k=true:=by rw[hbdup,hd];decide
 have e1:fM l k=ep l j:=by unfold fM;rw[hbd,if_neg (by rw[h0];decide),if_neg hnd]
 refine gC (fun t39=>?_) (fun t39=>?_)
 ·have h1:=DI t39;refine ae ?_;rw[e1];unfold ep;rw[if_pos h1];rfl
 have h1:=CW t39;refine gl ?_;refine gc (pv j.a l.bo.length) ?_;refine ci ?_;refine bJ (fun _=>(pv j.b l.bo.length)) ?_;refine gC (fun t55=>?_) (fun t55=>?_)
 ·have h2:=n6 t55;refine ae ?_;rw[e1];unfold ep;rw[if_neg h1,if_pos h2];rfl
 have h2:=oW t55;have h2n:¬(bq j.a l.bo.length=false\/bq j.b l.bo.length=false):=by rw[h2.1,h2.2];simp
 obtain⟨A,hA,pA,mA,zA0⟩:=qJ h2.1;obtain⟨B,hB,pB,mB,zB0⟩:=qJ h2.2;refine gC (fun t60=>?_) (fun t60=>?_)
 ·have h3:=da t60;refine ae ?_;rw[e1];unfold ep;rw[if_neg h1,if_neg h2n,if_pos h3];rfl
 have h3:=dZ t60;refine gi (ax hA) ?_;refine gi (ax hB) ?_;refine gD ?_;refine gl ?_;refine gc (pv j.point A.pts.length) ?_;refine ci ?_;refine bJ (fun _=>(pv j.on B.pts.length)) ?_;refine gC (fun t88=>?_) (fun t88=>?_)
 ·have h4:=n6 t88;refine ae ?_;rw[e1];unfold ep;rw[if_neg h1,if_neg h2n,if_neg h3,pA,pB,if_pos h4];rfl
 have h4:=oW t88;have h4n:¬(bq j.point A.pts.length=false\/bq j.on B.pts.length=false):=by rw[h4.1,h4.2];simp
 refine gC (fun t91=>?_) (fun t91=>?_)
 ·have h5:=da t91;refine gC (fun t94=>?_) (fun t94=>?_)
  ·have h6:=mo t94;refine ae ?_;rw[e1];unfold ep;rw[if_neg h1,if_neg h2n,if_neg h3,pA,pB,if_neg h4n,if_pos h5,if_pos h6];rfl
  have h6:=qf t94;refine ae ?_;rw[e1];unfold ep;rw[if_neg h1,if_neg h2n,if_neg h3,pA,pB,if_neg h4n,if_pos h5,if_neg (by rw[h6];simp)];rfl
 have h5:=dZ t91;refine gl ?_;refine gc (pv j.to B.pts.length) ?_;refine gC (fun t100=>?_) (fun t100=>?_)
 ·have h6:=cS t100;refine ae ?_;rw[e1];unfold ep;rw[if_neg h1,if_neg h2n,if_neg h3,pA,pB,if_neg h4n,if_neg h5,if_pos h6];rfl
 have h6:=cT t100;obtain⟨m1,g1,d1,mm1,z1⟩:=tu h4.2;obtain⟨m2,g2,d2,mm2,z2⟩:=tu h6;have mo1:=(hl.bo B mB).pts m1 mm1;have mo2:=(hl.bo B mB).pts m2 mm2;refine gi (ax g1) ?_;refine gi (ax g2) ?_;refine gc (ME m1 m2 mo1 mo2) ?_;refine gD ?_;refine gC (fun t111=>?_) (fun t111=>?_)
 ·have h7:=of_decide_eq_true t111;refine ae ?_;rw[e1];unfold ep;rw[if_neg h1,if_neg h2n,if_neg h3,pA,pB,if_neg h4n,if_neg h5,if_neg (by rw[h6];decide),d1,d2,if_pos h7];rfl
 have h7:=of_decide_eq_false t111;refine ae ?_;rw[e1];unfold ep;rw[if_neg h1,if_neg h2n,if_neg h3,pA,pB,if_neg h4n,if_neg h5,if_neg (by rw[h6];decide),d1,d2,if_neg h7];rfl
theorem U0(l:Li)(hl:l.ok)(i:Nat)(hi:i<l.dv.length)(h2l:l.dv.length<=2):FP 98 [l.av,i64 i] (i64 (dR l i)):=by
 obtain⟨b,hb⟩:=au hi;have hbd:l.dv.getD i default=b:=aC hb;have hbdup:=mS Dr.name hb;refine ah func98 ?_;refine gi (ax hb) ?_;refine gc (tG b.name (hl.dnames b (mem_of_getElem? hb))) ?_;refine gC (fun t16=>?_) (fun t16=>?_)
 ·have h1:=cS t16;refine ae ?_;unfold dR;rw[hbd,if_pos h1];rfl
 have h1:=cT t16;refine aI [1,2,5] [2,5] (fun(k:Nat)=>[(6,some (i64 k))]) (fun _=>[]) (fun k=>k<=i/\(l.dv.take k).any (fun y=>dQ y.name b.name)=false) (fun k=>i-k) 0 ⟨zero_le _,rfl⟩ ?_;rintro k ⟨hk,hd⟩ K1 J1;refine gC (fun t19=>?_) (fun t19=>?_)
 ·have hkn:=aQ t19;obtain⟨y,hy⟩:∃y,l.dv[k]?=some y:=au oz;refine gi (ax hy) ?_;refine gD ?_;refine gC (fun t30=>?_) (fun t30=>?_)
  ·have h2:dQ y.name b.name=true:=t30;refine ae ?_;unfold dR;rw[hbd,if_neg (by rw[h1];decide),if_pos (by rw[hbdup];exact kU hy hkn h2)];rfl
  have h2:dQ y.name b.name=false:=t30;refine ga aF ?_;exact aE J1 (k+1) ⟨hkn,ki hy hd h2⟩
 have hkn:=a6 hk t19;subst hkn;have hnd:¬gw (l.dv.map Dr.name) k=true:=by rw[hbdup,hd];decide
 refine gl ?_;refine gc (pv b.body l.bo.length) ?_;refine gC (fun t37=>?_) (fun t37=>?_)
 ·have h3:=cS t37;refine ae ?_;unfold dR;rw[hbd,if_neg (by rw[h1];decide),if_neg hnd,if_pos h3];rfl
 have h3:=cT t37;refine gC (fun t40=>?_) (fun t40=>?_)
 ·have h4:=da t40;refine ae ?_;unfold dR;rw[hbd,if_neg (by rw[h1];decide),if_neg hnd,if_neg (by rw[h3];decide),if_pos h4];rfl
 have h4:=dZ t40;have e1:dR l k=if(l.dv.take k).any (fun d=>decide (d.body=b.body))=true then 6 else 0:=by unfold dR;rw[hbd,if_neg (by rw[h1];decide),if_neg hnd,if_neg (by rw[h3];decide),if_neg h4]
 refine aI [1,2,5] [2,5] (fun(q:Nat)=>[(7,some (i64 q))]) (fun _=>[]) (fun q=>q<=k/\(l.dv.take q).any (fun d=>decide (d.body=b.body))=false) (fun q=>k-q) 0 ⟨zero_le _,rfl⟩ ?_;rintro q ⟨hq,hqd⟩ K2 J2;refine gC (fun t43=>?_) (fun t43=>?_)
 ·have hqn:=aQ t43;obtain⟨y,hy⟩:∃y,l.dv[q]?=some y:=au oz;refine gi (ax hy) ?_;refine gD ?_;refine gC (fun t54=>?_) (fun t54=>?_)
  ·have h5:decide (y.body=b.body)=true:=decide_eq_true (da t54);refine ae ?_;rw[e1,if_pos (kU hy hqn h5)];rfl
  have h5:decide (y.body=b.body)=false:=decide_eq_false (dZ t54);refine ga aF ?_;exact aE J2 (q+1) ⟨hqn,ki hy hqd h5⟩
 have hqn:=a6 hq t43;subst hqn;refine ae ?_;rw[e1,hqd];rfl
theorem GG(l:Li)(hl:l.ok):FP 32 [l.av] (i64 (aB l)):=by
 have hlb:=hl.lb;refine ah func32 ?_;refine gc (tG l.name hl.name) ?_;refine gC (fun t11=>?_) (fun t11=>?_)
 ·have h1:=cS t11;refine ae ?_;unfold aB;rw[if_pos h1];rfl
 have h1:=cT t11;refine gl ?_;refine gC (fun t15=>?_) (fun t15=>?_)
 ·have h2:=xw t15;refine ae ?_;unfold aB;rw[if_neg (by rw[h1];decide),if_pos h2];rfl
 have h2:=xT t15;refine gl ?_;refine gC (fun t19=>?_) (fun t19=>?_)
 ·have h3:8<l.bo.length:=jf t19;refine ae ?_;unfold aB;rw[if_neg (by rw[h1];decide),if_neg h2,if_pos h3];rfl
 have h3:l.bo.length<=8:=gH t19;have e0:aB l=if ik l≠0 then ik l else if eT l≠0 then eT l else gh l:=by unfold aB;rw[if_neg (by rw[h1];decide),if_neg h2,if_neg oz]
 refine gc (JF l hl) ?_;refine gC (fun t23=>?_) (fun t23=>?_)
 ·have h4:ik l≠0:=lX t23;refine ae ?_;rw[e0,if_pos h4]
 have h4:ik l=0:=kQ t23;refine gl ?_;refine gC (fun t28=>?_) (fun t28=>?_)
 ·have h5:16 < l.jo.length:=jf t28;have ej:eT l = 4:=by unfold eT; rw [if_pos h5]
  refine ae ?_;rw[e0,if_neg (by rw[h4];simp),if_pos (by rw[ej];decide),ej];rfl
 have h5:l.jo.length<=16:=gH t28;have ej:eT l=eW l.jo.length (fM l):=by unfold eT;rw[if_neg oz]
 refine aI [1] [1] (fun(i:Nat)=>[(4,some (i64 i))]) (fun _=>[]) (fun i=>i<=l.jo.length/\∀j,j<i->fM l j=0) (fun i=>l.jo.length-i) 0 ⟨zero_le _,fun j h=>by omega⟩ ?_;rintro i ⟨hi,hj⟩ K1 J1;refine gl ?_;refine gC (fun t33=>?_) (fun t33=>?_)
 ·have hin:=aQ t33;refine gc (Nf l hl i hin h5) ?_;refine gC (fun t40=>?_) (fun t40=>?_)
  ·have h6:=lX t40;refine ae ?_;rw[e0,if_neg (by rw[h4];simp),if_pos (by rw[ej,d8 hin hj h6];exact h6),ej,d8 hin hj h6]
  have h6:=kQ t40;refine ga aF ?_;exact aE J1 (i+1) ⟨hin,fun j h9=>by rcases lt_or_ge j i with g |g;exact hj j g;(have:j=i:=by omega);subst this;exact h6⟩
 have hin:=a6 hi t33;subst hin;have ejz:eT l=0:=ej.trans (m8 hj);have e0':aB l=gh l:=by rw[e0,if_neg (by rw[h4];simp),if_neg (by rw[ejz];simp)]
 refine gl ?_;refine gC (fun t45=>?_) (fun t45=>?_)
 ·have h6:2<l.dv.length:=jf t45;refine ae ?_;rw[e0'];unfold gh;rw[if_pos h6];rfl
 have h6:l.dv.length<=2:=gH t45;have ed:gh l=eW l.dv.length (dR l):=by unfold gh;rw[if_neg oz]
 refine aI [1] [1] (fun(k:Nat)=>[(6,some (i64 k))]) (fun _=>[]) (fun k=>k<=l.dv.length/\∀j,j<k->dR l j=0) (fun k=>l.dv.length-k) 0 ⟨zero_le _,fun j h=>by omega⟩ ?_;rintro k ⟨hk,hkj⟩ K2 J2;refine gl ?_;refine gC (fun t50=>?_) (fun t50=>?_)
 ·have hkn:=aQ t50;refine gc (U0 l hl k hkn h6) ?_;refine gC (fun t57=>?_) (fun t57=>?_)
  ·have h7:=lX t57;refine ae ?_;rw[e0',ed,d8 hkn hkj h7]
  have h7:=kQ t57;refine ga aF ?_;exact aE J2 (k+1) ⟨hkn,fun j h9=>by rcases lt_or_ge j k with g |g;exact hkj j g;(have:j=k:=by omega);subst this;exact h7⟩
 have hkn:=a6 hk t50;subst hkn;refine ae ?_;rw[e0',ed,m8 hkj];rfl
theorem Ng(l:Li)(hl:l.okw):FP 57 [l.av] (bl (it l)):=by
 have hbl:=hl.lb;refine ah func57 ?_;refine gl ?_;refine aI [1,8,9] [1] (fun(i:Nat)=>[(10,some (i64 i))]) (fun _=>[]) (fun i=>i<=l.bo.length/\(l.bo.take i).all oV=true) (fun i=>l.bo.length-i) 0 ⟨zero_le _,rfl⟩ ?_;rintro i ⟨hi,hj⟩ K1 J1;refine gC (fun t11=>?_) (fun t11=>?_)
 ·have hin:=aQ t11;obtain⟨b,hb⟩:=au hin;refine gi (ax hb) ?_;refine gl ?_;refine gC (fun t17=>?_) (fun t17=>?_)
  ·have h1:30<b.pts.length:=jf t17;refine ae ?_;unfold it;rw[jI hb (by unfold oV;rw[decide_eq_false oz];rfl)];rfl
  have h1:b.pts.length<=30:=gH t17;refine gl ?_;refine aI [1,8,9,10,19,20] [1] (fun(k:Nat)=>[(21,some (i64 k))]) (fun _=>[]) (fun k=>k<=b.pts.length/\(b.pts.take k).all kN=true) (fun k=>b.pts.length-k) 0 ⟨zero_le _,rfl⟩ ?_;rintro k ⟨hk,hkj⟩ K2 J2;refine gC (fun t22=>?_) (fun t22=>?_)
  ·have hkn:=aQ t22;obtain⟨p,hp⟩:=au hkn;refine gi (ax hp) ?_;refine gl ?_;refine ci ?_;refine ci ?_;refine ci ?_;refine gC (fun t50=>?_) (fun t50=>?_)
   ·have h2:kN p=false:=OZ t50;refine ae ?_;unfold it;rw[jI hb (by unfold oV;rw[jI hp h2,Bool.and_false])];rfl
   have h2:kN p=true:=P6 t50;refine ga aF ?_;exact aE J2 (k+1) ⟨hkn,jP hkj hp h2⟩
  have hkn:=a6 hk t22;refine ga aF ?_;exact aE J1 (i+1) ⟨hin,jP hj hb (by unfold oV;rw[decide_eq_true h1,kq hkn hkj];rfl)⟩
 have hin:=a6 hi t11;refine gl ?_;refine ci ?_;refine ci ?_;refine ae ?_;exact congrArg bl (SG (kq hin hj))
def lE(r:Rt):Bool:=!(cond (cond (cond (aa .gtr (r.num.length:Int) 1) true (aa .gtr (r.den.length:Int) 1)) true (cond (aa .eql (r.num.length:Int) 1) (aa .gtr (af r.num 0:Int) 400) false)) true
  (cond (aa .eql (r.den.length:Int) 1) (aa .gtr (af r.den 0:Int) 20) false))
theorem Ip(rs:List Rt)(hl:rs.length<=1000):FP 184 [.lst 3 (rs.map Rt.av)] (bl (rs.all lE)):=by
 refine ah func184 ?_;refine gl ?_;refine aI [5,6] [] (fun(i:Nat)=>[(7,some (i64 i))]) (fun _=>[]) (fun i=>i<=rs.length/\(rs.take i).all lE=true) (fun i=>rs.length-i) 0 ⟨zero_le _,rfl⟩ ?_;rintro i ⟨hi,hj⟩ K1 J1;refine gC (fun t8=>?_) (fun t8=>?_)
 ·have hin:=aQ t8;obtain ⟨r,hr⟩:=au hin;refine gi (ax hr) ?_;refine gl ?_;refine ci ?_;refine ci ?_;refine nI (fun ⟨h,h2⟩=>(b7 (by have:=da h2; have e:Int.toNat 0 = 0:=rfl; omega))) ?_;refine ci ?_;refine nI (fun ⟨h,h2⟩=>(b7 (by have:=da h2; have e:Int.toNat 0 = 0:=rfl; omega))) ?_;refine gC (fun t46=>?_) (fun t46=>?_)
  ·have h1:lE r=false:=congrArg Bool.not t46;refine ae ?_;rw[jI hr h1];rfl
  have h1:lE r=true:=congrArg Bool.not t46;refine ga aF ?_;exact aE J1 (i+1) ⟨hin,jP hj hr h1⟩
 have hin:=a6 hi t8;refine ae ?_;rw[kq hin hj];rfl
def lW(x:Tn):Bool:=decide (x.t.num.length<=1/\x.t.den.length<=1)
def lw(m:Mk):Bool:=decide (m.x.num.length<=1/\m.x.den.length<=1/\m.y.num.length<=1/\m.y.den.length<=1)
def pX(xs:List Tn):Bool:=xs.all (fun x=>[x.t].all lE)
def sM(ps:List Mk):Bool:=ps.all (fun p=>[p.x,p.y].all lE)
def o6(l:Li):Bool:=l.bo.all (fun b=>sM b.pts)
theorem UY(l:Li)(hl:l.ok)(xs:List Tn)(hxl:xs.length<=281474976710656):FP 94 [l.av,.lst 4 (xs.map Tn.av)] (bl (pX xs&&o6 l)):=by
 have hlb:=hl.lb;refine ah func94 ?_;refine gl ?_;refine aI [2,11,12] [2] (fun(i:Nat)=>[(13,some (i64 i))]) (fun _=>[]) (fun i=>i<=xs.length/\(xs.take i).all (fun x=>[x.t].all lE)=true) (fun i=>xs.length-i) 0 ⟨zero_le _,rfl⟩ ?_;rintro i ⟨hi,hj⟩ K1 J1;refine gC (fun t14=>?_) (fun t14=>?_)
 ·have hin:=aQ t14;obtain ⟨x,hx⟩:=au hin;refine gi (ax hx) ?_;refine gc (Ip [x.t] (by show 1 <= _; omega)) ?_;refine gC (fun t21=>?_) (fun t21=>?_)
  ·have h1:=cS t21;refine ae ?_;unfold pX;rw[jI hx h1];rfl
  have h1:=cT t21;refine ga aF ?_;exact aE J1 (i+1) ⟨hin,jP hj hx h1⟩
 have hT:pX xs=true:=kq (a6 hi t14) hj;refine gl ?_;refine aI [2,24,25] [2] (fun(i:Nat)=>[(26,some (i64 i))]) (fun _=>[]) (fun i=>i<=l.bo.length/\(l.bo.take i).all (fun b=>sM b.pts)=true) (fun i=>l.bo.length-i) 0 ⟨zero_le _,rfl⟩ ?_;rintro i ⟨hi2,hj2⟩ K2 J2;refine gC (fun t27=>?_) (fun t27=>?_)
 ·have hin:=aQ t27;obtain⟨b,hb⟩:=au hin;have hbl:=(hl.bo b (mem_of_getElem? hb)).ll;refine gi (ax hb) ?_;refine gl ?_;refine aI [2,24,25,26,31,32] [2] (fun(k:Nat)=>[(33,some (i64 k))]) (fun _=>[]) (fun k=>k<=b.pts.length/\(b.pts.take k).all (fun p=>[p.x,p.y].all lE)=true) (fun k=>b.pts.length-k) 0 ⟨zero_le _,rfl⟩ ?_;rintro k ⟨hk,hkj⟩ K3 J3;refine gC (fun t34=>?_) (fun t34=>?_)
  ·have hkn:=aQ t34;obtain ⟨p,hp⟩:=au hkn;refine gi (ax hp) ?_;refine gc (Ip [p.x,p.y] (by show 2 <= _; omega)) ?_;refine gC (fun t43=>?_) (fun t43=>?_)
   ·have h1:=cS t43;refine ae ?_;rw[hT];unfold o6;rw[jI hb (by unfold sM;exact jI hp h1)];rfl
   have h1:=cT t43;refine ga aF ?_;exact aE J3 (k+1) ⟨hkn,jP hkj hp h1⟩
  have hP:sM b.pts=true:=kq (a6 hk t34) hkj;refine ga aF ?_;exact aE J2 (i+1) ⟨hin,jP hj2 hb hP⟩
 have hL:o6 l=true:=kq (a6 hi2 t27) hj2;refine ae ?_;rw[hT,hL];rfl
def yH(l:Li)(xs:List Tn):Bool :=
  cond (cond (aa .neq (cH l:Int) 0) true (aa .leq (((aN l).length:Int)-l.dv.length) 1)) true (cond (aa .eql (((aN l).length:Int)-l.dv.length) 2) (pX xs&&o6 l) false)
def jM(l:Li)(xs:List Tn):Bool :=
  (it l&&decide (xs.length<=20))&&(xs.all lW&&(l.bo.all (fun b=>b.pts.all lw)&&(if aB l=0 then yH l xs else true)))
theorem UC{l:Li}{n:Nat}(h:cond (!it l) true (aa .gtr (n:Int) 20)=true):(it l&&decide (n<=20))=false:=by
 cases hb:it l
 ·rfl
 ·rw[hb]at h;have h1:20<n:=jf (b:=20) h;rw[decide_eq_false oz];rfl
theorem Qp{l:Li}{n:Nat}(h:cond (!it l) true (aa .gtr (n:Int) 20)=false):it l=true/\n<=20:=by
 cases hb:it l
 ·rw[hb]at h;cases h
 ·rw[hb]at h;exact⟨rfl,gH (b:=20) h⟩
theorem CK{x:Tn}:cond (aa .gtr (x.t.num.length:Int) 1) true (aa .gtr (x.t.den.length:Int) 1)=!lW x:=by
 unfold lW;have e1:=kX (n:=x.t.num.length) (k:=1);have e2:=kX (n:=x.t.den.length) (k:=1);rw[iV];refine(congr (congrArg _ e1) e2).trans ?_;rw[<- Bool.decide_or,<- decide_not];exact decide_eq_decide.2 oz
theorem GB{m:Mk}:cond (cond (cond (aa .gtr (m.x.num.length:Int) 1) true (aa .gtr (m.x.den.length:Int) 1)) true (aa .gtr (m.y.num.length:Int) 1)) true (aa .gtr (m.y.den.length:Int) 1)=!lw m:=by
 unfold lw;have e1:=kX (n:=m.x.num.length) (k:=1);have e2:=kX (n:=m.x.den.length) (k:=1);have e3:=kX (n:=m.y.num.length) (k:=1);have e4:=kX (n:=m.y.den.length) (k:=1);rw[iV,iV,iV];refine(congr (congrArg _ (congr (congrArg _ (congr (congrArg _ e1) e2)) e3)) e4).trans ?_;rw[<- Bool.decide_or,<- Bool.decide_or,<- Bool.decide_or,<- decide_not];exact decide_eq_decide.2 oz
theorem rZ{l:Li}(hl:aB l=0):(aN l).length<=8:=by
 unfold aN;split
 ·exact(sj hl).2
 ·exact zero_le _
theorem Lj(l:Li)(hw:l.okw)(xs:List Tn)(hxl:xs.length<=281474976710656):FP 31 [l.av,.lst 4 (xs.map Tn.av)] (bl (jM l xs)):=by
 refine ah func31 ?_;refine gc (Ng l hw) ?_;refine ci ?_;refine gC (fun t21=>?_) (fun t21=>?_)
 ·have h1:=UC t21;refine ae ?_;unfold jM;rw[h1];rfl
 obtain⟨g1,g2⟩:=Qp t21;have hl:=uZ g1 hw;have hlb:=hl.lb;refine gl ?_;refine aI [1,2,22,23] [2] (fun(i:Nat)=>[(24,some (i64 i))]) (fun _=>[]) (fun i=>i<=xs.length/\(xs.take i).all lW=true) (fun i=>xs.length-i) 0 ⟨zero_le _,rfl⟩ ?_;rintro i ⟨hi,hj⟩ K1 J1;refine gC (fun t25=>?_) (fun t25=>?_)
 ·have hin:=aQ t25;obtain⟨x,hx⟩:=au hin;refine gi (ax hx) ?_;refine gl ?_;refine ci ?_;refine gC (fun t39=>?_) (fun t39=>?_)
  ·have h1 : lW x = false := by rw [CK] at t39; exact cS t39
   refine ae ?_;unfold jM;rw[g1,decide_eq_true g2,jI hx h1];rfl
  have h1:lW x=true:=by rw[CK]at t39;exact cT t39
  refine ga aF ?_;exact aE J1 (i+1) ⟨hin,jP hj hx h1⟩
 have hT:xs.all lW=true:=kq (a6 hi t25) hj;refine gl ?_;refine aI [1,2,42,43] [2] (fun(i:Nat)=>[(44,some (i64 i))]) (fun _=>[]) (fun i=>i<=l.bo.length/\(l.bo.take i).all (fun b=>b.pts.all lw)=true) (fun i=>l.bo.length-i) 0 ⟨zero_le _,rfl⟩ ?_;rintro i ⟨hi2,hj2⟩ K2 J2;refine gC (fun t45=>?_) (fun t45=>?_)
 ·have hin:=aQ t45;obtain⟨b,hb⟩:=au hin;have hbl:=(hl.bo b (mem_of_getElem? hb)).ll;refine gi (ax hb) ?_;refine gl ?_;refine aI [1,2,42,43,44,49,50] [2] (fun(k:Nat)=>[(51,some (i64 k))]) (fun _=>[]) (fun k=>k<=b.pts.length/\(b.pts.take k).all lw=true) (fun k=>b.pts.length-k) 0 ⟨zero_le _,rfl⟩ ?_;rintro k ⟨hk,hkj⟩ K3 J3;refine gC (fun t52=>?_) (fun t52=>?_)
  ·have hkn:=aQ t52;obtain⟨p,hp⟩:=au hkn;refine gi (ax hp) ?_;refine gl ?_;refine ci ?_;refine ci ?_;refine ci ?_;refine gC (fun t80=>?_) (fun t80=>?_)
   ·have h1 : lw p = false := by rw [GB] at t80; exact cS t80
    refine ae ?_;unfold jM;rw[g1,decide_eq_true g2,hT,jI hb (jI hp h1)];rfl
   have h1:lw p=true:=by rw[GB]at t80;exact cT t80
   refine ga aF ?_;exact aE J3 (k+1) ⟨hkn,jP hkj hp h1⟩
  have hP:b.pts.all lw=true:=kq (a6 hk t52) hkj;refine ga aF ?_;exact aE J2 (i+1) ⟨hin,jP hj2 hb hP⟩
 have hL:l.bo.all (fun b=>b.pts.all lw)=true:=kq (a6 hi2 t45) hj2;refine gc (GG l hl) ?_;refine gC (fun t85=>?_) (fun t85=>?_)
 ·have h1:=lX t85;refine ae ?_;unfold jM;rw[g1,decide_eq_true g2,hT,hL,if_neg h1];rfl
 have h1:=kQ t85;have hsl:=rZ h1;have hld:=hl.ld;refine gc (Nh l hl h1) ?_;refine gl ?_;refine gl ?_;refine ga (dD oz) ?_;refine bJ (fun _=>(UY l hl xs hxl)) ?_;refine ae ?_;unfold jM yH;rw[g1,decide_eq_true g2,hT,hL,if_pos h1];rfl
section
variable{l:Li}{xs:List Tn}{s g:Nat}(W:WkC l xs s g){k:Nat}{gr:Gr}(hg:(aN l)[k]?=some gr){j r E:Nat}{a:Aq}(Q:QInv l j r E a){n y:Nat}(ok:eD s g (n+1) y j r E=true)(hy:gr.kind≠0->0<y)
include W hg Q ok hy
theorem SW:∃F,F<=20000000000/\sf F l k a.as false/\AB a.as/\(Lw.llq a.as.rs).length<=2/\(gr.kind≠0->F=3900000/\DyS a.as):=by
 obtain⟨⟨hE,hr,hj⟩,_⟩:=tc ok;have h3:(Lw.llq a.as.rs).length<=2:=by rw[a.llq];have:=Q.lv;omega
 have al:=Q.ab W.li (by omega:E<=50000000000) hr
 by_cases hk:gr.kind=0
 ·exact⟨E,hE,Q.sma oz (le_refl _) k false,al,h3,fun h=>absurd hk h⟩
 ·have hy:=hy hk;obtain ⟨y',rfl⟩:∃ y',y = y' + 1:=⟨y - 1,by omega⟩
  obtain⟨⟨hj,hE,hr,hX,hJ⟩,_⟩:=rS ok;exact⟨3900000,by omega,Q.sma oz hE k false,al,h3,fun _=>⟨rfl,QInv.dyS W hg Q hr hj⟩⟩
theorem Pf:wj l k (cg gr xs) a.as=((fp l a.as gr (cg gr xs)).map Sv.av,mK l a.as gr (cg gr xs)):=by
 have _:=ok;have _:=hy;unfold wj;have hgA:jk l (k:Nat)=gr:=aC hg;rw[if_pos (Q.dy0 W.li W.sp hg false),hgA];exact Prod.ext (LO _ _ _ _) rfl
theorem QH:FP 17 [l.av,i64 k,(cg gr xs).av,a.av] (.tup [.lst 3 ((fp l a.as gr (cg gr xs)).map Sv.av),bj (mK l a.as gr (cg gr xs))]):=by
 obtain⟨F,hF,hs,al,h3,hR⟩:=SW W hg Q ok hy;have hgA:jk l (k:Nat)=gr:=aC hg;have h:=TD l W.hl k (W.tn hg).1 (W.tn hg).2.1 a.as al (fun _=>h3) hF hs (fun _ h=>hR (by rw[hgA]at h;exact h));rw[Pf W hg Q ok hy,a.as_av]at h;exact h
theorem Oz:∃y' j' r' E',eD s g n y' j' r' E'=true/\(y'+(if gr.kind≠0 then 1 else 0)=y)/\∀sv∈fp l a.as gr (cg gr xs),QInv l j' r' E' (a.nxt gr sv):=by
 by_cases hk:gr.kind=0
 ·exact⟨y,j,r,_,(tc ok).2,by simp[hk],Q.drv W hg ok hk⟩
 ·have hy:=hy hk;obtain ⟨y',rfl⟩:∃ y',y = y' + 1:=⟨y - 1,by omega⟩
  exact⟨y',j+1,_,_,(rS ok).2,by simp[hk],Q.dy W hg ok hk⟩
end
def lK(g:Gr):Bool:=decide (g.kind≠0)
theorem Ha{F:Int->Bool}{sg:Bool}{f:Sv->List Aq×Nat}{M:Nat}:∀{S:List Sv},(∀s∈S,(f s).1.length<=M)->(fm F sg f S).1.length<=S.length*M
 |[],h=>zero_le _
 |s::S,h=>by
  have h1:=h s mem_cons_self;have h2:=Ha (F:=F) (sg:=sg) (S:=S) (fun x hx=>h x (mem_cons_of_mem _ hx));rw[o8,length_cons,Nat.succ_mul];split
  ·omega
  ·split
   ·omega
   ·split
    ·omega
    ·simp only[length_append];omega
structure WkSt(l:Li)(s g n:Nat)(a:Aq):Prop where
  st:∃j r E y,QInv l j r E a/\eD s g n y j r E=true/\((aN l).drop a.ms.length).countP lK<=y
  ln:a.ms.length+n=(aN l).length
theorem WkSt.next{l:Li}{xs:List Tn}{s g n:Nat}(W:WkC l xs s g){a:Aq}(h:WkSt l s g (n+1) a):∃gr,(aN l)[a.ms.length]?=some gr /\
  FP 17 [l.av,i64 a.ms.length,(cg gr xs).av,a.av] (.tup [.lst 3 ((fp l a.as gr (cg gr xs)).map Sv.av),bj (mK l a.as gr (cg gr xs))]) /\
  SolP (fp l a.as gr (cg gr xs)) gr.kind a.ts.length gr.bo.length/\∀sv∈fp l a.as gr (cg gr xs),WkSt l s g n (a.nxt gr sv):=by
 obtain⟨⟨j,r,E,y,Q,ok,hc⟩,hl⟩:=h;obtain⟨gr,hg⟩:=au (l:=aN l) (i:=a.ms.length) oz;have hdr:=rQ hg;rw[hdr,List.countP_cons]at hc
 have hy:gr.kind≠0->0<y:=fun hk=>by
  have:lK gr=true:=decide_eq_true hk;rw[if_pos this]at hc;omega
 obtain⟨y',j',r',E',ok',ey,hQ⟩:=Oz W hg Q ok hy;refine⟨gr,hg,QH W hg Q ok hy,QN W hg Q ok hy,fun sv hsv=>⟨⟨j',r',E',y',hQ sv hsv,ok',?_⟩,?_⟩⟩
 ·have e : (a.nxt gr sv).ms.length = a.ms.length + 1 := by show (a.ms ++ [sv.mode]).length = _; simp
  rw[e]
  by_cases hk:gr.kind=0
  ·have h1 : lK gr = false := by unfold lK; simp [hk]
   simp only[hk,ne_eq,not_true_eq_false,if_false]at ey;rw[h1]at hc;simp only[Bool.false_eq_true,if_false]at hc;omega
  ·have h1:lK gr=true:=decide_eq_true hk;rw[if_pos hk]at ey;rw[if_pos h1]at hc;omega
 ·show(a.ms++[sv.mode]).length+n=_;rw[length_append];simp only[length_cons,length_nil];omega
theorem By{l:Li}{xs:List Tn}{s g:Nat}(W:WkC l xs s g)(F:Nat->Int->Bool)(sg:Bool):∀(n:Nat)(a:Aq),WkSt l s g n a->(jb F sg l xs (aN l) n a).1.length<=2^n
 |0,a,h=>le_refl _
 |n+1,a,h=>by
  obtain⟨gr,hg,_,hP,hn⟩:=h.next W;unfold jb;rw[aC hg];split
  ·exact zero_le _
  ·have h1:=Ha (F:=F a.ms.length) (sg:=sg) (f:=fun sv=>jb F sg l xs (aN l) n (a.nxt gr sv)) (M:=2^n) (S:=fp l a.as gr (cg gr xs)) (fun sv hsv=>By W F sg n _ (hn sv hsv));have h2:=mul_le_mul_right (2^n) hP.two;rw[Nat.pow_succ];omega
theorem E0{l:Li}{xs:List Tn}{s g:Nat}(W:WkC l xs s g)(F:Nat->Int->Bool)(sg:Bool){fo:FuncId}{caps:List AV}(hF:∀(k:Nat)(m:Int),k<(aN l).length->FP fo ([i64 k,i64 m]++caps) (bl (F k m))) :
  ∀(n:Nat)(a:Aq),WkSt l s g n a->∀o:List Aq,o.length+2^n<=1000 ->
   Con prog 100 [.ptr 1000 0,a.av] (fA l xs (aN l) fo caps sg 1001 (o.map Aq.av)) (bj (jb F sg l xs (aN l) n a).2) (fA l xs (aN l) fo caps sg 900 ((o++(jb F sg l xs (aN l) n a).1).map Aq.av))
 |0,a,h,o,ho=>by
  have hG:(aN l).length<=100:=by have:=rZ W.li;omega
  obtain⟨⟨j,r,E,y,Q,ok,_⟩,hl⟩:=h;obtain⟨hE,_,_⟩:=Ve ok;have hlb:=(cO W.li).2.2.2.1;have hln:=Q.ln;have h3:=Q.tw.three;obtain⟨D,N,hD,hts,h1,h2⟩:=Q.tw.rb
  exact Tx oz hG oz (L0 (e:=5000000000+E) Q.tw.five (fun x hx=>by
   obtain⟨i,hi⟩:=List.getElem?_of_mem hx;have hi2:=(List.getElem?_eq_some_iff.1 hi).1;have h9:=Q.tw.len i hi2;rw[aC hi]at h9;exact⟨Q.tw.five,.inr ⟨i,by omega,h9⟩,D,N,hts x hx,le_trans h1 (bK (by have:=Q.tw.le;omega)),le_trans h2 (bK (by have:=Q.tw.le;omega))⟩)
   (fun p hp=>(Q.bs p hp).up (le_refl _) Q.tw.five oz) oz oz oz oz)
 |n+1,a,h,o,ho=>by
  have hG:(aN l).length<=100:=by have:=rZ W.li;omega
  have hlb:=(cO W.li).2.2.2.1;have hln:=h.ln;obtain⟨j,r,E,y,Q,ok,_⟩:=h.st;obtain⟨gr,hg,hS,hP,hn⟩:=h.next W;obtain⟨hdy,hgo⟩:=r5 W.li (mem_of_getElem? hg);have h2:=uM W.li;have hxl:=W.ln;have hQl:=Q.ln;have hgb:=hgo.lb
  have key := TZ (l := l) (xs := xs) (G := aN l) (fo := fo) (caps := caps) (sg := sg) (o := o) hg hG oz (fun hk => by rw [hxl]; exact CE hdy hk) hS (by have := hP.two; omega) (F := F a.ms.length) (fun m => hF _ m oz)
   (fun sv hsv => KV (fun b hb => by rw [hQl]; exact hgo.b b hb) (by
    obtain⟨i,hi⟩:=List.getElem?_of_mem hsv;exact(hP.md i sv hi).2.2) oz oz oz)
   (f:=fun sv=>jb F sg l xs (aN l) n (a.nxt gr sv)) (M:=2^n) (B:=1000) (fun sv hsv=>By W F sg n _ (hn sv hsv)) (by have:=mul_le_mul_right (2^n) hP.two;rw[Nat.pow_succ]at ho;omega)
   (fun o' ho' sv hsv=>E0 W F sg hF n _ (hn sv hsv) o' ho')
  have e:jb F sg l xs (aN l) (n+1) a=(if mK l a.as gr (cg gr xs)≠0 then([],mK l a.as gr (cg gr xs))else fm (F a.ms.length) sg (fun sv=>jb F sg l xs (aN l) n (a.nxt gr sv)) (fp l a.as gr (cg gr xs))):=by
   conv=>lhs;unfold jb
   rw[aC hg]
  rw[e]
  by_cases hE:mK l a.as gr (cg gr xs)≠0
  ·rw[if_pos hE]at key ⊢;rw[if_pos hE]at key;exact key
  ·rw[if_neg hE]at key ⊢;rw[if_neg hE]at key;exact key
abbrev ta(l:Li)(xs:List Tn)(G:List Gr)(fo:FuncId)(caps:List AV)(sg:Bool)(k0 k:Nat)(es:List AV):Hp :=
  [(k0,some (.box (g9 l xs G fo caps sg (.ms k 3 0 es.length)))),(k,some (.row 3 es))]
def uS(k:Nat):Nat:=bif Nat.beq k 1000 then 902 else bif Nat.beq k 902 then 1000 else qX k
theorem vd{a b:Nat}(h:¬a=b):Nat.beq a b=false:=by
 cases h1:Nat.beq a b
 ·rfl
 ·exact absurd (eq_of_beq_eq_true h1) h
theorem Dz(k:Nat):uS (uS k)=k:=by
 by_cases h1:k=1000
 ·subst h1;rfl
 by_cases h2:k=902
 ·subst h2;rfl
 by_cases h3:k=1001
 ·subst h3;rfl
 by_cases h4:k=901
 ·subst h4;rfl
 have e:uS k=k:=by simp only[uS,qX,vd h1,vd h2,vd h3,vd h4,cond_false]
 rw[e,e]
theorem SU{l:Li}{xs:List Tn}{G:List Gr}{fo:FuncId}{caps:List AV}{sg:Bool}{es:List AV}(h0:0<l.bo.length)(hl:l.bo.length<=100) :
  Con prog 101 [.ptr 902 0] (ta l xs G fo caps sg 902 901 es) (gq l).av (ta l xs G fo caps sg 902 901 es):=Con.pm Dz (JC h0 hl)
theorem Qd{l:Li}{xs:List Tn}{G:List Gr}{fo:FuncId}{caps:List AV}{sg:Bool}{es es':List AV}{a:Aq}{e:Nat}
  (h:Con prog 100 [.ptr 1000 0,a.av] (fA l xs G fo caps sg 1001 es) (bj e) (fA l xs G fo caps sg 900 es')) :
  Con prog 100 [.ptr 902 0,a.av] (ta l xs G fo caps sg 902 901 es) (bj e) (ta l xs G fo caps sg 902 900 es'):=Con.pm Dz h
def mj:Nat->Int->Bool:=fun _ _=>true
def qv(F:Nat->Int->Bool)(sg:Bool)(l:Li)(xs:List Tn):List Aq×Nat:=jb F sg l xs (aN l) (aN l).length (gq l)
def mM(l:Li)(xs:List Tn):List Aq×Nat:=if dM l xs≠0 then([],dM l xs)else if(qv mj false l xs).2≠0 then([],(qv mj false l xs).2)else qv mj false l xs
theorem VE{l:Li}{xs:List Tn}(h0:dM l xs≠0)(hop:Con prog 99 [l.av,.lst 4 (xs.map Tn.av)] [] (.tup [r7 (dM l xs),bj (dM l xs)]) (vI (dM l xs) l xs)) :
  FP 33 [l.av,.lst 4 (xs.map Tn.av)] (.tup [.lst 3 [],bj (dM l xs)]):=by
 rw[lc h0,vn h0]at hop;refine ah func33 ?_;refine gc hop ?_;refine gC (fun t16=>?_) (fun t16=>?_) (st2:=(77777,0))
 ·refine gR ?_;exact eH (Sub.tup (.cons (.nil _ _ _) (.cons (.refl _) .nil)))
 exact absurd (cP t16) h0
theorem JG{l:Li}{xs:List Tn}(h0:dM l xs=0)(hop:Con prog 99 [l.av,.lst 4 (xs.map Tn.av)] [] (.tup [r7 (dM l xs),bj (dM l xs)]) (vI (dM l xs) l xs))(hb:0<l.bo.length)(hl:l.bo.length<=100)
  {R:List Aq×Nat} (hw:Con prog 100 [.ptr 1000 0,(gq l).av] (fA l xs (aN l) 189 [] false 1001 []) (bj R.2) (fA l xs (aN l) 189 [] false 900 (R.1.map Aq.av))) :
  FP 33 [l.av,.lst 4 (xs.map Tn.av)] (.tup [.lst 3 ((if R.2≠0 then[]else R.1).map Aq.av),bj R.2]):=by
 rw[h0]at hop;have hop:Con prog 99 [l.av,.lst 4 (xs.map Tn.av)] [] (.tup [.ptr 900 0,.v .nilIface]) [(900,some (.box (g9 l xs (aN l) 189 [] false (nS))))]:=hop;refine ah func33 ?_;refine gt (ay hop (bm rfl rfl) az rfl rfl) ?_;refine gC (fun t16=>?_) (fun t16=>?_) (st1:=(3,0)) (st2:=(77777,0));cases t16;refine gW (Wk.o (sl:=[(6,some (.ptr 900 0))]) (hp:=[(900,some (.box (g9 l xs (aN l) 189 [] false (nS))))])) ?_ (77777,0);refine gW (Wk.rk (k:=900) (d:=902) rfl rfl) ?_ (77777,0);refine gW (Wk.virt 901 3 rfl) ?_ (77777,0);refine gW (Wk.of (sl:=[(6,some (.ptr 902 0))]) (hp:=ta l xs (aN l) 189 [] false 902 901 []) (.k .nil) (.cons rfl (BlkSub.bL (.cons (.refl _) (.cons (.refl _) (.cons (.refl _) (.cons (.refl _) (.cons (.refl _) (.cons (.refl _) (.cons (.refl _) (.cons (.refl _) (.cons (Sub.nM _ _ _) .nil))))))))) rfl) (.k .nil))) ?_;refine gt (GA (SU hb hl) (cR rfl) rfl rfl rfl rfl rfl) ?_;refine gt (ay (Qd hw) (bm rfl rfl) az rfl rfl) ?_;refine gC (fun t23=>?_) (fun t23=>?_) (st2:=(77777,0))
 ·have hE:=cU t23;refine gR ?_;exact eH (by rw[if_pos hE];exact Sub.tup (.cons (.nil _ _ _) (.cons (.refl _) .nil)))
 have hE:=cP t23;refine gW ((Wk.freeze (k:=900) rfl).trans<|Wk.of (sl:=[(6,some (.ptr 902 0))]) (hp:=[(902,some (.box (g9 l xs (aN l) 189 [] false (.lst 3 (R.1.map Aq.av)))))]) aV (.cons rfl (BlkSub.bL (.cons (.refl _) (.cons (.refl _) (.cons (.refl _) (.cons (.refl _) (.cons (.refl _) (.cons (.refl _) (.cons (.refl _) (.cons (.refl _) (.cons (Sub.of (bN rfl)) .nil))))))))) rfl) .nil)) ?_;refine gR ?_;exact eH (Sub.of (by rw[if_neg oz,hE];rfl))
abbrev eN{ts:LL}(p:Et ts×Et ts):AV:=aG (sX p.1) (sX p.2)
abbrev nl:AV:=nS
section
variable{ts:LL}{a b a2 b2:List Rat}{x y x2 y2:Et ts}
end
section
variable{ts:LL}{a b c a2 b2 c2:List Rat}{x y z x2 y2 z2:Et ts}
end
theorem DyOk.drv{l:Li}{k:Int}{a:As}{own:Bool}{n:Nat}{g:Gr}(h:DyOk 3900000 l k a own n g)(hk:g.kind=0):∃i z0 d j0,g=⟨0,[i],[z0],d⟩/\l.jo[z0.toNat]?=some j0/\PinP 3900000 l a j0 i:=by
 have hd:=h.dy;cases hd with
 |rrr _ _ _ _ _ _ _=>exact absurd hk (by simp)
 |pr _ _ _=>exact absurd hk (by simp)
 |rp _ _ _=>exact absurd hk (by simp)
 | @drv b z d j x t d0 hd hb=>exact⟨b,z,d,j,rfl,t.hj,h.pin rfl t (by simp) (by simp)⟩
section
variable{ts:LL}{u k:Nat}{a b a2 b2:List Rat}{x y x2 y2:Et ts}{w v w' v' w2 v2 w3 v3:Nat}
end
section
variable{ts:LL}
end
section
variable{T:LL}
end
section
variable{l:Li}{xs:List Tn}{s g:Nat}(W:WkC l xs s g){k:Nat}{gr:Gr}(hg:(aN l)[k]?=some gr){j r E:Nat}{a:Aq}(Q:QInv l j r E a){n y:Nat}(ok:eD s g (n+1) y j r E=true)(hy:gr.kind≠0->0<y)
include W hg Q ok hy
end
theorem Rt.qbV{r:Rt}{e:Nat}(h:r.ok)(he:1<=e)(hn:val r.num<2^e)(hd:val r.den<2^e):Qb e r.q:=by
 by_cases h0:r.valid=true/\r.num≠[]
 ·obtain⟨h1,h2,h3,h4,h5,h6⟩:=Rt.parts h h0.1 h0.2;refine⟨?_,?_⟩
  ·have : r.q.num.natAbs = val r.num := by rw [h1]; unfold sgn; split <;> omega
   rw[this];exact hn
  ·rw[h2];exact hd
 ·rw[Rt.zero h0];exact Qb.zero.mono he
theorem GW{l:List Nat}{b e:Nat}(h:¬1<l.length)(hb:l.length=1->af l 0<=b)(he:b<2^e):val l<2^e:=by
 match l with
 |[]=>exact lt_of_le_of_lt (zero_le b) he
 |[x] =>
  have h1:x<=b:=hb rfl;have h2:val [x]=x:=by simp[val]
  rw[h2];omega
 |_::_::_=>simp at h
theorem zp{r:Rt}(h:r.ok)(hl:lE r=true):Qb 9 r.q:=by
 unfold lE at hl;rw[iV,iV,iV,Bool.not_eq_true',Bool.or_eq_false_iff,Bool.or_eq_false_iff,Bool.or_eq_false_iff]at hl;obtain⟨⟨⟨h1,h2⟩,h3⟩,h4⟩:=hl;have g1:r.num.length<=1:=gH (b:=1) h1;have g2:r.den.length<=1:=gH (b:=1) h2;refine Rt.qbV h oz (GW (b:=400) oz (fun hh=>?_) (by decide)) (GW (b:=20) oz (fun hh=>?_) (by decide))
 ·rw[hh]at h3;exact gH (b:=400) h3
 ·rw[hh]at h4;exact gH (b:=20) h4
theorem TN{l:Li}{xs:List Tn}(h:dM l xs=0):aB l=0/\cH l=0/\xs.length=l.dv.length/\∀x∈xs,x.err=0:=by
 unfold dM at h;split at h
 ·rename_i h1;exact absurd h h1
 ·rename_i h1;have h1:=Decidable.not_not.1 h1;unfold vc at h;split at h
  ·rename_i h2;exact absurd h h2
  ·rename_i h2;have h2:=Decidable.not_not.1 h2;split at h
   ·cases h
   ·rename_i h3;exact⟨h1,h2,Decidable.not_not.1 h3,fun x hx=>ox h _ (List.mem_map.2 ⟨x,hx,rfl⟩)⟩
theorem Jw(gs:List Gr):gs.countP lK+gs.countP (fun g=>decide (g.kind=0))=gs.length:=by
 induction gs with
 |nil=>rfl
 |cons g gs ih =>
  rw[List.countP_cons,List.countP_cons,length_cons]
  by_cases hk:g.kind=0
  ·have h1 : lK g = false := by unfold lK; simp [hk]
   rw[h1];simp only[hk,decide_true,Bool.false_eq_true,if_false,if_true];omega
  ·have h1:lK g=true:=decide_eq_true hk;rw[h1];simp only[hk,decide_false,Bool.false_eq_true,if_false,if_true];omega
theorem Ab{s g:Nat}:∀{n m y y' j r E:Nat},eD s g n y j r E=true->m<=n->y'<=y->eD s g m y' j r E=true
 |n,0,y,y',j,r,E,h,hm,hy=>by
  have h1:=v6 h;exact decide_eq_true h1
 |n+1,m+1,y,y',j,r,E,h,hm,hy=>by
  have h1:=tc h;unfold eD;simp only[and_eq_true,or_eq_true,decide_eq_true_eq];refine⟨v6 h,Ab h1.2 oz hy,?_⟩
  by_cases hz:y'=0
  ·exact .inl hz
  ·right;obtain ⟨y2,rfl⟩:∃ y2,y = y2 + 1:=⟨y - 1,by omega⟩
   have h2:=rS h;exact⟨h2.1,Ab h2.2 oz oz⟩
theorem Dy{l:Li}{xs:List Tn}(hL:jM l xs=true)(hl:l.ok)(hxw:∀x∈xs,x.t.wok)(h0:dM l xs=0):∃s g,WkC l xs s g/\WkSt l s g (aN l).length (gq l):=by
 obtain⟨hli,hsp,hln,hxe⟩:=TN h0;unfold jM at hL;simp only[and_eq_true,decide_eq_true_eq]at hL;obtain⟨⟨_,_⟩,hT,hM,hR⟩:=hL;rw[all_eq_true]at hT hM;rw[if_pos hli]at hR;unfold yH at hR;rw[iV,iV,iO]at hR;have hdl:=NS hli hsp;have hd2:=uM hli;have hcn:=Jw (aN l)
 have hxo:∀x∈xs,x.t.ok/\Qb 32 x.t.q:=fun x hx=>by
  have h9:=hT x hx;unfold lW at h9;rw[decide_eq_true_eq]at h9;have ho:=(hxw x hx).ok h9.1 h9.2 oz;exact⟨ho,(Rt.qb ho (k:=1) oz h9.1 h9.2).mono oz⟩
 have hstart:∀(s g n y:Nat),eD s g n y 0 0 2=true->(aN l).length<=n->(aN l).countP lK<=y->WkSt l s g (aN l).length (gq l):=fun s g n y ok h1 h2 =>
  ⟨⟨0,0,2,y,U3 l,Ab ok h1 (le_refl _),h2⟩,Nat.zero_add _⟩
 by_cases hn:(aN l).length<=l.dv.length+1
 ·refine⟨32,134,⟨hl,hli,hsp,?_,hln,fun x hx=>?_⟩,hstart 32 134 3 1 Mg oz oz⟩
  ·intro b hb m hm;have h9:=hM b hb;rw[all_eq_true]at h9;have h8:=h9 m hm;unfold lw at h8;rw[decide_eq_true_eq]at h8;have ho:=(hl.bo b hb).pts m hm;exact⟨(Rt.qb ho.x (k:=1) oz h8.1 h8.2.1).mono oz,(Rt.qb ho.y (k:=1) oz h8.2.2.1 h8.2.2.2).mono oz⟩
  ·obtain⟨h1,h2⟩:=hxo x hx;exact⟨h1,hxe x hx,h2.mono oz,Cb.one (oY h2),Cb.one (pb h2)⟩
 ·have hlow:(aN l).length=l.dv.length+2/\pX xs=true/\o6 l=true:=by
   simp only[or_eq_true,and_eq_true]at hR;rcases hR with(h9 |h9) |⟨h9,h8⟩
   ·rw[hsp]at h9;exact absurd h9 (by simp[aa])
   ·have : ((aN l).length : Int) - l.dv.length <= 1 := by simpa [aa] using h9
    omega
   ·have : ((aN l).length : Int) - l.dv.length = 2 := by simpa [aa] using h9
    exact⟨by omega,h8.1,h8.2⟩
  obtain⟨hlen,hlT,hlL⟩:=hlow;refine⟨9,42,⟨hl,hli,hsp,?_,hln,fun x hx=>?_⟩,hstart 9 42 4 2 VJ oz oz⟩
  ·intro b hb m hm;unfold o6 at hlL;rw[all_eq_true]at hlL;have h9:=hlL b hb;unfold sM at h9;rw[all_eq_true]at h9;have h8:=h9 m hm;simp only[all_cons,List.all_nil,Bool.and_true,and_eq_true]at h8;have ho:=(hl.bo b hb).pts m hm;exact⟨zp ho.x h8.1,zp ho.y h8.2⟩
  ·obtain⟨h1,h2⟩:=hxo x hx;unfold pX at hlT;rw[all_eq_true]at hlT;have h8:=hlT x hx;simp only[all_cons,List.all_nil,Bool.and_true]at h8;have h9:=zp h1 h8;exact⟨h1,hxe x hx,h2.mono oz,Cb.one (oY h9),Cb.one (pb h9)⟩
theorem yr{F:Int->Bool}{sg:Bool}{f:Sv->List Aq×Nat}{b:Aq}:∀{S:List Sv},b∈(fm F sg f S).1->∃s∈S,F s.mode=true/\b∈(f s).1
 |[],h=>by cases h
 |s::S,h=>by
  rw[o8]at h;split at h
  ·obtain⟨x,hx,h2⟩:=yr h;exact⟨x,mem_cons_of_mem _ hx,h2⟩
  ·rename_i hF;have hF:F s.mode = true:=by simpa using hF
   split at h
   ·exact⟨s,mem_cons_self,hF,h⟩
   ·split at h
    ·exact⟨s,mem_cons_self,hF,h⟩
    ·rcases List.mem_append.1 h with h |h
     ·exact⟨s,mem_cons_self,hF,h⟩
     ·obtain⟨x,hx,h2⟩:=yr h;exact⟨x,mem_cons_of_mem _ hx,h2⟩
def mt(s:ByteArray)(n:Int):Bd:=⟨s,[⟨⟨#[97]⟩,rt ((0:Int):Rat),rt ((0:Int):Rat)⟩,⟨⟨#[98]⟩,rt (n:Rat),rt ((0:Int):Rat)⟩]⟩
def fb:Li:=⟨⟨#[102,111,117,114,98,97,114]⟩,[mt ⟨#[102,114,97,109,101]⟩ 4,mt ⟨#[99,114,97,110,107]⟩ 3,mt ⟨#[99,111,117,112,108,101,114]⟩ 5,mt ⟨#[114,111,99,107,101,114]⟩ 6],
  [⟨⟨#[111]⟩,0,1,0,0,0,0⟩,⟨⟨#[112]⟩,0,2,0,1,1,0⟩,⟨⟨#[113]⟩,0,3,0,0,1,0⟩,⟨⟨#[114]⟩,0,2,1,3,1,0⟩],[⟨⟨#[100]⟩,1⟩]⟩
def t0:Tn:=⟨⟨false,[],[]⟩,false⟩
theorem z4(a b:ByteArray):dQ a b=(a.data.toList==b.data.toList):=by
 unfold dQ;rw[Go.ByteArray.toList_eq,Go.ByteArray.toList_eq]
theorem Ez:aB fb=0:=by
 have h1:ik fb=0:=by
  unfold ik eW ek gw d6;simp only[z4];decide +kernel
 have h2:eT fb=0:=by
  unfold eT eW fM gw;simp only[z4];decide +kernel
 have h3:gh fb=0:=by
  unfold gh eW dR gw;simp only[z4];decide +kernel
 unfold aB;rw[h1,h2,h3];decide +kernel
theorem L9{s:ByteArray}(hs:s.size<=281474976710656){n:Int}(hn:-9223372036854775808<=n/\n<=9223372036854775807) :
  (mt s n).name.size<=281474976710656/\(mt s n).pts.length<=281474976710656/\∀m∈(mt s n).pts,m.name.size<=281474976710656/\m.x.wok/\m.y.wok:=by
 have h0:(rt ((0:Int):Rat)).ok:=(qT oz).ok;have h1:(rt (n:Rat)).ok:=(qT hn).ok;refine⟨hs,by show 2<=_;omega,fun m hm=>?_⟩;simp only[mt,mem_cons,not_mem_nil,or_false]at hm;rcases hm with rfl |rfl
 ·exact⟨by show 1<=_;omega,h0.wok,h0.wok⟩
 ·exact⟨by show 1<=_;omega,h1.wok,h0.wok⟩
theorem VU:fb.okw:=by
 refine⟨by decide,fun b hb=>?_,fun j hj=>?_,fun d hd=>?_,by decide,by decide,by decide⟩
 ·simp only[fb,mem_cons,not_mem_nil,or_false]at hb;rcases hb with rfl |rfl |rfl |rfl <;> exact L9 (by decide) oz
 ·simp only[fb,mem_cons,not_mem_nil,or_false]at hj;rcases hj with rfl |rfl |rfl |rfl <;> decide
 ·simp only[fb,mem_cons,not_mem_nil,or_false]at hd;rcases hd with rfl;decide
theorem Re:fb.ok:=uZ (by decide +kernel) VU
theorem il.ofL{l l':List AV}(h:SubL l l')(ho:l'.all AV.one=true):il (.agg l) (.agg l') :=
 ⟨h.len,fun j x y hx hy=>⟨List.all_eq_true.1 ho y (mem_of_getElem? hy),h.get j x y hx hy⟩⟩
theorem CD(s:ByteArray)(x y:Int)(hx:-9223372036854775808<=x/\x<=9223372036854775807)(hy:-9223372036854775808<=y/\y<=9223372036854775807):FP 234 [.v (.string s),i64 x,i64 y] (Mk.av ⟨s,rt (x:Rat),rt (y:Rat)⟩):=by
 refine ah func234 ?_;refine gc (xP x hx) ?_;refine gc (xP y hy) ?_;refine ae ?_
 first |rfl |(simp;done)
theorem vE(s:ByteArray)(n:Int)(hn:-9223372036854775808<=n/\n<=9223372036854775807):FP 127 [.v (.string s),i64 n] (mt s n).av:=by
 refine ah func127 ?_;refine gc (CD _ 0 0 oz oz) ?_;refine gc (CD _ n 0 hn oz) ?_;refine ae ?_
 first |rfl |(simp;done)
theorem Mo:FP 55 [] fb.av:=by
 refine ah func55 ?_;refine gc (vE _ 4 oz) ?_;refine gc (vE _ 3 oz) ?_;refine gc (vE _ 5 oz) ?_;refine gc (vE _ 6 oz) ?_;refine ae ?_
 first |rfl |(simp;done)
deriving instance DecidableEq for Pq
deriving instance DecidableEq for Aq
theorem Aj{l:Li}{xs:List Tn}(h:jM l xs=true)(hxw:∀x∈xs,x.t.wok):it l=true/\xs.length<=20/\∀x∈xs,x.t.ok:=by
 unfold jM at h;simp only[and_eq_true,decide_eq_true_eq]at h;refine⟨h.1.1,h.1.2,fun x hx=>?_⟩;have h9:=List.all_eq_true.1 h.2.1 x hx;unfold lW at h9;rw[decide_eq_true_eq]at h9;exact(hxw x hx).ok h9.1 h9.2 oz
theorem Mh{p:Bool}(h:cond (!true) true (!p)=false):p=true:=by cases p <;> simp_all
open Lean.Grind (CommRing)
section
variable{r:(k:Nat)->T k}
def fy{n:Nat}(x:E r n):E r n:=T.inv r n x
theorem tK{n:Nat}(u:E r n)(h:Sg (E r n) (sg r n)):sg r (n+1) (bC u 0)=sg r n u:=by
 rw[kL,h.zero];unfold T.sgn3;split
 ·rfl
 ·rw[if_pos (.inr rfl)]
theorem Tc{n:Nat}{x y:E r n}(hz:T.isZ n y=true):fy (bC x y:E r (n+1))=bC (fy x) 0:=by
 have e:y=T.zero n:=(T.isZ_iff n y).1 hz;subst e;have h:=T.inv_low r n x;show T.inv r (n+1) (x,T.zero n)=_;rw[h,E.zero_def];rfl
theorem VL{n:Nat}{x y:E r n}(hz:T.isZ n y=false)(h0:sg r n (aM x y)=0):fy (bC x y:E r (n+1))=bC (fy (x+x)) 0:=by
 have h:=IA r (i:=n) (x:=((x,y):T n×T n)) hz h0;show T.inv r (n+1) (x,y)=_;rw[h,E.zero_def];rfl
theorem Wa{n:Nat}{x y:E r n}(hz:T.isZ n y=false)(h0:sg r n (aM x y)≠0):fy (bC x y:E r (n+1))=bC (x*fy (aM x y)) (-y*fy (aM x y)):=by
 have h:=Ex r (i:=n) (x:=((x,y):T n×T n)) hz h0;exact h
theorem LK{q:Rat}(hq:bD q≠0):bD ((1:Rat)/q*q+-(((1:Nat):Rat)))=0:=by
 have hq:q≠0:=by
  rintro rfl;exact hq (by decide +kernel)
 have e:(1:Rat)/q*q+-(((1:Nat):Rat))=0:=by
  rw[show(((1:Nat):Rat))=1 from rfl];grind
 rw[e];decide +kernel
theorem HL(r:(k:Nat)->T k):∀(n:Nat),fe r n->∀x:E r n,sg r n x≠0->sg r n (fy x*x-1)=0
 |0,hp,x,hx=>LK (q:=x) hx
 |n+1,hp,z,hz=>by
  have hp':fe r n:=fun j hj=>hp j oz
  have h:=gG r n hp';have H:=gG r (n+1) hp;have ih:=HL r n hp';obtain⟨x,y,rfl⟩:=jW z;cases hzy:T.isZ n y
  ·by_cases h0:sg r n (aM x y)=0
   ·rw[VL hzy h0];have h2:=I0 h (hp n oz) hz h0;have e1:=ih _ h2
    have c:sg r (n+1) (bC x (-y))=0:=by
     have m:=H.mul (bC x y) (bC x (-y))
     have e:(bC x y:E r (n+1))*bC x (-y)=bC (aM x y) 0:=by
      rw[ko];unfold aM;congr 1 <;> grind
     rw[e,tK _ h,h0]at m;rcases Int.mul_eq_zero.1 m.symm with g |g
     ·exact absurd g hz
     ·exact g
    have e2:bC (fy (x+x)) 0*bC x y-(1:E r (n+1))=-(bC (fy (x+x)) 0*bC x (-y))+bC (fy (x+x)*(x+x)-1) 0:=by
     rw[uw,show ∀a b:E r (n+1),a-b=a+-b from fun a b=>by grind,ko,ko,r6,r6,od,od];congr 1 <;> grind
    rw[e2];have e3:sg r (n+1) (-(bC (fy (x+x)) 0*bC x (-y)))=0:=by rw[H.neg,H.mul,c];simp
    rw[H.zadd e3,tK _ h];exact e1
   ·rw[Wa hzy h0];have e1:=ih _ h0
    have e2:bC (x*fy (aM x y)) (-y*fy (aM x y))*bC x y-(1:E r (n+1))=bC (fy (aM x y)*aM x y-1) 0:=by
     rw[uw,show ∀a b:E r (n+1),a-b=a+-b from fun a b=>by grind,ko,r6,od];generalize fy (aM x y)=i;unfold aM;congr 1 <;> grind
    rw[e2,tK _ h];exact e1
  ·rw [Tc hzy];have e:y = 0:=by rw [(T.isZ_iff n y).1 hzy,E.zero_def]
   subst e;rw[tK _ h]at hz;have e1:=ih _ hz
   have e2:bC (fy x) 0*bC x 0-(1:E r (n+1))=bC (fy x*x-1) 0:=by
    rw[uw,show ∀a b:E r (n+1),a-b=a+-b from fun a b=>by grind,ko,r6,od];congr 1 <;> grind
   rw[e2,tK _ h];exact e1
end
section
variable{r:(k:Nat)->T k}{n:Nat}
def zS(h:fe r n):Setoid (E r n) where
  r x y:=sg r n (x-y)=0
  iseqv:=by
    have H:=gG r n h;refine⟨fun x=>?_,fun {x y} e=>?_,fun {x y z} e f=>?_⟩
    · rw[show x-x=0 by grind];exact H.zero
    · rw[show y-x=-(x-y) by grind,H.neg,e];rfl
    · rw[show x-z=(x-y)+(y-z) by grind,H.zadd e];exact f
def Zq(h:fe r n):Type:=Quotient (zS h)
def an(h:fe r n)(x:E r n):Zq h:=Quotient.mk (zS h) x
theorem kr(h:fe r n){x y:E r n}:an h x=an h y↔sg r n (x-y)=0 :=
 ⟨fun e=>Quotient.exact (s:=zS h) e,fun e=>Quotient.sound (s:=zS h) e⟩
instance (h:fe r n):Add (Zq h):=⟨Quotient.lift₂ (fun x y=>an h (x+y)) (by
  intro a b c d e f;have H:=gG r n h;refine(kr h).2 ?_;rw[show a+b-(c+d)=(a-c)+(b-d) by grind,H.zadd (show sg r n (a-c)=0 from e)];exact f)⟩
instance (h:fe r n):Mul (Zq h):=⟨Quotient.lift₂ (fun x y=>an h (x*y)) (by
  intro a b c d e f;have H:=gG r n h;refine(kr h).2 ?_;have e':sg r n (a-c)=0:=e;have f':sg r n (b-d)=0:=f;rw[show a*b-c*d=(a-c)*b+c*(b-d) by grind,H.zadd (by rw[H.mul,e'];simp),H.mul,f'];simp)⟩
instance (h:fe r n):Neg (Zq h):=⟨Quotient.lift (fun x=>an h (-x)) (by
  intro a c e;have H:=gG r n h;refine(kr h).2 ?_;have e':sg r n (a-c)=0:=e;rw[show -a - -c=-(a-c) by grind,H.neg,e'];rfl)⟩
instance (h:fe r n):_root_.Sub (Zq h):=⟨fun x y=>x+-y⟩
instance (h:fe r n)(c:Nat):OfNat (Zq h) c:=⟨an h (OfNat.ofNat c)⟩
instance (h:fe r n):NatCast (Zq h):=⟨fun c=>an h (c:E r n)⟩
instance (h:fe r n):IntCast (Zq h):=⟨fun c=>an h (c:E r n)⟩
instance (h:fe r n):SMul Nat (Zq h):=⟨fun c x=>an h (c:E r n)*x⟩
instance (h:fe r n):SMul Int (Zq h):=⟨fun c x=>an h (c:E r n)*x⟩
def Zq.pow{h:fe r n}(x:Zq h):Nat->Zq h
  |0=>an h 1
  |c+1=>Zq.pow x c*x
instance (h:fe r n):HPow (Zq h) Nat (Zq h):=⟨Zq.pow⟩
variable(h:fe r n)
theorem jS(x y:E r n):an h (x+y)=an h x+an h y:=rfl
theorem co(x y:E r n):an h (x*y)=an h x*an h y:=rfl
theorem LI(x:E r n):an h (-x)=-an h x:=rfl
theorem cJ(x y:E r n):an h (x-y)=an h x-an h y:=by
 rw[show x-y=x+-y by grind];rfl
theorem eL(a:Zq h):∃x,a=an h x:=Quotient.ind (motive:=fun a=>∃x,a=an h x) (fun x=>⟨x,rfl⟩) a
instance zRing:CommRing (Zq h) where
  add_zero a:=by
    obtain⟨x,rfl⟩:=eL h a;exact congrArg (an h) (show x+0=x by grind)
  add_comm a b:=by
    obtain⟨x,rfl⟩:=eL h a;obtain⟨y,rfl⟩:=eL h b;exact congrArg (an h) (show x+y=y+x by grind)
  add_assoc a b c:=by
    obtain⟨x,rfl⟩:=eL h a;obtain⟨y,rfl⟩:=eL h b;obtain⟨z,rfl⟩:=eL h c;exact congrArg (an h) (show x+y+z=x+(y+z) by grind)
  mul_assoc a b c:=by
    obtain⟨x,rfl⟩:=eL h a;obtain⟨y,rfl⟩:=eL h b;obtain⟨z,rfl⟩:=eL h c;exact congrArg (an h) (show x*y*z=x*(y*z) by grind)
  mul_one a:=by
    obtain⟨x,rfl⟩:=eL h a;exact congrArg (an h) (show x*1=x by grind)
  one_mul a:=by
    obtain⟨x,rfl⟩:=eL h a;exact congrArg (an h) (show 1*x=x by grind)
  left_distrib a b c:=by
    obtain⟨x,rfl⟩:=eL h a;obtain⟨y,rfl⟩:=eL h b;obtain⟨z,rfl⟩:=eL h c;exact congrArg (an h) (show x*(y+z)=x*y+x*z by grind)
  right_distrib a b c:=by
    obtain⟨x,rfl⟩:=eL h a;obtain⟨y,rfl⟩:=eL h b;obtain⟨z,rfl⟩:=eL h c;exact congrArg (an h) (show(x+y)*z=x*z+y*z by grind)
  zero_mul a:=by
    obtain⟨x,rfl⟩:=eL h a;exact congrArg (an h) (show 0*x=0 by grind)
  mul_zero a:=by
    obtain⟨x,rfl⟩:=eL h a;exact congrArg (an h) (show x*0=0 by grind)
  pow_zero a:=rfl
  pow_succ a c:=rfl
  ofNat_succ c:=congrArg (an h) (Lean.Grind.Semiring.ofNat_succ (α:=E r n) c)
  ofNat_eq_natCast c:=congrArg (an h) (Lean.Grind.Semiring.ofNat_eq_natCast (α:=E r n) c)
  nsmul_eq_natCast_mul c a:=rfl
  neg_add_cancel a:=by
    obtain⟨x,rfl⟩:=eL h a;exact congrArg (an h) (show -x+x=0 by grind)
  sub_eq_add_neg a b:=rfl
  neg_zsmul i a:=by
    obtain⟨x,rfl⟩:=eL h a
    exact congrArg (an h) (show((-i:Int):E r n)*x=-((i:E r n)*x) by
      rw[Lean.Grind.Ring.intCast_neg];grind)
  zsmul_natCast_eq_nsmul c a:=rfl
  intCast_ofNat c:=congrArg (an h) (Lean.Grind.Ring.intCast_ofNat (α:=E r n) c)
  intCast_neg i:=congrArg (an h) (Lean.Grind.Ring.intCast_neg (α:=E r n) i)
  mul_comm a b:=by
    obtain⟨x,rfl⟩:=eL h a;obtain⟨y,rfl⟩:=eL h b;exact congrArg (an h) (show x*y=y*x by grind)
theorem e8{x:E r n}:an h x=0↔sg r n x=0:=by
 have e:=kr h (x:=x) (y:=0);rw[show x-0=x by grind]at e;exact e
theorem AM{x:E r n}(hx:sg r n x≠0):an h (fy x)*an h x=1:=by
 have e:=(kr h (x:=fy x*x) (y:=1)).2 (HL r n h x hx);exact e
theorem BV:an h (1:E r n)=1:=rfl
end
example {r:(k:Nat)->T k} {n:Nat} (h:fe r n) (a b c:Zq h) (e:a*b=1) (f:c*a=2):c=2*b:=by grind
end Go.Lw
namespace Go.Lw
open Lean.Grind (CommRing)
structure Hm{ts:LL}{R:Type}[CommRing R](f:Et ts->R):Prop where
  add:∀x y,f (x+y)=f x+f y
  mul:∀x y,f (x*y)=f x*f y
  neg:∀x,f (-x)=-f x
  one:f 1=1
  inv:∀x,am x≠0->f (iE x)*f x=1
  zero:∀x,f x=0↔am x=0
section
variable{ts:LL}{R:Type}[CommRing R]{f:Et ts->R}(h:Hm f)
include h
theorem Hm.sub(x y:Et ts):f (x-y)=f x-f y:=by
 rw[show x-y=x+-y by grind,h.add,h.neg];grind
theorem Hm.nul:f 0=0:=by
 have e:=h.add 0 0;rw[show(0:Et ts)+0=0 by grind]at e;grind
theorem Hm.q1:f (qE ((1:Int):Rat))=1:=by rw[lO];exact h.one
theorem Hm.q4:f (qE 4)=4:=by
 have e:(qE 4:Et ts)=1+1+1+1:=by
  have e1:=lS (r:=aj ts) (n:=ts.length) 1 1;have e2:=lS (r:=aj ts) (n:=ts.length) 2 2;rw[show(1:Rat)+1=2 by decide +kernel]at e1;rw[show(2:Rat)+2=4 by decide +kernel,e1]at e2;rw[e2];have e3:(qE 1:Et ts)=1:=rfl;rw[e3];grind
 rw[e,h.add,h.add,h.add,h.one];grind
end
abbrev iF(ts:LL):Prop:=fe (aj ts) ts.length
theorem QK{ts:LL}(hp:iF ts):Hm (an hp:Et ts->Zq hp) :=
 ⟨fun _ _=>rfl,fun _ _=>rfl,fun _=>rfl,rfl,fun x hx=>AM hp hx,fun x=>e8 hp⟩
theorem Q9{ts:LL}(X:Et ts)(hp:iF (aH ts (sX X))):Hm (fun x:Et ts=>an hp (aK X x)) :=
  ⟨fun x y => by rw [tY]; rfl, fun x y => by rw [fi]; rfl, fun x => by rw [Dc]; rfl,
   by have e := ni X ((1 : Nat) : Rat)
      have e1:(qE ((1:Nat):Rat):Et ts)=1:=rfl;rw[e1]at e;rw[e];rfl,
   fun x hx=>by rw[oc];exact AM hp (by show am (aK X x)≠0;rw[o7];exact hx),
   fun x=>by rw[e8 hp];show am (aK X x)=0↔_;rw[o7]⟩
theorem SZ(k:Nat):ad (k+1) (cc k)=(T.zero k,T.ofQ k 1):=by
 have h1:(cc k).take (2^k)=List.replicate (2^k) 0:=by
  unfold cc;rw[List.take_set_of_le (le_refl _),List.take_replicate];congr 1;have:=Nat.pow_lt_pow_right (a:=2) oz (Nat.lt_succ_self k);omega
 have h2:(cc k).drop (2^k)=(1:Rat)::List.replicate (2^k-1) 0:=by
  unfold cc;rw[List.drop_set,if_neg oz,Nat.sub_self,List.drop_replicate]
  have e:2^(k+1)-2^k=(2^k-1)+1:=by
   have h3:0<2^k:=Nat.pow_pos oz;have h4:2^(k+1)=2^k+2^k:=by rw[Nat.pow_succ];omega
   omega
  rw[e,List.replicate_succ,List.set_cons_zero]
 show(ad k _,ad k _)=_;rw[h1,h2]
 have e1:ad k (List.replicate (2^k) (0:Rat))=T.zero k:=by
  rw[<- gp]
  exact oD k (fun i _=>by
   rw[getD_eq_getElem?_getD,getD_eq_getElem?_getD,getElem?_replicate];split <;> rfl)
 have e2:ad k ((1:Rat)::List.replicate (2^k-1) 0)=T.ofQ k 1:=by
  rw[<- kE]
  exact oD k (fun i _=>by
   cases i with
   |zero=>rfl
   |succ i =>
    rw[getD_eq_getElem?_getD,getD_eq_getElem?_getD,List.getElem?_cons_succ,getElem?_replicate];split <;> rfl)
 rw[e1,e2]
theorem LN{n N:Nat}(hN:N=n+1){r:(k:Nat)->T k}(x:T n)(hx:r n=x):T.mul r N (ad N (cc n)) (ad N (cc n))=iJ x:=by
 subst hN;rw[SZ,j8];show(T.add n (T.mul r n (T.zero n) (T.zero n)) (T.mul r n (T.mul r n (T.ofQ n 1) (T.ofQ n 1)) (r n)),T.add n (T.mul r n (T.zero n) (T.ofQ n 1)) (T.mul r n (T.ofQ n 1) (T.zero n)))=_;have L:=mD r n;rw[L.one,L.one,T.zero_mul,T.zero_mul,T.zero_add,L.one,T.zero_add,hx]
theorem z8{ts:LL}(X:Et ts):bA X*bA X=aK X X:=by
 refine LN (dO _ _) X ?_;show ad ts.length ((aH ts (sX X)).getD ts.length [])=X;rw[xl,oL];exact aZ _ _
section
variable{R:Type}[CommRing R]
theorem N8{p1 p2 q1 q2 z z2 i t:R}(hi:i*(((p1-q1)*(p1-q1)+(p2-q2)*(p2-q2))+((p1-q1)*(p1-q1)+(p2-q2)*(p2-q2)))=1)
  (ht:t*t=4*(z*((p1-q1)*(p1-q1)+(p2-q2)*(p2-q2)))-((z+((p1-q1)*(p1-q1)+(p2-q2)*(p2-q2)))-z2)*((z+((p1-q1)*(p1-q1)+(p2-q2)*(p2-q2)))-z2))
  {x y:R} (hx:x=p1+((z+((p1-q1)*(p1-q1)+(p2-q2)*(p2-q2)))-z2)*i*(q1-p1)+t*(i*-(q2-p2))) (hy:y=p2+((z+((p1-q1)*(p1-q1)+(p2-q2)*(p2-q2)))-z2)*i*(q2-p2)+t*(i*(q1-p1))) :
  (x-p1)*(x-p1)+(y-p2)*(y-p2)=z/\(x-q1)*(x-q1)+(y-q2)*(y-q2)=z2:=by
 obtain⟨d,hd⟩:∃d,d=(p1-q1)*(p1-q1)+(p2-q2)*(p2-q2):=⟨_,rfl⟩
 rw[<- hd]at hi ht hx hy;obtain⟨a,ha⟩:∃a,a=z+d-z2:=⟨_,rfl⟩
 rw[<- ha]at ht hx hy;have e1:(x-p1)*(x-p1)+(y-p2)*(y-p2)=(a*a+t*t)*(i*i)*d:=by rw[hx,hy,hd];grind
 have e2:(a*a+t*t)*(i*i)*d=z:=by
  rw[ht];have:(a*a+(4*(z*d)-a*a))*(i*i)*d=z*(i*(d+d))*(i*(d+d)):=by grind
  rw[this,hi];grind
 have e3:(x-q1)*(x-q1)+(y-q2)*(y-q2)=((x-p1)*(x-p1)+(y-p2)*(y-p2))-a*(i*(d+d))+d:=by rw[hx,hy,hd];grind
 refine⟨e1.trans e2,?_⟩;rw[e3,e1,e2,hi,ha];grind
theorem RP(e t i S:R):(e+t)*i*S=(e+t)*(i*S):=by grind
theorem OI(z i S W:R):i*S*z-i*(S*W)+W=z*(i*S)-(i*S)*W+W:=by grind
theorem KO(z W:R):z*1-1*W+W=z:=by grind
theorem Pv(x:R):x*1=x:=by grind
theorem JI(k e t S:R):k*k*S-(k*e+k*e)=k*(k*S)-(k*e+k*e):=by grind
theorem OA(e t i:R):(e+t)*i*(e+t)-((e+t)*i*e+(e+t)*i*e)=i*(t*t-e*e):=by grind
theorem Kl{p1 p2 q1 q2 c1 c2 z i t k:R}(hi:i*((q1-p1)*(q1-p1)+(q2-p2)*(q2-p2))=1)
  (ht:t*t=((q1-p1)*(q1-p1)+(q2-p2)*(q2-p2))*z-((q1-p1)*(c2-p2)-(q2-p2)*(c1-p1))*((q1-p1)*(c2-p2)-(q2-p2)*(c1-p1)))
  (hk:k=((q1-p1)*(c1-p1)+(q2-p2)*(c2-p2)+t)*i)
  {x y:R} (hx:x=p1+k*(q1-p1)) (hy:y=p2+k*(q2-p2)) :
  (x-c1)*(x-c1)+(y-c2)*(y-c2)=z/\(q1-p1)*(y-p2)-(q2-p2)*(x-p1)=0:=by
 refine⟨?_,by rw[hx,hy];grind⟩;obtain⟨S,hS⟩:∃S,S=(q1-p1)*(q1-p1)+(q2-p2)*(q2-p2):=⟨_,rfl⟩
 obtain⟨e,he⟩:∃e,e=(q1-p1)*(c1-p1)+(q2-p2)*(c2-p2):=⟨_,rfl⟩
 obtain⟨C,hC⟩:∃C,C=(q1-p1)*(c2-p2)-(q2-p2)*(c1-p1):=⟨_,rfl⟩
 obtain⟨W,hW⟩:∃W,W=(c1-p1)*(c1-p1)+(c2-p2)*(c2-p2):=⟨_,rfl⟩
 rw[<- hS]at hi ht;rw[<- he]at hk;rw[<- hC]at ht;have e0:e*e+C*C=S*W:=by rw[he,hC,hS,hW];grind
 have e1:(x-c1)*(x-c1)+(y-c2)*(y-c2)=k*k*S-(k*e+k*e)+W:=by rw[hx,hy,hS,he,hW];grind
 have e2:k*S=e+t:=by rw[hk,RP,hi,Pv]
 have e3:k*k*S-(k*e+k*e)+W=i*(t*t-e*e)+W:=by
  rw[JI k e t S,e2,hk,OA]
 rw[e1,e3,ht];have:i*(S*z-C*C-e*e)+W=i*S*z-i*(e*e+C*C)+W:=by grind
 rw[this,e0,OI,hi,KO]
theorem J7{W1 W2 N hh i t D w1 w2:R}(hD:D=W1*W1+W2*W2)(hi:i*D=1)(ht:t*t=N*D-hh*hh)
  (h1:w1=(t*W1-hh*-W2)*i) (h2:w2=(t*W2-hh*W1)*i):w1*w1+w2*w2=N/\w1*W2-w2*W1=hh:=by
 have e1:w1*w1+w2*w2=(t*t+hh*hh)*(i*D)*i:=by rw[h1,h2,hD];grind
 have e2:w1*W2-w2*W1=hh*(i*D):=by rw[h1,h2,hD];grind
 refine⟨?_,by rw[e2,hi];grind⟩;rw[e1,ht,hi];have:(N*D-hh*hh+hh*hh)*1*i=N*(i*D):=by grind
 rw[this,hi];grind
theorem Fz{u1 u2 w1 w2 n i c s:R}(hn:n=u1*u1+u2*u2)(hi:i*n=1)(hc:c=(u1*w1+u2*w2)*i)(hs:s=(u1*w2-u2*w1)*i) :
  (c*u1-s*u2=w1/\s*u1+c*u2=w2)/\(w1*w1+w2*w2=n->c*c+s*s=1):=by
 have e1:c*u1-s*u2=w1*(i*n):=by rw[hc,hs,hn];grind
 have e2:s*u1+c*u2=w2*(i*n):=by rw[hc,hs,hn];grind
 refine⟨⟨by rw[e1,hi];grind,by rw[e2,hi];grind⟩,fun hw=>?_⟩;have e3:c*c+s*s=(w1*w1+w2*w2)*(i*n)*i:=by rw[hc,hs,hn];grind
 rw[e3,hw,hi];rw[show n*1*i=i*n by grind,hi]
end
end Go.Lw
namespace Go.Lw
open Lean.Grind (CommRing)
def aT{ts:LL}(T:LL)(y:Et ts):Et T:=dE T (sX y)
structure Lf(ts T:LL):Prop where
  pos:iF T
  hm:Hm (fun y:Et ts=>an pos (aT T y))
  low:∀l:List Rat,l.length<=2^ts.length->aT T (dE ts l)=dE T l
  q:∀q:Rat,aT T (qE q:Et ts)=qE q
  len:ts.length<=T.length
theorem gO{ts:LL}(y:Et ts):aT ts y=y:=aZ _ _
theorem wM{ts:LL}(hp:iF ts):Lf ts ts:=by
 refine⟨hp,?_,fun l _=>gO _,fun q=>gO _,le_refl _⟩;have e:(fun y:Et ts=>an hp (aT ts y))=an hp:=funext fun y=>by rw[gO]
 rw[e];exact QK hp
theorem O3{n N:Nat}(hN:N=n+1){l:List Rat}(h:l.length<=2^n):ad N (sh n (ad n l))=ad N l:=by
 subst hN;rw[fP (eg n _).le,aZ,fP h]
theorem zU{ts:LL}(X:Et ts)(hp:iF (aH ts (sX X))):Lf ts (aH ts (sX X)) :=
 ⟨hp,Q9 X hp,fun l h=>O3 (dO _ _) h,fun q=>ni X q,by rw[dO];omega⟩
structure CirG(ts T:LL)(x:List Rat×List Rat)(p q:P2 ts)(z z2:Et ts):Prop where
  lf:Lf ts T
  c1:am ((dE T x.1-aT T p.1)*(dE T x.1-aT T p.1)+(dE T x.2-aT T p.2)*(dE T x.2-aT T p.2)-aT T z)=0
  c2:am ((dE T x.1-aT T q.1)*(dE T x.1-aT T q.1)+(dE T x.2-aT T q.2)*(dE T x.2-aT T q.2)-aT T z2)=0
section
variable{ts:LL}
theorem Sy{R:Type}[CommRing R]{f:Et ts->R}(h:Hm f)(p q:P2 ts):f (aD p q)=(f p.1-f q.1)*(f p.1-f q.1)+(f p.2-f q.2)*(f p.2-f q.2):=by
 show f ((p.1-q.1)*(p.1-q.1)+(p.2-q.2)*(p.2-q.2))=_;rw[h.add,h.mul,h.mul,h.sub,h.sub]
theorem Ut{R:Type}[CommRing R]{f:Et ts->R}(h:Hm f)(p q:P2 ts)(z z2:Et ts){D:R}(hD:f (aD p q)=D):f (bB p z q z2)=4*(f z*D)-((f z+D)-f z2)*((f z+D)-f z2):=by
 subst hD;unfold bB;rw[h.sub,h.mul,h.mul,h.mul,h.sub,h.add,h.q4]
theorem NY{R:Type}[CommRing R]{f:Et ts->R}(h:Hm f){p q:P2 ts}{z z2:Et ts}(hd2:am (aD p q+aD p q)≠0){t:R}(ht:t*t=f (bB p z q z2)){x y:R}
  (hx:x=f (eU p q z z2).1+t*f (kC p q).1) (hy:y=f (eU p q z z2).2+t*f (kC p q).2) :
  (x-f p.1)*(x-f p.1)+(y-f p.2)*(y-f p.2)=f z/\(x-f q.1)*(x-f q.1)+(y-f q.2)*(y-f q.2)=f z2:=by
 have d:=Sy h p q;have hi:=h.inv _ hd2;rw[h.add,d]at hi;rw[Ut h p q z z2 d]at ht;refine N8 hi ht ?_ ?_
 ·rw[hx,DJ];unfold dT kC;dsimp only;show f (p.1+qE ((1:Int):Rat)*iE (aD p q+aD p q)*(z+aD p q-z2)*(q.1-p.1))+t*f (qE ((1:Int):Rat)*iE (aD p q+aD p q)*(0-(q.2-p.2)))=_;simp only[h.add,h.mul,h.sub,h.q1,h.nul,d];generalize(f p.1-f q.1)*(f p.1-f q.1)+(f p.2-f q.2)*(f p.2-f q.2)=D;generalize f (iE (aD p q+aD p q))=i;clear ht hi hx hy;grind
 ·rw[hy,DJ];unfold dT kC;dsimp only;show f (p.2+qE ((1:Int):Rat)*iE (aD p q+aD p q)*(z+aD p q-z2)*(q.2-p.2))+t*f (qE ((1:Int):Rat)*iE (aD p q+aD p q)*(q.1-p.1))=_;simp only[h.add,h.mul,h.sub,h.q1,d];generalize(f p.1-f q.1)*(f p.1-f q.1)+(f p.2-f q.2)*(f p.2-f q.2)=D;generalize f (iE (aD p q+aD p q))=i;clear ht hi hx hy;grind
theorem Sl{r:Nat}(tw:Tw ts r){d:Et ts}(hd:am d≠0):am (d+d)≠0:=by
 rw[<- BR,wY tw];exact hd
theorem zM{T:LL}(L:Lf ts T){x:List Rat×List Rat}{p q:P2 ts}{z z2:Et ts}(hd2:am (aD p q+aD p q)≠0){t:Et T}(ht:an L.pos (t*t)=an L.pos (aT T (bB p z q z2)))
  (hx:dE T x.1=aT T (eU p q z z2).1+t*aT T (kC p q).1) (hy:dE T x.2=aT T (eU p q z z2).2+t*aT T (kC p q).2):CirG ts T x p q z z2:=by
 have g:=NY L.hm hd2 (t:=an L.pos t) ht (x:=an L.pos (dE T x.1)) (y:=an L.pos (dE T x.2)) (by rw[hx];rfl) (by rw[hy];rfl);refine⟨L,?_,?_⟩
 ·refine(e8 L.pos).1 ?_;rw[cJ,jS,co,co,cJ,cJ];have:=g.1;generalize an L.pos (aT T z)=Z at *;generalize an L.pos (aT T p.1)=P1 at *;generalize an L.pos (aT T p.2)=P2 at *;rw[this];grind
 ·refine(e8 L.pos).1 ?_;rw[cJ,jS,co,co,cJ,cJ];have:=g.2;rw[this];grind
theorem jx{T:LL}(y:Et T):dE T (sX y)=y:=aZ _ _
theorem Ju{r:Nat}(tw:Tw ts r)(hx4:∀X:Et ts,0<am X->iF (aH ts (sX X))){p q:P2 ts}{z z2:Et ts}(h0:fR p q z z2=0)(hz:0<am z) :
  ∀x∈(eV p q z z2).ps,CirG ts (eV p q z z2).ts x p q z z2:=by
 intro x;unfold fR lZ at h0;unfold eV;split
 ·rename_i hd;rw[if_pos hd]at h0;unfold lU;split
  ·intro hx;cases hx
  ·intro hx;cases hx
 ·rename_i hd;have hd2:=Sl tw hd;split
  ·intro hx;cases hx
  ·rename_i hn;split
   ·rename_i hX;intro hx;rw[List.mem_singleton.1 hx];have hp:iF ts:=tw.pos;refine zM (wM hp) hd2 (t:=0) ?_ ?_ ?_
    ·refine((e8 hp).2 ?_).trans ((e8 hp).2 ?_).symm
     ·rw[show(0:Et ts)*0=0 by grind];exact(gG _ _ hp).zero
     ·rw[gO];exact hX
    ·rw[gO,gO,jx];grind
    ·rw[gO,gO,jx];grind
   ·rename_i hX;have hX1:0 < am (bB p z q z2):=by omega
    have hp:=hx4 _ hX1;intro hx;have L:=zU (bB p z q z2) hp;have e:=z8 (bB p z q z2);rcases List.mem_cons.1 hx with rfl |hx
    ·refine zM L hd2 (t := bA (bB p z q z2)) (by rw [e]; rfl) ?_ ?_
     ·rw[jx];exact congrArg Prod.fst (Ag (bB p z q z2) (eU p q z z2) p q)
     ·rw[jx];exact congrArg Prod.snd (Ag (bB p z q z2) (eU p q z z2) p q)
    ·rw [List.mem_singleton.1 hx];refine zM L hd2 (t:=-bA (bB p z q z2)) (by rw [show -bA (bB p z q z2) * -bA (bB p z q z2) = bA (bB p z q z2) * bA (bB p z q z2) by grind,e]; rfl) ?_ ?_
     ·rw[jx,congrArg Prod.fst (B4 (bB p z q z2) (eU p q z z2) p q)];show aK _ _-_*aK _ _=aK _ _+-_*aK _ _;grind
     ·rw[jx,congrArg Prod.snd (B4 (bB p z q z2) (eU p q z z2) p q)];show aK _ _-_*aK _ _=aK _ _+-_*aK _ _;grind
structure LinG(ts T:LL)(x:List Rat×List Rat)(p q c:P2 ts)(z:Et ts):Prop where
  lf:Lf ts T
  c:am ((dE T x.1-aT T c.1)*(dE T x.1-aT T c.1)+(dE T x.2-aT T c.2)*(dE T x.2-aT T c.2)-aT T z)=0
  l:am ((aT T q.1-aT T p.1)*(dE T x.2-aT T p.2)-(aT T q.2-aT T p.2)*(dE T x.1-aT T p.1))=0
theorem NP{R:Type}[CommRing R]{f:Et ts->R}(h:Hm f){p q c:P2 ts}{z:Et ts}(hd:am (bt p q)≠0){t:R}(ht:t*t=f (aU p q c z)){x y:R}
  (hx:x=f (dT p (bU p q c*iE (bt p q)) (bu q p)).1+t*f (jU p q).1) (hy:y=f (dT p (bU p q c*iE (bt p q)) (bu q p)).2+t*f (jU p q).2) :
  (x-f c.1)*(x-f c.1)+(y-f c.2)*(y-f c.2)=f z/\(f q.1-f p.1)*(y-f p.2)-(f q.2-f p.2)*(x-f p.1)=0:=by
 have hi:=h.inv _ hd
 have eS:f (bt p q)=(f q.1-f p.1)*(f q.1-f p.1)+(f q.2-f p.2)*(f q.2-f p.2):=by
  show f ((q.1-p.1)*(q.1-p.1)+(q.2-p.2)*(q.2-p.2))=_;simp only[h.add,h.mul,h.sub]
 have eE:f (bU p q c)=(f q.1-f p.1)*(f c.1-f p.1)+(f q.2-f p.2)*(f c.2-f p.2):=by
  show f ((q.1-p.1)*(c.1-p.1)+(q.2-p.2)*(c.2-p.2))=_;simp only[h.add,h.mul,h.sub]
 have eC:f (iX p q c)=(f q.1-f p.1)*(f c.2-f p.2)-(f q.2-f p.2)*(f c.1-f p.1):=by
  show f ((q.1-p.1)*(c.2-p.2)-(q.2-p.2)*(c.1-p.1))=_;simp only[h.mul,h.sub]
 have eX:f (aU p q c z)=f (bt p q)*f z-f (iX p q c)*f (iX p q c):=by
  show f (bt p q*z-iX p q c*iX p q c)=_;simp only[h.mul,h.sub]
 rw[eX,eC,eS]at ht;rw[eS]at hi;refine Kl hi ht (k:=(f (bU p q c)+t)*f (iE (bt p q))) (by rw[eE]) ?_ ?_
 ·rw[hx];unfold dT jU;show f (p.1+bU p q c*iE (bt p q)*(q.1-p.1))+t*f (qE ((1:Int):Rat)*iE (bt p q)*(q.1-p.1))=_;simp only[h.add,h.mul,h.sub,h.q1];generalize f (iE (bt p q))=i;generalize f (bU p q c)=e;clear ht hi hx hy eS eE eC eX;grind
 ·rw[hy];unfold dT jU;show f (p.2+bU p q c*iE (bt p q)*(q.2-p.2))+t*f (qE ((1:Int):Rat)*iE (bt p q)*(q.2-p.2))=_;simp only[h.add,h.mul,h.sub,h.q1];generalize f (iE (bt p q))=i;generalize f (bU p q c)=e;clear ht hi hx hy eS eE eC eX;grind
theorem yB{T:LL}(L:Lf ts T){x:List Rat×List Rat}{p q c:P2 ts}{z:Et ts}(hd:am (bt p q)≠0){t:Et T}(ht:an L.pos (t*t)=an L.pos (aT T (aU p q c z)))
  (hx:dE T x.1=aT T (dT p (bU p q c*iE (bt p q)) (bu q p)).1+t*aT T (jU p q).1) (hy:dE T x.2=aT T (dT p (bU p q c*iE (bt p q)) (bu q p)).2+t*aT T (jU p q).2):LinG ts T x p q c z:=by
 have g:=NP L.hm hd (t:=an L.pos t) ht (x:=an L.pos (dE T x.1)) (y:=an L.pos (dE T x.2)) (by rw[hx];rfl) (by rw[hy];rfl);refine⟨L,?_,?_⟩
 ·refine(e8 L.pos).1 ?_;rw[cJ,jS,co,co,cJ,cJ];have:=g.1;rw[this];grind
 ·refine(e8 L.pos).1 ?_;rw[cJ,co,co,cJ,cJ,cJ,cJ];exact g.2
theorem P7{r:Nat}(tw:Tw ts r)(hx4:∀X:Et ts,0<am X->iF (aH ts (sX X))){p q c:P2 ts}{z:Et ts}(h0:fV p q=0) :
  ∀x∈(fg p q c z).ps,LinG ts (fg p q c z).ts x p q c z:=by
 intro x;unfold fV at h0;unfold fg;split
 ·intro hx;cases hx
 ·rename_i hd;split
  ·intro hx;cases hx
  ·rename_i hn;split
   ·rename_i hX;intro hx;rw[List.mem_singleton.1 hx];have hp:iF ts:=tw.pos;refine yB (wM hp) hd (t:=0) ?_ ?_ ?_
    ·refine((e8 hp).2 ?_).trans ((e8 hp).2 ?_).symm
     ·rw[show(0:Et ts)*0=0 by grind];exact(gG _ _ hp).zero
     ·rw[gO];exact hX
    ·rw[gO,gO,jx];grind
    ·rw[gO,gO,jx];grind
   ·rename_i hX
    have hX1:0<am (aU p q c z):=by
     rcases(gG _ _ tw.pos).cs (aU p q c z)with g |g |g
     ·exact absurd g hn
     ·exact absurd g hX
     ·show 0<sg _ _ _;rw[g];decide
    have hp:=hx4 _ hX1;intro hx;have L:=zU (aU p q c z) hp;have e:=z8 (aU p q c z);rcases List.mem_cons.1 hx with rfl |hx
    ·refine yB L hd (t := bA (aU p q c z)) (by rw [e]; rfl) ?_ ?_
     ·rw[jx];exact congrArg Prod.fst (Gf (aU p q c z) p q c)
     ·rw[jx];exact congrArg Prod.snd (Gf (aU p q c z) p q c)
    ·rw [List.mem_singleton.1 hx];refine yB L hd (t:=-bA (aU p q c z)) (by rw [show -bA (aU p q c z) * -bA (aU p q c z) = bA (aU p q c z) * bA (aU p q c z) by grind,e]; rfl) ?_ ?_
     ·rw[jx,congrArg Prod.fst (CZ (aU p q c z) p q c)];show aK _ _-_*aK _ _=aK _ _+-_*aK _ _;grind
     ·rw[jx,congrArg Prod.snd (CZ (aU p q c z) p q c)];show aK _ _-_*aK _ _=aK _ _+-_*aK _ _;grind
end
end Go.Lw
namespace Go.Lw
open Lean.Grind (CommRing)
theorem xK{ts:LL}(hp:iF ts){X:Et ts}(h:0<am X):iF (aH ts (sX X)):=by
 intro j hj;rw[dO]at hj;rw[zw oz];rcases lt_or_ge j ts.length with h9 |h9
 ·rw[vr h9];exact hp j h9
 ·have : j = ts.length := by omega
  subst this
  have e1:aj (aH ts (sX X)) ts.length=X:=by
   show ad ts.length ((aH ts (sX X)).getD ts.length [])=_;rw[xl,oL];exact aZ _ _
  rw[e1];exact Int.le_of_lt h
def bM(T:LL)(p:Pq)(m:Rat×Rat):P2 T:=(dE T p.c*qE m.1-dE T p.s*qE m.2+dE T p.x,dE T p.s*qE m.1+dE T p.c*qE m.2+dE T p.y)
def CH(T:LL)(p:Pq):Prop:=am (dE T p.c*dE T p.c+dE T p.s*dE T p.s-1)=0
def bg(l:Li)(T:LL)(bs:List Pq)(b pt:Int):P2 T:=bM T (bs.getD b.toNat bp) (aY l b pt)
def JH(l:Li)(T:LL)(bs:List Pq)(j:Jt):Prop :=
  if j.kind=0 then am ((bg l T bs j.a j.point).1-(bg l T bs j.b j.on).1)=0/\am ((bg l T bs j.a j.point).2-(bg l T bs j.b j.on).2)=0
  else am (xp (bu (bg l T bs j.b j.to) (bg l T bs j.b j.on)) (bu (bg l T bs j.a j.point) (bg l T bs j.b j.on)))=0
theorem GJ{ts:LL}{q:Rat}(h:q≠0):(iE (qE q)*qE q:Et ts)=1:=by
 have e:(iE (qE q):Et ts)=qE (1/q):=vH (aj ts) ts.length q;rw[e,<- kD,show 1/q*q=((1:Nat):Rat) by rw[show(((1:Nat):Rat))=1 from rfl];grind];rfl
section
variable{T:LL}{u p c:Rat×Rat}{w o:P2 T}
theorem uB:dE T (gX u w p o).c=dA u w:=aZ _ _
theorem wg:dE T (gX u w p o).s=dw u w:=aZ _ _
theorem PS:dE T (gX u w p o).x=qL u w p o:=aZ _ _
theorem NN:dE T (gX u w p o).y=pu u w p o:=aZ _ _
theorem vG(m:Rat×Rat):bM T (gX u w p o) m=(o.1+(dA u w*qE (m.1-p.1)-dw u w*qE (m.2-p.2)),o.2+(dw u w*qE (m.1-p.1)+dA u w*qE (m.2-p.2))):=by
 unfold bM;rw[uB,wg,PS,NN,tm,tm];unfold qL pu;refine Prod.ext ?_ ?_
 ·dsimp only;grind
 ·dsimp only;grind
theorem sO:bM T (gX u w p o) p=o:=by
 rw[vG,show p.1-p.1=0 by grind,show p.2-p.2=0 by grind,x5];refine Prod.ext ?_ ?_
 ·dsimp only;grind
 ·dsimp only;grind
theorem BU(h:bX u u≠0):(dA u w*qE u.1-dw u w*qE u.2=w.1/\dw u w*qE u.1+dA u w*qE u.2=w.2):=by
 have hn:(jY u:Et T)=qE u.1*qE u.1+qE u.2*qE u.2:=by
  show qE (u.1*u.1+u.2*u.2)=_;rw[lS,kD,kD]
 exact(Fz hn (GJ h) rfl rfl).1
theorem BB(h:bX (b8 c p) (b8 c p)≠0):bM T (gX (b8 c p) w p o) c=(o.1+w.1,o.2+w.2):=by
 rw[vG];have g:=BU (w:=w) h;have e1:(qE (c.1-p.1):Et T)=qE (b8 c p).1:=rfl;have e2:(qE (c.2-p.2):Et T)=qE (b8 c p).2:=rfl;rw[e1,e2,g.1,g.2]
theorem uH(hp:iF T)(h:bX u u≠0)(hw:am (w.1*w.1+w.2*w.2-qE (bX u u))=0):CH T (gX u w p o):=by
 unfold CH;rw[uB,wg]
 have hn:(jY u:Et T)=qE u.1*qE u.1+qE u.2*qE u.2:=by
  show qE (u.1*u.1+u.2*u.2)=_;rw[lS,kD,kD]
 have hi:(iE (jY u)*jY u:Et T)=1:=GJ h;have e:=congrArg (an hp) hn;have ei:=congrArg (an hp) hi;have ew:an hp w.1*an hp w.1+an hp w.2*an hp w.2=an hp (jY u):=(kr hp (x:=w.1*w.1+w.2*w.2) (y:=jY u)).2 hw;have g:=(Fz (R:=Zq hp) (n:=an hp (jY u)) (i:=an hp (iE (jY u))) (u1:=an hp (qE u.1)) (u2:=an hp (qE u.2)) (c:=an hp (dA u w)) (s:=an hp (dw u w)) (w1:=an hp w.1) (w2:=an hp w.2) e ei rfl (by unfold dw;rw[co,cJ,co,co])).2 ew;refine(kr hp (x:=dA u w*dA u w+dw u w*dw u w) (y:=1)).1 ?_;exact g
end
def be(a:As):List Pq:=a.bs.map fun b=>⟨lq b.c,lq b.s,lq b.x,lq b.y⟩
theorem wU(q:Aq):be q.as=q.bs:=by
 unfold be Aq.as;rw[map_map]
 conv=>rhs;rw[<- List.map_id q.bs]
 refine List.map_congr_left fun p _=>?_
 show(⟨lq (p.c.map rt),lq (p.s.map rt),lq (p.x.map rt),lq (p.y.map rt)⟩:Pq)=p;rw[cF,cF,cF,cF]
theorem qI(l:Li)(a:As)(b pt:Int):bG l a b pt=bg l (llq a.rs) (be a) b pt:=by
 have e:(be a).getD b.toNat bp=⟨lq (a.bs.getD b.toNat default).c,lq (a.bs.getD b.toNat default).s,lq (a.bs.getD b.toNat default).x,lq (a.bs.getD b.toNat default).y⟩:=by
  unfold be;rw[getD_eq_getElem?_getD,getD_eq_getElem?_getD,getElem?_map];cases a.bs[b.toNat]? <;> rfl
 unfold bg;rw[e];rfl
def Nq(n:Nat)(p:Pq):Prop:=p.c.length<=2^n/\p.s.length<=2^n/\p.x.length<=2^n/\p.y.length<=2^n
section
variable{ts T:LL}(L:Lf ts T)
include L
theorem Lf.add(x y:Et ts):an L.pos (aT T (x+y))=an L.pos (aT T x)+an L.pos (aT T y):=L.hm.add x y
theorem Lf.mul(x y:Et ts):an L.pos (aT T (x*y))=an L.pos (aT T x)*an L.pos (aT T y):=L.hm.mul x y
theorem Lf.sub(x y:Et ts):an L.pos (aT T (x-y))=an L.pos (aT T x)-an L.pos (aT T y):=L.hm.sub x y
theorem Lf.one:an L.pos (aT T (1:Et ts))=1:=L.hm.one
theorem Lf.at{p:Pq}(hp:Nq ts.length p)(m:Rat×Rat):an L.pos (bM T p m).1=an L.pos (aT T (bM ts p m).1)/\an L.pos (bM T p m).2=an L.pos (aT T (bM ts p m).2):=by
 obtain⟨h1,h2,h3,h4⟩:=hp;unfold bM;dsimp only;constructor
 ·rw[L.add,L.sub,L.mul,L.mul,L.low _ h1,L.low _ h2,L.low _ h3,L.q,L.q,jS,cJ,co,co]
 ·rw[L.add,L.add,L.mul,L.mul,L.low _ h1,L.low _ h2,L.low _ h4,L.q,L.q,jS,jS,co,co]
theorem Lf.zero(x:Et ts):am (aT T x)=0↔am x=0:=(e8 L.pos).symm.trans (L.hm.zero x)
theorem Lf.ch{p:Pq}(hp:Nq ts.length p)(h:CH ts p):CH T p:=by
 obtain⟨h1,h2,h3,h4⟩:=hp;have e:=(L.zero _).2 h;have e1:=(e8 L.pos).2 e;refine(e8 L.pos).1 ?_;rw[L.sub,L.add,L.mul,L.mul,L.low _ h1,L.low _ h2,L.one]at e1;rw[cJ,jS,co,co];exact e1
end
end Go.Lw
namespace Go.Lw
open Lean.Grind (CommRing)
def jT(bs bs':List Pq)(n:Nat)(b:Int):Prop:=bs'.getD b.toNat bp=bs.getD b.toNat bp/\Nq n (bs.getD b.toNat bp)
section
variable{ts T:LL}(L:Lf ts T)
include L
theorem Lf.pt(l:Li){bs bs':List Pq}{b:Int}(h:jT bs bs' ts.length b)(pt:Int) :
  an L.pos (bg l T bs' b pt).1=an L.pos (aT T (bg l ts bs b pt).1)/\an L.pos (bg l T bs' b pt).2=an L.pos (aT T (bg l ts bs b pt).2):=by
 unfold bg;rw[h.1];exact L.at h.2 _
end
section
variable{T:LL}(hp:iF T)
include hp
theorem wP{l:Li}{bs:List Pq}{j:Jt}(hk:j.kind=0)(h1:an hp (bg l T bs j.a j.point).1=an hp (bg l T bs j.b j.on).1)(h2:an hp (bg l T bs j.a j.point).2=an hp (bg l T bs j.b j.on).2):JH l T bs j:=by
 unfold JH;rw[if_pos hk];exact⟨(kr hp).1 h1,(kr hp).1 h2⟩
theorem AJ{l:Li}{bs:List Pq}{j:Jt}(hk:j.kind≠0)
  (h:(an hp (bg l T bs j.b j.to).1-an hp (bg l T bs j.b j.on).1)*(an hp (bg l T bs j.a j.point).2-an hp (bg l T bs j.b j.on).2)-(an hp (bg l T bs j.b j.to).2-an hp (bg l T bs j.b j.on).2)*(an hp (bg l T bs j.a j.point).1-an hp (bg l T bs j.b j.on).1)=0):JH l T bs j:=by
 unfold JH;rw[if_neg hk];refine(e8 hp).1 ?_;unfold xp crsE bu;dsimp only;rw[cJ,co,co,cJ,cJ,cJ,cJ];exact h
end
section
variable{ts T:LL}(L:Lf ts T)
include L
theorem Lf.jh{l:Li}{bs bs':List Pq}{j:Jt}(ha:jT bs bs' ts.length j.a)(hb:jT bs bs' ts.length j.b)(h:JH l ts bs j):JH l T bs' j:=by
 have a:=L.pt l ha;have b:=L.pt l hb
 by_cases hk:j.kind=0
 ·unfold JH at h;rw[if_pos hk]at h;have e1:=(e8 L.pos).2 ((L.zero _).2 h.1);have e2:=(e8 L.pos).2 ((L.zero _).2 h.2);rw[L.sub]at e1 e2;refine wP L.pos hk ?_ ?_
  ·rw[(a _).1,(b _).1];grind
  ·rw[(a _).2,(b _).2];grind
 ·unfold JH at h;rw[if_neg hk]at h;have e1:=(e8 L.pos).2 ((L.zero _).2 h);unfold xp crsE bu at e1;dsimp only at e1;simp only[L.sub,L.mul]at e1;refine AJ L.pos hk ?_;rw[(a _).1,(a _).2,(b _).1,(b _).2,(b _).1,(b _).2];exact e1
end
section
variable{l:Li}{a:As}{T:LL}(L:Lf (llq a.rs) T)
include L
theorem Lf.pin{bs':List Pq}{j:Jt}{i:Int}(hk:j.kind=0)(tie:(j.a=i/\jT (be a) bs' (llq a.rs).length j.b)\/(j.a≠i/\j.b=i/\jT (be a) bs' (llq a.rs).length j.a))
  (h:bM T (bs'.getD i.toNat bp) (ai l j i)=(aT T (aO l a j i).1,aT T (aO l a j i).2)):JH l T bs' j:=by
 have h1:=congrArg Prod.fst h;have h2:=congrArg Prod.snd h;dsimp only at h1 h2;rcases tie with⟨e,hs⟩ |⟨e,e2,hs⟩
 ·have b:=L.pt l hs j.on;unfold ai aO at h1 h2;simp only[if_pos e]at h1 h2;rw[qI]at h1 h2;refine wP L.pos hk ?_ ?_
  ·rw[b.1];unfold bg;rw[e];exact congrArg (an L.pos) h1
  ·rw[b.2];unfold bg;rw[e];exact congrArg (an L.pos) h2
 ·have b:=L.pt l hs j.point;unfold ai aO at h1 h2;simp only[if_neg e]at h1 h2;rw[qI]at h1 h2;refine wP L.pos hk ?_ ?_
  ·rw[b.1]
   conv=>rhs;unfold bg
   rw[e2];exact(congrArg (an L.pos) h1).symm
  ·rw[b.2]
   conv=>rhs;unfold bg
   rw[e2];exact(congrArg (an L.pos) h2).symm
end
theorem nJ{bs:List Pq}{i k:Int}{p:Pq}(hi:0<=i)(hk:0<=k)(h:k≠i):(bs.set i.toNat p).getD k.toNat bp=bs.getD k.toNat bp:=by
 rw[getD_eq_getElem?_getD,getD_eq_getElem?_getD,List.getElem?_set_ne oz]
theorem pE{bs:List Pq}{i:Nat}{p:Pq}(h:i<bs.length):(bs.set i p).getD i bp=p:=by
 rw[getD_eq_getElem?_getD,List.getElem?_set_self h];rfl
theorem Oj(n:Nat):Nq n bp:=⟨zero_le _,zero_le _,zero_le _,zero_le _⟩
theorem HR{bs:List Pq}{n:Nat}(h:∀p∈bs,Nq n p)(i:Nat):Nq n (bs.getD i bp):=by
 rw[getD_eq_getElem?_getD];cases e:bs[i]? with
 |none=>exact Oj n
 |some p=>exact h p (mem_of_getElem? e)
structure GrpH(l:Li)(a:As)(g:Gr)(s:Sv):Prop where
  lf:Lf (llq a.rs) s.ts
  js:∀z∈g.jo,JH l s.ts (bH (be a) g.bo s.ps) (l.jo.getD z.toNat default)
  cs:∀b∈g.bo,CH s.ts ((bH (be a) g.bo s.ps).getD b.toNat bp)
theorem Ku{R:Type}[CommRing R]{C S a1 a2 b1 b2 x1 x2 P1 P2 o1 o2:R}(hcs:C*C+S*S=1)(g:x1*(P2-o2)-x2*(P1-o1)=(a1-b1)*b2-(a2-b2)*b1)
  (y1:C*(a1-b1)-S*(a2-b2)=x1) (y2:S*(a1-b1)+C*(a2-b2)=x2) :
  (o1+(C*a1-S*a2)-(o1+(C*b1-S*b2)))*(P2-(o2+(S*b1+C*b2)))-(o2+(S*a1+C*a2)-(o2+(S*b1+C*b2)))*(P1-(o1+(C*b1-S*b2)))=0:=by
 have e1:o1+(C*a1-S*a2)-(o1+(C*b1-S*b2))=x1:=by rw[<- y1];grind
 have e2:o2+(S*a1+C*a2)-(o2+(S*b1+C*b2))=x2:=by rw[<- y2];grind
 rw[e1,e2];have e3:x1*(P2-(o2+(S*b1+C*b2)))-x2*(P1-(o1+(C*b1-S*b2)))=(x1*(P2-o2)-x2*(P1-o1))-(x1*(S*b1+C*b2)-x2*(C*b1-S*b2)):=by clear hcs g y1 y2 e1 e2;grind
 have e4:x1*(S*b1+C*b2)-x2*(C*b1-S*b2)=((a1-b1)*b2-(a2-b2)*b1)*(C*C+S*S):=by rw[<- y1,<- y2];clear hcs g y1 y2 e1 e2 e3;grind
 rw[e3,e4,g,hcs];grind
section
variable{l:Li}{a:As}{r:Nat}(tw:Tw (llq a.rs) r)(hN:∀p∈be a,Nq (llq a.rs).length p)
include tw hN
theorem u4{bs':List Pq}{b:Int}(h:bs'.getD b.toNat bp=(be a).getD b.toNat bp):jT (be a) bs' (llq a.rs).length b:=by
 have:=tw;exact⟨h,HR hN _⟩
theorem JW{u:Rat×Rat}(h:bX u u≠0):0<am (qE (bX u u):Et (llq a.rs)):=by
 have:=tw;have:=hN;have h0:0<=bX u u:=Rat.add_nonneg (oa u.1) (oa u.2)
 have h1:0<bX u u:=by
  rcases Rat.le_iff_lt_or_eq.1 h0 with g |g
  ·exact g
  ·exact absurd g.symm h
 rw[EI,uT h1];decide
theorem Uo{i k z0 z1 z2:Int}{j0 j1 j2:Jt}(ne:i≠k)(t0:TieO l 0 [i,k] z0 i j0)(t1:TieO l 0 [i,k] z1 k j1)(h2:l.jo[z2.toNat]?=some j2)(kd:j2.kind=0)
  (tie:(j2.a=i/\j2.b=k)\/(j2.b=i/\j2.a=k)) (hi:0<=i) (hk:0<=k) (hil:i.toNat<(be a).length) (hkl:k.toNat<(be a).length) (hn:∀j∈l.jo,0<=j.a/\0<=j.b)
  {s:Sv} (hs:s∈lg l a i k j0 j1 j2):GrpH l a ⟨1,[i,k],[z0,z1,z2],0⟩ s:=by
 unfold lg at hs;split at hs
 ·cases hs
 ·rename_i hz;obtain⟨w1,w2⟩:=we (Bool.eq_false_iff.2 hz);split at hs
  ·cases hs
  ·rename_i hc;have hc:=Decidable.not_not.1 hc;have geo:=Ju tw (fun X hX=>xK tw.pos hX) hc (JW tw hN w1);unfold kJ at hs;obtain ⟨m,hm,rfl⟩:=List.mem_map.1 hs;obtain ⟨x,hx⟩:=au (List.mem_range.1 hm);have G:=geo x (mem_of_getElem? hx);unfold kz;rw [aC hx];have e0:TieO l 0 [i,k] z0 i j0:=t0;obtain ⟨n0,n1⟩:=hn j0 (mem_of_getElem? t0.hj);obtain ⟨n2,n3⟩:=hn j1 (mem_of_getElem? t1.hj);have hne:i.toNat ≠ k.toNat:=by omega
   generalize hM:eV (aO l a j0 i) (aO l a j1 k) (qE (bT (ai l j2 i) (ai l j0 i))) (qE (bT (ai l j2 k) (ai l j1 k)))=M at *;obtain⟨B0,hB0⟩:∃B0,B0=mQ M.ts x ⟨ai l j0 i,P2.l (aO l a j0 i),ai l j2 i⟩:=⟨_,rfl⟩
   obtain⟨B1,hB1⟩:∃B1,B1=mQ M.ts x ⟨ai l j1 k,P2.l (aO l a j1 k),ai l j2 k⟩:=⟨_,rfl⟩
   have hbs:bH (be a) [i,k] [B0,B1]=((be a).set i.toNat B0).set k.toNat B1:=rfl;have g0:(bH (be a) [i,k] [B0,B1]).getD i.toNat bp=B0:=by rw[hbs,nJ hk hi ne,pE hil]
   have g1:(bH (be a) [i,k] [B0,B1]).getD k.toNat bp=B1:=by rw[hbs,pE (by rw[length_set];exact hkl)]
   have gn:∀b:Int,0<=b->b∉[i,k]->jT (be a) (bH (be a) [i,k] [B0,B1]) (llq a.rs).length b:=fun b h0 hb=>u4 tw hN (by
    rw[hbs,nJ hk h0 (fun e=>hb (by simp[e])),nJ hi h0 (fun e=>hb (by simp[e]))])
   have p0:bM M.ts B0 (ai l j0 i)=(aT M.ts (aO l a j0 i).1,aT M.ts (aO l a j0 i).2):=by rw[hB0];exact sO
   have p1:bM M.ts B1 (ai l j1 k)=(aT M.ts (aO l a j1 k).1,aT M.ts (aO l a j1 k).2):=by rw[hB1];exact sO
   have q0:bM M.ts B0 (ai l j2 i)=(dE M.ts x.1,dE M.ts x.2):=by
    rw[hB0];refine(BB w1).trans ?_;unfold lQ kp;refine Prod.ext ?_ ?_
    ·dsimp only;grind
    ·dsimp only;grind
   have q1:bM M.ts B1 (ai l j2 k)=(dE M.ts x.1,dE M.ts x.2):=by
    rw[hB1];refine(BB w2).trans ?_;unfold lQ kp;refine Prod.ext ?_ ?_
    ·dsimp only;grind
    ·dsimp only;grind
   refine⟨G.lf,?_,?_⟩
   ·intro z hz;show JH l M.ts (bH (be a) [i,k] [_,_]) _;rw[<- hB0,<- hB1];rcases List.mem_cons.1 hz with rfl |hz
    ·rw [aC t0.hj];refine G.lf.pin t0.kd (i:=i) ?_ (by rw [g0]; exact p0);rcases t0.tie with ⟨e,hb⟩ | ⟨e,hb⟩
     ·exact .inl ⟨e,gn _ n1 hb⟩
     ·exact .inr ⟨fun e2=>hb (by simp[e2]),e,gn _ n0 hb⟩
    ·rcases List.mem_cons.1 hz with rfl |hz
     ·rw [aC t1.hj];refine G.lf.pin t1.kd (i:=k) ?_ (by rw [g1]; exact p1);rcases t1.tie with ⟨e,hb⟩ | ⟨e,hb⟩
      ·exact .inl ⟨e,gn _ n3 hb⟩
      ·exact .inr ⟨fun e2=>hb (by simp[e2]),e,gn _ n2 hb⟩
     ·rw[List.mem_singleton.1 hz,aC h2]
      have key:bg l M.ts (bH (be a) [i,k] [B0,B1]) j2.a j2.point=bg l M.ts (bH (be a) [i,k] [B0,B1]) j2.b j2.on:=by
       unfold bg;rcases tie with⟨e,e'⟩ |⟨e,e'⟩
       ·have c0 : ai l j2 i = aY l i j2.point := by unfold ai; rw [if_pos e]
        have c1:ai l j2 k=aY l k j2.on:=by unfold ai;rw[if_neg oz]
        rw[e,e',g0,g1,<- c0,<- c1,q0,q1]
       ·have c0 : ai l j2 k = aY l k j2.point := by unfold ai; rw [if_pos e']
        have c1:ai l j2 i=aY l i j2.on:=by unfold ai;rw[if_neg oz]
        rw[e,e',g0,g1,<- c0,<- c1,q0,q1]
      exact wP G.lf.pos kd (by rw[key]) (by rw[key])
   ·intro b hb;show CH M.ts ((bH (be a) [i,k] [_,_]).getD b.toNat bp);rw[<- hB0,<- hB1];rcases List.mem_cons.1 hb with rfl |hb
    ·rw[g0,hB0];refine uH G.lf.pos w1 ?_;have:=G.c1;rw[G.lf.q]at this;exact this
    ·rw[List.mem_singleton.1 hb,g1,hB1];refine uH G.lf.pos w2 ?_;have:=G.c2;rw[G.lf.q]at this;exact this
theorem Jv{i z0 z1:Int}{j0 j:Jt}(t0:TieO l 0 [i] z0 i j0)(t1:TieO l 1 [i] z1 i j)(ha:j.a=i)(hi:0<=i)(hil:i.toNat<(be a).length)(hn:∀j∈l.jo,0<=j.a/\0<=j.b)
  {s:Sv} (hs:s∈lG l a i j0 j):GrpH l a ⟨2,[i],[z0,z1],0⟩ s:=by
 unfold lG at hs;split at hs
 ·cases hs
 ·rename_i hz;have w1:=xj (Bool.eq_false_iff.2 hz);split at hs
  ·cases hs
  ·rename_i hc;have hc:=Decidable.not_not.1 hc;have geo:=P7 tw (fun X hX=>xK tw.pos hX) (c:=aO l a j0 i) (z:=qE (bT (aY l i j.point) (ai l j0 i))) hc;unfold kJ at hs;obtain⟨m,hm,rfl⟩:=List.mem_map.1 hs;obtain⟨x,hx⟩:=au (List.mem_range.1 hm);have G:=geo x (mem_of_getElem? hx);have L:=G.lf;unfold kz;rw[aC hx];obtain⟨n0,n1⟩:=hn j0 (mem_of_getElem? t0.hj);obtain⟨n2,n3⟩:=hn j (mem_of_getElem? t1.hj);generalize hM:fg (bG l a j.b j.on) (bG l a j.b j.to) (aO l a j0 i) (qE (bT (aY l i j.point) (ai l j0 i)))=M at *;obtain⟨B0,hB0⟩:∃B0,B0=mQ M.ts x ⟨ai l j0 i,P2.l (aO l a j0 i),aY l i j.point⟩:=⟨_,rfl⟩
   have hbs:bH (be a) [i] [B0]=(be a).set i.toNat B0:=rfl;have g0:(bH (be a) [i] [B0]).getD i.toNat bp=B0:=by rw[hbs,pE hil]
   have gn:∀b:Int,0<=b->b∉[i]->jT (be a) (bH (be a) [i] [B0]) (llq a.rs).length b:=fun b h0 hb=>u4 tw hN (by
    rw[hbs,nJ hi h0 (fun e=>hb (by simp[e]))])
   have p0:bM M.ts B0 (ai l j0 i)=(aT M.ts (aO l a j0 i).1,aT M.ts (aO l a j0 i).2):=by rw[hB0];exact sO
   have q0:bM M.ts B0 (aY l i j.point)=(dE M.ts x.1,dE M.ts x.2):=by
    rw[hB0];refine(BB w1).trans ?_;unfold lQ kp;refine Prod.ext ?_ ?_
    ·dsimp only;grind
    ·dsimp only;grind
   have hjb:jT (be a) (bH (be a) [i] [B0]) (llq a.rs).length j.b:=by
    rcases t1.tie with⟨e,hb⟩ |⟨e,hb⟩
    ·exact gn _ n3 hb
    ·exact absurd (by simp[ha]) hb
   refine⟨G.lf,?_,?_⟩
   ·intro z hz;show JH l M.ts (bH (be a) [i] [_]) _;rw[<- hB0];rcases List.mem_cons.1 hz with rfl |hz
    ·rw [aC t0.hj];refine L.pin t0.kd (i:=i) ?_ (by rw [g0]; exact p0);rcases t0.tie with ⟨e,hb⟩ | ⟨e,hb⟩
     ·exact .inl ⟨e,gn _ n1 hb⟩
     ·exact .inr ⟨fun e2=>hb (by simp[e2]),e,gn _ n0 hb⟩
    ·rw [List.mem_singleton.1 hz, aC t1.hj];refine AJ L.pos (by rw [t1.kd]; decide) ?_;have ec:=(e8 L.pos).2 G.l;rw [cJ,co,co,cJ,cJ,cJ,cJ,qI,qI] at ec;have on:=L.pt l hjb j.on;have to:=L.pt l hjb j.to
     have pp:bg l M.ts (bH (be a) [i] [B0]) j.a j.point=(dE M.ts x.1,dE M.ts x.2):=by
      unfold bg;rw[ha,g0,q0]
     rw[pp,on.1,on.2,to.1,to.2];exact ec
   ·intro b hb;show CH M.ts ((bH (be a) [i] [_]).getD b.toNat bp);rw[<- hB0,List.mem_singleton.1 hb,g0,hB0];refine uH L.pos w1 ?_;have:=G.c;rw[L.q]at this;exact this
theorem yf{i z0 z1:Int}{j0 j:Jt}(t0:TieO l 0 [i] z0 i j0)(t1:TieO l 1 [i] z1 i j)(ha:j.a≠i)(hi:0<=i)(hil:i.toNat<(be a).length)(hn:∀j∈l.jo,0<=j.a/\0<=j.b)(hv:bX (dt l i j) (dt l i j)≠0)
  (hd:am (cQ l a i j0 j)≠0) {T:LL} (L:Lf (llq a.rs) T) {q:List Rat} (hq:an L.pos (dE T q*dE T q)=an L.pos (aT T (bc l a i j0 j))) {n:Int} :
  GrpH l a ⟨3,[i],[z0,z1],0⟩ ⟨T,[qQ T (ef l a i j0 j) q],n⟩:=by
 obtain⟨n0,n1⟩:=hn j0 (mem_of_getElem? t0.hj);obtain⟨n2,n3⟩:=hn j (mem_of_getElem? t1.hj)
 obtain⟨tb,tn⟩:j.b=i/\j.a∉[i]:=by
  rcases t1.tie with⟨e,hb⟩ |h
  ·exact absurd e ha
  ·exact h
 obtain⟨w,hw⟩:∃w:P2 T,w=oA T q (ef l a i j0 j).h (ef l a i j0 j).d (ef l a i j0 j).w:=⟨_,rfl⟩
 obtain⟨o,ho⟩:∃o:P2 T,o=(aT T (aO l a j0 i).1,aT T (aO l a j0 i).2):=⟨_,rfl⟩
 obtain⟨B0,hB0⟩:∃B0,B0=gX (dt l i j) w (ai l j0 i) o:=⟨_,rfl⟩
 have e0:qQ T (ef l a i j0 j) q=B0:=by rw[hB0,hw,ho];rfl
 rw[e0];have hbs:bH (be a) [i] [B0]=(be a).set i.toNat B0:=rfl;have g0:(bH (be a) [i] [B0]).getD i.toNat bp=B0:=by rw[hbs,pE hil]
 have gn:∀b:Int,0<=b->b∉[i]->jT (be a) (bH (be a) [i] [B0]) (llq a.rs).length b:=fun b h0 hb=>u4 tw hN (by
  rw[hbs,nJ hi h0 (fun e=>hb (by simp[e]))])
 have hD:an L.pos (aT T (cQ l a i j0 j))=an L.pos (aT T (dz l a i j0 j).1)*an L.pos (aT T (dz l a i j0 j).1)+an L.pos (aT T (dz l a i j0 j).2)*an L.pos (aT T (dz l a i j0 j).2):=by
  rw[<- L.mul,<- L.mul,<- L.add];rfl
 have hI:an L.pos (iE (aT T (cQ l a i j0 j)))*an L.pos (aT T (cQ l a i j0 j))=1:=AM L.pos (fun e=>hd ((L.zero _).1 e))
 have hX:an L.pos (dE T q)*an L.pos (dE T q)=an L.pos (qE (j6 l i j))*an L.pos (aT T (cQ l a i j0 j))-an L.pos (qE (cW l i j0 j))*an L.pos (qE (cW l i j0 j)):=by
  rw[<- co,hq];unfold bc;rw[L.sub,L.mul,L.mul,L.q,L.q]
 have eh:dE T (ef l a i j0 j).h=qE (cW l i j0 j):=ia _ _;have x1:w.1=(dE T q*aT T (dz l a i j0 j).1-qE (cW l i j0 j)*-aT T (dz l a i j0 j).2)*iE (aT T (cQ l a i j0 j)):=by rw[hw,<- eh];rfl
 have x2:w.2=(dE T q*aT T (dz l a i j0 j).2-qE (cW l i j0 j)*aT T (dz l a i j0 j).1)*iE (aT T (cQ l a i j0 j)):=by rw[hw,<- eh];rfl
 have G:=J7 hD hI hX (w1:=an L.pos w.1) (w2:=an L.pos w.2) (by rw[x1,co,cJ,co,co,LI]) (by rw[x2,co,cJ,co,co])
 have hc:CH T B0:=by
  rw[hB0];refine uH L.pos hv ?_;refine(kr L.pos (x:=w.1*w.1+w.2*w.2) (y:=qE (bX (dt l i j) (dt l i j)))).1 ?_;rw[jS,co,co,G.1];rfl
 refine⟨L,?_,?_⟩
 ·intro z hz;show JH l T (bH (be a) [i] [B0]) _;rcases List.mem_cons.1 hz with rfl |hz
  ·rw [aC t0.hj];refine L.pin t0.kd (i:=i) ?_ (by rw [g0,hB0,sO,ho]);rcases t0.tie with ⟨e,hb⟩ | ⟨e,hb⟩
   ·exact .inl ⟨e,gn _ n1 hb⟩
   ·exact .inr ⟨fun e2=>hb (by simp[e2]),e,gn _ n0 hb⟩
  ·rw [List.mem_singleton.1 hz, aC t1.hj];refine AJ L.pos (by rw [t1.kd]; decide) ?_;have pp:=L.pt l (gn _ n2 tn) j.point;have eon:bg l T (bH (be a) [i] [B0]) j.b j.on = bM T B0 (aY l i j.on):=by unfold bg; rw [tb,g0]
   have eto:bg l T (bH (be a) [i] [B0]) j.b j.to=bM T B0 (aY l i j.to):=by unfold bg;rw[tb,g0]
   have W1:an L.pos (aT T (dz l a i j0 j).1)=an L.pos (aT T (bg l (llq a.rs) (be a) j.a j.point).1)-an L.pos o.1:=by
    rw[ho,<- L.sub,<- qI];rfl
   have W2:an L.pos (aT T (dz l a i j0 j).2)=an L.pos (aT T (bg l (llq a.rs) (be a) j.a j.point).2)-an L.pos o.2:=by
    rw[ho,<- L.sub,<- qI];rfl
   have g2:=G.2;rw[W1,W2]at g2;rw[pp.1,pp.2,eon,eto,hB0,vG,vG];have gg:=BU (w:=w) hv
   have hcs:an L.pos (dA (dt l i j) w)*an L.pos (dA (dt l i j) w)+an L.pos (dw (dt l i j) w)*an L.pos (dw (dt l i j) w)=1:=by
    have h9:=(e8 L.pos).2 hc;rw[hB0,uB,wg,cJ,jS,co,co,BV]at h9;grind
   have v1:(qE (dt l i j).1:Et T)=qE ((aY l i j.to).1-(ai l j0 i).1)-qE ((aY l i j.on).1-(ai l j0 i).1):=by rw[<- tm];congr 1;show(aY l i j.to).1-(aY l i j.on).1=_;grind
   have v2:(qE (dt l i j).2:Et T)=qE ((aY l i j.to).2-(ai l j0 i).2)-qE ((aY l i j.on).2-(ai l j0 i).2):=by rw[<- tm];congr 1;show(aY l i j.to).2-(aY l i j.on).2=_;grind
   have hh:(qE (cW l i j0 j):Et T)=qE (dt l i j).1*qE ((aY l i j.on).2-(ai l j0 i).2)-qE (dt l i j).2*qE ((aY l i j.on).1-(ai l j0 i).1):=by
    rw[<- kD,<- kD,<- tm];rfl
   have y1:=congrArg (an L.pos) gg.1;have y2:=congrArg (an L.pos) gg.2;rw[hh,cJ,co,co]at g2;rw[v1,v2]at g2 y1 y2;simp only[jS,cJ,co]at g2 y1 y2 ⊢
   revert hcs g2 y1 y2
   generalize an L.pos (qE ((aY l i j.to).1-(ai l j0 i).1):Et T)=a1;generalize an L.pos (qE ((aY l i j.to).2-(ai l j0 i).2):Et T)=a2;generalize an L.pos (qE ((aY l i j.on).1-(ai l j0 i).1):Et T)=b1;generalize an L.pos (qE ((aY l i j.on).2-(ai l j0 i).2):Et T)=b2;generalize an L.pos (dA (dt l i j) w)=C;generalize an L.pos (dw (dt l i j) w)=S;generalize an L.pos (aT T (bg l (llq a.rs) (be a) j.a j.point).1)=P1;generalize an L.pos (aT T (bg l (llq a.rs) (be a) j.a j.point).2)=P2;generalize an L.pos o.1=o1;generalize an L.pos o.2=o2;generalize an L.pos w.1=x1;generalize an L.pos w.2=x2;intro hcs g2 y1 y2;exact Ku hcs g2 y1 y2
 ·intro b hb;rw[List.mem_singleton.1 hb];show CH T ((bH (be a) [i] [B0]).getD i.toNat bp);rw[g0];exact hc
end
end Go.Lw
namespace Go.Lw
open Lean.Grind (CommRing)
theorem Uk(half:Bool)(t:Rat):du half t*du half t+dp half t*dp half t=1:=by
 unfold du dp;cases half
 ·have h:1+t*t≠0:=by
   have:=oa t;intro e;grind
  simp only[Bool.false_eq_true,if_false]
  have e1:(1-t*t)/(1+t*t)*((1-t*t)/(1+t*t))+(t+t)/(1+t*t)*((t+t)/(1+t*t))=((1-t*t)*(1-t*t)+(t+t)*(t+t))*((1+t*t)⁻¹*(1+t*t)⁻¹):=by
   rw[Rat.div_def,Rat.div_def];grind
  rw[e1];have e2:(1+t*t)*(1+t*t)⁻¹=1:=Rat.mul_inv_cancel _ h;generalize(1+t*t)⁻¹=k at e2 ⊢;have e3:((1-t*t)*(1-t*t)+(t+t)*(t+t))*(k*k)=((1+t*t)*k)*((1+t*t)*k):=by grind
  rw[e3,e2,Rat.one_mul]
 ·simp only[if_true];decide +kernel
section
variable{l:Li}{a:As}{r:Nat}(tw:Tw (llq a.rs) r)(hN:∀p∈be a,Nq (llq a.rs).length p)
include tw hN
theorem O6{i z0 z1:Int}{j0 j:Jt}(t0:TieO l 0 [i] z0 i j0)(t1:TieO l 1 [i] z1 i j)(ha:j.a≠i)(hi:0<=i)(hil:i.toNat<(be a).length)(hn:∀j∈l.jo,0<=j.a/\0<=j.b)(hv:bX (dt l i j) (dt l i j)≠0)
  {s:Sv} (hs:s∈kZ l a i j0 j):GrpH l a ⟨3,[i],[z0,z1],0⟩ s:=by
 unfold kZ at hs;split at hs
 ·cases hs
 ·rename_i h1;split at hs
  ·cases hs
  ·rename_i h2;have hd:=vQ tw h2 h1;split at hs
   ·rename_i h3;have hp:=xK tw.pos h3;have L:=zU (bc l a i j0 j) hp;have e:=z8 (bc l a i j0 j);unfold kf at hs;obtain⟨m,hm,rfl⟩:=List.mem_map.1 hs;have hm:=List.mem_range.1 hm;unfold jN
    match m,hm with
    |0,_ =>
     refine yf tw hN t0 t1 ha hi hil hn hv hd L ?_;show an L.pos (bA (bc l a i j0 j)*bA (bc l a i j0 j))=_;rw[e];rfl
    |1,_ =>
     refine yf tw hN t0 t1 ha hi hil hn hv hd L ?_;show an L.pos (dE _ (sX (-bA (bc l a i j0 j)))*dE _ (sX (-bA (bc l a i j0 j))))=_;rw[jx,show -bA (bc l a i j0 j)*-bA (bc l a i j0 j)=bA (bc l a i j0 j)*bA (bc l a i j0 j) by grind,e];rfl
    |m+2,h=>exact absurd h (by simp)
   ·rename_i h3;have hX:am (bc l a i j0 j) = 0:=by omega
    have L:=wM (ts:=llq a.rs) tw.pos;unfold kf at hs;obtain⟨m,hm,rfl⟩:=List.mem_map.1 hs;have hm:=List.mem_range.1 hm;unfold jN
    match m,hm with
    |0,_ =>
     refine yf tw hN t0 t1 ha hi hil hn hv hd L ?_;show an L.pos (dE _ []*dE _ [])=_;have e0:(dE (llq a.rs) []:Et (llq a.rs))=0:=by rw[E.zero_def];exact gp _
     rw[e0,gO];refine((e8 L.pos).2 ?_).trans ((e8 L.pos).2 hX).symm;rw[show(0:Et (llq a.rs))*0=0 by grind];exact(gG _ _ L.pos).zero
    |m+1,h=>exact absurd h (by simp)
theorem Mp{i z0 d:Int}{j0:Jt}(t0:TieO l 0 [i] z0 i j0)(hi:0<=i)(hil:i.toNat<(be a).length)(hn:∀j∈l.jo,0<=j.a/\0<=j.b){x:Tn}
  {s:Sv} (hs:s∈k8 l a i j0 x):GrpH l a ⟨0,[i],[z0],d⟩ s/\dE s.ts ((bH (be a) [i] s.ps).getD i.toNat bp).c=qE (du x.half x.t.q)/\dE s.ts ((bH (be a) [i] s.ps).getD i.toNat bp).s=qE (dp x.half x.t.q):=by
 unfold k8 at hs;split at hs
 ·cases hs
 ·rw[List.mem_singleton.1 hs];obtain⟨n0,n1⟩:=hn j0 (mem_of_getElem? t0.hj);have L:=wM (ts:=llq a.rs) tw.pos;have hbs:∀B0,bH (be a) [i] [B0]=(be a).set i.toNat B0:=fun _=>rfl
  have g0:∀B0,(bH (be a) [i] [B0]).getD i.toNat bp=B0:=fun B0=>by rw[hbs,pE hil]
  have gn:∀(B0:Pq)(b:Int),0<=b->b∉[i]->jT (be a) (bH (be a) [i] [B0]) (llq a.rs).length b:=fun B0 b h0 hb=>u4 tw hN (by
   rw[hbs,nJ hi h0 (fun e=>hb (by simp[e]))])
  have eN:(jY (((1:Int):Rat),0):Et (llq a.rs))=qE 1:=congrArg qE (show((1:Int):Rat)*((1:Int):Rat)+0*0=1 by decide +kernel);have q1:(qE 1:Et (llq a.rs))=1:=rfl
  have hc:(dE (llq a.rs) (kT l a i j0 x).c:Et (llq a.rs))=qE (du x.half x.t.q):=by
   unfold kT;rw[uB];unfold dA;rw[eN,yF,lO,x5];grind
  have hsn:(dE (llq a.rs) (kT l a i j0 x).s:Et (llq a.rs))=qE (dp x.half x.t.q):=by
   unfold kT;rw[wg];unfold dw;rw[eN,yF,lO,x5];grind
  refine⟨⟨L,?_,?_⟩,by rw[g0];exact hc,by rw[g0];exact hsn⟩
  ·intro z hz;rw [List.mem_singleton.1 hz,aC t0.hj];show JH l (llq a.rs) (bH (be a) [i] [kT l a i j0 x]) j0;refine L.pin t0.kd (i:=i) ?_ (by rw [g0,gO,gO]; exact sO);rcases t0.tie with ⟨e,hb⟩ | ⟨e,hb⟩
   ·exact .inl ⟨e,gn _ _ n1 hb⟩
   ·exact .inr ⟨fun e2=>hb (by simp[e2]),e,gn _ _ n0 hb⟩
  ·intro b hb;rw[List.mem_singleton.1 hb];show CH (llq a.rs) ((bH (be a) [i] [kT l a i j0 x]).getD i.toNat bp);rw[g0];unfold CH;rw[hc,hsn,<- kD,<- kD,<- lS,Uk,q1,show(1:Et (llq a.rs))-1=0 by grind];exact(gG _ _ L.pos).zero
theorem Lk{g:Gr}(hg:DyK l g)(hgb:∀b∈g.bo,0<=b/\b.toNat<(be a).length)(hli:aB l=0){x:Tn}{s:Sv}(hs:s∈fp l a g x):GrpH l a g s/\(g.kind=0->dE s.ts ((bH (be a) g.bo s.ps).getD (ff g 0).toNat bp).c=qE (du x.half x.t.q)/\dE s.ts ((bH (be a) g.bo s.ps).getD (ff g 0).toNat bp).s=qE (dp x.half x.t.q)):=by
 have hn:∀j∈l.jo,0<=j.a/\0<=j.b:=fun j hj=>by
  obtain⟨n,hn⟩:=List.getElem?_of_mem hj;obtain⟨i1,i2,_⟩:=d7 hli hn;have i1:=dq i1;have i2:=dq i2;omega
 cases hg with
 | @drv b z d j dr t d0 hd hb =>
  have e:dF l ⟨0,[b],[z],d⟩ 0=j:=aC t.hj;have hs:s∈k8 l a b j x:=by rw[<- e];exact hs
  obtain⟨h1,h2⟩:=hgb b (by simp);have h:=Mp (d:=d) tw hN t h1 h2 hn hs;exact⟨h.1,fun _=>h.2⟩
 | @rrr i k z0 z1 z2 j0 j1 j2 ne t0 t1 h0 h2 kd tie =>
  have e0:dF l ⟨1,[i,k],[z0,z1,z2],0⟩ 0=j0:=aC t0.hj;have e1:dF l ⟨1,[i,k],[z0,z1,z2],0⟩ 1=j1:=aC t1.hj;have e2:dF l ⟨1,[i,k],[z0,z1,z2],0⟩ 2=j2:=aC h2;have hs:s∈lg l a i k j0 j1 j2:=by rw[<- e0,<- e1,<- e2];exact hs
  obtain⟨b1,b2⟩:=hgb i (by simp);obtain⟨b3,b4⟩:=hgb k (by simp);exact⟨Uo tw hN ne t0 t1 h2 kd tie b1 b3 b2 b4 hn hs,fun h=>absurd h (by simp)⟩
 | @pr i z0 z1 j0 j1 t0 t1 ha =>
  have e0:dF l ⟨2,[i],[z0,z1],0⟩ 0=j0:=aC t0.hj;have e1:dF l ⟨2,[i],[z0,z1],0⟩ 1=j1:=aC t1.hj;have hs:s∈lG l a i j0 j1:=by rw[<- e0,<- e1];exact hs
  obtain⟨b1,b2⟩:=hgb i (by simp);exact⟨Jv tw hN t0 t1 ha b1 b2 hn hs,fun h=>absurd h (by simp)⟩
 | @rp i z0 z1 j0 j1 t0 t1 ha =>
  have e0:dF l ⟨3,[i],[z0,z1],0⟩ 0=j0:=aC t0.hj;have e1:dF l ⟨3,[i],[z0,z1],0⟩ 1=j1:=aC t1.hj;have hs:s∈kZ l a i j0 j1:=by rw[<- e0,<- e1];exact hs
  obtain⟨b1,b2⟩:=hgb i (by simp)
  have tb:j1.b=i:=by
   rcases t1.tie with⟨e,_⟩ |⟨e,_⟩
   ·exact absurd e ha
   ·exact e
  exact⟨O6 tw hN t0 t1 ha b1 b2 hn (AY hli t1.hj (by rw[t1.kd];decide) tb) hs,fun h=>absurd h (by simp)⟩
end
end Go.Lw
