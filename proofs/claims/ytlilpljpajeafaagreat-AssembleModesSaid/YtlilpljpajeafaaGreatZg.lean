/- AssembleModes: for any linkage, any turns and any modes the law returns true and leaves its arguments as they were. No other condition. Part 7 of 7: the statement -/
import Derived.Test.YtlilpljpajeafaaGreatZf
set_option linter.unusedVariables false
open List (mem_of_getElem? mem_cons_of_mem mem_append map_cons mem_cons length_cons mem_cons_self length_append length_nil getD_eq_getElem?_getD all_eq_true getElem?_take getElem?_drop getElem?_map append_assoc getElem?_eq_getElem nil_append getElem?_replicate append_nil map_append length_take take_of_length_le drop_zero take_length map_nil not_mem_nil length_map getElem_mem mem_of_mem_take map_take map_map map_replicate map_set drop_length length_set)
open Nat (eq_of_beq_eq_true le_refl lt_or_ge le_trans mul_le_mul_right zero_le pow_add lt_of_le_of_lt)
open Option (map_eq_some_iff)
open Bool (and_eq_true or_eq_true)
open Int (toNat_natCast)
open Go.Proofs.Tryz
namespace Go.Lw
open Go.Proofs
structure SvOk(s:Sv):Prop where
  tw:∃r,Tw s.ts r
  two:s.ts.length<=2
  ps:∀p∈s.ps,Pq.ok s.ts.length 80000000000 p
  ln:s.ps.length<=2
theorem Ij{ts:LL}{r:Nat}(h:Tw ts r)(k:Nat):Tw (ts.take k) r:=by
 have hl:(ts.take k).length<=ts.length:=by rw[length_take];omega
 have hg:∀j,j<(ts.take k).length->j<k/\j<ts.length:=fun j hj=>by rw[length_take]at hj;omega
 refine⟨le_trans hl h.three,fun j hj=>?_,fun j hj=>?_,?_,h.le⟩
 ·obtain⟨h1,h2⟩:=hg j hj;have h3:=h.len j h2;rw[getD_eq_getElem?_getD,getElem?_take,if_pos h1,<- getD_eq_getElem?_getD];exact h3
 ·obtain⟨h1,h2⟩:=hg j hj;have h3:=h.pos j h2;rw[T.sgn_congr j (fun i hi=>oF (by omega:i<k)),oF h1];exact h3
 ·obtain⟨D,N,h1,h2,h3⟩:=h.rb;exact⟨D,N,h1,fun d hd=>h2 d (mem_of_mem_take hd),h3⟩
theorem mJ(ts:LL)(x:T ts.length):iJ ts x x=true:=by
 unfold iJ subT;rw[T.add_neg,T.sgn_zero];rfl
theorem Mv{ts:LL}{r:Nat}(tw:Tw ts r){k:Nat}{d:List Rat}(hd:ts[k]?=some d) :
  FP 23 [.agg [.lst 1 (((ts.map nA).drop 0).take (k-0))],nA d,nA d] (bl true):=by
 have hk:=(List.getElem?_eq_some_iff.1 hd).1;have h3:=tw.three;have hlen:=tw.len k hk;rw[aL hd]at hlen;have hl:(ts.take k).length=k:=by rw[length_take];omega
 have hcb:=tw.rb.cb k;rw[aL hd]at hcb;have hlm:=iZ k;have hle:=tw.le;have hm:Nm (ts.take k).length r d:=⟨by omega,.inr ⟨k,by omega,hlen⟩,hcb⟩
 have h:=lZ (Ij tw k) hm hm (by rw[hl];omega);rw[mJ]at h;rw[Nat.sub_zero,drop_zero,<- map_take];exact h
theorem AT{ts:LL}{r:Nat}(tw:Tw ts r):FP 89 [aN ts] (i64 0):=by
 have hC:=Fb (ts.map (List.map rt)) r tw.tr;rw[tw.chk,jw]at hC;exact hC
theorem KN{ts:LL}{r:Nat}(tw:Tw ts r):FP 115 [aN ts,aN ts] (bl true):=by
 have h3:=tw.three;refine ah func115 ?_;refine gc (AT tw) ?_;refine bw (fun _=>(AT tw)) ?_;refine bH ?_;refine bH ?_;refine gC (fun t22=>?_) (fun t22=>?_) (st1:=(2,0));exact absurd t22 (by simp[aa]);refine gl ?_;refine aI [2,3,25] [2,3] (fun(k:Nat)=>[(26,some (i64 k))]) (fun _=>[]) (fun k=>k<=ts.length) (fun k=>ts.length-k) 0 (zero_le _) ?_;rintro k hk K1 J1;refine gC (fun t27=>?_) (fun t27=>?_)
 ·have hin:=aU t27;obtain⟨d,hd⟩:=ay hin;refine gs (cc (.tmp rfl) (.none _) (.some _ (.tmp rfl) oz) T35 rfl T67 rfl oz (by simp only[length_map];omega) rfl) ?_;refine gi (az hd) ?_;refine gi (az hd) ?_;refine gc (Mv tw hd) ?_;refine gD ?_;refine gC (fun t45=>?_) (fun t45=>?_) (st1:=(7,0));cases t45;refine ga aG ?_;exact aE J1 (k+1) hin
 refine ae ?_;rfl
theorem HG{ts:LL}{r:Nat}(tw:Tw ts r)(h2:ts.length<=2){p:Pq}(hp:Pq.ok ts.length 80000000000 p):FP 20 [aN ts,p.av,p.av] (bl true):=by
 have hl:lm ts.length=200000000000:=by unfold lm;rw[if_pos h2]
 have h:=Qu tw hp.c hp.s hp.x hp.y hp.c hp.s hp.x hp.y (by rw[hl];omega);rw[mJ,mJ,mJ,mJ]at h;exact h
structure SolP(S:List Sv)(kd:Int)(n b:Nat):Prop where
  two:S.length<=2
  ok:∀s∈S,SvOk s
  md:∀(i:Nat)(s:Sv),S[i]?=some s->s.mode=(if kd=0 then 1 else if S.length=2 then 1-2*(i:Int)else 0)/\s.ts.length=n+(if S.length=2 then 1 else 0)/\s.ps.length=b
theorem mw(kd:Int)(n b:Nat):SolP [] kd n b:=⟨by simp,by simp,by simp⟩
theorem ur(f:Nat->Sv)(n:Nat):((List.range n).map fun i=>(f i).av)=((List.range n).map f).map Sv.av:=by rw[map_map];rfl
theorem Nf{ts:LL}(p q:P2 ts)(z z2:Et ts)(h0:fT p q z z2=0):(e8 p q z z2).ts.length=ts.length+(if(e8 p q z z2).ps.length=2 then 1 else 0):=by
 unfold fT lF at h0;unfold e8 lO;split
 ·rename_i hd;rw[if_pos hd]at h0;split
  ·simp
  ·rename_i hz;split
   ·rename_i hp;rw[if_pos ⟨Decidable.not_not.1 hz,hp⟩]at h0;cases h0
   ·simp
 ·split
  ·simp
  ·split
   ·simp
   ·simp[eS]
theorem OP{ts:LL}(p q o:P2 ts)(z:Et ts)(h0:fO p q=0):(fa p q o z).ts.length=ts.length+(if(fa p q o z).ps.length=2 then 1 else 0):=by
 unfold fO at h0;unfold fa;split
 ·rename_i hd;rw[if_pos hd]at h0;cases h0
 ·split
  ·simp
  ·split
   ·simp
   ·simp[eS]
def kK(m:Mt)(hs:List Hd):List Sv:=(List.range m.ps.length).map (kv m hs)
def mG(l:Li)(a:As)(i k:Int)(j0 j1 j2:Jt):List Sv :=
  if fx [b8 (am l j2 i) (am l j0 i),b8 (am l j2 k) (am l j1 k)]=true then[]
  else if fT (aW l a j0 i) (aW l a j1 k) (qE (bR (am l j2 i) (am l j0 i))) (qE (bR (am l j2 k) (am l j1 k)))≠0 then[]
  else kK (e8 (aW l a j0 i) (aW l a j1 k) (qE (bR (am l j2 i) (am l j0 i))) (qE (bR (am l j2 k) (am l j1 k)))) [⟨am l j0 i,P2.l (aW l a j0 i),am l j2 i⟩,⟨am l j1 k,P2.l (aW l a j1 k),am l j2 k⟩]
def mh(l:Li)(a:As)(i:Int)(j0 j:Jt):List Sv :=
  if fx [b8 (bm l i j.point) (am l j0 i)]=true then[]
  else if fO (bA l a j.b j.on) (bA l a j.b j.to)≠0 then[]
  else kK (fa (bA l a j.b j.on) (bA l a j.b j.to) (aW l a j0 i) (qE (bR (bm l i j.point) (am l j0 i)))) [⟨am l j0 i,P2.l (aW l a j0 i),bm l i j.point⟩]
def kE(ts:LL)(R:Rp)(qs:LL):List Sv:=(List.range qs.length).map (jR ts R qs)
def l6(l:Li)(a:As)(i:Int)(j0 j:Jt):List Sv :=
  if aw (dB l a i j0 j)=0/\aw (qE (dq l i j0 j):Et (llq a.rs))=0 then[]
  else if aw (bp l a i j0 j)<0 then[]
  else if 0<aw (bp l a i j0 j)then kE (aK (llq a.rs) (sX (bp l a i j0 j))) (eO l a i j0 j) [cr (llq a.rs).length,sX (-eI (bp l a i j0 j))]
  else kE (llq a.rs) (eO l a i j0 j) [[]]
def kS(l:Li)(a:As)(i:Int)(j0:Jt)(x:Tn):List Sv:=if x.err≠0 then[]else[⟨llq a.rs,[uo l a i j0 x],1⟩]
def cD(l:Li)(a:As)(g:Gr)(x:Tn):List Sv :=
  if g.kind=0 then kS l a (ik g 0) (eC l g 0) x
  else if g.kind=1 then mG l a (ik g 0) (ik g 1) (eC l g 0) (eC l g 1) (eC l g 2)
  else if g.kind=2 then mh l a (ik g 0) (eC l g 0) (eC l g 1)
  else l6 l a (ik g 0) (eC l g 0) (eC l g 1)
theorem KQ(l:Li)(a:As)(i k:Int)(j0 j1 j2:Jt):(lT l a i k j0 j1 j2).1=(mG l a i k j0 j1 j2).map Sv.av:=by
 unfold lT mG;split
 ·rfl
 ·split
  ·rfl
  ·exact ur _ _
theorem QW(l:Li)(a:As)(i:Int)(j0 j:Jt):(lL l a i j0 j).1=(mh l a i j0 j).map Sv.av:=by
 unfold lL mh;split
 ·rfl
 ·split
  ·rfl
  ·exact ur _ _
theorem MP(l:Li)(a:As)(i:Int)(j0 j:Jt):(jJ l a i j0 j).1=(l6 l a i j0 j).map Sv.av:=by
 unfold jJ l6;split
 ·rfl
 ·split
  ·rfl
  ·split
   ·exact ur _ _
   ·exact ur _ _
theorem Js(l:Li)(a:As)(g:Gr)(x:Tn):(gY l a g x).1=(cD l a g x).map Sv.av:=by
 unfold gY cD;split
 ·unfold l8 kS;split <;> rfl
 ·split
  ·exact KQ ..
  ·split
   ·exact QW ..
   ·exact MP ..
theorem Be{ts:LL}{m:Mt}(ok:MtOk ts m){hs:List Hd}(hl:hs.length<=2)(H:∀x∈m.ps,∀h∈hs,HdP m.ts x h){kd:Int}(hk:kd≠0)(lv:m.ts.length=ts.length+(if m.ps.length=2 then 1 else 0)) :
  SolP (kK m hs) kd ts.length hs.length:=by
 have hln:=ok.ln;refine⟨by simpa[kK]using hln,?_,?_⟩
 ·intro s hs2;obtain⟨i,hi,rfl⟩:=List.mem_map.1 hs2;obtain⟨x,hx⟩:=ay (List.mem_range.1 hi);obtain⟨r,tw,_⟩:=ok.tw;refine⟨⟨r,tw⟩,ok.two,?_,by simpa[kv]using hl⟩;intro p hp;unfold kv at hp;rw[aL hx]at hp;obtain⟨h,hh,rfl⟩:=List.mem_map.1 hp;exact(H x (mem_of_getElem? hx) h hh).b.ok
 ·intro i s hi;unfold kK at hi;have hin:i < m.ps.length:=by have:=(List.getElem?_eq_some_iff.1 hi).1; simpa using this
  have e:s=kv m hs i:=by simp[hin]at hi;exact hi.symm
  subst e;have hlen:(kK m hs).length=m.ps.length:=by simp[kK]
  rw[hlen,if_neg hk];refine⟨?_,lv,by simp[kv]⟩;show(if m.ps.length=1 then 0 else 1-2*(i:Int))=_
  by_cases h2:m.ps.length=2
  ·rw[if_neg oz,if_pos h2]
  ·rw[if_pos oz,if_neg h2]
theorem NT{l:Li}{a:As}(D:DyR l a)(hn:(llq a.rs).length<=1){g:Gr}{i k z0 z1 z2:Int}{j0 j1 j2:Jt}(P:RrrP 3900000 l a g i k z0 z1 z2 j0 j1 j2):SolP (mG l a i k j0 j1 j2) 1 (llq a.rs).length 2:=by
 have c:=D.s.ct D.hc;obtain⟨tw,etw⟩:=cH D.s.tr D.hc;have hq0:=gk D.hl D.li P.h0 P.p0.or;have hq1:=gk D.hl D.li P.h1 P.p1.or;have hq2:=gk D.hl D.li P.h2 P.t1;have hq3:=gk D.hl D.li P.h2 P.t2;obtain⟨y1,y2⟩:=kr D.hl D.li D.al D.s D.hc P.h0 P.p0;obtain⟨y3,y4⟩:=kr D.hl D.li D.al D.s D.hc P.h1 P.p1;haveI:=c;haveI q1:=oC hq2 hq0;haveI q2:=oC hq3 hq1;have z1:Zu 310000 65000 (qE (bR (am l j2 i) (am l j0 i)):Et (llq a.rs)) 3 0:=inferInstance;have z2:Zu 310000 65000 (qE (bR (am l j2 k) (am l j1 k)):Et (llq a.rs)) 3 0:=inferInstance;unfold mG
 by_cases h1:fx [b8 (am l j2 i) (am l j0 i),b8 (am l j2 k) (am l j1 k)]=true
 ·rw[if_pos h1];exact mw _ _ _
 ·rw[if_neg h1];obtain⟨w1,w2⟩:=x6 (Bool.eq_false_iff.2 h1)
  by_cases h2:fT (aW l a j0 i) (aW l a j1 k) (qE (bR (am l j2 i) (am l j0 i))) (qE (bR (am l j2 k) (am l j1 k)))≠0
  ·rw[if_pos h2];exact mw _ _ _
  ·rw[if_neg h2];have h3:=Decidable.not_not.1 h2;have ok:=BH (x:=(aW l a j0 i).1) (y:=(aW l a j0 i).2) (x2:=(aW l a j1 k).1) (y2:=(aW l a j1 k).2) tw hn c y1 y2 z1 y3 y4 z2 h3;exact Be ok (by simp) (fun x hx=>j5 (oa ok hx (y1.nm.mono (by decide)) (y2.nm.mono (by decide)) hq0 hq2 w1) (oa ok hx (y3.nm.mono (by decide)) (y4.nm.mono (by decide)) hq1 hq3 w2)) (by decide) (Nf _ _ _ _ h3)
theorem HP{l:Li}{a:As}(D:DyR l a)(hn:(llq a.rs).length<=1){g:Gr}{i z0 z1:Int}{j0 j:Jt}(P:SlP 3900000 l a g 2 i z0 z1 j0 j)(ha:j.a=i)(hb:Pd 3900000 a j.b):SolP (mh l a i j0 j) 2 (llq a.rs).length 1:=by
 have c:=D.s.ct D.hc;obtain⟨tw,etw⟩:=cH D.s.tr D.hc;obtain⟨i1,i2,i3,i4,i5⟩:=ee D.li P.h1;have hq2:Sm 1000 (bm l i j.point):=by rw[<- ha];exact j4 D.hl D.li i1 i3
 have hq0:=gk D.hl D.li P.h0 P.p0.or;obtain⟨y1,y2⟩:=kr D.hl D.li D.al D.s D.hc P.h0 P.p0;obtain⟨y3,y4⟩:=kQ D.hl D.li D.al D.s D.hc i2 i4 hb;obtain⟨y5,y6⟩:=kQ D.hl D.li D.al D.s D.hc i2 (i5 P.hk) hb;haveI:=c;haveI q1:=oC hq2 hq0;have z1:Zu 310000 65000 (qE (bR (bm l i j.point) (am l j0 i)):Et (llq a.rs)) 3 0:=inferInstance;unfold mh
 by_cases h1:fx [b8 (bm l i j.point) (am l j0 i)]=true
 ·rw[if_pos h1];exact mw _ _ _
 ·rw[if_neg h1];have w1:=yh (Bool.eq_false_iff.2 h1)
  by_cases h2:fO (bA l a j.b j.on) (bA l a j.b j.to)≠0
  ·rw[if_pos h2];exact mw _ _ _
  ·rw[if_neg h2];have h3:=Decidable.not_not.1 h2;have ok:=C8 (o:=aW l a j0 i) (p:=bA l a j.b j.on) (q:=bA l a j.b j.to) (z:=qE (bR (bm l i j.point) (am l j0 i))) tw hn c y1 y2 y3 y4 y5 y6 z1 h3;exact Be ok (by simp) (fun x hx=>f0 (oa ok hx (y1.nm.mono (by decide)) (y2.nm.mono (by decide)) hq0 hq2 w1)) (by decide) (OP _ _ _ _ h3)
theorem Gh{ts T:LL}{R:Rp}{qs:LL}(ct:Cy T 773000000 1101400000)(hl:qs.length<=2)(h1:1<=qs.length)(H:∀q∈qs,RqP T R q)(lv:T.length=ts.length+(if qs.length=2 then 1 else 0)):SolP (kE T R qs) 3 ts.length 1:=by
 refine⟨by simpa[kE]using hl,?_,?_⟩
 ·intro s hs2;obtain⟨i,hi,rfl⟩:=List.mem_map.1 hs2;obtain⟨x,hx⟩:=ay (List.mem_range.1 hi);obtain⟨r,tw,_⟩:=ct.ex;refine⟨⟨r,tw⟩,ct.two,?_,by simp[jR]⟩;intro p hp;unfold jR at hp;rw[aL hx]at hp;rw[List.mem_singleton.1 hp];exact(H x (mem_of_getElem? hx)).b.ok
 ·intro i s hi;unfold kE at hi;have hin:i < qs.length:=by have:=(List.getElem?_eq_some_iff.1 hi).1; simpa using this
  have e:s=jR T R qs i:=by simp[hin]at hi;exact hi.symm
  subst e;have hlen:(kE T R qs).length=qs.length:=by simp[kE]
  rw[hlen,if_neg (by decide)];refine⟨?_,lv,by simp[jR]⟩;show(if qs.length=1 then 0 else 1-2*(i:Int))=_
  by_cases h2:qs.length=2
  ·rw[if_neg oz,if_pos h2]
  ·rw[if_pos oz,if_neg h2]
theorem Pw{l:Li}{a:As}(D:DyR l a)(hn:(llq a.rs).length<=1){g:Gr}{i z0 z1:Int}{j0 j:Jt}(P:SlP 3900000 l a g 3 i z0 z1 j0 j)(hj:j.b=i)(hb:Pd 3900000 a j.a):SolP (l6 l a i j0 j) 3 (llq a.rs).length 1:=by
 obtain⟨tw,etw⟩:=cH D.s.tr D.hc;have F:=BI D hn P hj hb;unfold l6
 by_cases h1:aw (dB l a i j0 j)=0/\aw (qE (dq l i j0 j):Et (llq a.rs))=0
 ·rw[if_pos h1];exact mw _ _ _
 ·rw[if_neg h1]
  by_cases h2:aw (bp l a i j0 j)<0
  ·rw[if_pos h2];exact mw _ _ _
  ·rw[if_neg h2];have hd0:aw (dB l a i j0 j)≠0:=vn tw h2 h1
   by_cases h3:0<aw (bp l a i j0 j)
   ·rw[if_pos h3];obtain⟨E,R1,R2,_⟩:=At F tw hn hd0 oz;exact Gh (ts:=llq a.rs) (qs:=[cr (llq a.rs).length,sX (-eI (bp l a i j0 j))]) E.cy (le_refl 2) (by show 1<=2;omega) (j5 R1 R2) (eS (llq a.rs) (sX (bp l a i j0 j)))
   ·rw[if_neg h3];obtain⟨cs,R0⟩:=F3 F tw hn hd0;exact Gh (ts:=llq a.rs) (qs:=[[]]) cs (by show 1<=2;omega) (le_refl 1) (f0 R0) rfl
theorem Nq{E:Nat}(hE:E<=20000000000){l:Li}{a:As}(D:DyW l a)(h3:(llq a.rs).length<=2){i z0:Int}{j0:Jt}(h0:l.jo[z0.toNat]?=some j0)(p0:PinP E l a j0 i){x:Tn}(hq:Qb 1000 x.t.q):SolP (kS l a i j0 x) 0 (llq a.rs).length 1:=by
 obtain⟨tw,etw⟩:=cH D.al.tr D.hc;unfold kS
 by_cases he:x.err≠0
 ·rw[if_pos he];exact mw _ _ _
 ·rw [if_neg he];refine ⟨by simp,f0 ⟨⟨_,tw⟩,h3,f0 (CF hE D h3 h0 p0 hq).ok,by show 1 <= 2; omega⟩,?_⟩;intro n s hs
  match n,hs with
  |0,hs=>cases hs;exact⟨rfl,rfl,rfl⟩
theorem D8{E:Nat}(hE:E<=20000000000){l:Li}{k:Int}{a:As}{n:Nat}{g:Gr}{x:Tn}(D:DyW l a)(h3:(llq a.rs).length<=2)(ok:DyOk E l k a false n g)(hR:g.kind≠0->E=3900000/\DyS a)(hq:Qb 1000 x.t.q):SolP (cD l a g x) g.kind (llq a.rs).length g.bo.length:=by
 unfold cD
 by_cases hk0:g.kind=0
 ·obtain⟨i,z0,d,j0,e,hj0,p0⟩:=yC ok hk0;rw[if_pos hk0,e];show SolP (kS l a i (l.jo.getD z0.toNat default) x) _ _ _;rw[aL hj0];exact Nq hE D h3 hj0 p0 hq
 ·rw[if_neg hk0];obtain⟨hE9,S⟩:=hR hk0;subst hE9;have D:DyR l a:=⟨D,S⟩
  have hn:=S.one D.hc
  by_cases hk1:g.kind=1
  ·obtain⟨i,k2,z0,z1,z2,j0,j1,j2,P⟩:=ok.rrr hk1;obtain⟨e0,e1,e2,b0,b1,_⟩:=P.at;rw[if_pos hk1,e0,e1,e2,b0,b1,hk1,P.eq];exact NT D hn P
  ·rw[if_neg hk1]
   by_cases hk2:g.kind=2
   ·obtain⟨i,z0,z1,j0,j,P,ha,hb⟩:=ok.pr hk2;obtain⟨e0,e1,b0,_⟩:=P.at;rw[if_pos hk2,e0,e1,b0,hk2,P.eq];exact HP D hn P ha hb
   ·obtain⟨i,z0,z1,j0,j,P,_,hj,hb⟩:=ok.rp hk0 hk1 hk2;obtain⟨e0,e1,b0,hk3⟩:=P.at;rw[if_neg hk2,e0,e1,b0,hk3,P.eq];exact Pw D hn P hj hb
section
variable{n N:Nat}{r r':(k:Nat)->T k}
end
section
variable{ts:LL}(X:Et ts)
end
section
variable{ts:LL}
theorem y8(r:(k:Nat)->T k):∀(n:Nat)(q:Rat),T.inv r n (T.ofQ n q)=T.ofQ n (1/q)
 |0,q=>rfl
 |n+1,q=>by
  show T.inv r (n+1) (T.ofQ n q,T.zero n)=(T.ofQ n (1/q),T.zero n);rw[T.inv_low,y8 r n q]
theorem Oy:(iE (qE 1):Et ts)=1:=by
 show T.inv (aj ts) ts.length (T.ofQ ts.length 1)=_;rw[y8,show(1:Rat)/1=((1:Nat):Rat) by decide +kernel];rfl
end
theorem yj(r:(k:Nat)->T k)(q:Rat):∀(k:Nat){a c:List Rat},(∀i,i<2^k->c.getD i 0=q*a.getD i 0)->ad k c=T.mul r k (T.ofQ k q) (ad k a)
 |0,a,c,h=>h 0 (by decide)
 |k+1,a,c,h=>by
  have h1:=yj r q k (a:=a.take (2^k)) (c:=c.take (2^k)) (fun i hi=>by rw[jm,jm,if_pos hi,if_pos hi];exact h i (by rw[Nat.pow_succ];omega));have h2:=yj r q k (a:=a.drop (2^k)) (c:=c.drop (2^k)) (fun i hi=>by rw[jp,jp];exact h _ (by rw[Nat.pow_succ];omega));show(ad k (c.take (2^k)),ad k (c.drop (2^k)))=T.mul r (k+1) (T.ofQ k q,T.zero k) (ad k (a.take (2^k)),ad k (a.drop (2^k)));rw[T.mul_comm,T.mul_half,h1,h2,T.mul_comm r k (ad k (a.take _)),T.mul_comm r k (ad k (a.drop _))]
section
variable{ts:LL}
def Bz(e:Nat)(x:Et ts):Prop:=Nm ts.length e (sX x)
theorem Bz.mono{e f:Nat}{x:Et ts}(h:Bz e x)(hf:e<=f):Bz f x:=Nm.mono h hf
theorem Bz.add{e f:Nat}{x y:Et ts}(hx:Bz e x)(hy:Bz f y):Bz (e+f+1) (x+y):=Nm.addT hx hy
theorem Bz.sub{e f:Nat}{x y:Et ts}(hx:Bz e x)(hy:Bz f y):Bz (e+f+1) (x-y):=Nm.subT hx hy
theorem Bz.neg{e:Nat}{x:Et ts}(hx:Bz e x):Bz e (-x):=Nm.negT hx
theorem Bz.mul{r K e f:Nat}(tw:Tw ts r)(hK:eB r ts.length<=K){x y:Et ts}(hx:Bz e x)(hy:Bz f y):Bz (e+f+K) (x*y):=by
 have h:=Nm.mul tw rfl hx hy;have e1:∀z:Et ts,ad ts.length (sX z)=z:=fun z=>br _ _
 rw[e1,e1]at h;exact Nm.mono h (Nat.add_le_add_left hK _)
theorem Bz.q{e:Nat}{q:Rat}(h5:ts.length<=5)(hq:Cb e [q]):Bz e (qE q:Et ts):=by
 unfold Bz;rw[rC];exact Nm.ofQ h5 hq
theorem Bz.qm{e f:Nat}{q:Rat}{x:Et ts}(hq:Cb e [q])(hx:Bz f x):Bz (e+f) (qE q*x):=by
 obtain⟨D,N,h1,h2,h3⟩:=hq;obtain⟨D',N',k1,k2,k3⟩:=hx.cb;obtain⟨n,hn,hN⟩:=h1.2 q (List.mem_singleton.2 rfl);have hx2:ad ts.length (sX x)=x:=br _ _
 have hd:ad ts.length ((sX x).map (q*·))=T.mul (aj ts) ts.length (T.ofQ ts.length q) (ad ts.length (sX x)):=yj _ q _ (fun i _=>by
  rw[getD_eq_getElem?_getD,getElem?_map,getD_eq_getElem?_getD];cases(sX x)[i]? with
  |none=>exact(Rat.mul_zero q).symm
  |some v=>rfl)
 rw[hx2]at hd
 have hc:Cb (e+f) ((sX x).map (q*·)):=by
  refine⟨D*D',N*N',⟨Nat.mul_pos h1.1 k1.1,?_⟩,?_,?_⟩
  ·intro z hz;obtain⟨y,hy,rfl⟩:=List.mem_map.1 hz;obtain⟨m,hm,hM⟩:=k1.2 y hy;refine⟨n*m,?_,?_⟩
   ·rw[Int.natCast_mul,Rat.intCast_mul,Rat.intCast_mul,<- hn,<- hm];grind
   ·rw[Int.natAbs_mul];exact Nat.mul_le_mul hN hM
  ·rw[pow_add];exact Nat.mul_le_mul h2 k2
  ·rw[pow_add];exact Nat.mul_le_mul h3 k3
 have hnl:Nl ts.length ((sX x).map (q*·)):=by
  rcases hx.nl with h |⟨j,hj,h⟩
  ·exact .inl (by rw[h];rfl)
  ·exact .inr ⟨j,hj,by rw[length_map];exact h⟩
 refine⟨hx.five,eD _ _,?_⟩;have:=hc.sh hnl;rw[hd]at this;exact this
theorem Bz.mq{e f:Nat}{q:Rat}{x:Et ts}(hx:Bz f x)(hq:Cb e [q]):Bz (e+f) (x*qE q):=by
 rw[show x*qE q=qE q*x by grind];exact hx.qm hq
theorem Bz.iq{e f:Nat}{q:Rat}{x:Et ts}(hx:Bz f x)(hq:Cb e [q])(h0:q≠0):Bz (e+f) (x*iE (qE q)):=by
 have h:(iE (qE q):Et ts)=qE (1/q):=y8 _ _ q;rw[h];exact hx.mq (hq.inv1 h0)
theorem Bz.iv{r f j I:Nat}{y:Et ts}(tw:Tw ts r)(hy:Bz f y)(nb:Nl j (sX y))(hj:j<=ts.length)(h0:aw y≠0)(hI:iB r j f<=I)(hs:I<=50000000000):Bz I (iE y):=by
 have hf:=vr r j f;have hl:=iZ ts.length;have e1:ad ts.length (sX y)=y:=br _ _;obtain⟨L,_,k2,k3,k4⟩:=vI (b:=sX y) tw hy hj nb (by rw[e1];exact h0) oz oz;rw[e1]at k4;have:=k3.sh k2;rw[k4]at this;exact⟨tw.five,eD _ _,this.mono hI⟩
structure Pz(n ec ex:Nat)(p:Pq):Prop where
  c:Nm n ec p.c
  s:Nm n ec p.s
  x:Nm n ex p.x
  y:Nm n ex p.y
theorem Pz.mono{n n' a b a' b':Nat}{p:Pq}(h:Pz n a b p)(hn:n<=n')(h5:n'<=5)(ha:a<=a')(hb:b<=b'):Pz n' a' b' p :=
 ⟨⟨h5,h.c.nl.mono hn,h.c.cb.mono ha⟩,⟨h5,h.s.nl.mono hn,h.s.cb.mono ha⟩,⟨h5,h.x.nl.mono hn,h.x.cb.mono hb⟩,⟨h5,h.y.nl.mono hn,h.y.cb.mono hb⟩⟩
theorem C1{s t e f:Nat}{u p:Rat×Rat}{w o:P2 ts}(hu:Sm t u)(hp:Sm s p)(h0:cA u u≠0)(w1:Bz e w.1)(w2:Bz e w.2)(o1:Bz f o.1)(o2:Bz f o.2) :
  Pz ts.length (2*e+6*t+2) (f+4*e+12*t+2*s+6) (mo u w p o):=by
 have u1:=Cb.one hu.x;have u2:=Cb.one hu.y;have p1:=Cb.one hp.x;have p2:=Cb.one hp.y;have n:=Cb.one (hu.dot hu);have c:=(((w1.qm u1).add (w2.qm u2)).iq n h0).mono (f:=2*e+6*t+2) oz;have d:=(((w2.qm u1).sub (w1.qm u2)).iq n h0).mono (f:=2*e+6*t+2) oz;exact⟨c,d,(o1.sub ((c.mq p1).sub (d.mq p2))).mono oz,(o2.sub ((d.mq p1).add (c.mq p2))).mono oz⟩
theorem o6{a:List Rat}{e:Nat}(h:Nm ts.length e a):Bz e (dE ts a):=by
 have:=h.cb.sh h.nl;exact⟨h.five,eD _ _,this⟩
theorem Ob{s f:Nat}{p:Rat×Rat}{c d:Rat}{o:P2 ts}{g:Nat}(hc:Cb g [c])(hd:Cb g [d])(hp:Sm s p)(h5:ts.length<=5)(o1:Bz f o.1)(o2:Bz f o.2) :
  Pz ts.length (g+1) (f+2*g+2*s+4) (mo (((1:Int):Rat),0) ((qE c,qE d):P2 ts) p o):=by
 have e0:∀x:Et ts,(qE ((1:Int):Rat):Et ts)*x=x:=fun x=>by
  have:(qE ((1:Int):Rat):Et ts)=1:=rfl;rw[this];grind
 have e1:∀x:Et ts,(qE (0:Rat):Et ts)*x=0:=fun x=>by
  have:(qE (0:Rat):Et ts)=0:=rfl;rw[this];grind
 have e2:(iE (xy (((1:Int):Rat),0)):Et ts)=1:=by
  show iE (qE (cA (((1:Int):Rat),0) (((1:Int):Rat),0)))=_;rw[show cA (((1:Int):Rat),(0:Rat)) (((1:Int):Rat),(0:Rat))=1 by decide +kernel];exact Oy
 have ec:fD (((1:Int):Rat),0) ((qE c,qE d):P2 ts)=qE c:=by
  unfold fD;rw[e0,e1,e2];grind
 have ed:fF (((1:Int):Rat),0) ((qE c,qE d):P2 ts)=qE d:=by
  unfold fF;rw[e0,e1,e2];grind
 have p1:=Cb.one hp.x;have p2:=Cb.one hp.y;have c1:Bz g (qE c:Et ts):=Bz.q h5 hc;have d1:Bz g (qE d:Et ts):=Bz.q h5 hd;refine⟨?_,?_,?_,?_⟩
 ·show Bz _ (fD _ _);rw[ec];exact c1.mono oz
 ·show Bz _ (fF _ _);rw[ed];exact d1.mono oz
 ·show Bz _ (tg _ _ p o);unfold tg;rw[ec,ed];exact(o1.sub ((c1.mq p1).sub (d1.mq p2))).mono oz
 ·show Bz _ (uM _ _ p o);unfold uM;rw[ec,ed];exact(o2.sub ((d1.mq p1).add (c1.mq p2))).mono oz
structure Xz(ts:LL)(r X:Nat)(us:LL):Prop where
  tw:Tw us (r+X)
  up:ts.length<=us.length
  ln:us.length<=ts.length+1
theorem xL{r X:Nat}(tw:Tw ts r)(hx:r+X<=5000000000):Xz ts r X ts:=⟨⟨tw.three,tw.len,tw.pos,tw.rb.mono oz,hx⟩,le_refl _,by omega⟩
theorem sU{r X:Nat}(tw:Tw ts r)(hn:ts.length<=1)(hx:r+X<=5000000000){x:Et ts}(h:Bz X x)(hs:0<=aw x):Xz ts r X (aK ts (sX x)) :=
 ⟨yK tw oz h hx (by rw[show ad ts.length (sX x)=x from br _ _];exact hs),by rw[eS];omega,by rw[eS];omega⟩
theorem Bz.up{e:Nat}{X x:Et ts}(h:Bz e x)(hn:ts.length<=1):Bz e (bE X x):=by
 have h1:Nm (aK ts (sX X)).length e (sX x):=kI h oz;exact o6 h1
structure Szs(n r a b X K K' I J:Nat):Prop where
  n1:n<=1
  hK:eB r n<=K
  hX:24*a+8*K+5*b+23<=X
  hL:r+X<=5000000000
  hK':eB (r+X) (n+1)<=K'
  hI:iB r n (8*a+2*K+8)<=I
  hJ:iB (r+X) n (8*a+2*K+8)<=J
  hJ':J<=50000000000
  kk:K<=K'
  ij:I<=J
theorem Szs.kx{n r a b X K K' I J:Nat}(h:Szs n r a b X K K' I J){us:LL}(hu:us.length<=n+1):eB (r+X) us.length<=K':=le_trans (fX _ hu) h.hK'
section
variable{r a b X K K' I J:Nat}(Z:Szs ts.length r a b X K K' I J)(tw:Tw ts r)
include Z tw
theorem yy{p q:P2 ts}(p1:Bz a p.1)(p2:Bz a p.2)(q1:Bz a q.1)(q2:Bz a q.2):Bz (8*a+2*K+5) (oT (bW q p) (bW q p)):=by
 have v1:=q1.sub p1;have v2:=q2.sub p2;exact((v1.mul tw Z.hK v1).add (v2.mul tw Z.hK v2)).mono oz
theorem xo{y:Et ts}(hy:Bz (8*a+2*K+8) y)(h0:aw y≠0):Bz I (iE y) :=
 hy.iv tw (eD _ _) (le_refl _) h0 Z.hI (by have:=Z.ij;have:=Z.hJ';omega)
theorem u9{x y:Et ts}(hx:Bz X x)(hs:0<=aw x)(hy:Bz (8*a+2*K+8) y)(h0:aw y≠0):Bz J (iE (bE x y)):=by
 have E:=sU tw Z.n1 Z.hL hx hs
 have e1:sX (bE x y)=sX y:=by
  have:=(uC (X:=x) Z.n1 _ y hy).2;exact this
 refine(hy.up Z.n1).iv E.tw (j:=ts.length) (by rw[e1];exact eD _ _) E.up (by rw[sW];exact h0) Z.hJ Z.hJ'
theorem xc{x:Et ts}:Bz 1 (dE (aK ts (sX x)) (cr ts.length)):=by have _:=tw;exact o6 (pz (by have:=Z.n1;omega))
theorem MY{p q:P2 ts}{z z2:Et ts}(p1:Bz a p.1)(p2:Bz a p.2)(q1:Bz a q.1)(q2:Bz a q.2)(hz:Bz b z)(hz2:Bz b z2)(h0:fT p q z z2=0) :
  Xz ts r X (e8 p q z z2).ts/\∀m∈(e8 p q z z2).ps,Nm (e8 p q z z2).ts.length (13*a+2*b+5*K+2*K'+I+J+20) m.1/\Nm (e8 p q z z2).ts.length (13*a+2*b+5*K+2*K'+I+J+20) m.2:=by
 have hn:=Z.n1;have hkk:=Z.kk;have hd:Bz (8*a+2*K+5) (a8 p q):=yy Z tw (p:=q) (q:=p) q1 q2 p1 p2;have hm:=(hz.add hd).sub hz2;have q4:Cb 3 [((4:Int):Rat)]:=Cb.int (z:=4) (by decide);have q2':Cb 2 [((2:Int):Rat)]:=Cb.int (z:=2) (by decide);have qm1:Cb 1 [((-1:Int):Rat)]:=Cb.int (z:=-1) (by decide)
 have hX:Bz X (bV p z q z2):=by
  have h:=((hz.mul tw Z.hK hd).qm q4).sub (hm.mul tw Z.hK hm);have h2:=h.mono (f:=X) (by have:=Z.hX;omega);exact h2
 have same:=xL (X:=X) tw Z.hL;have v1:=q1.sub p1;have v2:=q2.sub p2;unfold fT lF at h0;unfold e8 lO
 by_cases hs:aw (a8 p q)=0
 ·rw[if_pos hs]at h0 ⊢
  by_cases hz0:aw (z-z2)≠0
  ·rw[if_pos hz0];exact⟨same,fun m hm=>by cases hm⟩
  ·rw[if_neg hz0]
   by_cases hp:0<aw z
   ·rw[if_pos ⟨Decidable.not_not.1 hz0,hp⟩]at h0;cases h0
   ·rw[if_neg hp]
    have n0:Bz 0 (0:Et ts):=by
     have:=Bz.q (ts:=ts) (e:=0) (q:=0) oz (Cb.int (z:=0) (by decide));exact this
    refine⟨same,f0 ⟨?_,?_⟩⟩
    ·exact(p1.add (n0.mul tw Z.hK p1)).mono (f:=13*a+2*b+5*K+2*K'+I+J+20) oz
    ·exact(p2.add (n0.mul tw Z.hK p2)).mono (f:=13*a+2*b+5*K+2*K'+I+J+20) oz
 ·rw [if_neg hs];have ht0:aw (d5 (a8 p q)) ≠ 0:=by rw [u6 tw]; exact hs
  have ht:Bz (8*a+2*K+8) (d5 (a8 p q)):=Bz.mono (e:=2+(8*a+2*K+5)) (hd.qm q2') oz
  by_cases hx0:aw (bV p z q z2)<0
  ·rw[if_pos hx0];exact⟨same,fun m hm=>by cases hm⟩
  ·rw[if_neg hx0];have hk:=hm.mul tw Z.hK (xo Z tw ht ht0);have f1:Bz (11*a+2*b+4*K+I+10) (iX p q z z2).1:=(p1.add (hk.mul tw Z.hK v1)).mono oz;have f2:Bz (11*a+2*b+4*K+I+10) (iX p q z z2).2:=(p2.add (hk.mul tw Z.hK v2)).mono oz
   by_cases hx1:aw (bV p z q z2)=0
   ·rw[if_pos hx1];exact⟨same,f0 ⟨f1.mono oz,f2.mono oz⟩⟩
   ·rw [if_neg hx1];have hpos:0 <= aw (bV p z q z2):=by omega
    have E:=sU tw hn Z.hL hX hpos;have hkx:=Z.kx E.ln;have s1:=(xc Z tw (x:=bV p z q z2)).mul E.tw hkx (u9 Z tw hX hpos ht ht0);have s2:=s1.qm qm1;have w1:=(v2.up (X:=bV p z q z2) hn).qm qm1;have w2:=v1.up (X:=bV p z q z2) hn;have g1:=f1.up (X:=bV p z q z2) hn;have g2:=f2.up (X:=bV p z q z2) hn;exact⟨E,j5 ⟨(g1.add (s1.mul E.tw hkx w1)).mono oz,(g2.add (s1.mul E.tw hkx w2)).mono oz⟩ ⟨(g1.add (s2.mul E.tw hkx w1)).mono oz,(g2.add (s2.mul E.tw hkx w2)).mono oz⟩⟩
theorem Pb{p q o:P2 ts}{z:Et ts}(p1:Bz a p.1)(p2:Bz a p.2)(q1:Bz a q.1)(q2:Bz a q.2)(o1:Bz a o.1)(o2:Bz a o.2)(hz:Bz b z)(h0:fO p q=0) :
  Xz ts r X (fa p q o z).ts/\∀m∈(fa p q o z).ps,Nm (fa p q o z).ts.length (13*a+2*b+5*K+2*K'+I+J+20) m.1/\Nm (fa p q o z).ts.length (13*a+2*b+5*K+2*K'+I+J+20) m.2:=by
 have hn:=Z.n1;have hkk:=Z.kk;have hS:=(yy Z tw p1 p2 q1 q2)
 have v1:=q1.sub p1;have v2:=q2.sub p2;have w1:=o1.sub p1;have w2:=o2.sub p2;have hE:Bz (8*a+2*K+5) (dl p q o):=((v1.mul tw Z.hK w1).add (v2.mul tw Z.hK w2)).mono oz;have hC:Bz (8*a+2*K+5) (kp p q o):=((v1.mul tw Z.hK w2).sub (v2.mul tw Z.hK w1)).mono oz;have hX:Bz X (a7 p q o z):=((hS.mul tw Z.hK hz).sub (hC.mul tw Z.hK hC)).mono (by have:=Z.hX;omega);have same:=xL (X:=X) tw Z.hL;unfold fO at h0;unfold fa
 by_cases hs:aw (cB p q)=0
 ·rw[if_pos hs]at h0;cases h0
 ·rw[if_neg hs]
  by_cases h1:aw (a7 p q o z)=-1
  ·rw[if_pos h1];exact⟨same,fun m hm=>by cases hm⟩
  ·rw[if_neg h1]
   by_cases h2:aw (a7 p q o z)=0
   ·rw[if_pos h2];have hk:=hE.mul tw Z.hK (xo Z tw (hS.mono oz) hs);exact⟨same,f0 ⟨(p1.add (hk.mul tw Z.hK v1)).mono (f:=13*a+2*b+5*K+2*K'+I+J+20) oz,(p2.add (hk.mul tw Z.hK v2)).mono (f:=13*a+2*b+5*K+2*K'+I+J+20) oz⟩⟩
   ·rw[if_neg h2]
    have hpos:0<=aw (a7 p q o z):=by
     have:=T.sgn_cases (aj ts) ts.length (a7 p q o z);have e:aw (a7 p q o z)=T.sgn (aj ts) ts.length (a7 p q o z):=rfl;omega
    have E:=sU tw hn Z.hL hX hpos;have hkx:=Z.kx E.ln;have hi:=u9 Z tw hX hpos (hS.mono oz) hs;have rt:=xc Z tw (x:=a7 p q o z);have k1:=((hE.up (X:=a7 p q o z) hn).add rt).mul E.tw hkx hi;have k2:=((hE.up (X:=a7 p q o z) hn).sub rt).mul E.tw hkx hi;have g1:=p1.up (X:=a7 p q o z) hn;have g2:=p2.up (X:=a7 p q o z) hn;have u1:=v1.up (X:=a7 p q o z) hn;have u2:=v2.up (X:=a7 p q o z) hn;exact⟨E,j5 ⟨(g1.add (k1.mul E.tw hkx u1)).mono oz,(g2.add (k1.mul E.tw hkx u2)).mono oz⟩ ⟨(g1.add (k2.mul E.tw hkx u1)).mono oz,(g2.add (k2.mul E.tw hkx u2)).mono oz⟩⟩
end
end
def Cs(s:Nat)(l:Li):Prop:=∀b∈l.bo,∀m∈b.pts,Qb s m.x.q/\Qb s m.y.q
section
variable{s:Nat}{l:Li}(hl:l.ok)(hli:aD l=0)(hcs:Cs s l)
include hl hli hcs
theorem p9{body pt:Int}(h1:bh body l.bo.length=true)(h2:bh pt (cw l body).length=true):Sm s (bm l body pt):=by
 obtain⟨n,k,bd,m,h⟩:=tu hl hli h1 h2;obtain⟨c1,c2⟩:=hcs bd (mem_of_getElem? h.gbd) m (mem_of_getElem? h.gm);rw[h.ex,bu]at c1;rw[h.ey,bu]at c2;exact⟨c1,c2⟩
theorem mf{i:Nat}{j:Jt}(hj:l.jo[i]?=some j){b:Int}(h:j.a=b\/j.b=b):Sm s (am l j b):=by
 obtain⟨i1,i2,i3,i4,_⟩:=ee hli hj;unfold am
 by_cases e:j.a=b
 ·rw[if_pos e];subst e;exact p9 hl hli hcs i1 i3
 ·rw[if_neg e];rcases h with h |h
  ·exact absurd h e
  ·subst h;exact p9 hl hli hcs i2 i4
theorem qf{E r K:Nat}{a:As}(al:AB a)(hc:aX a.rs=0)(tw:Tw (llq a.rs) r)(hK:eB r (llq a.rs).length<=K){body pt:Int}(h1:bh body l.bo.length=true)(h2:bh pt (cw l body).length=true)(hb:Pd E a body) :
  Bz (3*E+2*s+2*K+10) (bA l a body pt).1/\Bz (3*E+2*s+2*K+10) (bA l a body pt).2:=by
 obtain⟨n,k,bd,m,b,hp⟩:=uT hl hli al hc h1 h2 hb;obtain⟨c1,c2⟩:=hcs bd (mem_of_getElem? hp.mp.gbd) m (mem_of_getElem? hp.mp.gm);have h:=y9 tw hp.ok c1 c2;have hk:kB r (llq a.rs).length<=K:=hK;unfold bA Bz;rw[hp.eq];exact⟨h.1.mono oz,h.2.mono oz⟩
theorem re{E r K:Nat}{a:As}(al:AB a)(hc:aX a.rs=0)(tw:Tw (llq a.rs) r)(hK:eB r (llq a.rs).length<=K){i:Nat}{j:Jt}(hj:l.jo[i]?=some j){b:Int}(h:PinP E l a j b) :
  Bz (3*E+2*s+2*K+10) (aW l a j b).1/\Bz (3*E+2*s+2*K+10) (aW l a j b).2:=by
 obtain⟨i1,i2,i3,i4,_⟩:=ee hli hj;unfold aW;rcases h.tie with⟨e,hb⟩ |⟨e,e2,hb⟩
 ·rw[if_pos e];exact qf hl hli hcs al hc tw hK i2 i4 hb
 ·rw[if_neg e];exact qf hl hli hcs al hc tw hK i1 i3 hb
end
theorem Bz.upX{ts us:LL}{e:Nat}{x:Et ts}(h:Bz e x)(h1:ts.length<=us.length)(h5:us.length<=5):Bz e (dE us (sX x)):=o6 ⟨h5,Nl.mono h.nl h1,h.cb⟩
theorem xU{s:Nat}{p q:Rat×Rat}(hp:Sm s p)(hq:Sm s q):Cb (8*s+5) [bR p q]:=by
 have h:=(hp.sub hq).dot (hp.sub hq);exact Cb.one (h.mono oz)
abbrev wZ(a b K K' I J:Nat):Nat:=14*a+3*b+5*K+3*K'+I+J+25
abbrev oZ(s a b K K' I J:Nat):Nat:=a+4*wZ a b K K' I J+26*s+18
theorem yP{n a b ec ex e:Nat}{p:Pq}(h:Pz n ec ex p)(h1:ec<=e)(h2:ex<=e):Pq.ok n e p:=⟨h.c.mono h1,h.s.mono h1,h.x.mono h2,h.y.mono h2⟩
section
variable{ts:LL}{r a b X K K' I J:Nat}(Z:Szs ts.length r a b X K K' I J)(tw:Tw ts r)
include Z tw
theorem GA{s:Nat}{m:Mt}(hx:Xz ts r X m.ts)(hm:∀x∈m.ps,Nm m.ts.length (13*a+2*b+5*K+2*K'+I+J+20) x.1/\Nm m.ts.length (13*a+2*b+5*K+2*K'+I+J+20) x.2){hs:List Hd}
  (hh:∀h∈hs,Sm s h.p/\Sm s h.c/\cA (b8 h.c h.p) (b8 h.c h.p)≠0/\∃o:P2 ts,h.a=P2.l o/\Bz a o.1/\Bz a o.2) :
  ∀sv∈kK m hs,Xz ts r X sv.ts/\∀p∈sv.ps,Pq.ok sv.ts.length (oZ s a b K K' I J) p:=by
 have _:=Z;have _:=tw;intro sv h1;unfold kK at h1;obtain⟨i,hi,rfl⟩:=List.mem_map.1 h1;obtain⟨x,hxx⟩:=ay (List.mem_range.1 hi);obtain⟨n1,n2⟩:=hm x (mem_of_getElem? hxx);refine⟨hx,fun p hp=>?_⟩;unfold kv at hp;rw[aL hxx]at hp;obtain⟨h,h2,rfl⟩:=List.mem_map.1 hp;obtain⟨hp1,hc1,h0,o,ea,o1,o2⟩:=hh h h2;have h5:=hx.tw.five;have u1:=o1.upX hx.up h5;have u2:=o2.upX hx.up h5;have w1:=o6 n1;have w2:=o6 n2;have e1:h.a.1=sX o.1:=by rw[ea]
 have e2:h.a.2=sX o.2:=by rw[ea]
 have z:=C1 (ts:=m.ts) (u:=b8 h.c h.p) (p:=h.p) (w:=lr m.ts h x) (o:=oy m.ts h) (e:=13*a+2*b+5*K+2*K'+I+J+20+a+1) (f:=a) (hc1.sub hp1) hp1 h0
  (by unfold lr;rw[e1];exact w1.sub u1) (by unfold lr;rw[e2];exact w2.sub u2) (by unfold oy;rw[e1];exact u1) (by unfold oy;rw[e2];exact u2)
 exact yP (a:=a) (b:=b) z (by show _<=a+4*(14*a+3*b+5*K+3*K'+I+J+25)+26*s+18;omega) (by show _<=a+4*(14*a+3*b+5*K+3*K'+I+J+25)+26*s+18;omega)
theorem Lk{s:Nat}{us:LL}(hx:Xz ts r X us){R:Rp}{q:List Rat}(hv:Sm (2*s+1) R.v)(hp:Sm s R.p)(h0:cA R.v R.v≠0)(hq:Bz 1 (dE us q))(w1:Bz (2*a+1) (dE us R.w.1))(w2:Bz (2*a+1) (dE us R.w.2))(hh:Bz b (dE us R.h))
  (hd:Bz J (iE (dE us R.d))) (a1:Bz a (dE us R.a.1)) (a2:Bz a (dE us R.a.2)):Pq.ok us.length (oZ s a b K K' I J) (tz us R q):=by
 have _:=tw;have hkx:=Z.kx hx.ln;have x1:=(((hq.mul hx.tw hkx w1).sub (hh.mul hx.tw hkx w2.neg)).mul hx.tw hkx hd)
 have x2:=(((hq.mul hx.tw hkx w2).sub (hh.mul hx.tw hkx w1)).mul hx.tw hkx hd)
 have z:=C1 (ts:=us) (u:=R.v) (p:=R.p) (w:=n8 us q R.h R.d R.w) (o:=(dE us R.a.1,dE us R.a.2)) (e:=wZ a b K K' I J) (f:=a) hv hp h0
  (x1.mono (by show _<=14*a+3*b+5*K+3*K'+I+J+25;omega)) (x2.mono (by show _<=14*a+3*b+5*K+3*K'+I+J+25;omega)) a1 a2
 exact yP (a:=a) (b:=b) z (by show _<=a+4*(14*a+3*b+5*K+3*K'+I+J+25)+26*s+18;simp only[wZ];omega) (by show _<=a+4*(14*a+3*b+5*K+3*K'+I+J+25)+26*s+18;simp only[wZ];omega)
end
section
variable{s r b X K K' I J E:Nat}{l:Li}{a:As}(D:DyR l a)(hn:(llq a.rs).length<=1)(hcs:Cs s l)(tw:Tw (llq a.rs) r)
  (Z:Szs (llq a.rs).length r (3*E+2*s+2*K+10) b X K K' I J) (hb:8*s+5<=b)
include D hn hcs tw Z hb
theorem MM{g:Gr}{i k z0 z1 z2:Int}{j0 j1 j2:Jt}(P:RrrP E l a g i k z0 z1 z2 j0 j1 j2) :
  ∀sv∈mG l a i k j0 j1 j2,Xz (llq a.rs) r X sv.ts/\∀p∈sv.ps,Pq.ok sv.ts.length (oZ s (3*E+2*s+2*K+10) b K K' I J) p:=by
 have _:=hn;have hq0:=mf D.hl D.li hcs P.h0 P.p0.or;have hq1:=mf D.hl D.li hcs P.h1 P.p1.or;have hq2:=mf D.hl D.li hcs P.h2 P.t1;have hq3:=mf D.hl D.li hcs P.h2 P.t2;obtain⟨y1,y2⟩:=re D.hl D.li hcs D.al D.hc tw Z.hK P.h0 P.p0;obtain⟨y3,y4⟩:=re D.hl D.li hcs D.al D.hc tw Z.hK P.h1 P.p1;have z1:Bz b (qE (bR (am l j2 i) (am l j0 i)):Et (llq a.rs)):=Bz.q tw.five ((xU hq2 hq0).mono hb);have z2:Bz b (qE (bR (am l j2 k) (am l j1 k)):Et (llq a.rs)):=Bz.q tw.five ((xU hq3 hq1).mono hb);unfold mG
 by_cases h1:fx [b8 (am l j2 i) (am l j0 i),b8 (am l j2 k) (am l j1 k)]=true
 ·rw[if_pos h1];intro sv h;cases h
 ·rw[if_neg h1];obtain⟨w1,w2⟩:=x6 (Bool.eq_false_iff.2 h1)
  by_cases h2:fT (aW l a j0 i) (aW l a j1 k) (qE (bR (am l j2 i) (am l j0 i))) (qE (bR (am l j2 k) (am l j1 k)))≠0
  ·rw[if_pos h2];intro sv h;cases h
  ·rw[if_neg h2];obtain⟨hx,hm⟩:=MY Z tw y1 y2 y3 y4 z1 z2 (Decidable.not_not.1 h2);exact GA Z tw hx hm (j5 ⟨hq0,hq2,w1,_,rfl,y1,y2⟩ ⟨hq1,hq3,w2,_,rfl,y3,y4⟩)
theorem Kj{g:Gr}{i z0 z1:Int}{j0 j:Jt}(P:SlP E l a g 2 i z0 z1 j0 j)(ha:j.a=i)(hbd:Pd E a j.b) :
  ∀sv∈mh l a i j0 j,Xz (llq a.rs) r X sv.ts/\∀p∈sv.ps,Pq.ok sv.ts.length (oZ s (3*E+2*s+2*K+10) b K K' I J) p:=by
 have _:=hn;obtain⟨i1,i2,i3,i4,i5⟩:=ee D.li P.h1;have hq2:Sm s (bm l i j.point):=by rw[<- ha];exact p9 D.hl D.li hcs i1 i3
 have hq0:=mf D.hl D.li hcs P.h0 P.p0.or;obtain⟨y1,y2⟩:=re D.hl D.li hcs D.al D.hc tw Z.hK P.h0 P.p0;obtain⟨y3,y4⟩:=qf D.hl D.li hcs D.al D.hc tw Z.hK i2 i4 hbd;obtain⟨y5,y6⟩:=qf D.hl D.li hcs D.al D.hc tw Z.hK i2 (i5 P.hk) hbd;have z1:Bz b (qE (bR (bm l i j.point) (am l j0 i)):Et (llq a.rs)):=Bz.q tw.five ((xU hq2 hq0).mono hb);unfold mh
 by_cases h1:fx [b8 (bm l i j.point) (am l j0 i)]=true
 ·rw[if_pos h1];intro sv h;cases h
 ·rw[if_neg h1];have w1:=yh (Bool.eq_false_iff.2 h1)
  by_cases h2:fO (bA l a j.b j.on) (bA l a j.b j.to)≠0
  ·rw[if_pos h2];intro sv h;cases h
  ·rw[if_neg h2];obtain⟨hx,hm⟩:=Pb Z tw y3 y4 y5 y6 y1 y2 z1 (Decidable.not_not.1 h2);exact GA Z tw hx hm (f0 ⟨hq0,hq2,w1,_,rfl,y1,y2⟩)
theorem Ou{g:Gr}{i z0 z1:Int}{j0 j:Jt}(P:SlP E l a g 3 i z0 z1 j0 j)(hj:j.b=i)(hbd:Pd E a j.a) :
  ∀sv∈l6 l a i j0 j,Xz (llq a.rs) r X sv.ts/\∀p∈sv.ps,Pq.ok sv.ts.length (oZ s (3*E+2*s+2*K+10) b K K' I J) p:=by
 obtain⟨i1,i2,i3,i4,i5⟩:=ee D.li P.h1;have hs0:=mf D.hl D.li hcs P.h0 P.p0.or;have hs1:Sm s (bm l i j.on):=by rw[<- hj];exact p9 D.hl D.li hcs i2 i4
 have hs2:Sm s (bm l i j.to):=by rw[<- hj];exact p9 D.hl D.li hcs i2 (i5 P.hk)
 have hv:Sm (2*s+1) (il l i j):=(hs2.sub hs1).mono oz;have qn:Cb b [jv l i j]:=(Cb.one (hv.dot hv)).mono oz;have qh:Cb b [dq l i j0 j]:=(Cb.one (hv.cross (hs1.sub hs0))).mono oz;obtain⟨o1,o2⟩:=re D.hl D.li hcs D.al D.hc tw Z.hK P.h0 P.p0;obtain⟨p1,p2⟩:=qf D.hl D.li hcs D.al D.hc tw Z.hK i1 i3 hbd;have w1:Bz (2*(3*E+2*s+2*K+10)+1) (eK l a i j0 j).1:=Bz.mono (p1.sub o1) oz;have w2:Bz (2*(3*E+2*s+2*K+10)+1) (eK l a i j0 j).2:=Bz.mono (p2.sub o2) oz;have hd:Bz (8*(3*E+2*s+2*K+10)+2*K+8) (dB l a i j0 j):=Bz.mono (yy Z tw (p:=aW l a j0 i) (q:=bA l a j.a j.point) o1 o2 p1 p2) oz;have hX:Bz X (bp l a i j0 j):=Bz.mono ((hd.qm qn).sub ((Bz.q tw.five qh).qm qh)) (by have:=Z.hX;omega);have h0:=Ep D.li P.h1 P.hk hj;unfold l6
 by_cases h1:aw (dB l a i j0 j)=0/\aw (qE (dq l i j0 j):Et (llq a.rs))=0
 ·rw[if_pos h1];intro sv h;cases h
 ·rw[if_neg h1]
  by_cases h2:aw (bp l a i j0 j)<0
  ·rw[if_pos h2];intro sv h;cases h
  ·rw[if_neg h2];have hd0:aw (dB l a i j0 j)≠0:=vn tw h2 h1
   have key:∀us,Xz (llq a.rs) r X us->Bz J (iE (dE us (sX (dB l a i j0 j))))->∀q,Bz 1 (dE us q)->Pq.ok us.length (oZ s (3*E+2*s+2*K+10) b K K' I J) (tz us (eO l a i j0 j) q):=by
    intro us hx hi q hq;have h5:=hx.tw.five
    have hh:Bz b (dE us (sh 0 (dq l i j0 j:Rat))):=by
     have e:dE us (sh 0 (dq l i j0 j:Rat))=qE (dq l i j0 j):=ke _ _;rw[e];exact Bz.q h5 qh
    exact Lk Z tw hx (R:=eO l a i j0 j) hv hs0 h0 hq (w1.upX hx.up h5) (w2.upX hx.up h5) hh hi (o1.upX hx.up h5) (o2.upX hx.up h5)
   by_cases h3:0<aw (bp l a i j0 j)
   ·rw [if_pos h3];have hx:=sU tw hn Z.hL hX oz;have hi:=u9 Z tw hX (by omega:0 <= aw (bp l a i j0 j)) hd hd0;have rt:=xc Z tw (x:=bp l a i j0 j);have k:=key _ hx hi;intro sv h;unfold kE at h;obtain ⟨n,hn2,rfl⟩:=List.mem_map.1 h;refine ⟨hx,fun p hp=>?_⟩;unfold jR at hp;rw [List.mem_singleton.1 hp]
    match n,List.mem_range.1 hn2 with
    |0,_=>exact k _ rt
    |1,_ =>
     refine k _ ?_;show Bz 1 (dE _ (sX (-eI (bp l a i j0 j))));have e:dE (aK (llq a.rs) (sX (bp l a i j0 j))) (sX (-eI (bp l a i j0 j)))=-eI (bp l a i j0 j):=br _ _;rw[e];exact rt.neg
   ·rw[if_neg h3];have hx:=xL (X:=X) tw Z.hL;have e:dE (llq a.rs) (sX (dB l a i j0 j))=dB l a i j0 j:=br _ _
    have hi:Bz J (iE (dE (llq a.rs) (sX (dB l a i j0 j)))):=by
     rw[e];exact(xo Z tw hd hd0).mono Z.ij
    have k:=key _ hx hi;intro sv h;unfold kE at h;obtain⟨n,hn2,rfl⟩:=List.mem_map.1 h;refine⟨hx,fun p hp=>?_⟩;unfold jR at hp;rw[List.mem_singleton.1 hp]
    match n,List.mem_range.1 hn2 with
    |0,_=>exact k _ (o6 ⟨tw.five,.inl rfl,⟨1,0,⟨by decide,fun q h=>by cases h⟩,by decide,by decide⟩⟩)
end
theorem OQ{k:List Bool}{i:Nat}{b:Int}(h:kn (k.set i true) b=true):kn k b=true\/i=b.toNat:=by
 unfold kn at h ⊢
 by_cases e:i=b.toNat
 ·exact .inr e
 ·rw[getD_eq_getElem?_getD,List.getElem?_set_ne e,<- getD_eq_getElem?_getD]at h;exact .inl h
theorem AO:∀(bs:List Int){k:List Bool}{b:Int},kn (bj k bs) b=true->kn k b=true\/∃x∈bs,x.toNat=b.toNat
 |[],k,b,h=>.inl h
 |x::bs,k,b,h=>by
  have h:kn (bj (k.set x.toNat true) bs) b=true:=h;rcases AO bs h with h |⟨y,hy,e⟩
  ·rcases OQ h with h |h
   ·exact .inl h
   ·exact .inr ⟨x,mem_cons_self,h⟩
  ·exact .inr ⟨y,mem_cons_of_mem _ hy,e⟩
def rG(l:Li)(kw:List Bool)(out:List Gr):Prop:=∀d∈l.dv,kn kw d.body=true->∃g∈out,g.kind=0/\g.bo=[d.body]
theorem Ro{l:Li}{d:Dr}(hd:d∈l.dv){b:Int}(h:d.body=b):kU l b=true:=by
 unfold kU;rw[List.any_eq_true];exact⟨d,hd,by simp[h]⟩
theorem Ka{l:Li}{kw:List Bool}{g:Gr}(h:cF l kw=some g):∀x∈g.bo,dL l kw x=true:=by
 unfold cF at h;rw[map_eq_some_iff]at h;obtain⟨i,hi,h⟩:=h;obtain⟨h1,h2⟩:=eZ hi;split at h
 ·rename_i k hk;subst h;unfold fQ at hk;rw [map_eq_some_iff] at hk;obtain ⟨k',hk',rfl⟩:=hk;obtain ⟨h3,h4⟩:=eZ hk';rw [show i + 1 + k' = k' + (i + 1) by omega] at h4;unfold dj at h4;simp only [Bool.not_eq_false',and_eq_true,decide_eq_true_eq] at h4;obtain ⟨⟨f1,f2⟩,_⟩:=h4;intro x hx;simp only [jO,mem_cons,not_mem_nil,or_false] at hx;rcases hx with rfl | rfl
  ·exact f1
  ·exact f2
 ·rename_i hk;rw[hk]at h2;cases h2
theorem MF{l:Li}{kw:List Bool}{g:Gr}(h:dW l kw=some g):∀x∈g.bo,dL l kw x=true:=by
 unfold dW at h;rw[map_eq_some_iff]at h;obtain⟨i,hi,rfl⟩:=h;obtain⟨h1,h2⟩:=eZ hi;unfold eL at h2;simp only[Bool.not_eq_false',and_eq_true,decide_eq_true_eq]at h2;intro x hx;simp only[ii,mem_cons,not_mem_nil,or_false]at hx;subst hx;exact h2.1
theorem LE{l:Li}(hl:aD l=0){kw:List Bool}{out:List Gr}{g:Gr}(h:rG l kw out)(hg:bS l kw=some g):rG l (bj kw g.bo) (out++[g]):=by
 intro d hd hk;have ho:=sG hl hg;rcases AO g.bo hk with h1 |⟨x,hx,e⟩
 ·obtain⟨g',h2,h3⟩:=h d hd h1;exact⟨g',List.mem_append_left _ h2,h3⟩
 ·obtain ⟨i, hi⟩:=List.getElem?_of_mem hd;have hb:=dT (ku hl hi);have hx0:=(ho.b x hx).1;have ex:d.body = x:=by omega
  unfold bS at hg;cases h1:dk l kw with
  |some g' =>
   rw[h1]at hg;cases hg
   refine⟨g,List.mem_append_right _ (List.mem_singleton.2 rfl),?_⟩;unfold dk at h1;rw[map_eq_some_iff]at h1;obtain⟨i,_,rfl⟩:=h1;refine⟨rfl,?_⟩;rw[List.mem_singleton.1 hx]at ex;rw[ex]
  |none =>
   rw[h1]at hg
   have hf:dL l kw x=true:=by
    cases h2:cF l kw with
    |some g'=>rw[h2]at hg;cases hg;exact Ka h2 x hx
    |none=>rw[h2]at hg;exact MF hg x hx
   unfold dL at hf;rw[Ro hd ex]at hf;simp at hf
theorem zV{l:Li}(hl:aD l=0):∀(n:Nat)(kw:List Bool)(out:List Gr),rG l kw out->rG l (cg l n kw out).1 (cg l n kw out).2
 |0,kw,out,h=>h
 |n+1,kw,out,h=>by
  unfold cg;cases hg:bS l kw with
  |none=>exact h
  |some g=>exact zV hl n _ _ (LE hl h hg)
theorem BS{l:Li}(hl:aD l=0){i:Nat}{d:Dr}(hd:l.dv[i]?=some d):d.body≠0/\∀j d',j<i->l.dv[j]?=some d'->d'.body≠d.body:=by
 have h1:=(c9 hl).2.2.1;unfold ft at h1;split at h1
 ·cases h1
 ·have h2:=qJ h1 i (List.getElem?_eq_some_iff.1 hd).1;unfold dw at h2;rw[aL hd]at h2;split at h2
  ·cases h2
  ·split at h2
   ·cases h2
   ·split at h2
    ·cases h2
    ·split at h2
     ·cases h2
     ·rename_i h4;split at h2
      ·cases h2
      ·rename_i h5;refine⟨h4,fun j d' hj hd' e=>h5 ?_⟩;rw[List.any_eq_true];exact⟨d',mem_of_getElem? (by rw[getElem?_take,if_pos hj];exact hd'),by simpa using e⟩
theorem zK{α:Type}{p:α->Bool}:∀{l:List α}{x y:α},x∈l->y∈l->x≠y->p x=true->p y=true->2<=l.countP p
 |z::l,x,y,hx,hy,hn,px,py=>by
  have pos:∀w,w∈l->p w=true->0<l.countP p:=fun w hw pw=>List.countP_pos_iff.2 ⟨w,hw,pw⟩
  rcases List.mem_cons.1 hx with e |hx
  ·rcases List.mem_cons.1 hy with e2 |hy
   ·exact absurd (e.trans e2.symm) hn
   ·have h9:=pos y hy py;rw[List.countP_cons_of_pos (e▸px)];omega
  ·rcases List.mem_cons.1 hy with e |hy
   ·have h9:=pos x hx px;rw[List.countP_cons_of_pos (e▸py)];omega
   ·have:=zK hx hy hn px py;rw[List.countP_cons];omega
theorem uZ{l:Li}(hl:aD l=0):l.dv.length<=2:=by
 have h1:=(c9 hl).2.2.1;unfold ft at h1;split at h1
 ·cases h1
 ·omega
theorem Oc{l:Li}(hl:aD l=0)(hs:co l=0):∀d∈l.dv,∃g∈ax l,g.kind=0/\g.bo=[d.body]:=by
 have h0:rG l (cC l.bo.length 0) []:=by
  intro d hd hk;obtain⟨i,hi⟩:=List.getElem?_of_mem hd;have hb:=dT (ku hl hi);rw[uI oz oz oz]at hk;exact absurd (of_decide_eq_true hk) (BS hl hi).1
 have h1:=zV hl l.bo.length _ _ h0;rw[BN]at h1;intro d hd;obtain⟨i,hi⟩:=List.getElem?_of_mem hd;have hb:=dT (ku hl hi)
 have hz:(eM (bN l)).length=0:=by
  unfold co at hs;split at hs
  ·omega
  ·cases hs
 rw[zf]at hz
 have hlen:(bN l).length=l.bo.length:=by
  have:∀(gs:List Gr)(k:List Bool),(gs.foldl (fun k g=>bj k g.bo) k).length=k.length:=by
   intro gs
   induction gs with
   |nil=>intro k;rfl
   |cons g gs ih=>intro k;rw[List.foldl_cons,ih,jh]
  unfold bN;rw[this,gx]
 have hk:kn (bN l) d.body=true:=by
  unfold kn;rw[getD_eq_getElem?_getD,getElem?_eq_getElem (by omega:d.body.toNat<(bN l).length)];show(bN l)[d.body.toNat]=true;cases hv:(bN l)[d.body.toNat]'oz with
  |true=>rfl
  |false =>
   exfalso;have hm:false∈bN l:=hv▸getElem_mem _;rw[<- List.contains_iff_mem]at hm;rw[hm]at hz;cases hz
 obtain⟨g,hg,h2⟩:=h1 d hd hk;refine⟨g,?_,h2⟩;unfold ax;rw[if_pos hs];exact hg
theorem EV{l:Li}(hl:aD l=0)(hs:co l=0):l.dv.length<=(ax l).countP (fun g=>decide (g.kind=0)):=by
 have h2:=uZ hl;have hg:=Oc hl hs
 match hd:l.dv with
 |[]=>simp
 |[d] =>
  obtain⟨g,h3,h4,_⟩:=hg d (by rw[hd];simp);exact List.countP_pos_iff.2 ⟨g,h3,by simpa using h4⟩
 |[d,d'] =>
  obtain⟨g,h3,h4,h5⟩:=hg d (by rw[hd];simp);obtain⟨g',h3',h4',h5'⟩:=hg d' (by rw[hd];simp);refine zK h3 h3' ?_ (by simpa using h4) (by simpa using h4');intro e;rw[e,h5']at h5;exact(BS hl (i:=1) (d:=d') (by rw[hd];rfl)).2 0 d oz (by rw[hd];rfl) (by simpa using h5.symm)
 |_::_::_::_=>rw[hd]at h2;simp only[length_cons]at h2;omega
structure Aq where
  ts:LL
  bs:List Pq
  ms:List Int
instance:Inhabited Pq:=⟨⟨[],[],[],[]⟩⟩
instance:Inhabited Aq:=⟨⟨[],[],[]⟩⟩
def Pq.pl(p:Pq):Pl:=⟨p.c.map rt,p.s.map rt,p.x.map rt,p.y.map rt⟩
def Aq.as(a:Aq):As:=⟨a.ts.map (List.map rt),a.bs.map Pq.pl,a.ms⟩
theorem Pq.pl_av(p:Pq):p.pl.av=p.av:=by unfold Pl.av Pq.av Pq.pl;rw[ef,ef,ef,ef]
abbrev Aq.cs(a:Aq):List AV:=[.lst 1 (a.ts.map nA),.lst 4 (a.bs.map Pq.av),.lst 1 (a.ms.map i64)]
abbrev Aq.av(a:Aq):AV:=.agg a.cs
theorem Aq.as_av(a:Aq):a.as.av=a.av:=by
 unfold As.av Aq.as Aq.av Aq.cs;rw[map_map,map_map];congr 3
 ·exact List.map_congr_left (fun x _=>ef x)
 ·congr 1;exact List.map_congr_left (fun x _=>Pq.pl_av x)
theorem Aq.llq(a:Aq):Lw.llq a.as.rs=a.ts:=oO _
def kD(bs:List Pq)(is:List Int)(ps:List Pq):List Pq:=(is.zip ps).foldl (fun k x=>k.set x.1.toNat x.2) bs
def Aq.nxt(a:Aq)(g:Gr)(s:Sv):Aq:=⟨s.ts,kD a.bs g.bo s.ps,a.ms++[s.mode]⟩
def oW:Pq:=⟨[],[],[],[]⟩
def vM:Pq:=⟨[1],[],[],[]⟩
def dA(l:Li):Aq:=⟨[],(List.replicate l.bo.length oW).set 0 vM,[]⟩
def gU:Tn:=⟨⟨false,[],[]⟩,false⟩
def bD(g:Gr)(xs:List Tn):Tn:=if g.kind=0 then xs.getD g.driver.toNat gU else gU
theorem z6:∀(zs:List (Int×Pq))(bs:List Pq),(zs.foldl (fun k x=>k.set x.1.toNat x.2) bs).length=bs.length
 |[],bs=>rfl
 |z::zs,bs=>by rw[List.foldl_cons,z6 zs,length_set]
theorem Gb:∀(zs:List (Int×Pq))(bs:List Pq)(p:Pq),p∈zs.foldl (fun k x=>k.set x.1.toNat x.2) bs->p∈bs\/∃z∈zs,z.2=p
 |[],bs,p,h=>.inl h
 |z::zs,bs,p,h=>by
  rw[List.foldl_cons]at h;rcases Gb zs _ p h with h |⟨z',hz,e⟩
  ·rcases List.mem_or_eq_of_mem_set h with h |h
   ·exact .inl h
   ·exact .inr ⟨z,mem_cons_self,h.symm⟩
  ·exact .inr ⟨z',mem_cons_of_mem _ hz,e⟩
theorem tD(bs:List Pq)(is:List Int)(ps:List Pq):(kD bs is ps).length=bs.length:=z6 _ _
theorem Dl{bs:List Pq}{is:List Int}{ps:List Pq}{p:Pq}(h:p∈kD bs is ps):p∈bs\/p∈ps:=by
 rcases Gb _ _ _ h with h |⟨z,hz,e⟩
 ·exact .inl h
 ·exact .inr (e▸(List.of_mem_zip hz).2)
theorem PU{bs:List Pq}{is:List Int}{ps:List Pq}{i:Nat}{b:Int}{p:Pq}(hb:is[i]?=some b)(hp:ps[i]?=some p) :
  kD bs (is.take (i+1)) (ps.take (i+1))=(kD bs (is.take i) (ps.take i)).set b.toNat p:=by
 have h1:is.take (i+1)=is.take i++[b]:=by rw[List.take_add_one,hb];rfl
 have h2:ps.take (i+1)=ps.take i++[p]:=by rw[List.take_add_one,hp];rfl
 have hl1:=(List.getElem?_eq_some_iff.1 hb).1;have hl2:=(List.getElem?_eq_some_iff.1 hp).1;unfold kD;rw[h1,h2,List.zip_append (by rw[length_take,length_take];omega),List.foldl_append];rfl
def jY(s j r E:Nat):Nat:=3*E+2*s+2*eB r j+10
def jl(s j r E:Nat):Nat:=24*jY s j r E+8*eB r j+5*(8*s+5)+23
def Ed(s j r E:Nat):Nat:=iB r j (8*jY s j r E+2*eB r j+8)
def sO(s j r E:Nat):Nat:=iB (r+jl s j r E) j (8*jY s j r E+2*eB r j+8)
def qu(s j r E:Nat):Nat:=oZ s (jY s j r E) (8*s+5) (eB r j) (eB (r+jl s j r E) (j+1)) (Ed s j r E) (sO s j r E)
def lU(s g j r E:Nat):Nat:=jY s j r E+2*g+2*s+4
def d7(s g:Nat):Nat->Nat->Nat->Nat->Nat->Bool
  |0,_,j,r,E=>decide (E<=50000000000/\r<=400000000/\j<=2)
  |n+1,y,j,r,E=>decide (E<=20000000000/\r<=400000000/\j<=2)&&(d7 s g n y j r (lU s g j r E) &&
      (decide (y=0)||(decide (j<=1/\E<=3900000/\r<=64990/\r+jl s j r E<=5000000000/\sO s j r E<=50000000000)&&d7 s g n (y-1) (j+1) (r+jl s j r E) (qu s j r E))))
theorem Dz:d7 32 134 3 1 0 0 2=true:=by decide +kernel
theorem MT:d7 9 42 4 2 0 0 2=true:=by decide +kernel
theorem yW{s g n y j r E:Nat}(h:d7 s g n y j r E=true):E<=50000000000/\r<=400000000/\j<=2:=by
 cases n with
 |zero=>exact of_decide_eq_true h
 |succ n =>
  unfold d7 at h;simp only[and_eq_true,decide_eq_true_eq]at h;exact⟨by omega,h.1.2.1,h.1.2.2⟩
theorem qd{s g n y j r E:Nat}(h:d7 s g (n+1) y j r E=true):(E<=20000000000/\r<=400000000/\j<=2)/\d7 s g n y j r (lU s g j r E)=true:=by
 unfold d7 at h;simp only[and_eq_true,decide_eq_true_eq]at h;exact⟨h.1,h.2.1⟩
theorem qg{s g n y j r E:Nat}(h:d7 s g (n+1) (y+1) j r E=true):(j<=1/\E<=3900000/\r<=64990/\r+jl s j r E<=5000000000/\sO s j r E<=50000000000)/\d7 s g n y (j+1) (r+jl s j r E) (qu s j r E)=true:=by
 unfold d7 at h;simp only[and_eq_true,or_eq_true,decide_eq_true_eq,Nat.add_sub_cancel]at h;rcases h.2.2 with h1 |h1
 ·omega
 ·exact h1
structure QInv(l:Li)(j r E:Nat)(a:Aq):Prop where
  tw:Tw a.ts r
  lv:a.ts.length<=j
  bs:∀p∈a.bs,Pq.ok a.ts.length E p
  ln:a.bs.length=l.bo.length
theorem Pq.ok.up{n n' e e':Nat}{p:Pq}(h:Pq.ok n e p)(hn:n<=n')(h5:n'<=5)(he:e<=e'):Pq.ok n' e' p :=
 ⟨⟨h5,h.c.nl.mono hn,h.c.cb.mono he⟩,⟨h5,h.s.nl.mono hn,h.s.cb.mono he⟩,⟨h5,h.x.nl.mono hn,h.x.cb.mono he⟩,⟨h5,h.y.nl.mono hn,h.y.cb.mono he⟩⟩
theorem Pq.ok.lv{n m e:Nat}{p:Pq}(h:Pq.ok n e p)(hn:n=m):Pq.ok m e p:=hn▸h
theorem uG{r r':Nat}(h:r<=r'):∀j,eB r j<=eB r' j
 |0=>le_refl _
 |j+1=>by have:=uG h j;simp only[eB];omega
theorem Bg{r r':Nat}(h:r<=r'):∀j e,iB r j e<=iB r' j e
 |0,e=>le_refl _
 |j+1,e=>by
  have h1:=uG h j;have h2:=uG h (j+1);have h3:=Bg h j (4*e+3*eB r j+r+1);have h4:=ui r' j (e:=4*e+3*eB r j+r+1) (f:=4*e+3*eB r' j+r'+1) oz;simp only[iB];omega
theorem uY:Pq.ok 0 2 oW:=by
 have h:Nm 0 2 []:=⟨by omega,.inl rfl,⟨1,0,⟨by decide,fun q h=>by cases h⟩,by decide,by decide⟩⟩
 exact⟨h,h,h,h⟩
theorem QZ:Pq.ok 0 2 vM:=by
 have h:Nm 0 2 [1]:=⟨by omega,.inr ⟨0,le_refl _,rfl⟩,Cb.mono (Cb.int (z:=1) (e:=1) (by decide)) oz⟩
 exact⟨h,uY.c,uY.c,uY.c⟩
theorem wg:Tw [] 0:=⟨by decide,(fun j h=>by cases h),(fun j h=>by cases h),⟨1,1,by decide,(fun d h=>by cases h),by decide,by decide⟩,by omega⟩
theorem B2(l:Li):QInv l 0 0 2 (dA l):=by
 refine⟨wg,le_refl _,fun p hp=>?_,by simp[dA]⟩;rcases List.mem_or_eq_of_mem_set hp with h |h
 ·rw[(List.mem_replicate.1 h).2];exact uY
 ·rw[h];exact QZ
theorem Pq.ok.nr{n e:Nat}{p:Pq}(h:Pq.ok n e p)(he:e<=lm n):∀x∈p.pl.l,NR x e:=by
 intro x hx;simp only[Pl.l,Pq.pl,mem_cons,not_mem_nil,or_false]at hx;rcases hx with rfl |rfl |rfl |rfl
 ·exact h.c.rt he
 ·exact h.s.rt he
 ·exact h.x.rt he
 ·exact h.y.rt he
theorem Pq.ok.num{n e:Nat}{p:Pq}(h:Pq.ok n e p):∀x∈p.pl.l,bF n x=0:=by
 intro x hx;simp only[Pl.l,Pq.pl,mem_cons,not_mem_nil,or_false]at hx;rcases hx with rfl |rfl |rfl |rfl
 ·exact nf h.c.nl
 ·exact nf h.s.nl
 ·exact nf h.x.nl
 ·exact nf h.y.nl
section
variable{l:Li}{j r E:Nat}{a:Aq}(Q:QInv l j r E a)
include Q
theorem QInv.chk:aX a.as.rs=0:=Q.tw.chk
theorem QInv.mem{p:Pl}(h:p∈a.as.bs):∃q∈a.bs,q.pl=p:=by have _:=Q;exact List.mem_map.1 h
theorem QInv.nr(hE:E<=50000000000){p:Pl}(h:p∈a.as.bs):∀x∈p.l,NR x E:=by
 obtain⟨q,hq,rfl⟩:=Q.mem h;exact(Q.bs q hq).nr (le_trans hE (iZ _))
theorem QInv.ab(hl:aD l=0)(hE:E<=50000000000)(hr:r<=400000000):AB a.as:=by
 refine⟨Q.tw.tr.mono hr oz,fun p hp x hx=>(Q.nr hE hp x hx).mono hE,?_,?_⟩
 ·show(a.ts.map _).length<=8;rw[length_map];have:=Q.tw.three;omega
 ·show(a.bs.map _).length<=30;rw[length_map,Q.ln];have:=(c9 hl).2.2.2.1;omega
theorem QInv.sma(hE:E<=50000000000){F:Nat}(hF:E<=F)(k:Int)(own:Bool):ru F l k a.as own :=
 fun b _ _ p hp x hx=>(Q.nr hE (mem_of_getElem? hp) x hx).mono hF
theorem QInv.nd(hl:aD l=0){g:Gr}(hg:GrOk l g){own:Bool}:∀b∈ci l g own,fE a.as b=0:=by
 intro b hb;unfold fE;split
 ·rfl
 ·have h1:=xi hl hg b hb;obtain ⟨p,hp⟩:=ay (l:=a.bs) (i:=b.toNat) (by rw [Q.ln]; omega);have e:a.as.bs[b.toNat]? = some p.pl:=by show (a.bs.map Pq.pl)[b.toNat]? = _; rw [getElem?_map,hp]; rfl
  rw[aL e];unfold bc;rw[if_neg (by rw[Q.chk];simp)];have e2:a.as.rs.length=a.ts.length:=length_map _;rw[e2];exact pK (fun x hx=>(Q.bs p (mem_of_getElem? hp)).num x hx)
theorem QInv.dy0(hl:aD l=0)(hs:co l=0){k:Nat}{g:Gr}(hg:(ax l)[k]?=some g)(own:Bool):eT l k a.as own=0:=by
 have hk:=(List.getElem?_eq_some_iff.1 hg).1;obtain⟨_,ho⟩:=rh hl (mem_of_getElem? hg);have hgA:ip l (k:Nat)=g:=aL hg;rw[ns hl,CQ hs oz (by show(a.bs.map _).length=_;rw[length_map,Q.ln]) Q.chk,hgA];exact pK (fun b hb=>Q.nd hl ho b (v8.1 hb))
end
structure WkC(l:Li)(xs:List Tn)(s g:Nat):Prop where
  hl:l.ok
  li:aD l=0
  sp:co l=0
  cs:Cs s l
  ln:xs.length=l.dv.length
  ok:∀x∈xs,x.t.ok/\x.err=0/\Qb 1000 x.t.q/\Cb g [fI x.half x.t.q]/\Cb g [fM x.half x.t.q]
theorem Ax{l:Li}{g:Gr}(h:DyK l g)(hk:g.kind=0):0<=g.driver/\g.driver<l.dv.length:=by
 cases h with
 | @drv b z d _ _ t d0 hd hb=>have:=(List.getElem?_eq_some_iff.1 hd).1;exact⟨d0,by show d<_;omega⟩
 |rrr=>exact absurd hk (by simp)
 |pr=>exact absurd hk (by simp)
 |rp=>exact absurd hk (by simp)
theorem yS:gU.t.ok:=⟨(fun x h=>by cases h),(fun x h=>by cases h),zero_le _,zero_le _⟩
theorem Ek:Qb 1000 gU.t.q:=by
 have e:gU.t.q=0:=by decide +kernel
 rw[e];exact Qb.zero.mono oz
section
variable{l:Li}{xs:List Tn}{s g:Nat}(W:WkC l xs s g){k:Nat}{gr:Gr}(hg:(ax l)[k]?=some gr)
include W hg
theorem WkC.grp:DyK l gr/\GrOk l gr:=rh W.li (mem_of_getElem? hg)
theorem WkC.tn:(bD gr xs).t.ok/\Qb 1000 (bD gr xs).t.q/\(gr.kind=0->∃x∈xs,bD gr xs=x):=by
 unfold bD
 by_cases hk:gr.kind=0
 ·rw[if_pos hk];have h:=Ax (W.grp hg).1 hk;obtain⟨x,hx⟩:=ay (l:=xs) (i:=gr.driver.toNat) (by rw[W.ln];omega);rw[aL hx];have hm:=mem_of_getElem? hx;exact⟨(W.ok x hm).1,(W.ok x hm).2.2.1,fun _=>⟨x,hm,rfl⟩⟩
 ·rw[if_neg hk];exact⟨yS,Ek,fun h=>absurd h hk⟩
variable{j r E:Nat}{a:Aq}(Q:QInv l j r E a)
include Q
theorem QInv.dyOk{F:Nat}(hE:E<=50000000000)(hF:E<=F):DyOk F l k a.as false k gr:=by
 obtain⟨i,g',h⟩:=BA (Q.sma hE hF k false) (Q.dy0 W.li W.sp hg false);have e:i=k:=by have:=h.hk;omega
 subst e;have:=h.hg;rw[hg]at this;cases this;exact h
theorem QInv.dyS(hr:r<=64990)(hj:j<=1):DyS a.as:=by have _:=W;have _:=hg;exact⟨Q.tw.tr.mono hr oz,fun _=>by rw[a.llq];exact le_trans Q.lv hj⟩
theorem QInv.dyW(hE:E<=50000000000)(hr:r<=400000000):DyW l a.as:=by have _:=hg;exact⟨W.hl,W.li,Q.ab W.li hE hr,Q.chk⟩
theorem QInv.twl:Tw (Lw.llq a.as.rs) r:=by have _:=W;have _:=hg;rw[a.llq];exact Q.tw
theorem QInv.drv{n y:Nat}(ok:d7 s g (n+1) y j r E=true)(hk:gr.kind=0):∀sv∈cD l a.as gr (bD gr xs),QInv l j r (lU s g j r E) (a.nxt gr sv):=by
 obtain⟨⟨hE,hr,hj⟩,_⟩:=qd ok;have D:=QInv.dyW W hg Q oz hr;have O:=QInv.dyOk W hg Q (F:=E) oz (le_refl _);obtain⟨i,z0,d,j0,e,hj0,p0⟩:=yC O hk;obtain⟨_,_,hx⟩:=W.tn hg;obtain⟨x,hx,ex⟩:=hx hk;obtain⟨_,he,_,hc,hs⟩:=W.ok x hx;have hlen:(Lw.llq a.as.rs).length=a.ts.length:=by rw[a.llq]
 have tw:=QInv.twl W hg Q;have hq0:=mf W.hl W.li W.cs hj0 p0.or;have hK:eB r (Lw.llq a.as.rs).length<=eB r j:=fX r (by rw[hlen];exact Q.lv);obtain⟨o1,o2⟩:=re W.hl W.li W.cs D.al D.hc tw hK hj0 p0;rw[ex];unfold cD;rw[if_pos hk,e];show ∀sv∈kS l a.as i (l.jo.getD z0.toNat default) x,_;rw[aL hj0];unfold kS;rw[if_neg oz];have hp:=Ob (ts:=Lw.llq a.as.rs) (p:=am l j0 i) (o:=aW l a.as j0 i) hc hs hq0 tw.five o1 o2
 have hp2:Pq.ok a.ts.length (lU s g j r E) (uo l a.as i j0 x):=by
  have:=yP (a:=0) (b:=0) hp (e:=lU s g j r E) (by unfold lU jY;omega) (by unfold lU jY;omega);exact Pq.ok.lv this hlen
 refine f0 ⟨?_,?_,?_,?_⟩
 ·exact tw
 ·show(Lw.llq a.as.rs).length<=j;rw[hlen];exact Q.lv
 ·intro p hp3;show Pq.ok (Lw.llq a.as.rs).length _ p;rw[hlen];rcases Dl hp3 with h |h
  ·exact(Q.bs p h).up (le_refl _) Q.tw.five (by unfold lU jY;omega)
  ·rw[List.mem_singleton.1 h];exact hp2
 ·exact(tD _ _ _).trans Q.ln
theorem QInv.dy{n y:Nat}(ok:d7 s g (n+1) (y+1) j r E=true)(hk:gr.kind≠0):∀sv∈cD l a.as gr (bD gr xs),QInv l (j+1) (r+jl s j r E) (qu s j r E) (a.nxt gr sv):=by
 obtain⟨⟨hj,hE,hr,hX,hJ⟩,_⟩:=qg ok;have D:DyR l a.as:=⟨QInv.dyW W hg Q oz oz,QInv.dyS W hg Q hr hj⟩
 have O:=QInv.dyOk W hg Q (F:=E) oz (le_refl _);have hlen:(Lw.llq a.as.rs).length=a.ts.length:=by rw[a.llq]
 have hlv:(Lw.llq a.as.rs).length<=j:=by rw[hlen];exact Q.lv
 have tw:=QInv.twl W hg Q
 have Z:Szs (Lw.llq a.as.rs).length r (3*E+2*s+2*eB r j+10) (8*s+5) (jl s j r E) (eB r j) (eB (r+jl s j r E) (j+1)) (Ed s j r E) (sO s j r E):=by
  refine⟨by omega,fX r hlv,?_,hX,fX _ oz,?_,?_,hJ,?_,?_⟩
  ·unfold jl jY;omega
  ·exact xC r _ hlv
  ·exact xC _ _ hlv
  ·exact le_trans (fX r oz) (uG oz _)
  ·exact Bg oz _ _
 have hn:(Lw.llq a.as.rs).length<=1:=by omega
 have key:∀sv∈cD l a.as gr (bD gr xs),Xz (Lw.llq a.as.rs) r (jl s j r E) sv.ts/\∀p∈sv.ps,Pq.ok sv.ts.length (qu s j r E) p:=by
  unfold cD;rw[if_neg hk]
  by_cases hk1:gr.kind=1
  ·obtain⟨i,k2,z0,z1,z2,j0,j1,j2,P⟩:=O.rrr hk1;obtain⟨e0,e1,e2,b0,b1,_⟩:=P.at;rw[if_pos hk1,e0,e1,e2,b0,b1];exact MM D hn W.cs tw Z (le_refl _) P
  ·rw[if_neg hk1]
   by_cases hk2:gr.kind=2
   ·obtain⟨i,z0,z1,j0,j,P,ha,hb⟩:=O.pr hk2;obtain⟨e0,e1,b0,_⟩:=P.at;rw[if_pos hk2,e0,e1,b0];exact Kj D hn W.cs tw Z (le_refl _) P ha hb
   ·obtain⟨i,z0,z1,j0,j,P,_,hj,hb⟩:=O.rp hk hk1 hk2;obtain⟨e0,e1,b0,hk3⟩:=P.at;rw[if_neg hk2,e0,e1,b0];exact Ou D hn W.cs tw Z (le_refl _) P hj hb
 intro sv hsv;obtain⟨hx,hp⟩:=key sv hsv;have h5:=hx.tw.five;have hup:=hx.up;have hln:=hx.ln;rw[hlen]at hup hln;refine⟨hx.tw,?_,?_,?_⟩
 ·show sv.ts.length<=j+1;have:=Q.lv;omega
 ·intro p hp3;rcases Dl hp3 with h |h
  ·exact(Q.bs p h).up hup h5 (by unfold qu oZ wZ jY;omega)
  ·exact hp p h
 ·exact(tD _ _ _).trans Q.ln
end
def jI(l:Li)(a:As)(g:Gr)(x:Tn):Nat:=(gY l a g x).2
def dM(F:Int->Bool)(sg:Bool)(f:Sv->List Aq×Nat):List Sv->List Aq×Nat
  |[]=>([],0)
  |s::r=>if F s.mode=false then dM F sg f r else if(f s).2≠0 then f s else if sg=true then f s else((f s).1++(dM F sg f r).1,(dM F sg f r).2)
def dr(F:Nat->Int->Bool)(sg:Bool)(l:Li)(xs:List Tn)(gs:List Gr):Nat->Aq->List Aq×Nat
  |0,a=>([a],0)
  |n+1,a=>if jI l a.as (gs.getD a.ms.length default) (bD (gs.getD a.ms.length default) xs)≠0 then([],jI l a.as (gs.getD a.ms.length default) (bD (gs.getD a.ms.length default) xs))
    else dM (F a.ms.length) sg (fun s=>dr F sg l xs gs n (a.nxt (gs.getD a.ms.length default) s)) (cD l a.as (gs.getD a.ms.length default) (bD (gs.getD a.ms.length default) xs))
theorem Ip{l:Li}{xs:List Tn}{s g:Nat}(W:WkC l xs s g){k:Nat}{gr:Gr}(hg:(ax l)[k]?=some gr){j r E:Nat}{a:Aq}(Q:QInv l j r E a){n y:Nat}(ok:d7 s g (n+1) y j r E=true)(hy:gr.kind≠0->0<y) :
  SolP (cD l a.as gr (bD gr xs)) gr.kind a.ts.length gr.bo.length:=by
 obtain⟨⟨hE,hr,hj⟩,_⟩:=qd ok;have D:=QInv.dyW W hg Q oz hr;have h3:(Lw.llq a.as.rs).length<=2:=by rw[a.llq];have:=Q.lv;omega
 have hlen:(Lw.llq a.as.rs).length=a.ts.length:=by rw[a.llq]
 rw[<- hlen]
 by_cases hk:gr.kind=0
 ·exact D8 hE D h3 (QInv.dyOk W hg Q (F:=E) oz (le_refl _)) (fun h=>absurd hk h) (W.tn hg).2.1
 ·have hy:=hy hk;obtain ⟨y',rfl⟩:∃ y',y = y' + 1:=⟨y - 1,by omega⟩
  obtain⟨⟨hj,hE,hr,hX,hJ⟩,_⟩:=qg ok;exact D8 oz D h3 (QInv.dyOk W hg Q (F:=3900000) oz hE) (fun _=>⟨rfl,QInv.dyS W hg Q hr hj⟩) (W.tn hg).2.1
theorem Ay{P:Program}{f:FuncId}{sz:Nat}{r:AV}{H H':Hp}(h:∀(a:Option Addr)(cap:Nat),Con P f [.v (.slice a 0 cap)] H r H'):Con P f [.lst sz []] H r H' :=
 ⟨(h none 0).ok,fun ext m w vs he hr hn hv=>by
  have hn1:vs.size=1:=hn;have h0:=hv 0 vs[0] (.lst sz []) (by simp[hn1]) rfl
  have hy:∃a cap,vs[0]=.slice a 0 cap:=by
   generalize vs[0]=y at h0;cases h0 with
   |lst0 a cap=>exact⟨_,_,rfl⟩
   |lst u hb hc hl hs h1 hu hrr=>exact⟨_,_,rfl⟩
  obtain⟨a,cap,hy⟩:=hy;refine(h a cap).ret ext m w vs he hr hn (fun j v x hv2 hx=>?_)
  match j,hx with
  |0,hx =>
   cases hx;have:v=.slice a 0 cap:=by rw[<- hy];have:=Array.getElem?_eq_some_iff.1 hv2;exact this.2.symm
   subst this;exact .v _⟩
theorem QH(e:AV)(es:List AV)(hc:∀x∈e::es,x.cells.length=1)(hl:(e::es).length<=1000):Con prog 287 [.lst 1 (e::es)] [] (.ms 901 1 0 (e::es).length) [(901,some (.row 1 (e::es)))]:=by
 refine gF func287 (fun k z h=>by cases h) ?_;refine gs (BU (.tmp rfl) (by kernel_rfl) rfl) ?_;refine gC (fun t4=>?_) (fun t4=>?_) (st1:=(2,0));cases t4;refine gs (iO T39 rfl T3 rfl rfl rfl) ?_;refine gs (bU (.tmp rfl) rfl rfl (.tmp rfl) T39 rfl T3 rfl rfl (by simp only[];omega) rfl rfl) ?_ (77777,0);refine gW (Wk.of (sl:=[(2,some (.ms 7 1 0 (e::es).length))]) (hp:=[(7,some (.row 1 (e::es)))]) (.cons rfl (Sub.of (congrArg (AV.ms 7 1 0) (Nat.zero_add _))) .nil) (.k .nil)) ?_;refine gR ?_;exact ak.own1 rfl rfl rfl
theorem Qq(a:Option Addr)(cap:Nat):Con prog 287 [.v (.slice a 0 cap)] [] (.ms 901 1 0 0) [(901,some (.row 1 []))]:=by
 refine gF func287 (fun k z h=>by cases h) ?_;refine gs (Ef (.tmp rfl) (by kernel_rfl) rfl) ?_;refine gC (fun t4=>?_) (fun t4=>?_) (st1:=(2,0)) (st2:=(77777,0))
 ·refine gW ((Wk.virt 901 1 rfl).trans<|Wk.o (sl:=[]) (hp:=[(901,some (.row 1 []))])) ?_;refine gR ?_;exact(ak.keep (aZ rfl)).sub (Sub.nM _ _ _)
 refine gW (Wk.of (sl:=[(0,some (.lst 1 []))]) (hp:=[]) (.cons rfl (Sub.nil _ _ _) .nil) .nil) ?_;refine gs (iO T39 rfl T3 rfl rfl rfl) ?_;refine gs (bU (.tmp rfl) rfl rfl (.tmp rfl) T39 rfl T3 rfl rfl (by simp) rfl rfl) ?_ (77777,0);refine gW (Wk.o (sl:=[(2,some (.ms 7 1 0 0))]) (hp:=[(7,some (.row 1 []))])) ?_;refine gR ?_;exact ak.own1 rfl rfl rfl
theorem Jp(e:AV)(es:List AV)(hc:∀x∈e::es,x.cells.length=4)(hl:(e::es).length<=1000):Con prog 289 [.lst 4 (e::es)] [] (.ms 900 4 0 (e::es).length) [(900,some (.row 4 (e::es)))]:=by
 refine gF func289 (fun k z h=>by cases h) ?_;refine gs (BU (.tmp rfl) (by kernel_rfl) rfl) ?_;refine gC (fun t4=>?_) (fun t4=>?_) (st1:=(2,0));cases t4;refine gs (iO T38 rfl T69 rfl rfl rfl) ?_;refine gs (bU (.tmp rfl) rfl rfl (.tmp rfl) T38 rfl T69 rfl rfl (by simp only[];omega) rfl rfl) ?_ (77777,0);refine gW (Wk.of (sl:=[(2,some (.ms 7 4 0 (e::es).length))]) (hp:=[(7,some (.row 4 (e::es)))]) (.cons rfl (Sub.of (congrArg (AV.ms 7 4 0) (Nat.zero_add _))) .nil) (.k .nil)) ?_;refine gR ?_;exact ak.own1 rfl rfl rfl
theorem J7(a:Option Addr)(cap:Nat):Con prog 289 [.v (.slice a 0 cap)] [] (.ms 900 4 0 0) [(900,some (.row 4 []))]:=by
 refine gF func289 (fun k z h=>by cases h) ?_;refine gs (Ef (.tmp rfl) (by kernel_rfl) rfl) ?_;refine gC (fun t4=>?_) (fun t4=>?_) (st1:=(2,0)) (st2:=(77777,0))
 ·refine gW ((Wk.virt 900 4 rfl).trans<|Wk.o (sl:=[]) (hp:=[(900,some (.row 4 []))])) ?_;refine gR ?_;exact(ak.keep (aZ rfl)).sub (Sub.nM _ _ _)
 refine gW (Wk.of (sl:=[(0,some (.lst 4 []))]) (hp:=[]) (.cons rfl (Sub.nil _ _ _) .nil) .nil) ?_;refine gs (iO T38 rfl T69 rfl rfl rfl) ?_;refine gs (bU (.tmp rfl) rfl rfl (.tmp rfl) T38 rfl T69 rfl rfl (by simp) rfl rfl) ?_ (77777,0);refine gW (Wk.o (sl:=[(2,some (.ms 7 4 0 0))]) (hp:=[(7,some (.row 4 []))])) ?_;refine gR ?_;exact ak.own1 rfl rfl rfl
theorem Cn(es:List AV)(hc:∀x∈es,x.cells.length=1)(hl:es.length<=1000):Con prog 287 [.lst 1 es] [] (.ms 901 1 0 es.length) [(901,some (.row 1 es))]:=by
 cases es with
 |nil=>exact Ay Qq
 |cons e es=>exact QH e es hc hl
theorem M5(es:List AV)(hc:∀x∈es,x.cells.length=4)(hl:es.length<=1000):Con prog 289 [.lst 4 es] [] (.ms 900 4 0 es.length) [(900,some (.row 4 es))]:=by
 cases es with
 |nil=>exact Ay J7
 |cons e es=>exact Jp e es hc hl
theorem H0(es:List AV)(hc:∀x∈es,x.cells.length=1)(hl:es.length<=1000):FP 287 [.lst 1 es] (.lst 1 es):=by
 have h:=Con.freeze oz (Cn es hc hl)
 rwa [drop_zero,take_length]at h
theorem DE(ms:List Int):∀x∈ms.map i64,x.cells.length=1:=fun x hx=>by obtain⟨m,_,rfl⟩:=List.mem_map.1 hx;rfl
theorem Mr(bs:List Pq):∀x∈bs.map Pq.av,x.cells.length=4:=fun x hx=>by obtain⟨m,_,rfl⟩:=List.mem_map.1 hx;rfl
theorem rO{n e:Nat}{x:List Rat}(h:Nm n e x)(he:e<=100000000000):FP 288 [nA x] (nA x):=by
 have hlen:=h.nl.len5 h.five;have hqs:∀q∈x,Qs q:=fun q hq=>h.cb.qs oz hq
 refine ah func288 ?_;refine gl ?_;refine gW (Wk.virt 901 3 rfl) ?_;refine aI [6,7] [] (fun(j:Nat)=>[(3,some (.ms 901 3 0 j)),(8,some (i64 j))]) (fun j=>[(901,some (.row 3 ((x.take j).map qA)))]) (fun j=>j<=x.length) (fun j=>x.length-j) 0 (zero_le _) ?_ (h1:=(.cons rfl (Sub.nM _ _ _) (.k .nil)));rintro j hj K1 J1;refine gC (fun t9=>?_) (fun t9=>?_) (st2:=(7,0))
 ·have hjn:=aU t9;obtain⟨q,hq⟩:=ay hjn;have hadd:=mS (rt q) (rt 0) (hqs q (mem_of_getElem? hq)).ok Qs.zero.ok;rw[ri,bu]at hadd;refine gi (az hq) ?_;refine gc (Con.sA (.cons (.refl _) (.cons gQ .nil)) hadd) ?_;refine gs (bU (.tmp rfl) rfl (by rw[length_map,length_take];omega) (.tmp rfl) T67 rfl T45 rfl rfl (by simp only[length_cons,length_nil];omega) rfl rfl) ?_ (6,0);refine gW (Wk.of (sl:=[(6,some (nA x)),(7,some (i64 x.length)),(8,some (i64 j)),(3,some (.ms 17 3 0 (j+1)))]) (hp:=[(17,some (.row 3 ((x.take (j+1)).map qA)))]) aR (.cons rfl (BlkSub.of (by rw[cR hq,map_append];rfl)) .nil)) ?_ (6,0);refine gW (Wk.rk (k:=17) (d:=901) rfl rfl) ?_;refine ga aG ?_;exact aE J1 (j+1) hjn
 have hjn:=a6 hj t9;subst hjn;refine gW ((Wk.freeze (k:=901) rfl).trans<|Wk.of (sl:=[(3,some (nA x))]) (hp:=[]) (.cons rfl (Sub.of (by rw[bB (by simp)];simp[nA])) .nil) .nil) ?_;refine ae ?_;rfl
theorem LS{a:Aq}{n e:Nat}(h5:n<=5)(ht:∀x∈a.ts,Nm n e x)(hb:∀p∈a.bs,Pq.ok n e p)(he:e<=100000000000)(l1:a.ts.length<=100)(l2:a.bs.length<=100)(l3:a.ms.length<=100):FP 190 [a.av] a.av:=by
 refine ah func190 ?_;refine gc (H0 _ (DE _) (by rw[length_map];omega)) ?_;refine gl ?_;refine gW (Wk.virt 900 1 rfl) ?_;refine aI [1,2,3,14,15] [1,2] (fun(i:Nat)=>[(16,some (i64 i))]) (fun i=>[(3,some (.box [.ms 900 1 0 i,nS,.lst 1 (a.ms.map i64)])),(900,some (.row 1 ((a.ts.take i).map nA)))]) (fun i=>i<=a.ts.length) (fun i=>a.ts.length-i) 0 (zero_le _) ?_ (h2:=(.cons rfl (BlkSub.bL (.cons (.nM _ _ _) (.cons (.refl _) (.cons (.refl _) .nil))) rfl) (.k .nil)));rintro i hi K1 J1;refine gC (fun t17=>?_) (fun t17=>?_) (st2:=(7,0))
 ·have hin:=aU t17;obtain ⟨d,hd⟩:=ay hin;refine gi (az hd) ?_;refine gc (rO (ht d (mem_of_getElem? hd)) he) ?_;refine gs (bU (.tmp rfl) rfl (by rw [length_map,length_take]; omega) (.tmp rfl) T35 rfl T67 rfl rfl (by simp only [length_cons,length_nil]; omega) rfl rfl) ?_;refine gD ?_ (6,0);refine gW (Wk.of (sl:=[(1,some (.ptr 1 0)),(2,some (.ptr 2 0)),(3,some (.ptr 3 0)),(14,some (.lst 1 (a.ts.map nA))),(15,some (i64 a.ts.length)),(16,some (i64 i))]) (hp:=[(1,some (.box a.cs)),(2,some (.box [nS,nS,nS])),(3,some (.box [.ms 26 1 0 (i + 1),nS,.lst 1 (a.ms.map i64)])),(26,some (.row 1 ((a.ts.take (i + 1)).map nA)))]) aR (.k (.k (.k (.cons rfl (BlkSub.of (by rw [cR hd,map_append]; rfl)) .nil))))) ?_ (6,0)
  refine gW (Wk.rk (k:=26) (d:=900) rfl rfl) ?_;refine ga aG ?_;exact aE J1 (i+1) hin
 have hin:=a6 hi t17;subst hin;refine gW ((Wk.freeze (k:=900) rfl).trans<|Wk.of (sl:=[(1,some (.ptr 1 0)),(2,some (.ptr 2 0)),(3,some (.ptr 3 0))]) (hp:=[(1,some (.box a.cs)),(2,some (.box [nS,nS,nS])),(3,some (.box [.lst 1 (a.ts.map nA),nS,.lst 1 (a.ms.map i64)]))]) aR (.k (.k (.cons rfl (BlkSub.bL (.cons (Sub.of (by rw[bB (by simp)];simp)) (.cons (.refl _) (.cons (.refl _) .nil))) rfl) .nil)))) ?_;refine gl ?_;refine gW (Wk.virt 902 4 rfl) ?_;refine aI [1,2,3,31,32] [1,2] (fun(i:Nat)=>[(33,some (i64 i))]) (fun i=>[(3,some (.box [.lst 1 (a.ts.map nA),.ms 902 4 0 i,.lst 1 (a.ms.map i64)])),(902,some (.row 4 ((a.bs.take i).map Pq.av)))]) (fun i=>i<=a.bs.length) (fun i=>a.bs.length-i) 0 (zero_le _) ?_ (h2:=(.cons rfl (BlkSub.bL (.cons (.refl _) (.cons (.nM _ _ _) (.cons (.refl _) .nil))) rfl) (.k .nil)));rintro i hi K2 J2;refine gC (fun t34=>?_) (fun t34=>?_) (st2:=(12,0))
 ·have hin:=aU t34;obtain ⟨p,hp⟩:=ay hin;have ok:=hb p (mem_of_getElem? hp);refine gi (az hp) ?_;refine gc (rO ok.c he) ?_;refine gc (rO ok.s he) ?_;refine gc (rO ok.x he) ?_;refine gc (rO ok.y he) ?_;refine gs (bU (.tmp rfl) rfl (by rw [length_map,length_take]; omega) (.tmp rfl) T38 rfl T69 rfl rfl (by simp only [length_cons,length_nil]; omega) rfl rfl) ?_;refine gD ?_ (11,0);refine gW (Wk.of (sl:=[(1,some (.ptr 1 0)),(2,some (.ptr 2 0)),(3,some (.ptr 3 0)),(31,some (.lst 4 (a.bs.map Pq.av))),(32,some (i64 a.bs.length)),(33,some (i64 i))]) (hp:=[(1,some (.box a.cs)),(2,some (.box [nS,nS,nS])),(3,some (.box [.lst 1 (a.ts.map nA),.ms 53 4 0 (i + 1),.lst 1 (a.ms.map i64)])),(53,some (.row 4 ((a.bs.take (i + 1)).map Pq.av)))]) aR (.k (.k (.k (.cons rfl (BlkSub.of (by rw [cR hp,map_append]; rfl)) .nil))))) ?_ (11,0)
  refine gW (Wk.rk (k:=53) (d:=902) rfl rfl) ?_;refine ga aG ?_;exact aE J2 (i+1) hin
 have hin:=a6 hi t34;subst hin;refine gW ((Wk.freeze (k:=902) rfl).trans<|Wk.of (sl:=[(2,some (.ptr 2 0)),(3,some (.ptr 3 0))]) (hp:=[(2,some (.box [nS,nS,nS])),(3,some (.box a.cs))]) aR (.k (.cons rfl (BlkSub.bL (.cons (.refl _) (.cons (Sub.of (by rw[bB (by simp)];simp)) (.cons (.refl _) .nil))) rfl) .nil))) ?_;refine ae ?_;rfl
theorem IP{a:Aq}{g:Gr}{s:Sv}(hb:∀b∈g.bo,0<=b/\b<a.bs.length)(hl:s.ps.length=g.bo.length)(l1:a.bs.length<=100)(l2:a.ms.length<=100)(l3:g.bo.length<=100):FP 192 [a.av,g.av,s.av] (a.nxt g s).av:=by
 refine ah func192 ?_;refine gt (aA (M5 _ (Mr _) (by rw[length_map];omega)) (cf rfl) aC rfl rfl) ?_;refine gt (aA (Cn _ (DE _) (by rw[length_map];omega)) (cf rfl) aC rfl rfl) ?_;refine gs (bU (.tmp rfl) rfl rfl (.tmp rfl) T39 rfl T3 rfl rfl (by simp only[length_map,length_cons,length_nil];omega) rfl rfl) ?_;refine gD ?_ (2,0);refine gW ((Wk.freeze (k:=21) rfl).trans<|Wk.of (sl:=[(3,some (.ptr 3 0)),(4,some (.ptr 4 0)),(5,some (.ptr 5 0)),(6,some (.ptr 6 0)),(7,some (.ptr 7 0))]) (hp:=[(3,some (.box a.cs)),(4,some (.box g.av.cells)),(5,some (.box s.av.cells)),(6,some (.box [nS,nS,nS])),(7,some (.box [.lst 1 (s.ts.map nA),.ms 900 4 0 a.bs.length,.lst 1 ((a.ms++[s.mode]).map i64)])),(900,some (.row 4 ((kD a.bs (g.bo.take 0) (s.ps.take 0)).map Pq.av)))]) aR (.k (.k (.k (.k (.cons rfl (BlkSub.bL (.cons (.refl _) (.cons (Sub.of (congrArg (AV.ms 900 4 0) (length_map _))) (.cons (Sub.of (by rw[bB (by simp)];simp)) .nil))) rfl) (.k .nil))))))) ?_
 refine gl ?_;refine aI [3,4,5,6,7,24,25] [3,4,5,6,7] (fun(i:Nat)=>[(26,some (i64 i))]) (fun i=>[(900,some (.row 4 ((kD a.bs (g.bo.take i) (s.ps.take i)).map Pq.av)))]) (fun i=>i<=g.bo.length) (fun i=>g.bo.length-i) 0 (zero_le _) ?_;rintro i hi K1 J1;refine gC (fun t27=>?_) (fun t27=>?_) (st2:=(7,0))
 ·have hin:=aU t27;obtain⟨b,hbi⟩:=ay hin;obtain⟨p,hp⟩:=ay (l:=s.ps) (i:=i) oz;obtain⟨hb0,hb1⟩:=hb b (mem_of_getElem? hbi);have hpl:=tD a.bs (g.bo.take i) (s.ps.take i);obtain⟨o,ho⟩:=ay (l:=kD a.bs (g.bo.take i) (s.ps.take i)) (i:=b.toNat) oz;refine gi (az hbi) ?_;refine gi (az hp) ?_;refine gs (kg (.tmp rfl) (.tmp rfl) T38 rfl T69 rfl oz oz rfl) ?_;refine gs (cW (.tmp rfl) rfl (by rw[Nat.zero_add,getElem?_map,ho];rfl) rfl (.tmp rfl) rfl rfl T69 rfl rfl) ?_;refine gD ?_;refine ga aG ?_;exact aE J1 (i+1) hin (hw:=Wk.of aR (.cons rfl (BlkSub.of (by rw[PU hbi hp,map_set,Nat.zero_add];rfl)) (.k (.k (.k (.k (.k .nil)))))))
 have hin:=a6 hi t27;subst hin;refine gW ((Wk.freeze (k:=900) rfl).trans<|Wk.of (sl:=[(6,some (.ptr 6 0)),(7,some (.ptr 7 0))]) (hp:=[(6,some (.box [nS,nS,nS])),(7,some (.box (a.nxt g s).cs))]) aR (.k (.cons rfl (BlkSub.bL (.cons (.refl _) (.cons (Sub.of (by rw[bB (by rw[length_map,tD])];rw[take_length,take_of_length_le oz];rfl)) (.cons (.refl _) .nil))) rfl) .nil))) ?_;refine ae ?_;rfl
abbrev er(l:Li)(xs:List Tn)(G:List Gr)(fo:FuncId)(caps:List AV)(sg:Bool)(o:AV):List AV:=l.av.cells++[.lst 4 (xs.map Tn.av),.lst 4 (G.map Gr.av),.cl fo [] caps,bl sg,o]
abbrev d9(l:Li)(xs:List Tn)(G:List Gr)(fo:FuncId)(caps:List AV)(sg:Bool)(k:Nat)(es:List AV):Hp :=
  [(1000,some (.box (er l xs G fo caps sg (.ms k 3 0 es.length)))),(k,some (.row 3 es))]
theorem uw{k k0:Nat}{x y:Option Blk}{z:Blk}(h0:1000<=k0)(h:lk [(1000,x),(k0,y)] k=some z):1000<=k:=by
 rw[aH]at h;split at h
 ·omega
 ·rw[aH]at h;split at h
  ·omega
  ·cases h
theorem N3{l:Li}{xs:List Tn}{G:List Gr}{fo:FuncId}{caps:List AV}{sg:Bool}{es:List AV}{g:Gr}(hd:g.kind=0->0<=g.driver/\g.driver<xs.length)(hl:xs.length<=100) :
  Con prog 191 [.ptr 1000 0,g.av] (d9 l xs G fo caps sg 1001 es) (bD g xs).av (d9 l xs G fo caps sg 1001 es):=by
 refine gF func191 (fun k z h=>uw oz h) ?_;refine gC (fun t7=>?_) (fun t7=>?_)
 ·have hk : g.kind ≠ 0 := by simpa [aa] using t7
  refine gR ?_;exact(ak.keep (kM rfl rfl)).sub (by unfold bD;rw[if_neg hk];exact Sub.agg (.cons (.refl _) (.cons (Sub.nil _ _ _) (.cons (Sub.nil _ _ _) (.cons (.refl _) .nil)))) rfl)
 have hk:g.kind=0:=by simpa[aa]using t7
 obtain⟨h0,h1⟩:=hd hk;obtain⟨x,hx⟩:=ay (l:=xs) (i:=g.driver.toNat) oz;refine gi (f8 (n:=g.driver.toNat) oz hx) ?_;refine gD ?_;refine gR ?_;exact(ak.keep (kM rfl rfl)).sub (by unfold bD;rw[if_pos hk,aL hx];exact .refl _)
theorem He:iR (.agg [nS,nS,nS,nS]) oW.av:=by
 refine⟨rfl,?_⟩;intro j x y hx hy
 match j,hx,hy with
 |0,hx,hy=>cases hx;cases hy;exact⟨rfl,.nil _ _ _⟩
 |1,hx,hy=>cases hx;cases hy;exact⟨rfl,.nil _ _ _⟩
 |2,hx,hy=>cases hx;cases hy;exact⟨rfl,.nil _ _ _⟩
 |3,hx,hy=>cases hx;cases hy;exact⟨rfl,.nil _ _ _⟩
theorem OW(n:Nat):BlkSub (.row 4 (List.replicate n (.agg [nS,nS,nS,nS]))) (.row 4 ((List.replicate n oW).map Pq.av)):=by
 refine .row (by simp) ?_;intro i e e' he he';rw[map_replicate,getElem?_replicate]at he';rw[getElem?_replicate]at he;split at he
 ·rename_i h;rw[if_pos h]at he';cases he;cases he'
  exact He
 ·cases he
theorem GZ:vM.av=.agg [nA (sh 0 (((1:Int):Rat):Rat)),nA [],nA [],nA []]:=by
 have h:sh 0 (((1:Int):Rat):Rat)=[1]:=by decide +kernel
 rw[h];rfl
theorem Oo{l:Li}{xs:List Tn}{G:List Gr}{fo:FuncId}{caps:List AV}{sg:Bool}{es:List AV}(h0:0<l.bo.length)(hl:l.bo.length<=100) :
  Con prog 101 [.ptr 1000 0] (d9 l xs G fo caps sg 1001 es) (dA l).av (d9 l xs G fo caps sg 1001 es):=by
 refine gF func101 (fun k z h=>uw oz h) ?_;refine gl ?_;refine gs (fJ (.tmp rfl) T38 rfl T69 rfl rfl oz (by dsimp only;omega) rfl) ?_ (2,0);refine gW (Wk.of (sl:=[(2,some (.ptr 2 0)),(3,some (.ptr 3 0))]) (hp:=[(2,some (.box [nS,nS,nS])),(3,some (.box [nS,.ms 10 4 0 l.bo.length,nS])),(10,some (.row 4 ((List.replicate l.bo.length oW).map Pq.av))),(1000,some (.box (er l xs G fo caps sg (.ms 1001 3 0 es.length)))),(1001,some (.row 3 es))]) aR (.k (.k (.cons rfl (OW _) (.k (.k .nil)))))) ?_;refine gc (lN 1 oz) ?_;refine gc (mz (q:=((1:Int):Rat)) (Qb.one.qs oz)) ?_;refine gs (bG (n:=0) (.tmp rfl) (.const _) T38 rfl T69 rfl oz oz rfl) ?_ (2,7);refine gs (Al (e:=oW.av) (e':=.agg [nA (sh 0 (((1:Int):Rat):Rat)),nA [],nA [],nA []]) (.tmp rfl) rfl (by rw[getElem?_map,getElem?_replicate,if_pos h0];rfl) (.tmp rfl) rfl rfl T67 rfl rfl rfl) ?_;refine gD ?_ (3,0);refine gW ((Wk.freeze (k:=10) rfl).trans<|Wk.of (sl:=[(2,some (.ptr 2 0)),(3,some (.ptr 3 0))]) (hp:=[(2,some (.box [nS,nS,nS])),(3,some (.box [nS,.lst 4 ((dA l).bs.map Pq.av),nS])),(1000,some (.box (er l xs G fo caps sg (.ms 1001 3 0 es.length)))),(1001,some (.row 3 es))]) aR (.k (.cons rfl (BlkSub.bL (.cons (.refl _) (.cons (Sub.of (by rw[bB (by simp)];unfold dA;rw[map_set,GZ])) (.cons (.refl _) .nil))) rfl) (.k (.k .nil))))) ?_
 refine gR ?_;exact(ak.keep (kM rfl rfl)).sub (Sub.agg (.cons (Sub.nil _ _ _) (.cons (.refl _) (.cons (Sub.nil _ _ _) .nil))) rfl)
theorem ED(k m:Int):FP 189 [i64 k,i64 m] (bl true):=by
 refine ah func189 ?_;refine ae ?_;rfl
theorem Mu{modes:List Int}{k:Nat}(hk:k<modes.length)(hl:modes.length<=100)(m:Int):FP 111 [i64 k,i64 m,.iptr [.lst 1 (modes.map i64)]] (bl (decide (m=modes.getD k 0))):=by
 obtain⟨x,hx⟩:=ay hk;refine ah func111 ?_;refine gi (az hx) ?_;refine gR ?_;exact cT (Sub.of (by rw[aL hx,oR];rfl))
def pM(l:Li)(xs:List Tn):Nat:=if co l≠0 then co l else if xs.length≠l.dv.length then 10 else dS (xs.map Tn.err)
def cE(l:Li)(xs:List Tn):Nat:=if aD l≠0 then aD l else pM l xs
def rI(e:Nat)(l:Li)(xs:List Tn):Hp:=if e=0 then[(900,some (.box (er l xs (ax l) 189 [] false (nS))))]else[]
theorem ue{e:Nat}(h:e≠0){l:Li}{xs:List Tn}:rI e l xs=[]:=if_neg h
theorem Is{l:Li}{xs:List Tn}{e:Nat}(he:(if aD l=0 then co l else aD l)=e)(h:e≠0):cE l xs=e:=by
 unfold cE pM
 by_cases h1:aD l=0
 ·rw[if_pos h1]at he;rw[if_neg oz,if_pos oz,he]
 ·rw[if_neg h1]at he;rw[if_pos h1,he]
theorem B9{l:Li}{xs:List Tn}(h:aD l=0)(hs:co l=0):cE l xs=if xs.length≠l.dv.length then 10 else dS (xs.map Tn.err):=by
 unfold cE pM;rw[if_neg oz,if_neg oz]
theorem vE(l:Li)(hl:l.ok)(xs:List Tn)(hx:∀x∈xs,x.t.ok)(hn:xs.length<=100) :
  Con prog 99 [l.av,.lst 4 (xs.map Tn.av)] [] (.tup [nJ (cE l xs),ba (cE l xs)]) (rI (cE l xs) l xs):=by
 have hld:=hl.ld;refine gF func99 (fun k z h=>by cases h) ?_;refine gc (Gf l hl) ?_;refine gC (fun t17=>?_) (fun t17=>?_)
 ·have h1:=cq t17;refine gR ?_;rw[Is rfl h1,jZ h1,ue h1];exact kN rfl
 have h1:=b9 t17;obtain⟨hli,hsp⟩:=Av h1;rw[show(if aD l=0 then ax l else[])=ax l from if_pos hli];refine gl ?_;refine gl ?_;refine gC (fun t24=>?_) (fun t24=>?_)
 ·have h2:=tG t24;have he:cE l xs = 10:=by rw [B9 hli hsp,if_pos h2]
  refine gR ?_;rw[he,jZ (by decide),ue (by decide)];exact kN rfl
 have h2:=tb t24;have he0:cE l xs=dS (xs.map Tn.err):=by rw[B9 hli hsp,if_neg oz]
 refine gl ?_;refine aI [1,2,6,26,27] [2] (fun(i:Nat)=>[(28,some (i64 i))]) (fun _=>[]) (fun i=>i<=xs.length/\∀y∈xs.take i,y.err=0) (fun i=>xs.length-i) 0 ⟨zero_le _,fun y hy=>by simp at hy⟩ ?_;rintro i ⟨hi,hz⟩ K1 J1;refine gC (fun t29=>?_) (fun t29=>?_) (st2:=(13,0))
 ·have hin:=aU t29;obtain⟨x,hxi⟩:=ay hin;refine gi (az hxi) ?_;refine gc (xe x (hx x (mem_of_getElem? hxi))) ?_;refine gC (fun t35=>?_) (fun t35=>?_)
  ·have h3:=cq t35;have he:cE l xs = x.err:=by rw [he0]; exact H1 hxi hz h3
   refine gR ?_;rw[he,jZ h3,ue h3];exact kN rfl
  have h3:=b9 t35;refine ga aG ?_;exact aE J1 (i+1) ⟨hin,fun z hz2=>by rw[cR hxi]at hz2;rcases List.mem_append.1 hz2 with h9 |h9;exact hz z h9;(rw[List.mem_singleton.1 h9];exact h3)⟩
 have hin:=a6 hi t29;have he:cE l xs=0:=by rw[he0];exact pK (fun y hy=>hz y (by rw[hin,take_length];exact hy))
 refine gW (Wk.o (sl:=[(1,some (.lst 4 (xs.map Tn.av))),(2,some (.ptr 2 0)),(6,some (.lst 4 ((ax l).map Gr.av)))]) (hp:=[(2,some (.box l.av.cells))])) ?_ (77777,0);refine gW (Wk.of (sl:=[(4,some (.ptr 42 0)),(5,some (.v .nilIface))]) (hp:=[(42,some (.box (er l xs (ax l) 189 [] false (nS))))]) aR (.cons rfl (BlkSub.bL (.cons (.refl _) (.cons (.refl _) (.cons (.refl _) (.cons (.refl _) (.cons (.refl _) (.cons (.refl _) (.cons ((Sub.fn0 _).trans (pW rfl)) (.cons (.refl _) (.cons (.refl _) .nil))))))))) rfl) .nil)) ?_ (77777,0);refine gW (Wk.rk (k:=42) (d:=900) rfl rfl) ?_;refine gR ?_;rw[he];exact ak.keep (aZ rfl)
section
variable{P:Program}{N:Nat}{R:Array Oper}{s:AS}{pos:String}{after:Array Edge}
theorem u5{d f k k2:Nat}{bx bx2:Blk}{args:Array Operand}{ts:Array TypeId}{xs:List AV}{r:AV}{t:TypeId}
  (hcon:Con P f xs [(k,some bx),(k2,some bx2)] r [(k,some bx),(k2,some bx2)]) (ha:EvL s args.toList xs) (hne:Nat.beq k2 k=false) (hk:s.blk k=some bx) (hk2:s.blk k2=some bx2)
  (hok:gI s [(k,some bx),(k2,some bx2)] [(k,some bx),(k2,some bx2)] r=true) (hN:Nat.blt d N=true) :
  Step P N R s ⟨some d,.call ⟨.value (.func f),args,ts⟩,t,pos,after,none⟩ ⟨some r,[],dQ args.toList,[k,k2]⟩:=by
 have hne':k2≠k:=fun e=>by rw[e,Nat.beq_refl]at hne;cases hne
 refine Step.weaken (aA (d:=d) hcon ha (fun k' z h=>by
  rcases lY h with⟨rfl,h9⟩ |⟨_,rfl,h9⟩
  ·cases h9;exact hk
  ·cases h9;exact hk2) hok hN) (fun s' h=>h) (fun s' h k' hk'=>?_) (fun s' h=>?_)
 ·left;simp only[map_append,cJ,map_cons,map_nil,mem_append,mem_cons,not_mem_nil,or_false]at hk' ⊢;rcases hk' with h9 |h9 <;> exact h9
 ·intro C m a w hr;refine ⟨m,hr.weak (fun t x hx=>⟨x,hx,.refl _⟩) (fun k' x hx=>⟨x,?_,.refl _⟩)⟩;have hb:lk s'.hp k = some bx:=(h.2 k (by simp)).trans hk;have hb2:lk s'.hp k2 = some bx2:=(h.2 k2 (by simp)).trans hk2;show lk ([(k,some bx),(k2,some bx2)] ++ cJ [(k,some bx),(k2,some bx2)] ++ s'.hp) k' = some x;have hx':lk s'.hp k' = some x:=hx;simp only [cJ,map_cons,map_nil,List.cons_append,nil_append,aH]
  by_cases e:k'=k
  ·rw[if_pos e];rw[e,hb]at hx';exact hx'
  ·rw[if_neg e]
   by_cases e2:k'=k2
   ·rw[if_pos e2];rw[e2,hb2]at hx';exact hx'
   ·rw[if_neg e2,if_neg e,if_neg e2];exact hx'
end
def ol(k:Nat):Nat:=bif Nat.beq k 1001 then 901 else bif Nat.beq k 901 then 1001 else k
theorem OS(k:Nat):ol (ol k)=k:=by
 by_cases h1:k=1001
 ·subst h1;rfl
 ·by_cases h2:k=901
  ·subst h2;rfl
  ·have nb:∀{a b:Nat},a≠b->Nat.beq a b=false:=fun h=>by
    cases h9:Nat.beq _ _ with
    |false=>rfl
    |true=>exact absurd (eq_of_beq_eq_true h9) h
   have e:ol k=k:=by simp only[ol,nb h1,nb h2,cond_false]
   rw[e,e]
theorem Mc{l:Li}{xs:List Tn}{G:List Gr}{fo:FuncId}{caps:List AV}{sg:Bool}{es es':List AV}{a:Aq}{e:Nat}
  (h:Con prog 100 [.ptr 1000 0,a.av] (d9 l xs G fo caps sg 1001 es) (ba e) (d9 l xs G fo caps sg 900 es')) :
  Con prog 100 [.ptr 1000 0,a.av] (d9 l xs G fo caps sg 901 es) (ba e) (d9 l xs G fo caps sg 900 es') :=
 Con.pm OS h
theorem LB{l:Li}{xs:List Tn}{G:List Gr}{fo:FuncId}{caps:List AV}{sg:Bool}{o:List Aq}{a:Aq}(hk:a.ms.length=G.length)(hG:G.length<=100)(ho:o.length<=1000)
  (hcl:FP 190 [a.av] a.av) :
  Con prog 100 [.ptr 1000 0,a.av] (d9 l xs G fo caps sg 1001 (o.map Aq.av)) (ba 0) (d9 l xs G fo caps sg 900 ((o++[a]).map Aq.av)):=by
 refine gF func100 (fun k z h=>uw oz h) ?_;refine gl ?_;refine gl ?_;refine gC (fun t21=>?_) (fun t21=>?_) (st2:=(77777,0))
 ·refine gc hcl ?_;refine gs (bU (.tmp rfl) rfl (by rw [length_map]) (.tmp rfl) T87 rfl T41 rfl rfl (by simp only [length_map,length_cons,length_nil]; omega) rfl rfl) ?_;refine gD ?_ (4,0);refine gW (Wk.of (sl:=[(4,some (.v .nilIface))]) (hp:=[(1000,some (.box (er l xs G fo caps sg (.ms 30 3 0 ((o ++ [a]).map Aq.av).length)))),(30,some (.row 3 ((o ++ [a]).map Aq.av)))]) aR (.cons rfl (BlkSub.bL (.cons (.refl _) (.cons (.refl _) (.cons (.refl _) (.cons (.refl _) (.cons (.refl _) (.cons (.refl _) (.cons (.refl _) (.cons (.refl _) (.cons (Sub.of (by simp)) .nil))))))))) rfl) (.cons rfl (BlkSub.of (by rw [map_append]; rfl)) .nil))) ?_ (4,0)
  refine gW (Wk.rk (k:=30) (d:=900) rfl rfl) ?_;refine gR ?_;exact ak.keep (kM rfl rfl)
 exact absurd t21 (by rw[hk];simp[aa])
theorem kf(F:Int->Bool)(sg:Bool)(f:Sv->List Aq×Nat)(s:Sv)(r:List Sv) :
  dM F sg f (s::r)=if F s.mode=false then dM F sg f r else if(f s).2≠0 then f s else if sg=true then f s else((f s).1++(dM F sg f r).1,(dM F sg f r).2):=rfl
theorem lI{α:Type}{l:List α}{i:Nat}{x:α}(h:l[i]?=some x):l.drop i=x::l.drop (i+1):=by
 obtain⟨hi,e⟩:=List.getElem?_eq_some_iff.1 h;rw[List.drop_eq_getElem_cons hi,e]
def nQ(F:Int->Bool)(sg:Bool)(f:Sv->List Aq×Nat)(S:List Sv)(i:Nat)(c:List Aq):Prop :=
  i<=S.length/\dM F sg f S=(c++(dM F sg f (S.drop i)).1,(dM F sg f (S.drop i)).2)
theorem MZ(F:Int->Bool)(sg:Bool)(f:Sv->List Aq×Nat)(S:List Sv):nQ F sg f S 0 []:=⟨zero_le _,rfl⟩
section
variable{F:Int->Bool}{sg:Bool}{f:Sv->List Aq×Nat}{S:List Sv}{i:Nat}{c:List Aq}(h:nQ F sg f S i c){s:Sv}(hs:S[i]?=some s)
include h hs
theorem IE(hF:F s.mode=false):nQ F sg f S (i+1) c:=by
 have h2:=h.2;rw[lI hs,kf,if_pos hF]at h2;exact⟨(List.getElem?_eq_some_iff.1 hs).1,h2⟩
theorem Nu(hF:F s.mode=true)(he:(f s).2≠0):dM F sg f S=(c++(f s).1,(f s).2):=by
 have h2:=h.2;rw[lI hs,kf,if_neg (by rw[hF];simp),if_pos he]at h2;exact h2
theorem JQ(hF:F s.mode=true)(he:(f s).2=0)(h1:sg=true):dM F sg f S=(c++(f s).1,0):=by
 have h2:=h.2;rw[lI hs,kf,if_neg (by rw[hF];simp),if_neg oz,if_pos h1,he]at h2;exact h2
theorem IA(hF:F s.mode=true)(he:(f s).2=0)(h1:sg=false):nQ F sg f S (i+1) (c++(f s).1):=by
 have h2:=h.2;rw[lI hs,kf,if_neg (by rw[hF];simp),if_neg oz,if_neg (by rw[h1];simp)]at h2;exact⟨(List.getElem?_eq_some_iff.1 hs).1,by rw[h2,append_assoc]⟩
end
theorem L7{F:Int->Bool}{sg:Bool}{f:Sv->List Aq×Nat}{S:List Sv}{c:List Aq}(h:nQ F sg f S S.length c):dM F sg f S=(c,0):=by
 have h2:=h.2;rw[drop_length]at h2;rw[h2];simp[dM]
theorem Pe{l:Li}{xs:List Tn}{G:List Gr}{fo:FuncId}{caps:List AV}{sg:Bool}{o:List Aq}{a:Aq}{g:Gr}(hg:G[a.ms.length]?=some g)(hG:G.length<=100)(hx:xs.length<=100)(hd:g.kind=0->0<=g.driver/\g.driver<xs.length)
  {S:List Sv} {E:Nat} (hS:FP 17 [l.av,i64 a.ms.length,(bD g xs).av,a.av] (.tup [.lst 3 (S.map Sv.av),ba E])) (hSl:S.length<=100)
  {F:Int->Bool} (hF:∀m,FP fo ([i64 a.ms.length,i64 m]++caps) (bl (F m)))
  (hb:∀s∈S,FP 192 [a.av,g.av,s.av] (a.nxt g s).av)
  {f:Sv->List Aq×Nat} {M B:Nat} (hM:∀s∈S,(f s).1.length<=M) (hB:o.length+S.length*M<=B) (ih:∀(o:List Aq),o.length+M<=B->∀s∈S,Con prog 100 [.ptr 1000 0,(a.nxt g s).av] (d9 l xs G fo caps sg 1001 (o.map Aq.av)) (ba (f s).2) (d9 l xs G fo caps sg 900 ((o++(f s).1).map Aq.av))) :
  Con prog 100 [.ptr 1000 0,a.av] (d9 l xs G fo caps sg 1001 (o.map Aq.av)) (ba (if E≠0 then E else(dM F sg f S).2)) (d9 l xs G fo caps sg 900 ((o++(if E≠0 then[]else(dM F sg f S).1)).map Aq.av)):=by
 have hkG:=(List.getElem?_eq_some_iff.1 hg).1;refine gF func100 (fun k z h=>uw oz h) ?_;refine gl ?_;refine gl ?_;refine gC (fun t21=>?_) (fun t21=>?_) (st1:=(3,0));exact absurd t21 (by simp[aa];omega);refine gi (az hg) ?_;refine gt (u5 (N3 hd hx) (be rfl rfl) rfl rfl rfl rfl rfl) ?_;refine gc hS ?_;refine gD ?_;refine gC (fun t54=>?_) (fun t54=>?_) (st1:=(8,0)) (st2:=(77777,0))
 ·have hE:=cq t54;refine gW (Wk.o (sl:=[(4,some (.v .nilIface)),(8,some (ba E))]) (hp:=[(1000,some (.box (er l xs G fo caps sg (.ms 1001 3 0 (o.map Aq.av).length)))),(1001,some (.row 3 (o.map Aq.av)))])) ?_ (8,0);refine gW (Wk.rk (k:=1001) (d:=900) rfl rfl) ?_;refine gR ?_;rw[if_pos hE,if_pos hE,append_nil];exact ak.keep (kM rfl rfl)
 have hE:=b9 t54;refine gW (Wk.of (sl:=[(0,some (.ptr 1000 0)),(3,some (.ptr 3 0)),(5,some (i64 a.ms.length)),(6,some (.ptr 6 0)),(7,some (.lst 3 (S.map Sv.av)))]) (hp:=[(3,some (.box a.cs)),(6,some (.box g.av.cells)),(1000,some (.box (er l xs G fo caps sg (.ms 1001 3 0 ((o++[]).map Aq.av).length)))),(1001,some (.row 3 ((o++[]).map Aq.av)))]) aR (.k (.k (.cons rfl (BlkSub.bL (.cons (.refl _) (.cons (.refl _) (.cons (.refl _) (.cons (.refl _) (.cons (.refl _) (.cons (.refl _) (.cons (.refl _) (.cons (.refl _) (.cons (Sub.of (by simp)) .nil))))))))) rfl) (.cons rfl (BlkSub.of (by rw[append_nil])) .nil))))) ?_ (77777,0)
 refine gW (Wk.rk (k:=1001) (d:=901) rfl rfl) ?_;refine gl ?_;refine fp [0,3,5,6,56,57] [3,6] (fun(i:Nat)(c:List Aq)=>[(58,some (i64 i))]) (fun _ c=>[(1000,some (.box (er l xs G fo caps sg (.ms 901 3 0 ((o++c).map Aq.av).length)))),(901,some (.row 3 ((o++c).map Aq.av)))]) (fun i c=>nQ F sg f S i c/\c.length<=i*M) (fun i _=>S.length-i) 0 ([]) ⟨MZ F sg f S,zero_le _⟩ ?_;rintro i c ⟨hfo,hcl⟩ K1 J1;refine gC (fun t59=>?_) (fun t59=>?_) (st2:=(19,0))
 ·have hin:=aU t59;obtain⟨s,hs⟩:=ay hin;have hsm:=mem_of_getElem? hs;have hfl:=hM s hsm;have hmul:(i+1)*M=i*M+M:=Nat.succ_mul i M;have hmul2:(i+1)*M<=S.length*M:=mul_le_mul_right M hin;refine gi (az hs) ?_;refine gc (hF s.mode) ?_;refine gD ?_;refine gC (fun t70=>?_) (fun t70=>?_) (st2:=(77777,0))
  ·have hFm : F s.mode = false := by simpa using t70
   refine ga aG ?_;exact fi J1 (i+1) c ⟨IE hfo hs hFm,by omega⟩
  have hFm:F s.mode=true:=by simpa using t70
  refine gW (Wk.o (sl:=[(0,some (.ptr 1000 0)),(3,some (.ptr 3 0)),(5,some (i64 a.ms.length)),(6,some (.ptr 6 0)),(10,some (.ptr 10 0)),(56,some (.lst 3 (S.map Sv.av))),(57,some (i64 S.length)),(58,some (i64 i))]) (hp:=[(3,some (.box a.cs)),(6,some (.box g.av.cells)),(10,some (.box s.av.cells)),(1000,some (.box (er l xs G fo caps sg (.ms 901 3 0 ((o++c).map Aq.av).length)))),(901,some (.row 3 ((o++c).map Aq.av)))])) ?_
  refine gc (hb s hsm) ?_;refine gt (aA (Mc (ih (o++c) (by rw[length_append];omega) s hsm)) (be rfl rfl) aC rfl rfl) ?_;refine gC (fun t78=>?_) (fun t78=>?_)
  ·have he:(f s).2≠0:=cq t78;have hR:=Nu hfo hs hFm he;refine gR ?_;rw[if_neg oz,if_neg oz,hR,<- append_assoc];exact ak.keep (kM rfl rfl)
  have he:(f s).2=0:=b9 t78;refine gC (fun t83=>?_) (fun t83=>?_) (st2:=(77777,0))
  ·have h1 : sg = true := by simpa using t83
   have hR:=JQ hfo hs hFm he h1;refine gR ?_;rw[if_neg oz,if_neg oz,hR,<- append_assoc];exact ak.keep (kM rfl rfl)
  have h1:sg=false:=by simpa using t83
  refine gW (Wk.of (sl:=[(0,some (.ptr 1000 0)),(3,some (.ptr 3 0)),(5,some (i64 a.ms.length)),(6,some (.ptr 6 0)),(56,some (.lst 3 (S.map Sv.av))),(57,some (i64 S.length)),(58,some (i64 i))]) (hp:=[(3,some (.box a.cs)),(6,some (.box g.av.cells)),(1000,some (.box (er l xs G fo caps sg (.ms 900 3 0 ((o++(c++(f s).1)).map Aq.av).length)))),(900,some (.row 3 ((o++(c++(f s).1)).map Aq.av)))]) aR (.k (.k (.cons rfl (BlkSub.bL (.cons (.refl _) (.cons (.refl _) (.cons (.refl _) (.cons (.refl _) (.cons (.refl _) (.cons (.refl _) (.cons (.refl _) (.cons (.refl _) (.cons (Sub.of (by rw[append_assoc])) .nil))))))))) rfl) (.cons rfl (BlkSub.of (by rw[append_assoc])) .nil))))) ?_ (77777,0)
  refine gW (Wk.rk (k:=900) (d:=901) rfl rfl) ?_;refine ga aG ?_;exact fi J1 (i+1) (c++(f s).1) ⟨IA hfo hs hFm he h1,by rw[length_append];omega⟩
 have hin:=a6 hfo.1 t59;subst hin;have hR:=L7 hfo;refine gW (Wk.o (sl:=[]) (hp:=[(1000,some (.box (er l xs G fo caps sg (.ms 901 3 0 ((o++c).map Aq.av).length)))),(901,some (.row 3 ((o++c).map Aq.av)))])) ?_ (19,0);refine gW (Wk.rk (k:=901) (d:=900) rfl rfl) ?_;refine gR ?_;rw[if_neg oz,if_neg oz,hR];exact ak.keep (kM rfl rfl)
variable{P:Program}{N:Nat}{R:Array Oper}{s:AS}{pos:String}{after:Array Edge}
end Go.Lw
namespace Go.Lw
open Go.Proofs
theorem nZ(i:Int)(n:Nat):FP 187 [i64 i,i64 n] (bl (bh i n)):=by
 refine ah func187 ?_;refine ae ?_;exact congrArg bl (EI i n)
theorem Md(p q:Mk)(hp:p.ok)(hq:q.ok):FP 188 [p.av,q.av] (bl (decide (p.x.q=q.x.q/\p.y.q=q.y.q))):=by
 refine ah func188 ?_;refine gc (Du p.x q.x hp.x hq.x ((hp.qx.sub hq.qx).qs oz)) ?_;refine bw (fun _=>(Du p.y q.y hp.y hq.y ((hp.qy.sub hq.qy).qs oz))) ?_;refine ae ?_;exact congrArg bl ID
theorem Hj(b:Bd)(hbo:b.ok):FP 186 [b.av] (i64 (if 8<b.pts.length then 4 else eh b.pts.length (dH b.pts):Nat)):=by
 have hll:=hbo.ll;refine ah func186 ?_;refine gl ?_;refine gC (fun t9=>?_) (fun t9=>?_)
 ·have h0:8<b.pts.length:=gX t9;refine ae ?_;rw[if_pos h0];rfl
 have h0:b.pts.length<=8:=fv t9;have e0:(if 8<b.pts.length then 4 else eh b.pts.length (dH b.pts):Nat)=eh b.pts.length (dH b.pts):=if_neg oz;refine aI [1] [1] (fun(p:Nat)=>[(3,some (i64 p))]) (fun _=>[]) (fun p=>p<=b.pts.length/\∀j,j<p->dH b.pts j=0) (fun p=>b.pts.length-p) 0 ⟨zero_le _,fun j h=>by omega⟩ ?_;rintro p ⟨hp,hpj⟩ K1 J1;refine gl ?_;refine gC (fun t14=>?_) (fun t14=>?_)
 ·have hpn:=aU t14;obtain⟨m,hm⟩:=ay hpn;have hmd:b.pts.getD p default=m:=aL hm;have hmm:=mem_of_getElem? hm;have hmdup:=lD Mk.name hm;have hmo:=hbo.pts m hmm;refine gi (az hm) ?_;refine gc (pU m.name (hbo.names m hmm)) ?_;refine gC (fun t25=>?_) (fun t25=>?_)
  ·have h4:=da t25;have e2:dH b.pts p = 5:=by unfold dH; rw [hmd,if_pos h4]
   refine ae ?_;rw[e0,dG hpn hpj (by rw[e2];decide),e2];rfl
  have h4:=cV t25;refine aI [1,3,4] [1,4] (fun(q:Nat)=>[(5,some (i64 q))]) (fun _=>[]) (fun q=>q<=p/\(b.pts.take q).any (fun y=>df y.name m.name)=false) (fun q=>p-q) 0 ⟨zero_le _,rfl⟩ ?_;rintro q ⟨hq,hqd⟩ K2 J2;refine gC (fun t28=>?_) (fun t28=>?_)
  ·have hqn:=aU t28;obtain⟨y,hy⟩:∃y,b.pts[q]?=some y:=ay oz;refine gi (az hy) ?_;refine gD ?_;refine gC (fun t39=>?_) (fun t39=>?_)
   ·have h5:df y.name m.name = true:=t39;have e2:dH b.pts p = 6:=by unfold dH; rw [hmd,if_neg (by rw [h4]; decide),if_pos (by rw [hmdup]; exact jN hy hqn h5)]
    refine ae ?_;rw[e0,dG hpn hpj (by rw[e2];decide),e2];rfl
   have h5:df y.name m.name=false:=t39;refine ga aG ?_;exact aE J2 (q+1) ⟨hqn,js hy hqd h5⟩
  have hqn:=a6 hq t28;subst hqn;have hmnd:¬fw (b.pts.map Mk.name) q=true:=by rw[hmdup,hqd];decide
  refine gc (tf m.x hmo.x) ?_;refine bw (fun _=>(tf m.y hmo.y)) ?_;refine gC (fun t49=>?_) (fun t49=>?_)
  ·have h6:=mb t49;have e2:dH b.pts q = 3:=by unfold dH; rw [hmd,if_neg (by rw [h4]; decide),if_neg hmnd,if_neg (by rintro ⟨g1,g2⟩; rcases h6 with g | g; (rw [g1] at g; cases g); (rw [g2] at g; cases g))]
   refine ae ?_;rw[e0,dG hpn hpj (by rw[e2];decide),e2];rfl
  have h6:=mD t49;have e2:dH b.pts q=0:=by unfold dH;rw[hmd,if_neg (by rw[h4];decide),if_neg hmnd,if_pos h6]
  refine ga aG ?_;exact aE J1 (q+1) ⟨hpn,fun j h9=>by rcases lt_or_ge j q with g |g;exact hpj j g;(have:j=q:=by omega);subst this;exact e2⟩
 have hpn:=a6 hp t14;subst hpn;refine ae ?_;rw[e0,lM hpj];rfl
theorem Hm(l:Li)(hl:l.ok):FP 96 [l.av] (i64 (gn l)):=by
 have hlb:=hl.lb;have e0:gn l=eh l.bo.length (dO l.bo):=rfl;refine ah func96 ?_;refine aI [1] [1] (fun(i:Nat)=>[(3,some (i64 i))]) (fun _=>[]) (fun i=>i<=l.bo.length/\∀j,j<i->dO l.bo j=0) (fun i=>l.bo.length-i) 0 ⟨zero_le _,fun j h=>by omega⟩ ?_;rintro i ⟨hi,hj⟩ K1 J1;refine gl ?_;refine gC (fun t10=>?_) (fun t10=>?_)
 ·have hin:=aU t10;obtain⟨b,hb⟩:=ay hin;have hbd:l.bo.getD i default=b:=aL hb;have hbo:=hl.bo b (mem_of_getElem? hb);have hbdup:=lD Bd.name hb;refine gi (az hb) ?_;refine gc (pU b.name hbo.name) ?_;refine gC (fun t20=>?_) (fun t20=>?_)
  ·have h1:=da t20;have e1:dO l.bo i = 5:=by unfold dO; rw [hbd,if_pos h1]
   refine ae ?_;rw[e0,dG hin hj (by rw[e1];decide),e1];rfl
  have h1:=cV t20;refine aI [1,3] [1] (fun(k:Nat)=>[(4,some (i64 k))]) (fun _=>[]) (fun k=>k<=i/\(l.bo.take k).any (fun y=>df y.name b.name)=false) (fun k=>i-k) 0 ⟨zero_le _,rfl⟩ ?_;rintro k ⟨hk,hd⟩ K2 J2;refine gC (fun t23=>?_) (fun t23=>?_)
  ·have hkn:=aU t23;obtain⟨y,hy⟩:∃y,l.bo[k]?=some y:=ay oz;refine gi (az hy) ?_;refine gi (az hb) ?_;refine gD ?_;refine gC (fun t38=>?_) (fun t38=>?_)
   ·have h2:df y.name b.name = true:=t38;have e1:dO l.bo i = 6:=by unfold dO; rw [hbd,if_neg (by rw [h1]; decide),if_pos (by rw [hbdup]; exact jN hy hkn h2)]
    refine ae ?_;rw[e0,dG hin hj (by rw[e1];decide),e1];rfl
   have h2:df y.name b.name=false:=t38;refine ga aG ?_;exact aE J2 (k+1) ⟨hkn,js hy hd h2⟩
  have hkn:=a6 hk t23;subst hkn;have hnd:¬fw (l.bo.map Bd.name) k=true:=by rw[hbdup,hd];decide
  have e1:dO l.bo k=if 8<b.pts.length then 4 else eh b.pts.length (dH b.pts):=by unfold dO;rw[hbd,if_neg (by rw[h1];decide),if_neg hnd]
  refine gi (az hb) ?_;refine gc (Hj b hbo) ?_;refine gC (fun t46=>?_) (fun t46=>?_)
  ·have h3:=kj t46;refine ae ?_;rw[e0,dG hin hj (by rw[e1];exact h3),e1]
  have h3:=j8 t46;refine ga aG ?_;exact aE J1 (k+1) ⟨hin,fun j h9=>by rcases lt_or_ge j k with g |g;exact hj j g;(have:j=k:=by omega);subst this;exact e1.trans h3⟩
 have hin:=a6 hi t10;subst hin;refine ae ?_;rw[e0,lM hj];rfl
theorem QE(l:Li)(hl:l.ok)(i:Nat)(hi:i<l.jo.length)(h16:l.jo.length<=16):FP 97 [l.av,i64 i] (i64 (fg l i)):=by
 obtain⟨j,hjj⟩:=ay hi;have hbd:l.jo.getD i default=j:=aL hjj;have hbdup:=lD Jt.name hjj;refine ah func97 ?_;refine gi (az hjj) ?_;refine gc (pU j.name (hl.jnames j (mem_of_getElem? hjj))) ?_;refine gC (fun t17=>?_) (fun t17=>?_)
 ·have h0:=da t17;refine ae ?_;unfold fg;rw[hbd,if_pos h0];rfl
 have h0:=cV t17;refine aI [1,2,5] [2,5] (fun(k:Nat)=>[(6,some (i64 k))]) (fun _=>[]) (fun k=>k<=i/\(l.jo.take k).any (fun y=>df y.name j.name)=false) (fun k=>i-k) 0 ⟨zero_le _,rfl⟩ ?_;rintro k ⟨hk,hd⟩ K1 J1;refine gC (fun t20=>?_) (fun t20=>?_)
 ·have hkn:=aU t20;obtain⟨y,hy⟩:∃y,l.jo[k]?=some y:=ay oz;refine gi (az hy) ?_;refine gD ?_;refine gC (fun t31=>?_) (fun t31=>?_)
  ·have h2:df y.name j.name=true:=t31;refine ae ?_;unfold fg;rw[hbd,if_neg (by rw[h0];decide),if_pos (by rw[hbdup];exact jN hy hkn h2)];rfl
  have h2:df y.name j.name=false:=t31;refine ga aG ?_;exact aE J1 (k+1) ⟨hkn,js hy hd h2⟩
 have hkn:=a6 hk t20;subst hkn;have hnd:¬fw (l.jo.map Jt.name) k=true:=by rw[hbdup,hd];decide
 have e1:fg l k=dJ l j:=by unfold fg;rw[hbd,if_neg (by rw[h0];decide),if_neg hnd]
 refine gC (fun t39=>?_) (fun t39=>?_)
 ·have h1:=Fm t39;refine ae ?_;rw[e1];unfold dJ;rw[if_pos h1];rfl
 have h1:=EO t39;refine gl ?_;refine gc (nZ j.a l.bo.length) ?_;refine bH ?_;refine bw (fun _=>(nZ j.b l.bo.length)) ?_;refine gC (fun t55=>?_) (fun t55=>?_)
 ·have h2:=mb t55;refine ae ?_;rw[e1];unfold dJ;rw[if_neg h1,if_pos h2];rfl
 have h2:=mD t55;have h2n:¬(bh j.a l.bo.length=false\/bh j.b l.bo.length=false):=by rw[h2.1,h2.2];simp
 obtain⟨A,hA,pA,mA,zA0⟩:=nT h2.1;obtain⟨B,hB,pB,mB,zB0⟩:=nT h2.2;refine gC (fun t60=>?_) (fun t60=>?_)
 ·have h3:=cP t60;refine ae ?_;rw[e1];unfold dJ;rw[if_neg h1,if_neg h2n,if_pos h3];rfl
 have h3:=dN t60;refine gi (az hA) ?_;refine gi (az hB) ?_;refine gD ?_;refine gl ?_;refine gc (nZ j.point A.pts.length) ?_;refine bH ?_;refine bw (fun _=>(nZ j.on B.pts.length)) ?_;refine gC (fun t88=>?_) (fun t88=>?_)
 ·have h4:=mb t88;refine ae ?_;rw[e1];unfold dJ;rw[if_neg h1,if_neg h2n,if_neg h3,pA,pB,if_pos h4];rfl
 have h4:=mD t88;have h4n:¬(bh j.point A.pts.length=false\/bh j.on B.pts.length=false):=by rw[h4.1,h4.2];simp
 refine gC (fun t91=>?_) (fun t91=>?_)
 ·have h5:=cP t91;refine gC (fun t94=>?_) (fun t94=>?_)
  ·have h6:=pR t94;refine ae ?_;rw[e1];unfold dJ;rw[if_neg h1,if_neg h2n,if_neg h3,pA,pB,if_neg h4n,if_pos h5,if_pos h6];rfl
  have h6:=xd t94;refine ae ?_;rw[e1];unfold dJ;rw[if_neg h1,if_neg h2n,if_neg h3,pA,pB,if_neg h4n,if_pos h5,if_neg (by rw[h6];simp)];rfl
 have h5:=dN t91;refine gl ?_;refine gc (nZ j.to B.pts.length) ?_;refine gC (fun t100=>?_) (fun t100=>?_)
 ·have h6:=da t100;refine ae ?_;rw[e1];unfold dJ;rw[if_neg h1,if_neg h2n,if_neg h3,pA,pB,if_neg h4n,if_neg h5,if_pos h6];rfl
 have h6:=cV t100;obtain⟨m1,g1,d1,mm1,z1⟩:=rW h4.2;obtain⟨m2,g2,d2,mm2,z2⟩:=rW h6;have mo1:=(hl.bo B mB).pts m1 mm1;have mo2:=(hl.bo B mB).pts m2 mm2;refine gi (az g1) ?_;refine gi (az g2) ?_;refine gc (Md m1 m2 mo1 mo2) ?_;refine gD ?_;refine gC (fun t111=>?_) (fun t111=>?_)
 ·have h7:=of_decide_eq_true t111;refine ae ?_;rw[e1];unfold dJ;rw[if_neg h1,if_neg h2n,if_neg h3,pA,pB,if_neg h4n,if_neg h5,if_neg (by rw[h6];decide),d1,d2,if_pos h7];rfl
 have h7:=of_decide_eq_false t111;refine ae ?_;rw[e1];unfold dJ;rw[if_neg h1,if_neg h2n,if_neg h3,pA,pB,if_neg h4n,if_neg h5,if_neg (by rw[h6];decide),d1,d2,if_neg h7];rfl
theorem Hl(l:Li)(hl:l.ok)(i:Nat)(hi:i<l.dv.length)(h2l:l.dv.length<=2):FP 98 [l.av,i64 i] (i64 (dw l i)):=by
 obtain⟨b,hb⟩:=ay hi;have hbd:l.dv.getD i default=b:=aL hb;have hbdup:=lD Dr.name hb;refine ah func98 ?_;refine gi (az hb) ?_;refine gc (pU b.name (hl.dnames b (mem_of_getElem? hb))) ?_;refine gC (fun t16=>?_) (fun t16=>?_)
 ·have h1:=da t16;refine ae ?_;unfold dw;rw[hbd,if_pos h1];rfl
 have h1:=cV t16;refine aI [1,2,5] [2,5] (fun(k:Nat)=>[(6,some (i64 k))]) (fun _=>[]) (fun k=>k<=i/\(l.dv.take k).any (fun y=>df y.name b.name)=false) (fun k=>i-k) 0 ⟨zero_le _,rfl⟩ ?_;rintro k ⟨hk,hd⟩ K1 J1;refine gC (fun t19=>?_) (fun t19=>?_)
 ·have hkn:=aU t19;obtain⟨y,hy⟩:∃y,l.dv[k]?=some y:=ay oz;refine gi (az hy) ?_;refine gD ?_;refine gC (fun t30=>?_) (fun t30=>?_)
  ·have h2:df y.name b.name=true:=t30;refine ae ?_;unfold dw;rw[hbd,if_neg (by rw[h1];decide),if_pos (by rw[hbdup];exact jN hy hkn h2)];rfl
  have h2:df y.name b.name=false:=t30;refine ga aG ?_;exact aE J1 (k+1) ⟨hkn,js hy hd h2⟩
 have hkn:=a6 hk t19;subst hkn;have hnd:¬fw (l.dv.map Dr.name) k=true:=by rw[hbdup,hd];decide
 refine gl ?_;refine gc (nZ b.body l.bo.length) ?_;refine gC (fun t37=>?_) (fun t37=>?_)
 ·have h3:=da t37;refine ae ?_;unfold dw;rw[hbd,if_neg (by rw[h1];decide),if_neg hnd,if_pos h3];rfl
 have h3:=cV t37;refine gC (fun t40=>?_) (fun t40=>?_)
 ·have h4:=cP t40;refine ae ?_;unfold dw;rw[hbd,if_neg (by rw[h1];decide),if_neg hnd,if_neg (by rw[h3];decide),if_pos h4];rfl
 have h4:=dN t40;have e1:dw l k=if(l.dv.take k).any (fun d=>decide (d.body=b.body))=true then 6 else 0:=by unfold dw;rw[hbd,if_neg (by rw[h1];decide),if_neg hnd,if_neg (by rw[h3];decide),if_neg h4]
 refine aI [1,2,5] [2,5] (fun(q:Nat)=>[(7,some (i64 q))]) (fun _=>[]) (fun q=>q<=k/\(l.dv.take q).any (fun d=>decide (d.body=b.body))=false) (fun q=>k-q) 0 ⟨zero_le _,rfl⟩ ?_;rintro q ⟨hq,hqd⟩ K2 J2;refine gC (fun t43=>?_) (fun t43=>?_)
 ·have hqn:=aU t43;obtain⟨y,hy⟩:∃y,l.dv[q]?=some y:=ay oz;refine gi (az hy) ?_;refine gD ?_;refine gC (fun t54=>?_) (fun t54=>?_)
  ·have h5:decide (y.body=b.body)=true:=decide_eq_true (cP t54);refine ae ?_;rw[e1,if_pos (jN hy hqn h5)];rfl
  have h5:decide (y.body=b.body)=false:=decide_eq_false (dN t54);refine ga aG ?_;exact aE J2 (q+1) ⟨hqn,js hy hqd h5⟩
 have hqn:=a6 hq t43;subst hqn;refine ae ?_;rw[e1,hqd];rfl
theorem EF(l:Li)(hl:l.ok):FP 32 [l.av] (i64 (aD l)):=by
 have hlb:=hl.lb;refine ah func32 ?_;refine gc (pU l.name hl.name) ?_;refine gC (fun t11=>?_) (fun t11=>?_)
 ·have h1:=da t11;refine ae ?_;unfold aD;rw[if_pos h1];rfl
 have h1:=cV t11;refine gl ?_;refine gC (fun t15=>?_) (fun t15=>?_)
 ·have h2:=CC t15;refine ae ?_;unfold aD;rw[if_neg (by rw[h1];decide),if_pos h2];rfl
 have h2:=zC t15;refine gl ?_;refine gC (fun t19=>?_) (fun t19=>?_)
 ·have h3:8<l.bo.length:=gX t19;refine ae ?_;unfold aD;rw[if_neg (by rw[h1];decide),if_neg h2,if_pos h3];rfl
 have h3:l.bo.length<=8:=fv t19;have e0:aD l=if gn l≠0 then gn l else if dX l≠0 then dX l else ft l:=by unfold aD;rw[if_neg (by rw[h1];decide),if_neg h2,if_neg oz]
 refine gc (Hm l hl) ?_;refine gC (fun t23=>?_) (fun t23=>?_)
 ·have h4:gn l≠0:=kj t23;refine ae ?_;rw[e0,if_pos h4]
 have h4:gn l=0:=j8 t23;refine gl ?_;refine gC (fun t28=>?_) (fun t28=>?_)
 ·have h5:16 < l.jo.length:=gX t28;have ej:dX l = 4:=by unfold dX; rw [if_pos h5]
  refine ae ?_;rw[e0,if_neg (by rw[h4];simp),if_pos (by rw[ej];decide),ej];rfl
 have h5:l.jo.length<=16:=fv t28;have ej:dX l=eh l.jo.length (fg l):=by unfold dX;rw[if_neg oz]
 refine aI [1] [1] (fun(i:Nat)=>[(4,some (i64 i))]) (fun _=>[]) (fun i=>i<=l.jo.length/\∀j,j<i->fg l j=0) (fun i=>l.jo.length-i) 0 ⟨zero_le _,fun j h=>by omega⟩ ?_;rintro i ⟨hi,hj⟩ K1 J1;refine gl ?_;refine gC (fun t33=>?_) (fun t33=>?_)
 ·have hin:=aU t33;refine gc (QE l hl i hin h5) ?_;refine gC (fun t40=>?_) (fun t40=>?_)
  ·have h6:=kj t40;refine ae ?_;rw[e0,if_neg (by rw[h4];simp),if_pos (by rw[ej,dG hin hj h6];exact h6),ej,dG hin hj h6]
  have h6:=j8 t40;refine ga aG ?_;exact aE J1 (i+1) ⟨hin,fun j h9=>by rcases lt_or_ge j i with g |g;exact hj j g;(have:j=i:=by omega);subst this;exact h6⟩
 have hin:=a6 hi t33;subst hin;have ejz:dX l=0:=ej.trans (lM hj);have e0':aD l=ft l:=by rw[e0,if_neg (by rw[h4];simp),if_neg (by rw[ejz];simp)]
 refine gl ?_;refine gC (fun t45=>?_) (fun t45=>?_)
 ·have h6:2<l.dv.length:=gX t45;refine ae ?_;rw[e0'];unfold ft;rw[if_pos h6];rfl
 have h6:l.dv.length<=2:=fv t45;have ed:ft l=eh l.dv.length (dw l):=by unfold ft;rw[if_neg oz]
 refine aI [1] [1] (fun(k:Nat)=>[(6,some (i64 k))]) (fun _=>[]) (fun k=>k<=l.dv.length/\∀j,j<k->dw l j=0) (fun k=>l.dv.length-k) 0 ⟨zero_le _,fun j h=>by omega⟩ ?_;rintro k ⟨hk,hkj⟩ K2 J2;refine gl ?_;refine gC (fun t50=>?_) (fun t50=>?_)
 ·have hkn:=aU t50;refine gc (Hl l hl k hkn h6) ?_;refine gC (fun t57=>?_) (fun t57=>?_)
  ·have h7:=kj t57;refine ae ?_;rw[e0',ed,dG hkn hkj h7]
  have h7:=j8 t57;refine ga aG ?_;exact aE J2 (k+1) ⟨hkn,fun j h9=>by rcases lt_or_ge j k with g |g;exact hkj j g;(have:j=k:=by omega);subst this;exact h7⟩
 have hkn:=a6 hk t50;subst hkn;refine ae ?_;rw[e0',ed,lM hkj];rfl
theorem P0(l:Li)(hl:l.okw):FP 57 [l.av] (bl (fY l)):=by
 have hbl:=hl.lb;refine ah func57 ?_;refine gl ?_;refine aI [1,8,9] [1] (fun(i:Nat)=>[(10,some (i64 i))]) (fun _=>[]) (fun i=>i<=l.bo.length/\(l.bo.take i).all mK=true) (fun i=>l.bo.length-i) 0 ⟨zero_le _,rfl⟩ ?_;rintro i ⟨hi,hj⟩ K1 J1;refine gC (fun t11=>?_) (fun t11=>?_)
 ·have hin:=aU t11;obtain⟨b,hb⟩:=ay hin;refine gi (az hb) ?_;refine gl ?_;refine gC (fun t17=>?_) (fun t17=>?_)
  ·have h1:30<b.pts.length:=gX t17;refine ae ?_;unfold fY;rw[jF hb (by unfold mK;rw[decide_eq_false oz];rfl)];rfl
  have h1:b.pts.length<=30:=fv t17;refine gl ?_;refine aI [1,8,9,10,19,20] [1] (fun(k:Nat)=>[(21,some (i64 k))]) (fun _=>[]) (fun k=>k<=b.pts.length/\(b.pts.take k).all jC=true) (fun k=>b.pts.length-k) 0 ⟨zero_le _,rfl⟩ ?_;rintro k ⟨hk,hkj⟩ K2 J2;refine gC (fun t22=>?_) (fun t22=>?_)
  ·have hkn:=aU t22;obtain⟨p,hp⟩:=ay hkn;refine gi (az hp) ?_;refine gl ?_;refine bH ?_;refine bH ?_;refine bH ?_;refine gC (fun t50=>?_) (fun t50=>?_)
   ·have h2:jC p=false:=Ph t50;refine ae ?_;unfold fY;rw[jF hb (by unfold mK;rw[jF hp h2,Bool.and_false])];rfl
   have h2:jC p=true:=Hy t50;refine ga aG ?_;exact aE J2 (k+1) ⟨hkn,kG hkj hp h2⟩
  have hkn:=a6 hk t22;refine ga aG ?_;exact aE J1 (i+1) ⟨hin,kG hj hb (by unfold mK;rw[decide_eq_true h1,kO hkn hkj];rfl)⟩
 have hin:=a6 hi t11;refine gl ?_;refine bH ?_;refine bH ?_;refine ae ?_;exact congrArg bl (Lm (kO hin hj))
def jT(r:Rt):Bool:=!(cond (cond (cond (aa .gtr (r.num.length:Int) 1) true (aa .gtr (r.den.length:Int) 1)) true (cond (aa .eql (r.num.length:Int) 1) (aa .gtr (af r.num 0:Int) 400) false)) true
  (cond (aa .eql (r.den.length:Int) 1) (aa .gtr (af r.den 0:Int) 20) false))
theorem Es(rs:List Rt)(hl:rs.length<=1000):FP 184 [.lst 3 (rs.map Rt.av)] (bl (rs.all jT)):=by
 refine ah func184 ?_;refine gl ?_;refine aI [5,6] [] (fun(i:Nat)=>[(7,some (i64 i))]) (fun _=>[]) (fun i=>i<=rs.length/\(rs.take i).all jT=true) (fun i=>rs.length-i) 0 ⟨zero_le _,rfl⟩ ?_;rintro i ⟨hi,hj⟩ K1 J1;refine gC (fun t8=>?_) (fun t8=>?_)
 ·have hin:=aU t8;obtain ⟨r,hr⟩:=ay hin;refine gi (az hr) ?_;refine gl ?_;refine bH ?_;refine bH ?_;refine kA (fun ⟨h,h2⟩=>(bO (by have:=cP h2; have e:Int.toNat 0 = 0:=rfl; omega))) ?_;refine bH ?_;refine kA (fun ⟨h,h2⟩=>(bO (by have:=cP h2; have e:Int.toNat 0 = 0:=rfl; omega))) ?_;refine gC (fun t46=>?_) (fun t46=>?_)
  ·have h1:jT r=false:=congrArg Bool.not t46;refine ae ?_;rw[jF hr h1];rfl
  have h1:jT r=true:=congrArg Bool.not t46;refine ga aG ?_;exact aE J1 (i+1) ⟨hin,kG hj hr h1⟩
 have hin:=a6 hi t8;refine ae ?_;rw[kO hin hj];rfl
def kC(x:Tn):Bool:=decide (x.t.num.length<=1/\x.t.den.length<=1)
def jS(m:Mk):Bool:=decide (m.x.num.length<=1/\m.x.den.length<=1/\m.y.num.length<=1/\m.y.den.length<=1)
def pg(xs:List Tn):Bool:=xs.all (fun x=>[x.t].all jT)
def pV(ps:List Mk):Bool:=ps.all (fun p=>[p.x,p.y].all jT)
def oM(l:Li):Bool:=l.bo.all (fun b=>pV b.pts)
theorem HC(l:Li)(hl:l.ok)(xs:List Tn)(hxl:xs.length<=281474976710656):FP 94 [l.av,.lst 4 (xs.map Tn.av)] (bl (pg xs&&oM l)):=by
 have hlb:=hl.lb;refine ah func94 ?_;refine gl ?_;refine aI [2,11,12] [2] (fun(i:Nat)=>[(13,some (i64 i))]) (fun _=>[]) (fun i=>i<=xs.length/\(xs.take i).all (fun x=>[x.t].all jT)=true) (fun i=>xs.length-i) 0 ⟨zero_le _,rfl⟩ ?_;rintro i ⟨hi,hj⟩ K1 J1;refine gC (fun t14=>?_) (fun t14=>?_)
 ·have hin:=aU t14;obtain ⟨x,hx⟩:=ay hin;refine gi (az hx) ?_;refine gc (Es [x.t] (by show 1 <= _; omega)) ?_;refine gC (fun t21=>?_) (fun t21=>?_)
  ·have h1:=da t21;refine ae ?_;unfold pg;rw[jF hx h1];rfl
  have h1:=cV t21;refine ga aG ?_;exact aE J1 (i+1) ⟨hin,kG hj hx h1⟩
 have hT:pg xs=true:=kO (a6 hi t14) hj;refine gl ?_;refine aI [2,24,25] [2] (fun(i:Nat)=>[(26,some (i64 i))]) (fun _=>[]) (fun i=>i<=l.bo.length/\(l.bo.take i).all (fun b=>pV b.pts)=true) (fun i=>l.bo.length-i) 0 ⟨zero_le _,rfl⟩ ?_;rintro i ⟨hi2,hj2⟩ K2 J2;refine gC (fun t27=>?_) (fun t27=>?_)
 ·have hin:=aU t27;obtain⟨b,hb⟩:=ay hin;have hbl:=(hl.bo b (mem_of_getElem? hb)).ll;refine gi (az hb) ?_;refine gl ?_;refine aI [2,24,25,26,31,32] [2] (fun(k:Nat)=>[(33,some (i64 k))]) (fun _=>[]) (fun k=>k<=b.pts.length/\(b.pts.take k).all (fun p=>[p.x,p.y].all jT)=true) (fun k=>b.pts.length-k) 0 ⟨zero_le _,rfl⟩ ?_;rintro k ⟨hk,hkj⟩ K3 J3;refine gC (fun t34=>?_) (fun t34=>?_)
  ·have hkn:=aU t34;obtain ⟨p,hp⟩:=ay hkn;refine gi (az hp) ?_;refine gc (Es [p.x,p.y] (by show 2 <= _; omega)) ?_;refine gC (fun t43=>?_) (fun t43=>?_)
   ·have h1:=da t43;refine ae ?_;rw[hT];unfold oM;rw[jF hb (by unfold pV;exact jF hp h1)];rfl
   have h1:=cV t43;refine ga aG ?_;exact aE J3 (k+1) ⟨hkn,kG hkj hp h1⟩
  have hP:pV b.pts=true:=kO (a6 hk t34) hkj;refine ga aG ?_;exact aE J2 (i+1) ⟨hin,kG hj2 hb hP⟩
 have hL:oM l=true:=kO (a6 hi2 t27) hj2;refine ae ?_;rw[hT,hL];rfl
def x3(l:Li)(xs:List Tn):Bool :=
  cond (cond (aa .neq (co l:Int) 0) true (aa .leq (((ax l).length:Int)-l.dv.length) 1)) true (cond (aa .eql (((ax l).length:Int)-l.dv.length) 2) (pg xs&&oM l) false)
def jz(l:Li)(xs:List Tn):Bool :=
  (fY l&&decide (xs.length<=20))&&(xs.all kC&&(l.bo.all (fun b=>b.pts.all jS)&&(if aD l=0 then x3 l xs else true)))
theorem Jv{l:Li}{n:Nat}(h:cond (!fY l) true (aa .gtr (n:Int) 20)=true):(fY l&&decide (n<=20))=false:=by
 cases hb:fY l
 ·rfl
 ·rw[hb]at h;have h1:20<n:=gX (b:=20) h;rw[decide_eq_false oz];rfl
theorem OL{l:Li}{n:Nat}(h:cond (!fY l) true (aa .gtr (n:Int) 20)=false):fY l=true/\n<=20:=by
 cases hb:fY l
 ·rw[hb]at h;cases h
 ·rw[hb]at h;exact⟨rfl,fv (b:=20) h⟩
theorem Fn{x:Tn}:cond (aa .gtr (x.t.num.length:Int) 1) true (aa .gtr (x.t.den.length:Int) 1)=!kC x:=by
 unfold kC;have e1:=jQ (n:=x.t.num.length) (k:=1);have e2:=jQ (n:=x.t.den.length) (k:=1);rw[gd];refine(congr (congrArg _ e1) e2).trans ?_;rw[<- Bool.decide_or,<- decide_not];exact decide_eq_decide.2 oz
theorem DB{m:Mk}:cond (cond (cond (aa .gtr (m.x.num.length:Int) 1) true (aa .gtr (m.x.den.length:Int) 1)) true (aa .gtr (m.y.num.length:Int) 1)) true (aa .gtr (m.y.den.length:Int) 1)=!jS m:=by
 unfold jS;have e1:=jQ (n:=m.x.num.length) (k:=1);have e2:=jQ (n:=m.x.den.length) (k:=1);have e3:=jQ (n:=m.y.num.length) (k:=1);have e4:=jQ (n:=m.y.den.length) (k:=1);rw[gd,gd,gd];refine(congr (congrArg _ (congr (congrArg _ (congr (congrArg _ e1) e2)) e3)) e4).trans ?_;rw[<- Bool.decide_or,<- Bool.decide_or,<- Bool.decide_or,<- decide_not];exact decide_eq_decide.2 oz
theorem mt{l:Li}(hl:aD l=0):(ax l).length<=8:=by
 unfold ax;split
 ·exact(qI hl).2
 ·exact zero_le _
theorem P8(l:Li)(hw:l.okw)(xs:List Tn)(hxl:xs.length<=281474976710656):FP 31 [l.av,.lst 4 (xs.map Tn.av)] (bl (jz l xs)):=by
 refine ah func31 ?_;refine gc (P0 l hw) ?_;refine bH ?_;refine gC (fun t21=>?_) (fun t21=>?_)
 ·have h1:=Jv t21;refine ae ?_;unfold jz;rw[h1];rfl
 obtain⟨g1,g2⟩:=OL t21;have hl:=ss g1 hw;have hlb:=hl.lb;refine gl ?_;refine aI [1,2,22,23] [2] (fun(i:Nat)=>[(24,some (i64 i))]) (fun _=>[]) (fun i=>i<=xs.length/\(xs.take i).all kC=true) (fun i=>xs.length-i) 0 ⟨zero_le _,rfl⟩ ?_;rintro i ⟨hi,hj⟩ K1 J1;refine gC (fun t25=>?_) (fun t25=>?_)
 ·have hin:=aU t25;obtain⟨x,hx⟩:=ay hin;refine gi (az hx) ?_;refine gl ?_;refine bH ?_;refine gC (fun t39=>?_) (fun t39=>?_)
  ·have h1 : kC x = false := by rw [Fn] at t39; exact da t39
   refine ae ?_;unfold jz;rw[g1,decide_eq_true g2,jF hx h1];rfl
  have h1:kC x=true:=by rw[Fn]at t39;exact cV t39
  refine ga aG ?_;exact aE J1 (i+1) ⟨hin,kG hj hx h1⟩
 have hT:xs.all kC=true:=kO (a6 hi t25) hj;refine gl ?_;refine aI [1,2,42,43] [2] (fun(i:Nat)=>[(44,some (i64 i))]) (fun _=>[]) (fun i=>i<=l.bo.length/\(l.bo.take i).all (fun b=>b.pts.all jS)=true) (fun i=>l.bo.length-i) 0 ⟨zero_le _,rfl⟩ ?_;rintro i ⟨hi2,hj2⟩ K2 J2;refine gC (fun t45=>?_) (fun t45=>?_)
 ·have hin:=aU t45;obtain⟨b,hb⟩:=ay hin;have hbl:=(hl.bo b (mem_of_getElem? hb)).ll;refine gi (az hb) ?_;refine gl ?_;refine aI [1,2,42,43,44,49,50] [2] (fun(k:Nat)=>[(51,some (i64 k))]) (fun _=>[]) (fun k=>k<=b.pts.length/\(b.pts.take k).all jS=true) (fun k=>b.pts.length-k) 0 ⟨zero_le _,rfl⟩ ?_;rintro k ⟨hk,hkj⟩ K3 J3;refine gC (fun t52=>?_) (fun t52=>?_)
  ·have hkn:=aU t52;obtain⟨p,hp⟩:=ay hkn;refine gi (az hp) ?_;refine gl ?_;refine bH ?_;refine bH ?_;refine bH ?_;refine gC (fun t80=>?_) (fun t80=>?_)
   ·have h1 : jS p = false := by rw [DB] at t80; exact da t80
    refine ae ?_;unfold jz;rw[g1,decide_eq_true g2,hT,jF hb (jF hp h1)];rfl
   have h1:jS p=true:=by rw[DB]at t80;exact cV t80
   refine ga aG ?_;exact aE J3 (k+1) ⟨hkn,kG hkj hp h1⟩
  have hP:b.pts.all jS=true:=kO (a6 hk t52) hkj;refine ga aG ?_;exact aE J2 (i+1) ⟨hin,kG hj2 hb hP⟩
 have hL:l.bo.all (fun b=>b.pts.all jS)=true:=kO (a6 hi2 t45) hj2;refine gc (EF l hl) ?_;refine gC (fun t85=>?_) (fun t85=>?_)
 ·have h1:=kj t85;refine ae ?_;unfold jz;rw[g1,decide_eq_true g2,hT,hL,if_neg h1];rfl
 have h1:=j8 t85;have hsl:=mt h1;have hld:=hl.ld;refine gc (Br l hl h1) ?_;refine gl ?_;refine gl ?_;refine ga (cU oz) ?_;refine bw (fun _=>(HC l hl xs hxl)) ?_;refine ae ?_;unfold jz x3;rw[g1,decide_eq_true g2,hT,hL,if_pos h1];rfl
section
variable{l:Li}{xs:List Tn}{s g:Nat}(W:WkC l xs s g){k:Nat}{gr:Gr}(hg:(ax l)[k]?=some gr){j r E:Nat}{a:Aq}(Q:QInv l j r E a){n y:Nat}(ok:d7 s g (n+1) y j r E=true)(hy:gr.kind≠0->0<y)
include W hg Q ok hy
theorem Jm:∃F,F<=20000000000/\ru F l k a.as false/\AB a.as/\(Lw.llq a.as.rs).length<=2/\(gr.kind≠0->F=3900000/\DyS a.as):=by
 obtain⟨⟨hE,hr,hj⟩,_⟩:=qd ok;have h3:(Lw.llq a.as.rs).length<=2:=by rw[a.llq];have:=Q.lv;omega
 have al:=Q.ab W.li (by omega:E<=50000000000) hr
 by_cases hk:gr.kind=0
 ·exact⟨E,hE,Q.sma oz (le_refl _) k false,al,h3,fun h=>absurd hk h⟩
 ·have hy:=hy hk;obtain ⟨y',rfl⟩:∃ y',y = y' + 1:=⟨y - 1,by omega⟩
  obtain⟨⟨hj,hE,hr,hX,hJ⟩,_⟩:=qg ok;exact⟨3900000,by omega,Q.sma oz hE k false,al,h3,fun _=>⟨rfl,QInv.dyS W hg Q hr hj⟩⟩
theorem IJ:sE l k (bD gr xs) a.as=((cD l a.as gr (bD gr xs)).map Sv.av,jI l a.as gr (bD gr xs)):=by
 have _:=ok;have _:=hy;unfold sE;have hgA:ip l (k:Nat)=gr:=aL hg;rw[if_pos (Q.dy0 W.li W.sp hg false),hgA];exact Prod.ext (Js _ _ _ _) rfl
theorem Hb:FP 17 [l.av,i64 k,(bD gr xs).av,a.av] (.tup [.lst 3 ((cD l a.as gr (bD gr xs)).map Sv.av),ba (jI l a.as gr (bD gr xs))]):=by
 obtain⟨F,hF,hs,al,h3,hR⟩:=Jm W hg Q ok hy;have hgA:ip l (k:Nat)=gr:=aL hg;have h:=OD l W.hl k (W.tn hg).1 (W.tn hg).2.1 a.as al (fun _=>h3) hF hs (fun _ h=>hR (by rw[hgA]at h;exact h));rw[IJ W hg Q ok hy,a.as_av]at h;exact h
theorem L3:∃y' j' r' E',d7 s g n y' j' r' E'=true/\(y'+(if gr.kind≠0 then 1 else 0)=y)/\∀sv∈cD l a.as gr (bD gr xs),QInv l j' r' E' (a.nxt gr sv):=by
 by_cases hk:gr.kind=0
 ·exact⟨y,j,r,_,(qd ok).2,by simp[hk],Q.drv W hg ok hk⟩
 ·have hy:=hy hk;obtain ⟨y',rfl⟩:∃ y',y = y' + 1:=⟨y - 1,by omega⟩
  exact⟨y',j+1,_,_,(qg ok).2,by simp[hk],Q.dy W hg ok hk⟩
end
def fh(g:Gr):Bool:=decide (g.kind≠0)
theorem yF{F:Int->Bool}{sg:Bool}{f:Sv->List Aq×Nat}{M:Nat}:∀{S:List Sv},(∀s∈S,(f s).1.length<=M)->(dM F sg f S).1.length<=S.length*M
 |[],h=>zero_le _
 |s::S,h=>by
  have h1:=h s mem_cons_self;have h2:=yF (F:=F) (sg:=sg) (S:=S) (fun x hx=>h x (mem_cons_of_mem _ hx));rw[kf,length_cons,Nat.succ_mul];split
  ·omega
  ·split
   ·omega
   ·split
    ·omega
    ·simp only[length_append];omega
structure WkSt(l:Li)(s g n:Nat)(a:Aq):Prop where
  st:∃j r E y,QInv l j r E a/\d7 s g n y j r E=true/\((ax l).drop a.ms.length).countP fh<=y
  ln:a.ms.length+n=(ax l).length
theorem WkSt.next{l:Li}{xs:List Tn}{s g n:Nat}(W:WkC l xs s g){a:Aq}(h:WkSt l s g (n+1) a):∃gr,(ax l)[a.ms.length]?=some gr /\
  FP 17 [l.av,i64 a.ms.length,(bD gr xs).av,a.av] (.tup [.lst 3 ((cD l a.as gr (bD gr xs)).map Sv.av),ba (jI l a.as gr (bD gr xs))]) /\
  SolP (cD l a.as gr (bD gr xs)) gr.kind a.ts.length gr.bo.length/\∀sv∈cD l a.as gr (bD gr xs),WkSt l s g n (a.nxt gr sv):=by
 obtain⟨⟨j,r,E,y,Q,ok,hc⟩,hl⟩:=h;obtain⟨gr,hg⟩:=ay (l:=ax l) (i:=a.ms.length) oz;have hdr:=lI hg;rw[hdr,List.countP_cons]at hc
 have hy:gr.kind≠0->0<y:=fun hk=>by
  have:fh gr=true:=decide_eq_true hk;rw[if_pos this]at hc;omega
 obtain⟨y',j',r',E',ok',ey,hQ⟩:=L3 W hg Q ok hy;refine⟨gr,hg,Hb W hg Q ok hy,Ip W hg Q ok hy,fun sv hsv=>⟨⟨j',r',E',y',hQ sv hsv,ok',?_⟩,?_⟩⟩
 ·have e : (a.nxt gr sv).ms.length = a.ms.length + 1 := by show (a.ms ++ [sv.mode]).length = _; simp
  rw[e]
  by_cases hk:gr.kind=0
  ·have h1 : fh gr = false := by unfold fh; simp [hk]
   simp only[hk,ne_eq,not_true_eq_false,if_false]at ey;rw[h1]at hc;simp only[Bool.false_eq_true,if_false]at hc;omega
  ·have h1:fh gr=true:=decide_eq_true hk;rw[if_pos hk]at ey;rw[if_pos h1]at hc;omega
 ·show(a.ms++[sv.mode]).length+n=_;rw[length_append];simp only[length_cons,length_nil];omega
theorem wP{l:Li}{xs:List Tn}{s g:Nat}(W:WkC l xs s g)(F:Nat->Int->Bool)(sg:Bool):∀(n:Nat)(a:Aq),WkSt l s g n a->(dr F sg l xs (ax l) n a).1.length<=2^n
 |0,a,h=>le_refl _
 |n+1,a,h=>by
  obtain⟨gr,hg,_,hP,hn⟩:=h.next W;unfold dr;rw[aL hg];split
  ·exact zero_le _
  ·have h1:=yF (F:=F a.ms.length) (sg:=sg) (f:=fun sv=>dr F sg l xs (ax l) n (a.nxt gr sv)) (M:=2^n) (S:=cD l a.as gr (bD gr xs)) (fun sv hsv=>wP W F sg n _ (hn sv hsv));have h2:=mul_le_mul_right (2^n) hP.two;rw[Nat.pow_succ];omega
theorem ux{l:Li}{xs:List Tn}{s g:Nat}(W:WkC l xs s g)(F:Nat->Int->Bool)(sg:Bool){fo:FuncId}{caps:List AV}(hF:∀(k:Nat)(m:Int),k<(ax l).length->FP fo ([i64 k,i64 m]++caps) (bl (F k m))) :
  ∀(n:Nat)(a:Aq),WkSt l s g n a->∀o:List Aq,o.length+2^n<=1000 ->
   Con prog 100 [.ptr 1000 0,a.av] (d9 l xs (ax l) fo caps sg 1001 (o.map Aq.av)) (ba (dr F sg l xs (ax l) n a).2) (d9 l xs (ax l) fo caps sg 900 ((o++(dr F sg l xs (ax l) n a).1).map Aq.av))
 |0,a,h,o,ho=>by
  have hG:(ax l).length<=100:=by have:=mt W.li;omega
  obtain⟨⟨j,r,E,y,Q,ok,_⟩,hl⟩:=h;obtain⟨hE,_,_⟩:=yW ok;have hlb:=(c9 W.li).2.2.2.1;have hln:=Q.ln;have h3:=Q.tw.three;obtain⟨D,N,hD,hts,h1,h2⟩:=Q.tw.rb
  exact LB oz hG oz (LS (e:=5000000000+E) Q.tw.five (fun x hx=>by
   obtain⟨i,hi⟩:=List.getElem?_of_mem hx;have hi2:=(List.getElem?_eq_some_iff.1 hi).1;have h9:=Q.tw.len i hi2;rw[aL hi]at h9;exact⟨Q.tw.five,.inr ⟨i,by omega,h9⟩,D,N,hts x hx,le_trans h1 (bJ (by have:=Q.tw.le;omega)),le_trans h2 (bJ (by have:=Q.tw.le;omega))⟩)
   (fun p hp=>(Q.bs p hp).up (le_refl _) Q.tw.five oz) oz oz oz oz)
 |n+1,a,h,o,ho=>by
  have hG:(ax l).length<=100:=by have:=mt W.li;omega
  have hlb:=(c9 W.li).2.2.2.1;have hln:=h.ln;obtain⟨j,r,E,y,Q,ok,_⟩:=h.st;obtain⟨gr,hg,hS,hP,hn⟩:=h.next W;obtain⟨hdy,hgo⟩:=rh W.li (mem_of_getElem? hg);have h2:=uZ W.li;have hxl:=W.ln;have hQl:=Q.ln;have hgb:=hgo.lb
  have key := Pe (l := l) (xs := xs) (G := ax l) (fo := fo) (caps := caps) (sg := sg) (o := o) hg hG oz (fun hk => by rw [hxl]; exact Ax hdy hk) hS (by have := hP.two; omega) (F := F a.ms.length) (fun m => hF _ m oz)
   (fun sv hsv => IP (fun b hb => by rw [hQl]; exact hgo.b b hb) (by
    obtain⟨i,hi⟩:=List.getElem?_of_mem hsv;exact(hP.md i sv hi).2.2) oz oz oz)
   (f:=fun sv=>dr F sg l xs (ax l) n (a.nxt gr sv)) (M:=2^n) (B:=1000) (fun sv hsv=>wP W F sg n _ (hn sv hsv)) (by have:=mul_le_mul_right (2^n) hP.two;rw[Nat.pow_succ]at ho;omega)
   (fun o' ho' sv hsv=>ux W F sg hF n _ (hn sv hsv) o' ho')
  have e:dr F sg l xs (ax l) (n+1) a=(if jI l a.as gr (bD gr xs)≠0 then([],jI l a.as gr (bD gr xs))else dM (F a.ms.length) sg (fun sv=>dr F sg l xs (ax l) n (a.nxt gr sv)) (cD l a.as gr (bD gr xs))):=by
   conv=>lhs;unfold dr
   rw[aL hg]
  rw[e]
  by_cases hE:jI l a.as gr (bD gr xs)≠0
  ·rw[if_pos hE]at key ⊢;rw[if_pos hE]at key;exact key
  ·rw[if_neg hE]at key ⊢;rw[if_neg hE]at key;exact key
abbrev oQ(l:Li)(xs:List Tn)(G:List Gr)(fo:FuncId)(caps:List AV)(sg:Bool)(k0 k:Nat)(es:List AV):Hp :=
  [(k0,some (.box (er l xs G fo caps sg (.ms k 3 0 es.length)))),(k,some (.row 3 es))]
def uR(k:Nat):Nat:=bif Nat.beq k 1000 then 902 else bif Nat.beq k 902 then 1000 else ol k
theorem ug{a b:Nat}(h:¬a=b):Nat.beq a b=false:=by
 cases h1:Nat.beq a b
 ·rfl
 ·exact absurd (eq_of_beq_eq_true h1) h
theorem CJ(k:Nat):uR (uR k)=k:=by
 by_cases h1:k=1000
 ·subst h1;rfl
 by_cases h2:k=902
 ·subst h2;rfl
 by_cases h3:k=1001
 ·subst h3;rfl
 by_cases h4:k=901
 ·subst h4;rfl
 have e:uR k=k:=by simp only[uR,ol,ug h1,ug h2,ug h3,ug h4,cond_false]
 rw[e,e]
theorem BO{l:Li}{xs:List Tn}{G:List Gr}{fo:FuncId}{caps:List AV}{sg:Bool}{es:List AV}(h0:0<l.bo.length)(hl:l.bo.length<=100) :
  Con prog 101 [.ptr 902 0] (oQ l xs G fo caps sg 902 901 es) (dA l).av (oQ l xs G fo caps sg 902 901 es):=Con.pm CJ (Oo h0 hl)
theorem Aj{l:Li}{xs:List Tn}{G:List Gr}{fo:FuncId}{caps:List AV}{sg:Bool}{es es':List AV}{a:Aq}{e:Nat}
  (h:Con prog 100 [.ptr 1000 0,a.av] (d9 l xs G fo caps sg 1001 es) (ba e) (d9 l xs G fo caps sg 900 es')) :
  Con prog 100 [.ptr 902 0,a.av] (oQ l xs G fo caps sg 902 901 es) (ba e) (oQ l xs G fo caps sg 902 900 es'):=Con.pm CJ h
def eA:Nat->Int->Bool:=fun _ _=>true
def gK(F:Nat->Int->Bool)(sg:Bool)(l:Li)(xs:List Tn):List Aq×Nat:=dr F sg l xs (ax l) (ax l).length (dA l)
theorem KZ{l:Li}{xs:List Tn}(h0:cE l xs≠0)(hop:Con prog 99 [l.av,.lst 4 (xs.map Tn.av)] [] (.tup [nJ (cE l xs),ba (cE l xs)]) (rI (cE l xs) l xs)) :
  FP 33 [l.av,.lst 4 (xs.map Tn.av)] (.tup [.lst 3 [],ba (cE l xs)]):=by
 rw[jZ h0,ue h0]at hop;refine ah func33 ?_;refine gc hop ?_;refine gC (fun t16=>?_) (fun t16=>?_) (st2:=(77777,0))
 ·refine gR ?_;exact cT (Sub.tup (.cons (.nil _ _ _) (.cons (.refl _) .nil)))
 exact absurd (b9 t16) h0
theorem E7{l:Li}{xs:List Tn}(h0:cE l xs=0)(hop:Con prog 99 [l.av,.lst 4 (xs.map Tn.av)] [] (.tup [nJ (cE l xs),ba (cE l xs)]) (rI (cE l xs) l xs))(hb:0<l.bo.length)(hl:l.bo.length<=100)
  {R:List Aq×Nat} (hw:Con prog 100 [.ptr 1000 0,(dA l).av] (d9 l xs (ax l) 189 [] false 1001 []) (ba R.2) (d9 l xs (ax l) 189 [] false 900 (R.1.map Aq.av))) :
  FP 33 [l.av,.lst 4 (xs.map Tn.av)] (.tup [.lst 3 ((if R.2≠0 then[]else R.1).map Aq.av),ba R.2]):=by
 rw[h0]at hop;have hop:Con prog 99 [l.av,.lst 4 (xs.map Tn.av)] [] (.tup [.ptr 900 0,.v .nilIface]) [(900,some (.box (er l xs (ax l) 189 [] false (nS))))]:=hop;refine ah func33 ?_;refine gt (aA hop (be rfl rfl) aC rfl rfl) ?_;refine gC (fun t16=>?_) (fun t16=>?_) (st1:=(3,0)) (st2:=(77777,0));cases t16;refine gW (Wk.o (sl:=[(6,some (.ptr 900 0))]) (hp:=[(900,some (.box (er l xs (ax l) 189 [] false (nS))))])) ?_ (77777,0);refine gW (Wk.rk (k:=900) (d:=902) rfl rfl) ?_ (77777,0);refine gW (Wk.virt 901 3 rfl) ?_ (77777,0);refine gW (Wk.of (sl:=[(6,some (.ptr 902 0))]) (hp:=oQ l xs (ax l) 189 [] false 902 901 []) (.k .nil) (.cons rfl (BlkSub.bL (.cons (.refl _) (.cons (.refl _) (.cons (.refl _) (.cons (.refl _) (.cons (.refl _) (.cons (.refl _) (.cons (.refl _) (.cons (.refl _) (.cons (Sub.nM _ _ _) .nil))))))))) rfl) (.k .nil))) ?_;refine gt (u5 (BO hb hl) (cf rfl) rfl rfl rfl rfl rfl) ?_;refine gt (aA (Aj hw) (be rfl rfl) aC rfl rfl) ?_;refine gC (fun t23=>?_) (fun t23=>?_) (st2:=(77777,0))
 ·have hE:=cq t23;refine gR ?_;exact cT (by rw[if_pos hE];exact Sub.tup (.cons (.nil _ _ _) (.cons (.refl _) .nil)))
 have hE:=b9 t23;refine gW ((Wk.freeze (k:=900) rfl).trans<|Wk.of (sl:=[(6,some (.ptr 902 0))]) (hp:=[(902,some (.box (er l xs (ax l) 189 [] false (.lst 3 (R.1.map Aq.av)))))]) aR (.cons rfl (BlkSub.bL (.cons (.refl _) (.cons (.refl _) (.cons (.refl _) (.cons (.refl _) (.cons (.refl _) (.cons (.refl _) (.cons (.refl _) (.cons (.refl _) (.cons (Sub.of (bB rfl)) .nil))))))))) rfl) .nil)) ?_;refine gR ?_;exact cT (Sub.of (by rw[if_neg oz,hE];rfl))
theorem Rt.qbV{r:Rt}{e:Nat}(h:r.ok)(he:1<=e)(hn:val r.num<2^e)(hd:val r.den<2^e):Qb e r.q:=by
 by_cases h0:r.valid=true/\r.num≠[]
 ·obtain⟨h1,h2,h3,h4,h5,h6⟩:=Rt.parts h h0.1 h0.2;refine⟨?_,?_⟩
  ·have : r.q.num.natAbs = val r.num := by rw [h1]; unfold sgn; split <;> omega
   rw[this];exact hn
  ·rw[h2];exact hd
 ·rw[Rt.zero h0];exact Qb.zero.mono he
theorem Fc{l:List Nat}{b e:Nat}(h:¬1<l.length)(hb:l.length=1->af l 0<=b)(he:b<2^e):val l<2^e:=by
 match l with
 |[]=>exact lt_of_le_of_lt (zero_le b) he
 |[x] =>
  have h1:x<=b:=hb rfl;have h2:val [x]=x:=by simp[val]
  rw[h2];omega
 |_::_::_=>simp at h
theorem yr{r:Rt}(h:r.ok)(hl:jT r=true):Qb 9 r.q:=by
 unfold jT at hl;rw[gd,gd,gd,Bool.not_eq_true',Bool.or_eq_false_iff,Bool.or_eq_false_iff,Bool.or_eq_false_iff]at hl;obtain⟨⟨⟨h1,h2⟩,h3⟩,h4⟩:=hl;have g1:r.num.length<=1:=fv (b:=1) h1;have g2:r.den.length<=1:=fv (b:=1) h2;refine Rt.qbV h oz (Fc (b:=400) oz (fun hh=>?_) (by decide)) (Fc (b:=20) oz (fun hh=>?_) (by decide))
 ·rw[hh]at h3;exact fv (b:=400) h3
 ·rw[hh]at h4;exact fv (b:=20) h4
theorem M8{l:Li}{xs:List Tn}(h:cE l xs=0):aD l=0/\co l=0/\xs.length=l.dv.length/\∀x∈xs,x.err=0:=by
 unfold cE at h;split at h
 ·rename_i h1;exact absurd h h1
 ·rename_i h1;have h1:=Decidable.not_not.1 h1;unfold pM at h;split at h
  ·rename_i h2;exact absurd h h2
  ·rename_i h2;have h2:=Decidable.not_not.1 h2;split at h
   ·cases h
   ·rename_i h3;exact⟨h1,h2,Decidable.not_not.1 h3,fun x hx=>mR h _ (List.mem_map.2 ⟨x,hx,rfl⟩)⟩
theorem FI(gs:List Gr):gs.countP fh+gs.countP (fun g=>decide (g.kind=0))=gs.length:=by
 induction gs with
 |nil=>rfl
 |cons g gs ih =>
  rw[List.countP_cons,List.countP_cons,length_cons]
  by_cases hk:g.kind=0
  ·have h1 : fh g = false := by unfold fh; simp [hk]
   rw[h1];simp only[hk,decide_true,Bool.false_eq_true,if_false,if_true];omega
  ·have h1:fh g=true:=decide_eq_true hk;rw[h1];simp only[hk,decide_false,Bool.false_eq_true,if_false,if_true];omega
theorem tx{s g:Nat}:∀{n m y y' j r E:Nat},d7 s g n y j r E=true->m<=n->y'<=y->d7 s g m y' j r E=true
 |n,0,y,y',j,r,E,h,hm,hy=>by
  have h1:=yW h;exact decide_eq_true h1
 |n+1,m+1,y,y',j,r,E,h,hm,hy=>by
  have h1:=qd h;unfold d7;simp only[and_eq_true,or_eq_true,decide_eq_true_eq];refine⟨h1.1,tx h1.2 oz hy,?_⟩
  by_cases hz:y'=0
  ·exact .inl hz
  ·right;obtain ⟨y2,rfl⟩:∃ y2,y = y2 + 1:=⟨y - 1,by omega⟩
   have h2:=qg h;exact⟨h2.1,tx h2.2 oz oz⟩
theorem PZ{l:Li}{xs:List Tn}(hL:jz l xs=true)(hl:l.ok)(hxw:∀x∈xs,x.t.wok)(h0:cE l xs=0):∃s g,WkC l xs s g/\WkSt l s g (ax l).length (dA l):=by
 obtain⟨hli,hsp,hln,hxe⟩:=M8 h0;unfold jz at hL;simp only[and_eq_true,decide_eq_true_eq]at hL;obtain⟨⟨_,_⟩,hT,hM,hR⟩:=hL;rw[all_eq_true]at hT hM;rw[if_pos hli]at hR;unfold x3 at hR;rw[gd,gd,gN]at hR;have hdl:=EV hli hsp;have hd2:=uZ hli;have hcn:=FI (ax l)
 have hxo:∀x∈xs,x.t.ok/\Qb 32 x.t.q:=fun x hx=>by
  have h9:=hT x hx;unfold kC at h9;rw[decide_eq_true_eq]at h9;have ho:=(hxw x hx).ok h9.1 h9.2 oz;exact⟨ho,(Rt.qb ho (k:=1) oz h9.1 h9.2).mono oz⟩
 have hstart:∀(s g n y:Nat),d7 s g n y 0 0 2=true->(ax l).length<=n->(ax l).countP fh<=y->WkSt l s g (ax l).length (dA l):=fun s g n y ok h1 h2 =>
  ⟨⟨0,0,2,y,B2 l,tx ok h1 (le_refl _),h2⟩,Nat.zero_add _⟩
 by_cases hn:(ax l).length<=l.dv.length+1
 ·refine⟨32,134,⟨hl,hli,hsp,?_,hln,fun x hx=>?_⟩,hstart 32 134 3 1 Dz oz oz⟩
  ·intro b hb m hm;have h9:=hM b hb;rw[all_eq_true]at h9;have h8:=h9 m hm;unfold jS at h8;rw[decide_eq_true_eq]at h8;have ho:=(hl.bo b hb).pts m hm;exact⟨(Rt.qb ho.x (k:=1) oz h8.1 h8.2.1).mono oz,(Rt.qb ho.y (k:=1) oz h8.2.2.1 h8.2.2.2).mono oz⟩
  ·obtain⟨h1,h2⟩:=hxo x hx;exact⟨h1,hxe x hx,h2.mono oz,Cb.one (rX h2),Cb.one (rD h2)⟩
 ·have hlow:(ax l).length=l.dv.length+2/\pg xs=true/\oM l=true:=by
   simp only[or_eq_true,and_eq_true]at hR;rcases hR with(h9 |h9) |⟨h9,h8⟩
   ·rw[hsp]at h9;exact absurd h9 (by simp[aa])
   ·have : ((ax l).length : Int) - l.dv.length <= 1 := by simpa [aa] using h9
    omega
   ·have : ((ax l).length : Int) - l.dv.length = 2 := by simpa [aa] using h9
    exact⟨by omega,h8.1,h8.2⟩
  obtain⟨hlen,hlT,hlL⟩:=hlow;refine⟨9,42,⟨hl,hli,hsp,?_,hln,fun x hx=>?_⟩,hstart 9 42 4 2 MT oz oz⟩
  ·intro b hb m hm;unfold oM at hlL;rw[all_eq_true]at hlL;have h9:=hlL b hb;unfold pV at h9;rw[all_eq_true]at h9;have h8:=h9 m hm;simp only[List.all_cons,List.all_nil,Bool.and_true,and_eq_true]at h8;have ho:=(hl.bo b hb).pts m hm;exact⟨yr ho.x h8.1,yr ho.y h8.2⟩
  ·obtain⟨h1,h2⟩:=hxo x hx;unfold pg at hlT;rw[all_eq_true]at hlT;have h8:=hlT x hx;simp only[List.all_cons,List.all_nil,Bool.and_true]at h8;have h9:=yr h1 h8;exact⟨h1,hxe x hx,h2.mono oz,Cb.one (rX h9),Cb.one (rD h9)⟩
def i9(modes:List Int):Nat->Int->Bool:=fun k m=>decide (m=modes.getD k 0)
theorem MN{l:Li}{xs:List Tn}{modes:List Int}(hml:modes.length<=100)(h0:cE l xs=0)(hop:Con prog 99 [l.av,.lst 4 (xs.map Tn.av)] [] (.tup [nJ (cE l xs),ba (cE l xs)]) (rI (cE l xs) l xs))(hb:0<l.bo.length)(hl:l.bo.length<=100)(hsl:(ax l).length<=100)
  {R:List Aq×Nat} (hw:modes.length=(ax l).length->Con prog 100 [.ptr 1000 0,(dA l).av] (d9 l xs (ax l) 111 [.iptr [.lst 1 (modes.map i64)]] true 1001 []) (ba R.2) (d9 l xs (ax l) 111 [.iptr [.lst 1 (modes.map i64)]] true 900 (R.1.map Aq.av))) (hR:R.1.length<=1000) :
  FP 45 [l.av,.lst 4 (xs.map Tn.av),.lst 1 (modes.map i64)] (.tup [(if modes.length≠(ax l).length then Aq.mk [] [] []else if R.2≠0 then Aq.mk [] [] []else R.1.getD 0 (Aq.mk [] [] [])).av,ba (if modes.length≠(ax l).length then 10 else if R.2≠0 then R.2 else if R.1=[]then 16 else 0)]):=by
 rw[h0]at hop;have hop:Con prog 99 [l.av,.lst 4 (xs.map Tn.av)] [] (.tup [.ptr 900 0,.v .nilIface]) [(900,some (.box (er l xs (ax l) 189 [] false (nS))))]:=hop;refine ah func45 ?_;refine gt (aA hop (be rfl rfl) aC rfl rfl) ?_;refine gC (fun t18=>?_) (fun t18=>?_) (st1:=(3,0)) (st2:=(77777,0));cases t18;refine gW (Wk.o (sl:=[(5,some (.ptr 5 0)),(6,some (.ptr 6 0)),(8,some (.ptr 900 0))]) (hp:=[(5,some (.box [.lst 1 (modes.map i64)])),(6,some (.box [nS,nS,nS])),(900,some (.box (er l xs (ax l) 189 [] false (nS))))])) ?_ (77777,0);refine gW (Wk.rk (k:=900) (d:=902) rfl rfl) ?_;refine gl ?_;refine gl ?_;refine gD ?_;refine gC (fun t28=>?_) (fun t28=>?_) (st2:=(77777,0))
 ·have h1:=tG t28;refine gR ?_;exact cT (by rw[if_pos h1,if_pos h1];exact Sub.tup (.cons (Sub.agg (.cons (.nil _ _ _) (.cons (.nil _ _ _) (.cons (.nil _ _ _) .nil))) rfl) (.cons (.refl _) .nil)))
 have h1:=tb t28;have hm:¬(modes.length≠(ax l).length):=fun h=>h h1
 refine gW ((Wk.freezeB (k:=5) rfl rfl).trans<|Wk.o (sl:=[(5,some (.iptr [.lst 1 (modes.map i64)])),(6,some (.ptr 6 0)),(8,some (.ptr 902 0))]) (hp:=[(6,some (.box [nS,nS,nS])),(902,some (.box (er l xs (ax l) 189 [] false (nS))))])) ?_ (7,0);refine gW (Wk.of (sl:=[(6,some (.ptr 6 0)),(8,some (.ptr 902 0))]) (hp:=[(6,some (.box [nS,nS,nS])),(902,some (.box (er l xs (ax l) 111 [.iptr [.lst 1 (modes.map i64)]] true (nS))))]) aR (.k (.cons rfl (BlkSub.bL (.cons (.refl _) (.cons (.refl _) (.cons (.refl _) (.cons (.refl _) (.cons (.refl _) (.cons (.refl _) (.cons (pW rfl) (.cons (.refl _) (.cons (.refl _) .nil))))))))) rfl) .nil))) ?_ (7,0)
 refine gW (Wk.virt 901 3 rfl) ?_ (7,0);refine gW (Wk.of (sl:=[(6,some (.ptr 6 0)),(8,some (.ptr 902 0))]) (hp:=(6,some (.box [nS,nS,nS]))::oQ l xs (ax l) 111 [.iptr [.lst 1 (modes.map i64)]] true 902 901 []) (.k (.k .nil)) (.k (.cons rfl (BlkSub.bL (.cons (.refl _) (.cons (.refl _) (.cons (.refl _) (.cons (.refl _) (.cons (.refl _) (.cons (.refl _) (.cons (.refl _) (.cons (.refl _) (.cons (Sub.nM _ _ _) .nil))))))))) rfl) (.k .nil)))) ?_
 refine gt (u5 (BO hb hl) (cf rfl) rfl rfl rfl rfl rfl) ?_;refine gt (aA (Aj (hw h1)) (be rfl rfl) aC rfl rfl) ?_;refine gC (fun t43=>?_) (fun t43=>?_) (st2:=(77777,0))
 ·have hE:=cq t43;refine gR ?_;exact cT (by rw[if_neg hm,if_neg hm,if_pos hE,if_pos hE];exact Sub.tup (.cons (Sub.agg (.cons (.nil _ _ _) (.cons (.nil _ _ _) (.cons (.nil _ _ _) .nil))) rfl) (.cons (.refl _) .nil)))
 have hE:=b9 t43;have hE':¬(R.2≠0):=fun h=>h hE
 refine gW ((Wk.freeze (k:=900) rfl).trans<|Wk.of (sl:=[(6,some (.ptr 6 0)),(8,some (.ptr 902 0))]) (hp:=[(6,some (.box [nS,nS,nS])),(902,some (.box (er l xs (ax l) 111 [.iptr [.lst 1 (modes.map i64)]] true (.lst 3 (R.1.map Aq.av)))))]) aR (.k (.cons rfl (BlkSub.bL (.cons (.refl _) (.cons (.refl _) (.cons (.refl _) (.cons (.refl _) (.cons (.refl _) (.cons (.refl _) (.cons (.refl _) (.cons (.refl _) (.cons (Sub.of (bB rfl)) .nil))))))))) rfl) .nil))) ?_
 refine gl ?_;refine gC (fun t51=>?_) (fun t51=>?_)
 ·have h2 : R.1=[] := List.length_eq_zero_iff.1 (by simpa[aa]using t51);refine gR ?_;exact cT (by rw[if_neg hm,if_neg hm,if_neg hE',if_neg hE',if_pos h2,h2];exact Sub.tup (.cons (Sub.agg (.cons (.nil _ _ _) (.cons (.nil _ _ _) (.cons (.nil _ _ _) .nil))) rfl) (.cons (.refl _) .nil)))
 have h2:R.1≠[]:=fun h=>by rw[h]at t51;exact absurd t51 (by simp[aa])
 obtain⟨a0,ha0⟩:=ay (l:=R.1) (i:=0) (by cases hh:R.1 with |nil=>exact absurd hh h2 |cons _ _=>simp);refine gi (az ha0) ?_;refine gR ?_;exact cT (Sub.of (by rw[if_neg hm,if_neg hm,if_neg hE',if_neg hE',if_neg h2,aL ha0];rfl))
theorem xr{l:Li}{a:As}{g:Gr}{x:Tn}(hk:g.kind=0):(cD l a g x).length<=1:=by
 unfold cD;rw[if_pos hk];unfold kS;split
 ·exact zero_le _
 ·exact le_refl _
theorem GI{S:List Sv}{kd:Int}{n b:Nat}(P:SolP S kd n b)(h0:kd=0->S.length<=1){i j:Nat}{s t:Sv}(hi:S[i]?=some s)(hj:S[j]?=some t)(e:s.mode=t.mode):i=j:=by
 have h1:=(List.getElem?_eq_some_iff.1 hi).1;have h2:=(List.getElem?_eq_some_iff.1 hj).1;have h3:=P.two
 by_cases hk:kd=0
 ·have:=h0 hk;omega
 ·have m1:=(P.md i s hi).1;have m2:=(P.md j t hj).1;rw[if_neg hk]at m1 m2
  by_cases h4:S.length=2
  ·rw[if_pos h4]at m1 m2;omega
  ·omega
theorem vS{k:Nat}{f:Sv->List Aq×Nat}:∀{S:List Sv},(dM (eA k) false f S).2=0->(∀s∈S,(f s).2=0)/\(dM (eA k) false f S).1=S.flatMap fun s=>(f s).1
 |[],h=>⟨(fun s hs=>by cases hs),rfl⟩
 |s::S,h=>by
  rw[kf,if_neg (show ¬eA k s.mode=false by simp[eA])]at h ⊢
  by_cases he:(f s).2≠0
  ·rw[if_pos he]at h;exact absurd h he
  ·rw [if_neg he, if_neg (by decide)] at h ⊢;obtain ⟨h1,h2⟩:=vS (S:=S) h;refine ⟨fun t ht=>?_,?_⟩
   ·rcases List.mem_cons.1 ht with rfl |ht
    ·exact Decidable.not_not.1 he
    ·exact h1 t ht
   ·rw[List.flatMap_cons,<- h2]
theorem A7{F:Int->Bool}{f:Sv->List Aq×Nat}:∀{S:List Sv},dM F true f S=match S.find? (fun s=>F s.mode)with |none=>([],0) |some s=>f s
 |[]=>rfl
 |s::S=>by
  rw[kf,List.find?_cons];cases h:F s.mode with
  |false=>rw[if_pos rfl];exact A7
  |true =>
   rw[if_neg (by decide)]
   by_cases he:(f s).2≠0
   ·rw[if_pos he]
   ·rw[if_neg he,if_pos rfl]
theorem vB{F:Int->Bool}{sg:Bool}{f:Sv->List Aq×Nat}{b:Aq}:∀{S:List Sv},b∈(dM F sg f S).1->∃s∈S,F s.mode=true/\b∈(f s).1
 |[],h=>by cases h
 |s::S,h=>by
  rw[kf]at h;split at h
  ·obtain⟨x,hx,h2⟩:=vB h;exact⟨x,mem_cons_of_mem _ hx,h2⟩
  ·rename_i hF;have hF:F s.mode = true:=by simpa using hF
   split at h
   ·exact⟨s,mem_cons_self,hF,h⟩
   ·split at h
    ·exact⟨s,mem_cons_self,hF,h⟩
    ·rcases List.mem_append.1 h with h |h
     ·exact⟨s,mem_cons_self,hF,h⟩
     ·obtain⟨x,hx,h2⟩:=vB h;exact⟨x,mem_cons_of_mem _ hx,h2⟩
theorem nE{F:Nat->Int->Bool}{sg:Bool}{l:Li}{xs:List Tn}{n:Nat}{a:Aq}{gr:Gr}(hg:(ax l)[a.ms.length]?=some gr) :
  dr F sg l xs (ax l) (n+1) a=if jI l a.as gr (bD gr xs)≠0 then([],jI l a.as gr (bD gr xs))else dM (F a.ms.length) sg (fun sv=>dr F sg l xs (ax l) n (a.nxt gr sv)) (cD l a.as gr (bD gr xs)):=by
 conv=>lhs;unfold dr
 rw[aL hg]
section
variable{l:Li}{xs:List Tn}{s g:Nat}(W:WkC l xs s g)
include W
theorem ut{F:Nat->Int->Bool}{sg:Bool}:∀(n:Nat)(a:Aq),WkSt l s g n a->∀b∈(dr F sg l xs (ax l) n a).1,∃m,b.ms=a.ms++m/\m.length=n
 |0,a,h,b,hb=>by rw[List.mem_singleton.1 hb];exact⟨[],by simp,rfl⟩
 |n+1,a,h,b,hb=>by
  obtain⟨gr,hg,_,hP,hn⟩:=h.next W;rw[nE hg]at hb;split at hb
  ·cases hb
  ·obtain⟨sv,hsv,_,h2⟩:=vB hb;obtain⟨m,e,hl⟩:=ut n _ (hn sv hsv) b h2;exact⟨sv.mode::m,by rw[e];show(a.ms++[sv.mode])++m=_;simp,by simp[hl]⟩
theorem zU{F:Nat->Int->Bool}{sg:Bool}:∀(n:Nat)(a:Aq),WkSt l s g n a->(dr F sg l xs (ax l) n a).1.length<=2^((ax l).drop a.ms.length).countP fh
 |0,a,h=>Nat.one_le_two_pow
 |n+1,a,h=>by
  obtain⟨gr,hg,_,hP,hn⟩:=h.next W;rw[nE hg];split
  ·exact zero_le _
  ·rw[lI hg,List.countP_cons]
   have key:=yF (F:=F a.ms.length) (sg:=sg) (f:=fun sv=>dr F sg l xs (ax l) n (a.nxt gr sv)) (M:=2^((ax l).drop (a.ms.length+1)).countP fh) (S:=cD l a.as gr (bD gr xs)) (fun sv hsv=>by
    have h9:=zU (F:=F) (sg:=sg) n _ (hn sv hsv);have e:(a.nxt gr sv).ms.length=a.ms.length+1:=by show(a.ms++[sv.mode]).length=_;simp
    rw[e]at h9;exact h9)
   refine le_trans key ?_
   by_cases hk:gr.kind=0
   ·have h1 : fh gr = false := by unfold fh; simp [hk]
    have h2:=mul_le_mul_right (2^((ax l).drop (a.ms.length+1)).countP fh) (xr (l:=l) (a:=a.as) (x:=bD gr xs) hk);rw[h1];simp only[Bool.false_eq_true,if_false,Nat.add_zero];omega
   ·have h1:fh gr=true:=decide_eq_true hk;have h2:=mul_le_mul_right (2^((ax l).drop (a.ms.length+1)).countP fh) hP.two;rw[if_pos h1,Nat.pow_succ];omega
theorem BT:∀(n:Nat)(a:Aq),WkSt l s g n a->(dr eA false l xs (ax l) n a).2=0->(dr eA false l xs (ax l) n a).1.Pairwise (fun b c=>b.ms≠c.ms)
 |0,a,h,_=>List.pairwise_singleton _ _
 |n+1,a,h,he=>by
  obtain⟨gr,hg,_,hP,hn⟩:=h.next W;rw[nE hg]at he ⊢;split at he
  ·rename_i h1;exact absurd he h1
  ·rename_i h1;rw [if_neg h1];obtain ⟨h2,h3⟩:=vS he;rw [h3,List.pairwise_flatMap];refine ⟨fun sv hsv=>BT n _ (hn sv hsv) (h2 sv hsv),?_⟩;rw [List.pairwise_iff_getElem];intro i j hi hj hij x hx y hy e;obtain ⟨m,e1,_⟩:=ut W n _ (hn _ (getElem_mem hi)) x hx;obtain ⟨m2,e2,_⟩:=ut W n _ (hn _ (getElem_mem hj)) y hy;rw [e1,e2] at e;have e4:(a.ms ++ [((cD l a.as gr (bD gr xs))[i]).mode]) ++ m = (a.ms ++ [((cD l a.as gr (bD gr xs))[j]).mode]) ++ m2:=e;rw [append_assoc,append_assoc,List.append_cancel_left_eq] at e4;have e5:((cD l a.as gr (bD gr xs))[i]).mode = ((cD l a.as gr (bD gr xs))[j]).mode:=by simpa using congrArg List.head? e4
   have:=GI hP (fun hk=>xr hk) (getElem?_eq_getElem hi) (getElem?_eq_getElem hj) e5;omega
end
theorem FW{α:Type}{p q:α->Bool}:∀{L:List α},(∀b∈L,p b=q b)->L.find? p=L.find? q
 |[],_=>rfl
 |x::L,h=>by rw[List.find?_cons,List.find?_cons,h x mem_cons_self,FW (fun b hb=>h b (mem_cons_of_mem _ hb))]
theorem H4{α β:Type}{f:α->List β}{p:β->Bool}{S:List α}{i:Nat}{x:α}(hi:S[i]?=some x)(h:∀(j:Nat)(y:α),S[j]?=some y->j≠i->∀b∈f y,p b=false):(S.flatMap f).find? p=(f x).find? p:=by
 have hl:=(List.getElem?_eq_some_iff.1 hi).1;have e:S=S.take i++x::S.drop (i+1):=by rw[<- lI hi,List.take_append_drop]
 have nc:∀L:List α,(∀y∈L,∀b∈f y,p b=false)->(L.flatMap f).find? p=none:=by
  intro L hL;rw[List.find?_eq_none];intro b hb;obtain⟨y,hy,hb⟩:=List.mem_flatMap.1 hb;rw[hL y hy b hb];decide
 have h1:=nc (S.take i) (fun y hy=>by
  obtain⟨j,hj⟩:=List.getElem?_of_mem hy;have hj2:=(List.getElem?_eq_some_iff.1 hj).1;rw[length_take]at hj2;rw[getElem?_take,if_pos oz]at hj;exact h j y hj oz)
 have h2:=nc (S.drop (i+1)) (fun y hy=>by
  obtain⟨j,hj⟩:=List.getElem?_of_mem hy;rw[getElem?_drop]at hj;exact h _ y hj oz)
 conv=>lhs;rw[e]
 rw[List.flatMap_append,List.flatMap_cons,List.find?_append,List.find?_append,h1,h2];simp
section
variable{l:Li}{xs:List Tn}{s g:Nat}(W:WkC l xs s g)
include W
theorem wn{modes:List Int}(hm:modes.length=(ax l).length):∀(n:Nat)(a:Aq),WkSt l s g n a->(dr eA false l xs (ax l) n a).2=0 ->
  dr (i9 modes) true l xs (ax l) n a=(((dr eA false l xs (ax l) n a).1.find? fun b=>decide (b.ms.drop a.ms.length=modes.drop a.ms.length)).toList,0)
 |0,a,h,_=>by
  have h1:=h.ln;have e:a.ms.drop a.ms.length=modes.drop a.ms.length:=by rw[drop_length,List.drop_of_length_le oz]
  show([a],0)=(([a].find? _).toList,0);rw[List.find?_cons,decide_eq_true e];rfl
 |n+1,a,h,he=>by
  obtain⟨gr,hg,_,hP,hn⟩:=h.next W;have hk:=(List.getElem?_eq_some_iff.1 hg).1;obtain⟨mk,hmk⟩:=ay (l:=modes) (i:=a.ms.length) oz;rw[nE hg]at he;rw[nE hg,nE hg];split at he
  ·rename_i h1;exact absurd he h1
  ·rename_i h1;rw [if_neg h1,if_neg h1];obtain ⟨h2,h3⟩:=vS he;rw [h3,A7];have hl:∀ sv:Sv,(a.nxt gr sv).ms.length = a.ms.length + 1:=fun sv=>by show (a.ms ++ [sv.mode]).length = _; simp
   have hd:∀sv∈cD l a.as gr (bD gr xs),∀b∈(dr eA false l xs (ax l) n (a.nxt gr sv)).1,b.ms.drop a.ms.length=sv.mode::b.ms.drop (a.ms.length+1):=fun sv hsv b hb=>by
    obtain⟨m,e,_⟩:=ut W n _ (hn sv hsv) b hb;have e:b.ms=a.ms++(sv.mode::m):=by rw[e];show(a.ms++[sv.mode])++m=_;simp
    rw[e,List.drop_left,List.drop_append,List.drop_of_length_le oz];simp
   have hF:∀sv:Sv,i9 modes a.ms.length sv.mode=decide (sv.mode=mk):=fun sv=>by unfold i9;rw[aL hmk]
   have hmd:=lI hmk;cases hf:(cD l a.as gr (bD gr xs)).find? (fun s=>i9 modes a.ms.length s.mode)with
   |none =>
    have hf:=List.find?_eq_none.1 hf
    have hz:(((cD l a.as gr (bD gr xs)).flatMap fun sv=>(dr eA false l xs (ax l) n (a.nxt gr sv)).1).find? fun b=>decide (b.ms.drop a.ms.length=modes.drop a.ms.length))=none:=by
     rw[List.find?_eq_none];intro b hb;obtain⟨sv,hsv,hb⟩:=List.mem_flatMap.1 hb;have h9:=hf sv hsv;rw[hF]at h9;rw[hd sv hsv b hb,hmd];intro h8;have h8:=of_decide_eq_true h8;rw[List.cons.injEq]at h8;exact h9 (decide_eq_true h8.1)
    rw[hz];rfl
   |some sv =>
    obtain⟨hp,i,hi,e,hb⟩:=List.find?_eq_some_iff_getElem.1 hf;have hsv:sv∈cD l a.as gr (bD gr xs):=e▸getElem_mem hi;have hi2:(cD l a.as gr (bD gr xs))[i]?=some sv:=by rw[getElem?_eq_getElem hi,e]
    rw[hF]at hp;have hp:=of_decide_eq_true hp;have ih:=wn hm n _ (hn sv hsv) (h2 sv hsv);show dr (i9 modes) true l xs (ax l) n (a.nxt gr sv)=_
    rw[ih,hl,H4 hi2 (fun j y hj hji b hb=>by
     have hy:=mem_of_getElem? hj;rw[hd y hy b hb,hmd,decide_eq_false];intro h8;rw[List.cons.injEq]at h8;exact hji (GI hP (fun hk=>xr hk) hj hi2 (h8.1.trans hp.symm)))]
    congr 2;refine FW (fun b hb=>?_);rw[hd sv hsv b hb,hmd,hp];exact decide_eq_decide.2 (by simp)
end
theorem LU{a:As}(h:AL a)(hc:aX a.rs=0):8*4000+4*kB 40000 a.rs.length+4<=lm a.rs.length:=by
 obtain⟨tw,_⟩:=cH h.tr hc;have h3:=tw.three;rw[xm]at h3;have h1:=Dq 40000 h3;have h2:=iZ a.rs.length;show 8*4000+4*eB 40000 a.rs.length+4<=_;omega
def iP(a:As)(k:Int):Nat :=
  if aX a.rs≠0 then aX a.rs else if k<0\/(a.bs.length:Int)<=k then 9 else bc a.rs (a.bs.getD k.toNat default).l
theorem yN{a:As}{k:Int}(h:aX a.rs≠0):iP a k=aX a.rs:=by unfold iP;rw[if_pos h]
theorem yI{a:As}{k:Int}(h:aX a.rs=0)(hk:k<0\/(a.bs.length:Int)<=k):iP a k=9:=by unfold iP;rw[if_neg oz,if_pos hk]
theorem xp{a:As}{i:Nat}{b:Pl}(h:aX a.rs=0)(hb:a.bs[i]?=some b):iP a (i:Int)=bc a.rs b.l:=by
 have hi:=(List.getElem?_eq_some_iff.1 hb).1;unfold iP;rw[if_neg oz,if_neg oz,toNat_natCast,aL hb]
theorem FQ(x y:List Rat)(hx:x=[])(hy:y=[]):Sub (.agg [nS,nS]) (aJ x y):=by
 subst hx;subst hy
 exact Sub.agg (.cons (.nil _ _ _) (.cons (.nil _ _ _) .nil)) rfl
def oB(a:As)(k:Int)(x y:Rt):List Rat:=if iP a k=0 then wi a.rs (a.bs.getD k.toNat default) x y else[]
def oS(a:As)(k:Int)(x y:Rt):List Rat:=if iP a k=0 then vd a.rs (a.bs.getD k.toNat default) x y else[]
theorem Cl{a:As}{k:Int}{x y:Rt}(h:iP a k≠0):oB a k x y=[]:=if_neg h
theorem EE{a:As}{k:Int}{x y:Rt}(h:iP a k≠0):oS a k x y=[]:=if_neg h
theorem JF{a:As}{i:Nat}{b:Pl}{x y:Rt}(h:aX a.rs=0)(hb:a.bs[i]?=some b):oB a i x y=if bc a.rs b.l=0 then wi a.rs b x y else[]:=by unfold oB;rw[xp h hb,toNat_natCast,aL hb]
theorem PB{a:As}{i:Nat}{b:Pl}{x y:Rt}(h:aX a.rs=0)(hb:a.bs[i]?=some b):oS a i x y=if bc a.rs b.l=0 then vd a.rs b x y else[]:=by unfold oS;rw[xp h hb,toNat_natCast,aL hb]
abbrev BX(a:As)(k:Int)(x y:Rt):AV:=.agg [nA (oB a k x y),nA (oS a k x y)]
theorem QB(a:As)(al:AL a)(k:Int)(x y:Rt)(hx:x.ok)(hy:y.ok)(qx:Qb 4000 x.q)(qy:Qb 4000 y.q) :
  FP 52 [a.av,i64 k,x.av,y.av] (.tup [BX a k x y,ba (iP a k)]):=by
 have hbl:=al.bl;refine ah func52 ?_;refine gc (my a.rs 40000 al.tr) ?_;refine gC (fun t15=>?_) (fun t15=>?_)
 ·have h1:=cq t15;refine gR ?_;exact cT (by rw[yN h1];exact Sub.tup (.cons (FQ _ _ (Cl (by rw[yN h1];exact h1)) (EE (by rw[yN h1];exact h1))) (.cons (.refl _) .nil)))
 have h1:=b9 t15;refine bH ?_;refine gC (fun t26=>?_) (fun t26=>?_)
 ·have h2:=Ch t26;refine gR ?_;exact cT (by rw[yI h1 h2];exact Sub.tup (.cons (FQ _ _ (Cl (by rw[yI h1 h2];decide)) (EE (by rw[yI h1 h2];decide))) (.cons (.refl _) .nil)))
 have h2:=AP t26;obtain⟨i,rfl,hi⟩:=BP h2;obtain⟨b,hb⟩:=ay hi;have hsz:=LU al h1;refine gi (az hb) ?_;refine gc (GM a.rs 40000 4000 al.tr h1 b (al.nr b (mem_of_getElem? hb)) x y hx hy qx qy hsz) ?_;refine gD ?_;refine bi ?_;show _=AV.tup [AV.agg [nA (oB a (i:Nat) x y),nA (oS a (i:Nat) x y)],_];rw[xp h1 hb,JF h1 hb,PB h1 hb]
abbrev nl:AV:=nS
section
variable{ts:LL}{a b a2 b2:List Rat}{x y x2 y2:Et ts}
end
section
variable{ts:LL}{a b c a2 b2 c2:List Rat}{x y z x2 y2 z2:Et ts}
end
theorem DyOk.drv{l:Li}{k:Int}{a:As}{own:Bool}{n:Nat}{g:Gr}(h:DyOk 3900000 l k a own n g)(hk:g.kind=0):∃i z0 d j0,g=⟨0,[i],[z0],d⟩/\l.jo[z0.toNat]?=some j0/\PinP 3900000 l a j0 i:=by
 have hd:=h.dy;cases hd with
 |rrr _ _ _ _ _ _ _=>exact absurd hk (by simp)
 |pr _ _ _=>exact absurd hk (by simp)
 |rp _ _ _=>exact absurd hk (by simp)
 | @drv b z d j x t d0 hd hb=>exact⟨b,z,d,j,rfl,t.hj,h.pin rfl t (by simp) (by simp)⟩
section
variable{ts:LL}{u k:Nat}{a b a2 b2:List Rat}{x y x2 y2:Et ts}{w v w' v' w2 v2 w3 v3:Nat}
end
section
variable{ts:LL}
end
section
variable{T:LL}
end
section
variable{l:Li}{xs:List Tn}{s g:Nat}(W:WkC l xs s g){k:Nat}{gr:Gr}(hg:(ax l)[k]?=some gr){j r E:Nat}{a:Aq}(Q:QInv l j r E a){n y:Nat}(ok:d7 s g (n+1) y j r E=true)(hy:gr.kind≠0->0<y)
include W hg Q ok hy
end
theorem Aw(a:List Int)(ha:a.length<=281474976710656):FP 48 [.lst 1 (a.map i64),.lst 1 (a.map i64)] (bl true):=by
 refine ah func48 ?_;refine gl ?_;refine gl ?_;refine gC (fun t10=>?_) (fun t10=>?_) (st1:=(2,0));exact absurd t10 (by simp[aa]);refine aI [0,1] [] (fun(i:Nat)=>[(5,some (i64 i))]) (fun _=>[]) (fun i=>i<=a.length) (fun i=>a.length-i) 0 (zero_le _) ?_;rintro i hi K1 J1;refine gl ?_;refine gC (fun t14=>?_) (fun t14=>?_)
 ·have hin:=aU t14;obtain⟨x,hx⟩:=ay hin;refine gi (az hx) ?_;refine gi (az hx) ?_;refine gD ?_;refine gC (fun t25=>?_) (fun t25=>?_) (st1:=(7,0));exact absurd t25 (by simp[aa]);refine ga aG ?_;exact aE J1 (i+1) hin
 refine ae ?_;rfl
structure AqOk(a:Aq):Prop where
  tw:∃r,Tw a.ts r
  two:a.ts.length<=2
  bs:∀p∈a.bs,Pq.ok a.ts.length 50000000000 p
  lb:a.bs.length<=100
  lm:a.ms.length<=100
theorem WkSt.aq{l:Li}{s g n:Nat}{a:Aq}(hli:aD l=0)(h:WkSt l s g n a):AqOk a:=by
 obtain⟨⟨j,r,E,y,Q,ok,_⟩,hl⟩:=h;obtain⟨hE,hr,hj⟩:=yW ok;have h1:=Q.lv;have h2:=Q.ln;have h3:=(c9 hli).2.2.2.1;have h4:=mt hli;exact⟨⟨r,Q.tw⟩,by omega,fun p hp=>(Q.bs p hp).up (le_refl _) Q.tw.five hE,by omega,by omega⟩
theorem vF{F:Int->Bool}{sg:Bool}{f:Sv->List Aq×Nat}{b:Aq}:∀{S:List Sv},b∈(dM F sg f S).1->∃s∈S,F s.mode=true/\b∈(f s).1
 |[],h=>by cases h
 |s::S,h=>by
  rw[kf]at h;split at h
  ·obtain⟨x,hx,h2⟩:=vF h;exact⟨x,mem_cons_of_mem _ hx,h2⟩
  ·rename_i hF;have hF:F s.mode = true:=by simpa using hF
   split at h
   ·exact⟨s,mem_cons_self,hF,h⟩
   ·split at h
    ·exact⟨s,mem_cons_self,hF,h⟩
    ·rcases List.mem_append.1 h with h |h
     ·exact⟨s,mem_cons_self,hF,h⟩
     ·obtain⟨x,hx,h2⟩:=vF h;exact⟨x,mem_cons_of_mem _ hx,h2⟩
theorem sJ{l:Li}{xs:List Tn}{s g:Nat}(W:WkC l xs s g){F:Nat->Int->Bool}{sg:Bool}:∀(n:Nat)(a:Aq),WkSt l s g n a->∀b∈(dr F sg l xs (ax l) n a).1,WkSt l s g 0 b
 |0,a,h,b,hb=>by rw[List.mem_singleton.1 hb];exact h
 |n+1,a,h,b,hb=>by
  obtain⟨gr,hg,_,hP,hn⟩:=h.next W;unfold dr at hb;rw[aL hg]at hb;split at hb
  ·cases hb
  ·obtain⟨sv,hsv,_,h2⟩:=vF hb;exact sJ W n _ (hn sv hsv) b h2
theorem JT{a:Aq}(h:AqOk a):FP 47 [a.av,a.av] (bl true):=by
 obtain⟨r,tw⟩:=h.tw;have hlb:=h.lb;have hlm:=h.lm;refine ah func47 ?_;refine gc (KN tw) ?_;refine bH ?_;refine bH ?_;refine bw (fun _=>(Aw a.ms oz)) ?_;refine gC (fun t28=>?_) (fun t28=>?_) (st1:=(2,0));exact absurd t28 (by simp[aa]);refine gl ?_;refine aI [2,3,31] [2,3] (fun(i:Nat)=>[(32,some (i64 i))]) (fun _=>[]) (fun i=>i<=a.bs.length) (fun i=>a.bs.length-i) 0 (zero_le _) ?_;rintro i hi K1 J1;refine gC (fun t33=>?_) (fun t33=>?_)
 ·have hin:=aU t33;obtain⟨p,hp⟩:=ay hin;refine gi (az hp) ?_;refine gi (az hp) ?_;refine gc (HG tw h.two ((h.bs p (mem_of_getElem? hp)).up (le_refl _) tw.five oz)) ?_;refine gD ?_;refine gC (fun t48=>?_) (fun t48=>?_) (st1:=(7,0));cases t48;refine ga aG ?_;exact aE J1 (i+1) hin
 refine ae ?_;rfl
def kz(s:ByteArray)(n:Int):Bd:=⟨s,[⟨⟨#[97]⟩,rt ((0:Int):Rat),rt ((0:Int):Rat)⟩,⟨⟨#[98]⟩,rt (n:Rat),rt ((0:Int):Rat)⟩]⟩
def fb:Li:=⟨⟨#[102,111,117,114,98,97,114]⟩,[kz ⟨#[102,114,97,109,101]⟩ 4,kz ⟨#[99,114,97,110,107]⟩ 3,kz ⟨#[99,111,117,112,108,101,114]⟩ 5,kz ⟨#[114,111,99,107,101,114]⟩ 6],
  [⟨⟨#[111]⟩,0,1,0,0,0,0⟩,⟨⟨#[112]⟩,0,2,0,1,1,0⟩,⟨⟨#[113]⟩,0,3,0,0,1,0⟩,⟨⟨#[114]⟩,0,2,1,3,1,0⟩],[⟨⟨#[100]⟩,1⟩]⟩
def t0:Tn:=⟨⟨false,[],[]⟩,false⟩
theorem yR(a b:ByteArray):df a b=(a.data.toList==b.data.toList):=by
 unfold df;rw[Go.ByteArray.toList_eq,Go.ByteArray.toList_eq]
theorem Dd:aD fb=0:=by
 have h1:gn fb=0:=by
  unfold gn eh dO fw dH;simp only[yR];decide +kernel
 have h2:dX fb=0:=by
  unfold dX eh fg fw;simp only[yR];decide +kernel
 have h3:ft fb=0:=by
  unfold ft eh dw fw;simp only[yR];decide +kernel
 unfold aD;rw[h1,h2,h3];decide +kernel
theorem Jl{s:ByteArray}(hs:s.size<=281474976710656){n:Int}(hn:-9223372036854775808<=n/\n<=9223372036854775807) :
  (kz s n).name.size<=281474976710656/\(kz s n).pts.length<=281474976710656/\∀m∈(kz s n).pts,m.name.size<=281474976710656/\m.x.wok/\m.y.wok:=by
 have h0:(rt ((0:Int):Rat)).ok:=(nP oz).ok;have h1:(rt (n:Rat)).ok:=(nP hn).ok;refine⟨hs,by show 2<=_;omega,fun m hm=>?_⟩;simp only[kz,mem_cons,not_mem_nil,or_false]at hm;rcases hm with rfl |rfl
 ·exact⟨by show 1<=_;omega,h0.wok,h0.wok⟩
 ·exact⟨by show 1<=_;omega,h1.wok,h0.wok⟩
theorem NV:fb.okw:=by
 refine⟨by decide,fun b hb=>?_,fun j hj=>?_,fun d hd=>?_,by decide,by decide,by decide⟩
 ·simp only[fb,mem_cons,not_mem_nil,or_false]at hb;rcases hb with rfl |rfl |rfl |rfl <;> exact Jl (by decide) oz
 ·simp only[fb,mem_cons,not_mem_nil,or_false]at hj;rcases hj with rfl |rfl |rfl |rfl <;> decide
 ·simp only[fb,mem_cons,not_mem_nil,or_false]at hd;rcases hd with rfl;decide
theorem DO:fb.ok:=ss (by decide +kernel) NV
theorem iR.ofL{l l':List AV}(h:SubL l l')(ho:l'.all AV.one=true):iR (.agg l) (.agg l') :=
 ⟨h.len,fun j x y hx hy=>⟨List.all_eq_true.1 ho y (mem_of_getElem? hy),h.get j x y hx hy⟩⟩
theorem A9(s:ByteArray)(x y:Int)(hx:-9223372036854775808<=x/\x<=9223372036854775807)(hy:-9223372036854775808<=y/\y<=9223372036854775807):FP 234 [.v (.string s),i64 x,i64 y] (Mk.av ⟨s,rt (x:Rat),rt (y:Rat)⟩):=by
 refine ah func234 ?_;refine gc (s8 x hx) ?_;refine gc (s8 y hy) ?_;refine ae ?_
 first |rfl |(simp;done)
theorem tA(s:ByteArray)(n:Int)(hn:-9223372036854775808<=n/\n<=9223372036854775807):FP 127 [.v (.string s),i64 n] (kz s n).av:=by
 refine ah func127 ?_;refine gc (A9 _ 0 0 oz oz) ?_;refine gc (A9 _ n 0 hn oz) ?_;refine ae ?_
 first |rfl |(simp;done)
theorem Ju:FP 55 [] fb.av:=by
 refine ah func55 ?_;refine gc (tA _ 4 oz) ?_;refine gc (tA _ 3 oz) ?_;refine gc (tA _ 5 oz) ?_;refine gc (tA _ 6 oz) ?_;refine ae ?_
 first |rfl |(simp;done)
deriving instance DecidableEq for Pq
deriving instance DecidableEq for Aq
def Dc:List Aq×Nat:=gK eA false fb [gU]
theorem Kb:cE fb [gU]=0:=by
 unfold cE pM;rw[if_neg (by rw[Dd];decide),if_neg (show ¬co fb≠0 by decide +kernel),if_neg (show ¬[gU].length≠fb.dv.length by decide +kernel)];decide +kernel
def aF:Aq:=⟨[],[⟨[1],[],[],[]⟩,⟨[1],[],[],[]⟩,⟨[-1],[],[3],[]⟩,⟨[-1],[],[4],[]⟩],[1,0]⟩
theorem Il:Dc=([aF],0):=by decide +kernel
theorem Qw:WkC fb [gU] 32 134:=by
 have z:gU.t.q=0:=by decide +kernel
 have h0:Qb 32 gU.t.q:=by rw[z];exact Qb.zero.mono oz
 refine⟨DO,Dd,by decide +kernel,?_,rfl,fun x hx=>?_⟩
 ·have h : ∀ b ∈ fb.bo, ∀ m ∈ b.pts, (m.x.q.num.natAbs < 2 ^ 32 /\ m.x.q.den < 2 ^ 32) /\ (m.y.q.num.natAbs < 2 ^ 32 /\ m.y.q.den < 2 ^ 32) := by decide +kernel
  exact h
 ·rw[List.mem_singleton.1 hx];exact⟨yS,by decide +kernel,Ek,Cb.one (rX h0),Cb.one (rD h0)⟩
theorem PD:WkSt fb 32 134 (ax fb).length (dA fb):=by
 refine⟨⟨0,0,2,1,B2 fb,tx Dz ?_ (le_refl _),?_⟩,Nat.zero_add _⟩
 ·decide +kernel
 ·decide +kernel
theorem Of:FP 33 [fb.av,.lst 4 [gU.av]] (.tup [.lst 3 [aF.av],ba 0]):=by
 have hop:=vE fb DO [gU] (fun x hx=>by rw[List.mem_singleton.1 hx];exact yS) (by show 1<=100;omega);have hp:([]:List Aq).length+2^(ax fb).length<=1000:=by decide +kernel
 have hw:=ux Qw eA false (fo:=189) (caps:=[]) (fun k m _=>ED k m) (ax fb).length (dA fb) PD [] hp;have hA:=E7 Kb hop (by show 0<4;omega) (by show 4<=100;omega) (R:=Dc) hw;rw[Il]at hA;exact hA
theorem Bl(n k:Nat)(hn:n<=5):Nm n k []:=⟨hn,.inl rfl,⟨1,0,⟨by decide,fun q h=>by cases h⟩,Nat.one_le_two_pow,zero_le _⟩⟩
theorem Iy:AL aF.as:=by
 have h1:∀q:Rat,Qb 1000 q->NR [rt q] 4000:=fun q h=>Nm.rt (n:=0) (e:=4000) (l:=[q]) ⟨by omega,.inr ⟨0,le_refl _,rfl⟩,(Cb.one h).mono oz⟩ (by decide)
 have h0:NR [] 4000:=Nm.rt (n:=0) (e:=4000) (l:=[]) (Bl 0 4000 oz) (by decide);have hq:∀q:Rat,q.num.natAbs<2^5/\q.den<2^5->Qb 1000 q:=fun q h=>Qb.mono (e:=5) h oz
 refine⟨(wg.tr).mono oz oz,?_,by decide,by decide⟩;intro b hb x hx;simp only[aF,Aq.as,map_cons,map_nil,mem_cons,not_mem_nil,or_false]at hb;rcases hb with rfl |rfl |rfl |rfl <;> simp only[Pl.l,Pq.pl,map_cons,map_nil,mem_cons,not_mem_nil,or_false]at hx <;> rcases hx with rfl |rfl |rfl |rfl <;> first |exact h0 |exact h1 _ (hq _ (by decide +kernel))
theorem N4:FP 52 [aF.av,i64 2,(rt ((5:Int):Rat)).av,(rt 0).av] (.tup [aJ [-2] [],ba 0]):=by
 have h:=QB aF.as Iy 2 (rt ((5:Int):Rat)) (rt 0) (nP (n:=5) oz).ok Qs.zero.ok (by rw[bu];exact Qb.mono (e:=5) (q:=((5:Int):Rat)) ⟨by decide,by decide⟩ oz) (by rw[bu];exact Qb.zero.mono oz);rw[aF.as_av]at h;have e1:oB aF.as 2 (rt ((5:Int):Rat)) (rt 0)=[-2]:=by decide +kernel
 have e2:oS aF.as 2 (rt ((5:Int):Rat)) (rt 0)=[]:=by decide +kernel
 have e3:iP aF.as 2=0:=by decide +kernel
 unfold BX at h;rw[e1,e2,e3]at h;exact h
theorem Mz:Sub (.lst 4 [.agg [.v (.bool false),nS,nS,.v (.bool false)]]) (.lst 4 [gU.av]) :=
 Sub.lst rfl (fun i x y hx hy=>by
  match i,hx,hy with
  |0,hx,hy=>cases hx;cases hy;exact .ofL (.cons (.refl _) (.cons (.nil _ _ _) (.cons (.nil _ _ _) (.cons (.refl _) .nil)))) rfl)
theorem Dx:FP 30 [] (bl true):=by
 have hAll:=Of;have nx:Nm 0 10 [(-2:Rat)]:=⟨by omega,.inr ⟨0,le_refl _,rfl⟩,Cb.mono (Cb.int (z:=-2) (e:=2) (by decide)) oz⟩
 have n0:Nm 0 10 []:=Bl 0 10 oz;have hE:=QD (ts:=[]) wg nx n0 nx n0 (by decide);rw[mJ,mJ]at hE;have hOf:=QS (x:=((-2:Int):Rat)) (y:=0) (nP (n:=-2) oz) Qs.zero;rw[show sh 0 (((-2:Int):Rat):Rat)=[-2] by decide +kernel,show sh 0 (0:Rat)=[] by decide +kernel]at hOf;refine ah func30 ?_;refine gc Ju ?_;refine gc (Con.sA (.cons (.refl _) (.cons Mz .nil)) hAll) ?_;refine Hi (fun _=>rfl) ?_;refine kA (fun _=>(rfl)) ?_;refine bw (fun _=>(Aw [1,0] (by decide))) ?_;refine gC (fun t27=>?_) (fun t27=>?_) (st1:=(3,0));cases t27;refine gi (rfl) ?_;refine gc (s8 5 oz) ?_;refine gc (Con.sA (.cons (.refl _) (.cons (.refl _) (.cons (.refl _) (.cons gQ .nil)))) N4) ?_;refine gD ?_;refine kA (fun _=>(rfl)) ?_;refine bw (fun _=>(s8 (-2) oz)) ?_;refine bw (fun _=>(Con.sA (.cons (.refl _) (.cons gQ .nil)) hOf)) ?_;refine bw (fun _=>hE) ?_;refine gD ?_;refine ae ?_;rfl
theorem xW{l:Li}{xs:List Tn}(h:jz l xs=true)(hxw:∀x∈xs,x.t.wok):fY l=true/\xs.length<=20/\∀x∈xs,x.t.ok:=by
 unfold jz at h;simp only[and_eq_true,decide_eq_true_eq]at h;refine⟨h.1.1,h.1.2,fun x hx=>?_⟩;have h9:=List.all_eq_true.1 h.2.1 x hx;unfold kC at h9;rw[decide_eq_true_eq]at h9;exact(hxw x hx).ok h9.1 h9.2 oz
structure AModP(l:Li)(xs:List Tn)(A:List Aq):Prop where
  op:cE l xs=0
  st:∃s g,WkC l xs s g/\WkSt l s g (ax l).length (dA l)
  eq:gK eA false l xs=(A,0)
theorem G3{l:Li}(hl:l.ok){xs:List Tn}(hL:jz l xs=true)(hxw:∀x∈xs,x.t.wok):∃A e,FP 33 [l.av,.lst 4 (xs.map Tn.av)] (.tup [.lst 3 (A.map Aq.av),ba e])/\(e≠0->A=[])/\(e=0->AModP l xs A):=by
 obtain⟨_,hx20,hxo⟩:=xW hL hxw;have hop:=vE l hl xs hxo oz
 by_cases h0:cE l xs=0
 ·obtain⟨s,g,W,St⟩:=PZ hL hl hxw h0;have hsl:=mt W.li;have hlb:=(c9 W.li).2.2.2;have hp:2^(ax l).length<=256:=le_trans (bJ (b:=8) oz) (by decide);have hw:=ux W eA false (fo:=189) (caps:=[]) (fun k m _=>ED k m) (ax l).length (dA l) St [] (by simp only[length_nil];omega);have hA:=E7 h0 hop oz oz (R:=gK eA false l xs) hw;refine⟨_,_,hA,fun h=>if_pos h,fun h=>⟨h0,⟨s,g,W,St⟩,?_⟩⟩;rw[if_neg (fun h9=>h9 h)];exact Prod.ext rfl h
 ·exact⟨[],cE l xs,KZ h0 hop,fun _=>rfl,fun h=>absurd h h0⟩
def hO(A:List Aq)(modes:List Int):Option Aq:=A.find? fun b=>decide (b.ms=modes)
theorem BK{l:Li}(hl:l.ok){xs:List Tn}(hxo:∀x∈xs,x.t.ok)(hx:xs.length<=100){A:List Aq}(P:AModP l xs A)(modes:List Int)(hm:modes.length<=100) :
  ∃V e,FP 45 [l.av,.lst 4 (xs.map Tn.av),.lst 1 (modes.map i64)] (.tup [V.av,ba e])/\((e=0)↔(hO A modes).isSome=true)/\∀a,hO A modes=some a->V=a:=by
 obtain⟨s,g,W,St⟩:=P.st;have hop:=vE l hl xs hxo hx;have hsl:=mt W.li;have hlb:=(c9 W.li).2.2.2;have hp:2^(ax l).length<=256:=le_trans (bJ (b:=8) oz) (by decide);have hw:=fun(hml:modes.length=(ax l).length)=>ux W (i9 modes) true (fo:=111) (caps:=[.iptr [.lst 1 (modes.map i64)]]) (fun k m hk=>Mu (modes:=modes) oz oz m) (ax l).length (dA l) St [] (by simp only[length_nil];omega)
 have hlen:=wP W (i9 modes) true (ax l).length (dA l) St;have hA:=MN (modes:=modes) oz P.op hop oz oz oz (R:=gK (i9 modes) true l xs) hw (le_trans hlen oz);have he0:(gK eA false l xs).2=0:=by rw[P.eq]
 have hA1:(gK eA false l xs).1=A:=by rw[P.eq]
 refine⟨_,_,hA,?_,?_⟩
 ·by_cases h1:modes.length≠(ax l).length
  ·rw [if_pos h1];refine ⟨(fun h=>by cases h),fun h=>?_⟩;obtain ⟨a,ha⟩:=Option.isSome_iff_exists.1 h;have ha:A.find? (fun b=>decide (b.ms = modes)) = some a:=ha;have h2:a.ms = modes:=by simpa using List.find?_some ha
   have h3:=List.mem_of_find?_eq_some ha;rw[<- hA1]at h3;have h4:=(sJ W (ax l).length (dA l) St a h3).ln;exact absurd (by rw[<- h2];omega) h1
  ·rw [if_neg h1];have hf:gK (i9 modes) true l xs = _:=wn W (Decidable.not_not.1 h1) (ax l).length (dA l) St he0;have e2:((gK eA false l xs).1.find? fun b=>decide (b.ms.drop (dA l).ms.length = modes.drop (dA l).ms.length)) = hO A modes:=by rw [hA1]; rfl
   have hf:gK (i9 modes) true l xs=((hO A modes).toList,0):=by rw[<- e2];exact hf
   rw[hf,if_neg (fun h=>h rfl)];cases hO A modes <;> simp
 ·intro a ha9;have ha:A.find? (fun b=>decide (b.ms = modes)) = some a:=ha9;have h2:a.ms = modes:=by simpa using List.find?_some ha
  have h3:=List.mem_of_find?_eq_some ha;rw[<- hA1]at h3;have h4:=(sJ W (ax l).length (dA l) St a h3).ln;have h1:modes.length=(ax l).length:=by rw[<- h2];omega
  have hf:gK (i9 modes) true l xs=_:=wn W h1 (ax l).length (dA l) St he0;have e2:((gK eA false l xs).1.find? fun b=>decide (b.ms.drop (dA l).ms.length=modes.drop (dA l).ms.length))=hO A modes:=by rw[hA1];rfl
  have hf:gK (i9 modes) true l xs=((hO A modes).toList,0):=by rw[<- e2];exact hf
  rw[if_neg (fun h=>h h1),hf,if_neg (fun h=>h rfl),ha9];rfl
theorem G9{A:List Aq}(h:A.Pairwise (fun b c=>b.ms≠c.ms)){a:Aq}(ha:a∈A):hO A a.ms=some a:=by
 unfold hO
 induction A with
 |nil=>cases ha
 |cons b A ih =>
  rw[List.find?_cons];rw[List.pairwise_cons]at h;rcases List.mem_cons.1 ha with rfl |ha
  ·rw[decide_eq_true rfl]
  ·rw[decide_eq_false (h.1 a ha)];exact ih h.2 ha
theorem Hu{A:List Aq}{m:List Int}:(hO A m).isSome=A.any fun b=>decide (b.ms=m):=by
 unfold hO
 induction A with
 |nil=>rfl
 |cons b A ih =>
  rw[List.find?_cons,List.any_cons];cases h:decide (b.ms=m)with
  |true=>rfl
  |false=>rw[Bool.false_or];exact ih
theorem Gs(a b:List Int)(ha:a.length<=281474976710656)(hb:b.length<=281474976710656):FP 48 [.lst 1 (a.map i64),.lst 1 (b.map i64)] (bl (decide (a=b))):=by
 refine ah func48 ?_;refine gl ?_;refine gl ?_;refine gC (fun t10=>?_) (fun t10=>?_)
 ·have h1:=tG t10;refine ae ?_;rw[decide_eq_false (fun e=>h1 (by rw[e]))];rfl
 have h1:=tb t10;refine aI [0,1] [] (fun(i:Nat)=>[(5,some (i64 i))]) (fun _=>[]) (fun i=>i<=a.length/\a.take i=b.take i) (fun i=>a.length-i) 0 ⟨zero_le _,rfl⟩ ?_;rintro i ⟨hi,hz⟩ K1 J1;refine gl ?_;refine gC (fun t14=>?_) (fun t14=>?_)
 ·have hin:=aU t14;obtain⟨x,hx⟩:=ay hin;obtain⟨y,hy⟩:=ay (l:=b) (i:=i) oz;refine gi (az hx) ?_;refine gi (az hy) ?_;refine gD ?_;refine gC (fun t25=>?_) (fun t25=>?_)
  ·have h2 : x ≠ y := by simpa [aa] using t25
   refine ae ?_;rw[decide_eq_false (fun e=>h2 (by rw[e,hy]at hx;cases hx;rfl))];rfl
  have h2:x=y:=by simpa[aa]using t25
  have h3:a.take (i+1)=b.take (i+1):=by rw[cR hx,cR hy,hz,h2]
  refine ga aG ?_;exact aE J1 (i+1) ⟨hin,h3⟩
 have hin:=a6 hi t14;have h4:a=b:=by rw[hin,take_length,h1,take_length]at hz;exact hz
 refine ae ?_;rw[decide_eq_true h4];rfl
theorem Mq{p:Bool}(h:cond (!true) true (!p)=false):p=true:=by cases p <;> simp_all
theorem IZ{e m n:Nat}(h:cond (aa .neq (e:Int) 0) true (aa .gtr (m:Int) (n:Int))=true)(he:e=0)(hn:m<=n):False:=by
 subst he;simp[aa]at h;omega
theorem Pu{p:Bool}{e n:Nat}(h:cond (cond (cond (!true) true (!p)) true (aa .neq (e:Int) 0)) true (aa .gtr (n:Int) 20)=false):p=true/\e=0/\n<=20:=by
 cases p
 ·simp at h
 ·simp only[Bool.not_true,cond_false]at h;rw[gd,Bool.or_eq_false_iff]at h;exact⟨rfl,j8 h.1,fv (b:=20) h.2⟩
theorem L6(l:Li)(hw:l.okw)(xs:List Tn)(hxw:∀x∈xs,x.t.wok)(hxl:xs.length<=281474976710656)(modes:List Int)(hml:modes.length<=281474976710656):FP 9 [l.av,.lst 4 (xs.map Tn.av),.lst 1 (modes.map i64)] (bl true):=by
 refine ah func9 ?_;refine gc Dx ?_;refine bw (fun _=>(P8 l hw xs hxl)) ?_;refine bw (fun h=>(EF l (ss (xW (Mq h) hxw).1 hw))) ?_;refine bH ?_;refine gC (fun t37=>?_) (fun t37=>?_)
 ·refine gc Dx ?_;refine ae ?_
  first |rfl |(simp;done)
 obtain⟨h1,hli,hm20⟩:=Pu t37;obtain⟨g1,hx20,hxo⟩:=xW h1 hxw;have hl:=ss g1 hw;obtain⟨A,e,hAll,hAe,hA0⟩:=G3 hl h1 hxw;refine gc hAll ?_;refine gC (fun t46=>?_) (fun t46=>?_)
 ·have he:e≠0:=cq t46;have hA:=hAe he;subst hA;refine gl ?_;refine ae ?_;rfl
 have he:e=0:=b9 t46;have P:=hA0 he;obtain⟨s,g,W,St⟩:=P.st;have hsl:=mt hli;have hd2:=uZ hli;have hdc:=EV hli W.sp;have hcn:=FI (ax l);have he0:(gK eA false l xs).2=0:=by rw[P.eq]
 have hA1:(gK eA false l xs).1=A:=by rw[P.eq]
 have hnd:A.Pairwise (fun b c=>b.ms≠c.ms):=by rw[<- hA1];exact BT W _ _ St he0
 have hmem:∀a∈A,AqOk a/\a.ms.length=(ax l).length:=fun a ha=>by
  rw[<- hA1]at ha;have h9:=sJ W (ax l).length (dA l) St a ha;exact⟨h9.aq hli,by have:=h9.ln;omega⟩
 have hcnt:A.length<=2^((ax l).length-l.dv.length):=by
  rw[<- hA1];exact le_trans (zU W (ax l).length (dA l) St) (bJ (by show(ax l).countP fh<=_;omega))
 have hA8:A.length<=256:=le_trans hcnt (le_trans (bJ (b:=8) oz) (by decide));refine gc (Br l hl hli) ?_;refine bH ?_;refine bH ?_;refine bH ?_;refine k8 (fun _=>(Ol oz (by unfold aO;omega))) ?_;refine gs (dK rfl rfl rfl (fun h=>fC (.const _) (.opt rfl (o1 h)) oz (lA oz) rfl)) ?_;refine gC (fun t68=>?_) (fun t68=>?_) (st1:=(8,0));exact(IZ t68 W.sp hcnt).elim;refine gl ?_;refine aI [1,2,3,7,9,69,70] [3] (fun(i:Nat)=>[(71,some (i64 i)),(11,some (bl ((A.take i).any fun b=>decide (b.ms=modes))))]) (fun _=>[]) (fun i=>i<=A.length) (fun i=>A.length-i) 0 (zero_le _) ?_;rintro i hi K1 J1;refine gC (fun t72=>?_) (fun t72=>?_)
 ·have hin:=aU t72;obtain ⟨a,ha⟩:=ay hin;have hma:=mem_of_getElem? ha;obtain ⟨hok,hln⟩:=hmem a hma;refine gi (az ha) ?_;refine gl ?_;refine gl ?_;refine gC (fun t81=>?_) (fun t81=>?_) (st1:=(14,0));exact absurd t81 (by rw [hln]; simp [aa]);refine gs (cc (l:=0) (h:=i) (.tmp rfl) (.none _) (.some _ (.tmp rfl) (Int.natCast_nonneg i)) T87 rfl T41 rfl oz (by rw [length_map]; omega) rfl) ?_;refine ge rfl ?_;refine aI [1,2,3,7,9,69,70,71,11,13] [3,13] (fun (j:Nat)=>[(84,some (.lst 3 ((A.take i).map Aq.av))),(85,some (i64 (A.take i).length)),(86,some (i64 j))]) (fun _=>[]) (fun j=>j <= (A.take i).length) (fun j=>(A.take i).length - j) 0 (zero_le _) ?_ (h1:=(.cons rfl (Sub.of (by rw [drop_zero,map_take,Nat.sub_zero])) (.cons rfl (Sub.int (by simp)) (.k .nil))));rintro j hj K2 J2;refine gC (fun t87=>?_) (fun t87=>?_)
  ·have hjn:=aU t87;obtain⟨b,hb⟩:=ay hjn
   have hne:decide (a.ms=b.ms)=false:=by
    rw[length_take]at hjn;rw[getElem?_take,if_pos oz]at hb;rw[List.pairwise_iff_getElem]at hnd;obtain⟨hj2,e2⟩:=List.getElem?_eq_some_iff.1 hb;obtain⟨hi2,e3⟩:=List.getElem?_eq_some_iff.1 ha;have h9:=hnd j i hj2 hi2 oz;rw[e2,e3]at h9;exact decide_eq_false (fun e=>h9 e.symm)
   have hbl:b.ms.length<=100:=(hmem b (mem_of_mem_take (mem_of_getElem? hb))).1.lm;have hI:=Gs a.ms b.ms oz oz;rw[hne]at hI;refine gi (az hb) ?_;refine gc hI ?_;refine gC (fun t94=>?_) (fun t94=>?_) (st1:=(19,0));cases t94;refine ga (yo (by rw[length_take]at hjn;unfold aO;omega)) ?_;exact aE J2 (j+1) hjn
  obtain⟨V,e1,hV,hVe,hVa⟩:=BK hl hxo oz P a.ms oz;have hself:=G9 hnd hma;have hVe:e1=0:=hVe.2 (by rw[hself];rfl);have hVa:=hVa a hself;subst hVe;subst hVa;refine gc hV ?_;refine bw (fun _=>(JT hok)) ?_;refine gC (fun t111=>?_) (fun t111=>?_) (st1:=(23,0));cases t111;refine bw (fun _=>(Gs V.ms modes oz oz)) ?_;refine ga aG ?_;exact aE J1 (i+1) hin (hw:=Wk.of (.k (.cons rfl (Sub.of (by rw[cR ha,List.any_append];simp;rfl)) (.k (.k (.k (.k (.k (.k (.k .nil))))))))) (.k .nil))
 have hin:=a6 hi t72;subst hin;obtain⟨V,e1,hV,hVe,hVa⟩:=BK hl hxo oz P modes oz;refine gc hV ?_;refine ae ?_
 have hn:ep (ia e1)=(hO A modes).isSome:=by
  cases h:ep (ia e1)with
  |true=>exact(hVe.1 (b9 (by rw[h];rfl))).symm
  |false =>
   have h9:e1≠0:=cq (by rw[h];rfl);cases h8:(hO A modes).isSome with
   |false=>rfl
   |true=>exact absurd (hVe.2 h8) h9
 rw[take_length,<- Hu,hn,beq_self_eq_true];rfl
open Go.Proofs Go.Proofs.YtlilpljpajeafaaGreat
open Go.ChangeShapes Go.WideShapes Go.ChangeAt Go.RowKit
set_option maxRecDepth 100000 in
theorem LN(os:Os)(started:os.Started)(H:Type)(enc:TypeId×Value->H) :
  ReturnsInHanded {} Tryz.checked os 9 .any (Rows.assembleModesSpec.pre6 enc prog Tryz.f9 Rows.assembleModesRow.domain false) (Rows.assembleModesSpec.post enc prog Tryz.f9 false true false false):=by
 refine returnsInHanded_of_change_sized (C := Tryz.checked) own started (by kernel_rfl) func9
  (ChangeSpec.witness6 (enc:=enc) (C:=Tryz.checked) false ⟨#[],#[.agg #[.string ⟨#[]⟩,.slice none 0 0,.slice none 0 0,.slice none 0 0],.slice none 0 0,.slice none 0 0],[]⟩ 8 (by kernel_rfl) (by kernel_rfl) (by kernel_rfl) (by kernel_rfl)) ?_
 intro W base args ds gs before hval0 hW hcnd hwt0 _;have hval:∀(j:Nat) t v,Tryz.f9.params[j]?=some t->args[j]?=some v->Value.okWide prog W .any base t v:=hval0;have hwt:(DataW.weightsEach prog (Tryz.f9.params.toList++Rows.assembleModesSpec.plain.varTypes prog) (ds++gs)).all (· <= reachBytes)=true:=hwt0;have hW':=hW;obtain⟨p,q,hA0,hV,rfl,hfz,hnd⟩:=hW;have hA:DataW.TrodAll enc prog W 0 (fun _=>true) true Tryz.f9.params.toList args.toList ds p:=hA0;rw[Tryz.params9]at hA hval hwt;obtain⟨v0,v1,v2,d0,d1,d2,p0,p1,p2,rfl,rfl,rfl,h0,h1,h2⟩:=trodAll_three hA;obtain⟨rfl,rfl⟩:=trodVars_none hV;clear hA0 hval0 hwt0;have hlt:∀x∈p0++p1++p2,x.block<W.heap.size:=fun x hx=>hW'.lt x (by simpa using hx)
 have hw0:∀n∈d0.weights prog 26,n<=reachBytes:=fun n hn=>by
  have:=List.all_eq_true.1 hwt n (DataW.weights_mem_each (j:=0) rfl rfl n hn);simpa using this
 have hw1:∀n∈d1.weights prog 84,n<=reachBytes:=fun n hn=>by
  have:=List.all_eq_true.1 hwt n (DataW.weights_mem_each (j:=1) rfl rfl n hn);simpa using this
 have hw2:∀n∈d2.weights prog 39,n<=reachBytes:=fun n hn=>by
  have:=List.all_eq_true.1 hwt n (DataW.weights_mem_each (j:=2) rfl rfl n hn);simpa using this
 obtain⟨x0,q0,r0⟩:=MU Tryz.underlying26 PH (hval 0 26 v0 rfl rfl) h0 hw0;obtain⟨x1,q1,r1⟩:=DM Kk (fun _=>rfl) (AZ Tryz.underlying84 (hval 1 84 v1 rfl rfl)) h1 hw1;obtain⟨x2,q2,r2⟩:=DM QV (fun _=>rfl) (AZ Tryz.underlying39 (hval 2 39 v2 rfl rfl)) h2 hw2
 have hc:=gB.calls (W:=W) (vs:=#[v0,v1,v2]) (L6 x0 q0 x1 q1.1 q1.2 x2 q2.2) rfl (fun j v x hv hx=>by
  match j,hv,hx with
  |0,hv,hx=>cases hv;cases hx;exact r0
  |1,hv,hx=>cases hv;cases hx;exact r1
  |2,hv,hx=>cases hv;cases hx;exact r2)
 refine hc.mono fun e W' ⟨he,hb⟩=>?_
 subst he;refine⟨_,rfl,HY hW' rfl rfl (fun _ _ _=>trodAll_mk1 (shut_bool Tryz.underlying4 _)) (fun sp hsp=>?_) rfl hb (ok_one (by kernel_rfl) rfl (okWide_bool_mk Tryz.underlying4 _))⟩;rw[Tryz.params9];have hs:∀x∈p0++p1++p2,sp x.block=true:=fun x hx=>hsp x (by simpa using hx)
 have g0:=wC (sp':=sp) (by kernel_rfl) (of_decide_eq_true (by kernel_rfl)) h0 hb (fun x hx=>hlt x (by simp[hx])) (fun x hx=>hs x (by simp[hx]));have g1:=wC (sp':=sp) (by kernel_rfl) (of_decide_eq_true (by kernel_rfl)) h1 hb (fun x hx=>hlt x (by simp[hx])) (fun x hx=>hs x (by simp[hx]));have g2:=wC (sp':=sp) (by kernel_rfl) (of_decide_eq_true (by kernel_rfl)) h2 hb (fun x hx=>hlt x (by simp[hx])) (fun x hx=>hs x (by simp[hx]));have g:=trodAll_mk3 g0 g1 g2;rw[show p0++p1++p2++[]=p0++(p1++p2)from by simp];exact g
set_option maxRecDepth 100000 in
theorem OV:prog.closure 9=[9,30,55,127,234,85,175,282,362,176,174,195,292,364,293,279,280,360,390,365,392,295,391,294,281,361,393,296,33,99,135,238,118,211,313,368,369,395,212,215,316,318,372,374,371,389,396,397,346,398,399,402,400,401,352,248,247,317,320,373,213,314,315,370,319,332,378,214,334,379,403,411,405,414,415,413,380,404,412,407,406,381,239,335,119,216,189,101,142,246,350,351,376,377,126,233,331,232,326,269,330,100,190,287,288,191,17,61,121,227,228,327,273,357,274,358,355,272,244,348,136,240,336,137,242,347,241,337,343,387,338,382,339,383,384,340,385,386,408,341,342,344,345,138,243,62,139,245,252,349,388,409,140,141,159,88,86,177,54,178,231,164,328,229,163,230,329,160,179,122,143,158,251,77,161,124,125,68,153,271,356,74,162,72,75,144,63,67,155,146,145,249,353,250,70,147,156,262,263,264,267,157,53,123,265,260,256,266,257,253,254,255,354,258,259,261,151,268,270,148,154,64,71,87,149,65,78,165,73,79,76,150,152,192,289,48,52,93,37,103,194,193,290,291,363,196,104,197,297,81,23,83,169,89,180,277,170,182,283,278,181,183,105,171,172,199,31,57,32,95,185,285,284,286,96,186,97,187,188,51,107,98,15,59,131,60,132,236,133,237,333,134,94,184,45,111,47,115,20]:=by kernel_rfl
theorem MG:joinedFacts prog 9 Tryz.f9 Rows.assembleModesSpec Rows.assembleModesRow=true:=by
 unfold joinedFacts Program.recurses Program.inPlace Program.unfollowed Program.varsNamed;rw[OV,Ee,KH,HH,IN,I1,G0]
 kernel_rfl
theorem assembleModes_holds:Rows.AssembleModesSaid :=
 OpenClaim.holds_of_wide 9 Tryz.f9 rfl rfl rfl rfl rfl rfl rfl ⟨rfl, rfl, rfl, rfl, rfl⟩ rfl rfl rfl rfl rfl (by kernel_rfl) func9 MG
  (of_decide_eq_true (by kernel_rfl)) (by unfold Func.isWrapper;first |(rw[if_pos (by decide +kernel)];kernel_rfl) |(rw[if_neg (by decide +kernel)];exact⟨rfl,rfl⟩))
  (fun os started H enc _=>LN os started H enc)
end Go.Lw
namespace Go.Proofs.YtlilpljpajeafaaGreat
theorem assembleModes_proved:Rows.AssembleModesSaid:=Go.Lw.assembleModes_holds
end Go.Proofs.YtlilpljpajeafaaGreat
