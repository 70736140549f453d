/- CertifyAccepts: for any linkage, any turns and a further turn the law returns true and leaves its arguments as they were. No other condition. Part 7 of 8: what the later parts need -/
import Derived.Test.YtpdiojikejnehaaGreatUf
set_option linter.unusedVariables false
open List (mem_of_getElem? mem_cons_of_mem mem_append map_cons mem_cons all_cons length_cons foldl_cons mem_cons_self length_append length_nil getD_eq_getElem?_getD all_eq_true getElem?_take getElem?_map append_assoc getElem?_eq_getElem nil_append getElem?_replicate append_nil map_append length_take take_of_length_le drop_zero take_length map_nil not_mem_nil length_map getElem?_of_mem getElem_mem map_map length_replicate map_replicate map_set length_set)
open Nat (eq_of_beq_eq_true le_refl lt_or_ge le_trans mul_le_mul_right zero_le lt_of_le_of_lt)
open Option (map_eq_some_iff)
open Bool (and_eq_true or_eq_true)
open Int (toNat_natCast)
open Go.Proofs.Tryz
namespace Go.Lw
def Cs(s:Nat)(l:Li):Prop:=∀b∈l.bo,∀m∈b.pts,Qb s m.x.q/\Qb s m.y.q
section
variable{s:Nat}{l:Li}(hl:l.ok)(hli:ay l=0)(hcs:Cs s l)
include hl hli hcs
theorem td{body pt:Int}(h1:bi body l.bo.length=true)(h2:bi pt (cz l body).length=true):Sm s (aX l body pt):=by
 obtain⟨n,k,bd,m,h⟩:=ou hl hli h1 h2;obtain⟨c1,c2⟩:=hcs bd (mem_of_getElem? h.gbd) m (mem_of_getElem? h.gm);rw[h.ex,bZ]at c1;rw[h.ey,bZ]at c2;exact⟨c1,c2⟩
theorem nG{i:Nat}{j:Jt}(hj:l.jo[i]?=some j){b:Int}(h:j.a=b\/j.b=b):Sm s (aj l j b):=by
 obtain⟨i1,i2,i3,i4,_⟩:=dx hli hj;unfold aj
 by_cases e:j.a=b
 ·rw[if_pos e];subst e;exact td hl hli hcs i1 i3
 ·rw[if_neg e];rcases h with h |h
  ·exact absurd h e
  ·subst h;exact td hl hli hcs i2 i4
theorem qN{E r K:Nat}{a:As}(al:AB a)(hc:ba a.rs=0)(tw:Tw (llq a.rs) r)(hK:eB r (llq a.rs).length<=K){body pt:Int}(h1:bi body l.bo.length=true)(h2:bi pt (cz l body).length=true)(hb:Pd E a body) :
  Bz (3*E+2*s+2*K+10) (bC l a body pt).1/\Bz (3*E+2*s+2*K+10) (bC l a body pt).2:=by
 obtain⟨n,k,bd,m,b,hp⟩:=uR hl hli al hc h1 h2 hb;obtain⟨c1,c2⟩:=hcs bd (mem_of_getElem? hp.mp.gbd) m (mem_of_getElem? hp.mp.gm);have h:=yL tw hp.ok c1 c2;have hk:kB r (llq a.rs).length<=K:=hK;unfold bC Bz;rw[hp.eq];exact⟨h.1.mono oz,h.2.mono oz⟩
theorem rg{E r K:Nat}{a:As}(al:AB a)(hc:ba a.rs=0)(tw:Tw (llq a.rs) r)(hK:eB r (llq a.rs).length<=K){i:Nat}{j:Jt}(hj:l.jo[i]?=some j){b:Int}(h:PinP E l a j b) :
  Bz (3*E+2*s+2*K+10) (aM l a j b).1/\Bz (3*E+2*s+2*K+10) (aM l a j b).2:=by
 obtain⟨i1,i2,i3,i4,_⟩:=dx hli hj;unfold aM;rcases h.tie with⟨e,hb⟩ |⟨e,e2,hb⟩
 ·rw[if_pos e];exact qN hl hli hcs al hc tw hK i2 i4 hb
 ·rw[if_neg e];exact qN hl hli hcs al hc tw hK i1 i3 hb
end
theorem Bz.upX{ts us:LL}{e:Nat}{x:Et ts}(h:Bz e x)(h1:ts.length<=us.length)(h5:us.length<=5):Bz e (dE us (sX x)):=oU ⟨h5,Nl.mono h.nl h1,h.cb⟩
theorem zJ{s:Nat}{p q:Rat×Rat}(hp:Sm s p)(hq:Sm s q):Cb (8*s+5) [bO p q]:=by
 have h:=(hp.sub hq).dot (hp.sub hq);exact Cb.one (h.mono oz)
abbrev wZ(a b K K' I J:Nat):Nat:=14*a+3*b+5*K+3*K'+I+J+25
abbrev oZ(s a b K K' I J:Nat):Nat:=a+4*wZ a b K K' I J+26*s+18
theorem A5{n a b ec ex e:Nat}{p:Pq}(h:Pz n ec ex p)(h1:ec<=e)(h2:ex<=e):Pq.ok n e p:=⟨h.c.mono h1,h.s.mono h1,h.x.mono h2,h.y.mono h2⟩
section
variable{ts:LL}{r a b X K K' I J:Nat}(Z:Szs ts.length r a b X K K' I J)(tw:Tw ts r)
include Z tw
theorem F7{s:Nat}{m:Mt}(hx:Xz ts r X m.ts)(hm:∀x∈m.ps,Nm m.ts.length (13*a+2*b+5*K+2*K'+I+J+20) x.1/\Nm m.ts.length (13*a+2*b+5*K+2*K'+I+J+20) x.2){hs:List Hd}
  (hh:∀h∈hs,Sm s h.p/\Sm s h.c/\bQ (bW h.c h.p) (bW h.c h.p)≠0/\∃o:P2 ts,h.a=P2.l o/\Bz a o.1/\Bz a o.2) :
  ∀sv∈j5 m hs,Xz ts r X sv.ts/\∀p∈sv.ps,Pq.ok sv.ts.length (oZ s a b K K' I J) p:=by
 have _:=Z;have _:=tw;intro sv h1;unfold j5 at h1;obtain⟨i,hi,rfl⟩:=List.mem_map.1 h1;obtain⟨x,hxx⟩:=ax (List.mem_range.1 hi);obtain⟨n1,n2⟩:=hm x (mem_of_getElem? hxx);refine⟨hx,fun p hp=>?_⟩;unfold jX at hp;rw[aC hxx]at hp;obtain⟨h,h2,rfl⟩:=List.mem_map.1 hp;obtain⟨hp1,hc1,h0,o,ea,o1,o2⟩:=hh h h2;have h5:=hx.tw.five;have u1:=o1.upX hx.up h5;have u2:=o2.upX hx.up h5;have w1:=oU n1;have w2:=oU n2;have e1:h.a.1=sX o.1:=by rw[ea]
 have e2:h.a.2=sX o.2:=by rw[ea]
 have z:=ED (ts:=m.ts) (u:=bW h.c h.p) (p:=h.p) (w:=j6 m.ts h x) (o:=lT m.ts h) (e:=13*a+2*b+5*K+2*K'+I+J+20+a+1) (f:=a) (hc1.sub hp1) hp1 h0
  (by unfold j6;rw[e1];exact w1.sub u1) (by unfold j6;rw[e2];exact w2.sub u2) (by unfold lT;rw[e1];exact u1) (by unfold lT;rw[e2];exact u2)
 exact A5 (a:=a) (b:=b) z (by show _<=a+4*(14*a+3*b+5*K+3*K'+I+J+25)+26*s+18;omega) (by show _<=a+4*(14*a+3*b+5*K+3*K'+I+J+25)+26*s+18;omega)
theorem LG{s:Nat}{us:LL}(hx:Xz ts r X us){R:Rp}{q:List Rat}(hv:Sm (2*s+1) R.v)(hp:Sm s R.p)(h0:bQ R.v R.v≠0)(hq:Bz 1 (dE us q))(w1:Bz (2*a+1) (dE us R.w.1))(w2:Bz (2*a+1) (dE us R.w.2))(hh:Bz b (dE us R.h))
  (hd:Bz J (iE (dE us R.d))) (a1:Bz a (dE us R.a.1)) (a2:Bz a (dE us R.a.2)):Pq.ok us.length (oZ s a b K K' I J) (oy us R q):=by
 have _:=tw;have hkx:=Z.kx hx.ln;have x1:=(((hq.mul hx.tw hkx w1).sub (hh.mul hx.tw hkx w2.neg)).mul hx.tw hkx hd)
 have x2:=(((hq.mul hx.tw hkx w2).sub (hh.mul hx.tw hkx w1)).mul hx.tw hkx hd)
 have z:=ED (ts:=us) (u:=R.v) (p:=R.p) (w:=m9 us q R.h R.d R.w) (o:=(dE us R.a.1,dE us R.a.2)) (e:=wZ a b K K' I J) (f:=a) hv hp h0
  (x1.mono (by show _<=14*a+3*b+5*K+3*K'+I+J+25;omega)) (x2.mono (by show _<=14*a+3*b+5*K+3*K'+I+J+25;omega)) a1 a2
 exact A5 (a:=a) (b:=b) z (by show _<=a+4*(14*a+3*b+5*K+3*K'+I+J+25)+26*s+18;simp only[wZ];omega) (by show _<=a+4*(14*a+3*b+5*K+3*K'+I+J+25)+26*s+18;simp only[wZ];omega)
end
section
variable{s r b X K K' I J E:Nat}{l:Li}{a:As}(D:DyR l a)(hn:(llq a.rs).length<=1)(hcs:Cs s l)(tw:Tw (llq a.rs) r)
  (Z:Szs (llq a.rs).length r (3*E+2*s+2*K+10) b X K K' I J) (hb:8*s+5<=b)
include D hn hcs tw Z hb
theorem IN{g:Gr}{i k z0 z1 z2:Int}{j0 j1 j2:Jt}(P:RrrP E l a g i k z0 z1 z2 j0 j1 j2) :
  ∀sv∈kO l a i k j0 j1 j2,Xz (llq a.rs) r X sv.ts/\∀p∈sv.ps,Pq.ok sv.ts.length (oZ s (3*E+2*s+2*K+10) b K K' I J) p:=by
 have _:=hn;have hq0:=nG D.hl D.li hcs P.h0 P.p0.or;have hq1:=nG D.hl D.li hcs P.h1 P.p1.or;have hq2:=nG D.hl D.li hcs P.h2 P.t1;have hq3:=nG D.hl D.li hcs P.h2 P.t2;obtain⟨y1,y2⟩:=rg D.hl D.li hcs D.al D.hc tw Z.hK P.h0 P.p0;obtain⟨y3,y4⟩:=rg D.hl D.li hcs D.al D.hc tw Z.hK P.h1 P.p1;have z1:Bz b (qE (bO (aj l j2 i) (aj l j0 i)):Et (llq a.rs)):=Bz.q tw.five ((zJ hq2 hq0).mono hb);have z2:Bz b (qE (bO (aj l j2 k) (aj l j1 k)):Et (llq a.rs)):=Bz.q tw.five ((zJ hq3 hq1).mono hb);unfold kO
 by_cases h1:fP [bW (aj l j2 i) (aj l j0 i),bW (aj l j2 k) (aj l j1 k)]=true
 ·rw[if_pos h1];intro sv h;cases h
 ·rw[if_neg h1];obtain⟨w1,w2⟩:=tY (Bool.eq_false_iff.2 h1)
  by_cases h2:fu (aM l a j0 i) (aM l a j1 k) (qE (bO (aj l j2 i) (aj l j0 i))) (qE (bO (aj l j2 k) (aj l j1 k)))≠0
  ·rw[if_pos h2];intro sv h;cases h
  ·rw[if_neg h2];obtain⟨hx,hm⟩:=PX Z tw y1 y2 y3 y4 z1 z2 (Decidable.not_not.1 h2);exact F7 Z tw hx hm (ke ⟨hq0,hq2,w1,_,rfl,y1,y2⟩ ⟨hq1,hq3,w2,_,rfl,y3,y4⟩)
theorem MZ{g:Gr}{i z0 z1:Int}{j0 j:Jt}(P:SlP E l a g 2 i z0 z1 j0 j)(ha:j.a=i)(hbd:Pd E a j.b) :
  ∀sv∈kW l a i j0 j,Xz (llq a.rs) r X sv.ts/\∀p∈sv.ps,Pq.ok sv.ts.length (oZ s (3*E+2*s+2*K+10) b K K' I J) p:=by
 have _:=hn;obtain⟨i1,i2,i3,i4,i5⟩:=dx D.li P.h1;have hq2:Sm s (aX l i j.point):=by rw[<- ha];exact td D.hl D.li hcs i1 i3
 have hq0:=nG D.hl D.li hcs P.h0 P.p0.or;obtain⟨y1,y2⟩:=rg D.hl D.li hcs D.al D.hc tw Z.hK P.h0 P.p0;obtain⟨y3,y4⟩:=qN D.hl D.li hcs D.al D.hc tw Z.hK i2 i4 hbd;obtain⟨y5,y6⟩:=qN D.hl D.li hcs D.al D.hc tw Z.hK i2 (i5 P.hk) hbd;have z1:Bz b (qE (bO (aX l i j.point) (aj l j0 i)):Et (llq a.rs)):=Bz.q tw.five ((zJ hq2 hq0).mono hb);unfold kW
 by_cases h1:fP [bW (aX l i j.point) (aj l j0 i)]=true
 ·rw[if_pos h1];intro sv h;cases h
 ·rw[if_neg h1];have w1:=wa (Bool.eq_false_iff.2 h1)
  by_cases h2:fF (bC l a j.b j.on) (bC l a j.b j.to)≠0
  ·rw[if_pos h2];intro sv h;cases h
  ·rw[if_neg h2];obtain⟨hx,hm⟩:=JL Z tw y3 y4 y5 y6 y1 y2 z1 (Decidable.not_not.1 h2);exact F7 Z tw hx hm (gU ⟨hq0,hq2,w1,_,rfl,y1,y2⟩)
theorem KI{g:Gr}{i z0 z1:Int}{j0 j:Jt}(P:SlP E l a g 3 i z0 z1 j0 j)(hj:j.b=i)(hbd:Pd E a j.a) :
  ∀sv∈ki l a i j0 j,Xz (llq a.rs) r X sv.ts/\∀p∈sv.ps,Pq.ok sv.ts.length (oZ s (3*E+2*s+2*K+10) b K K' I J) p:=by
 obtain⟨i1,i2,i3,i4,i5⟩:=dx D.li P.h1;have hs0:=nG D.hl D.li hcs P.h0 P.p0.or;have hs1:Sm s (aX l i j.on):=by rw[<- hj];exact td D.hl D.li hcs i2 i4
 have hs2:Sm s (aX l i j.to):=by rw[<- hj];exact td D.hl D.li hcs i2 (i5 P.hk)
 have hv:Sm (2*s+1) (cW l i j):=(hs2.sub hs1).mono oz;have qn:Cb b [ji l i j]:=(Cb.one (hv.dot hv)).mono oz;have qh:Cb b [cG l i j0 j]:=(Cb.one (hv.cross (hs1.sub hs0))).mono oz;obtain⟨o1,o2⟩:=rg D.hl D.li hcs D.al D.hc tw Z.hK P.h0 P.p0;obtain⟨p1,p2⟩:=qN D.hl D.li hcs D.al D.hc tw Z.hK i1 i3 hbd;have w1:Bz (2*(3*E+2*s+2*K+10)+1) (co l a i j0 j).1:=Bz.mono (p1.sub o1) oz;have w2:Bz (2*(3*E+2*s+2*K+10)+1) (co l a i j0 j).2:=Bz.mono (p2.sub o2) oz;have hd:Bz (8*(3*E+2*s+2*K+10)+2*K+8) (cA l a i j0 j):=Bz.mono (zi Z tw (p:=aM l a j0 i) (q:=bC l a j.a j.point) o1 o2 p1 p2) oz;have hX:Bz X (a9 l a i j0 j):=Bz.mono ((hd.qm qn).sub ((Bz.q tw.five qh).qm qh)) (by have:=Z.hX;omega);have h0:=xf D.li P.h1 P.hk hj;unfold ki
 by_cases h1:ak (cA l a i j0 j)=0/\ak (qE (cG l i j0 j):Et (llq a.rs))=0
 ·rw[if_pos h1];intro sv h;cases h
 ·rw[if_neg h1]
  by_cases h2:ak (a9 l a i j0 j)<0
  ·rw[if_pos h2];intro sv h;cases h
  ·rw[if_neg h2];have hd0:ak (cA l a i j0 j)≠0:=vM tw h2 h1
   have key:∀us,Xz (llq a.rs) r X us->Bz J (iE (dE us (sX (cA l a i j0 j))))->∀q,Bz 1 (dE us q)->Pq.ok us.length (oZ s (3*E+2*s+2*K+10) b K K' I J) (oy us (dS l a i j0 j) q):=by
    intro us hx hi q hq;have h5:=hx.tw.five
    have hh:Bz b (dE us (sh 0 (cG l i j0 j:Rat))):=by
     have e:dE us (sh 0 (cG l i j0 j:Rat))=qE (cG l i j0 j):=fR _ _;rw[e];exact Bz.q h5 qh
    exact LG Z tw hx (R:=dS l a i j0 j) hv hs0 h0 hq (w1.upX hx.up h5) (w2.upX hx.up h5) hh hi (o1.upX hx.up h5) (o2.upX hx.up h5)
   by_cases h3:0<ak (a9 l a i j0 j)
   ·rw [if_pos h3];have hx:=uY tw hn Z.hL hX oz;have hi:=AP Z tw hX (by omega:0 <= ak (a9 l a i j0 j)) hd hd0;have rt:=yG Z tw (x:=a9 l a i j0 j);have k:=key _ hx hi;intro sv h;unfold jY at h;obtain ⟨n,hn2,rfl⟩:=List.mem_map.1 h;refine ⟨hx,fun p hp=>?_⟩;unfold jk at hp;rw [List.mem_singleton.1 hp]
    match n,List.mem_range.1 hn2 with
    |0,_=>exact k _ rt
    |1,_ =>
     refine k _ ?_;show Bz 1 (dE _ (sX (-bn (a9 l a i j0 j))));have e:dE (aG (llq a.rs) (sX (a9 l a i j0 j))) (sX (-bn (a9 l a i j0 j)))=-bn (a9 l a i j0 j):=a7 _ _;rw[e];exact rt.neg
   ·rw[if_neg h3];have hx:=wL (X:=X) tw Z.hL;have e:dE (llq a.rs) (sX (cA l a i j0 j))=cA l a i j0 j:=a7 _ _
    have hi:Bz J (iE (dE (llq a.rs) (sX (cA l a i j0 j)))):=by
     rw[e];exact(yb Z tw hd hd0).mono Z.ij
    have k:=key _ hx hi;intro sv h;unfold jY at h;obtain⟨n,hn2,rfl⟩:=List.mem_map.1 h;refine⟨hx,fun p hp=>?_⟩;unfold jk at hp;rw[List.mem_singleton.1 hp]
    match n,List.mem_range.1 hn2 with
    |0,_=>exact k _ (oU ⟨tw.five,.inl rfl,⟨1,0,⟨by decide,fun q h=>by cases h⟩,by decide,by decide⟩⟩)
end
theorem D8{k:List Bool}{i:Nat}{b:Int}(h:kn (k.set i true) b=true):kn k b=true\/i=b.toNat:=by
 unfold kn at h ⊢
 by_cases e:i=b.toNat
 ·exact .inr e
 ·rw[getD_eq_getElem?_getD,List.getElem?_set_ne e,<- getD_eq_getElem?_getD]at h;exact .inl h
theorem xn:∀(bs:List Int){k:List Bool}{b:Int},kn (bf k bs) b=true->kn k b=true\/∃x∈bs,x.toNat=b.toNat
 |[],k,b,h=>.inl h
 |x::bs,k,b,h=>by
  have h:kn (bf (k.set x.toNat true) bs) b=true:=h;rcases xn bs h with h |⟨y,hy,e⟩
  ·rcases D8 h with h |h
   ·exact .inl h
   ·exact .inr ⟨x,mem_cons_self,h⟩
  ·exact .inr ⟨y,mem_cons_of_mem _ hy,e⟩
def q9(l:Li)(kw:List Bool)(out:List Gr):Prop:=∀d∈l.dv,kn kw d.body=true->∃g∈out,g.kind=0/\g.bo=[d.body]
theorem N6{l:Li}{d:Dr}(hd:d∈l.dv){b:Int}(h:d.body=b):k9 l b=true:=by
 unfold k9;rw[List.any_eq_true];exact⟨d,hd,by simp[h]⟩
theorem DF{l:Li}{kw:List Bool}{g:Gr}(h:pairG l kw=some g):∀x∈g.bo,freeB l kw x=true:=by
 unfold pairG at h;rw[map_eq_some_iff]at h;obtain⟨i,hi,h⟩:=h;obtain⟨h1,h2⟩:=eI hi;split at h
 ·rename_i k hk;subst h;unfold prAt at hk;rw [map_eq_some_iff] at hk;obtain ⟨k',hk',rfl⟩:=hk;obtain ⟨h3,h4⟩:=eI hk';rw [show i + 1 + k' = k' + (i + 1) by omega] at h4;unfold prHit at h4;simp only [Bool.not_eq_false',and_eq_true,decide_eq_true_eq] at h4;obtain ⟨⟨f1,f2⟩,_⟩:=h4;intro x hx;simp only [prG,mem_cons,not_mem_nil,or_false] at hx;rcases hx with rfl | rfl
  ·exact f1
  ·exact f2
 ·rename_i hk;rw[hk]at h2;cases h2
theorem Cw{l:Li}{kw:List Bool}{g:Gr}(h:singleG l kw=some g):∀x∈g.bo,freeB l kw x=true:=by
 unfold singleG at h;rw[map_eq_some_iff]at h;obtain⟨i,hi,rfl⟩:=h;obtain⟨h1,h2⟩:=eI hi;unfold sgHit at h2;simp only[Bool.not_eq_false',and_eq_true,decide_eq_true_eq]at h2;intro x hx;simp only[sgG,mem_cons,not_mem_nil,or_false]at hx;subst hx;exact h2.1
theorem RE{l:Li}(hl:ay l=0){kw:List Bool}{out:List Gr}{g:Gr}(h:q9 l kw out)(hg:nextG l kw=some g):q9 l (bf kw g.bo) (out++[g]):=by
 intro d hd hk;have ho:=vo hl hg;rcases xn g.bo hk with h1 |⟨x,hx,e⟩
 ·obtain⟨g',h2,h3⟩:=h d hd h1;exact⟨g',List.mem_append_left _ h2,h3⟩
 ·obtain ⟨i, hi⟩:=getElem?_of_mem hd;have hb:=c9 (kP hl hi);have hx0:=(ho.b x hx).1;have ex:d.body = x:=by omega
  unfold nextG at hg;cases h1:driverG l kw with
  |some g' =>
   rw[h1]at hg;cases hg
   refine⟨g,List.mem_append_right _ (List.mem_singleton.2 rfl),?_⟩;unfold driverG at h1;rw[map_eq_some_iff]at h1;obtain⟨i,_,rfl⟩:=h1;refine⟨rfl,?_⟩;rw[List.mem_singleton.1 hx]at ex;rw[ex]
  |none =>
   rw[h1]at hg
   have hf:freeB l kw x=true:=by
    cases h2:pairG l kw with
    |some g'=>rw[h2]at hg;cases hg;exact DF h2 x hx
    |none=>rw[h2]at hg;exact Cw hg x hx
   unfold freeB at hf;rw[N6 hd ex]at hf;simp at hf
theorem Ex{l:Li}(hl:ay l=0):∀(n:Nat)(kw:List Bool)(out:List Gr),q9 l kw out->q9 l (findFrom l n kw out).1 (findFrom l n kw out).2
 |0,kw,out,h=>h
 |n+1,kw,out,h=>by
  unfold findFrom;cases hg:nextG l kw with
  |none=>exact h
  |some g=>exact Ex hl n _ _ (RE hl h hg)
theorem wc{l:Li}(hl:ay l=0){i:Nat}{d:Dr}(hd:l.dv[i]?=some d):d.body≠0/\∀j d',j<i->l.dv[j]?=some d'->d'.body≠d.body:=by
 have h1:=(cJ hl).2.2.1;unfold fN at h1;split at h1
 ·cases h1
 ·have h2:=rF h1 i (List.getElem?_eq_some_iff.1 hd).1;unfold dD at h2;rw[aC hd]at h2;split at h2
  ·cases h2
  ·split at h2
   ·cases h2
   ·split at h2
    ·cases h2
    ·split at h2
     ·cases h2
     ·rename_i h4;split at h2
      ·cases h2
      ·rename_i h5;refine⟨h4,fun j d' hj hd' e=>h5 ?_⟩;rw[List.any_eq_true];exact⟨d',mem_of_getElem? (by rw[getElem?_take,if_pos hj];exact hd'),by simpa using e⟩
theorem Fg{α:Type}{p:α->Bool}:∀{l:List α}{x y:α},x∈l->y∈l->x≠y->p x=true->p y=true->2<=l.countP p
 |z::l,x,y,hx,hy,hn,px,py=>by
  have pos:∀w,w∈l->p w=true->0<l.countP p:=fun w hw pw=>List.countP_pos_iff.2 ⟨w,hw,pw⟩
  rcases List.mem_cons.1 hx with e |hx
  ·rcases List.mem_cons.1 hy with e2 |hy
   ·exact absurd (e.trans e2.symm) hn
   ·have h9:=pos y hy py;rw[List.countP_cons_of_pos (e▸px)];omega
  ·rcases List.mem_cons.1 hy with e |hy
   ·have h9:=pos x hx px;rw[List.countP_cons_of_pos (e▸py)];omega
   ·have:=Fg hx hy hn px py;rw[List.countP_cons];omega
theorem rZ{l:Li}(hl:ay l=0):l.dv.length<=2:=by
 have h1:=(cJ hl).2.2.1;unfold fN at h1;split at h1
 ·cases h1
 ·omega
theorem BC{l:Li}(hl:ay l=0)(hs:splitE l=0):∀d∈l.dv,∃g∈splitG l,g.kind=0/\g.bo=[d.body]:=by
 have h0:q9 l (cg l.bo.length 0) []:=by
  intro d hd hk;obtain⟨i,hi⟩:=getElem?_of_mem hd;have hb:=c9 (kP hl hi);rw[nK oz oz oz]at hk;exact absurd (of_decide_eq_true hk) (wc hl hi).1
 have h1:=Ex hl l.bo.length _ _ h0;rw[BD]at h1;intro d hd;obtain⟨i,hi⟩:=getElem?_of_mem hd;have hb:=c9 (kP hl hi)
 have hz:(dW (bH l)).length=0:=by
  unfold splitE at hs;split at hs
  ·omega
  ·cases hs
 rw[tB]at hz
 have hlen:(bH l).length=l.bo.length:=by
  have:∀(gs:List Gr)(k:List Bool),(gs.foldl (fun k g=>bf k g.bo) k).length=k.length:=by
   intro gs
   induction gs with
   |nil=>intro k;rfl
   |cons g gs ih=>intro k;rw[foldl_cons,ih,jd]
  unfold bH;rw[this,gy]
 have hk:kn (bH l) d.body=true:=by
  unfold kn;rw[getD_eq_getElem?_getD,getElem?_eq_getElem (by omega:d.body.toNat<(bH l).length)];show(bH l)[d.body.toNat]=true;cases hv:(bH l)[d.body.toNat]'oz with
  |true=>rfl
  |false =>
   exfalso;have hm:false∈bH l:=hv▸getElem_mem _;rw[<- List.contains_iff_mem]at hm;rw[hm]at hz;cases hz
 obtain⟨g,hg,h2⟩:=h1 d hd hk;refine⟨g,?_,h2⟩;unfold splitG;rw[if_pos hs];exact hg
theorem K8{l:Li}(hl:ay l=0)(hs:splitE l=0):l.dv.length<=(splitG l).countP (fun g=>decide (g.kind=0)):=by
 have h2:=rZ hl;have hg:=BC hl hs
 match hd:l.dv with
 |[]=>simp
 |[d] =>
  obtain⟨g,h3,h4,_⟩:=hg d (by rw[hd];simp);exact List.countP_pos_iff.2 ⟨g,h3,by simpa using h4⟩
 |[d,d'] =>
  obtain⟨g,h3,h4,h5⟩:=hg d (by rw[hd];simp);obtain⟨g',h3',h4',h5'⟩:=hg d' (by rw[hd];simp);refine Fg h3 h3' ?_ (by simpa using h4) (by simpa using h4');intro e;rw[e,h5']at h5;exact(wc hl (i:=1) (d:=d') (by rw[hd];rfl)).2 0 d oz (by rw[hd];rfl) (by simpa using h5.symm)
 |_::_::_::_=>rw[hd]at h2;simp only[length_cons]at h2;omega
structure Aq where
  ts:LL
  bs:List Pq
  ms:List Int
instance:Inhabited Pq:=⟨⟨[],[],[],[]⟩⟩
instance:Inhabited Aq:=⟨⟨[],[],[]⟩⟩
def Pq.pl(p:Pq):Pl:=⟨p.c.map rt,p.s.map rt,p.x.map rt,p.y.map rt⟩
def Aq.as(a:Aq):As:=⟨a.ts.map (List.map rt),a.bs.map Pq.pl,a.ms⟩
theorem Pq.pl_av(p:Pq):p.pl.av=p.av:=by unfold Pl.av Pq.av Pq.pl;rw[ep,ep,ep,ep]
abbrev Aq.cs(a:Aq):List AV:=[.lst 1 (a.ts.map nA),.lst 4 (a.bs.map Pq.av),.lst 1 (a.ms.map i64)]
abbrev Aq.av(a:Aq):AV:=.agg a.cs
theorem Aq.as_av(a:Aq):a.as.av=a.av:=by
 unfold As.av Aq.as Aq.av Aq.cs;rw[map_map,map_map];congr 3
 ·exact List.map_congr_left (fun x _=>ep x)
 ·congr 1;exact List.map_congr_left (fun x _=>Pq.pl_av x)
theorem Aq.llq(a:Aq):Lw.llq a.as.rs=a.ts:=pH _
def bG(bs:List Pq)(is:List Int)(ps:List Pq):List Pq:=(is.zip ps).foldl (fun k x=>k.set x.1.toNat x.2) bs
def Aq.nxt(a:Aq)(g:Gr)(s:Sv):Aq:=⟨s.ts,bG a.bs g.bo s.ps,a.ms++[s.mode]⟩
def bc:Pq:=⟨[],[],[],[]⟩
def gh:Pq:=⟨[1],[],[],[]⟩
def fT(l:Li):Aq:=⟨[],(List.replicate l.bo.length bc).set 0 gh,[]⟩
def gd:Tn:=⟨⟨false,[],[]⟩,false⟩
def b9(g:Gr)(xs:List Tn):Tn:=if g.kind=0 then xs.getD g.driver.toNat gd else gd
theorem Du:∀(zs:List (Int×Pq))(bs:List Pq),(zs.foldl (fun k x=>k.set x.1.toNat x.2) bs).length=bs.length
 |[],bs=>rfl
 |z::zs,bs=>by rw[foldl_cons,Du zs,length_set]
theorem BB:∀(zs:List (Int×Pq))(bs:List Pq)(p:Pq),p∈zs.foldl (fun k x=>k.set x.1.toNat x.2) bs->p∈bs\/∃z∈zs,z.2=p
 |[],bs,p,h=>.inl h
 |z::zs,bs,p,h=>by
  rw[foldl_cons]at h;rcases BB zs _ p h with h |⟨z',hz,e⟩
  ·rcases List.mem_or_eq_of_mem_set h with h |h
   ·exact .inl h
   ·exact .inr ⟨z,mem_cons_self,h.symm⟩
  ·exact .inr ⟨z',mem_cons_of_mem _ hz,e⟩
theorem vZ(bs:List Pq)(is:List Int)(ps:List Pq):(bG bs is ps).length=bs.length:=Du _ _
theorem CT{bs:List Pq}{is:List Int}{ps:List Pq}{p:Pq}(h:p∈bG bs is ps):p∈bs\/p∈ps:=by
 rcases BB _ _ _ h with h |⟨z,hz,e⟩
 ·exact .inl h
 ·exact .inr (e▸(List.of_mem_zip hz).2)
theorem ND{bs:List Pq}{is:List Int}{ps:List Pq}{i:Nat}{b:Int}{p:Pq}(hb:is[i]?=some b)(hp:ps[i]?=some p) :
  bG bs (is.take (i+1)) (ps.take (i+1))=(bG bs (is.take i) (ps.take i)).set b.toNat p:=by
 have h1:is.take (i+1)=is.take i++[b]:=by rw[List.take_add_one,hb];rfl
 have h2:ps.take (i+1)=ps.take i++[p]:=by rw[List.take_add_one,hp];rfl
 have hl1:=(List.getElem?_eq_some_iff.1 hb).1;have hl2:=(List.getElem?_eq_some_iff.1 hp).1;unfold bG;rw[h1,h2,List.zip_append (by rw[length_take,length_take];omega),List.foldl_append];rfl
def kq(s j r E:Nat):Nat:=3*E+2*s+2*eB r j+10
def jQ(s j r E:Nat):Nat:=24*kq s j r E+8*eB r j+5*(8*s+5)+23
def Di(s j r E:Nat):Nat:=iB r j (8*kq s j r E+2*eB r j+8)
def uX(s j r E:Nat):Nat:=iB (r+jQ s j r E) j (8*kq s j r E+2*eB r j+8)
def rU(s j r E:Nat):Nat:=oZ s (kq s j r E) (8*s+5) (eB r j) (eB (r+jQ s j r E) (j+1)) (Di s j r E) (uX s j r E)
def mF(s g j r E:Nat):Nat:=kq s j r E+2*g+2*s+4
def dY(s g:Nat):Nat->Nat->Nat->Nat->Nat->Bool
  |0,_,j,r,E=>decide (E<=3200000000/\r<=400000000/\j<=2)
  |n+1,y,j,r,E=>decide (E<=3200000000/\r<=400000000/\j<=2)&&(dY s g n y j r (mF s g j r E) &&
      (decide (y=0)||(decide (j<=1/\E<=3900000/\r<=64990/\r+jQ s j r E<=5000000000/\uX s j r E<=50000000000)&&dY s g n (y-1) (j+1) (r+jQ s j r E) (rU s j r E))))
theorem Ub:dY 32 134 3 1 0 0 2=true:=by decide +kernel
theorem Ox:dY 9 42 4 2 0 0 2=true:=by decide +kernel
theorem tO{s g n y j r E:Nat}(h:dY s g n y j r E=true):E<=3200000000/\r<=400000000/\j<=2:=by
 cases n with
 |zero=>exact of_decide_eq_true h
 |succ n =>
  unfold dY at h;simp only[and_eq_true,decide_eq_true_eq]at h;exact⟨h.1.1,h.1.2.1,h.1.2.2⟩
theorem Qu{s g n y j r E:Nat}(h:dY s g n y j r E=true):E<=50000000000/\r<=400000000/\j<=2:=by
 have:=tO h;omega
theorem sC{s g n y j r E:Nat}(h:dY s g (n+1) y j r E=true):(E<=20000000000/\r<=400000000/\j<=2)/\dY s g n y j r (mF s g j r E)=true:=by
 unfold dY at h;simp only[and_eq_true,decide_eq_true_eq]at h;exact⟨⟨by omega,h.1.2⟩,h.2.1⟩
theorem ta{s g n y j r E:Nat}(h:dY s g (n+1) (y+1) j r E=true):(j<=1/\E<=3900000/\r<=64990/\r+jQ s j r E<=5000000000/\uX s j r E<=50000000000)/\dY s g n y (j+1) (r+jQ s j r E) (rU s j r E)=true:=by
 unfold dY at h;simp only[and_eq_true,or_eq_true,decide_eq_true_eq,Nat.add_sub_cancel]at h;rcases h.2.2 with h1 |h1
 ·omega
 ·exact h1
structure QInv(l:Li)(j r E:Nat)(a:Aq):Prop where
  tw:Tw a.ts r
  lv:a.ts.length<=j
  bs:∀p∈a.bs,Pq.ok a.ts.length E p
  ln:a.bs.length=l.bo.length
theorem Pq.ok.up{n n' e e':Nat}{p:Pq}(h:Pq.ok n e p)(hn:n<=n')(h5:n'<=5)(he:e<=e'):Pq.ok n' e' p :=
 ⟨⟨h5,h.c.nl.mono hn,h.c.cb.mono he⟩,⟨h5,h.s.nl.mono hn,h.s.cb.mono he⟩,⟨h5,h.x.nl.mono hn,h.x.cb.mono he⟩,⟨h5,h.y.nl.mono hn,h.y.cb.mono he⟩⟩
theorem Pq.ok.lv{n m e:Nat}{p:Pq}(h:Pq.ok n e p)(hn:n=m):Pq.ok m e p:=hn▸h
theorem wi{r r':Nat}(h:r<=r'):∀j,eB r j<=eB r' j
 |0=>le_refl _
 |j+1=>by have:=wi h j;simp only[eB];omega
theorem Gz{r r':Nat}(h:r<=r'):∀j e,iB r j e<=iB r' j e
 |0,e=>le_refl _
 |j+1,e=>by
  have h1:=wi h j;have h2:=wi h (j+1);have h3:=Gz h j (4*e+3*eB r j+r+1);have h4:=we r' j (e:=4*e+3*eB r j+r+1) (f:=4*e+3*eB r' j+r'+1) oz;simp only[iB];omega
theorem tp:Pq.ok 0 2 bc:=by
 have h:Nm 0 2 []:=⟨by omega,.inl rfl,⟨1,0,⟨by decide,fun q h=>by cases h⟩,by decide,by decide⟩⟩
 exact⟨h,h,h,h⟩
theorem EK:Pq.ok 0 2 gh:=by
 have h:Nm 0 2 [1]:=⟨by omega,.inr ⟨0,le_refl _,rfl⟩,Cb.mono (Cb.int (z:=1) (e:=1) (by decide)) oz⟩
 exact⟨h,tp.c,tp.c,tp.c⟩
theorem y9:Tw [] 0:=⟨by decide,(fun j h=>by cases h),(fun j h=>by cases h),⟨1,1,by decide,(fun d h=>by cases h),by decide,by decide⟩,by omega⟩
theorem Q2(l:Li):QInv l 0 0 2 (fT l):=by
 refine⟨y9,le_refl _,fun p hp=>?_,by simp[fT]⟩;rcases List.mem_or_eq_of_mem_set hp with h |h
 ·rw[(List.mem_replicate.1 h).2];exact tp
 ·rw[h];exact EK
theorem Pq.ok.nr{n e:Nat}{p:Pq}(h:Pq.ok n e p)(he:e<=lm n):∀x∈p.pl.l,NR x e:=by
 intro x hx;simp only[Pl.l,Pq.pl,mem_cons,not_mem_nil,or_false]at hx;rcases hx with rfl |rfl |rfl |rfl
 ·exact h.c.rt he
 ·exact h.s.rt he
 ·exact h.x.rt he
 ·exact h.y.rt he
theorem Pq.ok.num{n e:Nat}{p:Pq}(h:Pq.ok n e p):∀x∈p.pl.l,bX n x=0:=by
 intro x hx;simp only[Pl.l,Pq.pl,mem_cons,not_mem_nil,or_false]at hx;rcases hx with rfl |rfl |rfl |rfl
 ·exact nQ h.c.nl
 ·exact nQ h.s.nl
 ·exact nQ h.x.nl
 ·exact nQ h.y.nl
section
variable{l:Li}{j r E:Nat}{a:Aq}(Q:QInv l j r E a)
include Q
theorem QInv.chk:ba a.as.rs=0:=Q.tw.chk
theorem QInv.mem{p:Pl}(h:p∈a.as.bs):∃q∈a.bs,q.pl=p:=by have _:=Q;exact List.mem_map.1 h
theorem QInv.nr(hE:E<=50000000000){p:Pl}(h:p∈a.as.bs):∀x∈p.l,NR x E:=by
 obtain⟨q,hq,rfl⟩:=Q.mem h;exact(Q.bs q hq).nr (le_trans hE (iJ _))
theorem QInv.ab(hl:ay l=0)(hE:E<=50000000000)(hr:r<=400000000):AB a.as:=by
 refine⟨Q.tw.tr.mono hr oz,fun p hp x hx=>(Q.nr hE hp x hx).mono hE,?_,?_⟩
 ·show(a.ts.map _).length<=8;rw[length_map];have:=Q.tw.three;omega
 ·show(a.bs.map _).length<=30;rw[length_map,Q.ln];have:=(cJ hl).2.2.2.1;omega
theorem QInv.sma(hE:E<=50000000000){F:Nat}(hF:E<=F)(k:Int)(own:Bool):se F l k a.as own :=
 fun b _ _ p hp x hx=>(Q.nr hE (mem_of_getElem? hp) x hx).mono hF
theorem QInv.nd(hl:ay l=0){g:Gr}(hg:GrOk l g){own:Bool}:∀b∈cD l g own,fQ a.as b=0:=by
 intro b hb;unfold fQ;split
 ·rfl
 ·have h1:=xN hl hg b hb;obtain ⟨p,hp⟩:=ax (l:=a.bs) (i:=b.toNat) (by rw [Q.ln]; omega);have e:a.as.bs[b.toNat]? = some p.pl:=by show (a.bs.map Pq.pl)[b.toNat]? = _; rw [getElem?_map,hp]; rfl
  rw[aC e];unfold bt;rw[if_neg (by rw[Q.chk];simp)];have e2:a.as.rs.length=a.ts.length:=length_map _;rw[e2];exact pf (fun x hx=>(Q.bs p (mem_of_getElem? hp)).num x hx)
theorem QInv.dy0(hl:ay l=0)(hs:splitE l=0){k:Nat}{g:Gr}(hg:(splitG l)[k]?=some g)(own:Bool):fg l k a.as own=0:=by
 have hk:=(List.getElem?_eq_some_iff.1 hg).1;obtain⟨_,ho⟩:=qS hl (mem_of_getElem? hg);have hgA:iO l (k:Nat)=g:=aC hg;rw[qe hl,Hq hs oz (by show(a.bs.map _).length=_;rw[length_map,Q.ln]) Q.chk,hgA];exact pf (fun b hb=>Q.nd hl ho b (yH.1 hb))
end
structure WkC(l:Li)(xs:List Tn)(s g:Nat):Prop where
  hl:l.ok
  li:ay l=0
  sp:splitE l=0
  cs:Cs s l
  ln:xs.length=l.dv.length
  ok:∀x∈xs,x.t.ok/\x.err=0/\Qb 1000 x.t.q/\Cb g [bV x.half x.t.q]/\Cb g [cm x.half x.t.q]
theorem DG{l:Li}{g:Gr}(h:DyK l g)(hk:g.kind=0):0<=g.driver/\g.driver<l.dv.length:=by
 cases h with
 | @drv b z d _ _ t d0 hd hb=>have:=(List.getElem?_eq_some_iff.1 hd).1;exact⟨d0,by show d<_;omega⟩
 |rrr=>exact absurd hk (by simp)
 |pr=>exact absurd hk (by simp)
 |rp=>exact absurd hk (by simp)
theorem CL:gd.t.ok:=⟨(fun x h=>by cases h),(fun x h=>by cases h),zero_le _,zero_le _⟩
theorem C5:Qb 1000 gd.t.q:=by
 have e:gd.t.q=0:=by decide +kernel
 rw[e];exact Qb.zero.mono oz
section
variable{l:Li}{xs:List Tn}{s g:Nat}(W:WkC l xs s g){k:Nat}{gr:Gr}(hg:(splitG l)[k]?=some gr)
include W hg
theorem WkC.grp:DyK l gr/\GrOk l gr:=qS W.li (mem_of_getElem? hg)
theorem WkC.tn:(b9 gr xs).t.ok/\Qb 1000 (b9 gr xs).t.q/\(gr.kind=0->∃x∈xs,b9 gr xs=x):=by
 unfold b9
 by_cases hk:gr.kind=0
 ·rw[if_pos hk];have h:=DG (W.grp hg).1 hk;obtain⟨x,hx⟩:=ax (l:=xs) (i:=gr.driver.toNat) (by rw[W.ln];omega);rw[aC hx];have hm:=mem_of_getElem? hx;exact⟨(W.ok x hm).1,(W.ok x hm).2.2.1,fun _=>⟨x,hm,rfl⟩⟩
 ·rw[if_neg hk];exact⟨CL,C5,fun h=>absurd h hk⟩
variable{j r E:Nat}{a:Aq}(Q:QInv l j r E a)
include Q
theorem QInv.dyOk{F:Nat}(hE:E<=50000000000)(hF:E<=F):DyOk F l k a.as false k gr:=by
 obtain⟨i,g',h⟩:=G0 (Q.sma hE hF k false) (Q.dy0 W.li W.sp hg false);have e:i=k:=by have:=h.hk;omega
 subst e;have:=h.hg;rw[hg]at this;cases this;exact h
theorem QInv.dyS(hr:r<=64990)(hj:j<=1):DyS a.as:=by have _:=W;have _:=hg;exact⟨Q.tw.tr.mono hr oz,fun _=>by rw[a.llq];exact le_trans Q.lv hj⟩
theorem QInv.dyW(hE:E<=50000000000)(hr:r<=400000000):DyW l a.as:=by have _:=hg;exact⟨W.hl,W.li,Q.ab W.li hE hr,Q.chk⟩
theorem QInv.twl:Tw (Lw.llq a.as.rs) r:=by have _:=W;have _:=hg;rw[a.llq];exact Q.tw
theorem QInv.drv{n y:Nat}(ok:dY s g (n+1) y j r E=true)(hk:gr.kind=0):∀sv∈eQ l a.as gr (b9 gr xs),QInv l j r (mF s g j r E) (a.nxt gr sv):=by
 obtain⟨⟨hE,hr,hj⟩,_⟩:=sC ok;have D:=QInv.dyW W hg Q oz hr;have O:=QInv.dyOk W hg Q (F:=E) oz (le_refl _);obtain⟨i,z0,d,j0,e,hj0,p0⟩:=z7 O hk;obtain⟨_,_,hx⟩:=W.tn hg;obtain⟨x,hx,ex⟩:=hx hk;obtain⟨_,he,_,hc,hs⟩:=W.ok x hx;have hlen:(Lw.llq a.as.rs).length=a.ts.length:=by rw[a.llq]
 have tw:=QInv.twl W hg Q;have hq0:=nG W.hl W.li W.cs hj0 p0.or;have hK:eB r (Lw.llq a.as.rs).length<=eB r j:=gT r (by rw[hlen];exact Q.lv);obtain⟨o1,o2⟩:=rg W.hl W.li W.cs D.al D.hc tw hK hj0 p0;rw[ex];unfold eQ;rw[if_pos hk,e];show ∀sv∈kv l a.as i (l.jo.getD z0.toNat default) x,_;rw[aC hj0];unfold kv;rw[if_neg oz];have hp:=Iv (ts:=Lw.llq a.as.rs) (p:=aj l j0 i) (o:=aM l a.as j0 i) hc hs hq0 tw.five o1 o2
 have hp2:Pq.ok a.ts.length (mF s g j r E) (kl l a.as i j0 x):=by
  have:=A5 (a:=0) (b:=0) hp (e:=mF s g j r E) (by unfold mF kq;omega) (by unfold mF kq;omega);exact Pq.ok.lv this hlen
 refine gU ⟨?_,?_,?_,?_⟩
 ·exact tw
 ·show(Lw.llq a.as.rs).length<=j;rw[hlen];exact Q.lv
 ·intro p hp3;show Pq.ok (Lw.llq a.as.rs).length _ p;rw[hlen];rcases CT hp3 with h |h
  ·exact(Q.bs p h).up (le_refl _) Q.tw.five (by unfold mF kq;omega)
  ·rw[List.mem_singleton.1 h];exact hp2
 ·exact(vZ _ _ _).trans Q.ln
theorem QInv.dy{n y:Nat}(ok:dY s g (n+1) (y+1) j r E=true)(hk:gr.kind≠0):∀sv∈eQ l a.as gr (b9 gr xs),QInv l (j+1) (r+jQ s j r E) (rU s j r E) (a.nxt gr sv):=by
 obtain⟨⟨hj,hE,hr,hX,hJ⟩,_⟩:=ta ok;have D:DyR l a.as:=⟨QInv.dyW W hg Q oz oz,QInv.dyS W hg Q hr hj⟩
 have O:=QInv.dyOk W hg Q (F:=E) oz (le_refl _);have hlen:(Lw.llq a.as.rs).length=a.ts.length:=by rw[a.llq]
 have hlv:(Lw.llq a.as.rs).length<=j:=by rw[hlen];exact Q.lv
 have tw:=QInv.twl W hg Q
 have Z:Szs (Lw.llq a.as.rs).length r (3*E+2*s+2*eB r j+10) (8*s+5) (jQ s j r E) (eB r j) (eB (r+jQ s j r E) (j+1)) (Di s j r E) (uX s j r E):=by
  refine⟨by omega,gT r hlv,?_,hX,gT _ oz,?_,?_,hJ,?_,?_⟩
  ·unfold jQ kq;omega
  ·exact yU r _ hlv
  ·exact yU _ _ hlv
  ·exact le_trans (gT r oz) (wi oz _)
  ·exact Gz oz _ _
 have hn:(Lw.llq a.as.rs).length<=1:=by omega
 have key:∀sv∈eQ l a.as gr (b9 gr xs),Xz (Lw.llq a.as.rs) r (jQ s j r E) sv.ts/\∀p∈sv.ps,Pq.ok sv.ts.length (rU s j r E) p:=by
  unfold eQ;rw[if_neg hk]
  by_cases hk1:gr.kind=1
  ·obtain⟨i,k2,z0,z1,z2,j0,j1,j2,P⟩:=O.rrr hk1;obtain⟨e0,e1,e2,b0,b1,_⟩:=P.at;rw[if_pos hk1,e0,e1,e2,b0,b1];exact IN D hn W.cs tw Z (le_refl _) P
  ·rw[if_neg hk1]
   by_cases hk2:gr.kind=2
   ·obtain⟨i,z0,z1,j0,j,P,ha,hb⟩:=O.pr hk2;obtain⟨e0,e1,b0,_⟩:=P.at;rw[if_pos hk2,e0,e1,b0];exact MZ D hn W.cs tw Z (le_refl _) P ha hb
   ·obtain⟨i,z0,z1,j0,j,P,_,hj,hb⟩:=O.rp hk hk1 hk2;obtain⟨e0,e1,b0,hk3⟩:=P.at;rw[if_neg hk2,e0,e1,b0];exact KI D hn W.cs tw Z (le_refl _) P hj hb
 intro sv hsv;obtain⟨hx,hp⟩:=key sv hsv;have h5:=hx.tw.five;have hup:=hx.up;have hln:=hx.ln;rw[hlen]at hup hln;refine⟨hx.tw,?_,?_,?_⟩
 ·show sv.ts.length<=j+1;have:=Q.lv;omega
 ·intro p hp3;rcases CT hp3 with h |h
  ·exact(Q.bs p h).up hup h5 (by unfold rU oZ wZ kq;omega)
  ·exact hp p h
 ·exact(vZ _ _ _).trans Q.ln
end
def mn(l:Li)(a:As)(g:Gr)(x:Tn):Nat:=(iC l a g x).2
def eT(F:Int->Bool)(sg:Bool)(f:Sv->List Aq×Nat):List Sv->List Aq×Nat
  |[]=>([],0)
  |s::r=>if F s.mode=false then eT F sg f r else if(f s).2≠0 then f s else if sg=true then f s else((f s).1++(eT F sg f r).1,(eT F sg f r).2)
def iP(F:Nat->Int->Bool)(sg:Bool)(l:Li)(xs:List Tn)(gs:List Gr):Nat->Aq->List Aq×Nat
  |0,a=>([a],0)
  |n+1,a=>if mn l a.as (gs.getD a.ms.length default) (b9 (gs.getD a.ms.length default) xs)≠0 then([],mn l a.as (gs.getD a.ms.length default) (b9 (gs.getD a.ms.length default) xs))
    else eT (F a.ms.length) sg (fun s=>iP F sg l xs gs n (a.nxt (gs.getD a.ms.length default) s)) (eQ l a.as (gs.getD a.ms.length default) (b9 (gs.getD a.ms.length default) xs))
theorem MT{l:Li}{xs:List Tn}{s g:Nat}(W:WkC l xs s g){k:Nat}{gr:Gr}(hg:(splitG l)[k]?=some gr){j r E:Nat}{a:Aq}(Q:QInv l j r E a){n y:Nat}(ok:dY s g (n+1) y j r E=true)(hy:gr.kind≠0->0<y) :
  SolP (eQ l a.as gr (b9 gr xs)) gr.kind a.ts.length gr.bo.length:=by
 obtain⟨⟨hE,hr,hj⟩,_⟩:=sC ok;have D:=QInv.dyW W hg Q oz hr;have h3:(Lw.llq a.as.rs).length<=2:=by rw[a.llq];have:=Q.lv;omega
 have hlen:(Lw.llq a.as.rs).length=a.ts.length:=by rw[a.llq]
 rw[<- hlen]
 by_cases hk:gr.kind=0
 ·exact Gs hE D h3 (QInv.dyOk W hg Q (F:=E) oz (le_refl _)) (fun h=>absurd hk h) (W.tn hg).2.1
 ·have hy:=hy hk;obtain ⟨y',rfl⟩:∃ y',y = y' + 1:=⟨y - 1,by omega⟩
  obtain⟨⟨hj,hE,hr,hX,hJ⟩,_⟩:=ta ok;exact Gs oz D h3 (QInv.dyOk W hg Q (F:=3900000) oz hE) (fun _=>⟨rfl,QInv.dyS W hg Q hr hj⟩) (W.tn hg).2.1
open Go.Proofs
theorem Eo{P:Program}{f:FuncId}{sz:Nat}{r:AV}{H H':Hp}(h:∀(a:Option Addr)(cap:Nat),Con P f [.v (.slice a 0 cap)] H r H'):Con P f [.lst sz []] H r H' :=
 ⟨(h none 0).ok,fun ext m w vs he hr hn hv=>by
  have hn1:vs.size=1:=hn;have h0:=hv 0 vs[0] (.lst sz []) (by simp[hn1]) rfl
  have hy:∃a cap,vs[0]=.slice a 0 cap:=by
   generalize vs[0]=y at h0;cases h0 with
   |lst0 a cap=>exact⟨_,_,rfl⟩
   |lst u hb hc hl hs h1 hu hrr=>exact⟨_,_,rfl⟩
  obtain⟨a,cap,hy⟩:=hy;refine(h a cap).ret ext m w vs he hr hn (fun j v x hv2 hx=>?_)
  match j,hx with
  |0,hx =>
   cases hx;have:v=.slice a 0 cap:=by rw[<- hy];have:=Array.getElem?_eq_some_iff.1 hv2;exact this.2.symm
   subst this;exact .v _⟩
theorem OG(e:AV)(es:List AV)(hc:∀x∈e::es,x.cells.length=1)(hl:(e::es).length<=1000):Con prog 297 [.lst 1 (e::es)] [] (.ms 901 1 0 (e::es).length) [(901,some (.row 1 (e::es)))]:=by
 refine gF func297 (fun k z h=>by cases h) ?_;refine gs (HD (.tmp rfl) (by kernel_rfl) rfl) ?_;refine gC (fun t4=>?_) (fun t4=>?_) (st1:=(2,0));cases t4;refine gs (kN T39 rfl T3 rfl rfl rfl) ?_;refine gs (ci (.tmp rfl) rfl rfl (.tmp rfl) T39 rfl T3 rfl rfl (by simp only[];omega) rfl rfl) ?_ (77777,0);refine gW (Wk.of (sl:=[(2,some (.ms 7 1 0 (e::es).length))]) (hp:=[(7,some (.row 1 (e::es)))]) (.cons rfl (Sub.of (congrArg (AV.ms 7 1 0) (Nat.zero_add _))) .nil) (.k .nil)) ?_;refine gR ?_;exact aq.own1 rfl rfl rfl
theorem KT(a:Option Addr)(cap:Nat):Con prog 297 [.v (.slice a 0 cap)] [] (.ms 901 1 0 0) [(901,some (.row 1 []))]:=by
 refine gF func297 (fun k z h=>by cases h) ?_;refine gs (Hn (.tmp rfl) (by kernel_rfl) rfl) ?_;refine gC (fun t4=>?_) (fun t4=>?_) (st1:=(2,0)) (st2:=(77777,0))
 ·refine gW ((Wk.virt 901 1 rfl).trans<|Wk.o (sl:=[]) (hp:=[(901,some (.row 1 []))])) ?_;refine gR ?_;exact(aq.keep (a6 rfl)).sub (Sub.nM _ _ _)
 refine gW (Wk.of (sl:=[(0,some (.lst 1 []))]) (hp:=[]) (.cons rfl (Sub.nil _ _ _) .nil) .nil) ?_;refine gs (kN T39 rfl T3 rfl rfl rfl) ?_;refine gs (ci (.tmp rfl) rfl rfl (.tmp rfl) T39 rfl T3 rfl rfl (by simp) rfl rfl) ?_ (77777,0);refine gW (Wk.o (sl:=[(2,some (.ms 7 1 0 0))]) (hp:=[(7,some (.row 1 []))])) ?_;refine gR ?_;exact aq.own1 rfl rfl rfl
theorem UZ(e:AV)(es:List AV)(hc:∀x∈e::es,x.cells.length=4)(hl:(e::es).length<=1000):Con prog 299 [.lst 4 (e::es)] [] (.ms 900 4 0 (e::es).length) [(900,some (.row 4 (e::es)))]:=by
 refine gF func299 (fun k z h=>by cases h) ?_;refine gs (HD (.tmp rfl) (by kernel_rfl) rfl) ?_;refine gC (fun t4=>?_) (fun t4=>?_) (st1:=(2,0));cases t4;refine gs (kN T38 rfl T69 rfl rfl rfl) ?_;refine gs (ci (.tmp rfl) rfl rfl (.tmp rfl) T38 rfl T69 rfl rfl (by simp only[];omega) rfl rfl) ?_ (77777,0);refine gW (Wk.of (sl:=[(2,some (.ms 7 4 0 (e::es).length))]) (hp:=[(7,some (.row 4 (e::es)))]) (.cons rfl (Sub.of (congrArg (AV.ms 7 4 0) (Nat.zero_add _))) .nil) (.k .nil)) ?_;refine gR ?_;exact aq.own1 rfl rfl rfl
theorem RN(a:Option Addr)(cap:Nat):Con prog 299 [.v (.slice a 0 cap)] [] (.ms 900 4 0 0) [(900,some (.row 4 []))]:=by
 refine gF func299 (fun k z h=>by cases h) ?_;refine gs (Hn (.tmp rfl) (by kernel_rfl) rfl) ?_;refine gC (fun t4=>?_) (fun t4=>?_) (st1:=(2,0)) (st2:=(77777,0))
 ·refine gW ((Wk.virt 900 4 rfl).trans<|Wk.o (sl:=[]) (hp:=[(900,some (.row 4 []))])) ?_;refine gR ?_;exact(aq.keep (a6 rfl)).sub (Sub.nM _ _ _)
 refine gW (Wk.of (sl:=[(0,some (.lst 4 []))]) (hp:=[]) (.cons rfl (Sub.nil _ _ _) .nil) .nil) ?_;refine gs (kN T38 rfl T69 rfl rfl rfl) ?_;refine gs (ci (.tmp rfl) rfl rfl (.tmp rfl) T38 rfl T69 rfl rfl (by simp) rfl rfl) ?_ (77777,0);refine gW (Wk.o (sl:=[(2,some (.ms 7 4 0 0))]) (hp:=[(7,some (.row 4 []))])) ?_;refine gR ?_;exact aq.own1 rfl rfl rfl
theorem Fh(es:List AV)(hc:∀x∈es,x.cells.length=1)(hl:es.length<=1000):Con prog 297 [.lst 1 es] [] (.ms 901 1 0 es.length) [(901,some (.row 1 es))]:=by
 cases es with
 |nil=>exact Eo KT
 |cons e es=>exact OG e es hc hl
theorem KF(es:List AV)(hc:∀x∈es,x.cells.length=4)(hl:es.length<=1000):Con prog 299 [.lst 4 es] [] (.ms 900 4 0 es.length) [(900,some (.row 4 es))]:=by
 cases es with
 |nil=>exact Eo RN
 |cons e es=>exact UZ e es hc hl
theorem R6(es:List AV)(hc:∀x∈es,x.cells.length=1)(hl:es.length<=1000):FP 297 [.lst 1 es] (.lst 1 es):=by
 have h:=Con.freeze oz (Fh es hc hl)
 rwa [drop_zero,take_length]at h
theorem FL(ms:List Int):∀x∈ms.map i64,x.cells.length=1:=fun x hx=>by obtain⟨m,_,rfl⟩:=List.mem_map.1 hx;rfl
theorem NW(bs:List Pq):∀x∈bs.map Pq.av,x.cells.length=4:=fun x hx=>by obtain⟨m,_,rfl⟩:=List.mem_map.1 hx;rfl
theorem qH{n e:Nat}{x:List Rat}(h:Nm n e x)(he:e<=100000000000):FP 298 [nA x] (nA x):=by
 have hlen:=h.nl.len5 h.five;have hqs:∀q∈x,Qs q:=fun q hq=>h.cb.qs oz hq
 refine ai func298 ?_;refine gl ?_;refine gW (Wk.virt 901 3 rfl) ?_;refine aN [6,7] [] (fun(j:Nat)=>[(3,some (.ms 901 3 0 j)),(8,some (i64 j))]) (fun j=>[(901,some (.row 3 ((x.take j).map qA)))]) (fun j=>j<=x.length) (fun j=>x.length-j) 0 (zero_le _) ?_ (h1:=(.cons rfl (Sub.nM _ _ _) (.k .nil)));rintro j hj K1 J1;refine gC (fun t9=>?_) (fun t9=>?_) (st2:=(7,0))
 ·have hjn:=aS t9;obtain⟨q,hq⟩:=ax hjn;have hadd:=mQ (rt q) (rt 0) (hqs q (mem_of_getElem? hq)).ok Qs.zero.ok;rw[sP,bZ]at hadd;refine gi (aA hq) ?_;refine gc (Con.sA (.cons (.refl _) (.cons ja .nil)) hadd) ?_;refine gs (ci (.tmp rfl) rfl (by rw[length_map,length_take];omega) (.tmp rfl) T67 rfl T45 rfl rfl (by simp only[length_cons,length_nil];omega) rfl rfl) ?_ (6,0);refine gW (Wk.of (sl:=[(6,some (nA x)),(7,some (i64 x.length)),(8,some (i64 j)),(3,some (.ms 17 3 0 (j+1)))]) (hp:=[(17,some (.row 3 ((x.take (j+1)).map qA)))]) aW (.cons rfl (BlkSub.of (by rw[dG hq,map_append];rfl)) .nil)) ?_ (6,0);refine gW (Wk.rk (k:=17) (d:=901) rfl rfl) ?_;refine ga aF ?_;exact aH J1 (j+1) hjn
 have hjn:=aZ hj t9;subst hjn;refine gW ((Wk.freeze (k:=901) rfl).trans<|Wk.of (sl:=[(3,some (nA x))]) (hp:=[]) (.cons rfl (Sub.of (by rw[bJ (by simp)];simp[nA])) .nil) .nil) ?_;refine af ?_;rfl
theorem S9{a:Aq}{n e:Nat}(h5:n<=5)(ht:∀x∈a.ts,Nm n e x)(hb:∀p∈a.bs,Pq.ok n e p)(he:e<=100000000000)(l1:a.ts.length<=100)(l2:a.bs.length<=100)(l3:a.ms.length<=100):FP 199 [a.av] a.av:=by
 refine ai func199 ?_;refine gc (R6 _ (FL _) (by rw[length_map];omega)) ?_;refine gl ?_;refine gW (Wk.virt 900 1 rfl) ?_;refine aN [1,2,3,14,15] [1,2] (fun(i:Nat)=>[(16,some (i64 i))]) (fun i=>[(3,some (.box [.ms 900 1 0 i,nS,.lst 1 (a.ms.map i64)])),(900,some (.row 1 ((a.ts.take i).map nA)))]) (fun i=>i<=a.ts.length) (fun i=>a.ts.length-i) 0 (zero_le _) ?_ (h2:=(.cons rfl (BlkSub.bL (.cons (.nM _ _ _) (.cons (.refl _) (.cons (.refl _) .nil))) rfl) (.k .nil)));rintro i hi K1 J1;refine gC (fun t17=>?_) (fun t17=>?_) (st2:=(7,0))
 ·have hin:=aS t17;obtain ⟨d,hd⟩:=ax hin;refine gi (aA hd) ?_;refine gc (qH (ht d (mem_of_getElem? hd)) he) ?_;refine gs (ci (.tmp rfl) rfl (by rw [length_map,length_take]; omega) (.tmp rfl) T35 rfl T67 rfl rfl (by simp only [length_cons,length_nil]; omega) rfl rfl) ?_;refine gD ?_ (6,0);refine gW (Wk.of (sl:=[(1,some (.ptr 1 0)),(2,some (.ptr 2 0)),(3,some (.ptr 3 0)),(14,some (.lst 1 (a.ts.map nA))),(15,some (i64 a.ts.length)),(16,some (i64 i))]) (hp:=[(1,some (.box a.cs)),(2,some (.box [nS,nS,nS])),(3,some (.box [.ms 26 1 0 (i + 1),nS,.lst 1 (a.ms.map i64)])),(26,some (.row 1 ((a.ts.take (i + 1)).map nA)))]) aW (.k (.k (.k (.cons rfl (BlkSub.of (by rw [dG hd,map_append]; rfl)) .nil))))) ?_ (6,0)
  refine gW (Wk.rk (k:=26) (d:=900) rfl rfl) ?_;refine ga aF ?_;exact aH J1 (i+1) hin
 have hin:=aZ hi t17;subst hin;refine gW ((Wk.freeze (k:=900) rfl).trans<|Wk.of (sl:=[(1,some (.ptr 1 0)),(2,some (.ptr 2 0)),(3,some (.ptr 3 0))]) (hp:=[(1,some (.box a.cs)),(2,some (.box [nS,nS,nS])),(3,some (.box [.lst 1 (a.ts.map nA),nS,.lst 1 (a.ms.map i64)]))]) aW (.k (.k (.cons rfl (BlkSub.bL (.cons (Sub.of (by rw[bJ (by simp)];simp)) (.cons (.refl _) (.cons (.refl _) .nil))) rfl) .nil)))) ?_;refine gl ?_;refine gW (Wk.virt 902 4 rfl) ?_;refine aN [1,2,3,31,32] [1,2] (fun(i:Nat)=>[(33,some (i64 i))]) (fun i=>[(3,some (.box [.lst 1 (a.ts.map nA),.ms 902 4 0 i,.lst 1 (a.ms.map i64)])),(902,some (.row 4 ((a.bs.take i).map Pq.av)))]) (fun i=>i<=a.bs.length) (fun i=>a.bs.length-i) 0 (zero_le _) ?_ (h2:=(.cons rfl (BlkSub.bL (.cons (.refl _) (.cons (.nM _ _ _) (.cons (.refl _) .nil))) rfl) (.k .nil)));rintro i hi K2 J2;refine gC (fun t34=>?_) (fun t34=>?_) (st2:=(12,0))
 ·have hin:=aS t34;obtain ⟨p,hp⟩:=ax hin;have ok:=hb p (mem_of_getElem? hp);refine gi (aA hp) ?_;refine gc (qH ok.c he) ?_;refine gc (qH ok.s he) ?_;refine gc (qH ok.x he) ?_;refine gc (qH ok.y he) ?_;refine gs (ci (.tmp rfl) rfl (by rw [length_map,length_take]; omega) (.tmp rfl) T38 rfl T69 rfl rfl (by simp only [length_cons,length_nil]; omega) rfl rfl) ?_;refine gD ?_ (11,0);refine gW (Wk.of (sl:=[(1,some (.ptr 1 0)),(2,some (.ptr 2 0)),(3,some (.ptr 3 0)),(31,some (.lst 4 (a.bs.map Pq.av))),(32,some (i64 a.bs.length)),(33,some (i64 i))]) (hp:=[(1,some (.box a.cs)),(2,some (.box [nS,nS,nS])),(3,some (.box [.lst 1 (a.ts.map nA),.ms 53 4 0 (i + 1),.lst 1 (a.ms.map i64)])),(53,some (.row 4 ((a.bs.take (i + 1)).map Pq.av)))]) aW (.k (.k (.k (.cons rfl (BlkSub.of (by rw [dG hp,map_append]; rfl)) .nil))))) ?_ (11,0)
  refine gW (Wk.rk (k:=53) (d:=902) rfl rfl) ?_;refine ga aF ?_;exact aH J2 (i+1) hin
 have hin:=aZ hi t34;subst hin;refine gW ((Wk.freeze (k:=902) rfl).trans<|Wk.of (sl:=[(2,some (.ptr 2 0)),(3,some (.ptr 3 0))]) (hp:=[(2,some (.box [nS,nS,nS])),(3,some (.box a.cs))]) aW (.k (.cons rfl (BlkSub.bL (.cons (.refl _) (.cons (Sub.of (by rw[bJ (by simp)];simp)) (.cons (.refl _) .nil))) rfl) .nil))) ?_;refine af ?_;rfl
theorem TT{a:Aq}{g:Gr}{s:Sv}(hb:∀b∈g.bo,0<=b/\b<a.bs.length)(hl:s.ps.length=g.bo.length)(l1:a.bs.length<=100)(l2:a.ms.length<=100)(l3:g.bo.length<=100):FP 201 [a.av,g.av,s.av] (a.nxt g s).av:=by
 refine ai func201 ?_;refine gt (az (KF _ (NW _) (by rw[length_map];omega)) (cq rfl) aB rfl rfl) ?_;refine gt (az (Fh _ (FL _) (by rw[length_map];omega)) (cq rfl) aB rfl rfl) ?_;refine gs (ci (.tmp rfl) rfl rfl (.tmp rfl) T39 rfl T3 rfl rfl (by simp only[length_map,length_cons,length_nil];omega) rfl rfl) ?_;refine gD ?_ (2,0);refine gW ((Wk.freeze (k:=21) rfl).trans<|Wk.of (sl:=[(3,some (.ptr 3 0)),(4,some (.ptr 4 0)),(5,some (.ptr 5 0)),(6,some (.ptr 6 0)),(7,some (.ptr 7 0))]) (hp:=[(3,some (.box a.cs)),(4,some (.box g.av.cells)),(5,some (.box s.av.cells)),(6,some (.box [nS,nS,nS])),(7,some (.box [.lst 1 (s.ts.map nA),.ms 900 4 0 a.bs.length,.lst 1 ((a.ms++[s.mode]).map i64)])),(900,some (.row 4 ((bG a.bs (g.bo.take 0) (s.ps.take 0)).map Pq.av)))]) aW (.k (.k (.k (.k (.cons rfl (BlkSub.bL (.cons (.refl _) (.cons (Sub.of (congrArg (AV.ms 900 4 0) (length_map _))) (.cons (Sub.of (by rw[bJ (by simp)];simp)) .nil))) rfl) (.k .nil))))))) ?_
 refine gl ?_;refine aN [3,4,5,6,7,24,25] [3,4,5,6,7] (fun(i:Nat)=>[(26,some (i64 i))]) (fun i=>[(900,some (.row 4 ((bG a.bs (g.bo.take i) (s.ps.take i)).map Pq.av)))]) (fun i=>i<=g.bo.length) (fun i=>g.bo.length-i) 0 (zero_le _) ?_;rintro i hi K1 J1;refine gC (fun t27=>?_) (fun t27=>?_) (st2:=(7,0))
 ·have hin:=aS t27;obtain⟨b,hbi⟩:=ax hin;obtain⟨p,hp⟩:=ax (l:=s.ps) (i:=i) oz;obtain⟨hb0,hb1⟩:=hb b (mem_of_getElem? hbi);have hpl:=vZ a.bs (g.bo.take i) (s.ps.take i);obtain⟨o,ho⟩:=ax (l:=bG a.bs (g.bo.take i) (s.ps.take i)) (i:=b.toNat) oz;refine gi (aA hbi) ?_;refine gi (aA hp) ?_;refine gs (lw (.tmp rfl) (.tmp rfl) T38 rfl T69 rfl oz oz rfl) ?_;refine gs (dk (.tmp rfl) rfl (by rw[Nat.zero_add,getElem?_map,ho];rfl) rfl (.tmp rfl) rfl rfl T69 rfl rfl) ?_;refine gD ?_;refine ga aF ?_;exact aH J1 (i+1) hin (hw:=Wk.of aW (.cons rfl (BlkSub.of (by rw[ND hbi hp,map_set,Nat.zero_add];rfl)) (.k (.k (.k (.k (.k .nil)))))))
 have hin:=aZ hi t27;subst hin;refine gW ((Wk.freeze (k:=900) rfl).trans<|Wk.of (sl:=[(6,some (.ptr 6 0)),(7,some (.ptr 7 0))]) (hp:=[(6,some (.box [nS,nS,nS])),(7,some (.box (a.nxt g s).cs))]) aW (.k (.cons rfl (BlkSub.bL (.cons (.refl _) (.cons (Sub.of (by rw[bJ (by rw[length_map,vZ])];rw[take_length,take_of_length_le oz];rfl)) (.cons (.refl _) .nil))) rfl) .nil))) ?_;refine af ?_;rfl
abbrev gf(l:Li)(xs:List Tn)(G:List Gr)(fo:FuncId)(caps:List AV)(sg:Bool)(o:AV):List AV:=l.av.cells++[.lst 4 (xs.map Tn.av),.lst 4 (G.map Gr.av),.cl fo [] caps,bl sg,o]
abbrev eZ(l:Li)(xs:List Tn)(G:List Gr)(fo:FuncId)(caps:List AV)(sg:Bool)(k:Nat)(es:List AV):Hp :=
  [(1000,some (.box (gf l xs G fo caps sg (.ms k 3 0 es.length)))),(k,some (.row 3 es))]
theorem ua{k k0:Nat}{x y:Option Blk}{z:Blk}(h0:1000<=k0)(h:lk [(1000,x),(k0,y)] k=some z):1000<=k:=by
 rw[aJ]at h;split at h
 ·omega
 ·rw[aJ]at h;split at h
  ·omega
  ·cases h
theorem J9{l:Li}{xs:List Tn}{G:List Gr}{fo:FuncId}{caps:List AV}{sg:Bool}{es:List AV}{g:Gr}(hd:g.kind=0->0<=g.driver/\g.driver<xs.length)(hl:xs.length<=100) :
  Con prog 200 [.ptr 1000 0,g.av] (eZ l xs G fo caps sg 1001 es) (b9 g xs).av (eZ l xs G fo caps sg 1001 es):=by
 refine gF func200 (fun k z h=>ua oz h) ?_;refine gC (fun t7=>?_) (fun t7=>?_)
 ·have hk : g.kind ≠ 0 := by simpa [aa] using t7
  refine gR ?_;exact(aq.keep (lJ rfl rfl)).sub (by unfold b9;rw[if_neg hk];exact Sub.agg (.cons (.refl _) (.cons (Sub.nil _ _ _) (.cons (Sub.nil _ _ _) (.cons (.refl _) .nil)))) rfl)
 have hk:g.kind=0:=by simpa[aa]using t7
 obtain⟨h0,h1⟩:=hd hk;obtain⟨x,hx⟩:=ax (l:=xs) (i:=g.driver.toNat) oz;refine gi (gO (n:=g.driver.toNat) oz hx) ?_;refine gD ?_;refine gR ?_;exact(aq.keep (lJ rfl rfl)).sub (by unfold b9;rw[if_pos hk,aC hx];exact .refl _)
theorem OA:gV (.agg [nS,nS,nS,nS]) bc.av:=by
 refine⟨rfl,?_⟩;intro j x y hx hy
 match j,hx,hy with
 |0,hx,hy=>cases hx;cases hy;exact⟨rfl,.nil _ _ _⟩
 |1,hx,hy=>cases hx;cases hy;exact⟨rfl,.nil _ _ _⟩
 |2,hx,hy=>cases hx;cases hy;exact⟨rfl,.nil _ _ _⟩
 |3,hx,hy=>cases hx;cases hy;exact⟨rfl,.nil _ _ _⟩
theorem Tj(n:Nat):BlkSub (.row 4 (List.replicate n (.agg [nS,nS,nS,nS]))) (.row 4 ((List.replicate n bc).map Pq.av)):=by
 refine .row (by simp) ?_;intro i e e' he he';rw[map_replicate,getElem?_replicate]at he';rw[getElem?_replicate]at he;split at he
 ·rename_i h;rw[if_pos h]at he';cases he;cases he'
  exact OA
 ·cases he
theorem Qi:gh.av=.agg [nA (sh 0 (((1:Int):Rat):Rat)),nA [],nA [],nA []]:=by
 have h:sh 0 (((1:Int):Rat):Rat)=[1]:=by decide +kernel
 rw[h];rfl
theorem LQ{l:Li}{xs:List Tn}{G:List Gr}{fo:FuncId}{caps:List AV}{sg:Bool}{es:List AV}(h0:0<l.bo.length)(hl:l.bo.length<=100) :
  Con prog 101 [.ptr 1000 0] (eZ l xs G fo caps sg 1001 es) (fT l).av (eZ l xs G fo caps sg 1001 es):=by
 refine gF func101 (fun k z h=>ua oz h) ?_;refine gl ?_;refine gs (gw (.tmp rfl) T38 rfl T69 rfl rfl oz (by dsimp only;omega) rfl) ?_ (2,0);refine gW (Wk.of (sl:=[(2,some (.ptr 2 0)),(3,some (.ptr 3 0))]) (hp:=[(2,some (.box [nS,nS,nS])),(3,some (.box [nS,.ms 10 4 0 l.bo.length,nS])),(10,some (.row 4 ((List.replicate l.bo.length bc).map Pq.av))),(1000,some (.box (gf l xs G fo caps sg (.ms 1001 3 0 es.length)))),(1001,some (.row 3 es))]) aW (.k (.k (.cons rfl (Tj _) (.k (.k .nil)))))) ?_;refine gc (km 1 oz) ?_;refine gc (kK (q:=((1:Int):Rat)) (Qb.one.qs oz)) ?_;refine gs (bP (n:=0) (.tmp rfl) (.const _) T38 rfl T69 rfl oz oz rfl) ?_ (2,7);refine gs (BL (e:=bc.av) (e':=.agg [nA (sh 0 (((1:Int):Rat):Rat)),nA [],nA [],nA []]) (.tmp rfl) rfl (by rw[getElem?_map,getElem?_replicate,if_pos h0];rfl) (.tmp rfl) rfl rfl T67 rfl rfl rfl) ?_;refine gD ?_ (3,0);refine gW ((Wk.freeze (k:=10) rfl).trans<|Wk.of (sl:=[(2,some (.ptr 2 0)),(3,some (.ptr 3 0))]) (hp:=[(2,some (.box [nS,nS,nS])),(3,some (.box [nS,.lst 4 ((fT l).bs.map Pq.av),nS])),(1000,some (.box (gf l xs G fo caps sg (.ms 1001 3 0 es.length)))),(1001,some (.row 3 es))]) aW (.k (.cons rfl (BlkSub.bL (.cons (.refl _) (.cons (Sub.of (by rw[bJ (by simp)];unfold fT;rw[map_set,Qi])) (.cons (.refl _) .nil))) rfl) (.k (.k .nil))))) ?_
 refine gR ?_;exact(aq.keep (lJ rfl rfl)).sub (Sub.agg (.cons (Sub.nil _ _ _) (.cons (.refl _) (.cons (Sub.nil _ _ _) .nil))) rfl)
theorem Re(k m:Int):FP 198 [i64 k,i64 m] (bl true):=by
 refine ai func198 ?_;refine af ?_;rfl
def vu(l:Li)(xs:List Tn):Nat:=if splitE l≠0 then splitE l else if xs.length≠l.dv.length then 10 else dR (xs.map Tn.err)
def dp(l:Li)(xs:List Tn):Nat:=if ay l≠0 then ay l else vu l xs
def vq(e:Nat)(l:Li)(xs:List Tn):Hp:=if e=0 then[(900,some (.box (gf l xs (splitG l) 198 [] false (nS))))]else[]
theorem uK{e:Nat}(h:e≠0){l:Li}{xs:List Tn}:vq e l xs=[]:=if_neg h
theorem IV{l:Li}{xs:List Tn}{e:Nat}(he:(if ay l=0 then splitE l else ay l)=e)(h:e≠0):dp l xs=e:=by
 unfold dp vu
 by_cases h1:ay l=0
 ·rw[if_pos h1]at he;rw[if_neg oz,if_pos oz,he]
 ·rw[if_neg h1]at he;rw[if_pos h1,he]
theorem BS{l:Li}{xs:List Tn}(h:ay l=0)(hs:splitE l=0):dp l xs=if xs.length≠l.dv.length then 10 else dR (xs.map Tn.err):=by
 unfold dp vu;rw[if_neg oz,if_neg oz]
theorem PL(l:Li)(hl:l.ok)(xs:List Tn)(hx:∀x∈xs,x.t.ok)(hn:xs.length<=100) :
  Con prog 99 [l.av,.lst 4 (xs.map Tn.av)] [] (.tup [tm (dp l xs),bg (dp l xs)]) (vq (dp l xs) l xs):=by
 have hld:=hl.ld;refine gF func99 (fun k z h=>by cases h) ?_;refine gc (G3 l hl) ?_;refine gC (fun t17=>?_) (fun t17=>?_)
 ·have h1:=cE t17;refine gR ?_;rw[IV rfl h1,kp h1,uK h1];exact lI rfl
 have h1:=cC t17;obtain⟨hli,hsp⟩:=Hg h1;rw[show(if ay l=0 then splitG l else[])=splitG l from if_pos hli];refine gl ?_;refine gl ?_;refine gC (fun t24=>?_) (fun t24=>?_)
 ·have h2:=Bu t24;have he:dp l xs = 10:=by rw [BS hli hsp,if_pos h2]
  refine gR ?_;rw[he,kp (by decide),uK (by decide)];exact lI rfl
 have h2:=Dq t24;have he0:dp l xs=dR (xs.map Tn.err):=by rw[BS hli hsp,if_neg oz]
 refine gl ?_;refine aN [1,2,6,26,27] [2] (fun(i:Nat)=>[(28,some (i64 i))]) (fun _=>[]) (fun i=>i<=xs.length/\∀y∈xs.take i,y.err=0) (fun i=>xs.length-i) 0 ⟨zero_le _,fun y hy=>by simp at hy⟩ ?_;rintro i ⟨hi,hz⟩ K1 J1;refine gC (fun t29=>?_) (fun t29=>?_) (st2:=(13,0))
 ·have hin:=aS t29;obtain⟨x,hxi⟩:=ax hin;refine gi (aA hxi) ?_;refine gc (sF x (hx x (mem_of_getElem? hxi))) ?_;refine gC (fun t35=>?_) (fun t35=>?_)
  ·have h3:=cE t35;have he:dp l xs = x.err:=by rw [he0]; exact yk hxi hz h3
   refine gR ?_;rw[he,kp h3,uK h3];exact lI rfl
  have h3:=cC t35;refine ga aF ?_;exact aH J1 (i+1) ⟨hin,fun z hz2=>by rw[dG hxi]at hz2;rcases List.mem_append.1 hz2 with h9 |h9;exact hz z h9;(rw[List.mem_singleton.1 h9];exact h3)⟩
 have hin:=aZ hi t29;have he:dp l xs=0:=by rw[he0];exact pf (fun y hy=>hz y (by rw[hin,take_length];exact hy))
 refine gW (Wk.o (sl:=[(1,some (.lst 4 (xs.map Tn.av))),(2,some (.ptr 2 0)),(6,some (.lst 4 ((splitG l).map Gr.av)))]) (hp:=[(2,some (.box l.av.cells))])) ?_ (77777,0);refine gW (Wk.of (sl:=[(4,some (.ptr 42 0)),(5,some (.v .nilIface))]) (hp:=[(42,some (.box (gf l xs (splitG l) 198 [] false (nS))))]) aW (.cons rfl (BlkSub.bL (.cons (.refl _) (.cons (.refl _) (.cons (.refl _) (.cons (.refl _) (.cons (.refl _) (.cons (.refl _) (.cons ((Sub.fn0 _).trans (vn rfl)) (.cons (.refl _) (.cons (.refl _) .nil))))))))) rfl) .nil)) ?_ (77777,0);refine gW (Wk.rk (k:=42) (d:=900) rfl rfl) ?_;refine gR ?_;rw[he];exact aq.keep (a6 rfl)
section
variable{P:Program}{N:Nat}{R:Array Oper}{s:AS}{pos:String}{after:Array Edge}
theorem Bk{d f k k2:Nat}{bx bx2:Blk}{args:Array Operand}{ts:Array TypeId}{xs:List AV}{r:AV}{t:TypeId}
  (hcon:Con P f xs [(k,some bx),(k2,some bx2)] r [(k,some bx),(k2,some bx2)]) (ha:EvL s args.toList xs) (hne:Nat.beq k2 k=false) (hk:s.blk k=some bx) (hk2:s.blk k2=some bx2)
  (hok:ic s [(k,some bx),(k2,some bx2)] [(k,some bx),(k2,some bx2)] r=true) (hN:Nat.blt d N=true) :
  Step P N R s ⟨some d,.call ⟨.value (.func f),args,ts⟩,t,pos,after,none⟩ ⟨some r,[],dU args.toList,[k,k2]⟩:=by
 have hne':k2≠k:=fun e=>by rw[e,Nat.beq_refl]at hne;cases hne
 refine Step.weaken (az (d:=d) hcon ha (fun k' z h=>by
  rcases mv h with⟨rfl,h9⟩ |⟨_,rfl,h9⟩
  ·cases h9;exact hk
  ·cases h9;exact hk2) hok hN) (fun s' h=>h) (fun s' h k' hk'=>?_) (fun s' h=>?_)
 ·left;simp only[map_append,cT,map_cons,map_nil,mem_append,mem_cons,not_mem_nil,or_false]at hk' ⊢;rcases hk' with h9 |h9 <;> exact h9
 ·intro C m a w hr;refine ⟨m,hr.weak (fun t x hx=>⟨x,hx,.refl _⟩) (fun k' x hx=>⟨x,?_,.refl _⟩)⟩;have hb:lk s'.hp k = some bx:=(h.2 k (by simp)).trans hk;have hb2:lk s'.hp k2 = some bx2:=(h.2 k2 (by simp)).trans hk2;show lk ([(k,some bx),(k2,some bx2)] ++ cT [(k,some bx),(k2,some bx2)] ++ s'.hp) k' = some x;have hx':lk s'.hp k' = some x:=hx;simp only [cT,map_cons,map_nil,List.cons_append,nil_append,aJ]
  by_cases e:k'=k
  ·rw[if_pos e];rw[e,hb]at hx';exact hx'
  ·rw[if_neg e]
   by_cases e2:k'=k2
   ·rw[if_pos e2];rw[e2,hb2]at hx';exact hx'
   ·rw[if_neg e2,if_neg e,if_neg e2];exact hx'
end
def oq(k:Nat):Nat:=bif Nat.beq k 1001 then 901 else bif Nat.beq k 901 then 1001 else k
theorem Su(k:Nat):oq (oq k)=k:=by
 by_cases h1:k=1001
 ·subst h1;rfl
 ·by_cases h2:k=901
  ·subst h2;rfl
  ·have nb:∀{a b:Nat},a≠b->Nat.beq a b=false:=fun h=>by
    cases h9:Nat.beq _ _ with
    |false=>rfl
    |true=>exact absurd (eq_of_beq_eq_true h9) h
   have e:oq k=k:=by simp only[oq,nb h1,nb h2,cond_false]
   rw[e,e]
theorem SF{l:Li}{xs:List Tn}{G:List Gr}{fo:FuncId}{caps:List AV}{sg:Bool}{es es':List AV}{a:Aq}{e:Nat}
  (h:Con prog 100 [.ptr 1000 0,a.av] (eZ l xs G fo caps sg 1001 es) (bg e) (eZ l xs G fo caps sg 900 es')) :
  Con prog 100 [.ptr 1000 0,a.av] (eZ l xs G fo caps sg 901 es) (bg e) (eZ l xs G fo caps sg 900 es') :=
 Con.pm Su h
theorem KM{l:Li}{xs:List Tn}{G:List Gr}{fo:FuncId}{caps:List AV}{sg:Bool}{o:List Aq}{a:Aq}(hk:a.ms.length=G.length)(hG:G.length<=100)(ho:o.length<=1000)
  (hcl:FP 199 [a.av] a.av) :
  Con prog 100 [.ptr 1000 0,a.av] (eZ l xs G fo caps sg 1001 (o.map Aq.av)) (bg 0) (eZ l xs G fo caps sg 900 ((o++[a]).map Aq.av)):=by
 refine gF func100 (fun k z h=>ua oz h) ?_;refine gl ?_;refine gl ?_;refine gC (fun t21=>?_) (fun t21=>?_) (st2:=(77777,0))
 ·refine gc hcl ?_;refine gs (ci (.tmp rfl) rfl (by rw [length_map]) (.tmp rfl) T85 rfl T41 rfl rfl (by simp only [length_map,length_cons,length_nil]; omega) rfl rfl) ?_;refine gD ?_ (4,0);refine gW (Wk.of (sl:=[(4,some (.v .nilIface))]) (hp:=[(1000,some (.box (gf l xs G fo caps sg (.ms 30 3 0 ((o ++ [a]).map Aq.av).length)))),(30,some (.row 3 ((o ++ [a]).map Aq.av)))]) aW (.cons rfl (BlkSub.bL (.cons (.refl _) (.cons (.refl _) (.cons (.refl _) (.cons (.refl _) (.cons (.refl _) (.cons (.refl _) (.cons (.refl _) (.cons (.refl _) (.cons (Sub.of (by simp)) .nil))))))))) rfl) (.cons rfl (BlkSub.of (by rw [map_append]; rfl)) .nil))) ?_ (4,0)
  refine gW (Wk.rk (k:=30) (d:=900) rfl rfl) ?_;refine gR ?_;exact aq.keep (lJ rfl rfl)
 exact absurd t21 (by rw[hk];simp[aa])
theorem ol(F:Int->Bool)(sg:Bool)(f:Sv->List Aq×Nat)(s:Sv)(r:List Sv) :
  eT F sg f (s::r)=if F s.mode=false then eT F sg f r else if(f s).2≠0 then f s else if sg=true then f s else((f s).1++(eT F sg f r).1,(eT F sg f r).2):=rfl
theorem sG{α:Type}{l:List α}{i:Nat}{x:α}(h:l[i]?=some x):l.drop i=x::l.drop (i+1):=by
 obtain⟨hi,e⟩:=List.getElem?_eq_some_iff.1 h;rw[List.drop_eq_getElem_cons hi,e]
def oV(F:Int->Bool)(sg:Bool)(f:Sv->List Aq×Nat)(S:List Sv)(i:Nat)(c:List Aq):Prop :=
  i<=S.length/\eT F sg f S=(c++(eT F sg f (S.drop i)).1,(eT F sg f (S.drop i)).2)
theorem Pv(F:Int->Bool)(sg:Bool)(f:Sv->List Aq×Nat)(S:List Sv):oV F sg f S 0 []:=⟨zero_le _,rfl⟩
section
variable{F:Int->Bool}{sg:Bool}{f:Sv->List Aq×Nat}{S:List Sv}{i:Nat}{c:List Aq}(h:oV F sg f S i c){s:Sv}(hs:S[i]?=some s)
include h hs
theorem J7(hF:F s.mode=false):oV F sg f S (i+1) c:=by
 have h2:=h.2;rw[sG hs,ol,if_pos hF]at h2;exact⟨(List.getElem?_eq_some_iff.1 hs).1,h2⟩
theorem R7(hF:F s.mode=true)(he:(f s).2≠0):eT F sg f S=(c++(f s).1,(f s).2):=by
 have h2:=h.2;rw[sG hs,ol,if_neg (by rw[hF];simp),if_pos he]at h2;exact h2
theorem U1(hF:F s.mode=true)(he:(f s).2=0)(h1:sg=true):eT F sg f S=(c++(f s).1,0):=by
 have h2:=h.2;rw[sG hs,ol,if_neg (by rw[hF];simp),if_neg oz,if_pos h1,he]at h2;exact h2
theorem KJ(hF:F s.mode=true)(he:(f s).2=0)(h1:sg=false):oV F sg f S (i+1) (c++(f s).1):=by
 have h2:=h.2;rw[sG hs,ol,if_neg (by rw[hF];simp),if_neg oz,if_neg (by rw[h1];simp)]at h2;exact⟨(List.getElem?_eq_some_iff.1 hs).1,by rw[h2,append_assoc]⟩
end
theorem LX{F:Int->Bool}{sg:Bool}{f:Sv->List Aq×Nat}{S:List Sv}{c:List Aq}(h:oV F sg f S S.length c):eT F sg f S=(c,0):=by
 have h2:=h.2;rw[List.drop_length]at h2;rw[h2];simp[eT]
theorem MG{l:Li}{xs:List Tn}{G:List Gr}{fo:FuncId}{caps:List AV}{sg:Bool}{o:List Aq}{a:Aq}{g:Gr}(hg:G[a.ms.length]?=some g)(hG:G.length<=100)(hx:xs.length<=100)(hd:g.kind=0->0<=g.driver/\g.driver<xs.length)
  {S:List Sv} {E:Nat} (hS:FP 18 [l.av,i64 a.ms.length,(b9 g xs).av,a.av] (.tup [.lst 3 (S.map Sv.av),bg E])) (hSl:S.length<=100)
  {F:Int->Bool} (hF:∀m,FP fo ([i64 a.ms.length,i64 m]++caps) (bl (F m)))
  (hb:∀s∈S,FP 201 [a.av,g.av,s.av] (a.nxt g s).av)
  {f:Sv->List Aq×Nat} {M B:Nat} (hM:∀s∈S,(f s).1.length<=M) (hB:o.length+S.length*M<=B) (ih:∀(o:List Aq),o.length+M<=B->∀s∈S,Con prog 100 [.ptr 1000 0,(a.nxt g s).av] (eZ l xs G fo caps sg 1001 (o.map Aq.av)) (bg (f s).2) (eZ l xs G fo caps sg 900 ((o++(f s).1).map Aq.av))) :
  Con prog 100 [.ptr 1000 0,a.av] (eZ l xs G fo caps sg 1001 (o.map Aq.av)) (bg (if E≠0 then E else(eT F sg f S).2)) (eZ l xs G fo caps sg 900 ((o++(if E≠0 then[]else(eT F sg f S).1)).map Aq.av)):=by
 have hkG:=(List.getElem?_eq_some_iff.1 hg).1;refine gF func100 (fun k z h=>ua oz h) ?_;refine gl ?_;refine gl ?_;refine gC (fun t21=>?_) (fun t21=>?_) (st1:=(3,0));exact absurd t21 (by simp[aa];omega);refine gi (aA hg) ?_;refine gt (Bk (J9 hd hx) (bm rfl rfl) rfl rfl rfl rfl rfl) ?_;refine gc hS ?_;refine gD ?_;refine gC (fun t54=>?_) (fun t54=>?_) (st1:=(8,0)) (st2:=(77777,0))
 ·have hE:=cE t54;refine gW (Wk.o (sl:=[(4,some (.v .nilIface)),(8,some (bg E))]) (hp:=[(1000,some (.box (gf l xs G fo caps sg (.ms 1001 3 0 (o.map Aq.av).length)))),(1001,some (.row 3 (o.map Aq.av)))])) ?_ (8,0);refine gW (Wk.rk (k:=1001) (d:=900) rfl rfl) ?_;refine gR ?_;rw[if_pos hE,if_pos hE,append_nil];exact aq.keep (lJ rfl rfl)
 have hE:=cC t54;refine gW (Wk.of (sl:=[(0,some (.ptr 1000 0)),(3,some (.ptr 3 0)),(5,some (i64 a.ms.length)),(6,some (.ptr 6 0)),(7,some (.lst 3 (S.map Sv.av)))]) (hp:=[(3,some (.box a.cs)),(6,some (.box g.av.cells)),(1000,some (.box (gf l xs G fo caps sg (.ms 1001 3 0 ((o++[]).map Aq.av).length)))),(1001,some (.row 3 ((o++[]).map Aq.av)))]) aW (.k (.k (.cons rfl (BlkSub.bL (.cons (.refl _) (.cons (.refl _) (.cons (.refl _) (.cons (.refl _) (.cons (.refl _) (.cons (.refl _) (.cons (.refl _) (.cons (.refl _) (.cons (Sub.of (by simp)) .nil))))))))) rfl) (.cons rfl (BlkSub.of (by rw[append_nil])) .nil))))) ?_ (77777,0)
 refine gW (Wk.rk (k:=1001) (d:=901) rfl rfl) ?_;refine gl ?_;refine f0 [0,3,5,6,56,57] [3,6] (fun(i:Nat)(c:List Aq)=>[(58,some (i64 i))]) (fun _ c=>[(1000,some (.box (gf l xs G fo caps sg (.ms 901 3 0 ((o++c).map Aq.av).length)))),(901,some (.row 3 ((o++c).map Aq.av)))]) (fun i c=>oV F sg f S i c/\c.length<=i*M) (fun i _=>S.length-i) 0 ([]) ⟨Pv F sg f S,zero_le _⟩ ?_;rintro i c ⟨hfo,hcl⟩ K1 J1;refine gC (fun t59=>?_) (fun t59=>?_) (st2:=(19,0))
 ·have hin:=aS t59;obtain⟨s,hs⟩:=ax hin;have hsm:=mem_of_getElem? hs;have hfl:=hM s hsm;have hmul:(i+1)*M=i*M+M:=Nat.succ_mul i M;have hmul2:(i+1)*M<=S.length*M:=mul_le_mul_right M hin;refine gi (aA hs) ?_;refine gc (hF s.mode) ?_;refine gD ?_;refine gC (fun t70=>?_) (fun t70=>?_) (st2:=(77777,0))
  ·have hFm : F s.mode = false := by simpa using t70
   refine ga aF ?_;exact fC J1 (i+1) c ⟨J7 hfo hs hFm,by omega⟩
  have hFm:F s.mode=true:=by simpa using t70
  refine gW (Wk.o (sl:=[(0,some (.ptr 1000 0)),(3,some (.ptr 3 0)),(5,some (i64 a.ms.length)),(6,some (.ptr 6 0)),(10,some (.ptr 10 0)),(56,some (.lst 3 (S.map Sv.av))),(57,some (i64 S.length)),(58,some (i64 i))]) (hp:=[(3,some (.box a.cs)),(6,some (.box g.av.cells)),(10,some (.box s.av.cells)),(1000,some (.box (gf l xs G fo caps sg (.ms 901 3 0 ((o++c).map Aq.av).length)))),(901,some (.row 3 ((o++c).map Aq.av)))])) ?_
  refine gc (hb s hsm) ?_;refine gt (az (SF (ih (o++c) (by rw[length_append];omega) s hsm)) (bm rfl rfl) aB rfl rfl) ?_;refine gC (fun t78=>?_) (fun t78=>?_)
  ·have he:(f s).2≠0:=cE t78;have hR:=R7 hfo hs hFm he;refine gR ?_;rw[if_neg oz,if_neg oz,hR,<- append_assoc];exact aq.keep (lJ rfl rfl)
  have he:(f s).2=0:=cC t78;refine gC (fun t83=>?_) (fun t83=>?_) (st2:=(77777,0))
  ·have h1 : sg = true := by simpa using t83
   have hR:=U1 hfo hs hFm he h1;refine gR ?_;rw[if_neg oz,if_neg oz,hR,<- append_assoc];exact aq.keep (lJ rfl rfl)
  have h1:sg=false:=by simpa using t83
  refine gW (Wk.of (sl:=[(0,some (.ptr 1000 0)),(3,some (.ptr 3 0)),(5,some (i64 a.ms.length)),(6,some (.ptr 6 0)),(56,some (.lst 3 (S.map Sv.av))),(57,some (i64 S.length)),(58,some (i64 i))]) (hp:=[(3,some (.box a.cs)),(6,some (.box g.av.cells)),(1000,some (.box (gf l xs G fo caps sg (.ms 900 3 0 ((o++(c++(f s).1)).map Aq.av).length)))),(900,some (.row 3 ((o++(c++(f s).1)).map Aq.av)))]) aW (.k (.k (.cons rfl (BlkSub.bL (.cons (.refl _) (.cons (.refl _) (.cons (.refl _) (.cons (.refl _) (.cons (.refl _) (.cons (.refl _) (.cons (.refl _) (.cons (.refl _) (.cons (Sub.of (by rw[append_assoc])) .nil))))))))) rfl) (.cons rfl (BlkSub.of (by rw[append_assoc])) .nil))))) ?_ (77777,0)
  refine gW (Wk.rk (k:=900) (d:=901) rfl rfl) ?_;refine ga aF ?_;exact fC J1 (i+1) (c++(f s).1) ⟨KJ hfo hs hFm he h1,by rw[length_append];omega⟩
 have hin:=aZ hfo.1 t59;subst hin;have hR:=LX hfo;refine gW (Wk.o (sl:=[]) (hp:=[(1000,some (.box (gf l xs G fo caps sg (.ms 901 3 0 ((o++c).map Aq.av).length)))),(901,some (.row 3 ((o++c).map Aq.av)))])) ?_ (19,0);refine gW (Wk.rk (k:=901) (d:=900) rfl rfl) ?_;refine gR ?_;rw[if_neg oz,if_neg oz,hR];exact aq.keep (lJ rfl rfl)
variable{P:Program}{N:Nat}{R:Array Oper}{s:AS}{pos:String}{after:Array Edge}
end Go.Lw
namespace Go.Lw
open Go.Proofs
theorem pI(i:Int)(n:Nat):FP 227 [i64 i,i64 n] (bl (bi i n)):=by
 refine ai func227 ?_;refine af ?_;exact congrArg bl (BG i n)
theorem IM(p q:Mk)(hp:p.ok)(hq:q.ok):FP 228 [p.av,q.av] (bl (decide (p.x.q=q.x.q/\p.y.q=q.y.q))):=by
 refine ai func228 ?_;refine gc (ye p.x q.x hp.x hq.x ((hp.qx.sub hq.qx).qs oz)) ?_;refine bM (fun _=>(ye p.y q.y hp.y hq.y ((hp.qy.sub hq.qy).qs oz))) ?_;refine af ?_;exact congrArg bl Tv
theorem PN(b:Bd)(hbo:b.ok):FP 226 [b.av] (i64 (if 8<b.pts.length then 4 else eD b.pts.length (dL b.pts):Nat)):=by
 have hll:=hbo.ll;refine ai func226 ?_;refine gl ?_;refine gC (fun t9=>?_) (fun t9=>?_)
 ·have h0:8<b.pts.length:=iH t9;refine af ?_;rw[if_pos h0];rfl
 have h0:b.pts.length<=8:=gj t9;have e0:(if 8<b.pts.length then 4 else eD b.pts.length (dL b.pts):Nat)=eD b.pts.length (dL b.pts):=if_neg oz;refine aN [1] [1] (fun(p:Nat)=>[(3,some (i64 p))]) (fun _=>[]) (fun p=>p<=b.pts.length/\∀j,j<p->dL b.pts j=0) (fun p=>b.pts.length-p) 0 ⟨zero_le _,fun j h=>by omega⟩ ?_;rintro p ⟨hp,hpj⟩ K1 J1;refine gl ?_;refine gC (fun t14=>?_) (fun t14=>?_)
 ·have hpn:=aS t14;obtain⟨m,hm⟩:=ax hpn;have hmd:b.pts.getD p default=m:=aC hm;have hmm:=mem_of_getElem? hm;have hmdup:=mM Mk.name hm;have hmo:=hbo.pts m hmm;refine gi (aA hm) ?_;refine gc (sN m.name (hbo.names m hmm)) ?_;refine gC (fun t25=>?_) (fun t25=>?_)
  ·have h4:=cI t25;have e2:dL b.pts p = 5:=by unfold dL; rw [hmd,if_pos h4]
   refine af ?_;rw[e0,dH hpn hpj (by rw[e2];decide),e2];rfl
  have h4:=cH t25;refine aN [1,3,4] [1,4] (fun(q:Nat)=>[(5,some (i64 q))]) (fun _=>[]) (fun q=>q<=p/\(b.pts.take q).any (fun y=>dq y.name m.name)=false) (fun q=>p-q) 0 ⟨zero_le _,rfl⟩ ?_;rintro q ⟨hq,hqd⟩ K2 J2;refine gC (fun t28=>?_) (fun t28=>?_)
  ·have hqn:=aS t28;obtain⟨y,hy⟩:∃y,b.pts[q]?=some y:=ax oz;refine gi (aA hy) ?_;refine gD ?_;refine gC (fun t39=>?_) (fun t39=>?_)
   ·have h5:dq y.name m.name = true:=t39;have e2:dL b.pts p = 6:=by unfold dL; rw [hmd,if_neg (by rw [h4]; decide),if_pos (by rw [hmdup]; exact kE hy hqn h5)]
    refine af ?_;rw[e0,dH hpn hpj (by rw[e2];decide),e2];rfl
   have h5:dq y.name m.name=false:=t39;refine ga aF ?_;exact aH J2 (q+1) ⟨hqn,jP hy hqd h5⟩
  have hqn:=aZ hq t28;subst hqn;have hmnd:¬fO (b.pts.map Mk.name) q=true:=by rw[hmdup,hqd];decide
  refine gc (Av m.x hmo.x) ?_;refine bM (fun _=>(Av m.y hmo.y)) ?_;refine gC (fun t49=>?_) (fun t49=>?_)
  ·have h6:=mR t49;have e2:dL b.pts q = 3:=by unfold dL; rw [hmd,if_neg (by rw [h4]; decide),if_neg hmnd,if_neg (by rintro ⟨g1,g2⟩; rcases h6 with g | g; (rw [g1] at g; cases g); (rw [g2] at g; cases g))]
   refine af ?_;rw[e0,dH hpn hpj (by rw[e2];decide),e2];rfl
  have h6:=mY t49;have e2:dL b.pts q=0:=by unfold dL;rw[hmd,if_neg (by rw[h4];decide),if_neg hmnd,if_pos h6]
  refine ga aF ?_;exact aH J1 (q+1) ⟨hpn,fun j h9=>by rcases lt_or_ge j q with g |g;exact hpj j g;(have:j=q:=by omega);subst this;exact e2⟩
 have hpn:=aZ hp t14;subst hpn;refine af ?_;rw[e0,mh hpj];rfl
theorem Pt(l:Li)(hl:l.ok):FP 112 [l.av] (i64 (gH l)):=by
 have hlb:=hl.lb;have e0:gH l=eD l.bo.length (dT l.bo):=rfl;refine ai func112 ?_;refine aN [1] [1] (fun(i:Nat)=>[(3,some (i64 i))]) (fun _=>[]) (fun i=>i<=l.bo.length/\∀j,j<i->dT l.bo j=0) (fun i=>l.bo.length-i) 0 ⟨zero_le _,fun j h=>by omega⟩ ?_;rintro i ⟨hi,hj⟩ K1 J1;refine gl ?_;refine gC (fun t10=>?_) (fun t10=>?_)
 ·have hin:=aS t10;obtain⟨b,hb⟩:=ax hin;have hbd:l.bo.getD i default=b:=aC hb;have hbo:=hl.bo b (mem_of_getElem? hb);have hbdup:=mM Bd.name hb;refine gi (aA hb) ?_;refine gc (sN b.name hbo.name) ?_;refine gC (fun t20=>?_) (fun t20=>?_)
  ·have h1:=cI t20;have e1:dT l.bo i = 5:=by unfold dT; rw [hbd,if_pos h1]
   refine af ?_;rw[e0,dH hin hj (by rw[e1];decide),e1];rfl
  have h1:=cH t20;refine aN [1,3] [1] (fun(k:Nat)=>[(4,some (i64 k))]) (fun _=>[]) (fun k=>k<=i/\(l.bo.take k).any (fun y=>dq y.name b.name)=false) (fun k=>i-k) 0 ⟨zero_le _,rfl⟩ ?_;rintro k ⟨hk,hd⟩ K2 J2;refine gC (fun t23=>?_) (fun t23=>?_)
  ·have hkn:=aS t23;obtain⟨y,hy⟩:∃y,l.bo[k]?=some y:=ax oz;refine gi (aA hy) ?_;refine gi (aA hb) ?_;refine gD ?_;refine gC (fun t38=>?_) (fun t38=>?_)
   ·have h2:dq y.name b.name = true:=t38;have e1:dT l.bo i = 6:=by unfold dT; rw [hbd,if_neg (by rw [h1]; decide),if_pos (by rw [hbdup]; exact kE hy hkn h2)]
    refine af ?_;rw[e0,dH hin hj (by rw[e1];decide),e1];rfl
   have h2:dq y.name b.name=false:=t38;refine ga aF ?_;exact aH J2 (k+1) ⟨hkn,jP hy hd h2⟩
  have hkn:=aZ hk t23;subst hkn;have hnd:¬fO (l.bo.map Bd.name) k=true:=by rw[hbdup,hd];decide
  have e1:dT l.bo k=if 8<b.pts.length then 4 else eD b.pts.length (dL b.pts):=by unfold dT;rw[hbd,if_neg (by rw[h1];decide),if_neg hnd]
  refine gi (aA hb) ?_;refine gc (PN b hbo) ?_;refine gC (fun t46=>?_) (fun t46=>?_)
  ·have h3:=qL t46;refine af ?_;rw[e0,dH hin hj (by rw[e1];exact h3),e1]
  have h3:=sS t46;refine ga aF ?_;exact aH J1 (k+1) ⟨hin,fun j h9=>by rcases lt_or_ge j k with g |g;exact hj j g;(have:j=k:=by omega);subst this;exact e1.trans h3⟩
 have hin:=aZ hi t10;subst hin;refine af ?_;rw[e0,mh hj];rfl
theorem Ms(l:Li)(hl:l.ok)(i:Nat)(hi:i<l.jo.length)(h16:l.jo.length<=16):FP 113 [l.av,i64 i] (i64 (fH l i)):=by
 obtain⟨j,hjj⟩:=ax hi;have hbd:l.jo.getD i default=j:=aC hjj;have hbdup:=mM Jt.name hjj;refine ai func113 ?_;refine gi (aA hjj) ?_;refine gc (sN j.name (hl.jnames j (mem_of_getElem? hjj))) ?_;refine gC (fun t17=>?_) (fun t17=>?_)
 ·have h0:=cI t17;refine af ?_;unfold fH;rw[hbd,if_pos h0];rfl
 have h0:=cH t17;refine aN [1,2,5] [2,5] (fun(k:Nat)=>[(6,some (i64 k))]) (fun _=>[]) (fun k=>k<=i/\(l.jo.take k).any (fun y=>dq y.name j.name)=false) (fun k=>i-k) 0 ⟨zero_le _,rfl⟩ ?_;rintro k ⟨hk,hd⟩ K1 J1;refine gC (fun t20=>?_) (fun t20=>?_)
 ·have hkn:=aS t20;obtain⟨y,hy⟩:∃y,l.jo[k]?=some y:=ax oz;refine gi (aA hy) ?_;refine gD ?_;refine gC (fun t31=>?_) (fun t31=>?_)
  ·have h2:dq y.name j.name=true:=t31;refine af ?_;unfold fH;rw[hbd,if_neg (by rw[h0];decide),if_pos (by rw[hbdup];exact kE hy hkn h2)];rfl
  have h2:dq y.name j.name=false:=t31;refine ga aF ?_;exact aH J1 (k+1) ⟨hkn,jP hy hd h2⟩
 have hkn:=aZ hk t20;subst hkn;have hnd:¬fO (l.jo.map Jt.name) k=true:=by rw[hbdup,hd];decide
 have e1:fH l k=dO l j:=by unfold fH;rw[hbd,if_neg (by rw[h0];decide),if_neg hnd]
 refine gC (fun t39=>?_) (fun t39=>?_)
 ·have h1:=GB t39;refine af ?_;rw[e1];unfold dO;rw[if_pos h1];rfl
 have h1:=BV t39;refine gl ?_;refine gc (pI j.a l.bo.length) ?_;refine cF ?_;refine bM (fun _=>(pI j.b l.bo.length)) ?_;refine gC (fun t55=>?_) (fun t55=>?_)
 ·have h2:=mR t55;refine af ?_;rw[e1];unfold dO;rw[if_neg h1,if_pos h2];rfl
 have h2:=mY t55;have h2n:¬(bi j.a l.bo.length=false\/bi j.b l.bo.length=false):=by rw[h2.1,h2.2];simp
 obtain⟨A,hA,pA,mA,zA0⟩:=p6 h2.1;obtain⟨B,hB,pB,mB,zB0⟩:=p6 h2.2;refine gC (fun t60=>?_) (fun t60=>?_)
 ·have h3:=cM t60;refine af ?_;rw[e1];unfold dO;rw[if_neg h1,if_neg h2n,if_pos h3];rfl
 have h3:=dJ t60;refine gi (aA hA) ?_;refine gi (aA hB) ?_;refine gD ?_;refine gl ?_;refine gc (pI j.point A.pts.length) ?_;refine cF ?_;refine bM (fun _=>(pI j.on B.pts.length)) ?_;refine gC (fun t88=>?_) (fun t88=>?_)
 ·have h4:=mR t88;refine af ?_;rw[e1];unfold dO;rw[if_neg h1,if_neg h2n,if_neg h3,pA,pB,if_pos h4];rfl
 have h4:=mY t88;have h4n:¬(bi j.point A.pts.length=false\/bi j.on B.pts.length=false):=by rw[h4.1,h4.2];simp
 refine gC (fun t91=>?_) (fun t91=>?_)
 ·have h5:=cM t91;refine gC (fun t94=>?_) (fun t94=>?_)
  ·have h6:=lN t94;refine af ?_;rw[e1];unfold dO;rw[if_neg h1,if_neg h2n,if_neg h3,pA,pB,if_neg h4n,if_pos h5,if_pos h6];rfl
  have h6:=oI t94;refine af ?_;rw[e1];unfold dO;rw[if_neg h1,if_neg h2n,if_neg h3,pA,pB,if_neg h4n,if_pos h5,if_neg (by rw[h6];simp)];rfl
 have h5:=dJ t91;refine gl ?_;refine gc (pI j.to B.pts.length) ?_;refine gC (fun t100=>?_) (fun t100=>?_)
 ·have h6:=cI t100;refine af ?_;rw[e1];unfold dO;rw[if_neg h1,if_neg h2n,if_neg h3,pA,pB,if_neg h4n,if_neg h5,if_pos h6];rfl
 have h6:=cH t100;obtain⟨m1,g1,d1,mm1,z1⟩:=sW h4.2;obtain⟨m2,g2,d2,mm2,z2⟩:=sW h6;have mo1:=(hl.bo B mB).pts m1 mm1;have mo2:=(hl.bo B mB).pts m2 mm2;refine gi (aA g1) ?_;refine gi (aA g2) ?_;refine gc (IM m1 m2 mo1 mo2) ?_;refine gD ?_;refine gC (fun t111=>?_) (fun t111=>?_)
 ·have h7:=of_decide_eq_true t111;refine af ?_;rw[e1];unfold dO;rw[if_neg h1,if_neg h2n,if_neg h3,pA,pB,if_neg h4n,if_neg h5,if_neg (by rw[h6];decide),d1,d2,if_pos h7];rfl
 have h7:=of_decide_eq_false t111;refine af ?_;rw[e1];unfold dO;rw[if_neg h1,if_neg h2n,if_neg h3,pA,pB,if_neg h4n,if_neg h5,if_neg (by rw[h6];decide),d1,d2,if_neg h7];rfl
theorem MU(l:Li)(hl:l.ok)(i:Nat)(hi:i<l.dv.length)(h2l:l.dv.length<=2):FP 114 [l.av,i64 i] (i64 (dD l i)):=by
 obtain⟨b,hb⟩:=ax hi;have hbd:l.dv.getD i default=b:=aC hb;have hbdup:=mM Dr.name hb;refine ai func114 ?_;refine gi (aA hb) ?_;refine gc (sN b.name (hl.dnames b (mem_of_getElem? hb))) ?_;refine gC (fun t16=>?_) (fun t16=>?_)
 ·have h1:=cI t16;refine af ?_;unfold dD;rw[hbd,if_pos h1];rfl
 have h1:=cH t16;refine aN [1,2,5] [2,5] (fun(k:Nat)=>[(6,some (i64 k))]) (fun _=>[]) (fun k=>k<=i/\(l.dv.take k).any (fun y=>dq y.name b.name)=false) (fun k=>i-k) 0 ⟨zero_le _,rfl⟩ ?_;rintro k ⟨hk,hd⟩ K1 J1;refine gC (fun t19=>?_) (fun t19=>?_)
 ·have hkn:=aS t19;obtain⟨y,hy⟩:∃y,l.dv[k]?=some y:=ax oz;refine gi (aA hy) ?_;refine gD ?_;refine gC (fun t30=>?_) (fun t30=>?_)
  ·have h2:dq y.name b.name=true:=t30;refine af ?_;unfold dD;rw[hbd,if_neg (by rw[h1];decide),if_pos (by rw[hbdup];exact kE hy hkn h2)];rfl
  have h2:dq y.name b.name=false:=t30;refine ga aF ?_;exact aH J1 (k+1) ⟨hkn,jP hy hd h2⟩
 have hkn:=aZ hk t19;subst hkn;have hnd:¬fO (l.dv.map Dr.name) k=true:=by rw[hbdup,hd];decide
 refine gl ?_;refine gc (pI b.body l.bo.length) ?_;refine gC (fun t37=>?_) (fun t37=>?_)
 ·have h3:=cI t37;refine af ?_;unfold dD;rw[hbd,if_neg (by rw[h1];decide),if_neg hnd,if_pos h3];rfl
 have h3:=cH t37;refine gC (fun t40=>?_) (fun t40=>?_)
 ·have h4:=cM t40;refine af ?_;unfold dD;rw[hbd,if_neg (by rw[h1];decide),if_neg hnd,if_neg (by rw[h3];decide),if_pos h4];rfl
 have h4:=dJ t40;have e1:dD l k=if(l.dv.take k).any (fun d=>decide (d.body=b.body))=true then 6 else 0:=by unfold dD;rw[hbd,if_neg (by rw[h1];decide),if_neg hnd,if_neg (by rw[h3];decide),if_neg h4]
 refine aN [1,2,5] [2,5] (fun(q:Nat)=>[(7,some (i64 q))]) (fun _=>[]) (fun q=>q<=k/\(l.dv.take q).any (fun d=>decide (d.body=b.body))=false) (fun q=>k-q) 0 ⟨zero_le _,rfl⟩ ?_;rintro q ⟨hq,hqd⟩ K2 J2;refine gC (fun t43=>?_) (fun t43=>?_)
 ·have hqn:=aS t43;obtain⟨y,hy⟩:∃y,l.dv[q]?=some y:=ax oz;refine gi (aA hy) ?_;refine gD ?_;refine gC (fun t54=>?_) (fun t54=>?_)
  ·have h5:decide (y.body=b.body)=true:=decide_eq_true (cM t54);refine af ?_;rw[e1,if_pos (kE hy hqn h5)];rfl
  have h5:decide (y.body=b.body)=false:=decide_eq_false (dJ t54);refine ga aF ?_;exact aH J2 (q+1) ⟨hqn,jP hy hqd h5⟩
 have hqn:=aZ hq t43;subst hqn;refine af ?_;rw[e1,hqd];rfl
theorem P6(l:Li)(hl:l.ok):FP 40 [l.av] (i64 (ay l)):=by
 have hlb:=hl.lb;refine ai func40 ?_;refine gc (sN l.name hl.name) ?_;refine gC (fun t11=>?_) (fun t11=>?_)
 ·have h1:=cI t11;refine af ?_;unfold ay;rw[if_pos h1];rfl
 have h1:=cH t11;refine gl ?_;refine gC (fun t15=>?_) (fun t15=>?_)
 ·have h2:=BR t15;refine af ?_;unfold ay;rw[if_neg (by rw[h1];decide),if_pos h2];rfl
 have h2:=qX t15;refine gl ?_;refine gC (fun t19=>?_) (fun t19=>?_)
 ·have h3:8<l.bo.length:=iH t19;refine af ?_;unfold ay;rw[if_neg (by rw[h1];decide),if_neg h2,if_pos h3];rfl
 have h3:l.bo.length<=8:=gj t19;have e0:ay l=if gH l≠0 then gH l else if ee l≠0 then ee l else fN l:=by unfold ay;rw[if_neg (by rw[h1];decide),if_neg h2,if_neg oz]
 refine gc (Pt l hl) ?_;refine gC (fun t23=>?_) (fun t23=>?_)
 ·have h4:gH l≠0:=qL t23;refine af ?_;rw[e0,if_pos h4]
 have h4:gH l=0:=sS t23;refine gl ?_;refine gC (fun t28=>?_) (fun t28=>?_)
 ·have h5:16 < l.jo.length:=iH t28;have ej:ee l = 4:=by unfold ee; rw [if_pos h5]
  refine af ?_;rw[e0,if_neg (by rw[h4];simp),if_pos (by rw[ej];decide),ej];rfl
 have h5:l.jo.length<=16:=gj t28;have ej:ee l=eD l.jo.length (fH l):=by unfold ee;rw[if_neg oz]
 refine aN [1] [1] (fun(i:Nat)=>[(4,some (i64 i))]) (fun _=>[]) (fun i=>i<=l.jo.length/\∀j,j<i->fH l j=0) (fun i=>l.jo.length-i) 0 ⟨zero_le _,fun j h=>by omega⟩ ?_;rintro i ⟨hi,hj⟩ K1 J1;refine gl ?_;refine gC (fun t33=>?_) (fun t33=>?_)
 ·have hin:=aS t33;refine gc (Ms l hl i hin h5) ?_;refine gC (fun t40=>?_) (fun t40=>?_)
  ·have h6:=qL t40;refine af ?_;rw[e0,if_neg (by rw[h4];simp),if_pos (by rw[ej,dH hin hj h6];exact h6),ej,dH hin hj h6]
  have h6:=sS t40;refine ga aF ?_;exact aH J1 (i+1) ⟨hin,fun j h9=>by rcases lt_or_ge j i with g |g;exact hj j g;(have:j=i:=by omega);subst this;exact h6⟩
 have hin:=aZ hi t33;subst hin;have ejz:ee l=0:=ej.trans (mh hj);have e0':ay l=fN l:=by rw[e0,if_neg (by rw[h4];simp),if_neg (by rw[ejz];simp)]
 refine gl ?_;refine gC (fun t45=>?_) (fun t45=>?_)
 ·have h6:2<l.dv.length:=iH t45;refine af ?_;rw[e0'];unfold fN;rw[if_pos h6];rfl
 have h6:l.dv.length<=2:=gj t45;have ed:fN l=eD l.dv.length (dD l):=by unfold fN;rw[if_neg oz]
 refine aN [1] [1] (fun(k:Nat)=>[(6,some (i64 k))]) (fun _=>[]) (fun k=>k<=l.dv.length/\∀j,j<k->dD l j=0) (fun k=>l.dv.length-k) 0 ⟨zero_le _,fun j h=>by omega⟩ ?_;rintro k ⟨hk,hkj⟩ K2 J2;refine gl ?_;refine gC (fun t50=>?_) (fun t50=>?_)
 ·have hkn:=aS t50;refine gc (MU l hl k hkn h6) ?_;refine gC (fun t57=>?_) (fun t57=>?_)
  ·have h7:=qL t57;refine af ?_;rw[e0',ed,dH hkn hkj h7]
  have h7:=sS t57;refine ga aF ?_;exact aH J2 (k+1) ⟨hkn,fun j h9=>by rcases lt_or_ge j k with g |g;exact hkj j g;(have:j=k:=by omega);subst this;exact h7⟩
 have hkn:=aZ hk t50;subst hkn;refine af ?_;rw[e0',ed,mh hkj];rfl
theorem QE(l:Li)(hl:l.okw):FP 56 [l.av] (bl (gK l)):=by
 have hbl:=hl.lb;refine ai func56 ?_;refine gl ?_;refine aN [1,8,9] [1] (fun(i:Nat)=>[(10,some (i64 i))]) (fun _=>[]) (fun i=>i<=l.bo.length/\(l.bo.take i).all mV=true) (fun i=>l.bo.length-i) 0 ⟨zero_le _,rfl⟩ ?_;rintro i ⟨hi,hj⟩ K1 J1;refine gC (fun t11=>?_) (fun t11=>?_)
 ·have hin:=aS t11;obtain⟨b,hb⟩:=ax hin;refine gi (aA hb) ?_;refine gl ?_;refine gC (fun t17=>?_) (fun t17=>?_)
  ·have h1:30<b.pts.length:=iH t17;refine af ?_;unfold gK;rw[iD hb (by unfold mV;rw[decide_eq_false oz];rfl)];rfl
  have h1:b.pts.length<=30:=gj t17;refine gl ?_;refine aN [1,8,9,10,19,20] [1] (fun(k:Nat)=>[(21,some (i64 k))]) (fun _=>[]) (fun k=>k<=b.pts.length/\(b.pts.take k).all kU=true) (fun k=>b.pts.length-k) 0 ⟨zero_le _,rfl⟩ ?_;rintro k ⟨hk,hkj⟩ K2 J2;refine gC (fun t22=>?_) (fun t22=>?_)
  ·have hkn:=aS t22;obtain⟨p,hp⟩:=ax hkn;refine gi (aA hp) ?_;refine gl ?_;refine cF ?_;refine cF ?_;refine cF ?_;refine gC (fun t50=>?_) (fun t50=>?_)
   ·have h2:kU p=false:=Tk t50;refine af ?_;unfold gK;rw[iD hb (by unfold mV;rw[iD hp h2,Bool.and_false])];rfl
   have h2:kU p=true:=Ky t50;refine ga aF ?_;exact aH J2 (k+1) ⟨hkn,jz hkj hp h2⟩
  have hkn:=aZ hk t22;refine ga aF ?_;exact aH J1 (i+1) ⟨hin,jz hj hb (by unfold mV;rw[decide_eq_true h1,j7 hkn hkj];rfl)⟩
 have hin:=aZ hi t11;refine gl ?_;refine cF ?_;refine cF ?_;refine af ?_;exact congrArg bl (Pp (j7 hin hj))
def kV(r:Rt):Bool:=!(cond (cond (cond (aa .gtr (r.num.length:Int) 1) true (aa .gtr (r.den.length:Int) 1)) true (cond (aa .eql (r.num.length:Int) 1) (aa .gtr (ah r.num 0:Int) 400) false)) true
  (cond (aa .eql (r.den.length:Int) 1) (aa .gtr (ah r.den 0:Int) 20) false))
theorem Dy(rs:List Rt)(hl:rs.length<=1000):FP 197 [.lst 3 (rs.map Rt.av)] (bl (rs.all kV)):=by
 refine ai func197 ?_;refine gl ?_;refine aN [5,6] [] (fun(i:Nat)=>[(7,some (i64 i))]) (fun _=>[]) (fun i=>i<=rs.length/\(rs.take i).all kV=true) (fun i=>rs.length-i) 0 ⟨zero_le _,rfl⟩ ?_;rintro i ⟨hi,hj⟩ K1 J1;refine gC (fun t8=>?_) (fun t8=>?_)
 ·have hin:=aS t8;obtain ⟨r,hr⟩:=ax hin;refine gi (aA hr) ?_;refine gl ?_;refine cF ?_;refine cF ?_;refine lO (fun ⟨h,h2⟩=>(bT (by have:=cM h2; have e:Int.toNat 0 = 0:=rfl; omega))) ?_;refine cF ?_;refine lO (fun ⟨h,h2⟩=>(bT (by have:=cM h2; have e:Int.toNat 0 = 0:=rfl; omega))) ?_;refine gC (fun t46=>?_) (fun t46=>?_)
  ·have h1:kV r=false:=congrArg Bool.not t46;refine af ?_;rw[iD hr h1];rfl
  have h1:kV r=true:=congrArg Bool.not t46;refine ga aF ?_;exact aH J1 (i+1) ⟨hin,jz hj hr h1⟩
 have hin:=aZ hi t8;refine af ?_;rw[j7 hin hj];rfl
def kf(x:Tn):Bool:=decide (x.t.num.length<=1/\x.t.den.length<=1)
def kc(m:Mk):Bool:=decide (m.x.num.length<=1/\m.x.den.length<=1/\m.y.num.length<=1/\m.y.den.length<=1)
def lR(xs:List Tn):Bool:=xs.all (fun x=>[x.t].all kV)
def q5(ps:List Mk):Bool:=ps.all (fun p=>[p.x,p.y].all kV)
def oQ(l:Li):Bool:=l.bo.all (fun b=>q5 b.pts)
theorem NO(l:Li)(hl:l.ok)(xs:List Tn)(hxl:xs.length<=281474976710656):FP 98 [l.av,.lst 4 (xs.map Tn.av)] (bl (lR xs&&oQ l)):=by
 have hlb:=hl.lb;refine ai func98 ?_;refine gl ?_;refine aN [2,11,12] [2] (fun(i:Nat)=>[(13,some (i64 i))]) (fun _=>[]) (fun i=>i<=xs.length/\(xs.take i).all (fun x=>[x.t].all kV)=true) (fun i=>xs.length-i) 0 ⟨zero_le _,rfl⟩ ?_;rintro i ⟨hi,hj⟩ K1 J1;refine gC (fun t14=>?_) (fun t14=>?_)
 ·have hin:=aS t14;obtain ⟨x,hx⟩:=ax hin;refine gi (aA hx) ?_;refine gc (Dy [x.t] (by show 1 <= _; omega)) ?_;refine gC (fun t21=>?_) (fun t21=>?_)
  ·have h1:=cI t21;refine af ?_;unfold lR;rw[iD hx h1];rfl
  have h1:=cH t21;refine ga aF ?_;exact aH J1 (i+1) ⟨hin,jz hj hx h1⟩
 have hT:lR xs=true:=j7 (aZ hi t14) hj;refine gl ?_;refine aN [2,24,25] [2] (fun(i:Nat)=>[(26,some (i64 i))]) (fun _=>[]) (fun i=>i<=l.bo.length/\(l.bo.take i).all (fun b=>q5 b.pts)=true) (fun i=>l.bo.length-i) 0 ⟨zero_le _,rfl⟩ ?_;rintro i ⟨hi2,hj2⟩ K2 J2;refine gC (fun t27=>?_) (fun t27=>?_)
 ·have hin:=aS t27;obtain⟨b,hb⟩:=ax hin;have hbl:=(hl.bo b (mem_of_getElem? hb)).ll;refine gi (aA hb) ?_;refine gl ?_;refine aN [2,24,25,26,31,32] [2] (fun(k:Nat)=>[(33,some (i64 k))]) (fun _=>[]) (fun k=>k<=b.pts.length/\(b.pts.take k).all (fun p=>[p.x,p.y].all kV)=true) (fun k=>b.pts.length-k) 0 ⟨zero_le _,rfl⟩ ?_;rintro k ⟨hk,hkj⟩ K3 J3;refine gC (fun t34=>?_) (fun t34=>?_)
  ·have hkn:=aS t34;obtain ⟨p,hp⟩:=ax hkn;refine gi (aA hp) ?_;refine gc (Dy [p.x,p.y] (by show 2 <= _; omega)) ?_;refine gC (fun t43=>?_) (fun t43=>?_)
   ·have h1:=cI t43;refine af ?_;rw[hT];unfold oQ;rw[iD hb (by unfold q5;exact iD hp h1)];rfl
   have h1:=cH t43;refine ga aF ?_;exact aH J3 (k+1) ⟨hkn,jz hkj hp h1⟩
  have hP:q5 b.pts=true:=j7 (aZ hk t34) hkj;refine ga aF ?_;exact aH J2 (i+1) ⟨hin,jz hj2 hb hP⟩
 have hL:oQ l=true:=j7 (aZ hi2 t27) hj2;refine af ?_;rw[hT,hL];rfl
def uo(l:Li)(xs:List Tn):Bool :=
  cond (cond (aa .neq (splitE l:Int) 0) true (aa .leq (((splitG l).length:Int)-l.dv.length) 1)) true (cond (aa .eql (((splitG l).length:Int)-l.dv.length) 2) (lR xs&&oQ l) false)
def ft(l:Li)(xs:List Tn):Bool :=
  (gK l&&decide (xs.length<=20))&&(xs.all kf&&(l.bo.all (fun b=>b.pts.all kc)&&(if ay l=0 then uo l xs else true)))
theorem RW{l:Li}{n:Nat}(h:cond (!gK l) true (aa .gtr (n:Int) 20)=true):(gK l&&decide (n<=20))=false:=by
 cases hb:gK l
 ·rfl
 ·rw[hb]at h;have h1:20<n:=iH (b:=20) h;rw[decide_eq_false oz];rfl
theorem Nw{l:Li}{n:Nat}(h:cond (!gK l) true (aa .gtr (n:Int) 20)=false):gK l=true/\n<=20:=by
 cases hb:gK l
 ·rw[hb]at h;cases h
 ·rw[hb]at h;exact⟨rfl,gj (b:=20) h⟩
theorem BA{x:Tn}:cond (aa .gtr (x.t.num.length:Int) 1) true (aa .gtr (x.t.den.length:Int) 1)=!kf x:=by
 unfold kf;have e1:=kg (n:=x.t.num.length) (k:=1);have e2:=kg (n:=x.t.den.length) (k:=1);rw[it];refine(congr (congrArg _ e1) e2).trans ?_;rw[<- Bool.decide_or,<- decide_not];exact decide_eq_decide.2 oz
theorem FT{m:Mk}:cond (cond (cond (aa .gtr (m.x.num.length:Int) 1) true (aa .gtr (m.x.den.length:Int) 1)) true (aa .gtr (m.y.num.length:Int) 1)) true (aa .gtr (m.y.den.length:Int) 1)=!kc m:=by
 unfold kc;have e1:=kg (n:=m.x.num.length) (k:=1);have e2:=kg (n:=m.x.den.length) (k:=1);have e3:=kg (n:=m.y.num.length) (k:=1);have e4:=kg (n:=m.y.den.length) (k:=1);rw[it,it,it];refine(congr (congrArg _ (congr (congrArg _ (congr (congrArg _ e1) e2)) e3)) e4).trans ?_;rw[<- Bool.decide_or,<- Bool.decide_or,<- Bool.decide_or,<- decide_not];exact decide_eq_decide.2 oz
theorem rP{l:Li}(hl:ay l=0):(splitG l).length<=8:=by
 unfold splitG;split
 ·exact(r5 hl).2
 ·exact zero_le _
theorem KV(l:Li)(hw:l.okw)(xs:List Tn)(hxl:xs.length<=281474976710656):FP 32 [l.av,.lst 4 (xs.map Tn.av)] (bl (ft l xs)):=by
 refine ai func32 ?_;refine gc (QE l hw) ?_;refine cF ?_;refine gC (fun t21=>?_) (fun t21=>?_)
 ·have h1:=RW t21;refine af ?_;unfold ft;rw[h1];rfl
 obtain⟨g1,g2⟩:=Nw t21;have hl:=Au g1 hw;have hlb:=hl.lb;refine gl ?_;refine aN [1,2,22,23] [2] (fun(i:Nat)=>[(24,some (i64 i))]) (fun _=>[]) (fun i=>i<=xs.length/\(xs.take i).all kf=true) (fun i=>xs.length-i) 0 ⟨zero_le _,rfl⟩ ?_;rintro i ⟨hi,hj⟩ K1 J1;refine gC (fun t25=>?_) (fun t25=>?_)
 ·have hin:=aS t25;obtain⟨x,hx⟩:=ax hin;refine gi (aA hx) ?_;refine gl ?_;refine cF ?_;refine gC (fun t39=>?_) (fun t39=>?_)
  ·have h1 : kf x = false := by rw [BA] at t39; exact cI t39
   refine af ?_;unfold ft;rw[g1,decide_eq_true g2,iD hx h1];rfl
  have h1:kf x=true:=by rw[BA]at t39;exact cH t39
  refine ga aF ?_;exact aH J1 (i+1) ⟨hin,jz hj hx h1⟩
 have hT:xs.all kf=true:=j7 (aZ hi t25) hj;refine gl ?_;refine aN [1,2,42,43] [2] (fun(i:Nat)=>[(44,some (i64 i))]) (fun _=>[]) (fun i=>i<=l.bo.length/\(l.bo.take i).all (fun b=>b.pts.all kc)=true) (fun i=>l.bo.length-i) 0 ⟨zero_le _,rfl⟩ ?_;rintro i ⟨hi2,hj2⟩ K2 J2;refine gC (fun t45=>?_) (fun t45=>?_)
 ·have hin:=aS t45;obtain⟨b,hb⟩:=ax hin;have hbl:=(hl.bo b (mem_of_getElem? hb)).ll;refine gi (aA hb) ?_;refine gl ?_;refine aN [1,2,42,43,44,49,50] [2] (fun(k:Nat)=>[(51,some (i64 k))]) (fun _=>[]) (fun k=>k<=b.pts.length/\(b.pts.take k).all kc=true) (fun k=>b.pts.length-k) 0 ⟨zero_le _,rfl⟩ ?_;rintro k ⟨hk,hkj⟩ K3 J3;refine gC (fun t52=>?_) (fun t52=>?_)
  ·have hkn:=aS t52;obtain⟨p,hp⟩:=ax hkn;refine gi (aA hp) ?_;refine gl ?_;refine cF ?_;refine cF ?_;refine cF ?_;refine gC (fun t80=>?_) (fun t80=>?_)
   ·have h1 : kc p = false := by rw [FT] at t80; exact cI t80
    refine af ?_;unfold ft;rw[g1,decide_eq_true g2,hT,iD hb (iD hp h1)];rfl
   have h1:kc p=true:=by rw[FT]at t80;exact cH t80
   refine ga aF ?_;exact aH J3 (k+1) ⟨hkn,jz hkj hp h1⟩
  have hP:b.pts.all kc=true:=j7 (aZ hk t52) hkj;refine ga aF ?_;exact aH J2 (i+1) ⟨hin,jz hj2 hb hP⟩
 have hL:l.bo.all (fun b=>b.pts.all kc)=true:=j7 (aZ hi2 t45) hj2;refine gc (P6 l hl) ?_;refine gC (fun t85=>?_) (fun t85=>?_)
 ·have h1:=qL t85;refine af ?_;unfold ft;rw[g1,decide_eq_true g2,hT,hL,if_neg h1];rfl
 have h1:=sS t85;have hsl:=rP h1;have hld:=hl.ld;refine gc (KO l hl h1) ?_;refine gl ?_;refine gl ?_;refine ga (dI oz) ?_;refine bM (fun _=>(NO l hl xs hxl)) ?_;refine af ?_;unfold ft uo;rw[g1,decide_eq_true g2,hT,hL,if_pos h1];rfl
section
variable{l:Li}{xs:List Tn}{s g:Nat}(W:WkC l xs s g){k:Nat}{gr:Gr}(hg:(splitG l)[k]?=some gr){j r E:Nat}{a:Aq}(Q:QInv l j r E a){n y:Nat}(ok:dY s g (n+1) y j r E=true)(hy:gr.kind≠0->0<y)
include W hg Q ok hy
theorem Q7:∃F,F<=20000000000/\se F l k a.as false/\AB a.as/\(Lw.llq a.as.rs).length<=2/\(gr.kind≠0->F=3900000/\DyS a.as):=by
 obtain⟨⟨hE,hr,hj⟩,_⟩:=sC ok;have h3:(Lw.llq a.as.rs).length<=2:=by rw[a.llq];have:=Q.lv;omega
 have al:=Q.ab W.li (by omega:E<=50000000000) hr
 by_cases hk:gr.kind=0
 ·exact⟨E,hE,Q.sma oz (le_refl _) k false,al,h3,fun h=>absurd hk h⟩
 ·have hy:=hy hk;obtain ⟨y',rfl⟩:∃ y',y = y' + 1:=⟨y - 1,by omega⟩
  obtain⟨⟨hj,hE,hr,hX,hJ⟩,_⟩:=ta ok;exact⟨3900000,by omega,Q.sma oz hE k false,al,h3,fun _=>⟨rfl,QInv.dyS W hg Q hr hj⟩⟩
theorem Po:vS l k (b9 gr xs) a.as=((eQ l a.as gr (b9 gr xs)).map Sv.av,mn l a.as gr (b9 gr xs)):=by
 have _:=ok;have _:=hy;unfold vS;have hgA:iO l (k:Nat)=gr:=aC hg;rw[if_pos (Q.dy0 W.li W.sp hg false),hgA];exact Prod.ext (JW _ _ _ _) rfl
theorem Oq:FP 18 [l.av,i64 k,(b9 gr xs).av,a.av] (.tup [.lst 3 ((eQ l a.as gr (b9 gr xs)).map Sv.av),bg (mn l a.as gr (b9 gr xs))]):=by
 obtain⟨F,hF,hs,al,h3,hR⟩:=Q7 W hg Q ok hy;have hgA:iO l (k:Nat)=gr:=aC hg;have h:=L4 l W.hl k (W.tn hg).1 (W.tn hg).2.1 a.as al (fun _=>h3) hF hs (fun _ h=>hR (by rw[hgA]at h;exact h));rw[Po W hg Q ok hy,a.as_av]at h;exact h
theorem PK:∃y' j' r' E',dY s g n y' j' r' E'=true/\(y'+(if gr.kind≠0 then 1 else 0)=y)/\∀sv∈eQ l a.as gr (b9 gr xs),QInv l j' r' E' (a.nxt gr sv):=by
 by_cases hk:gr.kind=0
 ·exact⟨y,j,r,_,(sC ok).2,by simp[hk],Q.drv W hg ok hk⟩
 ·have hy:=hy hk;obtain ⟨y',rfl⟩:∃ y',y = y' + 1:=⟨y - 1,by omega⟩
  exact⟨y',j+1,_,_,(ta ok).2,by simp[hk],Q.dy W hg ok hk⟩
end
def kT(g:Gr):Bool:=decide (g.kind≠0)
theorem FE{F:Int->Bool}{sg:Bool}{f:Sv->List Aq×Nat}{M:Nat}:∀{S:List Sv},(∀s∈S,(f s).1.length<=M)->(eT F sg f S).1.length<=S.length*M
 |[],h=>zero_le _
 |s::S,h=>by
  have h1:=h s mem_cons_self;have h2:=FE (F:=F) (sg:=sg) (S:=S) (fun x hx=>h x (mem_cons_of_mem _ hx));rw[ol,length_cons,Nat.succ_mul];split
  ·omega
  ·split
   ·omega
   ·split
    ·omega
    ·simp only[length_append];omega
structure WkSt(l:Li)(s g n:Nat)(a:Aq):Prop where
  st:∃j r E y,QInv l j r E a/\dY s g n y j r E=true/\((splitG l).drop a.ms.length).countP kT<=y
  ln:a.ms.length+n=(splitG l).length
theorem WkSt.next{l:Li}{xs:List Tn}{s g n:Nat}(W:WkC l xs s g){a:Aq}(h:WkSt l s g (n+1) a):∃gr,(splitG l)[a.ms.length]?=some gr /\
  FP 18 [l.av,i64 a.ms.length,(b9 gr xs).av,a.av] (.tup [.lst 3 ((eQ l a.as gr (b9 gr xs)).map Sv.av),bg (mn l a.as gr (b9 gr xs))]) /\
  SolP (eQ l a.as gr (b9 gr xs)) gr.kind a.ts.length gr.bo.length/\∀sv∈eQ l a.as gr (b9 gr xs),WkSt l s g n (a.nxt gr sv):=by
 obtain⟨⟨j,r,E,y,Q,ok,hc⟩,hl⟩:=h;obtain⟨gr,hg⟩:=ax (l:=splitG l) (i:=a.ms.length) oz;have hdr:=sG hg;rw[hdr,List.countP_cons]at hc
 have hy:gr.kind≠0->0<y:=fun hk=>by
  have:kT gr=true:=decide_eq_true hk;rw[if_pos this]at hc;omega
 obtain⟨y',j',r',E',ok',ey,hQ⟩:=PK W hg Q ok hy;refine⟨gr,hg,Oq W hg Q ok hy,MT W hg Q ok hy,fun sv hsv=>⟨⟨j',r',E',y',hQ sv hsv,ok',?_⟩,?_⟩⟩
 ·have e : (a.nxt gr sv).ms.length = a.ms.length + 1 := by show (a.ms ++ [sv.mode]).length = _; simp
  rw[e]
  by_cases hk:gr.kind=0
  ·have h1 : kT gr = false := by unfold kT; simp [hk]
   simp only[hk,ne_eq,not_true_eq_false,if_false]at ey;rw[h1]at hc;simp only[Bool.false_eq_true,if_false]at hc;omega
  ·have h1:kT gr=true:=decide_eq_true hk;rw[if_pos hk]at ey;rw[if_pos h1]at hc;omega
 ·show(a.ms++[sv.mode]).length+n=_;rw[length_append];simp only[length_cons,length_nil];omega
theorem x8{l:Li}{xs:List Tn}{s g:Nat}(W:WkC l xs s g)(F:Nat->Int->Bool)(sg:Bool):∀(n:Nat)(a:Aq),WkSt l s g n a->(iP F sg l xs (splitG l) n a).1.length<=2^n
 |0,a,h=>le_refl _
 |n+1,a,h=>by
  obtain⟨gr,hg,_,hP,hn⟩:=h.next W;unfold iP;rw[aC hg];split
  ·exact zero_le _
  ·have h1:=FE (F:=F a.ms.length) (sg:=sg) (f:=fun sv=>iP F sg l xs (splitG l) n (a.nxt gr sv)) (M:=2^n) (S:=eQ l a.as gr (b9 gr xs)) (fun sv hsv=>x8 W F sg n _ (hn sv hsv));have h2:=mul_le_mul_right (2^n) hP.two;rw[Nat.pow_succ];omega
theorem Fj{l:Li}{xs:List Tn}{s g:Nat}(W:WkC l xs s g)(F:Nat->Int->Bool)(sg:Bool){fo:FuncId}{caps:List AV}(hF:∀(k:Nat)(m:Int),k<(splitG l).length->FP fo ([i64 k,i64 m]++caps) (bl (F k m))) :
  ∀(n:Nat)(a:Aq),WkSt l s g n a->∀o:List Aq,o.length+2^n<=1000 ->
   Con prog 100 [.ptr 1000 0,a.av] (eZ l xs (splitG l) fo caps sg 1001 (o.map Aq.av)) (bg (iP F sg l xs (splitG l) n a).2) (eZ l xs (splitG l) fo caps sg 900 ((o++(iP F sg l xs (splitG l) n a).1).map Aq.av))
 |0,a,h,o,ho=>by
  have hG:(splitG l).length<=100:=by have:=rP W.li;omega
  obtain⟨⟨j,r,E,y,Q,ok,_⟩,hl⟩:=h;obtain⟨hE,_,_⟩:=Qu ok;have hlb:=(cJ W.li).2.2.2.1;have hln:=Q.ln;have h3:=Q.tw.three;obtain⟨D,N,hD,hts,h1,h2⟩:=Q.tw.rb
  exact KM oz hG oz (S9 (e:=5000000000+E) Q.tw.five (fun x hx=>by
   obtain⟨i,hi⟩:=getElem?_of_mem hx;have hi2:=(List.getElem?_eq_some_iff.1 hi).1;have h9:=Q.tw.len i hi2;rw[aC hi]at h9;exact⟨Q.tw.five,.inr ⟨i,by omega,h9⟩,D,N,hts x hx,le_trans h1 (b7 (by have:=Q.tw.le;omega)),le_trans h2 (b7 (by have:=Q.tw.le;omega))⟩)
   (fun p hp=>(Q.bs p hp).up (le_refl _) Q.tw.five oz) oz oz oz oz)
 |n+1,a,h,o,ho=>by
  have hG:(splitG l).length<=100:=by have:=rP W.li;omega
  have hlb:=(cJ W.li).2.2.2.1;have hln:=h.ln;obtain⟨j,r,E,y,Q,ok,_⟩:=h.st;obtain⟨gr,hg,hS,hP,hn⟩:=h.next W;obtain⟨hdy,hgo⟩:=qS W.li (mem_of_getElem? hg);have h2:=rZ W.li;have hxl:=W.ln;have hQl:=Q.ln;have hgb:=hgo.lb
  have key := MG (l := l) (xs := xs) (G := splitG l) (fo := fo) (caps := caps) (sg := sg) (o := o) hg hG oz (fun hk => by rw [hxl]; exact DG hdy hk) hS (by have := hP.two; omega) (F := F a.ms.length) (fun m => hF _ m oz)
   (fun sv hsv => TT (fun b hb => by rw [hQl]; exact hgo.b b hb) (by
    obtain⟨i,hi⟩:=getElem?_of_mem hsv;exact(hP.md i sv hi).2.2) oz oz oz)
   (f:=fun sv=>iP F sg l xs (splitG l) n (a.nxt gr sv)) (M:=2^n) (B:=1000) (fun sv hsv=>x8 W F sg n _ (hn sv hsv)) (by have:=mul_le_mul_right (2^n) hP.two;rw[Nat.pow_succ]at ho;omega)
   (fun o' ho' sv hsv=>Fj W F sg hF n _ (hn sv hsv) o' ho')
  have e:iP F sg l xs (splitG l) (n+1) a=(if mn l a.as gr (b9 gr xs)≠0 then([],mn l a.as gr (b9 gr xs))else eT (F a.ms.length) sg (fun sv=>iP F sg l xs (splitG l) n (a.nxt gr sv)) (eQ l a.as gr (b9 gr xs))):=by
   conv=>lhs;unfold iP
   rw[aC hg]
  rw[e]
  by_cases hE:mn l a.as gr (b9 gr xs)≠0
  ·rw[if_pos hE]at key ⊢;rw[if_pos hE]at key;exact key
  ·rw[if_neg hE]at key ⊢;rw[if_neg hE]at key;exact key
abbrev qV(l:Li)(xs:List Tn)(G:List Gr)(fo:FuncId)(caps:List AV)(sg:Bool)(k0 k:Nat)(es:List AV):Hp :=
  [(k0,some (.box (gf l xs G fo caps sg (.ms k 3 0 es.length)))),(k,some (.row 3 es))]
def u9(k:Nat):Nat:=bif Nat.beq k 1000 then 902 else bif Nat.beq k 902 then 1000 else oq k
theorem vz{a b:Nat}(h:¬a=b):Nat.beq a b=false:=by
 cases h1:Nat.beq a b
 ·rfl
 ·exact absurd (eq_of_beq_eq_true h1) h
theorem BX(k:Nat):u9 (u9 k)=k:=by
 by_cases h1:k=1000
 ·subst h1;rfl
 by_cases h2:k=902
 ·subst h2;rfl
 by_cases h3:k=1001
 ·subst h3;rfl
 by_cases h4:k=901
 ·subst h4;rfl
 have e:u9 k=k:=by simp only[u9,oq,vz h1,vz h2,vz h3,vz h4,cond_false]
 rw[e,e]
theorem Ri{l:Li}{xs:List Tn}{G:List Gr}{fo:FuncId}{caps:List AV}{sg:Bool}{es:List AV}(h0:0<l.bo.length)(hl:l.bo.length<=100) :
  Con prog 101 [.ptr 902 0] (qV l xs G fo caps sg 902 901 es) (fT l).av (qV l xs G fo caps sg 902 901 es):=Con.pm BX (LQ h0 hl)
theorem JI{l:Li}{xs:List Tn}{G:List Gr}{fo:FuncId}{caps:List AV}{sg:Bool}{es es':List AV}{a:Aq}{e:Nat}
  (h:Con prog 100 [.ptr 1000 0,a.av] (eZ l xs G fo caps sg 1001 es) (bg e) (eZ l xs G fo caps sg 900 es')) :
  Con prog 100 [.ptr 902 0,a.av] (qV l xs G fo caps sg 902 901 es) (bg e) (qV l xs G fo caps sg 902 900 es'):=Con.pm BX h
def lr:Nat->Int->Bool:=fun _ _=>true
def pC(F:Nat->Int->Bool)(sg:Bool)(l:Li)(xs:List Tn):List Aq×Nat:=iP F sg l xs (splitG l) (splitG l).length (fT l)
def mg(l:Li)(xs:List Tn):List Aq×Nat:=if dp l xs≠0 then([],dp l xs)else if(pC lr false l xs).2≠0 then([],(pC lr false l xs).2)else pC lr false l xs
theorem So{l:Li}{xs:List Tn}(h0:dp l xs≠0)(hop:Con prog 99 [l.av,.lst 4 (xs.map Tn.av)] [] (.tup [tm (dp l xs),bg (dp l xs)]) (vq (dp l xs) l xs)) :
  FP 33 [l.av,.lst 4 (xs.map Tn.av)] (.tup [.lst 3 [],bg (dp l xs)]):=by
 rw[kp h0,uK h0]at hop;refine ai func33 ?_;refine gc hop ?_;refine gC (fun t16=>?_) (fun t16=>?_) (st2:=(77777,0))
 ·refine gR ?_;exact dV (Sub.tup (.cons (.nil _ _ _) (.cons (.refl _) .nil)))
 exact absurd (cC t16) h0
theorem Sy{l:Li}{xs:List Tn}(h0:dp l xs=0)(hop:Con prog 99 [l.av,.lst 4 (xs.map Tn.av)] [] (.tup [tm (dp l xs),bg (dp l xs)]) (vq (dp l xs) l xs))(hb:0<l.bo.length)(hl:l.bo.length<=100)
  {R:List Aq×Nat} (hw:Con prog 100 [.ptr 1000 0,(fT l).av] (eZ l xs (splitG l) 198 [] false 1001 []) (bg R.2) (eZ l xs (splitG l) 198 [] false 900 (R.1.map Aq.av))) :
  FP 33 [l.av,.lst 4 (xs.map Tn.av)] (.tup [.lst 3 ((if R.2≠0 then[]else R.1).map Aq.av),bg R.2]):=by
 rw[h0]at hop;have hop:Con prog 99 [l.av,.lst 4 (xs.map Tn.av)] [] (.tup [.ptr 900 0,.v .nilIface]) [(900,some (.box (gf l xs (splitG l) 198 [] false (nS))))]:=hop;refine ai func33 ?_;refine gt (az hop (bm rfl rfl) aB rfl rfl) ?_;refine gC (fun t16=>?_) (fun t16=>?_) (st1:=(3,0)) (st2:=(77777,0));cases t16;refine gW (Wk.o (sl:=[(6,some (.ptr 900 0))]) (hp:=[(900,some (.box (gf l xs (splitG l) 198 [] false (nS))))])) ?_ (77777,0);refine gW (Wk.rk (k:=900) (d:=902) rfl rfl) ?_ (77777,0);refine gW (Wk.virt 901 3 rfl) ?_ (77777,0);refine gW (Wk.of (sl:=[(6,some (.ptr 902 0))]) (hp:=qV l xs (splitG l) 198 [] false 902 901 []) (.k .nil) (.cons rfl (BlkSub.bL (.cons (.refl _) (.cons (.refl _) (.cons (.refl _) (.cons (.refl _) (.cons (.refl _) (.cons (.refl _) (.cons (.refl _) (.cons (.refl _) (.cons (Sub.nM _ _ _) .nil))))))))) rfl) (.k .nil))) ?_;refine gt (Bk (Ri hb hl) (cq rfl) rfl rfl rfl rfl rfl) ?_;refine gt (az (JI hw) (bm rfl rfl) aB rfl rfl) ?_;refine gC (fun t23=>?_) (fun t23=>?_) (st2:=(77777,0))
 ·have hE:=cE t23;refine gR ?_;exact dV (by rw[if_pos hE];exact Sub.tup (.cons (.nil _ _ _) (.cons (.refl _) .nil)))
 have hE:=cC t23;refine gW ((Wk.freeze (k:=900) rfl).trans<|Wk.of (sl:=[(6,some (.ptr 902 0))]) (hp:=[(902,some (.box (gf l xs (splitG l) 198 [] false (.lst 3 (R.1.map Aq.av)))))]) aW (.cons rfl (BlkSub.bL (.cons (.refl _) (.cons (.refl _) (.cons (.refl _) (.cons (.refl _) (.cons (.refl _) (.cons (.refl _) (.cons (.refl _) (.cons (.refl _) (.cons (Sub.of (bJ rfl)) .nil))))))))) rfl) .nil)) ?_;refine gR ?_;exact dV (Sub.of (by rw[if_neg oz,hE];rfl))
theorem Rt.qbV{r:Rt}{e:Nat}(h:r.ok)(he:1<=e)(hn:val r.num<2^e)(hd:val r.den<2^e):Qb e r.q:=by
 by_cases h0:r.valid=true/\r.num≠[]
 ·obtain⟨h1,h2,h3,h4,h5,h6⟩:=Rt.parts h h0.1 h0.2;refine⟨?_,?_⟩
  ·have : r.q.num.natAbs = val r.num := by rw [h1]; unfold sgn; split <;> omega
   rw[this];exact hn
  ·rw[h2];exact hd
 ·rw[Rt.zero h0];exact Qb.zero.mono he
theorem H2{l:List Nat}{b e:Nat}(h:¬1<l.length)(hb:l.length=1->ah l 0<=b)(he:b<2^e):val l<2^e:=by
 match l with
 |[]=>exact lt_of_le_of_lt (zero_le b) he
 |[x] =>
  have h1:x<=b:=hb rfl;have h2:val [x]=x:=by simp[val]
  rw[h2];omega
 |_::_::_=>simp at h
theorem xP{r:Rt}(h:r.ok)(hl:kV r=true):Qb 9 r.q:=by
 unfold kV at hl;rw[it,it,it,Bool.not_eq_true',Bool.or_eq_false_iff,Bool.or_eq_false_iff,Bool.or_eq_false_iff]at hl;obtain⟨⟨⟨h1,h2⟩,h3⟩,h4⟩:=hl;have g1:r.num.length<=1:=gj (b:=1) h1;have g2:r.den.length<=1:=gj (b:=1) h2;refine Rt.qbV h oz (H2 (b:=400) oz (fun hh=>?_) (by decide)) (H2 (b:=20) oz (fun hh=>?_) (by decide))
 ·rw[hh]at h3;exact gj (b:=400) h3
 ·rw[hh]at h4;exact gj (b:=20) h4
theorem M9{l:Li}{xs:List Tn}(h:dp l xs=0):ay l=0/\splitE l=0/\xs.length=l.dv.length/\∀x∈xs,x.err=0:=by
 unfold dp at h;split at h
 ·rename_i h1;exact absurd h h1
 ·rename_i h1;have h1:=Decidable.not_not.1 h1;unfold vu at h;split at h
  ·rename_i h2;exact absurd h h2
  ·rename_i h2;have h2:=Decidable.not_not.1 h2;split at h
   ·cases h
   ·rename_i h3;exact⟨h1,h2,Decidable.not_not.1 h3,fun x hx=>nD h _ (List.mem_map.2 ⟨x,hx,rfl⟩)⟩
theorem NT(gs:List Gr):gs.countP kT+gs.countP (fun g=>decide (g.kind=0))=gs.length:=by
 induction gs with
 |nil=>rfl
 |cons g gs ih =>
  rw[List.countP_cons,List.countP_cons,length_cons]
  by_cases hk:g.kind=0
  ·have h1 : kT g = false := by unfold kT; simp [hk]
   rw[h1];simp only[hk,decide_true,Bool.false_eq_true,if_false,if_true];omega
  ·have h1:kT g=true:=decide_eq_true hk;rw[h1];simp only[hk,decide_false,Bool.false_eq_true,if_false,if_true];omega
theorem AT{s g:Nat}:∀{n m y y' j r E:Nat},dY s g n y j r E=true->m<=n->y'<=y->dY s g m y' j r E=true
 |n,0,y,y',j,r,E,h,hm,hy=>by
  have h1:=tO h;exact decide_eq_true h1
 |n+1,m+1,y,y',j,r,E,h,hm,hy=>by
  have h1:=sC h;unfold dY;simp only[and_eq_true,or_eq_true,decide_eq_true_eq];refine⟨tO h,AT h1.2 oz hy,?_⟩
  by_cases hz:y'=0
  ·exact .inl hz
  ·right;obtain ⟨y2,rfl⟩:∃ y2,y = y2 + 1:=⟨y - 1,by omega⟩
   have h2:=ta h;exact⟨h2.1,AT h2.2 oz oz⟩
theorem H7{l:Li}{xs:List Tn}(hL:ft l xs=true)(hl:l.ok)(hxw:∀x∈xs,x.t.wok)(h0:dp l xs=0):∃s g,WkC l xs s g/\WkSt l s g (splitG l).length (fT l):=by
 obtain⟨hli,hsp,hln,hxe⟩:=M9 h0;unfold ft at hL;simp only[and_eq_true,decide_eq_true_eq]at hL;obtain⟨⟨_,_⟩,hT,hM,hR⟩:=hL;rw[all_eq_true]at hT hM;rw[if_pos hli]at hR;unfold uo at hR;rw[it,it,ig]at hR;have hdl:=K8 hli hsp;have hd2:=rZ hli;have hcn:=NT (splitG l)
 have hxo:∀x∈xs,x.t.ok/\Qb 32 x.t.q:=fun x hx=>by
  have h9:=hT x hx;unfold kf at h9;rw[decide_eq_true_eq]at h9;have ho:=(hxw x hx).ok h9.1 h9.2 oz;exact⟨ho,(Rt.qb ho (k:=1) oz h9.1 h9.2).mono oz⟩
 have hstart:∀(s g n y:Nat),dY s g n y 0 0 2=true->(splitG l).length<=n->(splitG l).countP kT<=y->WkSt l s g (splitG l).length (fT l):=fun s g n y ok h1 h2 =>
  ⟨⟨0,0,2,y,Q2 l,AT ok h1 (le_refl _),h2⟩,Nat.zero_add _⟩
 by_cases hn:(splitG l).length<=l.dv.length+1
 ·refine⟨32,134,⟨hl,hli,hsp,?_,hln,fun x hx=>?_⟩,hstart 32 134 3 1 Ub oz oz⟩
  ·intro b hb m hm;have h9:=hM b hb;rw[all_eq_true]at h9;have h8:=h9 m hm;unfold kc at h8;rw[decide_eq_true_eq]at h8;have ho:=(hl.bo b hb).pts m hm;exact⟨(Rt.qb ho.x (k:=1) oz h8.1 h8.2.1).mono oz,(Rt.qb ho.y (k:=1) oz h8.2.2.1 h8.2.2.2).mono oz⟩
  ·obtain⟨h1,h2⟩:=hxo x hx;exact⟨h1,hxe x hx,h2.mono oz,Cb.one (oi h2),Cb.one (qd h2)⟩
 ·have hlow:(splitG l).length=l.dv.length+2/\lR xs=true/\oQ l=true:=by
   simp only[or_eq_true,and_eq_true]at hR;rcases hR with(h9 |h9) |⟨h9,h8⟩
   ·rw[hsp]at h9;exact absurd h9 (by simp[aa])
   ·have : ((splitG l).length : Int) - l.dv.length <= 1 := by simpa [aa] using h9
    omega
   ·have : ((splitG l).length : Int) - l.dv.length = 2 := by simpa [aa] using h9
    exact⟨by omega,h8.1,h8.2⟩
  obtain⟨hlen,hlT,hlL⟩:=hlow;refine⟨9,42,⟨hl,hli,hsp,?_,hln,fun x hx=>?_⟩,hstart 9 42 4 2 Ox oz oz⟩
  ·intro b hb m hm;unfold oQ at hlL;rw[all_eq_true]at hlL;have h9:=hlL b hb;unfold q5 at h9;rw[all_eq_true]at h9;have h8:=h9 m hm;simp only[all_cons,List.all_nil,Bool.and_true,and_eq_true]at h8;have ho:=(hl.bo b hb).pts m hm;exact⟨xP ho.x h8.1,xP ho.y h8.2⟩
  ·obtain⟨h1,h2⟩:=hxo x hx;unfold lR at hlT;rw[all_eq_true]at hlT;have h8:=hlT x hx;simp only[all_cons,List.all_nil,Bool.and_true]at h8;have h9:=xP h1 h8;exact⟨h1,hxe x hx,h2.mono oz,Cb.one (oi h9),Cb.one (qd h9)⟩
structure SameJ(l' l:Li):Prop where
  j:l'.jo=l.jo
  d:l'.dv=l.dv
  b:l'.bo.length=l.bo.length
section
variable{l' l:Li}(h:SameJ l' l)
include h
theorem SameJ.jointI(kind body:Int)(oth:List Bool):jointI l' kind body oth=jointI l kind body oth:=by unfold Lw.jointI;rw[h.j]
theorem SameJ.freeB(k:List Bool)(i:Int):freeB l' k i=freeB l k i:=by unfold Lw.freeB k9;rw[h.d]
theorem SameJ.drHit(k:List Bool)(i:Nat):drHit l' k i=drHit l k i:=by unfold Lw.drHit;simp only[h.d,h.jointI]
theorem SameJ.driverG(k:List Bool):driverG l' k=driverG l k:=by unfold Lw.driverG;simp only[h.d,h.jointI,h.drHit]
theorem SameJ.prHit(k:List Bool)(i j:Nat):prHit l' k i j=prHit l k i j:=by unfold Lw.prHit;simp only[h.freeB,h.jointI,h.b]
theorem SameJ.prAt(k:List Bool)(i:Nat):prAt l' k i=prAt l k i:=by unfold Lw.prAt;simp only[h.prHit,h.b]
theorem SameJ.prG(k:List Bool)(i j:Nat):prG l' k i j=prG l k i j:=by unfold Lw.prG;simp only[h.jointI,h.b]
theorem SameJ.pairG(k:List Bool):pairG l' k=pairG l k:=by unfold Lw.pairG;simp only[h.prAt,h.prG,h.b]
theorem SameJ.sgHit(k:List Bool)(i:Nat):sgHit l' k i=sgHit l k i:=by unfold Lw.sgHit;simp only[h.freeB,h.jointI]
theorem SameJ.sgG(k:List Bool)(i:Nat):sgG l' k i=sgG l k i:=by unfold Lw.sgG;simp only[h.jointI,h.j]
theorem SameJ.singleG(k:List Bool):singleG l' k=singleG l k:=by
 unfold Lw.singleG;have e:Lw.sgG l' k=Lw.sgG l k:=funext (h.sgG k);simp only[h.sgHit,h.b,e]
theorem SameJ.nextG(k:List Bool):nextG l' k=nextG l k:=by unfold Lw.nextG;rw[h.driverG,h.pairG,h.singleG]
theorem SameJ.findFrom:∀(n:Nat)(k:List Bool)(out:List Gr),findFrom l' n k out=findFrom l n k out
 |0,k,out=>rfl
 |n+1,k,out=>by
  unfold Lw.findFrom;rw[h.nextG];cases Lw.nextG l k with
  |none=>rfl
  |some g=>exact SameJ.findFrom n _ _
theorem SameJ.findG:findG l'=findG l:=by unfold Lw.findG;rw[h.b,h.findFrom]
theorem SameJ.splitE:splitE l'=splitE l:=by unfold Lw.splitE bH dA;rw[h.findG,h.b,h.j]
theorem SameJ.splitG:splitG l'=splitG l:=by unfold Lw.splitG;rw[h.splitE,h.findG]
end
def Jt.vs(j:Jt):List Value:=[.string j.name,.int .i64 j.kind,.int .i64 j.a,.int .i64 j.point,.int .i64 j.b,.int .i64 j.on,.int .i64 j.to]
def Dr.vs(d:Dr):List Value:=[.string d.name,.int .i64 d.body]
structure Gr.sm(g:Gr):Prop where
  b:g.bo.length<=100
  j:g.jo.length<=100
theorem uN{l:Li}{xs:List Tn}(h:ft l xs=true)(hxw:∀x∈xs,x.t.wok):gK l=true/\xs.length<=20/\∀x∈xs,x.t.ok:=by
 unfold ft at h;simp only[and_eq_true,decide_eq_true_eq]at h;refine⟨h.1.1,h.1.2,fun x hx=>?_⟩;have h9:=List.all_eq_true.1 h.2.1 x hx;unfold kf at h9;rw[decide_eq_true_eq]at h9;exact(hxw x hx).ok h9.1 h9.2 oz
theorem PM{p:Bool}(h:cond (!true) true (!p)=false):p=true:=by cases p <;> simp_all
theorem xW{F:Int->Bool}{sg:Bool}{f:Sv->List Aq×Nat}{b:Aq}:∀{S:List Sv},b∈(eT F sg f S).1->∃s∈S,F s.mode=true/\b∈(f s).1
 |[],h=>by cases h
 |s::S,h=>by
  rw[ol]at h;split at h
  ·obtain⟨x,hx,h2⟩:=xW h;exact⟨x,mem_cons_of_mem _ hx,h2⟩
  ·rename_i hF;have hF:F s.mode = true:=by simpa using hF
   split at h
   ·exact⟨s,mem_cons_self,hF,h⟩
   ·split at h
    ·exact⟨s,mem_cons_self,hF,h⟩
    ·rcases List.mem_append.1 h with h |h
     ·exact⟨s,mem_cons_self,hF,h⟩
     ·obtain⟨x,hx,h2⟩:=xW h;exact⟨x,mem_cons_of_mem _ hx,h2⟩
open Lean.Grind (CommRing)
section
variable{r:(k:Nat)->T k}
def ff{n:Nat}(x:E r n):E r n:=T.inv r n x
theorem r6{n:Nat}(u:E r n)(h:Sg (E r n) (sg r n)):sg r (n+1) (bB u 0)=sg r n u:=by
 rw[jO,h.zero];unfold T.sgn3;split
 ·rfl
 ·rw[if_pos (.inr rfl)]
theorem TG{n:Nat}{x y:E r n}(hz:T.isZ n y=true):ff (bB x y:E r (n+1))=bB (ff x) 0:=by
 have e:y=T.zero n:=(T.isZ_iff n y).1 hz;subst e;have h:=T.inv_low r n x;show T.inv r (n+1) (x,T.zero n)=_;rw[h,E.zero_def];rfl
theorem Ir{n:Nat}{x y:E r n}(hz:T.isZ n y=false)(h0:sg r n (aL x y)=0):ff (bB x y:E r (n+1))=bB (ff (x+x)) 0:=by
 have h:=CY r (i:=n) (x:=((x,y):T n×T n)) hz h0;show T.inv r (n+1) (x,y)=_;rw[h,E.zero_def];rfl
theorem IY{n:Nat}{x y:E r n}(hz:T.isZ n y=false)(h0:sg r n (aL x y)≠0):ff (bB x y:E r (n+1))=bB (x*ff (aL x y)) (-y*ff (aL x y)):=by
 have h:=Dx r (i:=n) (x:=((x,y):T n×T n)) hz h0;exact h
theorem Ra{q:Rat}(hq:bA q≠0):bA ((1:Rat)/q*q+-(((1:Nat):Rat)))=0:=by
 have hq:q≠0:=by
  rintro rfl;exact hq (by decide +kernel)
 have e:(1:Rat)/q*q+-(((1:Nat):Rat))=0:=by
  rw[show(((1:Nat):Rat))=1 from rfl];grind
 rw[e];decide +kernel
theorem C9(r:(k:Nat)->T k):∀(n:Nat),eH r n->∀x:E r n,sg r n x≠0->sg r n (ff x*x-1)=0
 |0,hp,x,hx=>Ra (q:=x) hx
 |n+1,hp,z,hz=>by
  have hp':eH r n:=fun j hj=>hp j oz
  have h:=gk r n hp';have H:=gk r (n+1) hp;have ih:=C9 r n hp';obtain⟨x,y,rfl⟩:=jI z;cases hzy:T.isZ n y
  ·by_cases h0:sg r n (aL x y)=0
   ·rw[Ir hzy h0];have h2:=EV h (hp n oz) hz h0;have e1:=ih _ h2
    have c:sg r (n+1) (bB x (-y))=0:=by
     have m:=H.mul (bB x y) (bB x (-y))
     have e:(bB x y:E r (n+1))*bB x (-y)=bB (aL x y) 0:=by
      rw[j4];unfold aL;congr 1 <;> grind
     rw[e,r6 _ h,h0]at m;rcases Int.mul_eq_zero.1 m.symm with g |g
     ·exact absurd g hz
     ·exact g
    have e2:bB (ff (x+x)) 0*bB x y-(1:E r (n+1))=-(bB (ff (x+x)) 0*bB x (-y))+bB (ff (x+x)*(x+x)-1) 0:=by
     rw[uW,show ∀a b:E r (n+1),a-b=a+-b from fun a b=>by grind,j4,j4,rG,rG,nV,nV];congr 1 <;> grind
    rw[e2];have e3:sg r (n+1) (-(bB (ff (x+x)) 0*bB x (-y)))=0:=by rw[H.neg,H.mul,c];simp
    rw[H.zadd e3,r6 _ h];exact e1
   ·rw[IY hzy h0];have e1:=ih _ h0
    have e2:bB (x*ff (aL x y)) (-y*ff (aL x y))*bB x y-(1:E r (n+1))=bB (ff (aL x y)*aL x y-1) 0:=by
     rw[uW,show ∀a b:E r (n+1),a-b=a+-b from fun a b=>by grind,j4,rG,nV];generalize ff (aL x y)=i;unfold aL;congr 1 <;> grind
    rw[e2,r6 _ h];exact e1
  ·rw [TG hzy];have e:y = 0:=by rw [(T.isZ_iff n y).1 hzy,E.zero_def]
   subst e;rw[r6 _ h]at hz;have e1:=ih _ hz
   have e2:bB (ff x) 0*bB x 0-(1:E r (n+1))=bB (ff x*x-1) 0:=by
    rw[uW,show ∀a b:E r (n+1),a-b=a+-b from fun a b=>by grind,j4,rG,nV];congr 1 <;> grind
   rw[e2,r6 _ h];exact e1
end
section
variable{r:(k:Nat)->T k}{n:Nat}
def zS(h:eH r n):Setoid (E r n) where
  r x y:=sg r n (x-y)=0
  iseqv:=by
    have H:=gk r n h;refine⟨fun x=>?_,fun {x y} e=>?_,fun {x y z} e f=>?_⟩
    · rw[show x-x=0 by grind];exact H.zero
    · rw[show y-x=-(x-y) by grind,H.neg,e];rfl
    · rw[show x-z=(x-y)+(y-z) by grind,H.zadd e];exact f
def Zq(h:eH r n):Type:=Quotient (zS h)
def an(h:eH r n)(x:E r n):Zq h:=Quotient.mk (zS h) x
theorem kF(h:eH r n){x y:E r n}:an h x=an h y↔sg r n (x-y)=0 :=
 ⟨fun e=>Quotient.exact (s:=zS h) e,fun e=>Quotient.sound (s:=zS h) e⟩
instance (h:eH r n):Add (Zq h):=⟨Quotient.lift₂ (fun x y=>an h (x+y)) (by
  intro a b c d e f;have H:=gk r n h;refine(kF h).2 ?_;rw[show a+b-(c+d)=(a-c)+(b-d) by grind,H.zadd (show sg r n (a-c)=0 from e)];exact f)⟩
instance (h:eH r n):Mul (Zq h):=⟨Quotient.lift₂ (fun x y=>an h (x*y)) (by
  intro a b c d e f;have H:=gk r n h;refine(kF h).2 ?_;have e':sg r n (a-c)=0:=e;have f':sg r n (b-d)=0:=f;rw[show a*b-c*d=(a-c)*b+c*(b-d) by grind,H.zadd (by rw[H.mul,e'];simp),H.mul,f'];simp)⟩
instance (h:eH r n):Neg (Zq h):=⟨Quotient.lift (fun x=>an h (-x)) (by
  intro a c e;have H:=gk r n h;refine(kF h).2 ?_;have e':sg r n (a-c)=0:=e;rw[show -a - -c=-(a-c) by grind,H.neg,e'];rfl)⟩
instance (h:eH r n):_root_.Sub (Zq h):=⟨fun x y=>x+-y⟩
instance (h:eH r n)(c:Nat):OfNat (Zq h) c:=⟨an h (OfNat.ofNat c)⟩
instance (h:eH r n):NatCast (Zq h):=⟨fun c=>an h (c:E r n)⟩
instance (h:eH r n):IntCast (Zq h):=⟨fun c=>an h (c:E r n)⟩
instance (h:eH r n):SMul Nat (Zq h):=⟨fun c x=>an h (c:E r n)*x⟩
instance (h:eH r n):SMul Int (Zq h):=⟨fun c x=>an h (c:E r n)*x⟩
def Zq.pow{h:eH r n}(x:Zq h):Nat->Zq h
  |0=>an h 1
  |c+1=>Zq.pow x c*x
instance (h:eH r n):HPow (Zq h) Nat (Zq h):=⟨Zq.pow⟩
variable(h:eH r n)
theorem kG(x y:E r n):an h (x+y)=an h x+an h y:=rfl
theorem cw(x y:E r n):an h (x*y)=an h x*an h y:=rfl
theorem Rb(x:E r n):an h (-x)=-an h x:=rfl
theorem cO(x y:E r n):an h (x-y)=an h x-an h y:=by
 rw[show x-y=x+-y by grind];rfl
theorem d6(a:Zq h):∃x,a=an h x:=Quotient.ind (motive:=fun a=>∃x,a=an h x) (fun x=>⟨x,rfl⟩) a
instance zRing:CommRing (Zq h) where
  add_zero a:=by
    obtain⟨x,rfl⟩:=d6 h a;exact congrArg (an h) (show x+0=x by grind)
  add_comm a b:=by
    obtain⟨x,rfl⟩:=d6 h a;obtain⟨y,rfl⟩:=d6 h b;exact congrArg (an h) (show x+y=y+x by grind)
  add_assoc a b c:=by
    obtain⟨x,rfl⟩:=d6 h a;obtain⟨y,rfl⟩:=d6 h b;obtain⟨z,rfl⟩:=d6 h c;exact congrArg (an h) (show x+y+z=x+(y+z) by grind)
  mul_assoc a b c:=by
    obtain⟨x,rfl⟩:=d6 h a;obtain⟨y,rfl⟩:=d6 h b;obtain⟨z,rfl⟩:=d6 h c;exact congrArg (an h) (show x*y*z=x*(y*z) by grind)
  mul_one a:=by
    obtain⟨x,rfl⟩:=d6 h a;exact congrArg (an h) (show x*1=x by grind)
  one_mul a:=by
    obtain⟨x,rfl⟩:=d6 h a;exact congrArg (an h) (show 1*x=x by grind)
  left_distrib a b c:=by
    obtain⟨x,rfl⟩:=d6 h a;obtain⟨y,rfl⟩:=d6 h b;obtain⟨z,rfl⟩:=d6 h c;exact congrArg (an h) (show x*(y+z)=x*y+x*z by grind)
  right_distrib a b c:=by
    obtain⟨x,rfl⟩:=d6 h a;obtain⟨y,rfl⟩:=d6 h b;obtain⟨z,rfl⟩:=d6 h c;exact congrArg (an h) (show(x+y)*z=x*z+y*z by grind)
  zero_mul a:=by
    obtain⟨x,rfl⟩:=d6 h a;exact congrArg (an h) (show 0*x=0 by grind)
  mul_zero a:=by
    obtain⟨x,rfl⟩:=d6 h a;exact congrArg (an h) (show x*0=0 by grind)
  pow_zero a:=rfl
  pow_succ a c:=rfl
  ofNat_succ c:=congrArg (an h) (Lean.Grind.Semiring.ofNat_succ (α:=E r n) c)
  ofNat_eq_natCast c:=congrArg (an h) (Lean.Grind.Semiring.ofNat_eq_natCast (α:=E r n) c)
  nsmul_eq_natCast_mul c a:=rfl
  neg_add_cancel a:=by
    obtain⟨x,rfl⟩:=d6 h a;exact congrArg (an h) (show -x+x=0 by grind)
  sub_eq_add_neg a b:=rfl
  neg_zsmul i a:=by
    obtain⟨x,rfl⟩:=d6 h a
    exact congrArg (an h) (show((-i:Int):E r n)*x=-((i:E r n)*x) by
      rw[Lean.Grind.Ring.intCast_neg];grind)
  zsmul_natCast_eq_nsmul c a:=rfl
  intCast_ofNat c:=congrArg (an h) (Lean.Grind.Ring.intCast_ofNat (α:=E r n) c)
  intCast_neg i:=congrArg (an h) (Lean.Grind.Ring.intCast_neg (α:=E r n) i)
  mul_comm a b:=by
    obtain⟨x,rfl⟩:=d6 h a;obtain⟨y,rfl⟩:=d6 h b;exact congrArg (an h) (show x*y=y*x by grind)
theorem eO{x:E r n}:an h x=0↔sg r n x=0:=by
 have e:=kF h (x:=x) (y:=0);rw[show x-0=x by grind]at e;exact e
theorem xE{x:E r n}(hx:sg r n x≠0):an h (ff x)*an h x=1:=by
 have e:=(kF h (x:=ff x*x) (y:=1)).2 (C9 r n h x hx);exact e
theorem Il:an h (1:E r n)=1:=rfl
end
example {r:(k:Nat)->T k} {n:Nat} (h:eH r n) (a b c:Zq h) (e:a*b=1) (f:c*a=2):c=2*b:=by grind
end Go.Lw
namespace Go.Lw
open Lean.Grind (CommRing)
structure Hm{ts:LL}{R:Type}[CommRing R](f:Et ts->R):Prop where
  add:∀x y,f (x+y)=f x+f y
  mul:∀x y,f (x*y)=f x*f y
  neg:∀x,f (-x)=-f x
  one:f 1=1
  inv:∀x,ak x≠0->f (iE x)*f x=1
  zero:∀x,f x=0↔ak x=0
section
variable{ts:LL}{R:Type}[CommRing R]{f:Et ts->R}(h:Hm f)
include h
theorem Hm.sub(x y:Et ts):f (x-y)=f x-f y:=by
 rw[show x-y=x+-y by grind,h.add,h.neg];grind
theorem Hm.nul:f 0=0:=by
 have e:=h.add 0 0;rw[show(0:Et ts)+0=0 by grind]at e;grind
theorem Hm.q1:f (qE ((1:Int):Rat))=1:=by rw[kX];exact h.one
theorem Hm.q4:f (qE 4)=4:=by
 have e:(qE 4:Et ts)=1+1+1+1:=by
  have e1:=oY (r:=au ts) (n:=ts.length) 1 1;have e2:=oY (r:=au ts) (n:=ts.length) 2 2;rw[show(1:Rat)+1=2 by decide +kernel]at e1;rw[show(2:Rat)+2=4 by decide +kernel,e1]at e2;rw[e2];have e3:(qE 1:Et ts)=1:=rfl;rw[e3];grind
 rw[e,h.add,h.add,h.add,h.one];grind
end
abbrev iw(ts:LL):Prop:=eH (au ts) ts.length
theorem Kq{ts:LL}(hp:iw ts):Hm (an hp:Et ts->Zq hp) :=
 ⟨fun _ _=>rfl,fun _ _=>rfl,fun _=>rfl,rfl,fun x hx=>xE hp hx,fun x=>eO hp⟩
theorem Jr{ts:LL}(X:Et ts)(hp:iw (aG ts (sX X))):Hm (fun x:Et ts=>an hp (aK X x)) :=
  ⟨fun x y => by rw [pN]; rfl, fun x y => by rw [eA]; rfl, fun x => by rw [B2]; rfl,
   by have e := mJ X ((1 : Nat) : Rat)
      have e1:(qE ((1:Nat):Rat):Et ts)=1:=rfl;rw[e1]at e;rw[e];rfl,
   fun x hx=>by rw[n7];exact xE hp (by show ak (aK X x)≠0;rw[no];exact hx),
   fun x=>by rw[eO hp];show ak (aK X x)=0↔_;rw[no]⟩
theorem Sw(k:Nat):ae (k+1) (bY k)=(T.zero k,T.ofQ k 1):=by
 have h1:(bY k).take (2^k)=List.replicate (2^k) 0:=by
  unfold bY;rw[List.take_set_of_le (le_refl _),List.take_replicate];congr 1;have:=Nat.pow_lt_pow_right (a:=2) oz (Nat.lt_succ_self k);omega
 have h2:(bY k).drop (2^k)=(1:Rat)::List.replicate (2^k-1) 0:=by
  unfold bY;rw[List.drop_set,if_neg oz,Nat.sub_self,List.drop_replicate]
  have e:2^(k+1)-2^k=(2^k-1)+1:=by
   have h3:0<2^k:=Nat.pow_pos oz;have h4:2^(k+1)=2^k+2^k:=by rw[Nat.pow_succ];omega
   omega
  rw[e,List.replicate_succ,List.set_cons_zero]
 show(ae k _,ae k _)=_;rw[h1,h2]
 have e1:ae k (List.replicate (2^k) (0:Rat))=T.zero k:=by
  rw[<- je]
  exact nk k (fun i _=>by
   rw[getD_eq_getElem?_getD,getD_eq_getElem?_getD,getElem?_replicate];split <;> rfl)
 have e2:ae k ((1:Rat)::List.replicate (2^k-1) 0)=T.ofQ k 1:=by
  rw[<- ku]
  exact nk k (fun i _=>by
   cases i with
   |zero=>rfl
   |succ i =>
    rw[getD_eq_getElem?_getD,getD_eq_getElem?_getD,List.getElem?_cons_succ,getElem?_replicate];split <;> rfl)
 rw[e1,e2]
theorem Rc{n N:Nat}(hN:N=n+1){r:(k:Nat)->T k}(x:T n)(hx:r n=x):T.mul r N (ae N (bY n)) (ae N (bY n))=ik x:=by
 subst hN;rw[Sw,jl];show(T.add n (T.mul r n (T.zero n) (T.zero n)) (T.mul r n (T.mul r n (T.ofQ n 1) (T.ofQ n 1)) (r n)),T.add n (T.mul r n (T.zero n) (T.ofQ n 1)) (T.mul r n (T.ofQ n 1) (T.zero n)))=_;have L:=l9 r n;rw[L.one,L.one,T.zero_mul,T.zero_mul,T.zero_add,L.one,T.zero_add,hx]
theorem AN{ts:LL}(X:Et ts):bn X*bn X=aK X X:=by
 refine Rc (dm _ _) X ?_;show ae ts.length ((aG ts (sX X)).getD ts.length [])=X;rw[tG,rH];exact a7 _ _
section
variable{R:Type}[CommRing R]
theorem Kf{p1 p2 q1 q2 z z2 i t:R}(hi:i*(((p1-q1)*(p1-q1)+(p2-q2)*(p2-q2))+((p1-q1)*(p1-q1)+(p2-q2)*(p2-q2)))=1)
  (ht:t*t=4*(z*((p1-q1)*(p1-q1)+(p2-q2)*(p2-q2)))-((z+((p1-q1)*(p1-q1)+(p2-q2)*(p2-q2)))-z2)*((z+((p1-q1)*(p1-q1)+(p2-q2)*(p2-q2)))-z2))
  {x y:R} (hx:x=p1+((z+((p1-q1)*(p1-q1)+(p2-q2)*(p2-q2)))-z2)*i*(q1-p1)+t*(i*-(q2-p2))) (hy:y=p2+((z+((p1-q1)*(p1-q1)+(p2-q2)*(p2-q2)))-z2)*i*(q2-p2)+t*(i*(q1-p1))) :
  (x-p1)*(x-p1)+(y-p2)*(y-p2)=z/\(x-q1)*(x-q1)+(y-q2)*(y-q2)=z2:=by
 obtain⟨d,hd⟩:∃d,d=(p1-q1)*(p1-q1)+(p2-q2)*(p2-q2):=⟨_,rfl⟩
 rw[<- hd]at hi ht hx hy;obtain⟨a,ha⟩:∃a,a=z+d-z2:=⟨_,rfl⟩
 rw[<- ha]at ht hx hy;have e1:(x-p1)*(x-p1)+(y-p2)*(y-p2)=(a*a+t*t)*(i*i)*d:=by rw[hx,hy,hd];grind
 have e2:(a*a+t*t)*(i*i)*d=z:=by
  rw[ht];have:(a*a+(4*(z*d)-a*a))*(i*i)*d=z*(i*(d+d))*(i*(d+d)):=by grind
  rw[this,hi];grind
 have e3:(x-q1)*(x-q1)+(y-q2)*(y-q2)=((x-p1)*(x-p1)+(y-p2)*(y-p2))-a*(i*(d+d))+d:=by rw[hx,hy,hd];grind
 refine⟨e1.trans e2,?_⟩;rw[e3,e1,e2,hi,ha];grind
theorem TB(e t i S:R):(e+t)*i*S=(e+t)*(i*S):=by grind
theorem Ko(z i S W:R):i*S*z-i*(S*W)+W=z*(i*S)-(i*S)*W+W:=by grind
theorem Pj(z W:R):z*1-1*W+W=z:=by grind
theorem QR(x:R):x*1=x:=by grind
theorem Uy(k e t S:R):k*k*S-(k*e+k*e)=k*(k*S)-(k*e+k*e):=by grind
theorem LM(e t i:R):(e+t)*i*(e+t)-((e+t)*i*e+(e+t)*i*e)=i*(t*t-e*e):=by grind
theorem Jm{p1 p2 q1 q2 c1 c2 z i t k:R}(hi:i*((q1-p1)*(q1-p1)+(q2-p2)*(q2-p2))=1)
  (ht:t*t=((q1-p1)*(q1-p1)+(q2-p2)*(q2-p2))*z-((q1-p1)*(c2-p2)-(q2-p2)*(c1-p1))*((q1-p1)*(c2-p2)-(q2-p2)*(c1-p1)))
  (hk:k=((q1-p1)*(c1-p1)+(q2-p2)*(c2-p2)+t)*i)
  {x y:R} (hx:x=p1+k*(q1-p1)) (hy:y=p2+k*(q2-p2)) :
  (x-c1)*(x-c1)+(y-c2)*(y-c2)=z/\(q1-p1)*(y-p2)-(q2-p2)*(x-p1)=0:=by
 refine⟨?_,by rw[hx,hy];grind⟩;obtain⟨S,hS⟩:∃S,S=(q1-p1)*(q1-p1)+(q2-p2)*(q2-p2):=⟨_,rfl⟩
 obtain⟨e,he⟩:∃e,e=(q1-p1)*(c1-p1)+(q2-p2)*(c2-p2):=⟨_,rfl⟩
 obtain⟨C,hC⟩:∃C,C=(q1-p1)*(c2-p2)-(q2-p2)*(c1-p1):=⟨_,rfl⟩
 obtain⟨W,hW⟩:∃W,W=(c1-p1)*(c1-p1)+(c2-p2)*(c2-p2):=⟨_,rfl⟩
 rw[<- hS]at hi ht;rw[<- he]at hk;rw[<- hC]at ht;have e0:e*e+C*C=S*W:=by rw[he,hC,hS,hW];grind
 have e1:(x-c1)*(x-c1)+(y-c2)*(y-c2)=k*k*S-(k*e+k*e)+W:=by rw[hx,hy,hS,he,hW];grind
 have e2:k*S=e+t:=by rw[hk,TB,hi,QR]
 have e3:k*k*S-(k*e+k*e)+W=i*(t*t-e*e)+W:=by
  rw[Uy k e t S,e2,hk,LM]
 rw[e1,e3,ht];have:i*(S*z-C*C-e*e)+W=i*S*z-i*(e*e+C*C)+W:=by grind
 rw[this,e0,Ko,hi,Pj]
theorem Q8{W1 W2 N hh i t D w1 w2:R}(hD:D=W1*W1+W2*W2)(hi:i*D=1)(ht:t*t=N*D-hh*hh)
  (h1:w1=(t*W1-hh*-W2)*i) (h2:w2=(t*W2-hh*W1)*i):w1*w1+w2*w2=N/\w1*W2-w2*W1=hh:=by
 have e1:w1*w1+w2*w2=(t*t+hh*hh)*(i*D)*i:=by rw[h1,h2,hD];grind
 have e2:w1*W2-w2*W1=hh*(i*D):=by rw[h1,h2,hD];grind
 refine⟨?_,by rw[e2,hi];grind⟩;rw[e1,ht,hi];have:(N*D-hh*hh+hh*hh)*1*i=N*(i*D):=by grind
 rw[this,hi];grind
theorem Hi{u1 u2 w1 w2 n i c s:R}(hn:n=u1*u1+u2*u2)(hi:i*n=1)(hc:c=(u1*w1+u2*w2)*i)(hs:s=(u1*w2-u2*w1)*i) :
  (c*u1-s*u2=w1/\s*u1+c*u2=w2)/\(w1*w1+w2*w2=n->c*c+s*s=1):=by
 have e1:c*u1-s*u2=w1*(i*n):=by rw[hc,hs,hn];grind
 have e2:s*u1+c*u2=w2*(i*n):=by rw[hc,hs,hn];grind
 refine⟨⟨by rw[e1,hi];grind,by rw[e2,hi];grind⟩,fun hw=>?_⟩;have e3:c*c+s*s=(w1*w1+w2*w2)*(i*n)*i:=by rw[hc,hs,hn];grind
 rw[e3,hw,hi];rw[show n*1*i=i*n by grind,hi]
end
end Go.Lw
namespace Go.Lw
open Lean.Grind (CommRing)
def aP{ts:LL}(T:LL)(y:Et ts):Et T:=dE T (sX y)
structure Lf(ts T:LL):Prop where
  pos:iw T
  hm:Hm (fun y:Et ts=>an pos (aP T y))
  low:∀l:List Rat,l.length<=2^ts.length->aP T (dE ts l)=dE T l
  q:∀q:Rat,aP T (qE q:Et ts)=qE q
  len:ts.length<=T.length
  sg:∀y:Et ts,ak (aP T y)=ak y
  ad:∀x y:Et ts,aP T (x+y)=aP T x+aP T y
  mu:∀x y:Et ts,aP T (x*y)=aP T x*aP T y
theorem ek{ts:LL}(y:Et ts):aP ts y=y:=a7 _ _
theorem wm{ts:LL}(hp:iw ts):Lf ts ts:=by
 refine⟨hp,?_,fun l _=>ek _,fun q=>ek _,le_refl _,fun y=>by rw[ek],fun x y=>by rw[ek,ek,ek],fun x y=>by rw[ek,ek,ek]⟩;have e:(fun y:Et ts=>an hp (aP ts y))=an hp:=funext fun y=>by rw[ek]
 rw[e];exact Kq hp
theorem Sk{n N:Nat}(hN:N=n+1){l:List Rat}(h:l.length<=2^n):ae N (sh n (ae n l))=ae N l:=by
 subst hN;rw[gN (dZ n _).le,a7,gN h]
theorem Ad{ts:LL}(X:Et ts)(hp:iw (aG ts (sX X))):Lf ts (aG ts (sX X)) :=
 ⟨hp,Jr X hp,fun l h=>Sk (dm _ _) h,fun q=>mJ X q,by rw[dm];omega,fun y=>no,fun x y=>pN X x y,fun x y=>eA X x y⟩
structure CirG(ts T:LL)(x:List Rat×List Rat)(p q:P2 ts)(z z2:Et ts):Prop where
  lf:Lf ts T
  c1:ak ((dE T x.1-aP T p.1)*(dE T x.1-aP T p.1)+(dE T x.2-aP T p.2)*(dE T x.2-aP T p.2)-aP T z)=0
  c2:ak ((dE T x.1-aP T q.1)*(dE T x.1-aP T q.1)+(dE T x.2-aP T q.2)*(dE T x.2-aP T q.2)-aP T z2)=0
section
variable{ts:LL}
theorem Mu{R:Type}[CommRing R]{f:Et ts->R}(h:Hm f)(p q:P2 ts):f (aD p q)=(f p.1-f q.1)*(f p.1-f q.1)+(f p.2-f q.2)*(f p.2-f q.2):=by
 show f ((p.1-q.1)*(p.1-q.1)+(p.2-q.2)*(p.2-q.2))=_;rw[h.add,h.mul,h.mul,h.sub,h.sub]
theorem LB{R:Type}[CommRing R]{f:Et ts->R}(h:Hm f)(p q:P2 ts)(z z2:Et ts){D:R}(hD:f (aD p q)=D):f (bu p z q z2)=4*(f z*D)-((f z+D)-f z2)*((f z+D)-f z2):=by
 subst hD;unfold bu;rw[h.sub,h.mul,h.mul,h.mul,h.sub,h.add,h.q4]
theorem KY{R:Type}[CommRing R]{f:Et ts->R}(h:Hm f){p q:P2 ts}{z z2:Et ts}(hd2:ak (aD p q+aD p q)≠0){t:R}(ht:t*t=f (bu p z q z2)){x y:R}
  (hx:x=f (eF p q z z2).1+t*f (jZ p q).1) (hy:y=f (eF p q z z2).2+t*f (jZ p q).2) :
  (x-f p.1)*(x-f p.1)+(y-f p.2)*(y-f p.2)=f z/\(x-f q.1)*(x-f q.1)+(y-f q.2)*(y-f q.2)=f z2:=by
 have d:=Mu h p q;have hi:=h.inv _ hd2;rw[h.add,d]at hi;rw[LB h p q z z2 d]at ht;refine Kf hi ht ?_ ?_
 ·rw[hx,G1];unfold dF jZ;dsimp only;show f (p.1+qE ((1:Int):Rat)*iE (aD p q+aD p q)*(z+aD p q-z2)*(q.1-p.1))+t*f (qE ((1:Int):Rat)*iE (aD p q+aD p q)*(0-(q.2-p.2)))=_;simp only[h.add,h.mul,h.sub,h.q1,h.nul,d];generalize(f p.1-f q.1)*(f p.1-f q.1)+(f p.2-f q.2)*(f p.2-f q.2)=D;generalize f (iE (aD p q+aD p q))=i;clear ht hi hx hy;grind
 ·rw[hy,G1];unfold dF jZ;dsimp only;show f (p.2+qE ((1:Int):Rat)*iE (aD p q+aD p q)*(z+aD p q-z2)*(q.2-p.2))+t*f (qE ((1:Int):Rat)*iE (aD p q+aD p q)*(q.1-p.1))=_;simp only[h.add,h.mul,h.sub,h.q1,d];generalize(f p.1-f q.1)*(f p.1-f q.1)+(f p.2-f q.2)*(f p.2-f q.2)=D;generalize f (iE (aD p q+aD p q))=i;clear ht hi hx hy;grind
theorem Oa{r:Nat}(tw:Tw ts r){d:Et ts}(hd:ak d≠0):ak (d+d)≠0:=by
 rw[<- zV,uB tw];exact hd
theorem wU{T:LL}(L:Lf ts T){x:List Rat×List Rat}{p q:P2 ts}{z z2:Et ts}(hd2:ak (aD p q+aD p q)≠0){t:Et T}(ht:an L.pos (t*t)=an L.pos (aP T (bu p z q z2)))
  (hx:dE T x.1=aP T (eF p q z z2).1+t*aP T (jZ p q).1) (hy:dE T x.2=aP T (eF p q z z2).2+t*aP T (jZ p q).2):CirG ts T x p q z z2:=by
 have g:=KY L.hm hd2 (t:=an L.pos t) ht (x:=an L.pos (dE T x.1)) (y:=an L.pos (dE T x.2)) (by rw[hx];rfl) (by rw[hy];rfl);refine⟨L,?_,?_⟩
 ·refine(eO L.pos).1 ?_;rw[cO,kG,cw,cw,cO,cO];have:=g.1;generalize an L.pos (aP T z)=Z at *;generalize an L.pos (aP T p.1)=P1 at *;generalize an L.pos (aP T p.2)=P2 at *;rw[this];grind
 ·refine(eO L.pos).1 ?_;rw[cO,kG,cw,cw,cO,cO];have:=g.2;rw[this];grind
theorem iF{T:LL}(y:Et T):dE T (sX y)=y:=a7 _ _
theorem NG{r:Nat}(tw:Tw ts r)(hx4:∀X:Et ts,0<ak X->iw (aG ts (sX X))){p q:P2 ts}{z z2:Et ts}(h0:fu p q z z2=0)(hz:0<ak z) :
  ∀x∈(eJ p q z z2).ps,CirG ts (eJ p q z z2).ts x p q z z2:=by
 intro x;unfold fu lg at h0;unfold eJ;split
 ·rename_i hd;rw[if_pos hd]at h0;unfold lB;split
  ·intro hx;cases hx
  ·intro hx;cases hx
 ·rename_i hd;have hd2:=Oa tw hd;split
  ·intro hx;cases hx
  ·rename_i hn;split
   ·rename_i hX;intro hx;rw[List.mem_singleton.1 hx];have hp:iw ts:=tw.pos;refine wU (wm hp) hd2 (t:=0) ?_ ?_ ?_
    ·refine((eO hp).2 ?_).trans ((eO hp).2 ?_).symm
     ·rw[show(0:Et ts)*0=0 by grind];exact(gk _ _ hp).zero
     ·rw[ek];exact hX
    ·rw[ek,ek,iF];grind
    ·rw[ek,ek,iF];grind
   ·rename_i hX;have hX1:0 < ak (bu p z q z2):=by omega
    have hp:=hx4 _ hX1;intro hx;have L:=Ad (bu p z q z2) hp;have e:=AN (bu p z q z2);rcases List.mem_cons.1 hx with rfl |hx
    ·refine wU L hd2 (t := bn (bu p z q z2)) (by rw [e]; rfl) ?_ ?_
     ·rw[iF];exact congrArg Prod.fst (AM (bu p z q z2) (eF p q z z2) p q)
     ·rw[iF];exact congrArg Prod.snd (AM (bu p z q z2) (eF p q z z2) p q)
    ·rw [List.mem_singleton.1 hx];refine wU L hd2 (t:=-bn (bu p z q z2)) (by rw [show -bn (bu p z q z2) * -bn (bu p z q z2) = bn (bu p z q z2) * bn (bu p z q z2) by grind,e]; rfl) ?_ ?_
     ·rw[iF,congrArg Prod.fst (HE (bu p z q z2) (eF p q z z2) p q)];show aK _ _-_*aK _ _=aK _ _+-_*aK _ _;grind
     ·rw[iF,congrArg Prod.snd (HE (bu p z q z2) (eF p q z z2) p q)];show aK _ _-_*aK _ _=aK _ _+-_*aK _ _;grind
structure LinG(ts T:LL)(x:List Rat×List Rat)(p q c:P2 ts)(z:Et ts):Prop where
  lf:Lf ts T
  c:ak ((dE T x.1-aP T c.1)*(dE T x.1-aP T c.1)+(dE T x.2-aP T c.2)*(dE T x.2-aP T c.2)-aP T z)=0
  l:ak ((aP T q.1-aP T p.1)*(dE T x.2-aP T p.2)-(aP T q.2-aP T p.2)*(dE T x.1-aP T p.1))=0
theorem M6{R:Type}[CommRing R]{f:Et ts->R}(h:Hm f){p q c:P2 ts}{z:Et ts}(hd:ak (bp p q)≠0){t:R}(ht:t*t=f (aT p q c z)){x y:R}
  (hx:x=f (dF p (bN p q c*iE (bp p q)) (br q p)).1+t*f (jx p q).1) (hy:y=f (dF p (bN p q c*iE (bp p q)) (br q p)).2+t*f (jx p q).2) :
  (x-f c.1)*(x-f c.1)+(y-f c.2)*(y-f c.2)=f z/\(f q.1-f p.1)*(y-f p.2)-(f q.2-f p.2)*(x-f p.1)=0:=by
 have hi:=h.inv _ hd
 have eS:f (bp p q)=(f q.1-f p.1)*(f q.1-f p.1)+(f q.2-f p.2)*(f q.2-f p.2):=by
  show f ((q.1-p.1)*(q.1-p.1)+(q.2-p.2)*(q.2-p.2))=_;simp only[h.add,h.mul,h.sub]
 have eE:f (bN p q c)=(f q.1-f p.1)*(f c.1-f p.1)+(f q.2-f p.2)*(f c.2-f p.2):=by
  show f ((q.1-p.1)*(c.1-p.1)+(q.2-p.2)*(c.2-p.2))=_;simp only[h.add,h.mul,h.sub]
 have eC:f (gY p q c)=(f q.1-f p.1)*(f c.2-f p.2)-(f q.2-f p.2)*(f c.1-f p.1):=by
  show f ((q.1-p.1)*(c.2-p.2)-(q.2-p.2)*(c.1-p.1))=_;simp only[h.mul,h.sub]
 have eX:f (aT p q c z)=f (bp p q)*f z-f (gY p q c)*f (gY p q c):=by
  show f (bp p q*z-gY p q c*gY p q c)=_;simp only[h.mul,h.sub]
 rw[eX,eC,eS]at ht;rw[eS]at hi;refine Jm hi ht (k:=(f (bN p q c)+t)*f (iE (bp p q))) (by rw[eE]) ?_ ?_
 ·rw[hx];unfold dF jx;show f (p.1+bN p q c*iE (bp p q)*(q.1-p.1))+t*f (qE ((1:Int):Rat)*iE (bp p q)*(q.1-p.1))=_;simp only[h.add,h.mul,h.sub,h.q1];generalize f (iE (bp p q))=i;generalize f (bN p q c)=e;clear ht hi hx hy eS eE eC eX;grind
 ·rw[hy];unfold dF jx;show f (p.2+bN p q c*iE (bp p q)*(q.2-p.2))+t*f (qE ((1:Int):Rat)*iE (bp p q)*(q.2-p.2))=_;simp only[h.add,h.mul,h.sub,h.q1];generalize f (iE (bp p q))=i;generalize f (bN p q c)=e;clear ht hi hx hy eS eE eC eX;grind
theorem wR{T:LL}(L:Lf ts T){x:List Rat×List Rat}{p q c:P2 ts}{z:Et ts}(hd:ak (bp p q)≠0){t:Et T}(ht:an L.pos (t*t)=an L.pos (aP T (aT p q c z)))
  (hx:dE T x.1=aP T (dF p (bN p q c*iE (bp p q)) (br q p)).1+t*aP T (jx p q).1) (hy:dE T x.2=aP T (dF p (bN p q c*iE (bp p q)) (br q p)).2+t*aP T (jx p q).2):LinG ts T x p q c z:=by
 have g:=M6 L.hm hd (t:=an L.pos t) ht (x:=an L.pos (dE T x.1)) (y:=an L.pos (dE T x.2)) (by rw[hx];rfl) (by rw[hy];rfl);refine⟨L,?_,?_⟩
 ·refine(eO L.pos).1 ?_;rw[cO,kG,cw,cw,cO,cO];have:=g.1;rw[this];grind
 ·refine(eO L.pos).1 ?_;rw[cO,cw,cw,cO,cO,cO,cO];exact g.2
theorem Mf{r:Nat}(tw:Tw ts r)(hx4:∀X:Et ts,0<ak X->iw (aG ts (sX X))){p q c:P2 ts}{z:Et ts}(h0:fF p q=0) :
  ∀x∈(eG p q c z).ps,LinG ts (eG p q c z).ts x p q c z:=by
 intro x;unfold fF at h0;unfold eG;split
 ·intro hx;cases hx
 ·rename_i hd;split
  ·intro hx;cases hx
  ·rename_i hn;split
   ·rename_i hX;intro hx;rw[List.mem_singleton.1 hx];have hp:iw ts:=tw.pos;refine wR (wm hp) hd (t:=0) ?_ ?_ ?_
    ·refine((eO hp).2 ?_).trans ((eO hp).2 ?_).symm
     ·rw[show(0:Et ts)*0=0 by grind];exact(gk _ _ hp).zero
     ·rw[ek];exact hX
    ·rw[ek,ek,iF];grind
    ·rw[ek,ek,iF];grind
   ·rename_i hX
    have hX1:0<ak (aT p q c z):=by
     rcases(gk _ _ tw.pos).cs (aT p q c z)with g |g |g
     ·exact absurd g hn
     ·exact absurd g hX
     ·show 0<sg _ _ _;rw[g];decide
    have hp:=hx4 _ hX1;intro hx;have L:=Ad (aT p q c z) hp;have e:=AN (aT p q c z);rcases List.mem_cons.1 hx with rfl |hx
    ·refine wR L hd (t := bn (aT p q c z)) (by rw [e]; rfl) ?_ ?_
     ·rw[iF];exact congrArg Prod.fst (El (aT p q c z) p q c)
     ·rw[iF];exact congrArg Prod.snd (El (aT p q c z) p q c)
    ·rw [List.mem_singleton.1 hx];refine wR L hd (t:=-bn (aT p q c z)) (by rw [show -bn (aT p q c z) * -bn (aT p q c z) = bn (aT p q c z) * bn (aT p q c z) by grind,e]; rfl) ?_ ?_
     ·rw[iF,congrArg Prod.fst (G5 (aT p q c z) p q c)];show aK _ _-_*aK _ _=aK _ _+-_*aK _ _;grind
     ·rw[iF,congrArg Prod.snd (G5 (aT p q c z) p q c)];show aK _ _-_*aK _ _=aK _ _+-_*aK _ _;grind
end
end Go.Lw
namespace Go.Lw
open Lean.Grind (CommRing)
theorem xF{ts:LL}(hp:iw ts){X:Et ts}(h:0<ak X):iw (aG ts (sX X)):=by
 intro j hj;rw[dm]at hj;rw[yS oz];rcases lt_or_ge j ts.length with h9 |h9
 ·rw[v9 h9];exact hp j h9
 ·have : j = ts.length := by omega
  subst this
  have e1:au (aG ts (sX X)) ts.length=X:=by
   show ae ts.length ((aG ts (sX X)).getD ts.length [])=_;rw[tG,rH];exact a7 _ _
  rw[e1];exact Int.le_of_lt h
def e8(T:LL)(p:Pq)(m:Rat×Rat):P2 T:=(dE T p.c*qE m.1-dE T p.s*qE m.2+dE T p.x,dE T p.s*qE m.1+dE T p.c*qE m.2+dE T p.y)
def CH(T:LL)(p:Pq):Prop:=ak (dE T p.c*dE T p.c+dE T p.s*dE T p.s-1)=0
def bb(l:Li)(T:LL)(bs:List Pq)(b pt:Int):P2 T:=e8 T (bs.getD b.toNat bc) (aX l b pt)
def JH(l:Li)(T:LL)(bs:List Pq)(j:Jt):Prop :=
  if j.kind=0 then ak ((bb l T bs j.a j.point).1-(bb l T bs j.b j.on).1)=0/\ak ((bb l T bs j.a j.point).2-(bb l T bs j.b j.on).2)=0
  else ak (tU (br (bb l T bs j.b j.to) (bb l T bs j.b j.on)) (br (bb l T bs j.a j.point) (bb l T bs j.b j.on)))=0
theorem Gg{ts:LL}{q:Rat}(h:q≠0):(iE (qE q)*qE q:Et ts)=1:=by
 have e:(iE (qE q):Et ts)=qE (1/q):=vP (au ts) ts.length q;rw[e,<- lV,show 1/q*q=((1:Nat):Rat) by rw[show(((1:Nat):Rat))=1 from rfl];grind];rfl
section
variable{T:LL}{u p c:Rat×Rat}{w o:P2 T}
theorem tu:dE T (gB u w p o).c=dg u w:=a7 _ _
theorem u7:dE T (gB u w p o).s=da u w:=a7 _ _
theorem KD:dE T (gB u w p o).x=pg u w p o:=a7 _ _
theorem Ua:dE T (gB u w p o).y=qk u w p o:=a7 _ _
theorem vr(m:Rat×Rat):e8 T (gB u w p o) m=(o.1+(dg u w*qE (m.1-p.1)-da u w*qE (m.2-p.2)),o.2+(da u w*qE (m.1-p.1)+dg u w*qE (m.2-p.2))):=by
 unfold e8;rw[tu,u7,KD,Ua,rE,rE];unfold pg qk;refine Prod.ext ?_ ?_
 ·dsimp only;grind
 ·dsimp only;grind
theorem sD:e8 T (gB u w p o) p=o:=by
 rw[vr,show p.1-p.1=0 by grind,show p.2-p.2=0 by grind,wM];refine Prod.ext ?_ ?_
 ·dsimp only;grind
 ·dsimp only;grind
theorem HR(h:bQ u u≠0):(dg u w*qE u.1-da u w*qE u.2=w.1/\da u w*qE u.1+dg u w*qE u.2=w.2):=by
 have hn:(jC u:Et T)=qE u.1*qE u.1+qE u.2*qE u.2:=by
  show qE (u.1*u.1+u.2*u.2)=_;rw[oY,lV,lV]
 exact(Hi hn (Gg h) rfl rfl).1
theorem zK(h:bQ (bW c p) (bW c p)≠0):e8 T (gB (bW c p) w p o) c=(o.1+w.1,o.2+w.2):=by
 rw[vr];have g:=HR (w:=w) h;have e1:(qE (c.1-p.1):Et T)=qE (bW c p).1:=rfl;have e2:(qE (c.2-p.2):Et T)=qE (bW c p).2:=rfl;rw[e1,e2,g.1,g.2]
theorem wh(hp:iw T)(h:bQ u u≠0)(hw:ak (w.1*w.1+w.2*w.2-qE (bQ u u))=0):CH T (gB u w p o):=by
 unfold CH;rw[tu,u7]
 have hn:(jC u:Et T)=qE u.1*qE u.1+qE u.2*qE u.2:=by
  show qE (u.1*u.1+u.2*u.2)=_;rw[oY,lV,lV]
 have hi:(iE (jC u)*jC u:Et T)=1:=Gg h;have e:=congrArg (an hp) hn;have ei:=congrArg (an hp) hi;have ew:an hp w.1*an hp w.1+an hp w.2*an hp w.2=an hp (jC u):=(kF hp (x:=w.1*w.1+w.2*w.2) (y:=jC u)).2 hw;have g:=(Hi (R:=Zq hp) (n:=an hp (jC u)) (i:=an hp (iE (jC u))) (u1:=an hp (qE u.1)) (u2:=an hp (qE u.2)) (c:=an hp (dg u w)) (s:=an hp (da u w)) (w1:=an hp w.1) (w2:=an hp w.2) e ei rfl (by unfold da;rw[cw,cO,cw,cw])).2 ew;refine(kF hp (x:=dg u w*dg u w+da u w*da u w) (y:=1)).1 ?_;exact g
end
def a8(a:As):List Pq:=a.bs.map fun b=>⟨lq b.c,lq b.s,lq b.x,lq b.y⟩
theorem wD(q:Aq):a8 q.as=q.bs:=by
 unfold a8 Aq.as;rw[map_map]
 conv=>rhs;rw[<- List.map_id q.bs]
 refine List.map_congr_left fun p _=>?_
 show(⟨lq (p.c.map rt),lq (p.s.map rt),lq (p.x.map rt),lq (p.y.map rt)⟩:Pq)=p;rw[dM,dM,dM,dM]
theorem oo(l:Li)(a:As)(b pt:Int):bC l a b pt=bb l (llq a.rs) (a8 a) b pt:=by
 have e:(a8 a).getD b.toNat bc=⟨lq (a.bs.getD b.toNat default).c,lq (a.bs.getD b.toNat default).s,lq (a.bs.getD b.toNat default).x,lq (a.bs.getD b.toNat default).y⟩:=by
  unfold a8;rw[getD_eq_getElem?_getD,getD_eq_getElem?_getD,getElem?_map];cases a.bs[b.toNat]? <;> rfl
 unfold bb;rw[e];rfl
def Nq(n:Nat)(p:Pq):Prop:=p.c.length<=2^n/\p.s.length<=2^n/\p.x.length<=2^n/\p.y.length<=2^n
section
variable{ts T:LL}(L:Lf ts T)
include L
theorem Lf.add(x y:Et ts):an L.pos (aP T (x+y))=an L.pos (aP T x)+an L.pos (aP T y):=L.hm.add x y
theorem Lf.mul(x y:Et ts):an L.pos (aP T (x*y))=an L.pos (aP T x)*an L.pos (aP T y):=L.hm.mul x y
theorem Lf.sub(x y:Et ts):an L.pos (aP T (x-y))=an L.pos (aP T x)-an L.pos (aP T y):=L.hm.sub x y
theorem Lf.one:an L.pos (aP T (1:Et ts))=1:=L.hm.one
theorem Lf.at{p:Pq}(hp:Nq ts.length p)(m:Rat×Rat):an L.pos (e8 T p m).1=an L.pos (aP T (e8 ts p m).1)/\an L.pos (e8 T p m).2=an L.pos (aP T (e8 ts p m).2):=by
 obtain⟨h1,h2,h3,h4⟩:=hp;unfold e8;dsimp only;constructor
 ·rw[L.add,L.sub,L.mul,L.mul,L.low _ h1,L.low _ h2,L.low _ h3,L.q,L.q,kG,cO,cw,cw]
 ·rw[L.add,L.add,L.mul,L.mul,L.low _ h1,L.low _ h2,L.low _ h4,L.q,L.q,kG,kG,cw,cw]
theorem Lf.zero(x:Et ts):ak (aP T x)=0↔ak x=0:=(eO L.pos).symm.trans (L.hm.zero x)
theorem Lf.ch{p:Pq}(hp:Nq ts.length p)(h:CH ts p):CH T p:=by
 obtain⟨h1,h2,h3,h4⟩:=hp;have e:=(L.zero _).2 h;have e1:=(eO L.pos).2 e;refine(eO L.pos).1 ?_;rw[L.sub,L.add,L.mul,L.mul,L.low _ h1,L.low _ h2,L.one]at e1;rw[cO,kG,cw,cw];exact e1
end
end Go.Lw
namespace Go.Lw
open Lean.Grind (CommRing)
def jF(bs bs':List Pq)(n:Nat)(b:Int):Prop:=bs'.getD b.toNat bc=bs.getD b.toNat bc/\Nq n (bs.getD b.toNat bc)
section
variable{ts T:LL}(L:Lf ts T)
include L
theorem Lf.pt(l:Li){bs bs':List Pq}{b:Int}(h:jF bs bs' ts.length b)(pt:Int) :
  an L.pos (bb l T bs' b pt).1=an L.pos (aP T (bb l ts bs b pt).1)/\an L.pos (bb l T bs' b pt).2=an L.pos (aP T (bb l ts bs b pt).2):=by
 unfold bb;rw[h.1];exact L.at h.2 _
end
section
variable{T:LL}(hp:iw T)
include hp
theorem uV{l:Li}{bs:List Pq}{j:Jt}(hk:j.kind=0)(h1:an hp (bb l T bs j.a j.point).1=an hp (bb l T bs j.b j.on).1)(h2:an hp (bb l T bs j.a j.point).2=an hp (bb l T bs j.b j.on).2):JH l T bs j:=by
 unfold JH;rw[if_pos hk];exact⟨(kF hp).1 h1,(kF hp).1 h2⟩
theorem AF{l:Li}{bs:List Pq}{j:Jt}(hk:j.kind≠0)
  (h:(an hp (bb l T bs j.b j.to).1-an hp (bb l T bs j.b j.on).1)*(an hp (bb l T bs j.a j.point).2-an hp (bb l T bs j.b j.on).2)-(an hp (bb l T bs j.b j.to).2-an hp (bb l T bs j.b j.on).2)*(an hp (bb l T bs j.a j.point).1-an hp (bb l T bs j.b j.on).1)=0):JH l T bs j:=by
 unfold JH;rw[if_neg hk];refine(eO hp).1 ?_;unfold tU crsE br;dsimp only;rw[cO,cw,cw,cO,cO,cO,cO];exact h
end
section
variable{ts T:LL}(L:Lf ts T)
include L
theorem Lf.jh{l:Li}{bs bs':List Pq}{j:Jt}(ha:jF bs bs' ts.length j.a)(hb:jF bs bs' ts.length j.b)(h:JH l ts bs j):JH l T bs' j:=by
 have a:=L.pt l ha;have b:=L.pt l hb
 by_cases hk:j.kind=0
 ·unfold JH at h;rw[if_pos hk]at h;have e1:=(eO L.pos).2 ((L.zero _).2 h.1);have e2:=(eO L.pos).2 ((L.zero _).2 h.2);rw[L.sub]at e1 e2;refine uV L.pos hk ?_ ?_
  ·rw[(a _).1,(b _).1];grind
  ·rw[(a _).2,(b _).2];grind
 ·unfold JH at h;rw[if_neg hk]at h;have e1:=(eO L.pos).2 ((L.zero _).2 h);unfold tU crsE br at e1;dsimp only at e1;simp only[L.sub,L.mul]at e1;refine AF L.pos hk ?_;rw[(a _).1,(a _).2,(b _).1,(b _).2,(b _).1,(b _).2];exact e1
end
section
variable{l:Li}{a:As}{T:LL}(L:Lf (llq a.rs) T)
include L
theorem Lf.pin{bs':List Pq}{j:Jt}{i:Int}(hk:j.kind=0)(tie:(j.a=i/\jF (a8 a) bs' (llq a.rs).length j.b)\/(j.a≠i/\j.b=i/\jF (a8 a) bs' (llq a.rs).length j.a))
  (h:e8 T (bs'.getD i.toNat bc) (aj l j i)=(aP T (aM l a j i).1,aP T (aM l a j i).2)):JH l T bs' j:=by
 have h1:=congrArg Prod.fst h;have h2:=congrArg Prod.snd h;dsimp only at h1 h2;rcases tie with⟨e,hs⟩ |⟨e,e2,hs⟩
 ·have b:=L.pt l hs j.on;unfold aj aM at h1 h2;simp only[if_pos e]at h1 h2;rw[oo]at h1 h2;refine uV L.pos hk ?_ ?_
  ·rw[b.1];unfold bb;rw[e];exact congrArg (an L.pos) h1
  ·rw[b.2];unfold bb;rw[e];exact congrArg (an L.pos) h2
 ·have b:=L.pt l hs j.point;unfold aj aM at h1 h2;simp only[if_neg e]at h1 h2;rw[oo]at h1 h2;refine uV L.pos hk ?_ ?_
  ·rw[b.1]
   conv=>rhs;unfold bb
   rw[e2];exact(congrArg (an L.pos) h1).symm
  ·rw[b.2]
   conv=>rhs;unfold bb
   rw[e2];exact(congrArg (an L.pos) h2).symm
end
theorem oc{bs:List Pq}{i k:Int}{p:Pq}(hi:0<=i)(hk:0<=k)(h:k≠i):(bs.set i.toNat p).getD k.toNat bc=bs.getD k.toNat bc:=by
 rw[getD_eq_getElem?_getD,getD_eq_getElem?_getD,List.getElem?_set_ne oz]
theorem oP{bs:List Pq}{i:Nat}{p:Pq}(h:i<bs.length):(bs.set i p).getD i bc=p:=by
 rw[getD_eq_getElem?_getD,List.getElem?_set_self h];rfl
theorem Ls(n:Nat):Nq n bc:=⟨zero_le _,zero_le _,zero_le _,zero_le _⟩
theorem BP{bs:List Pq}{n:Nat}(h:∀p∈bs,Nq n p)(i:Nat):Nq n (bs.getD i bc):=by
 rw[getD_eq_getElem?_getD];cases e:bs[i]? with
 |none=>exact Ls n
 |some p=>exact h p (mem_of_getElem? e)
structure GrpH(l:Li)(a:As)(g:Gr)(s:Sv):Prop where
  lf:Lf (llq a.rs) s.ts
  js:∀z∈g.jo,JH l s.ts (bG (a8 a) g.bo s.ps) (l.jo.getD z.toNat default)
  cs:∀b∈g.bo,CH s.ts ((bG (a8 a) g.bo s.ps).getD b.toNat bc)
theorem UV{R:Type}[CommRing R]{C S a1 a2 b1 b2 x1 x2 P1 P2 o1 o2:R}(hcs:C*C+S*S=1)(g:x1*(P2-o2)-x2*(P1-o1)=(a1-b1)*b2-(a2-b2)*b1)
  (y1:C*(a1-b1)-S*(a2-b2)=x1) (y2:S*(a1-b1)+C*(a2-b2)=x2) :
  (o1+(C*a1-S*a2)-(o1+(C*b1-S*b2)))*(P2-(o2+(S*b1+C*b2)))-(o2+(S*a1+C*a2)-(o2+(S*b1+C*b2)))*(P1-(o1+(C*b1-S*b2)))=0:=by
 have e1:o1+(C*a1-S*a2)-(o1+(C*b1-S*b2))=x1:=by rw[<- y1];grind
 have e2:o2+(S*a1+C*a2)-(o2+(S*b1+C*b2))=x2:=by rw[<- y2];grind
 rw[e1,e2];have e3:x1*(P2-(o2+(S*b1+C*b2)))-x2*(P1-(o1+(C*b1-S*b2)))=(x1*(P2-o2)-x2*(P1-o1))-(x1*(S*b1+C*b2)-x2*(C*b1-S*b2)):=by clear hcs g y1 y2 e1 e2;grind
 have e4:x1*(S*b1+C*b2)-x2*(C*b1-S*b2)=((a1-b1)*b2-(a2-b2)*b1)*(C*C+S*S):=by rw[<- y1,<- y2];clear hcs g y1 y2 e1 e2 e3;grind
 rw[e3,e4,g,hcs];grind
section
variable{l:Li}{a:As}{r:Nat}(tw:Tw (llq a.rs) r)(hN:∀p∈a8 a,Nq (llq a.rs).length p)
include tw hN
theorem uh{bs':List Pq}{b:Int}(h:bs'.getD b.toNat bc=(a8 a).getD b.toNat bc):jF (a8 a) bs' (llq a.rs).length b:=by
 have:=tw;exact⟨h,BP hN _⟩
theorem QC{u:Rat×Rat}(h:bQ u u≠0):0<ak (qE (bQ u u):Et (llq a.rs)):=by
 have:=tw;have:=hN;have h0:0<=bQ u u:=Rat.add_nonneg (mb u.1) (mb u.2)
 have h1:0<bQ u u:=by
  rcases Rat.le_iff_lt_or_eq.1 h0 with g |g
  ·exact g
  ·exact absurd g.symm h
 rw[Bq,tX h1];decide
theorem NK{i k z0 z1 z2:Int}{j0 j1 j2:Jt}(ne:i≠k)(t0:TieO l 0 [i,k] z0 i j0)(t1:TieO l 0 [i,k] z1 k j1)(h2:l.jo[z2.toNat]?=some j2)(kd:j2.kind=0)
  (tie:(j2.a=i/\j2.b=k)\/(j2.b=i/\j2.a=k)) (hi:0<=i) (hk:0<=k) (hil:i.toNat<(a8 a).length) (hkl:k.toNat<(a8 a).length) (hn:∀j∈l.jo,0<=j.a/\0<=j.b)
  {s:Sv} (hs:s∈kO l a i k j0 j1 j2):GrpH l a ⟨1,[i,k],[z0,z1,z2],0⟩ s:=by
 unfold kO at hs;split at hs
 ·cases hs
 ·rename_i hz;obtain⟨w1,w2⟩:=tY (Bool.eq_false_iff.2 hz);split at hs
  ·cases hs
  ·rename_i hc;have hc:=Decidable.not_not.1 hc;have geo:=NG tw (fun X hX=>xF tw.pos hX) hc (QC tw hN w1);unfold j5 at hs;obtain ⟨m,hm,rfl⟩:=List.mem_map.1 hs;obtain ⟨x,hx⟩:=ax (List.mem_range.1 hm);have G:=geo x (mem_of_getElem? hx);unfold jX;rw [aC hx];have e0:TieO l 0 [i,k] z0 i j0:=t0;obtain ⟨n0,n1⟩:=hn j0 (mem_of_getElem? t0.hj);obtain ⟨n2,n3⟩:=hn j1 (mem_of_getElem? t1.hj);have hne:i.toNat ≠ k.toNat:=by omega
   generalize hM:eJ (aM l a j0 i) (aM l a j1 k) (qE (bO (aj l j2 i) (aj l j0 i))) (qE (bO (aj l j2 k) (aj l j1 k)))=M at *;obtain⟨B0,hB0⟩:∃B0,B0=mG M.ts x ⟨aj l j0 i,P2.l (aM l a j0 i),aj l j2 i⟩:=⟨_,rfl⟩
   obtain⟨B1,hB1⟩:∃B1,B1=mG M.ts x ⟨aj l j1 k,P2.l (aM l a j1 k),aj l j2 k⟩:=⟨_,rfl⟩
   have hbs:bG (a8 a) [i,k] [B0,B1]=((a8 a).set i.toNat B0).set k.toNat B1:=rfl;have g0:(bG (a8 a) [i,k] [B0,B1]).getD i.toNat bc=B0:=by rw[hbs,oc hk hi ne,oP hil]
   have g1:(bG (a8 a) [i,k] [B0,B1]).getD k.toNat bc=B1:=by rw[hbs,oP (by rw[length_set];exact hkl)]
   have gn:∀b:Int,0<=b->b∉[i,k]->jF (a8 a) (bG (a8 a) [i,k] [B0,B1]) (llq a.rs).length b:=fun b h0 hb=>uh tw hN (by
    rw[hbs,oc hk h0 (fun e=>hb (by simp[e])),oc hi h0 (fun e=>hb (by simp[e]))])
   have p0:e8 M.ts B0 (aj l j0 i)=(aP M.ts (aM l a j0 i).1,aP M.ts (aM l a j0 i).2):=by rw[hB0];exact sD
   have p1:e8 M.ts B1 (aj l j1 k)=(aP M.ts (aM l a j1 k).1,aP M.ts (aM l a j1 k).2):=by rw[hB1];exact sD
   have q0:e8 M.ts B0 (aj l j2 i)=(dE M.ts x.1,dE M.ts x.2):=by
    rw[hB0];refine(zK w1).trans ?_;unfold lT j6;refine Prod.ext ?_ ?_
    ·dsimp only;grind
    ·dsimp only;grind
   have q1:e8 M.ts B1 (aj l j2 k)=(dE M.ts x.1,dE M.ts x.2):=by
    rw[hB1];refine(zK w2).trans ?_;unfold lT j6;refine Prod.ext ?_ ?_
    ·dsimp only;grind
    ·dsimp only;grind
   refine⟨G.lf,?_,?_⟩
   ·intro z hz;show JH l M.ts (bG (a8 a) [i,k] [_,_]) _;rw[<- hB0,<- hB1];rcases List.mem_cons.1 hz with rfl |hz
    ·rw [aC t0.hj];refine G.lf.pin t0.kd (i:=i) ?_ (by rw [g0]; exact p0);rcases t0.tie with ⟨e,hb⟩ | ⟨e,hb⟩
     ·exact .inl ⟨e,gn _ n1 hb⟩
     ·exact .inr ⟨fun e2=>hb (by simp[e2]),e,gn _ n0 hb⟩
    ·rcases List.mem_cons.1 hz with rfl |hz
     ·rw [aC t1.hj];refine G.lf.pin t1.kd (i:=k) ?_ (by rw [g1]; exact p1);rcases t1.tie with ⟨e,hb⟩ | ⟨e,hb⟩
      ·exact .inl ⟨e,gn _ n3 hb⟩
      ·exact .inr ⟨fun e2=>hb (by simp[e2]),e,gn _ n2 hb⟩
     ·rw[List.mem_singleton.1 hz,aC h2]
      have key:bb l M.ts (bG (a8 a) [i,k] [B0,B1]) j2.a j2.point=bb l M.ts (bG (a8 a) [i,k] [B0,B1]) j2.b j2.on:=by
       unfold bb;rcases tie with⟨e,e'⟩ |⟨e,e'⟩
       ·have c0 : aj l j2 i = aX l i j2.point := by unfold aj; rw [if_pos e]
        have c1:aj l j2 k=aX l k j2.on:=by unfold aj;rw[if_neg oz]
        rw[e,e',g0,g1,<- c0,<- c1,q0,q1]
       ·have c0 : aj l j2 k = aX l k j2.point := by unfold aj; rw [if_pos e']
        have c1:aj l j2 i=aX l i j2.on:=by unfold aj;rw[if_neg oz]
        rw[e,e',g0,g1,<- c0,<- c1,q0,q1]
      exact uV G.lf.pos kd (by rw[key]) (by rw[key])
   ·intro b hb;show CH M.ts ((bG (a8 a) [i,k] [_,_]).getD b.toNat bc);rw[<- hB0,<- hB1];rcases List.mem_cons.1 hb with rfl |hb
    ·rw[g0,hB0];refine wh G.lf.pos w1 ?_;have:=G.c1;rw[G.lf.q]at this;exact this
    ·rw[List.mem_singleton.1 hb,g1,hB1];refine wh G.lf.pos w2 ?_;have:=G.c2;rw[G.lf.q]at this;exact this
theorem Kv{i z0 z1:Int}{j0 j:Jt}(t0:TieO l 0 [i] z0 i j0)(t1:TieO l 1 [i] z1 i j)(ha:j.a=i)(hi:0<=i)(hil:i.toNat<(a8 a).length)(hn:∀j∈l.jo,0<=j.a/\0<=j.b)
  {s:Sv} (hs:s∈kW l a i j0 j):GrpH l a ⟨2,[i],[z0,z1],0⟩ s:=by
 unfold kW at hs;split at hs
 ·cases hs
 ·rename_i hz;have w1:=wa (Bool.eq_false_iff.2 hz);split at hs
  ·cases hs
  ·rename_i hc;have hc:=Decidable.not_not.1 hc;have geo:=Mf tw (fun X hX=>xF tw.pos hX) (c:=aM l a j0 i) (z:=qE (bO (aX l i j.point) (aj l j0 i))) hc;unfold j5 at hs;obtain⟨m,hm,rfl⟩:=List.mem_map.1 hs;obtain⟨x,hx⟩:=ax (List.mem_range.1 hm);have G:=geo x (mem_of_getElem? hx);have L:=G.lf;unfold jX;rw[aC hx];obtain⟨n0,n1⟩:=hn j0 (mem_of_getElem? t0.hj);obtain⟨n2,n3⟩:=hn j (mem_of_getElem? t1.hj);generalize hM:eG (bC l a j.b j.on) (bC l a j.b j.to) (aM l a j0 i) (qE (bO (aX l i j.point) (aj l j0 i)))=M at *;obtain⟨B0,hB0⟩:∃B0,B0=mG M.ts x ⟨aj l j0 i,P2.l (aM l a j0 i),aX l i j.point⟩:=⟨_,rfl⟩
   have hbs:bG (a8 a) [i] [B0]=(a8 a).set i.toNat B0:=rfl;have g0:(bG (a8 a) [i] [B0]).getD i.toNat bc=B0:=by rw[hbs,oP hil]
   have gn:∀b:Int,0<=b->b∉[i]->jF (a8 a) (bG (a8 a) [i] [B0]) (llq a.rs).length b:=fun b h0 hb=>uh tw hN (by
    rw[hbs,oc hi h0 (fun e=>hb (by simp[e]))])
   have p0:e8 M.ts B0 (aj l j0 i)=(aP M.ts (aM l a j0 i).1,aP M.ts (aM l a j0 i).2):=by rw[hB0];exact sD
   have q0:e8 M.ts B0 (aX l i j.point)=(dE M.ts x.1,dE M.ts x.2):=by
    rw[hB0];refine(zK w1).trans ?_;unfold lT j6;refine Prod.ext ?_ ?_
    ·dsimp only;grind
    ·dsimp only;grind
   have hjb:jF (a8 a) (bG (a8 a) [i] [B0]) (llq a.rs).length j.b:=by
    rcases t1.tie with⟨e,hb⟩ |⟨e,hb⟩
    ·exact gn _ n3 hb
    ·exact absurd (by simp[ha]) hb
   refine⟨G.lf,?_,?_⟩
   ·intro z hz;show JH l M.ts (bG (a8 a) [i] [_]) _;rw[<- hB0];rcases List.mem_cons.1 hz with rfl |hz
    ·rw [aC t0.hj];refine L.pin t0.kd (i:=i) ?_ (by rw [g0]; exact p0);rcases t0.tie with ⟨e,hb⟩ | ⟨e,hb⟩
     ·exact .inl ⟨e,gn _ n1 hb⟩
     ·exact .inr ⟨fun e2=>hb (by simp[e2]),e,gn _ n0 hb⟩
    ·rw [List.mem_singleton.1 hz, aC t1.hj];refine AF L.pos (by rw [t1.kd]; decide) ?_;have ec:=(eO L.pos).2 G.l;rw [cO,cw,cw,cO,cO,cO,cO,oo,oo] at ec;have on:=L.pt l hjb j.on;have to:=L.pt l hjb j.to
     have pp:bb l M.ts (bG (a8 a) [i] [B0]) j.a j.point=(dE M.ts x.1,dE M.ts x.2):=by
      unfold bb;rw[ha,g0,q0]
     rw[pp,on.1,on.2,to.1,to.2];exact ec
   ·intro b hb;show CH M.ts ((bG (a8 a) [i] [_]).getD b.toNat bc);rw[<- hB0,List.mem_singleton.1 hb,g0,hB0];refine wh L.pos w1 ?_;have:=G.c;rw[L.q]at this;exact this
theorem y7{i z0 z1:Int}{j0 j:Jt}(t0:TieO l 0 [i] z0 i j0)(t1:TieO l 1 [i] z1 i j)(ha:j.a≠i)(hi:0<=i)(hil:i.toNat<(a8 a).length)(hn:∀j∈l.jo,0<=j.a/\0<=j.b)(hv:bQ (cW l i j) (cW l i j)≠0)
  (hd:ak (cA l a i j0 j)≠0) {T:LL} (L:Lf (llq a.rs) T) {q:List Rat} (hq:an L.pos (dE T q*dE T q)=an L.pos (aP T (a9 l a i j0 j))) {n:Int} :
  GrpH l a ⟨3,[i],[z0,z1],0⟩ ⟨T,[oy T (dS l a i j0 j) q],n⟩:=by
 obtain⟨n0,n1⟩:=hn j0 (mem_of_getElem? t0.hj);obtain⟨n2,n3⟩:=hn j (mem_of_getElem? t1.hj)
 obtain⟨tb,tn⟩:j.b=i/\j.a∉[i]:=by
  rcases t1.tie with⟨e,hb⟩ |h
  ·exact absurd e ha
  ·exact h
 obtain⟨w,hw⟩:∃w:P2 T,w=m9 T q (dS l a i j0 j).h (dS l a i j0 j).d (dS l a i j0 j).w:=⟨_,rfl⟩
 obtain⟨o,ho⟩:∃o:P2 T,o=(aP T (aM l a j0 i).1,aP T (aM l a j0 i).2):=⟨_,rfl⟩
 obtain⟨B0,hB0⟩:∃B0,B0=gB (cW l i j) w (aj l j0 i) o:=⟨_,rfl⟩
 have e0:oy T (dS l a i j0 j) q=B0:=by rw[hB0,hw,ho];rfl
 rw[e0];have hbs:bG (a8 a) [i] [B0]=(a8 a).set i.toNat B0:=rfl;have g0:(bG (a8 a) [i] [B0]).getD i.toNat bc=B0:=by rw[hbs,oP hil]
 have gn:∀b:Int,0<=b->b∉[i]->jF (a8 a) (bG (a8 a) [i] [B0]) (llq a.rs).length b:=fun b h0 hb=>uh tw hN (by
  rw[hbs,oc hi h0 (fun e=>hb (by simp[e]))])
 have hD:an L.pos (aP T (cA l a i j0 j))=an L.pos (aP T (co l a i j0 j).1)*an L.pos (aP T (co l a i j0 j).1)+an L.pos (aP T (co l a i j0 j).2)*an L.pos (aP T (co l a i j0 j).2):=by
  rw[<- L.mul,<- L.mul,<- L.add];rfl
 have hI:an L.pos (iE (aP T (cA l a i j0 j)))*an L.pos (aP T (cA l a i j0 j))=1:=xE L.pos (fun e=>hd ((L.zero _).1 e))
 have hX:an L.pos (dE T q)*an L.pos (dE T q)=an L.pos (qE (ji l i j))*an L.pos (aP T (cA l a i j0 j))-an L.pos (qE (cG l i j0 j))*an L.pos (qE (cG l i j0 j)):=by
  rw[<- cw,hq];unfold a9;rw[L.sub,L.mul,L.mul,L.q,L.q]
 have eh:dE T (dS l a i j0 j).h=qE (cG l i j0 j):=fR _ _;have x1:w.1=(dE T q*aP T (co l a i j0 j).1-qE (cG l i j0 j)*-aP T (co l a i j0 j).2)*iE (aP T (cA l a i j0 j)):=by rw[hw,<- eh];rfl
 have x2:w.2=(dE T q*aP T (co l a i j0 j).2-qE (cG l i j0 j)*aP T (co l a i j0 j).1)*iE (aP T (cA l a i j0 j)):=by rw[hw,<- eh];rfl
 have G:=Q8 hD hI hX (w1:=an L.pos w.1) (w2:=an L.pos w.2) (by rw[x1,cw,cO,cw,cw,Rb]) (by rw[x2,cw,cO,cw,cw])
 have hc:CH T B0:=by
  rw[hB0];refine wh L.pos hv ?_;refine(kF L.pos (x:=w.1*w.1+w.2*w.2) (y:=qE (bQ (cW l i j) (cW l i j)))).1 ?_;rw[kG,cw,cw,G.1];rfl
 refine⟨L,?_,?_⟩
 ·intro z hz;show JH l T (bG (a8 a) [i] [B0]) _;rcases List.mem_cons.1 hz with rfl |hz
  ·rw [aC t0.hj];refine L.pin t0.kd (i:=i) ?_ (by rw [g0,hB0,sD,ho]);rcases t0.tie with ⟨e,hb⟩ | ⟨e,hb⟩
   ·exact .inl ⟨e,gn _ n1 hb⟩
   ·exact .inr ⟨fun e2=>hb (by simp[e2]),e,gn _ n0 hb⟩
  ·rw [List.mem_singleton.1 hz, aC t1.hj];refine AF L.pos (by rw [t1.kd]; decide) ?_;have pp:=L.pt l (gn _ n2 tn) j.point;have eon:bb l T (bG (a8 a) [i] [B0]) j.b j.on = e8 T B0 (aX l i j.on):=by unfold bb; rw [tb,g0]
   have eto:bb l T (bG (a8 a) [i] [B0]) j.b j.to=e8 T B0 (aX l i j.to):=by unfold bb;rw[tb,g0]
   have W1:an L.pos (aP T (co l a i j0 j).1)=an L.pos (aP T (bb l (llq a.rs) (a8 a) j.a j.point).1)-an L.pos o.1:=by
    rw[ho,<- L.sub,<- oo];rfl
   have W2:an L.pos (aP T (co l a i j0 j).2)=an L.pos (aP T (bb l (llq a.rs) (a8 a) j.a j.point).2)-an L.pos o.2:=by
    rw[ho,<- L.sub,<- oo];rfl
   have g2:=G.2;rw[W1,W2]at g2;rw[pp.1,pp.2,eon,eto,hB0,vr,vr];have gg:=HR (w:=w) hv
   have hcs:an L.pos (dg (cW l i j) w)*an L.pos (dg (cW l i j) w)+an L.pos (da (cW l i j) w)*an L.pos (da (cW l i j) w)=1:=by
    have h9:=(eO L.pos).2 hc;rw[hB0,tu,u7,cO,kG,cw,cw,Il]at h9;grind
   have v1:(qE (cW l i j).1:Et T)=qE ((aX l i j.to).1-(aj l j0 i).1)-qE ((aX l i j.on).1-(aj l j0 i).1):=by rw[<- rE];congr 1;show(aX l i j.to).1-(aX l i j.on).1=_;grind
   have v2:(qE (cW l i j).2:Et T)=qE ((aX l i j.to).2-(aj l j0 i).2)-qE ((aX l i j.on).2-(aj l j0 i).2):=by rw[<- rE];congr 1;show(aX l i j.to).2-(aX l i j.on).2=_;grind
   have hh:(qE (cG l i j0 j):Et T)=qE (cW l i j).1*qE ((aX l i j.on).2-(aj l j0 i).2)-qE (cW l i j).2*qE ((aX l i j.on).1-(aj l j0 i).1):=by
    rw[<- lV,<- lV,<- rE];rfl
   have y1:=congrArg (an L.pos) gg.1;have y2:=congrArg (an L.pos) gg.2;rw[hh,cO,cw,cw]at g2;rw[v1,v2]at g2 y1 y2;simp only[kG,cO,cw]at g2 y1 y2 ⊢
   revert hcs g2 y1 y2
   generalize an L.pos (qE ((aX l i j.to).1-(aj l j0 i).1):Et T)=a1;generalize an L.pos (qE ((aX l i j.to).2-(aj l j0 i).2):Et T)=a2;generalize an L.pos (qE ((aX l i j.on).1-(aj l j0 i).1):Et T)=b1;generalize an L.pos (qE ((aX l i j.on).2-(aj l j0 i).2):Et T)=b2;generalize an L.pos (dg (cW l i j) w)=C;generalize an L.pos (da (cW l i j) w)=S;generalize an L.pos (aP T (bb l (llq a.rs) (a8 a) j.a j.point).1)=P1;generalize an L.pos (aP T (bb l (llq a.rs) (a8 a) j.a j.point).2)=P2;generalize an L.pos o.1=o1;generalize an L.pos o.2=o2;generalize an L.pos w.1=x1;generalize an L.pos w.2=x2;intro hcs g2 y1 y2;exact UV hcs g2 y1 y2
 ·intro b hb;rw[List.mem_singleton.1 hb];show CH T ((bG (a8 a) [i] [B0]).getD i.toNat bc);rw[g0];exact hc
end
end Go.Lw
namespace Go.Lw
open Lean.Grind (CommRing)
theorem O4(half:Bool)(t:Rat):bV half t*bV half t+cm half t*cm half t=1:=by
 unfold bV cm;cases half
 ·have h:1+t*t≠0:=by
   have:=mb t;intro e;grind
  simp only[Bool.false_eq_true,if_false]
  have e1:(1-t*t)/(1+t*t)*((1-t*t)/(1+t*t))+(t+t)/(1+t*t)*((t+t)/(1+t*t))=((1-t*t)*(1-t*t)+(t+t)*(t+t))*((1+t*t)⁻¹*(1+t*t)⁻¹):=by
   rw[Rat.div_def,Rat.div_def];grind
  rw[e1];have e2:(1+t*t)*(1+t*t)⁻¹=1:=Rat.mul_inv_cancel _ h;generalize(1+t*t)⁻¹=k at e2 ⊢;have e3:((1-t*t)*(1-t*t)+(t+t)*(t+t))*(k*k)=((1+t*t)*k)*((1+t*t)*k):=by grind
  rw[e3,e2,Rat.one_mul]
 ·simp only[if_true];decide +kernel
section
variable{l:Li}{a:As}{r:Nat}(tw:Tw (llq a.rs) r)(hN:∀p∈a8 a,Nq (llq a.rs).length p)
include tw hN
theorem SD{i z0 z1:Int}{j0 j:Jt}(t0:TieO l 0 [i] z0 i j0)(t1:TieO l 1 [i] z1 i j)(ha:j.a≠i)(hi:0<=i)(hil:i.toNat<(a8 a).length)(hn:∀j∈l.jo,0<=j.a/\0<=j.b)(hv:bQ (cW l i j) (cW l i j)≠0)
  {s:Sv} (hs:s∈ki l a i j0 j):GrpH l a ⟨3,[i],[z0,z1],0⟩ s:=by
 unfold ki at hs;split at hs
 ·cases hs
 ·rename_i h1;split at hs
  ·cases hs
  ·rename_i h2;have hd:=vM tw h2 h1;split at hs
   ·rename_i h3;have hp:=xF tw.pos h3;have L:=Ad (a9 l a i j0 j) hp;have e:=AN (a9 l a i j0 j);unfold jY at hs;obtain⟨m,hm,rfl⟩:=List.mem_map.1 hs;have hm:=List.mem_range.1 hm;unfold jk
    match m,hm with
    |0,_ =>
     refine y7 tw hN t0 t1 ha hi hil hn hv hd L ?_;show an L.pos (bn (a9 l a i j0 j)*bn (a9 l a i j0 j))=_;rw[e];rfl
    |1,_ =>
     refine y7 tw hN t0 t1 ha hi hil hn hv hd L ?_;show an L.pos (dE _ (sX (-bn (a9 l a i j0 j)))*dE _ (sX (-bn (a9 l a i j0 j))))=_;rw[iF,show -bn (a9 l a i j0 j)*-bn (a9 l a i j0 j)=bn (a9 l a i j0 j)*bn (a9 l a i j0 j) by grind,e];rfl
    |m+2,h=>exact absurd h (by simp)
   ·rename_i h3;have hX:ak (a9 l a i j0 j) = 0:=by omega
    have L:=wm (ts:=llq a.rs) tw.pos;unfold jY at hs;obtain⟨m,hm,rfl⟩:=List.mem_map.1 hs;have hm:=List.mem_range.1 hm;unfold jk
    match m,hm with
    |0,_ =>
     refine y7 tw hN t0 t1 ha hi hil hn hv hd L ?_;show an L.pos (dE _ []*dE _ [])=_;have e0:(dE (llq a.rs) []:Et (llq a.rs))=0:=by rw[E.zero_def];exact je _
     rw[e0,ek];refine((eO L.pos).2 ?_).trans ((eO L.pos).2 hX).symm;rw[show(0:Et (llq a.rs))*0=0 by grind];exact(gk _ _ L.pos).zero
    |m+1,h=>exact absurd h (by simp)
theorem MY{i z0 d:Int}{j0:Jt}(t0:TieO l 0 [i] z0 i j0)(hi:0<=i)(hil:i.toNat<(a8 a).length)(hn:∀j∈l.jo,0<=j.a/\0<=j.b){x:Tn}
  {s:Sv} (hs:s∈kv l a i j0 x):GrpH l a ⟨0,[i],[z0],d⟩ s/\dE s.ts ((bG (a8 a) [i] s.ps).getD i.toNat bc).c=qE (bV x.half x.t.q)/\dE s.ts ((bG (a8 a) [i] s.ps).getD i.toNat bc).s=qE (cm x.half x.t.q):=by
 unfold kv at hs;split at hs
 ·cases hs
 ·rw[List.mem_singleton.1 hs];obtain⟨n0,n1⟩:=hn j0 (mem_of_getElem? t0.hj);have L:=wm (ts:=llq a.rs) tw.pos;have hbs:∀B0,bG (a8 a) [i] [B0]=(a8 a).set i.toNat B0:=fun _=>rfl
  have g0:∀B0,(bG (a8 a) [i] [B0]).getD i.toNat bc=B0:=fun B0=>by rw[hbs,oP hil]
  have gn:∀(B0:Pq)(b:Int),0<=b->b∉[i]->jF (a8 a) (bG (a8 a) [i] [B0]) (llq a.rs).length b:=fun B0 b h0 hb=>uh tw hN (by
   rw[hbs,oc hi h0 (fun e=>hb (by simp[e]))])
  have eN:(jC (((1:Int):Rat),0):Et (llq a.rs))=qE 1:=congrArg qE (show((1:Int):Rat)*((1:Int):Rat)+0*0=1 by decide +kernel);have q1:(qE 1:Et (llq a.rs))=1:=rfl
  have hc:(dE (llq a.rs) (kl l a i j0 x).c:Et (llq a.rs))=qE (bV x.half x.t.q):=by
   unfold kl;rw[tu];unfold dg;rw[eN,zP,kX,wM];grind
  have hsn:(dE (llq a.rs) (kl l a i j0 x).s:Et (llq a.rs))=qE (cm x.half x.t.q):=by
   unfold kl;rw[u7];unfold da;rw[eN,zP,kX,wM];grind
  refine⟨⟨L,?_,?_⟩,by rw[g0];exact hc,by rw[g0];exact hsn⟩
  ·intro z hz;rw [List.mem_singleton.1 hz,aC t0.hj];show JH l (llq a.rs) (bG (a8 a) [i] [kl l a i j0 x]) j0;refine L.pin t0.kd (i:=i) ?_ (by rw [g0,ek,ek]; exact sD);rcases t0.tie with ⟨e,hb⟩ | ⟨e,hb⟩
   ·exact .inl ⟨e,gn _ _ n1 hb⟩
   ·exact .inr ⟨fun e2=>hb (by simp[e2]),e,gn _ _ n0 hb⟩
  ·intro b hb;rw[List.mem_singleton.1 hb];show CH (llq a.rs) ((bG (a8 a) [i] [kl l a i j0 x]).getD i.toNat bc);rw[g0];unfold CH;rw[hc,hsn,<- lV,<- lV,<- oY,O4,q1,show(1:Et (llq a.rs))-1=0 by grind];exact(gk _ _ L.pos).zero
theorem RF{g:Gr}(hg:DyK l g)(hgb:∀b∈g.bo,0<=b/\b.toNat<(a8 a).length)(hli:ay l=0){x:Tn}{s:Sv}(hs:s∈eQ l a g x):GrpH l a g s/\(g.kind=0->dE s.ts ((bG (a8 a) g.bo s.ps).getD (eK g 0).toNat bc).c=qE (bV x.half x.t.q)/\dE s.ts ((bG (a8 a) g.bo s.ps).getD (eK g 0).toNat bc).s=qE (cm x.half x.t.q)):=by
 have hn:∀j∈l.jo,0<=j.a/\0<=j.b:=fun j hj=>by
  obtain⟨n,hn⟩:=getElem?_of_mem hj;obtain⟨i1,i2,_⟩:=dx hli hn;have i1:=c9 i1;have i2:=c9 i2;omega
 cases hg with
 | @drv b z d j dr t d0 hd hb =>
  have e:di l ⟨0,[b],[z],d⟩ 0=j:=aC t.hj;have hs:s∈kv l a b j x:=by rw[<- e];exact hs
  obtain⟨h1,h2⟩:=hgb b (by simp);have h:=MY (d:=d) tw hN t h1 h2 hn hs;exact⟨h.1,fun _=>h.2⟩
 | @rrr i k z0 z1 z2 j0 j1 j2 ne t0 t1 h0 h2 kd tie =>
  have e0:di l ⟨1,[i,k],[z0,z1,z2],0⟩ 0=j0:=aC t0.hj;have e1:di l ⟨1,[i,k],[z0,z1,z2],0⟩ 1=j1:=aC t1.hj;have e2:di l ⟨1,[i,k],[z0,z1,z2],0⟩ 2=j2:=aC h2;have hs:s∈kO l a i k j0 j1 j2:=by rw[<- e0,<- e1,<- e2];exact hs
  obtain⟨b1,b2⟩:=hgb i (by simp);obtain⟨b3,b4⟩:=hgb k (by simp);exact⟨NK tw hN ne t0 t1 h2 kd tie b1 b3 b2 b4 hn hs,fun h=>absurd h (by simp)⟩
 | @pr i z0 z1 j0 j1 t0 t1 ha =>
  have e0:di l ⟨2,[i],[z0,z1],0⟩ 0=j0:=aC t0.hj;have e1:di l ⟨2,[i],[z0,z1],0⟩ 1=j1:=aC t1.hj;have hs:s∈kW l a i j0 j1:=by rw[<- e0,<- e1];exact hs
  obtain⟨b1,b2⟩:=hgb i (by simp);exact⟨Kv tw hN t0 t1 ha b1 b2 hn hs,fun h=>absurd h (by simp)⟩
 | @rp i z0 z1 j0 j1 t0 t1 ha =>
  have e0:di l ⟨3,[i],[z0,z1],0⟩ 0=j0:=aC t0.hj;have e1:di l ⟨3,[i],[z0,z1],0⟩ 1=j1:=aC t1.hj;have hs:s∈ki l a i j0 j1:=by rw[<- e0,<- e1];exact hs
  obtain⟨b1,b2⟩:=hgb i (by simp)
  have tb:j1.b=i:=by
   rcases t1.tie with⟨e,_⟩ |⟨e,_⟩
   ·exact absurd e ha
   ·exact e
  exact⟨SD tw hN t0 t1 ha b1 b2 hn (xf hli t1.hj (by rw[t1.kd];decide) tb) hs,fun h=>absurd h (by simp)⟩
end
end Go.Lw
namespace Go.Lw
open Lean.Grind (CommRing)
structure Nxt(l:Li)(kw:List Bool)(g:Gr):Prop where
  b:∀x∈g.bo,kn kw x=false
  j:∀z∈g.jo,∀j,l.jo[z.toNat]?=some j->(j.a∈g.bo\/kn kw j.a=true)/\(j.b∈g.bo\/kn kw j.b=true)
theorem sL{l:Li}{kind b:Int}{kw:List Bool}{bs:List Int}(hb:b∈bs)(h:0<=jointI l kind b kw){j:Jt}(hj:l.jo[(jointI l kind b kw).toNat]?=some j) :
  (j.a∈bs\/kn kw j.a=true)/\(j.b∈bs\/kn kw j.b=true):=by
 obtain⟨i,j',e,h1,_,h2⟩:=vj h;rw[e,toNat_natCast,h1]at hj;cases hj;rcases h2 with⟨e1,e2⟩ |⟨e1,e2⟩
 ·exact⟨.inl (e1▸hb),.inr e2⟩
 ·exact⟨.inr e2,.inl (e1▸hb)⟩
theorem Uq{l:Li}(hl:ay l=0){kw:List Bool}{g:Gr}(h:nextG l kw=some g):Nxt l kw g:=by
 unfold nextG at h;cases h1:driverG l kw with
 |some g' =>
  rw[h1]at h;cases h;unfold driverG at h1;rw[map_eq_some_iff]at h1;obtain⟨i,hi,rfl⟩:=h1;obtain⟨h1,h2⟩:=eI hi;unfold drHit at h2;simp only[Bool.not_eq_false',and_eq_true,decide_eq_true_eq,Bool.not_eq_true']at h2;refine⟨ug h2.1,fun z hz j hj=>?_⟩;rw[List.mem_singleton.1 hz]at hj;exact sL (by simp) h2.2 hj
 |none =>
  rw[h1]at h;cases h2:pairG l kw with
  |some g' =>
   rw[h2]at h;cases h;have hf:=DF h2;unfold pairG at h2;rw[map_eq_some_iff]at h2;obtain⟨i,hi,h3⟩:=h2;obtain⟨_,h4⟩:=eI hi;split at h3
   ·rename_i k hk;subst h3;unfold prAt at hk;rw [map_eq_some_iff] at hk;obtain ⟨k',hk',rfl⟩:=hk;obtain ⟨h5,h6⟩:=eI hk';rw [show i + 1 + k' = k' + (i + 1) by omega] at h6;unfold prHit at h6;simp only [Bool.not_eq_false',and_eq_true,decide_eq_true_eq] at h6;obtain ⟨_,⟨j1,j2⟩,j3⟩:=h6;refine ⟨fun x hx=>pJ (hf x hx),fun z hz j hj=>?_⟩;simp only [prG,mem_cons,not_mem_nil,or_false] at hz;rcases hz with rfl | rfl | rfl
    ·exact sL (by simp[prG]) j1 hj
    ·exact sL (by simp[prG]) j2 hj
    ·obtain⟨n,a2,e,hj2,hkd,ht⟩:=vj j3;rw[e,toNat_natCast,hj2]at hj;cases hj;obtain⟨i1,i2,_⟩:=dx hl hj2;have i1:=(c9 i1).1;have i2:=(c9 i2).1;rcases ht with⟨e1,e2⟩ |⟨e1,e2⟩
     ·rw[nK i2 oz oz]at e2;have e2:=of_decide_eq_true e2;exact⟨.inl (by simp[prG,e1]),.inl (by simp[prG,e2])⟩
     ·rw[nK i1 oz oz]at e2;have e2:=of_decide_eq_true e2;exact⟨.inl (by simp[prG,e2]),.inl (by simp[prG,e1])⟩
   ·rename_i hk;rw[hk]at h4;cases h4
  |none =>
   rw[h2]at h;have hf:=Cw (show singleG l kw=some g from h);have h3:singleG l kw=some g:=h;unfold singleG at h3;rw[map_eq_some_iff]at h3;obtain⟨i,hi,rfl⟩:=h3;obtain⟨_,h4⟩:=eI hi;unfold sgHit at h4;simp only[Bool.not_eq_false',and_eq_true,decide_eq_true_eq]at h4;obtain⟨_,j1,j2⟩:=h4;refine⟨fun x hx=>pJ (hf x hx),fun z hz j hj=>?_⟩;simp only[sgG,mem_cons,not_mem_nil,or_false]at hz;rcases hz with rfl |rfl
   ·exact sL (by simp[sgG]) j1 hj
   ·exact sL (by simp[sgG]) j2 hj
def AR(l:Li):List Bool->List Gr->Prop
  |_,[]=>True
  |kw,g::gs=>Nxt l kw g/\AR l (bf kw g.bo) gs
theorem ER{l:Li}(hl:ay l=0):∀(n:Nat)(kw:List Bool)(out:List Gr),∃gs,(findFrom l n kw out).2=out++gs/\AR l kw gs
 |0,kw,out=>⟨[],(append_nil _).symm,trivial⟩
 |n+1,kw,out=>by
  unfold findFrom;cases hg:nextG l kw with
  |none=>exact⟨[],(append_nil _).symm,trivial⟩
  |some g =>
   obtain⟨gs,e,h⟩:=ER hl n (bf kw g.bo) (out++[g]);refine⟨g::gs,?_,Uq hl hg,h⟩;show(findFrom l n (bf kw g.bo) (out++[g])).2=_;rw[e,append_assoc];rfl
def gp(l:Li)(gs:List Gr)(m:Nat):List Bool:=(gs.take m).foldl (fun k g=>bf k g.bo) (cg l.bo.length 0)
theorem Gm{l:Li}:∀(gs:List Gr)(kw:List Bool),AR l kw gs->∀(m:Nat)(g:Gr),gs[m]?=some g->Nxt l ((gs.take m).foldl (fun k g=>bf k g.bo) kw) g
 |[],kw,h,m,g,hg=>by simp at hg
 |g0::gs,kw,h,0,g,hg=>by
  rw[List.getElem?_cons_zero]at hg;cases hg;exact h.1
 |g0::gs,kw,h,m+1,g,hg=>by
  rw[List.getElem?_cons_succ]at hg;exact Gm gs _ h.2 m g hg
theorem O5(l:Li)(gs:List Gr)(m:Nat):(gp l gs m).length=l.bo.length:=by
 have:∀(gs:List Gr)(k:List Bool),(gs.foldl (fun k g=>bf k g.bo) k).length=k.length:=by
  intro gs
  induction gs with
  |nil=>intro k;rfl
  |cons g gs ih=>intro k;rw[foldl_cons,ih,jd]
 unfold gp;rw[this,gy]
theorem JT{l:Li}{gs:List Gr}{m:Nat}{g:Gr}(hg:gs[m]?=some g):gp l gs (m+1)=bf (gp l gs m) g.bo:=by
 unfold gp;rw[List.take_add_one,hg,List.foldl_append];rfl
theorem yV{l:Li}{gs:List Gr}{m:Nat}{g:Gr}(hg:gs[m]?=some g)(ok:GrOk l g){b:Int}(h0:0<=b):kn (gp l gs (m+1)) b=(g.bo.any (fun x=>decide (x=b))||kn (gp l gs m) b):=by
 rw[JT hg,AI h0 (fun x hx=>by rw[O5];exact ok.b x hx)]
theorem Ie{l:Li}(hl:ay l=0)(hs:splitE l=0){m:Nat}{g:Gr}(hg:(splitG l)[m]?=some g):Nxt l (gp l (splitG l) m) g:=by
 obtain⟨gs,e,h⟩:=ER hl l.bo.length (cg l.bo.length 0) []
 have e2:splitG l=gs:=by
  unfold splitG findG;rw[if_pos hs,e];rfl
 rw[e2]at hg ⊢;exact Gm gs _ h m g hg
theorem DR:∀(zs:List (Int×Pq))(bs:List Pq)(b:Int),(∀z∈zs,0<=z.1/\z.1≠b)->0<=b->(zs.foldl (fun k x=>k.set x.1.toNat x.2) bs).getD b.toNat bc=bs.getD b.toNat bc
 |[],bs,b,h,h0=>rfl
 |z::zs,bs,b,h,h0=>by
  rw[foldl_cons,DR zs _ b (fun y hy=>h y (mem_cons_of_mem _ hy)) h0];obtain⟨h1,h2⟩:=h z mem_cons_self;exact oc h1 h0 (Ne.symm h2)
theorem Nj{bs:List Pq}{is:List Int}{ps:List Pq}{b:Int}(h:∀x∈is,0<=x)(hb:b∉is)(h0:0<=b):(bG bs is ps).getD b.toNat bc=bs.getD b.toNat bc :=
 DR _ _ b (fun z hz=>by
  have:=(List.of_mem_zip hz).1;exact⟨h _ this,fun e=>hb (e▸this)⟩) h0
structure WkH(l:Li)(xs:List Tn)(a:Aq):Prop where
  js:∀m g,m<a.ms.length->(splitG l)[m]?=some g->∀z∈g.jo,JH l a.ts a.bs (l.jo.getD z.toNat default)
  cs:∀b:Int,0<=b->kn (gp l (splitG l) a.ms.length) b=true->CH a.ts (a.bs.getD b.toNat bc)
  dr:∀m g,m<a.ms.length->(splitG l)[m]?=some g->g.kind=0->dE a.ts (a.bs.getD (eK g 0).toNat bc).c=qE (bV (b9 g xs).half (b9 g xs).t.q)/\dE a.ts (a.bs.getD (eK g 0).toNat bc).s=qE (cm (b9 g xs).half (b9 g xs).t.q)
  fr:a.bs.getD 0 bc=gh
theorem LD(T:LL):dE T []=0:=by rw[E.zero_def];exact je _
theorem Sx(T:LL):dE T [1]=1:=ku _ 1
theorem P0{T:LL}(hp:iw T):CH T gh:=by
 unfold CH gh;dsimp only;rw[Sx,LD,show(1:Et T)*1+0*0-1=0 by grind];exact(gk _ _ hp).zero
theorem Nt{n:Nat}{b:Int}(h0:0<=b)(h:kn (cg n 0) b=true):b=0:=by
 unfold cg at h;rcases D8 h with h |h
 ·rw[vY]at h;cases h
 ·have:(0:Int).toNat=0:=rfl;omega
theorem LE(l:Li)(xs:List Tn)(hb:0<l.bo.length):WkH l xs (fT l):=by
 have e0:(fT l).bs.getD 0 bc=gh:=oP (by rw[length_replicate];exact hb);refine⟨fun m g h=>absurd h (Nat.not_lt_zero _),fun b h0 h=>?_,fun m g h=>absurd h (Nat.not_lt_zero _),e0⟩;have:b=0:=Nt h0 h;subst this;show CH (fT l).ts ((fT l).bs.getD 0 bc);rw[e0];exact P0 y9.pos
theorem vp{n e:Nat}{a:List Rat}(h:Nm n e a):a.length<=2^n:=h.nl.le
theorem Pq.ok.nq{n e:Nat}{p:Pq}(h:Pq.ok n e p):Nq n p:=⟨vp h.c,vp h.s,vp h.x,vp h.y⟩
theorem Ru{ts ts' T:LL}(e:ts=ts')(h:Lf ts T):Lf ts' T:=e▸h
section
variable{l:Li}{xs:List Tn}{s g:Nat}(W:WkC l xs s g){gr:Gr}{a:Aq}(hg:(splitG l)[a.ms.length]?=some gr)
variable{j r E:Nat}(Q:QInv l j r E a)
include W hg Q
theorem WkH.step(H:WkH l xs a){sv:Sv}(hs:sv∈eQ l a.as gr (b9 gr xs)):WkH l xs (a.nxt gr sv):=by
 have tw:=QInv.twl W hg Q;have hq:(Lw.llq a.as.rs)=a.ts:=a.llq;obtain⟨dy,ok⟩:=W.grp hg;have N:=Ie W.li W.sp hg
 have hN:∀p∈a8 a.as,Nq (Lw.llq a.as.rs).length p:=by
  intro p hp;rw[wD]at hp;rw[hq];exact(Q.bs p hp).nq
 have G:=RF tw hN dy (fun b hb=>by
  rw[wD];have:=ok.b b hb;have:=Q.ln;omega) W.li hs
 rw[wD]at G;have L:Lf a.ts sv.ts:=Ru hq G.1.lf;have js:=G.1.js;have cs:=G.1.cs;rw[wD]at js cs;have hN':∀i,Nq a.ts.length (a.bs.getD i bc):=fun i=>BP (fun p hp=>(Q.bs p hp).nq) i
 have sam:∀b:Int,0<=b->b∉gr.bo->jF a.bs (bG a.bs gr.bo sv.ps) a.ts.length b:=fun b h0 hb=>⟨Nj (fun x hx=>(ok.b x hx).1) hb h0,hN' _⟩
 have old:∀b:Int,kn (gp l (splitG l) a.ms.length) b=true->b∉gr.bo:=fun b hk hb=>by
  rw[N.b b hb]at hk;cases hk
 have hml:(a.nxt gr sv).ms.length=a.ms.length+1:=by show(a.ms++[sv.mode]).length=_;simp
 have mono:∀(k m:Nat),m+k<=a.ms.length->∀b:Int,0<=b->kn (gp l (splitG l) m) b=true->kn (gp l (splitG l) (m+k)) b=true:=by
  intro k
  induction k with
  |zero=>intro m _ b _ h;exact h
  |succ k ih =>
   intro m hm b h0 h;have h1:=ih m oz b h0 h;have hlt:m+k<(splitG l).length:=by have:=(List.getElem?_eq_some_iff.1 hg).1;omega
   obtain⟨g2,hg2⟩:=ax hlt;rw[show m+(k+1)=(m+k)+1 by omega,yV hg2 (W.grp hg2).2 h0,h1];simp
 have jn:∀{z:Int}{jt:Jt},l.jo[z.toNat]?=some jt->0<=jt.a/\0<=jt.b:=fun hj=>by
  obtain⟨i1,i2,_⟩:=dx W.li hj;have i1:=c9 i1;have i2:=c9 i2;omega
 have cf:∀m g2,m<a.ms.length->(splitG l)[m]?=some g2->∀b:Int,0<=b->(b∈g2.bo\/kn (gp l (splitG l) m) b=true)->b∉gr.bo:=by
  intro m g2 hm hg2 b h0 hb;refine old b ?_
  have h1:kn (gp l (splitG l) (m+1)) b=true:=by
   rw[yV hg2 (W.grp hg2).2 h0];rcases hb with hb |hb
   ·have : g2.bo.any (fun x => decide (x = b)) = true := by rw [List.any_eq_true]; exact ⟨b, hb, by simp⟩
    rw[this];rfl
   ·rw[hb];simp
  have:=mono (a.ms.length-(m+1)) (m+1) oz b h0 h1
  rwa [show m+1+(a.ms.length-(m+1))=a.ms.length by omega]at this
 refine⟨?_,?_,?_,?_⟩
 ·intro m g2 hm hg2 z hz;rw[hml]at hm;show JH l sv.ts (bG a.bs gr.bo sv.ps) _
  by_cases e:m=a.ms.length
  ·subst e;rw[hg]at hg2;cases hg2;exact js z hz
  ·obtain⟨jt,hj⟩ := ax (l := l.jo) (i := z.toNat) (by have := (W.grp hg2).2.j z hz;omega);have hjz:l.jo[z.toNat]?=some jt:=hj;have H1:=H.js m g2 oz hg2 z hz;rw[aC hj]at H1 ⊢;have N2:=Ie W.li W.sp hg2;obtain⟨na,nb⟩:=N2.j z hz jt hj;obtain⟨a0,b0⟩:=jn hjz;exact L.jh (sam _ a0 (cf m g2 oz hg2 _ a0 na)) (sam _ b0 (cf m g2 oz hg2 _ b0 nb)) H1
 ·intro b h0 hk;rw[hml,yV hg ok h0]at hk;show CH sv.ts ((bG a.bs gr.bo sv.ps).getD b.toNat bc)
  by_cases hb:b∈gr.bo
  ·exact cs b hb
  ·have:gr.bo.any (fun x=>decide (x=b))=false:=by
    cases h:gr.bo.any (fun x=>decide (x=b))with
    |false=>rfl
    |true =>
     rw[List.any_eq_true]at h;obtain⟨x,hx,e⟩:=h;exact absurd ((of_decide_eq_true e)▸hx) hb
   rw[this,Bool.false_or]at hk;have S:=sam b h0 hb;rw[S.1];exact L.ch S.2 (H.cs b h0 hk)
 ·intro m g2 hm hg2 hk;rw[hml]at hm;show dE sv.ts ((bG a.bs gr.bo sv.ps).getD (eK g2 0).toNat bc).c=_/\dE sv.ts ((bG a.bs gr.bo sv.ps).getD (eK g2 0).toNat bc).s=_
  by_cases e:m=a.ms.length
  ·subst e;rw[hg]at hg2;cases hg2;exact G.2 hk
  ·obtain⟨h1,h2⟩:=H.dr m g2 oz hg2 hk
   have hb:eK g2 0∈g2.bo:=by
    have:=(W.grp hg2).1;cases this with
    |drv=>exact mem_cons_self
    |rrr=>exact absurd hk (by simp)
    |pr=>exact absurd hk (by simp)
    |rp=>exact absurd hk (by simp)
   have h0:=((W.grp hg2).2.b _ hb).1;have S:=sam _ h0 (cf m g2 oz hg2 _ h0 (.inl hb));obtain⟨n1,n2,_⟩:=S.2;rw[S.1,<- L.low _ n1,<- L.low _ n2,h1,h2,L.q,L.q];exact⟨rfl,rfl⟩
 ·show(bG a.bs gr.bo sv.ps).getD (0:Int).toNat bc=gh
  have h0:(0:Int)∉gr.bo:=by
   refine old 0 ?_
   have hs:=mono a.ms.length 0 oz 0 oz (by
    show kn (cg l.bo.length 0) 0=true;rw[nK oz oz (by have:=(cJ W.li).2.2.2;omega)];rfl)
   rwa [Nat.zero_add]at hs
  rw[(sam 0 oz h0).1];exact H.fr
end
end Go.Lw
namespace Go.Lw
theorem N7{F:Int->Bool}{sg:Bool}{f:Sv->List Aq×Nat}{b:Aq}:∀{S:List Sv},b∈(eT F sg f S).1->∃s∈S,b∈(f s).1:=by
 intro S h;obtain⟨s,hs,_,h2⟩:=xW h;exact⟨s,hs,h2⟩
theorem C4{l:Li}{xs:List Tn}{s g:Nat}(W:WkC l xs s g){F:Nat->Int->Bool}{sg:Bool}:∀(n:Nat)(a:Aq),WkSt l s g n a->WkH l xs a->∀b∈(iP F sg l xs (splitG l) n a).1,WkSt l s g 0 b/\WkH l xs b
 |0,a,h,H,b,hb=>by rw[List.mem_singleton.1 hb];exact⟨h,H⟩
 |n+1,a,h,H,b,hb=>by
  obtain⟨gr,hg,_,hP,hn⟩:=h.next W;obtain⟨⟨j,r,E,y,Q,ok,hc⟩,hl⟩:=h;unfold iP at hb;rw[aC hg]at hb;split at hb
  ·cases hb
  ·obtain⟨sv,hsv,h2⟩:=N7 hb;exact C4 W n _ (hn sv hsv) (WkH.step W hg Q H hsv) b h2
structure AqFin(l:Li)(xs:List Tn)(a:Aq):Prop where
  li:ay l=0
  lx:xs.length=l.dv.length
  xo:∀x∈xs,x.err=0/\Qb 1000 x.t.q/\x.t.ok
  tw:∃r,r<=400000000/\Tw a.ts r
  two:a.ts.length<=2
  bs:∀p∈a.bs,Pq.ok a.ts.length 3200000000 p
  ln:a.bs.length=l.bo.length
  lm:a.ms.length<=100
  js:∀j∈l.jo,JH l a.ts a.bs j
  cs:∀i,i<l.bo.length->CH a.ts (a.bs.getD i bc)
  dr:∀i d,l.dv[i]?=some d->dE a.ts (a.bs.getD d.body.toNat bc).c=qE (bV (xs.getD i gd).half (xs.getD i gd).t.q)/\dE a.ts (a.bs.getD d.body.toNat bc).s=qE (cm (xs.getD i gd).half (xs.getD i gd).t.q)
  fr:a.bs.getD 0 bc=gh
theorem CX{f:Gr->List Int}:∀(gs:List Gr)(k:List Bool)(b:Int),kn (gs.foldl (fun k g=>bf k (f g)) k) b=true->kn k b=true\/∃g∈gs,∃x∈f g,x.toNat=b.toNat
 |[],k,b,h=>.inl h
 |g::gs,k,b,h=>by
  rw[foldl_cons]at h;rcases CX gs _ b h with h |⟨g',hg,x,hx,e⟩
  ·rcases xn _ h with h |⟨x,hx,e⟩
   ·exact .inl h
   ·exact .inr ⟨g,mem_cons_self,x,hx,e⟩
  ·exact .inr ⟨g',mem_cons_of_mem _ hg,x,hx,e⟩
theorem F5{k:List Bool}(h:(dW k).length=0){i:Nat}(hi:i<k.length):kn k (i:Int)=true:=by
 rw[tB]at h;unfold kn;rw[getD_eq_getElem?_getD,getElem?_eq_getElem (by omega:(i:Int).toNat<k.length)];show k[(i:Int).toNat]=true;cases hv:k[(i:Int).toNat]'oz with
 |true=>rfl
 |false =>
  exfalso;have hm:false∈k:=hv▸getElem_mem _;rw[<- List.contains_iff_mem]at hm;rw[hm]at h;cases h
theorem zU(f:Gr->List Int):∀(gs:List Gr)(k:List Bool),(gs.foldl (fun k g=>bf k (f g)) k).length=k.length
 |[],k=>rfl
 |g::gs,k=>by rw[foldl_cons,zU f gs,jd]
theorem SV{l:Li}(hs:splitE l=0):(dW (bH l)).length=0/\(dW (dA l)).length=0/\splitG l=findG l:=by
 have h9:(dW (bH l)).length+(dW (dA l)).length=0:=by
  unfold splitE at hs;split at hs
  ·assumption
  ·cases hs
 exact⟨by omega,by omega,by unfold splitG;rw[if_pos hs]⟩
theorem UK{l:Li}{xs:List Tn}{s g:Nat}(W:WkC l xs s g){a:Aq}(h:WkSt l s g 0 a)(H:WkH l xs a):AqFin l xs a:=by
 obtain⟨⟨j,r,E,y,Q,ok,_⟩,hl⟩:=h;obtain⟨hE,hr,hj⟩:=tO ok;obtain⟨r1,r2,r3⟩:=SV W.sp;have h1:=Q.lv;have h4:=rP W.li;refine⟨W.li,W.ln,fun x hx=>⟨(W.ok x hx).2.1,(W.ok x hx).2.2.1,(W.ok x hx).1⟩,⟨r,hr,Q.tw⟩,by omega,fun p hp=>(Q.bs p hp).up (le_refl _) Q.tw.five hE,Q.ln,by omega,?_,?_,?_,H.fr⟩
 ·intro jt hjt;obtain ⟨i,hi⟩:=getElem?_of_mem hjt;have hil:=(List.getElem?_eq_some_iff.1 hi).1;have hlen:(dA l).length = l.jo.length:=by unfold dA; rw [zU Gr.jo,length_replicate]
  have hk:=F5 r2 (i:=i) oz;unfold dA at hk;rcases CX (f:=Gr.jo) _ _ _ hk with h9 |⟨gr,hg,z,hz,e⟩
  ·rw[vY]at h9;cases h9
  ·rw[<- r3]at hg;obtain⟨m,hm⟩:=getElem?_of_mem hg;have hml:=(List.getElem?_eq_some_iff.1 hm).1;have hJ:=H.js m gr oz hm z hz;rw[e,toNat_natCast,aC hi]at hJ;exact hJ
 ·intro i hi;have hlen:(bH l).length = l.bo.length:=by unfold bH; rw [zU Gr.bo,gy]
  have hk:=F5 r1 (i:=i) oz
  have e:bH l=gp l (splitG l) a.ms.length:=by
   unfold gp bH;rw[r3]at hl ⊢;rw[take_of_length_le oz]
  rw[e]at hk;have:=H.cs i oz hk
  rwa [toNat_natCast]at this
 ·intro i d hd;obtain ⟨gr,hg,hk,hb⟩:=BC W.li W.sp d (mem_of_getElem? hd);obtain ⟨m,hm⟩:=getElem?_of_mem hg;have hml:=(List.getElem?_eq_some_iff.1 hm).1;have hD:=H.dr m gr oz hm hk;have eb:eK gr 0 = d.body:=by unfold eK; rw [hb]; rfl
  have hdy:=(W.grp hm).1
  have ed:gr.driver=(i:Int):=by
   cases hdy with
   | @drv b z dd jt x t d0 hd2 hxb =>
    have e2:x.body=d.body:=hxb.trans (by simpa using hb);rcases Nat.lt_trichotomy dd.toNat i with h9 |h9 |h9
    ·exact absurd e2 ((wc W.li hd).2 _ x h9 hd2)
    ·show dd=(i:Int);omega
    ·exact absurd e2.symm ((wc W.li hd2).2 _ d h9 hd)
   |rrr=>exact absurd hk (by simp)
   |pr=>exact absurd hk (by simp)
   |rp=>exact absurd hk (by simp)
  have et:b9 gr xs=xs.getD i gd:=by unfold b9;rw[if_pos hk,ed,toNat_natCast]
  rw[eb,et]at hD;exact hD
theorem KZ{l:Li}(hl:l.ok){xs:List Tn}(hL:ft l xs=true)(hxw:∀x∈xs,x.t.wok){A:List Aq}{e:Nat}(h:mg l xs=(A,e)):∀a∈A,AqFin l xs a:=by
 by_cases h0:dp l xs=0
 ·obtain⟨s,g,W,St⟩:=H7 hL hl hxw h0;have hb:=(cJ W.li).2.2.2;have hw:=C4 W (F:=lr) (sg:=false) (splitG l).length (fT l) St (LE l xs oz);unfold mg at h;rw[if_neg (fun h=>h h0)]at h;intro a ha;split at h
  ·cases h;cases ha
  ·have e1:(pC lr false l xs).1=A:=congrArg Prod.fst h;rw[<- e1]at ha;obtain⟨h1,h2⟩:=hw a ha;exact UK W h1 h2
 ·unfold mg at h;rw[if_pos h0]at h;cases h;intro a ha;cases ha
def lE(s:ByteArray)(n:Int):Bd:=⟨s,[⟨⟨#[97]⟩,rt ((0:Int):Rat),rt ((0:Int):Rat)⟩,⟨⟨#[98]⟩,rt (n:Rat),rt ((0:Int):Rat)⟩]⟩
def fb:Li:=⟨⟨#[102,111,117,114,98,97,114]⟩,[lE ⟨#[102,114,97,109,101]⟩ 4,lE ⟨#[99,114,97,110,107]⟩ 3,lE ⟨#[99,111,117,112,108,101,114]⟩ 5,lE ⟨#[114,111,99,107,101,114]⟩ 6],
  [⟨⟨#[111]⟩,0,1,0,0,0,0⟩,⟨⟨#[112]⟩,0,2,0,1,1,0⟩,⟨⟨#[113]⟩,0,3,0,0,1,0⟩,⟨⟨#[114]⟩,0,2,1,3,1,0⟩],[⟨⟨#[100]⟩,1⟩]⟩
def t0:Tn:=⟨⟨false,[],[]⟩,false⟩
theorem yC(a b:ByteArray):dq a b=(a.data.toList==b.data.toList):=by
 unfold dq;rw[Go.ByteArray.toList_eq,Go.ByteArray.toList_eq]
theorem HJ:ay fb=0:=by
 have h1:gH fb=0:=by
  unfold gH eD dT fO dL;simp only[yC];decide +kernel
 have h2:ee fb=0:=by
  unfold ee eD fH fO;simp only[yC];decide +kernel
 have h3:fN fb=0:=by
  unfold fN eD dD fO;simp only[yC];decide +kernel
 unfold ay;rw[h1,h2,h3];decide +kernel
theorem M8{s:ByteArray}(hs:s.size<=281474976710656){n:Int}(hn:-9223372036854775808<=n/\n<=9223372036854775807) :
  (lE s n).name.size<=281474976710656/\(lE s n).pts.length<=281474976710656/\∀m∈(lE s n).pts,m.name.size<=281474976710656/\m.x.wok/\m.y.wok:=by
 have h0:(rt ((0:Int):Rat)).ok:=(oA oz).ok;have h1:(rt (n:Rat)).ok:=(oA hn).ok;refine⟨hs,by show 2<=_;omega,fun m hm=>?_⟩;simp only[lE,mem_cons,not_mem_nil,or_false]at hm;rcases hm with rfl |rfl
 ·exact⟨by show 1<=_;omega,h0.wok,h0.wok⟩
 ·exact⟨by show 1<=_;omega,h1.wok,h0.wok⟩
theorem Jx:fb.okw:=by
 refine⟨by decide,fun b hb=>?_,fun j hj=>?_,fun d hd=>?_,by decide,by decide,by decide⟩
 ·simp only[fb,mem_cons,not_mem_nil,or_false]at hb;rcases hb with rfl |rfl |rfl |rfl <;> exact M8 (by decide) oz
 ·simp only[fb,mem_cons,not_mem_nil,or_false]at hj;rcases hj with rfl |rfl |rfl |rfl <;> decide
 ·simp only[fb,mem_cons,not_mem_nil,or_false]at hd;rcases hd with rfl;decide
theorem UP:fb.ok:=Au (by decide +kernel) Jx
open Go.Proofs
theorem gV.ofL{l l':List AV}(h:SubL l l')(ho:l'.all AV.one=true):gV (.agg l) (.agg l') :=
 ⟨h.len,fun j x y hx hy=>⟨List.all_eq_true.1 ho y (mem_of_getElem? hy),h.get j x y hx hy⟩⟩
theorem Hl(s:ByteArray)(x y:Int)(hx:-9223372036854775808<=x/\x<=9223372036854775807)(hy:-9223372036854775808<=y/\y<=9223372036854775807):FP 243 [.v (.string s),i64 x,i64 y] (Mk.av ⟨s,rt (x:Rat),rt (y:Rat)⟩):=by
 refine ai func243 ?_;refine gc (yM x hx) ?_;refine gc (yM y hy) ?_;refine af ?_
 first |rfl |(simp;done)
theorem ve(s:ByteArray)(n:Int)(hn:-9223372036854775808<=n/\n<=9223372036854775807):FP 131 [.v (.string s),i64 n] (lE s n).av:=by
 refine ai func131 ?_;refine gc (Hl _ 0 0 oz oz) ?_;refine gc (Hl _ n 0 hn oz) ?_;refine af ?_
 first |rfl |(simp;done)
theorem U6:FP 54 [] fb.av:=by
 refine ai func54 ?_;refine gc (ve _ 4 oz) ?_;refine gc (ve _ 3 oz) ?_;refine gc (ve _ 5 oz) ?_;refine gc (ve _ 6 oz) ?_;refine af ?_
 first |rfl |(simp;done)
deriving instance DecidableEq for Pq
deriving instance DecidableEq for Aq
theorem uC{ts:LL}{r:Nat}(hr:r<=400000000)(h2:ts.length<=2):kB r ts.length<=1200000006:=by
 have h:=gT r h2;have h3:eB r 2=3*r+6:=by simp only[eB];omega
 show eB r ts.length<=_;omega
theorem qJ{ts:LL}(h2:ts.length<=2):lm ts.length=200000000000:=by unfold lm;rw[if_pos h2]
section
variable{l:Li}{xs:List Tn}{a:Aq}(F:AqFin l xs a)
include F
end
theorem IP{l:Li}{xs:List Tn}{A:List Aq}{e:Nat}(h:mg l xs=(A,e))(he:e≠0):A=[]:=by
 unfold mg at h;split at h
 ·exact(congrArg Prod.fst h).symm
 ·split at h
  ·exact(congrArg Prod.fst h).symm
  ·rename_i h1 h2;exact absurd (congrArg Prod.snd h) (fun h9=>h2 (by rw[h9];exact he))
structure AsmS(l:Li)(xs:List Tn)(A:List Aq)(e:Nat):Prop where
  eq:mg l xs=(A,e)
  all:FP 33 [l.av,.lst 4 (xs.map Tn.av)] (.tup [.lst 3 (A.map Aq.av),bg e])
  ln:A.length<=1000
theorem N0{l:Li}(hl:l.ok){xs:List Tn}(hL:ft l xs=true)(hxw:∀x∈xs,x.t.wok):∃A e,AsmS l xs A e:=by
 obtain⟨_,hx20,hxo⟩:=uN hL hxw;have hop:=PL l hl xs hxo oz
 by_cases h0:dp l xs=0
 ·obtain ⟨s, g, W, St⟩:=H7 hL hl hxw h0;have hsl:=rP W.li;have hlb:=(cJ W.li).2.2.2;have hp:2 ^ (splitG l).length <= 256:=le_trans (b7 (b:=8) oz) (by decide);have hw:=Fj W lr false (fo:=198) (caps:=[]) (fun k m _=>Re k m) (splitG l).length (fT l) St [] (by simp only [length_nil]; omega);have hA:=Sy h0 hop oz oz (R:=pC lr false l xs) hw;have hlen:=x8 W lr false (splitG l).length (fT l) St;refine ⟨_,_,⟨?_,hA,?_⟩⟩
  ·unfold mg;rw[if_neg (fun h=>h h0)]
   by_cases hE:(pC lr false l xs).2≠0
   ·rw[if_pos hE,if_pos hE]
   ·rw[if_neg hE,if_neg hE]
  ·split
   ·exact zero_le _
   ·exact le_trans hlen oz
 ·have hA:=So h0 hop;refine⟨[],dp l xs,⟨?_,hA,zero_le _⟩⟩;unfold mg;rw[if_pos h0]
theorem sV{ts:LL}{r e f:Nat}(tw:Tw ts r){x:List Rat}(hx:Nm ts.length e x){v:Rat}(hv:Qb f v)(he:e+2*f+1<=lm ts.length)(hf:f<=9000) :
  FP 308 [aO ts,nA x,qA v] (bl (fM ts (ae ts.length x) (ae ts.length (sh 0 (v:Rat))))):=by
 have hlm:=iJ ts.length;refine ai func308 ?_;refine gc (kK (hv.qs oz)) ?_;refine gc (tZ tw hx (q7 tw.five hv) oz) ?_;refine gD ?_;refine af ?_;exact congrArg bl (Ed _)
theorem RX{ts:LL}{r e:Nat}(tw:Tw ts r){x:List Rat}(hx:Nm ts.length e x)(he:e<=lm ts.length):FP 307 [aO ts,nA x] (bl true):=by
 have h:=NM (ts.map (List.map rt)) r tw.tr (x.map rt) e (hx.rt he)
 have e0:bt (ts.map (List.map rt)) [x.map rt]=0:=by
  unfold bt;rw[if_neg (by rw[tw.chk];simp),length_map];exact pf (fun y hy=>by rw[List.mem_singleton.1 hy];exact nQ hx.nl)
 rw[e0,jp,ep]at h;exact h
theorem IG{ts:LL}{r:Nat}(tw:Tw ts r):FP 144 [aO ts] (bg 0):=by
 have h:=mN (ts.map (List.map rt)) r tw.tr;rw[tw.chk,jp]at h;exact h
structure AqS(l:Li)(a:Aq):Prop where
  li:ay l=0
  tw:∃r,r<=400000000/\Tw a.ts r
  two:a.ts.length<=2
  bs:∀p∈a.bs,Pq.ok a.ts.length 3200000000 p
  ln:a.bs.length=l.bo.length
theorem AqFin.s{l:Li}{xs:List Tn}{a:Aq}(F:AqFin l xs a):AqS l a:=⟨F.li,F.tw,F.two,F.bs,F.ln⟩
theorem yI{l:Li}{a:Aq}(F:AqS l a)(hl:l.ok){body pt:Int}(h1:bi body l.bo.length=true)(h2:bi pt (cz l body).length=true) :
  Nm a.ts.length 12100000000 (sX (bb l a.ts a.bs body pt).1)/\Nm a.ts.length 12100000000 (sX (bb l a.ts a.bs body pt).2):=by
 obtain⟨n,k,bd,m,h⟩:=ou hl F.li h1 h2;obtain⟨r,hr,tw⟩:=F.tw;have hk:=uC hr F.two;obtain⟨p,hp⟩:=ax (l:=a.bs) (i:=n) (by rw[F.ln];exact(List.getElem?_eq_some_iff.1 h.gbd).1);have po:=F.bs p (mem_of_getElem? hp);have e:body.toNat=n:=by have:=h.hn;omega
 have hb:Pq.ok a.ts.length 3200000000 ⟨lq p.pl.c,lq p.pl.s,lq p.pl.x,lq p.pl.y⟩:=by
  unfold Pq.pl;dsimp only;rw[dM,dM,dM,dM];exact po
 have hq:=RV tw hb h.sm;unfold Pq.pl at hq;dsimp only[iV]at hq;rw[dM,dM,dM,dM]at hq;unfold bb;rw[e,aC hp];exact⟨hq.1.mono oz,hq.2.mono oz⟩
def qG(ts:LL)(p:Pq):Bool:=fM ts (oe ts (ae ts.length p.c) (ae ts.length p.s) (ae ts.length p.c) (ae ts.length p.s)) (T.ofQ ts.length 1)
def ox(ts:LL)(p:Pq):Bool:=fM ts (ae ts.length p.c) (T.ofQ ts.length 1)&&fM ts (ae ts.length p.s) (T.ofQ ts.length 0)&&fM ts (ae ts.length p.x) (T.ofQ ts.length 0)&&fM ts (ae ts.length p.y) (T.ofQ ts.length 0)
def kr(l:Li)(a:Aq)(j:Jt):Bool :=
  if j.kind=0 then decide (T.sgn (au a.ts) a.ts.length (subT a.ts (bb l a.ts a.bs j.a j.point).1 (bb l a.ts a.bs j.b j.on).1)=0/\T.sgn (au a.ts) a.ts.length (subT a.ts (bb l a.ts a.bs j.a j.point).2 (bb l a.ts a.bs j.b j.on).2)=0)
  else decide (T.sgn (au a.ts) a.ts.length (rh a.ts (bb l a.ts a.bs j.b j.on).1 (bb l a.ts a.bs j.b j.on).2 (bb l a.ts a.bs j.b j.to).1 (bb l a.ts a.bs j.b j.to).2 (bb l a.ts a.bs j.a j.point).1 (bb l a.ts a.bs j.a j.point).2)=0)
theorem BF{ts:LL}{p:Pq}(h:CH ts p):qG ts p=true:=decide_eq_true h
theorem GG(ts:LL):ox ts gh=true:=by
 unfold ox gh;dsimp only;rw[ku,je,T.ofQ_zero,wG,wG];rfl
theorem EB{l:Li}{a:Aq}{j:Jt}(h:JH l a.ts a.bs j):kr l a j=true:=by
 unfold JH at h;unfold kr;split
 ·rename_i hk;rw[if_pos hk]at h;exact decide_eq_true h
 ·rename_i hk;rw[if_neg hk]at h;exact decide_eq_true h
def Pq.l(p:Pq):LL:=[p.c,p.s,p.x,p.y]
theorem Pq.ok.mem{n e:Nat}{p:Pq}(h:Pq.ok n e p):∀x∈p.l,Nm n e x:=by
 intro x hx;simp only[Pq.l,mem_cons,not_mem_nil,or_false]at hx;rcases hx with rfl |rfl |rfl |rfl
 ·exact h.c
 ·exact h.s
 ·exact h.x
 ·exact h.y
theorem Mb{ts:LL}{r e:Nat}(tw:Tw ts r){p:Pq}(hp:Pq.ok ts.length e p)(he:e+1000<=lm ts.length):FP 213 [aO ts,p.av] (bl (ox ts p)):=by
 have hlm:=iJ ts.length
 have h1:FP 308 [aO ts,nA p.c,qA ((1:Int):Rat)] (bl (fM ts (ae ts.length p.c) (T.ofQ ts.length 1))):=by
  have h:=sV tw hp.c Qb.one oz oz;rw[fR]at h;exact h
 have h0:∀x:List Rat,Nm ts.length e x->FP 308 [aO ts,nA x,.agg [.v (.bool false),nS,nS]] (bl (fM ts (ae ts.length x) (T.ofQ ts.length 0))):=fun x hx=>by
  have h:=sV tw hx Qb.zero oz oz;rw[fR]at h;exact Con.sA (.cons (.refl _) (.cons (.refl _) (.cons ja .nil))) h
 refine ai func213 ?_;refine gc (km 1 oz) ?_;refine gc h1 ?_;refine bM (fun _=>(h0 _ hp.s)) ?_;refine bM (fun _=>(h0 _ hp.x)) ?_;refine bM (fun _=>(h0 _ hp.y)) ?_;refine gD ?_;refine af ?_;exact congrArg bl (Ih _ _ _ _)
theorem OU{l:Li}{a:Aq}(F:AqS l a){p:Pq}(hpm:p∈a.bs):FP 212 [aO a.ts,p.av] (bl (qG a.ts p)):=by
 obtain⟨r,hr,tw⟩:=F.tw;have hkb:=uC hr F.two;have hlm:=qJ F.two;have hp:=F.bs p hpm;refine ai func212 ?_;refine ge rfl ?_;refine aN [2,3,18,19] [2,3] (fun(k:Nat)=>[(20,some (i64 k))]) (fun _=>[]) (fun k=>k<=4) (fun k=>4-k) 0 (zero_le _) ?_;rintro k hk K1 J1;refine gC (fun t21=>?_) (fun t21=>?_)
 ·have hkn:k<4:=aS (b:=4) t21;obtain⟨x,hx⟩:∃x,p.l[k]?=some x:=ax (l:=p.l) hkn;refine gi (aA hx) ?_;refine gc (RX tw (hp.mem x (mem_of_getElem? hx)) oz) ?_;refine gC (fun t27=>?_) (fun t27=>?_) (st1:=(5,0));cases t27;refine ga aF ?_;exact aH J1 (k+1) hkn
 have hdn:=xu tw hp.c hp.s hp.c hp.s;have hdot:=v5 tw hp.c hp.s hp.c hp.s oz;have heq:=sV tw hdn Qb.one oz oz;rw[a7,fR]at heq;refine gc hdot ?_;refine bM (fun _=>(km 1 oz)) ?_;refine bM (fun _=>heq) ?_;refine gD ?_;refine af ?_;rfl
def sQ(ts:LL)(p:Pq)(x:Tn):Bool:=fM ts (ae ts.length p.c) (ae ts.length (sh 0 (bV x.half x.t.q:Rat)))&&fM ts (ae ts.length p.s) (ae ts.length (sh 0 (cm x.half x.t.q:Rat)))
theorem QU{ts:LL}{r e:Nat}(tw:Tw ts r){p:Pq}(hp:Pq.ok ts.length e p)(hle:e+20000<=lm ts.length){x:Tn}(hx:x.t.ok)(he:x.err=0)(hq:Qb 1000 x.t.q) :
  FP 219 [aO ts,p.av,x.av] (bl (sQ ts p x)):=by
 have hc:=ut x hx hq oz;rw[if_pos he,he]at hc;have hs:=Ac x hx hq oz;rw[if_pos he,he]at hs;refine ai func219 ?_;refine gc hc ?_;refine gC (fun t16=>?_) (fun t16=>?_) (st1:=(3,0));cases t16;refine gc hs ?_;refine bM (fun _=>(sV tw hp.c (Kb x.half hq) oz oz)) ?_;refine bM (fun _=>(sV tw hp.s (Nd x.half hq) oz oz)) ?_;refine af ?_;exact congrArg bl (ig _ _)
theorem yv{l:Li}(hl:l.ok){a:Aq}(F:AqS l a){body pt:Int}(h1:bi body l.bo.length=true)(h2:bi pt (cz l body).length=true) :
  FP 309 [l.av,a.av,i64 body,i64 pt] (.tup [aI (sX (bb l a.ts a.bs body pt).1) (sX (bb l a.ts a.bs body pt).2),.v .nilIface]):=by
 obtain⟨n,k,bd,m,h⟩:=ou hl F.li h1 h2;obtain⟨r,hr,tw⟩:=F.tw;have hkb:=uC hr F.two;have hlm:=qJ F.two;have hlb:=(cJ F.li).2.2.2.1;obtain⟨p,hp⟩:=ax (l:=a.bs) (i:=n) (by rw[F.ln];exact(List.getElem?_eq_some_iff.1 h.gbd).1);have po:=F.bs p (mem_of_getElem? hp);have hn:=h.hn;have hk:=h.hk
 have e:bb l a.ts a.bs body pt=e8 a.ts p (aX l body pt):=by
  unfold bb;rw[hn,toNat_natCast,aC hp]
 have hat:FP 89 [aO a.ts,p.av,m.x.av,m.y.av] (.tup [aI (sX (bb l a.ts a.bs body pt).1) (sX (bb l a.ts a.bs body pt).2),.v .nilIface]):=by
  rw[h.ex,h.ey,e];exact Cu tw po.c po.s po.x po.y (h.sm.x.mono oz) (h.sm.y.mono oz) oz
 have gb:=h.gbd;have gm:=h.gm;clear h h1 h2 e;subst hn;subst hk;refine ai func309 ?_;refine gi (aA gb) ?_;refine gi (aA gm) ?_;refine gi (aA hp) ?_;refine gc hat ?_;refine gD ?_;refine bh ?_
 first |rfl |(simp;done)
theorem NC{l:Li}(hl:l.ok){a:Aq}(F:AqS l a){i:Nat}{j:Jt}(hj:l.jo[i]?=some j):FP 216 [l.av,a.av,j.av] (bl (kr l a j)):=by
 obtain⟨r,hr,tw⟩:=F.tw;have hkb:=uC hr F.two;have hlm:=qJ F.two;obtain⟨i1,i2,i3,i4,i5⟩:=dx F.li hj;have np:=yI F hl i1 i3;have nq:=yI F hl i2 i4;have ed:∀y:Et a.ts,ae a.ts.length (sX y)=y:=fun y=>a7 _ _
 refine ai func216 ?_;refine gc (yv hl F i1 i3) ?_;refine gC (fun t25=>?_) (fun t25=>?_) (st1:=(3,0));cases t25;refine gc (yv hl F i2 i4) ?_;refine gC (fun t37=>?_) (fun t37=>?_) (st1:=(6,0));cases t37;refine gC (fun t40=>?_) (fun t40=>?_)
 ·have hk:j.kind=0:=cM t40;have hsame:=My tw np.1 np.2 nq.1 nq.2 oz;rw[ed,ed,ed,ed]at hsame;refine gc hsame ?_;refine af ?_;unfold kr;rw[if_pos hk];rfl
 have hk:j.kind≠0:=dJ t40;have nr:=yI F hl i2 (i5 hk);have hor:=Jy tw nq.1 nq.2 nr.1 nr.2 np.1 np.2 oz;rw[ed,ed,ed,ed,ed,ed]at hor;refine gc (yv hl F i2 (i5 hk)) ?_;refine gC (fun t65=>?_) (fun t65=>?_) (st1:=(12,0));cases t65;refine gc hor ?_;refine af ?_;unfold kr;rw[if_neg hk];exact congrArg bl (Ed _)
theorem MB(bs:List Pq)(hl:bs.length<=281474976710656)(f:FuncId)(c:List AV)(ok:Nat->Bool)
  (hf:∀(i:Nat)(b:Pq),bs[i]?=some b->(∀j,j<i->ok j=true)->FP f ([i64 i,b.av]++[.iptr c]) (bl (!ok i))) :
  FP 210 [.lst 4 (bs.map Pq.av),.fn f [.iptr c]] (i64 (iX (bU bs.length ok))):=by
 refine ai func210 ?_;refine gl ?_;refine aN [1,7,8] [] (fun(i:Nat)=>[(9,some (i64 i))]) (fun _=>[]) (fun i=>i<=bs.length/\∀j,j<i->ok j=true) (fun i=>bs.length-i) 0 ⟨zero_le _,fun j h=>by omega⟩ ?_;rintro i ⟨hi,hj⟩ K1 J1;refine gC (fun t10=>?_) (fun t10=>?_)
 ·have hin:=aS t10;obtain⟨b,hb⟩:=ax hin;refine gi (aA hb) ?_;refine gs (wg (.tmp rfl) (hf i b hb hj) (bm rfl rfl) aB rfl rfl) ?_;refine gC (fun t17=>?_) (fun t17=>?_)
  ·have h2:=cI t17;refine af ?_;rw[fL hin hj h2];rfl
  have h2:=cH t17;refine ga aF ?_;exact aH J1 (i+1) ⟨hin,fun j h9=>by rcases lt_or_ge j i with g |g;exact hj j g;(have:j=i:=by omega);subst this;exact h2⟩
 have hin:=aZ hi t10;subst hin;refine af ?_;rw[eP hj];rfl
theorem R9(bs:List Jt)(hl:bs.length<=281474976710656)(f:FuncId)(c d:List AV)(ok:Nat->Bool)
  (hf:∀(i:Nat)(b:Jt),bs[i]?=some b->(∀j,j<i->ok j=true)->FP f ([i64 i,b.av]++[.iptr c,.iptr d]) (bl (!ok i))) :
  FP 214 [.lst 7 (bs.map Jt.av),.fn f [.iptr c,.iptr d]] (i64 (iX (bU bs.length ok))):=by
 refine ai func214 ?_;refine gl ?_;refine aN [1,7,8] [] (fun(i:Nat)=>[(9,some (i64 i))]) (fun _=>[]) (fun i=>i<=bs.length/\∀j,j<i->ok j=true) (fun i=>bs.length-i) 0 ⟨zero_le _,fun j h=>by omega⟩ ?_;rintro i ⟨hi,hj⟩ K1 J1;refine gC (fun t10=>?_) (fun t10=>?_)
 ·have hin:=aS t10;obtain⟨b,hb⟩:=ax hin;refine gi (aA hb) ?_;refine gs (wg (.tmp rfl) (hf i b hb hj) (bm rfl rfl) aB rfl rfl) ?_;refine gC (fun t17=>?_) (fun t17=>?_)
  ·have h2:=cI t17;refine af ?_;rw[fL hin hj h2];rfl
  have h2:=cH t17;refine ga aF ?_;exact aH J1 (i+1) ⟨hin,fun j h9=>by rcases lt_or_ge j i with g |g;exact hj j g;(have:j=i:=by omega);subst this;exact h2⟩
 have hin:=aZ hi t10;subst hin;refine af ?_;rw[eP hj];rfl
theorem MX(bs:List Dr)(hl:bs.length<=281474976710656)(f:FuncId)(c d:List AV)(ok:Nat->Bool)
  (hf:∀(i:Nat)(b:Dr),bs[i]?=some b->(∀j,j<i->ok j=true)->FP f ([i64 i,b.av]++[.iptr c,.iptr d]) (bl (!ok i))) :
  FP 217 [.lst 2 (bs.map Dr.av),.fn f [.iptr c,.iptr d]] (i64 (iX (bU bs.length ok))):=by
 refine ai func217 ?_;refine gl ?_;refine aN [1,7,8] [] (fun(i:Nat)=>[(9,some (i64 i))]) (fun _=>[]) (fun i=>i<=bs.length/\∀j,j<i->ok j=true) (fun i=>bs.length-i) 0 ⟨zero_le _,fun j h=>by omega⟩ ?_;rintro i ⟨hi,hj⟩ K1 J1;refine gC (fun t10=>?_) (fun t10=>?_)
 ·have hin:=aS t10;obtain⟨b,hb⟩:=ax hin;refine gi (aA hb) ?_;refine gs (wg (.tmp rfl) (hf i b hb hj) (bm rfl rfl) aB rfl rfl) ?_;refine gC (fun t17=>?_) (fun t17=>?_)
  ·have h2:=cI t17;refine af ?_;rw[fL hin hj h2];rfl
  have h2:=cH t17;refine ga aF ?_;exact aH J1 (i+1) ⟨hin,fun j h9=>by rcases lt_or_ge j i with g |g;exact hj j g;(have:j=i:=by omega);subst this;exact h2⟩
 have hin:=aZ hi t10;subst hin;refine af ?_;rw[eP hj];rfl
def lc(ts:LL)(i:Nat)(p:Pq):Bool:=qG ts p&&(decide (0<i)||ox ts p)
theorem Td(ts:LL)(i:Nat)(p:Pq):cond (!qG ts p) true (cond (aa .eql (i:Int) 0) (!ox ts p) false)=!lc ts i p:=by
 unfold lc
 have e:aa .eql (i:Int) 0=!decide (0<i):=by
  rw[pi,<- decide_not];exact decide_eq_decide.2 oz
 rw[e];cases qG ts p <;> cases decide (0<i) <;> cases ox ts p <;> rfl
theorem Jk{l:Li}{a:Aq}(F:AqS l a){i:Nat}{p:Pq}(hp:a.bs[i]?=some p):FP 211 [i64 i,p.av,.iptr a.cs] (bl (!lc a.ts i p)):=by
 obtain⟨r,hr,tw⟩:=F.tw;have hlm:=qJ F.two;have hpm:=mem_of_getElem? hp;refine ai func211 ?_;refine gc (OU F hpm) ?_;refine bM (fun _=>(Mb tw (F.bs p hpm) oz)) ?_;refine af ?_;exact congrArg bl (Td _ _ _)
theorem L3{l:Li}(hl:l.ok){a:Aq}(F:AqS l a){i:Nat}{j:Jt}(hj:l.jo[i]?=some j):FP 215 [i64 i,j.av,.iptr l.av.cells,.iptr a.cs] (bl (!kr l a j)):=by
 refine ai func215 ?_;refine gc (NC hl F hj) ?_;refine af ?_;rfl
def ko(l:Li)(ys:List Tn)(a:Aq)(i:Nat):Bool:=sQ a.ts (a.bs.getD (l.dv.getD i default).body.toNat bc) (ys.getD i gd)
def fp(l:Li)(ys:List Tn)(a:Aq):Nat×Nat:=match bU a.bs.length (fun i=>lc a.ts i (a.bs.getD i bc))with
  |some i=>(2,i)
  |none=>match bU l.jo.length (fun i=>kr l a (l.jo.getD i default))with
    |some i=>(3,i)
    |none=>match bU l.dv.length (ko l ys a)with
      |none=>(0,0)
      |some i=>(4,i)
theorem U2{l:Li}{ys:List Tn}{a:Aq}:(((fp l ys a).1:Int)==0&&((fp l ys a).2:Int)==0)=(decide ((0:Nat)=0)&&decide ((fp l ys a).1=0)):=by
 unfold fp;split
 ·rfl
 ·split
  ·rfl
  ·split <;> rfl
theorem JZ{l:Li}{a:Aq}(F:AqS l a){ys:List Tn}(hy:∀x∈ys,x.t.ok/\x.err=0/\Qb 1000 x.t.q)(hyl:ys.length=l.dv.length){i:Nat}{d:Dr}(hd:l.dv[i]?=some d) :
  FP 218 [i64 i,d.av,.iptr a.cs,.iptr [.lst 4 (ys.map Tn.av)]] (bl (!ko l ys a i)):=by
 have hin:=(List.getElem?_eq_some_iff.1 hd).1;have hd2:=rZ F.li;have hbl:=(cJ F.li).2.2.2.1;have hln:=F.ln;obtain⟨r,hr,tw⟩:=F.tw;have hlm:=qJ F.two;have hdb:=c9 (kP F.li hd);obtain⟨p,hp⟩:=ax (l:=a.bs) (i:=d.body.toNat) oz;obtain⟨x,hx⟩:=ax (l:=ys) (i:=i) oz;have hxo:=hy x (mem_of_getElem? hx);have ht:=QU tw (F.bs p (mem_of_getElem? hp)) oz hxo.1 hxo.2.1 hxo.2.2
 have e:ko l ys a i=sQ a.ts p x:=by
  unfold ko;rw[aC hd,aC hp,aC hx]
 refine ai func218 ?_;refine gi (aA hp) ?_;refine gi (aA hx) ?_;refine gc ht ?_;refine gD ?_;refine af ?_;rw[e];rfl
theorem OD{l:Li}(hl:l.ok){a:Aq}(F:AqS l a){ys:List Tn}(hy:∀x∈ys,x.t.ok/\x.err=0/\Qb 1000 x.t.q)(hyl:ys.length=l.dv.length) :
  FP 106 [l.av,.lst 4 (ys.map Tn.av),a.av] (Hf (fp l ys a)):=by
 obtain⟨r,hr,tw⟩:=F.tw;have hbl:=(cJ F.li).2.2.2.1;have hln:=F.ln;refine ai func106 ?_ (1,0);refine gW ((Wk.freezeB (k:=3) rfl rfl).trans<|(Wk.freezeB (k:=4) rfl rfl).trans<|(Wk.freezeB (k:=5) rfl rfl).trans<|Wk.o (sl:=[(3,some (.iptr l.av.cells)),(4,some (.iptr [.lst 4 (ys.map Tn.av)])),(5,some (.iptr a.cs)),(6,some (.ptr 6 0))]) (hp:=[(6,some (.box [i64 0,i64 0]))])) ?_;refine gc (IG tw) ?_;refine cF ?_;refine cF ?_;refine gC (fun t22=>?_) (fun t22=>?_) (st1:=(2,0));exact((J0 t22).elim (fun h=>h rfl) (fun h=>h hln)).elim;refine gc (MB a.bs oz 211 a.cs (fun i=>lc a.ts i (a.bs.getD i bc)) (fun i b hb _=>by have h:=Jk F hb;rw[<- aC (d:=bc) hb]at h ⊢;exact h)) ?_;refine gC (fun t29=>?_) (fun t29=>?_)
 ·obtain⟨i,hi⟩:=ya t29;refine af ?_;unfold fp;rw[hi];rfl
 have f1:=AZ t29;refine gc (R9 l.jo hl.lj 215 l.av.cells a.cs (fun i=>kr l a (l.jo.getD i default)) (fun i j hj _=>by have h:=L3 hl F hj;rw[<- aC (d:=default) hj]at h ⊢;exact h)) ?_;refine gC (fun t37=>?_) (fun t37=>?_)
 ·obtain⟨i,hi⟩:=ya t37;refine af ?_;unfold fp;rw[f1,hi];rfl
 have f2:=AZ t37;refine gc (MX l.dv hl.ld 218 a.cs [.lst 4 (ys.map Tn.av)] (ko l ys a) (fun i d hd _=>JZ F hy hyl hd)) ?_;refine gC (fun t45=>?_) (fun t45=>?_)
 ·obtain⟨i,hi⟩:=ya t45;refine af ?_;unfold fp;rw[f1,f2,hi];rfl
 have f3:=AZ t45;refine af ?_;unfold fp;rw[f1,f2,f3];rfl
theorem Ae{l:Li}(hl:l.ok){a:Aq}(F:AqS l a)(ys:List Tn)(hy:∀x∈ys,x.t.ok/\Qb 1000 x.t.q)(hyl:ys.length<=281474976710656) :
  FP 37 [l.av,.lst 4 (ys.map Tn.av),a.av] (.tup [bl (decide (fX l ys=0)&&decide ((fp l ys a).1=0)),Hf (if fX l ys=0 then fp l ys a else(0,0)),bg (fX l ys)]):=by
 have hld:=hl.ld;refine ai func37 ?_;refine gc (A6 l hl) ?_;refine gC (fun t17=>?_) (fun t17=>?_) (st1:=(3,0));exact absurd F.li (cE t17);have h1:=F.li;refine gl ?_;refine gl ?_;refine gC (fun t25=>?_) (fun t25=>?_)
 ·have h2 : ys.length ≠ l.dv.length := by have := lN t25; omega
  have hb:fX l ys≠0:=by rw[GL h1 h2];decide
  refine vH ?_;rw[if_neg hb,decide_eq_false hb,GL h1 h2];rfl
 have h2:ys.length=l.dv.length:=by have:=oI t25;omega
 refine gl ?_;refine aN [1,3,5,7,28,29] [3,5,7] (fun(i:Nat)=>[(30,some (i64 i))]) (fun _=>[]) (fun i=>i<=ys.length/\∀x∈ys.take i,x.err=0) (fun i=>ys.length-i) 0 ⟨zero_le _,fun x hx=>by simp at hx⟩ ?_;rintro i ⟨hi,hj⟩ K1 J1;refine gC (fun t31=>?_) (fun t31=>?_)
 ·have hin:=aS t31;obtain⟨x,hxx⟩:=ax hin;refine gi (aA hxx) ?_;refine gc (sF x (hy x (mem_of_getElem? hxx)).1) ?_;refine gC (fun t37=>?_) (fun t37=>?_)
  ·have h3:=cE t37;have hb:fX l ys ≠ 0:=by rw [z8 h1 h2 hxx hj h3]; exact h3
   refine vH ?_;rw[if_neg hb,decide_eq_false hb,z8 h1 h2 hxx hj h3];rfl
  have h3:=cC t37;refine ga aF ?_;exact aH J1 (i+1) ⟨hin,fun y hy=>by rw[dG hxx]at hy;rcases List.mem_append.1 hy with h9 |h9;exact hj y h9;(rw[List.mem_singleton.1 h9];exact h3)⟩
 have hin:=aZ hi t31;subst hin;rw[take_length]at hj;have hb:=zf h1 h2 hj;refine gc (OD hl F (fun x h9=>⟨(hy x h9).1,hj x h9,(hy x h9).2⟩) h2) ?_;refine gs (DQ (.tmp rfl) (.tmp rfl) (by kernel_rfl) rfl) ?_;refine gD ?_;refine vH ?_;rw[hb,if_pos rfl,U2];rfl
theorem P4(ps:List Pse)(hps:∀p∈ps,p.rok)(hpl:ps.length<=281474976710656):FP 202 [.lst 10 (ps.map Pse.av)] (bg (gS ps)):=by
 refine ai func202 ?_;refine gl ?_;refine aN [5,6] [] (fun(i:Nat)=>[(7,some (i64 i))]) (fun _=>[]) (fun i=>i<=ps.length/\(ps.take i).all Pse.ok=true) (fun i=>ps.length-i) 0 ⟨zero_le _,rfl⟩ ?_;rintro i ⟨hi,hj⟩ K1 J1;refine gC (fun t8=>?_) (fun t8=>?_)
 ·have hin:=aS t8;obtain⟨p,hp⟩:=ax hin;have hpo:=hps p (mem_of_getElem? hp);refine gi (aA hp) ?_;refine gc (sF p.turn hpo.t) ?_;refine bM (fun _=>(nP p.at_.x hpo.x)) ?_;refine bM (fun _=>(nP p.at_.y hpo.y)) ?_;refine gC (fun t28=>?_) (fun t28=>?_)
  ·have h1:p.ok=false:=Jn t28;refine af ?_;rw[Om (iD hp h1)];rfl
  have h1:p.ok=true:=IH t28;refine ga aF ?_;exact aH J1 (i+1) ⟨hin,jz hj hp h1⟩
 have hin:=aZ hi t8;refine af ?_;rw[GN (j7 hin hj)];rfl
theorem NU(p:Pse)(hp:p.lok)(ho:p.ok=true):FP 203 [p.av] (.tup [(fy p).av,.v .nilIface]):=by
 have he:=(IE ho).1;have hc:=ut p.turn hp.ok.t hp.t oz;rw[if_pos he,he]at hc;have hs:=Ac p.turn hp.ok.t hp.t oz;rw[if_pos he,he]at hs;refine ai func203 ?_;refine gc hc ?_;refine gC (fun t14=>?_) (fun t14=>?_) (st1:=(3,0));cases t14;refine gc hs ?_;refine gC (fun t24=>?_) (fun t24=>?_) (st1:=(6,0));cases t24;refine gc (kK ((oi hp.t).qs oz)) ?_;refine gc (kK ((qd hp.t).qs oz)) ?_;refine gc (yX p.at_.x hp.ok.x (hp.x.qs oz)) ?_;refine gc (yX p.at_.y hp.ok.y (hp.y.qs oz)) ?_;refine gD ?_;refine bh ?_;rfl
theorem Bx(ps:List Pse)(hps:∀p∈ps,p.lok)(hpl:ps.length<=20):FP 102 [.lst 10 (ps.map Pse.av)] (.tup [vc (ofL ps),bg (gS ps)]):=by
 refine ai func102 ?_;refine gc (P4 ps (fun p hp=>(hps p hp).ok) oz) ?_;refine gC (fun t13=>?_) (fun t13=>?_)
 ·have h1:=cE t13;have h2:ps.all Pse.ok=false:=Bool.eq_false_iff.2 (fun h=>h1 (GN h));refine gR ?_;exact dV (by rw[LZ h2];exact Sub.tup (.cons Lo (.cons (.refl _) .nil)))
 have h1:=cC t13;have h2:=Dz h1;rw[all_eq_true]at h2;refine gl ?_;refine gW (Wk.virt 900 4 rfl) ?_;refine aN [2,5,16,17] [2] (fun(i:Nat)=>[(18,some (i64 i))]) (fun i=>[(5,some (.box [nS,.ms 900 4 0 i,nS])),(900,some (.row 4 (((ps.take i).map fy).map Pq.av)))]) (fun i=>i<=ps.length) (fun i=>ps.length-i) 0 (zero_le _) ?_ (h2:=(.cons rfl (BlkSub.bL (.cons (.refl _) (.cons (.nM _ _ _) (.cons (.refl _) .nil))) rfl) (.k .nil)));rintro i hi K1 J1;refine gC (fun t19=>?_) (fun t19=>?_) (st2:=(13,0))
 ·have hin:=aS t19;obtain⟨p,hp⟩:=ax hin;have hpm:=mem_of_getElem? hp;refine gi (aA hp) ?_;refine gc (NU p (hps p hpm) (h2 p hpm)) ?_;refine gC (fun t28=>?_) (fun t28=>?_) (st1:=(10,0));cases t28;refine gs (ci (.tmp rfl) rfl (by rw[length_map,length_map,length_take];omega) (.tmp rfl) T38 rfl T69 rfl rfl (by dsimp only;simp only[length_cons,length_nil];omega) rfl rfl) ?_ (12,0);refine gW (Wk.of (sl:=[(2,some (.ptr 2 0)),(5,some (.ptr 5 0)),(16,some (.lst 10 (ps.map Pse.av))),(17,some (i64 ps.length)),(18,some (i64 i))]) (hp:=[(2,some (.box [nS,nS,nS])),(5,some (.box [nS,.ms 35 4 0 (i+1),nS])),(35,some (.row 4 (((ps.take (i+1)).map fy).map Pq.av)))]) aW (.k (.k (.cons rfl (BlkSub.of (by rw[dG hp,map_append,map_append];rfl)) .nil)))) ?_ (12,0);refine gW (Wk.rk (k:=35) (d:=900) rfl rfl) ?_;refine ga aF ?_;exact aH J1 (i+1) hin
 have hin:=aZ hi t19;subst hin;refine gW ((Wk.freeze (k:=900) rfl).trans<|Wk.of (sl:=[(2,some (.ptr 2 0)),(5,some (.ptr 5 0))]) (hp:=[(2,some (.box [nS,nS,nS])),(5,some (.box [nS,.lst 4 ((ps.map fy).map Pq.av),nS]))]) aW (.k (.cons rfl (BlkSub.bL (.cons (.refl _) (.cons (Sub.of (by rw[bJ (by rw[length_map,length_map,length_take];omega),take_length])) (.cons (.refl _) .nil))) rfl) .nil))) ?_;refine gR ?_;exact dV (by rw[CV (List.all_eq_true.2 h2),h1];exact Sub.tup (.cons O7 (.cons (.refl _) .nil)))
end Go.Lw
