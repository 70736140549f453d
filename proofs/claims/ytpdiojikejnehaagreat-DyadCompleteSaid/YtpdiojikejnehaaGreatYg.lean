/- DyadComplete: for anything drawn and any group the law returns true and leaves its arguments as they were. No other condition. Part 7 of 8: what the later parts need -/
import Derived.Test.YtpdiojikejnehaaGreatYf
set_option linter.unusedVariables false
open List (mem_of_getElem? mem_cons_of_mem mem_cons length_cons mem_cons_self length_append length_nil getD_eq_getElem?_getD getElem?_map nil_append map_append length_take not_mem_nil length_map map_map length_set)
open Nat (le_refl lt_or_ge le_trans zero_le pow_add)
open Bool (and_eq_true or_eq_true)
open Int (toNat_natCast)
open Go.Proofs.Tryz
namespace Go.Lw
open Go.Proofs
def p6(l:Li)(a:As)(g:Gr):List Rat:=if g.kind=0 then sh 0 ((1:Int):Rat)else sX (gh l a g)
theorem me{p q:Rat×Rat}(hp:Sm 1000 p)(hq:Sm 1000 q):Qz 310000 (aZ p q) 3:=oL (P6 hp hq) oz
theorem UX{l:Li}{k:Int}{a:As}{E:Nat}(hop:FP 63 [l.av,i64 k,a.av,bl false] (.tup [.v (.pointer none),cg E]))(h0:E≠0)(L:List Rat) :
  FP 22 [l.av,i64 k,a.av] (.tup [nA (if E=0 then L else[]),cg E]):=by
 refine aj func22 ?_;refine gc (hop) ?_;refine gC (fun t27=>?_) (fun t27=>?_) (st2:=(77777,0))
 ·refine gR ?_;exact ef (by rw[if_neg h0];exact Sub.tup (.cons (.nil _ _ _) (.cons (.refl _) .nil)))
 exact absurd (eM t27) h0
theorem O3{l:Li}{k:Int}{a:As}{n:Nat}{g:Gr}(hop:Con prog 63 [l.av,i64 k,a.av,bl false] [] (.tup [.ptr 900 0,.v .nilIface]) [(900,some (cm l g a))])(D:DyR l a)(ok:DyOk 3900000 l k a false n g) :
  FP 22 [l.av,i64 k,a.av] (.tup [nA (p6 l a g),.v .nilIface]):=by
 haveI c:=D.s.ct D.hc;have hgo:=ok.ok;have hbl:=D.al.bl;refine aj func22 ?_;refine gt (aJ hop (.cons (.tmp rfl) (.cons (.tmp rfl) (.cons (.tmp rfl) (.cons (.const _) .nil)))) aM rfl rfl) ?_ (2,0);refine gW (Wk.o (sl:=[(5,some (.ptr 5 0)),(8,some (.ptr 900 0)),(9,some (.v .nilIface))]) (hp:=[(5,some (.box a.av.cells)),(900,some (cm l g a))])) ?_;refine gC (fun t27=>?_) (fun t27=>?_) (st1:=(3,0)) (st2:=(5,0));cases t27;refine gW (Wk.o (sl:=[(5,some (.ptr 5 0)),(8,some (.ptr 900 0)),(10,some (.ptr 32 0))]) (hp:=[(5,some (.box a.av.cells)),(900,some (cm l g a)),(32,some (df a.rs))])) ?_ (8,0);refine Am [10] [32] [(11,some (nA (sX (gh l a g))))] [] (g.kind≠0) ?_ ?_ 2
 ·intro K1 J1;refine gC (fun t43=>?_) (fun t43=>?_)
  ·have hk:g.kind=0:=cK t43;have hd:p6 l a g=sh 0 ((1:Int):Rat):=if_pos hk;rw[hd];refine gc (Tt) ?_;refine gR ?_;exact lM rfl
  have hk0:g.kind≠0:=dj t43;refine gC (fun t46=>?_) (fun t46=>?_)
  ·have hk:g.kind = 1:=cK t46;obtain ⟨i,k2,z0,z1,z2,j0,j1,j2,P⟩:=ok.rrr hk;have hE:=LP P;obtain rfl:=P.eq;have hq0:=ft D.hl D.li P.h0 (by rcases P.p0.tie with h9 | h9; exact .inl h9.1; exact .inr h9.2.1);have hq1:=ft D.hl D.li P.h1 (by rcases P.p1.tie with h9 | h9; exact .inl h9.1; exact .inr h9.2.1);have hq2:=ft D.hl D.li P.h2 P.t1;have hq3:=ft D.hl D.li P.h2 P.t2;rw [qu,qu] at hE;obtain ⟨y1,y2⟩:=jU D.hl D.li D.al D.s D.hc P.h0 P.p0;obtain ⟨y3,y4⟩:=jU D.hl D.li D.al D.s D.hc P.h1 P.p1;haveI:=y1; haveI:=y2; haveI:=y3; haveI:=y4
   haveI:=me hq2 hq0;haveI:=me hq3 hq1;have hr:=Lh (a:=sX (ax l a j0 i).1) (b:=sX (ax l a j0 i).2) (c:=sh 0 (aZ (ai l j2 i) (ai l j0 i):Rat)) (a2:=sX (ax l a j1 k2).1) (b2:=sX (ax l a j1 k2).2) (c2:=sh 0 (aZ (ai l j2 k2) (ai l j1 k2):Rat)) D.s.tr D.hc (rU _ _) (rU _ _);refine gt (aJ (Con.rB 900 rfl rfl rfl rfl (Ia D.hl D.li D.al D.hc D.two hgo P.h0 P.h1 P.h2 P.p0 P.p1 P.t1 P.t2)) (cZ rfl) aM rfl rfl) ?_;refine gc (pv hq0 hq2 _) ?_;refine gc (pv hq1 hq3 _) ?_;refine gc hr ?_;refine gt (aX (Con.rB 32 rfl rfl rfl rfl (oo _ _)) (aL rfl rfl rfl) rfl rfl rfl) ?_;refine gD ?_;exact o6 J1 hk0 (hw:=Wk.of (.cons rfl (Sub.of (congrArg (fun z=>nA (sX z)) hE.symm)) (.k .nil)) (.k .nil))
  have hk1:g.kind≠1:=dj t46;refine gC (fun t73=>?_) (fun t73=>?_)
  ·have hk:g.kind = 2:=cK t73;obtain ⟨i,z0,z1,j0,j,P,ha,hb⟩:=ok.pr hk;have hE:=U0 P;obtain rfl:=P.eq;obtain ⟨i1,i2,i3,i4,i5⟩:=dw D.li P.h1;have hq:Sm 1000 (aB l i j.point):=by rw [<- ha]; exact jQ D.hl D.li i1 i3
   have hq0:=ft D.hl D.li P.h0 (by rcases P.p0.tie with h9 |h9;exact .inl h9.1;exact .inr h9.2.1);rw[qu]at hE;obtain⟨y1,y2⟩:=jU D.hl D.li D.al D.s D.hc P.h0 P.p0;obtain⟨y3,y4⟩:=lF D.hl D.li D.al D.s D.hc i2 (i5 P.hk) hb;obtain⟨y7,y8⟩:=lF D.hl D.li D.al D.s D.hc i2 i4 hb;haveI:=y1;haveI:=y2;haveI:=y3;haveI:=y4;haveI:=y7;haveI:=y8
   haveI:=me hq hq0;have s1:=zV (ts:=llq a.rs) (u:=310000) (k:=65000) (a:=sX (aA l a j.b j.to).1) (b:=sX (aA l a j.b j.to).2) (a2:=sX (aA l a j.b j.on).1) (b2:=sX (aA l a j.b j.on).2);have s2:=zV (ts:=llq a.rs) (u:=310000) (k:=65000) (a:=sX (ax l a j0 i).1) (b:=sX (ax l a j0 i).2) (a2:=sX (aA l a j.b j.on).1) (b2:=sX (aA l a j.b j.on).2);have s3:=KZ (ts:=llq a.rs) (u:=310000) (k:=65000) (a:=sX ((aA l a j.b j.to).1-(aA l a j.b j.on).1)) (b:=sX ((aA l a j.b j.to).2-(aA l a j.b j.on).2)) (a2:=sX ((ax l a j0 i).1-(aA l a j.b j.on).1)) (b2:=sX ((ax l a j0 i).2-(aA l a j.b j.on).2));have s4:=Fi (ts:=llq a.rs) (u:=310000) (k:=65000) (a:=sX ((aA l a j.b j.to).1-(aA l a j.b j.on).1)) (b:=sX ((aA l a j.b j.to).2-(aA l a j.b j.on).2)) (a2:=sX ((aA l a j.b j.to).1-(aA l a j.b j.on).1)) (b2:=sX ((aA l a j.b j.to).2-(aA l a j.b j.on).2));have m1:=uL (rs:=a.rs) (u:=310000) (k:=65000) (a:=sX (dotE ((aA l a j.b j.to).1-(aA l a j.b j.on).1) ((aA l a j.b j.to).2-(aA l a j.b j.on).2) ((aA l a j.b j.to).1-(aA l a j.b j.on).1) ((aA l a j.b j.to).2-(aA l a j.b j.on).2))) (b:=sh 0 (aZ (aB l i j.point) (ai l j0 i):Rat)) D.s.tr D.hc;have m2:=uL (rs:=a.rs) (u:=310000) (k:=65000) (a:=sX (crsE ((aA l a j.b j.to).1-(aA l a j.b j.on).1) ((aA l a j.b j.to).2-(aA l a j.b j.on).2) ((ax l a j0 i).1-(aA l a j.b j.on).1) ((ax l a j0 i).2-(aA l a j.b j.on).2))) (b:=sX (crsE ((aA l a j.b j.to).1-(aA l a j.b j.on).1) ((aA l a j.b j.to).2-(aA l a j.b j.on).2) ((ax l a j0 i).1-(aA l a j.b j.on).1) ((ax l a j0 i).2-(aA l a j.b j.on).2))) D.s.tr D.hc
   have m3:=CU (rs:=a.rs) (u:=310000) (k:=65000)
    (a:=sX (dotE ((aA l a j.b j.to).1-(aA l a j.b j.on).1) ((aA l a j.b j.to).2-(aA l a j.b j.on).2) ((aA l a j.b j.to).1-(aA l a j.b j.on).1) ((aA l a j.b j.to).2-(aA l a j.b j.on).2)*qE (aZ (aB l i j.point) (ai l j0 i))))
    (b:=sX (crsE ((aA l a j.b j.to).1-(aA l a j.b j.on).1) ((aA l a j.b j.to).2-(aA l a j.b j.on).2) ((ax l a j0 i).1-(aA l a j.b j.on).1) ((ax l a j0 i).2-(aA l a j.b j.on).2)*crsE ((aA l a j.b j.to).1-(aA l a j.b j.on).1) ((aA l a j.b j.to).2-(aA l a j.b j.on).2) ((ax l a j0 i).1-(aA l a j.b j.on).1) ((ax l a j0 i).2-(aA l a j.b j.on).2))) D.s.tr D.hc
   rw[oV D.s.tr D.hc]at s1 s2 s3 s4;refine gt (aJ (Con.rB 900 rfl rfl rfl rfl (Cu D.hl D.li D.al D.hc D.two hgo P.h0 P.h1 P.p0 ha P.hk hb)) (cZ rfl) aM rfl rfl) ?_;refine gc s1 ?_;refine gt (aX (Con.rB 32 rfl rfl rfl rfl (vR _ _ _)) (aL rfl rfl rfl) rfl rfl rfl) ?_;refine gD ?_;refine gc s2 ?_;refine gt (aX (Con.rB 32 rfl rfl rfl rfl (vR _ _ _)) (aL rfl rfl rfl) rfl rfl rfl) ?_;refine gc s3 ?_;refine gt (aX (Con.rB 32 rfl rfl rfl rfl (oo _ _)) (aL rfl rfl rfl) rfl rfl rfl) ?_;refine gD ?_;refine gc s4 ?_;refine gt (aX (Con.rB 32 rfl rfl rfl rfl (oo _ _)) (aL rfl rfl rfl) rfl rfl rfl) ?_;refine gc (pv hq0 hq _) ?_;refine gs (Sq (o:=2) (.tmp rfl) rfl (by kernel_rfl) rfl) ?_;refine gt (aX (Con.rB 32 rfl rfl rfl rfl m1) (aL rfl rfl rfl) rfl rfl rfl) ?_;refine gt (aX (Con.rB 32 rfl rfl rfl rfl m2) (aL rfl rfl rfl) rfl rfl rfl) ?_;refine gt (aX (Con.rB 32 rfl rfl rfl rfl m3) (aL rfl rfl rfl) rfl rfl rfl) ?_;refine gD ?_;exact o6 J1 hk0 (hw:=Wk.of (.cons rfl (Sub.of (congrArg (fun z=>nA (sX z)) hE.symm)) (.k .nil)) (.k .nil))
  have hk2:g.kind≠2:=dj t73;obtain⟨i,z0,z1,j0,j,P,ha,hj,hb⟩:=ok.rp hk0 hk1 hk2;obtain⟨e0,e1,b0,_⟩:=P.at;have hE:gh l a g=qE (fV l i j)*bX l a i j0 j-qE (bV l i j0 j)*qE (bV l i j0 j):=by unfold gh;rw[if_neg hk0,if_neg hk1,if_neg hk2,e0,e1,b0]
  obtain rfl:=P.eq;obtain⟨i1,i2,i3,i4,i5⟩:=dw D.li P.h1;have hs0:Sm 1000 (ai l j0 i):=ft D.hl D.li P.h0 (by rcases P.p0.tie with h9 |h9;exact .inl h9.1;exact .inr h9.2.1);have hs1:Sm 1000 (aB l i j.on):=by rw[<- hj];exact jQ D.hl D.li i2 i4
  have hs2:Sm 1000 (aB l i j.to):=by rw[<- hj];exact jQ D.hl D.li i2 (i5 P.hk)
  have hv:Sm _ (b9 l i j):=hs2.sub hs1;haveI:Qz 310000 (fV l i j) 3:=oL (hv.dot hv) oz;haveI:Qz 310000 (bV l i j0 j) 3:=oL (hv.cross (hs1.sub hs0)) oz;obtain⟨w1,w2⟩:=x7 D P.h0 P.p0 P.h1 hb;haveI:=w1;haveI:=w2
  haveI z3:Zu 310000 65000 (bX l a i j0 j) _ _:=(inferInstance:Zu 310000 65000 (dotE (bS l a i j0 j).1 (bS l a i j0 j).2 (bS l a i j0 j).1 (bS l a i j0 j).2) _ _)
  have hrr:=BD D (i:=i) (j0:=j0) (j:=j) (by decide);refine gt (aJ (Con.rekeyBB 900 32 (by decide) (by decide) rfl rfl rfl rfl rfl rfl (DV D hgo P.h0 P.h1 P.p0 hj P.hk hb)) (bO rfl rfl) aM rfl rfl) ?_;refine gt (aJ (Con.rekeyB1 32 rfl rfl rfl rfl rfl hrr) (bO rfl rfl) aM rfl rfl) ?_;exact o6 J1 hk0 (hw:=Wk.of (.cons rfl (Sub.of (congrArg (fun z=>nA (sX z)) hE.symm)) (.k .nil)) (.k .nil))
 rintro hk9;rw[show p6 l a g=sX (gh l a g)from if_neg hk9];refine gC (fun t147=>?_) (fun t147=>?_) (st1:=(21,0));cases t147;refine gR ?_;exact lM rfl
theorem PQ(l:Li)(hl:l.ok)(k:Int)(a:As)(al:AB a)(S:DyS a)(hs:qQ 3900000 l k a false) :
  FP 22 [l.av,i64 k,a.av] (.tup [nA (if eJ l k a false=0 then p6 l a (eH l k)else[]),cg (eJ l k a false)]):=by
 have hop:=D7 l hl k a al false
 by_cases h0:eJ l k a false=0
 ·obtain ⟨n, g, ok⟩:=zJ hs h0;have hgA:eH l k = g:=by unfold eH; rw [ok.hk,toNat_natCast]; exact ao ok.hg
  rw[h0,hgA]at hop ⊢;exact O3 hop ⟨⟨hl,ok.li,al,ok.chk⟩,S⟩ ok
 ·rw[oX h0,oB h0]at hop;exact UX hop h0 _
structure MtOk(ts:LL)(m:Mt):Prop where
  tw:∃r,Tw m.ts r/\kB r m.ts.length<=1101400000
  two:m.ts.length<=2
  ln:m.ps.length<=2
  ps:∀x∈m.ps,Nm m.ts.length 15500000000 x.1/\Nm m.ts.length 15500000000 x.2
  up:∀(e:Nat)(y:Et ts),Nm ts.length e (sX y)->Nm m.ts.length e (sX y)/\sX (dE m.ts (sX y))=sX y
theorem xC{ts:LL}(e:Nat)(y:Et ts)(h:Nm ts.length e (sX y)):Nm ts.length e (sX y)/\sX (dE ts (sX y))=sX y:=⟨h,congrArg (sh ts.length) (bc _ _)⟩
theorem uN{ts:LL}{X:Et ts}(hn:ts.length<=1)(e:Nat)(y:Et ts)(h:Nm ts.length e (sX y)):Nm (aQ ts (sX X)).length e (sX y)/\sX (dE (aQ ts (sX X)) (sX y))=sX y:=by
 refine⟨lX h oz,?_⟩;show sh (aQ ts (sX X)).length (ae (aQ ts (sX X)).length (sX y))=sX y;rw[dD,fW h.nl.le];show(if T.isZ ts.length (T.zero ts.length)=true then sh ts.length (ae ts.length (sX y))else _)=_;rw[if_pos ((T.isZ_iff _ _).2 rfl)];exact congrArg (sh ts.length) (bc _ _)
theorem qS{ts:LL}{ps:List (List Rat×List Rat)}(tw:Tw ts 64990)(hn:ts.length<=1)(hl:ps.length<=2)(hp:∀x∈ps,Nm ts.length 15500000000 x.1/\Nm ts.length 15500000000 x.2):MtOk ts ⟨ts,ps⟩ :=
 ⟨⟨64990,tw,by have:=Bt hn;show kB 64990 ts.length<=_;omega⟩,by show ts.length<=2;omega,hl,hp,xC⟩
theorem Hb{ts:LL}{X:Et ts}{ps:List (List Rat×List Rat)}(E:ExtP X)(hn:ts.length<=1)(hl:ps.length<=2)(hp:∀x∈ps,Nm (aQ ts (sX X)).length 15500000000 x.1/\Nm (aQ ts (sX X)).length 15500000000 x.2):MtOk ts ⟨aQ ts (sX X),ps⟩ :=
 ⟨⟨366909990,E.tw,by
  have h:=g9 366909990 (show ts.length+1<=2 by omega);have h2:eB 366909990 2=1100729976:=by decide
  show eB 366909990 (aQ ts (sX X)).length<=_;rw[dD];omega⟩,by show(aQ ts (sX X)).length<=2;rw[dD];omega,hl,hp,uN hn⟩
theorem rz{ts:LL}{m:Mt}(ok:MtOk ts m){x:List Rat×List Rat}(hx:x∈m.ps){p c:Rat×Rat}{o:P2 ts}(a1:Nm ts.length 773000000 (sX o.1))(a2:Nm ts.length 773000000 (sX o.2))(hp:Sm 1000 p)(hc:Sm 1000 c)
  (h0:bJ (bw c p) (bw c p)≠0):HdP m.ts x ⟨p,o.l,c⟩:=by
 obtain⟨r,tw,hk⟩:=ok.tw;obtain⟨n1,n2⟩:=ok.ps x hx;obtain⟨b1,e1⟩:=ok.up _ _ a1;obtain⟨b2,e2⟩:=ok.up _ _ a2;have hl:lm m.ts.length=200000000000:=by unfold lm;rw[if_pos ok.two]
 refine⟨hp,hc,nP tw n1 b1 (by rw[hl];omega),nP tw n2 b2 (by rw[hl];omega),e1,e2,B6 tw ok.two hk ((hc.sub hp).mono oz) (hp.mono oz) h0 ((n1.sub b1).mono oz) ((n2.sub b2).mono oz) ?_ ?_⟩
 ·show Nm m.ts.length 773000000 (sX (dE m.ts (sX o.1)));rw[e1];exact b1
 ·show Nm m.ts.length 773000000 (sX (dE m.ts (sX o.2)));rw[e2];exact b2
theorem lK{α:Type}{P:α->Prop}{x y:α}(hx:P x)(hy:P y):∀z∈[x,y],P z:=by
 intro z hz;rcases List.mem_cons.1 hz with rfl |hz
 ·exact hx
 ·rw[List.mem_singleton.1 hz];exact hy
theorem iL{α:Type}{P:α->Prop}{x:α}(hx:P x):∀z∈[x],P z:=by
 intro z hz;rw[List.mem_singleton.1 hz];exact hx
theorem Fe{ts:LL}{x y z x2 y2 z2:Et ts}(tw:Tw ts 64990)(hn:ts.length<=1)(c:Ct ts 310000 65000)(h1:Zu 310000 65000 x 40 40)(h2:Zu 310000 65000 y 40 40)(h3:Zu 310000 65000 z 3 0)(h4:Zu 310000 65000 x2 40 40)(h5:Zu 310000 65000 y2 40 40)(h6:Zu 310000 65000 z2 3 0)
  (h0:eL (x,y) (x2,y2) z z2=0):MtOk ts (dc (x,y) (x2,y2) z z2):=by
 have P:=BT c h1 h2 h3 h4 h5 h6;have ce:=c.ex;have ck:=c.k1;have cu:=c.u3;haveI cy:Cy ts 310000 65000:=⟨ce,ck,cu,by omega⟩
 unfold eL at h0;unfold dc
 by_cases hd:ak (az (x,y) (x2,y2))=0
 ·rw[if_pos hd]at h0 ⊢;unfold kc at h0;unfold lh
  by_cases hz:ak (z-z2)≠0
  ·rw[if_pos hz];exact qS tw hn (by simp) (by simp)
  ·rw[if_neg hz]
   by_cases hp:0<ak z
   ·rw[if_pos ⟨Decidable.not_not.1 hz,hp⟩]at h0;cases h0
   ·rw[if_neg hp];haveI:=h1;haveI:=h2
    refine qS tw hn (by simp) (iL ⟨?_,?_⟩)
    ·exact(inferInstance:Zu 310000 65000 (x+0*x) _ _).nm.mono (by decide)
    ·exact(inferInstance:Zu 310000 65000 (y+0*y) _ _).nm.mono (by decide)
 ·rw [if_neg hd];have ht0:ak (eG (az (x,y) (x2,y2))) ≠ 0:=by rw [uZ tw]; exact hd
  by_cases hx0:ak (bg (x,y) z (x2,y2) z2)<0
  ·rw[if_pos hx0];exact qS tw hn (by simp) (by simp)
  ·rw[if_neg hx0];obtain⟨_,_,f1,f2⟩:=Co hn h1 h2 h3 h6 P ht0
   by_cases hx1:ak (bg (x,y) z (x2,y2) z2)=0
   ·rw[if_pos hx1];exact qS tw hn (by simp) (iL ⟨f1.nm.mono (by decide),f2.nm.mono (by decide)⟩)
   ·rw[if_neg hx1];have E:ExtP (bg (x,y) z (x2,y2) z2):=sa tw hn P.zX oz;have S:=Cm (X:=bg (x,y) z (x2,y2) z2) (d:=az (x,y) (x2,y2)) (f:=cS (x,y) (x2,y2) z z2) (v:=fy (x,y) (x2,y2)) hn E P.zt ht0 f1 f2 P.z1 P.z2;exact Hb E hn (by simp) (lK ⟨S.n1.1.nm.mono (by decide),S.n1.2.nm.mono (by decide)⟩ ⟨S.n2.1.nm.mono (by decide),S.n2.2.nm.mono (by decide)⟩)
theorem GB{ts:LL}{o p q:P2 ts}{z:Et ts}(tw:Tw ts 64990)(hn:ts.length<=1)(c:Ct ts 310000 65000)(o1:Zu 310000 65000 o.1 40 40)(o2:Zu 310000 65000 o.2 40 40)(p1:Zu 310000 65000 p.1 40 40)(p2:Zu 310000 65000 p.2 40 40)(q1:Zu 310000 65000 q.1 40 40)(q2:Zu 310000 65000 q.2 40 40)
  (i3:Zu 310000 65000 z 3 0) (h0:eP p q=0):MtOk ts (dq p q o z):=by
 have ce:=c.ex;have ck:=c.k1;have cu:=c.u3;haveI cy:Cy ts 310000 65000:=⟨ce,ck,cu,by omega⟩
 have P:=Hw cy p1 p2 q1 q2 o1 o2 i3;unfold eP at h0;unfold dq
 by_cases hs:ak (a7 p q)=0
 ·rw[if_pos hs]at h0;cases h0
 ·rw[if_neg hs]
  by_cases h1:ak (aP p q o z)=-1
  ·rw[if_pos h1];exact qS tw hn (by simp) (by simp)
  ·rw[if_neg h1]
   by_cases h2:ak (aP p q o z)=0
   ·rw[if_pos h2];have Q:=E0 cy hn p1 p2 P hs;exact qS tw hn (by simp) (iL ⟨Q.n1.nm.mono (by decide),Q.n2.nm.mono (by decide)⟩)
   ·rw[if_neg h2]
    have hpos:0<=ak (aP p q o z):=by
     have:=T.sgn_cases (aw ts) ts.length (aP p q o z);have e:ak (aP p q o z)=T.sgn (aw ts) ts.length (aP p q o z):=rfl;omega
    have E:ExtP (aP p q o z):=sa tw hn (Br P.zX oz oz) hpos;haveI ce:=E.cy;haveI zr:Zl (aQ ts (sX (aP p q o z))) 773000000 1101400000 (cr ts.length) (dE _ (cr ts.length)) 1 0:=Zl.at (sY oz) (by decide);haveI ze':=j8 (X:=aP p q o z) hn P.ze (by decide);haveI:=zr.zu;haveI:=ze'.zu
    have S1:=ve (p:=p) (v:=aE q p) hn E P.zs hs p1 p2 P.v1 P.v2 (k:=aI (aP p q o z) (bH p q o)+bA (aP p q o z)) inferInstance;have S2:=ve (p:=p) (v:=aE q p) hn E P.zs hs p1 p2 P.v1 P.v2 (k:=aI (aP p q o z) (bH p q o)-bA (aP p q o z)) inferInstance;exact Hb E hn (by simp) (lK ⟨S1.n1.nm.mono (by decide),S1.n2.nm.mono (by decide)⟩ ⟨S2.n1.nm.mono (by decide),S2.n2.nm.mono (by decide)⟩)
abbrev o4(r:List AV×Nat):AV:=.tup [.lst 3 r.1,cg r.2]
def iA(l:Li)(a:As)(i k:Int)(j0 j1 j2:Jt):List AV×Nat :=
  if fX [bw (ai l j2 i) (ai l j0 i),bw (ai l j2 k) (ai l j1 k)]=true then([],15)
  else if eL (ax l a j0 i) (ax l a j1 k) (qE (aZ (ai l j2 i) (ai l j0 i))) (qE (aZ (ai l j2 k) (ai l j1 k)))≠0 then([],eL (ax l a j0 i) (ax l a j1 k) (qE (aZ (ai l j2 i) (ai l j0 i))) (qE (aZ (ai l j2 k) (ai l j1 k))))
  else(ig (dc (ax l a j0 i) (ax l a j1 k) (qE (aZ (ai l j2 i) (ai l j0 i))) (qE (aZ (ai l j2 k) (ai l j1 k)))) [⟨ai l j0 i,P2.l (ax l a j0 i),ai l j2 i⟩,⟨ai l j1 k,P2.l (ax l a j1 k),ai l j2 k⟩]
    (dc (ax l a j0 i) (ax l a j1 k) (qE (aZ (ai l j2 i) (ai l j0 i))) (qE (aZ (ai l j2 k) (ai l j1 k)))).ps.length,0)
theorem Un{l:Li}{a:As}(D:DyR l a)(hn:(llq a.rs).length<=1){i k z0 z1 z2:Int}{j0 j1 j2:Jt}(hg:GrOk l ⟨1,[i,k],[z0,z1,z2],0⟩)(P:RrrP 3900000 l a ⟨1,[i,k],[z0,z1,z2],0⟩ i k z0 z1 z2 j0 j1 j2) :
  Con prog 65 [.ptr 1000 0] [(1000,some (cm l ⟨1,[i,k],[z0,z1,z2],0⟩ a))] (o4 (iA l a i k j0 j1 j2)) [(1000,some (cm l ⟨1,[i,k],[z0,z1,z2],0⟩ a))]:=by
 haveI c:=D.s.ct D.hc;obtain⟨tw,etw⟩:=cI D.s.tr D.hc;have hq0:=ft D.hl D.li P.h0 P.p0.or;have hq1:=ft D.hl D.li P.h1 P.p1.or;have hq2:=ft D.hl D.li P.h2 P.t1;have hq3:=ft D.hl D.li P.h2 P.t2;obtain⟨y1,y2⟩:=jU D.hl D.li D.al D.s D.hc P.h0 P.p0;obtain⟨y3,y4⟩:=jU D.hl D.li D.al D.s D.hc P.h1 P.p1;haveI:=y1;haveI:=y2;haveI:=y3;haveI:=y4
 haveI q1:=me hq2 hq0;haveI q2:=me hq3 hq1;haveI z1:Zu 310000 65000 (qE (aZ (ai l j2 i) (ai l j0 i)):Et (llq a.rs)) 3 0:=inferInstance;haveI z2:Zu 310000 65000 (qE (aZ (ai l j2 k) (ai l j1 k)):Et (llq a.rs)) 3 0:=inferInstance;have hr:=QT (a:=sX (ax l a j0 i).1) (b:=sX (ax l a j0 i).2) (c:=sh 0 (aZ (ai l j2 i) (ai l j0 i):Rat)) (a2:=sX (ax l a j1 k).1) (b2:=sX (ax l a j1 k).2) (c2:=sh 0 (aZ (ai l j2 k) (ai l j1 k):Rat)) D.s.tr D.hc hn rfl rfl (rU _ _) (rU _ _);have hzz:=FC [bw (ai l j2 i) (ai l j0 i),bw (ai l j2 k) (ai l j1 k)] (by show 2<=_;omega) (lK ((hq2.sub hq0).mono oz) ((hq3.sub hq1).mono oz));refine gF func65 (fun k z h=>bG h) ?_;refine gt (aX (Ia D.hl D.li D.al D.hc D.two hg P.h0 P.h1 P.h2 P.p0 P.p1 P.t1 P.t2) (cZ rfl) rfl rfl rfl) ?_;refine gC (fun t13=>?_) (fun t13=>?_) (st1:=(3,0));cases t13;refine gc (oC hq2 hq0 oz oz) ?_;refine gc (oC hq3 hq1 oz oz) ?_;refine gc hzz ?_;refine gD ?_;refine gC (fun t23=>?_) (fun t23=>?_)
 ·have h1:fX [bw (ai l j2 i) (ai l j0 i),bw (ai l j2 k) (ai l j1 k)]=true:=t23;refine gR ?_;exact(aH.keep (bu rfl)).sub (by unfold iA;rw[if_pos h1];exact Sub.tup (.cons (.nil _ _ _) (.cons (.refl _) .nil)))
 have h1:fX [bw (ai l j2 i) (ai l j0 i),bw (ai l j2 k) (ai l j1 k)]=false:=t23;obtain⟨w1,w2⟩:=rj h1;refine gc (pv hq0 hq2 _) ?_;refine gc (pv hq1 hq3 _) ?_;refine gc hr ?_;refine gD ?_;refine gC (fun t51=>?_) (fun t51=>?_)
 ·have h2:=fp t51;refine gR ?_;exact(aH.keep (bu rfl)).sub (by unfold iA;rw[if_neg (by rw[h1];decide),if_pos h2];exact Sub.tup (.cons (.nil _ _ _) (.cons (.refl _) .nil)))
 have h2:=eM t51;have ok:=Fe (x:=(ax l a j0 i).1) (y:=(ax l a j0 i).2) (x2:=(ax l a j1 k).1) (y2:=(ax l a j1 k).2) tw hn c y1 y2 z1 y3 y4 z2 h2;obtain⟨r9,tw9,_⟩:=ok.tw
 have hpl:=IM tw9 [⟨ai l j0 i,P2.l (ax l a j0 i),ai l j2 i⟩,⟨ai l j1 k,P2.l (ax l a j1 k),ai l j2 k⟩] (le_refl 2) ok.ln
  (fun x hx=>lK (rz ok hx (y1.nm.mono (by decide)) (y2.nm.mono (by decide)) hq0 hq2 w1) (rz ok hx (y3.nm.mono (by decide)) (y4.nm.mono (by decide)) hq1 hq3 w2))
 refine gc hpl ?_;refine gR ?_;exact(aH.keep (bu rfl)).sub (Sub.of (by unfold iA;rw[if_neg (by rw[h1];decide),if_neg (fun h=>h h2)];rfl))
def jx(l:Li)(a:As)(i:Int)(j0 j:Jt):List AV×Nat :=
  if fX [bw (aB l i j.point) (ai l j0 i)]=true then([],15)
  else if eP (aA l a j.b j.on) (aA l a j.b j.to)≠0 then([],eP (aA l a j.b j.on) (aA l a j.b j.to))
  else(ig (dq (aA l a j.b j.on) (aA l a j.b j.to) (ax l a j0 i) (qE (aZ (aB l i j.point) (ai l j0 i)))) [⟨ai l j0 i,P2.l (ax l a j0 i),aB l i j.point⟩]
    (dq (aA l a j.b j.on) (aA l a j.b j.to) (ax l a j0 i) (qE (aZ (aB l i j.point) (ai l j0 i)))).ps.length,0)
theorem L5{l:Li}{a:As}(D:DyR l a)(hn:(llq a.rs).length<=1){i z0 z1:Int}{j0 j:Jt}(hg:GrOk l ⟨2,[i],[z0,z1],0⟩)(P:SlP 3900000 l a ⟨2,[i],[z0,z1],0⟩ 2 i z0 z1 j0 j)(ha:j.a=i)(hb:Pd 3900000 a j.b) :
  Con prog 66 [.ptr 1000 0] [(1000,some (cm l ⟨2,[i],[z0,z1],0⟩ a))] (o4 (jx l a i j0 j)) [(1000,some (cm l ⟨2,[i],[z0,z1],0⟩ a))]:=by
 haveI c:=D.s.ct D.hc;obtain⟨tw,etw⟩:=cI D.s.tr D.hc;obtain⟨i1,i2,i3,i4,i5⟩:=dw D.li P.h1;have hq2:Sm 1000 (aB l i j.point):=by rw[<- ha];exact jQ D.hl D.li i1 i3
 have hq0:=ft D.hl D.li P.h0 P.p0.or;obtain⟨y1,y2⟩:=jU D.hl D.li D.al D.s D.hc P.h0 P.p0;obtain⟨y3,y4⟩:=lF D.hl D.li D.al D.s D.hc i2 i4 hb;obtain⟨y5,y6⟩:=lF D.hl D.li D.al D.s D.hc i2 (i5 P.hk) hb;haveI q1:=me hq2 hq0;haveI z1:Zu 310000 65000 (qE (aZ (aB l i j.point) (ai l j0 i)):Et (llq a.rs)) 3 0:=inferInstance;have hr:=TV (o:=ax l a j0 i) (p:=aA l a j.b j.on) (q:=aA l a j.b j.to) (c:=sh 0 (aZ (aB l i j.point) (ai l j0 i):Rat)) D.s.tr D.hc hn c y1 y2 y3 y4 y5 y6 (rU _ _);have hzz:=FC [bw (aB l i j.point) (ai l j0 i)] (by show 1<=_;omega) (iL ((hq2.sub hq0).mono oz));refine gF func66 (fun k z h=>bG h) ?_;refine gt (aX (Cu D.hl D.li D.al D.hc D.two hg P.h0 P.h1 P.p0 ha P.hk hb) (cZ rfl) rfl rfl rfl) ?_;refine gC (fun t15=>?_) (fun t15=>?_) (st1:=(3,0));cases t15;refine gc (oC hq2 hq0 oz oz) ?_;refine gc hzz ?_;refine gC (fun t25=>?_) (fun t25=>?_)
 ·have h1:fX [bw (aB l i j.point) (ai l j0 i)]=true:=t25;refine gR ?_;exact(aH.keep (bu rfl)).sub (by unfold jx;rw[if_pos h1];exact Sub.tup (.cons (.nil _ _ _) (.cons (.refl _) .nil)))
 have h1:fX [bw (aB l i j.point) (ai l j0 i)]=false:=t25;have w1:=ru h1;refine gc (pv hq0 hq2 _) ?_;refine gc hr ?_;refine gD ?_;refine gC (fun t48=>?_) (fun t48=>?_)
 ·have h2:=fp t48;refine gR ?_;exact(aH.keep (bu rfl)).sub (by unfold jx;rw[if_neg (by rw[h1];decide),if_pos h2];exact Sub.tup (.cons (.nil _ _ _) (.cons (.refl _) .nil)))
 have h2:=eM t48;have ok:=GB (o:=ax l a j0 i) (p:=aA l a j.b j.on) (q:=aA l a j.b j.to) (z:=qE (aZ (aB l i j.point) (ai l j0 i))) tw hn c y1 y2 y3 y4 y5 y6 z1 h2;obtain⟨r9,tw9,_⟩:=ok.tw;have hpl:=IM tw9 [⟨ai l j0 i,P2.l (ax l a j0 i),aB l i j.point⟩] (show 1<=2 by omega) ok.ln (fun x hx=>iL (rz ok hx (y1.nm.mono (by decide)) (y2.nm.mono (by decide)) hq0 hq2 w1));refine gc hpl ?_;refine gR ?_;exact(aH.keep (bu rfl)).sub (Sub.of (by unfold jx;rw[if_neg (by rw[h1];decide),if_neg (fun h=>h h2)];rfl))
theorem CX{ts:LL}{r e:Nat}(tw:Tw ts r){a b c:List Rat}(ha:Nm ts.length e a)(hb:Nm ts.length e b)(hc:Nm ts.length e c)(he:2*(e+e+kB r ts.length)<=lm ts.length) :
  FP 162 [aR ts,nA a,aK b c] (.tup [aK (sh ts.length (T.mul (aw ts) ts.length (ae ts.length a) (ae ts.length b))) (sh ts.length (T.mul (aw ts) ts.length (ae ts.length a) (ae ts.length c))),.v .nilIface]):=by
 refine aj func162 ?_;refine gc (uJ (e:=e) tw [a,b,c] (by simp only[mem_cons,not_mem_nil,or_false];rintro x (rfl |rfl |rfl) <;> assumption) oz (by simp)) ?_;refine gC (fun t19=>?_) (fun t19=>?_) (st1:=(3,0));cases t19;refine gt (aJ (Con.rB 24 rfl rfl rfl rfl (lA tw ha hb oz)) (aL rfl rfl rfl) aM rfl rfl) ?_;refine gt (aJ (Con.rB 24 rfl rfl rfl rfl (lA tw ha hc oz)) (aL rfl rfl rfl) aM rfl rfl) ?_;refine gt (aJ (Con.rB 24 rfl rfl rfl rfl (vz _ _ _)) (bO rfl rfl) aM rfl rfl) ?_;refine gD ?_;refine bF ?_;rfl
section
variable{ts:LL}
def tA(q w1 w2 h:Et ts):Et ts:=q*w1-h*-w2
def sj(q w1 w2 h:Et ts):Et ts:=q*w2-h*w1
def ns(ts:LL)(q h d:List Rat)(w:List Rat×List Rat):P2 ts:=(tA (dE ts q) (dE ts w.1) (dE ts w.2) (dE ts h)*iE (dE ts d),sj (dE ts q) (dE ts w.1) (dE ts w.2) (dE ts h)*iE (dE ts d))
structure Rp where
  v:Rat×Rat
  p:Rat×Rat
  a:List Rat×List Rat
  h:List Rat
  d:List Rat
  w:List Rat×List Rat
def mF(ts:LL)(R:Rp)(q:List Rat):Pq:=gp R.v (ns ts q R.h R.d R.w) R.p (dE ts R.a.1,dE ts R.a.2)
structure RqP(ts:LL)(R:Rp)(q:List Rat):Prop where
  sm:Sm 3000 R.v
  sp:Sm 3000 R.p
  c1:FP 162 [aR ts,nA q,aK R.w.1 R.w.2] (.tup [aK (sX (dE ts q*dE ts R.w.1)) (sX (dE ts q*dE ts R.w.2)),.v .nilIface])
  ng:FP 147 [aR ts,nA R.w.2] (.tup [nA (sX (-dE ts R.w.2)),.v .nilIface])
  c2:FP 162 [aR ts,nA R.h,aK (sX (-dE ts R.w.2)) R.w.1] (.tup [aK (sX (dE ts R.h*-dE ts R.w.2)) (sX (dE ts R.h*dE ts R.w.1)),.v .nilIface])
  sb:FP 76 [aR ts,aK (sX (dE ts q*dE ts R.w.1)) (sX (dE ts q*dE ts R.w.2)),aK (sX (dE ts R.h*-dE ts R.w.2)) (sX (dE ts R.h*dE ts R.w.1))] (.tup [aK (sX (tA (dE ts q) (dE ts R.w.1) (dE ts R.w.2) (dE ts R.h))) (sX (sj (dE ts q) (dE ts R.w.1) (dE ts R.w.2) (dE ts R.h))),.v .nilIface])
  d1:FP 281 [aR ts,nA (sX (tA (dE ts q) (dE ts R.w.1) (dE ts R.w.2) (dE ts R.h))),nA R.d] (.tup [nA (sX (ns ts q R.h R.d R.w).1),.v .nilIface])
  d2:FP 281 [aR ts,nA (sX (sj (dE ts q) (dE ts R.w.1) (dE ts R.w.2) (dE ts R.h))),nA R.d] (.tup [nA (sX (ns ts q R.h R.d R.w).2),.v .nilIface])
  e1:sX (dE ts R.a.1)=R.a.1
  e2:sX (dE ts R.a.2)=R.a.2
  b:BdP ts R.v (ns ts q R.h R.d R.w) R.p (dE ts R.a.1,dE ts R.a.2)
theorem RqP.body{R:Rp}{q:List Rat}(H:RqP ts R q) :
  Con prog 152 [.ptr 1000 0,qP R.v,dm (ns ts q R.h R.d R.w).l,qP R.p,aK R.a.1 R.a.2] [(1000,some (bh ts))] (mF ts R q).av [(1000,some (bh ts))]:=by
 have hb:=xT H.sm H.sp H.b
 have e:dm (P2.l ((dE ts R.a.1,dE ts R.a.2):P2 ts))=aK R.a.1 R.a.2:=by
  show aK (sX (dE ts R.a.1)) (sX (dE ts R.a.2))=_;rw[H.e1,H.e2]
 rw[e]at hb;exact hb
theorem Iz{R:Rp}{q:List Rat}{j:Nat}(cy:Cy ts 773000000 1101400000)(sm:Sm 3000 R.v)(sp:Sm 3000 R.p)(h0:bJ R.v R.v≠0)(nq:Nm ts.length 773000000 q)(nh:Nm ts.length 773000000 R.h)(nd:Nm ts.length 773000000 R.d)
  (n1:Nm ts.length 773000000 R.w.1) (n2:Nm ts.length 773000000 R.w.2) (a1:Nm ts.length 773000000 R.a.1) (a2:Nm ts.length 773000000 R.a.2) (e1:sX (dE ts R.a.1)=R.a.1) (e2:sX (dE ts R.a.2)=R.a.2)
  (nj:Nl j R.d) (hj:j<=ts.length) (hj1:j<=1) (hd:ak (dE ts R.d)≠0):RqP ts R q:=by
 obtain⟨r,tw,hk⟩:=cy.ex;have hl:=cy.lm;haveI:=cy;haveI zq:Zl ts 773000000 1101400000 q (dE ts q) 1 0:=Zl.at nq (le_refl _);haveI zh:Zl ts 773000000 1101400000 R.h (dE ts R.h) 1 0:=Zl.at nh (le_refl _);haveI zd:Zl ts 773000000 1101400000 R.d (dE ts R.d) 1 0:=Zl.at nd (le_refl _);haveI z1:Zl ts 773000000 1101400000 R.w.1 (dE ts R.w.1) 1 0:=Zl.at n1 (le_refl _);haveI z2:Zl ts 773000000 1101400000 R.w.2 (dE ts R.w.2) 1 0:=Zl.at n2 (le_refl _);haveI:=zq.zu;haveI:=zh.zu;haveI:=z1.zu;haveI:=z2.zu
 haveI zn:Zu 773000000 1101400000 (-dE ts R.w.2) 1 0:=inferInstance;haveI y1:Zu 773000000 1101400000 (dE ts q*dE ts R.w.1) 2 1:=inferInstance;haveI y2:Zu 773000000 1101400000 (dE ts q*dE ts R.w.2) 2 1:=inferInstance;haveI y3:Zu 773000000 1101400000 (dE ts R.h*-dE ts R.w.2) 2 1:=inferInstance;haveI y4:Zu 773000000 1101400000 (dE ts R.h*dE ts R.w.1) 2 1:=inferInstance;haveI x1:Zu 773000000 1101400000 (tA (dE ts q) (dE ts R.w.1) (dE ts R.w.2) (dE ts R.h)) 4 3:=(inferInstance:Zu 773000000 1101400000 (dE ts q*dE ts R.w.1-dE ts R.h*-dE ts R.w.2) 4 3)
 haveI x2:Zu 773000000 1101400000 (sj (dE ts q) (dE ts R.w.1) (dE ts R.w.2) (dE ts R.h)) 4 3:=(inferInstance:Zu 773000000 1101400000 (dE ts q*dE ts R.w.2-dE ts R.h*dE ts R.w.1) 4 3)
 have ew:∀x:Et ts,ae ts.length (sX x)=x:=fun x=>bc _ _
 have hkB:kB r ts.length<=1101400000:=hk;have c1:=CX tw nq n1 n2 (by rw[hl];omega);have ng:=Gn (ts:=ts) (u:=773000000) (k:=1101400000) (a:=R.w.2) (by decide);have nn:Nm ts.length 773000000 (sX (-dE ts R.w.2)):=zn.nm.mono (by decide);have c2:=CX tw nh nn n1 (by rw[hl];omega);rw[ew]at c2;have sb:=HW (a:=sX (dE ts q*dE ts R.w.1)) (b:=sX (dE ts q*dE ts R.w.2)) (c:=sX (dE ts R.h*-dE ts R.w.2)) (d:=sX (dE ts R.h*dE ts R.w.1)) tw y1.nm y2.nm y3.nm y4.nm (by rw[hl];decide);rw[ew,ew,ew,ew]at sb;have d1:=rx (ts:=ts) (u:=773000000) (k:=1101400000) (a:=sX (tA (dE ts q) (dE ts R.w.1) (dE ts R.w.2) (dE ts R.h))) (b:=R.d) nj hj hj1 hd (by decide);have d2:=rx (ts:=ts) (u:=773000000) (k:=1101400000) (a:=sX (sj (dE ts q) (dE ts R.w.1) (dE ts R.w.2) (dE ts R.h))) (b:=R.d) nj hj hj1 hd (by decide);exact⟨sm,sp,c1,ng,c2,sb,d1.1,d2.1,e1,e2,B6 tw cy.two hkB sm sp h0 (d1.2.nm.mono (by decide)) (d2.2.nm.mono (by decide)) (by show Nm ts.length 773000000 (sX (dE ts R.a.1));rw[e1];exact a1) (by show Nm ts.length 773000000 (sX (dE ts R.a.2));rw[e2];exact a2)⟩
end
def iR(ts:LL)(R:Rp)(qs:LL)(i:Nat):Sv:=⟨ts,[mF ts R (qs.getD i [])],if qs.length=1 then 0 else 1-2*(i:Int)⟩
def kD(ts:LL)(R:Rp)(qs:LL)(n:Nat):List AV:=(List.range n).map fun i=>(iR ts R qs i).av
theorem AY(ts:LL)(R:Rp)(qs:LL)(n:Nat):(kD ts R qs n).length=n:=by simp[kD]
theorem TG(ts:LL)(R:Rp)(qs:LL)(n:Nat):kD ts R qs (n+1)=kD ts R qs n++[(iR ts R qs n).av]:=by unfold kD;rw[List.range_succ];simp
def dl(l:Li)(a:As)(i:Int)(j0 j:Jt):Rp:=⟨b9 l i j,ai l j0 i,P2.l (ax l a j0 i),sh 0 (bV l i j0 j:Rat),sX (bX l a i j0 j),P2.l (bS l a i j0 j)⟩
def bm(l:Li)(a:As)(i:Int)(j0 j:Jt):Et (llq a.rs):=qE (fV l i j)*bX l a i j0 j-qE (bV l i j0 j)*qE (bV l i j0 j)
def iG(l:Li)(a:As)(i:Int)(j0 j:Jt):List AV×Nat :=
  if ak (bX l a i j0 j)=0/\ak (qE (bV l i j0 j):Et (llq a.rs))=0 then([],15)
  else if ak (bm l a i j0 j)<0 then([],0)
  else if 0<ak (bm l a i j0 j)then(kD (aQ (llq a.rs) (sX (bm l a i j0 j))) (dl l a i j0 j) [cr (llq a.rs).length,sX (-bA (bm l a i j0 j))] 2,0)
  else(kD (llq a.rs) (dl l a i j0 j) [[]] 1,0)
theorem pa{ts:LL}{r:Nat}(tw:Tw ts r){n d h:Et ts}(hs:¬ak (n*d-h*h)<0)(h1:¬(ak d=0/\ak h=0)):ak d≠0:=by
 intro h0;have S:=du (aw ts) ts.length tw.pos
 have e1:sg (aw ts) ts.length (n*d)=0:=by
  rw[S.mul];have:sg (aw ts) ts.length d=0:=h0;rw[this];exact Int.mul_zero _
 have e2:=S.zadd (y:=-(h*h)) e1;rw[show n*d+-(h*h)=n*d-h*h by grind,S.neg,S.mul]at e2;have e3:ak (n*d-h*h)=sg (aw ts) ts.length (n*d-h*h):=rfl;have e4:ak h=sg (aw ts) ts.length h:=rfl;have h2:sg (aw ts) ts.length h≠0:=fun h9=>h1 ⟨h0,by rw[e4];exact h9⟩
 rw[e3,e2]at hs;rcases S.cs h with g |g |g
 ·rw[g]at hs;exact hs (by decide)
 ·exact h2 g
 ·rw[g]at hs;exact hs (by decide)
theorem Lm{p q:Rat}(h:p*p+q*q=0):p=0/\q=0:=by
 have h1:=mh p;have h2:=mh q;have h3:p*p=0:=by grind
 have h4:q*q=0:=by grind
 exact⟨by rcases Rat.mul_eq_zero.1 h3 with g |g <;> exact g,by rcases Rat.mul_eq_zero.1 h4 with g |g <;> exact g⟩
theorem rm{l:Li}(hli:aO l=0){n:Nat}{j:Jt}(hj:l.jo[n]?=some j)(hk:j.kind≠0){i:Int}(hi:j.b=i):bJ (b9 l i j) (b9 l i j)≠0:=by
 intro h0;obtain⟨h1,h2⟩:=Lm h0;have h3:=DS hli hj;subst hi;have e1:(aB l j.b j.to).1-(aB l j.b j.on).1=0:=h1;have e2:(aB l j.b j.to).2-(aB l j.b j.on).2=0:=h2;have e3:((cE l j.b).getD j.on.toNat default).x.q=((cE l j.b).getD j.to.toNat default).x.q:=by unfold aB at e1;dsimp only at e1;grind
 have e4:((cE l j.b).getD j.on.toNat default).y.q=((cE l j.b).getD j.to.toNat default).y.q:=by unfold aB at e2;dsimp only at e2;grind
 unfold eF at h3;split at h3
 ·cases h3
 ·split at h3
  ·cases h3
  ·split at h3
   ·cases h3
   ·split at h3
    ·cases h3
    ·split at h3
     ·cases h3
     ·first |(rw[if_pos ⟨e3,e4⟩]at h3;cases h3) |(split at h3 <;> first |(cases h3;done) |(rename_i g;exact absurd ⟨e3,e4⟩ g))
theorem Nh:Sub (.lst 1 [nS]) (.lst 1 [nA []]):=by
 refine Sub.lst rfl (fun i x y hx hy=>?_)
 match i,hx,hy with
 |0,hx,hy =>
  cases hx;cases hy
  refine⟨rfl,fun j x y hx hy=>?_⟩
  match j,hx,hy with
  |0,hx,hy=>cases hx;cases hy;exact⟨rfl,.nil _ _ _⟩
theorem Qn{x y:Int}(h:cond (ac .eql x 0) (ac .eql y 0) false=true):x=0/\y=0:=by
 cases h1:ac .eql x 0
 ·rw[h1]at h;cases h
 ·rw[h1]at h;exact⟨cK h1,cK h⟩
theorem Vv{x y:Int}(h:cond (ac .eql x 0) (ac .eql y 0) false=false):¬(x=0/\y=0):=by
 rintro⟨rfl,rfl⟩;cases h
structure RpF(l:Li)(a:As)(i:Int)(j0 j:Jt):Prop where
  hv:Sm 3000 (b9 l i j)
  hp:Sm 3000 (ai l j0 i)
  vv:bJ (b9 l i j) (b9 l i j)≠0
  zl:Zl (llq a.rs) 310000 65000 (sh 0 (bV l i j0 j:Rat)) (qE (bV l i j0 j)) 3 0
  z3:Zu 310000 65000 (bX l a i j0 j) 320 327
  zX:Zu 310000 65000 (bm l a i j0 j) 976 989
  w1:Zu 310000 65000 (bS l a i j0 j).1 80 81
  w2:Zu 310000 65000 (bS l a i j0 j).2 80 81
  y1:Zu 310000 65000 (ax l a j0 i).1 40 40
  y2:Zu 310000 65000 (ax l a j0 i).2 40 40
theorem En{l:Li}{a:As}(D:DyR l a)(hn:(llq a.rs).length<=1){g:Gr}{i z0 z1:Int}{j0 j:Jt}(P:SlP 3900000 l a g 3 i z0 z1 j0 j)(hj:j.b=i)(hb:Pd 3900000 a j.a):RpF l a i j0 j:=by
 haveI c:=D.s.ct D.hc;have ck:=c.k1;haveI cy:Cy (llq a.rs) 310000 65000:=⟨c.ex,c.k1,c.u3,by omega⟩
 have hs0:Sm 1000 (ai l j0 i):=ft D.hl D.li P.h0 P.p0.or;obtain⟨i1,i2,i3,i4,i5⟩:=dw D.li P.h1;have hs1:Sm 1000 (aB l i j.on):=by rw[<- hj];exact jQ D.hl D.li i2 i4
 have hs2:Sm 1000 (aB l i j.to):=by rw[<- hj];exact jQ D.hl D.li i2 (i5 P.hk)
 have hv:Sm _ (b9 l i j):=hs2.sub hs1;haveI qn:Qz 310000 (fV l i j) 3:=oL (hv.dot hv) oz;haveI qh:Qz 310000 (bV l i j0 j) 3:=oL (hv.cross (hs1.sub hs0)) oz;obtain⟨w1,w2⟩:=x7 D P.h0 P.p0 P.h1 hb;obtain⟨y1,y2⟩:=jU D.hl D.li D.al D.s D.hc P.h0 P.p0;haveI:=w1;haveI:=w2
 haveI z3:Zu 310000 65000 (bX l a i j0 j) 320 327:=(inferInstance:Zu 310000 65000 (dotE (bS l a i j0 j).1 (bS l a i j0 j).2 (bS l a i j0 j).1 (bS l a i j0 j).2) _ _)
 exact⟨hv.mono oz,hs0.mono oz,rm D.li P.h1 P.hk hj,Cy.zq,z3,Br (inferInstance:Zu 310000 65000 (qE (fV l i j)*bX l a i j0 j-qE (bV l i j0 j)*qE (bV l i j0 j)) _ _) (by decide) (by decide),w1,w2,y1,y2⟩
theorem H9{l:Li}{a:As}{i:Int}{j0 j:Jt}(F:RpF l a i j0 j)(tw:Tw (llq a.rs) 64990)(hn:(llq a.rs).length<=1)(hd0:ak (bX l a i j0 j)≠0)(hp:0<=ak (bm l a i j0 j)) :
  ExtP (bm l a i j0 j)/\RqP (aQ (llq a.rs) (sX (bm l a i j0 j))) (dl l a i j0 j) (cr (llq a.rs).length)/\RqP (aQ (llq a.rs) (sX (bm l a i j0 j))) (dl l a i j0 j) (sX (-bA (bm l a i j0 j))) /\
  FP 147 [aR (aQ (llq a.rs) (sX (bm l a i j0 j))),nA (cr (llq a.rs).length)] (.tup [nA (sX (-bA (bm l a i j0 j))),.v .nilIface]):=by
 have E:ExtP (bm l a i j0 j):=sa tw hn F.zX hp;have ce:=E.cy;have zr:Nm (aQ (llq a.rs) (sX (bm l a i j0 j))).length 773000000 (cr (llq a.rs).length):=(sY oz).mono (by decide);haveI zrl:Zl (aQ (llq a.rs) (sX (bm l a i j0 j))) 773000000 1101400000 (cr (llq a.rs).length) (bA (bm l a i j0 j)) 1 0:=Zl.at zr (by decide);haveI:=zrl.zu;have hng:=Gn (ts:=aQ (llq a.rs) (sX (bm l a i j0 j))) (u:=773000000) (k:=1101400000) (a:=cr (llq a.rs).length) (by decide);have zn:Nm (aQ (llq a.rs) (sX (bm l a i j0 j))).length 773000000 (sX (-bA (bm l a i j0 j))):=(inferInstance:Zu 773000000 1101400000 (-bA (bm l a i j0 j)) 1 0).nm.mono (by decide)
 have hR:∀q,Nm (aQ (llq a.rs) (sX (bm l a i j0 j))).length 773000000 q->RqP (aQ (llq a.rs) (sX (bm l a i j0 j))) (dl l a i j0 j) q:=fun q nq =>
  Iz (R := dl l a i j0 j) (j := (llq a.rs).length) ce F.hv F.hp F.vv nq (lX (F.zl.nm.mono (by decide)) oz) (lX (F.z3.nm.mono (by decide)) oz) (lX (F.w1.nm.mono (by decide)) oz) (lX (F.w2.nm.mono (by decide)) oz)
   (lX (F.y1.nm.mono (by decide)) oz) (lX (F.y2.nm.mono (by decide)) oz) (uN hn _ _ F.y1.nm).2 (uN hn _ _ F.y2.nm).2 F.z3.nm.nl (by rw[dD];omega) hn (by rw[show ak (dE (aQ (llq a.rs) (sX (bm l a i j0 j))) (dl l a i j0 j).d)=ak (bX l a i j0 j)from od];exact hd0)
 exact⟨E,hR _ zr,hR _ zn,hng⟩
theorem BJ{l:Li}{a:As}{i:Int}{j0 j:Jt}(F:RpF l a i j0 j)(tw:Tw (llq a.rs) 64990)(hn:(llq a.rs).length<=1)(hd0:ak (bX l a i j0 j)≠0):Cy (llq a.rs) 773000000 1101400000/\RqP (llq a.rs) (dl l a i j0 j) []:=by
 have cs:Cy (llq a.rs) 773000000 1101400000:=⟨⟨64990,tw,by show kB 64990 (llq a.rs).length<=_;have:=Bt hn;omega⟩,by omega,by omega,by omega⟩
 have nil0:Nm (llq a.rs).length 773000000 []:=⟨tw.five,.inl rfl,Cb.nil.mono oz⟩
 exact ⟨cs, Iz (R := dl l a i j0 j) (j := (llq a.rs).length) cs F.hv F.hp F.vv nil0 (F.zl.nm.mono (by decide)) (F.z3.nm.mono (by decide)) (F.w1.nm.mono (by decide)) (F.w2.nm.mono (by decide))
   (F.y1.nm.mono (by decide)) (F.y2.nm.mono (by decide)) (xC _ _ F.y1.nm).2 (xC _ _ F.y2.nm).2 F.z3.nm.nl (le_refl _) hn (by rw[show ak (dE (llq a.rs) (dl l a i j0 j).d)=ak (bX l a i j0 j)from congrArg ak (bc _ _)];exact hd0)⟩
theorem Tf{l:Li}{a:As}(D:DyR l a)(hn:(llq a.rs).length<=1){i z0 z1:Int}{j0 j:Jt}(hg:GrOk l ⟨3,[i],[z0,z1],0⟩)(P:SlP 3900000 l a ⟨3,[i],[z0,z1],0⟩ 3 i z0 z1 j0 j)(hj:j.b=i)(hb:Pd 3900000 a j.a) :
  Con prog 67 [.ptr 1000 0] [(1000,some (cm l ⟨3,[i],[z0,z1],0⟩ a))] (o4 (iG l a i j0 j)) [(1000,some (cm l ⟨3,[i],[z0,z1],0⟩ a))]:=by
 haveI c:=D.s.ct D.hc;obtain⟨tw,etw⟩:=cI D.s.tr D.hc;haveI cy:Cy (llq a.rs) 310000 65000:=⟨c.ex,c.k1,c.u3,by omega⟩
 have hlm:=cy.lm;have F:=En D hn P hj hb;obtain⟨i1,i2,i3,i4,i5⟩:=dw D.li P.h1;have hs0:Sm 1000 (ai l j0 i):=ft D.hl D.li P.h0 P.p0.or;have hs1:Sm 1000 (aB l i j.on):=by rw[<- hj];exact jQ D.hl D.li i2 i4
 have hs2:Sm 1000 (aB l i j.to):=by rw[<- hj];exact jQ D.hl D.li i2 (i5 P.hk)
 have hv:Sm _ (b9 l i j):=hs2.sub hs1;haveI qn:Qz 310000 (fV l i j) 3:=oL (hv.dot hv) oz;haveI qh:Qz 310000 (bV l i j0 j) 3:=oL (hv.cross (hs1.sub hs0)) oz;haveI z3:=F.z3;haveI zX:=F.zX;haveI zl:=F.zl;have hrr:=BD D (i:=i) (j0:=j0) (j:=j) (by decide);have m1:=yi (ts:=llq a.rs) (u:=310000) (k:=65000) (a:=sX (bm l a i j0 j)) (by decide);have m2:=yi (ts:=llq a.rs) (u:=310000) (k:=65000) (a:=sX (bX l a i j0 j)) (by decide);have m3:=yi (ts:=llq a.rs) (u:=310000) (k:=65000) (a:=sh 0 (bV l i j0 j:Rat)) (by decide);refine gF func67 (fun k z h=>bG h) ?_ (2,0);refine gW (Wk.o (sl:=[(0,some (.ptr 1000 0)),(4,some (.ptr 24 0))]) (hp:=[(1000,some (cm l ⟨3,[i],[z0,z1],0⟩ a)),(24,some (df a.rs))])) ?_;refine gt (aJ (Con.rekeyBB 1000 24 (by decide) (by decide) rfl rfl rfl rfl rfl rfl (DV D hg P.h0 P.h1 P.p0 hj P.hk hb)) (bO rfl rfl) aM rfl rfl) ?_;refine gt (aJ (Con.rekeyB1 24 rfl rfl rfl rfl rfl hrr) (bO rfl rfl) aM rfl rfl) ?_ (4,0);refine gW (Wk.of (sl:=[(4,some (.ptr 24 0)),(5,some (.ptr 5 0)),(6,some (nA (sX (bm l a i j0 j))))]) (hp:=[(1000,some (cm l ⟨3,[i],[z0,z1],0⟩ a)),(5,some (.box (uo l a i j0 j))),(24,some (bh (llq a.rs)))]) bj (.k (.k (.cons rfl (BlkSub.bL (.cons (.of (lJ etw)) (.cons (.refl _) .nil)) rfl) .nil)))) ?_;refine gt (aX (Con.rB 24 rfl rfl rfl rfl m1) (bO rfl rfl) rfl rfl rfl) ?_;refine gC (fun t34=>?_) (fun t34=>?_) (st1:=(6,0));cases t34;refine gt (aX (Con.rB 24 rfl rfl rfl rfl m2) (bO rfl rfl) rfl rfl rfl) ?_;refine gu (eK rfl rfl rfl (fun h=>aX (Con.rB 24 rfl rfl rfl rfl m3) (.cons (.opt rfl (o1 h)) (.cons (.opt rfl (o1 h)) .nil)) rfl rfl rfl)) ?_;refine gC (fun t44=>?_) (fun t44=>?_)
 ·have h1:=Qn t44;refine gR ?_;exact(aH.keep (bu rfl)).sub (by unfold iG;rw[if_pos h1];exact Sub.tup (.cons (.nil _ _ _) (.cons (.refl _) .nil)))
 have h1:=Vv t44;refine gC (fun t58=>?_) (fun t58=>?_)
 ·have h2:ak (bm l a i j0 j)<0:=of_decide_eq_true t58;refine gR ?_;exact(aH.keep (bu rfl)).sub (by unfold iG;rw[if_neg h1,if_pos h2];exact Sub.tup (.cons (.nil _ _ _) (.cons (.refl _) .nil)))
 have h2:¬ak (bm l a i j0 j)<0:=of_decide_eq_false t58;have hd0:ak (bX l a i j0 j)≠0:=pa tw h2 h1;refine Ax [4,5] [1000,5] (fun(T:LL)(qs:LL)=>[(8,some (.lst 1 (qs.map nA)))]) (fun T _=>[(24,some (bh T))]) (fun T qs=>Cy T 773000000 1101400000/\qs.length<=2/\(∀q∈qs,RqP T (dl l a i j0 j) q)/\iG l a i j0 j=(kD T (dl l a i j0 j) qs qs.length,0)) ?_ ?_
 ·intro K1 J1;refine gC (fun t63=>?_) (fun t63=>?_)
  ·have h3:0<ak (bm l a i j0 j):=of_decide_eq_true t63;obtain⟨E,R1,R2,hng⟩:=H9 F tw hn hd0 oz;have ce:=E.cy;have hex:=GI (a:=sX (bm l a i j0 j)) tw zX.nm (by rw[hlm];decide) (by rw[show ae (llq a.rs).length (sX (bm l a i j0 j))=bm l a i j0 j from bc _ _];show 0<=ak (bm l a i j0 j);omega);refine gc hex ?_;refine gC (fun t75=>?_) (fun t75=>?_) (st1:=(15,0));cases t75;refine gc hng ?_;refine gt (aX (Con.rB 24 rfl rfl rfl rfl (pL _ _)) (aL rfl rfl rfl) rfl rfl rfl) ?_;exact qg J1 (aQ (llq a.rs) (sX (bm l a i j0 j))) ([cr (llq a.rs).length,sX (-bA (bm l a i j0 j))]) ⟨ce,le_refl 2,lK R1 R2,by unfold iG;rw[if_neg h1,if_neg h2,if_pos h3];rfl⟩
  have h3:¬0<ak (bm l a i j0 j):=of_decide_eq_false t63;obtain⟨cs,R0⟩:=BJ F tw hn hd0;exact qg J1 (llq a.rs) ([[]]) ⟨cs,by decide,iL R0,by unfold iG;rw[if_neg h1,if_neg h2,if_neg h3];rfl⟩ (hw:=Wk.of (.cons rfl Nh (.k (.k .nil))) (.k (.k (.k .nil))))
 rintro T qs ⟨ct,hql,hq,hR⟩;obtain⟨rr,twT,hkT⟩:=ct.ex;refine gl ?_;refine gW (Wk.virt 900 3 rfl) ?_;refine a5 [4,5,8,90,91] [1000,5,24] (fun(q:Nat)=>[(12,some (.ms 900 3 0 q)),(92,some (i64 q))]) (fun q=>[(900,some (.row 3 (kD T (dl l a i j0 j) qs q)))]) (fun q=>q<=qs.length) (fun q=>qs.length-q) 0 (zero_le _) ?_;rintro q hqi K2 J2;refine gC (fun t93=>?_) (fun t93=>?_) (st2:=(28,0))
 ·have hin:=bn t93;obtain ⟨x,hx⟩:=aG hin;have hx9:qs.getD q [] = x:=ao hx;have R:=hq x (mem_of_getElem? hx);refine gi (aN hx) ?_;refine gc R.c1 ?_;refine gt (aX (Con.rB 24 rfl rfl rfl rfl (vm _ _ _)) (aL rfl rfl rfl) rfl rfl rfl) ?_;refine gD ?_;refine gc R.ng ?_;refine gt (aX (Con.rB 24 rfl rfl rfl rfl (pL _ _)) (aL rfl rfl rfl) rfl rfl rfl) ?_;refine gc R.c2 ?_;refine gt (aX (Con.rB 24 rfl rfl rfl rfl (vm _ _ _)) (aL rfl rfl rfl) rfl rfl rfl) ?_;refine gD ?_;refine gc R.sb ?_;refine gt (aX (Con.rB 24 rfl rfl rfl rfl (vm _ _ _)) (aL rfl rfl rfl) rfl rfl rfl) ?_;refine gD ?_;refine gt (aX (Con.rB 24 rfl rfl rfl rfl (vp R.d1)) (aL rfl rfl rfl) rfl rfl rfl) ?_;refine gt (aX (Con.rB 24 rfl rfl rfl rfl (vp R.d2)) (aL rfl rfl rfl) rfl rfl rfl) ?_;refine gD ?_;refine gc (Ay twT) ?_;refine gt (aX (Con.rB 24 rfl rfl rfl rfl R.body) (.cons (.tmp rfl) (.cons (.tmp rfl) (.cons (.tmp rfl) (.cons (.tmp rfl) (.cons (.tmp rfl) .nil))))) rfl rfl rfl) ?_;refine gl ?_;refine gc (Hc q qs.length oz) ?_;refine gs (da (.tmp rfl) rfl (AY _ _ _ _).symm (.tmp rfl) T54 rfl T62 rfl rfl (by dsimp only; simp only [length_cons,length_nil]; omega) rfl rfl) ?_;refine gD ?_ (27,0);refine gW (Wk.of (sl:=[(4,some (.ptr 24 0)),(5,some (.ptr 5 0)),(8,some (.lst 1 (qs.map nA))),(12,some (.ms 182 3 0 (q + 1))),(90,some (.lst 1 (qs.map nA))),(91,some (i64 qs.length)),(92,some (i64 q))]) (hp:=[(1000,some (cm l ⟨3,[i],[z0,z1],0⟩ a)),(5,some (.box (uo l a i j0 j))),(24,some (bh T)),(182,some (.row 3 (kD T (dl l a i j0 j) qs (q + 1))))]) bj (.k (.k (.k (.cons rfl (BlkSub.of (by rw [TG]; unfold iR; rw [hx9]; rfl)) .nil))))) ?_ (27,0)
  refine gW (Wk.rk (k:=182) (d:=900) rfl rfl) ?_;refine ga aW ?_;exact aT J2 (q+1) hin
 have hin:=bE hqi t93;subst hin;refine gW ((Wk.freeze (k:=900) rfl).trans<|Wk.of (sl:=[(4,some (.ptr 24 0)),(12,some (.lst 3 (kD T (dl l a i j0 j) qs qs.length)))]) (hp:=[(1000,some (cm l ⟨3,[i],[z0,z1],0⟩ a)),(24,some (bh T))]) (.k (.cons rfl (Sub.of (by rw[cw (AY _ _ _ _).symm])) .nil)) (.k (.k .nil))) ?_;refine gC (fun t188=>?_) (fun t188=>?_) (st1:=(29,0));cases t188;refine gR ?_;exact(aH.keep (bu rfl)).sub (Sub.of (by rw[hR];rfl))
theorem Vx:Sub (.agg [bl (rt ((1:Int):Rat)).neg,ws (rt ((1:Int):Rat)).num,ws (rt ((1:Int):Rat)).den,.v (.bool false),nS,nS]) (qP (((1:Int):Rat),0)) :=
 Sub.agg (.cons (.refl _) (.cons (.refl _) (.cons (.refl _) (.cons (.refl _) (.cons (Sub.nil _ _ _) (.cons (Sub.nil _ _ _) .nil)))))) rfl
theorem tx{ts:LL}(q:Rat):sX (qE q:Et ts)=sh 0 (q:Rat):=xX _ _
def ku(l:Li)(a:As)(i:Int)(j0:Jt)(x:Tn):Pq:=gp (((1:Int):Rat),0) ((qE (dM x.half x.t.q),qE (dP x.half x.t.q)):P2 (llq a.rs)) (ai l j0 i) (ax l a j0 i)
def kA(l:Li)(a:As)(i:Int)(j0:Jt)(x:Tn):List AV×Nat:=if x.err≠0 then([],x.err)else([(⟨llq a.rs,[ku l a i j0 x],1⟩:Sv).av],0)
theorem Qc{l:Li}{g:Gr}{a:As}{x:Tn}(hx:x.t.ok)(hq:Qb 1000 x.t.q)(he:x.err≠0) :
  Con prog 64 [.ptr 1000 0,x.av] [(1000,some (cm l g a))] (.tup [.lst 3 [],cg x.err]) [(1000,some (cm l g a))]:=by
 refine gF func64 (fun k z h=>bG h) ?_;refine gc (Hq x hx hq oz) ?_;refine gC (fun t20=>?_) (fun t20=>?_) (st2:=(77777,0))
 ·refine gR ?_;exact(aH.keep (bu rfl)).sub (Sub.tup (.cons (.nil _ _ _) (.cons (.refl _) .nil)))
 exact absurd (eM t20) he
theorem Ic:Sm 3000 (((1:Int):Rat),(0:Rat)):=⟨Qb.one.mono oz,Qb.mono (e:=1) (q:=0) ⟨by decide,by decide⟩ oz⟩
theorem Ig{E:Nat}(hE:E<=20000000000){l:Li}{a:As}(D:DyW l a)(h3:(llq a.rs).length<=2){body pt:Int}(h1:bD body l.bo.length=true)(h2:bD pt (cE l body).length=true)(hb:Pd E a body) :
  Nm (llq a.rs).length 62500000000 (sX (aA l a body pt).1)/\Nm (llq a.rs).length 62500000000 (sX (aA l a body pt).2):=by
 obtain⟨n,k,bd,m,b,hp⟩:=wl D.hl D.li D.al D.hc h1 h2 hb;obtain⟨tw,_⟩:=cI D.al.tr D.hc;have kb:=Dl h3;have qx:Qb 1000 m.x.q:=by rw[hp.mp.ex,bP];exact hp.mp.sm.x
 have qy:Qb 1000 m.y.q:=by rw[hp.mp.ey,bP];exact hp.mp.sm.y
 have h:=z6 tw hp.ok qx qy;unfold aA;rw[hp.eq];exact⟨h.1.mono oz,h.2.mono oz⟩
theorem Ua{E:Nat}(hE:E<=20000000000){l:Li}{a:As}(D:DyW l a)(h3:(llq a.rs).length<=2){i:Nat}{j:Jt}(hj:l.jo[i]?=some j){b:Int}(h:PinP E l a j b) :
  Nm (llq a.rs).length 62500000000 (sX (ax l a j b).1)/\Nm (llq a.rs).length 62500000000 (sX (ax l a j b).2):=by
 obtain⟨i1,i2,i3,i4,_⟩:=dw D.li hj;unfold ax;rcases h.tie with⟨e,hb⟩ |⟨e,e2,hb⟩
 ·rw[if_pos e];exact Ig hE D h3 i2 i4 hb
 ·rw[if_neg e];exact Ig hE D h3 i1 i3 hb
theorem Dk{E:Nat}(hE:E<=20000000000){l:Li}{a:As}(D:DyW l a)(h3:(llq a.rs).length<=2){n:Nat}{i:Int}{j0:Jt}(h0:l.jo[n]?=some j0)(p0:PinP E l a j0 i){x:Tn}(hq:Qb 1000 x.t.q) :
  BdP (llq a.rs) (((1:Int):Rat),(0:Rat)) ((qE (dM x.half x.t.q),qE (dP x.half x.t.q)):P2 (llq a.rs)) (ai l j0 i) (ax l a j0 i):=by
 obtain⟨tw,etw⟩:=cI D.al.tr D.hc;have qc:=qN (half:=x.half) hq;have qs:=rg (half:=x.half) hq;have hs0:Sm 1000 (ai l j0 i):=ft D.hl D.li h0 p0.or;obtain⟨y1,y2⟩:=Ua hE D h3 h0 p0
 exact De (F := 80000000000) (W := 10000) (u := (((1 : Int) : Rat), (0 : Rat))) (p := ai l j0 i) (w := ((qE (dM x.half x.t.q), qE (dP x.half x.t.q)) : P2 (llq a.rs))) (o := ax l a j0 i) tw h3 (Dl h3) Ic (hs0.mono oz) (by decide +kernel)
  (by show Nm _ _ (sX (qE (dM x.half x.t.q):Et (llq a.rs)));rw[tx];exact(oT tw.five qc).mono oz) (by show Nm _ _ (sX (qE (dP x.half x.t.q):Et (llq a.rs)));rw[tx];exact(oT tw.five qs).mono oz) y1 y2 oz oz oz
theorem QS{E:Nat}(hE:E<=20000000000){l:Li}{a:As}(D:DyW l a)(h3:(llq a.rs).length<=2){i z0 d:Int}{j0:Jt}(hg:GrOk l ⟨0,[i],[z0],d⟩)(h0:l.jo[z0.toNat]?=some j0)(p0:PinP E l a j0 i){x:Tn}(hx:x.t.ok)(hq:Qb 1000 x.t.q)(he:x.err=0) :
  Con prog 64 [.ptr 1000 0,x.av] [(1000,some (cm l ⟨0,[i],[z0],d⟩ a))] (.tup [.lst 3 [(⟨llq a.rs,[ku l a i j0 x],1⟩:Sv).av],.v .nilIface]) [(1000,some (cm l ⟨0,[i],[z0],d⟩ a))]:=by
 obtain⟨tw,etw⟩:=cI D.al.tr D.hc;have hc:=Hq x hx hq oz;rw[if_pos he,he]at hc;have hs:=MQ x hx hq oz;rw[if_pos he,he]at hs;have qc:=qN (half:=x.half) hq;have qs:=rg (half:=x.half) hq;have hs0:Sm 1000 (ai l j0 i):=ft D.hl D.li h0 p0.or;have hb:=xT Ic (hs0.mono oz) (Dk hE D h3 h0 p0 hq)
 have ew:dm (P2.l ((qE (dM x.half x.t.q),qE (dP x.half x.t.q)):P2 (llq a.rs)))=aK (sh 0 (dM x.half x.t.q:Rat)) (sh 0 (dP x.half x.t.q:Rat)):=by
  show aK (sX (qE (dM x.half x.t.q):Et (llq a.rs))) (sX (qE (dP x.half x.t.q):Et (llq a.rs)))=_;rw[tx,tx]
 rw[ew]at hb;have hcl:=Ay tw;have hcl2:FP 154 [cq a.rs] (aR (llq a.rs)):=by rw[etw];exact hcl
 refine gF func64 (fun k z h=>bG h) ?_;refine gc hc ?_;refine gC (fun t20=>?_) (fun t20=>?_) (st1:=(3,0));cases t20;refine gc hs ?_;refine gC (fun t28=>?_) (fun t28=>?_) (st1:=(6,0));cases t28;refine gi rfl ?_;refine gt (aX (uf hE D.hl D.li _ hg D.al D.hc (k:=0) rfl h0 h3 p0) (.cons (.tmp rfl) (.cons (.const _) (cZ rfl))) rfl rfl rfl) ?_;refine gD ?_ (9,0);refine gW (Wk.of (sl:=[(0,some (.ptr 1000 0)),(6,some (.ptr 6 0)),(8,some (.ptr 8 0)),(9,some (.ptr 9 0)),(10,some (.ptr 10 0)),(11,some (.ptr 52 0))]) (hp:=[(1000,some (cm l ⟨0,[i],[z0],d⟩ a)),(6,some (.box [bl (rt (dM x.half x.t.q)).neg,ws (rt (dM x.half x.t.q)).num,ws (rt (dM x.half x.t.q)).den])),(8,some (.box [bl (rt (dP x.half x.t.q)).neg,ws (rt (dP x.half x.t.q)).num,ws (rt (dP x.half x.t.q)).den])),(9,some (.box (qC (ai l j0 i)))),(10,some (.box [nA (sX (ax l a j0 i).1),nA (sX (ax l a j0 i).2)])),(52,some (bh (llq a.rs)))]) bj (.k (.k (.k (.k (.k (.cons rfl (BlkSub.bL (.cons (.of (lJ etw)) (.cons (.refl _) .nil)) rfl) .nil))))))) ?_
 refine gc (mY 1 oz) ?_;refine gc (vr (qc.qs oz) (qs.qs oz)) ?_;refine gt (aX (Con.rB 52 rfl rfl rfl rfl (Con.sA (.cons (.refl _) (.cons Vx (.cons (.refl _) (.cons (.refl _) (.cons (.refl _) .nil))))) hb)) (.cons (.tmp rfl) (.cons (.tmp rfl) (.cons (.tmp rfl) (.cons (.tmp rfl) (.cons (.tmp rfl) .nil))))) rfl rfl rfl) ?_;refine gD ?_;refine gC (fun t67=>?_) (fun t67=>?_) (st1:=(12,0));cases t67;refine gc hcl2 ?_;refine gD ?_;refine gR ?_;exact aH.keep (bu rfl)
theorem Jo{E:Nat}(hE:E<=20000000000){l:Li}{a:As}(D:DyW l a)(h3:(llq a.rs).length<=2){i z0 d:Int}{j0:Jt}(hg:GrOk l ⟨0,[i],[z0],d⟩)(h0:l.jo[z0.toNat]?=some j0)(p0:PinP E l a j0 i){x:Tn}(hx:x.t.ok)(hq:Qb 1000 x.t.q) :
  Con prog 64 [.ptr 1000 0,x.av] [(1000,some (cm l ⟨0,[i],[z0],d⟩ a))] (o4 (kA l a i j0 x)) [(1000,some (cm l ⟨0,[i],[z0],d⟩ a))]:=by
 by_cases he:x.err=0
 ·have h:=QS hE D h3 hg h0 p0 hx hq he;unfold kA;rw[if_neg oz];exact h
 ·have h:=Qc (l:=l) (g:=⟨0,[i],[z0],d⟩) (a:=a) hx hq he;unfold kA;rw[if_pos he];exact h
def iO(l:Li)(a:As)(g:Gr)(x:Tn):List AV×Nat :=
  if g.kind=0 then kA l a (au g 0) (ah l g 0) x
  else if g.kind=1 then iA l a (au g 0) (au g 1) (ah l g 0) (ah l g 1) (ah l g 2)
  else if g.kind=2 then jx l a (au g 0) (ah l g 0) (ah l g 1)
  else iG l a (au g 0) (ah l g 0) (ah l g 1)
theorem BA{E:Nat}{l:Li}{k:Int}{a:As}{own:Bool}{n:Nat}{g:Gr}(h:DyOk E l k a own n g)(hk:g.kind=0):∃i z0 d j0,g=⟨0,[i],[z0],d⟩/\l.jo[z0.toNat]?=some j0/\PinP E l a j0 i:=by
 have hd:=h.dy;cases hd with
 |rrr _ _ _ _ _ _ _=>exact absurd hk (by simp)
 |pr _ _ _=>exact absurd hk (by simp)
 |rp _ _ _=>exact absurd hk (by simp)
 | @drv b z d j x t d0 hd hb=>exact⟨b,z,d,j,rfl,t.hj,h.pin rfl t (by simp) (by simp)⟩
theorem RO{l:Li}{k:Int}{x:Tn}{a:As}{E:Nat}(hop:FP 63 [l.av,i64 k,a.av,bl false] (.tup [.v (.pointer none),cg E]))(h0:E≠0) :
  FP 18 [l.av,i64 k,x.av,a.av] (.tup [.lst 3 [],cg E]):=by
 refine aj func18 ?_;refine gc hop ?_;refine gC (fun t20=>?_) (fun t20=>?_) (st2:=(77777,0))
 ·refine gR ?_;exact ef (Sub.tup (.cons (.nil _ _ _) (.cons (.refl _) .nil)))
 exact absurd (eM t20) h0
theorem Rq{E:Nat}(hE:E<=20000000000){l:Li}{k:Int}{a:As}{n:Nat}{g:Gr}{x:Tn}(hx:x.t.ok)(hq:Qb 1000 x.t.q)(h3:(llq a.rs).length<=2)(hR:g.kind≠0->E=3900000/\DyS a)(hop:Con prog 63 [l.av,i64 k,a.av,bl false] [] (.tup [.ptr 900 0,.v .nilIface]) [(900,some (cm l g a))])(D:DyW l a)(ok:DyOk E l k a false n g) :
  FP 18 [l.av,i64 k,x.av,a.av] (o4 (iO l a g x)):=by
 have hgo:=ok.ok;refine aj func18 ?_;refine gt (aJ hop (.cons (.tmp rfl) (.cons (.tmp rfl) (.cons (.tmp rfl) (.cons (.const _) .nil)))) aM rfl rfl) ?_ (2,0);refine gW (Wk.o (sl:=[(6,some (.ptr 6 0)),(10,some (.ptr 900 0)),(11,some (.v .nilIface))]) (hp:=[(6,some (.box x.av.cells)),(900,some (cm l g a))])) ?_;refine gC (fun t20=>?_) (fun t20=>?_) (st1:=(3,0));cases t20;refine gC (fun t27=>?_) (fun t27=>?_)
 ·have hk:g.kind = 0:=cK t27;obtain ⟨i,z0,d,j0,e,hj0,p0⟩:=BA ok hk;have eR:iO l a g x = kA l a i j0 x:=by unfold iO; rw [if_pos hk,e]; show kA l a i (l.jo.getD z0.toNat default) x = _; rw [ao hj0]
  subst e;refine gt (aX (Con.rB 900 rfl rfl rfl rfl (Jo hE D h3 hgo hj0 p0 hx hq)) (bO rfl rfl) rfl rfl rfl) ?_;refine gR ?_;exact ef (Sub.of (by rw[eR];rfl))
 have hk0:g.kind≠0:=dj t27;obtain⟨hE9,S⟩:=hR hk0;subst hE9;have D:DyR l a:=⟨D,S⟩
 have hn:=S.one D.hc;refine gC (fun t34=>?_) (fun t34=>?_)
 ·have hk:g.kind = 1:=cK t34;obtain ⟨i,k2,z0,z1,z2,j0,j1,j2,P⟩:=ok.rrr hk;obtain ⟨e0,e1,e2,b0,b1,_⟩:=P.at;have eR:iO l a g x = iA l a i k2 j0 j1 j2:=by unfold iO; rw [if_neg hk0,if_pos hk,e0,e1,e2,b0,b1]
  have e:=P.eq;subst e;refine gt (aX (Con.rB 900 rfl rfl rfl rfl (Un D hn hgo P)) (cZ rfl) rfl rfl rfl) ?_;refine gR ?_;exact ef (Sub.of (by rw[eR];rfl))
 have hk1:g.kind≠1:=dj t34;refine gC (fun t40=>?_) (fun t40=>?_)
 ·have hk:g.kind = 2:=cK t40;obtain ⟨i,z0,z1,j0,j,P,ha,hb⟩:=ok.pr hk;obtain ⟨e0,e1,b0,_⟩:=P.at;have eR:iO l a g x = jx l a i j0 j:=by unfold iO; rw [if_neg hk0,if_neg hk1,if_pos hk,e0,e1,b0]
  have e:=P.eq;subst e;refine gt (aX (Con.rB 900 rfl rfl rfl rfl (L5 D hn hgo P ha hb)) (cZ rfl) rfl rfl rfl) ?_;refine gR ?_;exact ef (Sub.of (by rw[eR];rfl))
 have hk2:g.kind≠2:=dj t40;obtain⟨i,z0,z1,j0,j,P,_,hj,hb⟩:=ok.rp hk0 hk1 hk2;obtain⟨e0,e1,b0,_⟩:=P.at;have eR:iO l a g x=iG l a i j0 j:=by unfold iO;rw[if_neg hk0,if_neg hk1,if_neg hk2,e0,e1,b0]
 have e:=P.eq;subst e;refine gt (aX (Con.rB 900 rfl rfl rfl rfl (Tf D hn hgo P hj hb)) (cZ rfl) rfl rfl rfl) ?_;refine gR ?_;exact ef (Sub.of (by rw[eR];rfl))
def kp(l:Li)(k:Int)(x:Tn)(a:As):List AV×Nat:=if eJ l k a false=0 then iO l a (eH l k) x else([],eJ l k a false)
theorem A7(l:Li)(hl:l.ok)(k:Int){x:Tn}(hx:x.t.ok)(hq:Qb 1000 x.t.q)(a:As)(al:AB a)(h3:bt a.rs=0->(llq a.rs).length<=2){E:Nat}(hE:E<=20000000000)(hs:qQ E l k a false)(hR:eJ l k a false=0->(eH l k).kind≠0->E=3900000/\DyS a) :
  FP 18 [l.av,i64 k,x.av,a.av] (o4 (kp l k x a)):=by
 have hop:=D7 l hl k a al false;unfold kp
 by_cases h0:eJ l k a false=0
 ·obtain ⟨n, g, ok⟩:=zJ hs h0;have hgA:eH l k = g:=by unfold eH; rw [ok.hk,toNat_natCast]; exact ao ok.hg
  have hR:=hR h0;rw[hgA]at hR;rw[h0,hgA]at hop;rw[if_pos h0,hgA];exact Rq hE hx hq (h3 ok.chk) hR hop ⟨hl,ok.li,al,ok.chk⟩ ok
 ·rw[oX h0,oB h0]at hop;rw[if_neg h0];exact RO hop h0
theorem AL.dys{a:As}(al:AL a)(hn:bt a.rs=0->(llq a.rs).length<=1):DyS a:=⟨al.tr.mono oz oz,hn⟩
theorem AL.sma{a:As}(al:AL a)(l:Li)(k:Int)(own:Bool):qQ 3900000 l k a own:=fun b _ _ p hp x hx=>(al.nr p (mem_of_getElem? hp) x hx).mono oz
theorem QR(l:Li)(hl:l.ok)(k:Int){x:Tn}(hx:x.t.ok)(hq:Qb 1000 x.t.q)(a:As)(al:AL a)(hn:bt a.rs=0->(llq a.rs).length<=1):FP 18 [l.av,i64 k,x.av,a.av] (o4 (kp l k x a)) :=
 A7 l hl k hx hq a al.ab (fun h=>le_trans (hn h) oz) oz (al.sma l k false) (fun _ _=>⟨rfl,al.dys hn⟩)
structure SvOk(s:Sv):Prop where
  tw:∃r,Tw s.ts r
  two:s.ts.length<=2
  ps:∀p∈s.ps,Pq.ok s.ts.length 80000000000 p
  ln:s.ps.length<=2
theorem Q0(ts:LL)(x:T ts.length):dV ts x x=true:=by
 unfold dV subT;rw[T.add_neg,T.sgn_zero];rfl
structure SolP(S:List Sv)(kd:Int)(n b:Nat):Prop where
  two:S.length<=2
  ok:∀s∈S,SvOk s
  md:∀(i:Nat)(s:Sv),S[i]?=some s->s.mode=(if kd=0 then 1 else if S.length=2 then 1-2*(i:Int)else 0)/\s.ts.length=n+(if S.length=2 then 1 else 0)/\s.ps.length=b
theorem oF(kd:Int)(n b:Nat):SolP [] kd n b:=⟨by simp,by simp,by simp⟩
theorem vX(f:Nat->Sv)(n:Nat):((List.range n).map fun i=>(f i).av)=((List.range n).map f).map Sv.av:=by rw[map_map];rfl
theorem O1{ts:LL}(p q:P2 ts)(z z2:Et ts)(h0:eL p q z z2=0):(dc p q z z2).ts.length=ts.length+(if(dc p q z z2).ps.length=2 then 1 else 0):=by
 unfold eL kc at h0;unfold dc lh;split
 ·rename_i hd;rw[if_pos hd]at h0;split
  ·simp
  ·rename_i hz;split
   ·rename_i hp;rw[if_pos ⟨Decidable.not_not.1 hz,hp⟩]at h0;cases h0
   ·simp
 ·split
  ·simp
  ·split
   ·simp
   ·simp[dD]
theorem Vo{ts:LL}(p q o:P2 ts)(z:Et ts)(h0:eP p q=0):(dq p q o z).ts.length=ts.length+(if(dq p q o z).ps.length=2 then 1 else 0):=by
 unfold eP at h0;unfold dq;split
 ·rename_i hd;rw[if_pos hd]at h0;cases h0
 ·split
  ·simp
  ·split
   ·simp
   ·simp[dD]
def jA(m:Mt)(hs:List Hd):List Sv:=(List.range m.ps.length).map (iy m hs)
def iD(l:Li)(a:As)(i k:Int)(j0 j1 j2:Jt):List Sv :=
  if fX [bw (ai l j2 i) (ai l j0 i),bw (ai l j2 k) (ai l j1 k)]=true then[]
  else if eL (ax l a j0 i) (ax l a j1 k) (qE (aZ (ai l j2 i) (ai l j0 i))) (qE (aZ (ai l j2 k) (ai l j1 k)))≠0 then[]
  else jA (dc (ax l a j0 i) (ax l a j1 k) (qE (aZ (ai l j2 i) (ai l j0 i))) (qE (aZ (ai l j2 k) (ai l j1 k)))) [⟨ai l j0 i,P2.l (ax l a j0 i),ai l j2 i⟩,⟨ai l j1 k,P2.l (ax l a j1 k),ai l j2 k⟩]
def iC(l:Li)(a:As)(i:Int)(j0 j:Jt):List Sv :=
  if fX [bw (aB l i j.point) (ai l j0 i)]=true then[]
  else if eP (aA l a j.b j.on) (aA l a j.b j.to)≠0 then[]
  else jA (dq (aA l a j.b j.on) (aA l a j.b j.to) (ax l a j0 i) (qE (aZ (aB l i j.point) (ai l j0 i)))) [⟨ai l j0 i,P2.l (ax l a j0 i),aB l i j.point⟩]
def ju(ts:LL)(R:Rp)(qs:LL):List Sv:=(List.range qs.length).map (iR ts R qs)
def gK(l:Li)(a:As)(i:Int)(j0 j:Jt):List Sv :=
  if ak (bX l a i j0 j)=0/\ak (qE (bV l i j0 j):Et (llq a.rs))=0 then[]
  else if ak (bm l a i j0 j)<0 then[]
  else if 0<ak (bm l a i j0 j)then ju (aQ (llq a.rs) (sX (bm l a i j0 j))) (dl l a i j0 j) [cr (llq a.rs).length,sX (-bA (bm l a i j0 j))]
  else ju (llq a.rs) (dl l a i j0 j) [[]]
def iY(l:Li)(a:As)(i:Int)(j0:Jt)(x:Tn):List Sv:=if x.err≠0 then[]else[⟨llq a.rs,[ku l a i j0 x],1⟩]
def fO(l:Li)(a:As)(g:Gr)(x:Tn):List Sv :=
  if g.kind=0 then iY l a (au g 0) (ah l g 0) x
  else if g.kind=1 then iD l a (au g 0) (au g 1) (ah l g 0) (ah l g 1) (ah l g 2)
  else if g.kind=2 then iC l a (au g 0) (ah l g 0) (ah l g 1)
  else gK l a (au g 0) (ah l g 0) (ah l g 1)
theorem ST(l:Li)(a:As)(i k:Int)(j0 j1 j2:Jt):(iA l a i k j0 j1 j2).1=(iD l a i k j0 j1 j2).map Sv.av:=by
 unfold iA iD;split
 ·rfl
 ·split
  ·rfl
  ·exact vX _ _
theorem S5(l:Li)(a:As)(i:Int)(j0 j:Jt):(jx l a i j0 j).1=(iC l a i j0 j).map Sv.av:=by
 unfold jx iC;split
 ·rfl
 ·split
  ·rfl
  ·exact vX _ _
theorem SQ(l:Li)(a:As)(i:Int)(j0 j:Jt):(iG l a i j0 j).1=(gK l a i j0 j).map Sv.av:=by
 unfold iG gK;split
 ·rfl
 ·split
  ·rfl
  ·split
   ·exact vX _ _
   ·exact vX _ _
theorem Uk(l:Li)(a:As)(g:Gr)(x:Tn):(iO l a g x).1=(fO l a g x).map Sv.av:=by
 unfold iO fO;split
 ·unfold kA iY;split <;> rfl
 ·split
  ·exact ST ..
  ·split
   ·exact S5 ..
   ·exact SQ ..
theorem IB{ts:LL}{m:Mt}(ok:MtOk ts m){hs:List Hd}(hl:hs.length<=2)(H:∀x∈m.ps,∀h∈hs,HdP m.ts x h){kd:Int}(hk:kd≠0)(lv:m.ts.length=ts.length+(if m.ps.length=2 then 1 else 0)) :
  SolP (jA m hs) kd ts.length hs.length:=by
 have hln:=ok.ln;refine⟨by simpa[jA]using hln,?_,?_⟩
 ·intro s hs2;obtain⟨i,hi,rfl⟩:=List.mem_map.1 hs2;obtain⟨x,hx⟩:=aG (List.mem_range.1 hi);obtain⟨r,tw,_⟩:=ok.tw;refine⟨⟨r,tw⟩,ok.two,?_,by simpa[iy]using hl⟩;intro p hp;unfold iy at hp;rw[ao hx]at hp;obtain⟨h,hh,rfl⟩:=List.mem_map.1 hp;exact(H x (mem_of_getElem? hx) h hh).b.ok
 ·intro i s hi;unfold jA at hi;have hin:i < m.ps.length:=by have:=(List.getElem?_eq_some_iff.1 hi).1; simpa using this
  have e:s=iy m hs i:=by simp[hin]at hi;exact hi.symm
  subst e;have hlen:(jA m hs).length=m.ps.length:=by simp[jA]
  rw[hlen,if_neg hk];refine⟨?_,lv,by simp[iy]⟩;show(if m.ps.length=1 then 0 else 1-2*(i:Int))=_
  by_cases h2:m.ps.length=2
  ·rw[if_neg oz,if_pos h2]
  ·rw[if_pos oz,if_neg h2]
theorem LX{l:Li}{a:As}(D:DyR l a)(hn:(llq a.rs).length<=1){g:Gr}{i k z0 z1 z2:Int}{j0 j1 j2:Jt}(P:RrrP 3900000 l a g i k z0 z1 z2 j0 j1 j2):SolP (iD l a i k j0 j1 j2) 1 (llq a.rs).length 2:=by
 have c:=D.s.ct D.hc;obtain⟨tw,etw⟩:=cI D.s.tr D.hc;have hq0:=ft D.hl D.li P.h0 P.p0.or;have hq1:=ft D.hl D.li P.h1 P.p1.or;have hq2:=ft D.hl D.li P.h2 P.t1;have hq3:=ft D.hl D.li P.h2 P.t2;obtain⟨y1,y2⟩:=jU D.hl D.li D.al D.s D.hc P.h0 P.p0;obtain⟨y3,y4⟩:=jU D.hl D.li D.al D.s D.hc P.h1 P.p1;haveI:=c;haveI q1:=me hq2 hq0;haveI q2:=me hq3 hq1;have z1:Zu 310000 65000 (qE (aZ (ai l j2 i) (ai l j0 i)):Et (llq a.rs)) 3 0:=inferInstance;have z2:Zu 310000 65000 (qE (aZ (ai l j2 k) (ai l j1 k)):Et (llq a.rs)) 3 0:=inferInstance;unfold iD
 by_cases h1:fX [bw (ai l j2 i) (ai l j0 i),bw (ai l j2 k) (ai l j1 k)]=true
 ·rw[if_pos h1];exact oF _ _ _
 ·rw[if_neg h1];obtain⟨w1,w2⟩:=rj (Bool.eq_false_iff.2 h1)
  by_cases h2:eL (ax l a j0 i) (ax l a j1 k) (qE (aZ (ai l j2 i) (ai l j0 i))) (qE (aZ (ai l j2 k) (ai l j1 k)))≠0
  ·rw[if_pos h2];exact oF _ _ _
  ·rw[if_neg h2];have h3:=Decidable.not_not.1 h2;have ok:=Fe (x:=(ax l a j0 i).1) (y:=(ax l a j0 i).2) (x2:=(ax l a j1 k).1) (y2:=(ax l a j1 k).2) tw hn c y1 y2 z1 y3 y4 z2 h3;exact IB ok (by simp) (fun x hx=>lK (rz ok hx (y1.nm.mono (by decide)) (y2.nm.mono (by decide)) hq0 hq2 w1) (rz ok hx (y3.nm.mono (by decide)) (y4.nm.mono (by decide)) hq1 hq3 w2)) (by decide) (O1 _ _ _ _ h3)
theorem QO{l:Li}{a:As}(D:DyR l a)(hn:(llq a.rs).length<=1){g:Gr}{i z0 z1:Int}{j0 j:Jt}(P:SlP 3900000 l a g 2 i z0 z1 j0 j)(ha:j.a=i)(hb:Pd 3900000 a j.b):SolP (iC l a i j0 j) 2 (llq a.rs).length 1:=by
 have c:=D.s.ct D.hc;obtain⟨tw,etw⟩:=cI D.s.tr D.hc;obtain⟨i1,i2,i3,i4,i5⟩:=dw D.li P.h1;have hq2:Sm 1000 (aB l i j.point):=by rw[<- ha];exact jQ D.hl D.li i1 i3
 have hq0:=ft D.hl D.li P.h0 P.p0.or;obtain⟨y1,y2⟩:=jU D.hl D.li D.al D.s D.hc P.h0 P.p0;obtain⟨y3,y4⟩:=lF D.hl D.li D.al D.s D.hc i2 i4 hb;obtain⟨y5,y6⟩:=lF D.hl D.li D.al D.s D.hc i2 (i5 P.hk) hb;haveI:=c;haveI q1:=me hq2 hq0;have z1:Zu 310000 65000 (qE (aZ (aB l i j.point) (ai l j0 i)):Et (llq a.rs)) 3 0:=inferInstance;unfold iC
 by_cases h1:fX [bw (aB l i j.point) (ai l j0 i)]=true
 ·rw[if_pos h1];exact oF _ _ _
 ·rw[if_neg h1];have w1:=ru (Bool.eq_false_iff.2 h1)
  by_cases h2:eP (aA l a j.b j.on) (aA l a j.b j.to)≠0
  ·rw[if_pos h2];exact oF _ _ _
  ·rw[if_neg h2];have h3:=Decidable.not_not.1 h2;have ok:=GB (o:=ax l a j0 i) (p:=aA l a j.b j.on) (q:=aA l a j.b j.to) (z:=qE (aZ (aB l i j.point) (ai l j0 i))) tw hn c y1 y2 y3 y4 y5 y6 z1 h3;exact IB ok (by simp) (fun x hx=>iL (rz ok hx (y1.nm.mono (by decide)) (y2.nm.mono (by decide)) hq0 hq2 w1)) (by decide) (Vo _ _ _ _ h3)
theorem Ir{ts T:LL}{R:Rp}{qs:LL}(ct:Cy T 773000000 1101400000)(hl:qs.length<=2)(h1:1<=qs.length)(H:∀q∈qs,RqP T R q)(lv:T.length=ts.length+(if qs.length=2 then 1 else 0)):SolP (ju T R qs) 3 ts.length 1:=by
 refine⟨by simpa[ju]using hl,?_,?_⟩
 ·intro s hs2;obtain⟨i,hi,rfl⟩:=List.mem_map.1 hs2;obtain⟨x,hx⟩:=aG (List.mem_range.1 hi);obtain⟨r,tw,_⟩:=ct.ex;refine⟨⟨r,tw⟩,ct.two,?_,by simp[iR]⟩;intro p hp;unfold iR at hp;rw[ao hx]at hp;rw[List.mem_singleton.1 hp];exact(H x (mem_of_getElem? hx)).b.ok
 ·intro i s hi;unfold ju at hi;have hin:i < qs.length:=by have:=(List.getElem?_eq_some_iff.1 hi).1; simpa using this
  have e:s=iR T R qs i:=by simp[hin]at hi;exact hi.symm
  subst e;have hlen:(ju T R qs).length=qs.length:=by simp[ju]
  rw[hlen,if_neg (by decide)];refine⟨?_,lv,by simp[iR]⟩;show(if qs.length=1 then 0 else 1-2*(i:Int))=_
  by_cases h2:qs.length=2
  ·rw[if_neg oz,if_pos h2]
  ·rw[if_pos oz,if_neg h2]
theorem RX{l:Li}{a:As}(D:DyR l a)(hn:(llq a.rs).length<=1){g:Gr}{i z0 z1:Int}{j0 j:Jt}(P:SlP 3900000 l a g 3 i z0 z1 j0 j)(hj:j.b=i)(hb:Pd 3900000 a j.a):SolP (gK l a i j0 j) 3 (llq a.rs).length 1:=by
 obtain⟨tw,etw⟩:=cI D.s.tr D.hc;have F:=En D hn P hj hb;unfold gK
 by_cases h1:ak (bX l a i j0 j)=0/\ak (qE (bV l i j0 j):Et (llq a.rs))=0
 ·rw[if_pos h1];exact oF _ _ _
 ·rw[if_neg h1]
  by_cases h2:ak (bm l a i j0 j)<0
  ·rw[if_pos h2];exact oF _ _ _
  ·rw[if_neg h2];have hd0:ak (bX l a i j0 j)≠0:=pa tw h2 h1
   by_cases h3:0<ak (bm l a i j0 j)
   ·rw[if_pos h3];obtain⟨E,R1,R2,_⟩:=H9 F tw hn hd0 oz;exact Ir (ts:=llq a.rs) (qs:=[cr (llq a.rs).length,sX (-bA (bm l a i j0 j))]) E.cy (le_refl 2) (by show 1<=2;omega) (lK R1 R2) (dD (llq a.rs) (sX (bm l a i j0 j)))
   ·rw[if_neg h3];obtain⟨cs,R0⟩:=BJ F tw hn hd0;exact Ir (ts:=llq a.rs) (qs:=[[]]) cs (by show 1<=2;omega) (le_refl 1) (iL R0) rfl
theorem O5{E:Nat}(hE:E<=20000000000){l:Li}{a:As}(D:DyW l a)(h3:(llq a.rs).length<=2){i z0:Int}{j0:Jt}(h0:l.jo[z0.toNat]?=some j0)(p0:PinP E l a j0 i){x:Tn}(hq:Qb 1000 x.t.q):SolP (iY l a i j0 x) 0 (llq a.rs).length 1:=by
 obtain⟨tw,etw⟩:=cI D.al.tr D.hc;unfold iY
 by_cases he:x.err≠0
 ·rw[if_pos he];exact oF _ _ _
 ·rw [if_neg he];refine ⟨by simp,iL ⟨⟨_,tw⟩,h3,iL (Dk hE D h3 h0 p0 hq).ok,by show 1 <= 2; omega⟩,?_⟩;intro n s hs
  match n,hs with
  |0,hs=>cases hs;exact⟨rfl,rfl,rfl⟩
theorem BW{E:Nat}(hE:E<=20000000000){l:Li}{k:Int}{a:As}{n:Nat}{g:Gr}{x:Tn}(D:DyW l a)(h3:(llq a.rs).length<=2)(ok:DyOk E l k a false n g)(hR:g.kind≠0->E=3900000/\DyS a)(hq:Qb 1000 x.t.q):SolP (fO l a g x) g.kind (llq a.rs).length g.bo.length:=by
 unfold fO
 by_cases hk0:g.kind=0
 ·obtain⟨i,z0,d,j0,e,hj0,p0⟩:=BA ok hk0;rw[if_pos hk0,e];show SolP (iY l a i (l.jo.getD z0.toNat default) x) _ _ _;rw[ao hj0];exact O5 hE D h3 hj0 p0 hq
 ·rw[if_neg hk0];obtain⟨hE9,S⟩:=hR hk0;subst hE9;have D:DyR l a:=⟨D,S⟩
  have hn:=S.one D.hc
  by_cases hk1:g.kind=1
  ·obtain⟨i,k2,z0,z1,z2,j0,j1,j2,P⟩:=ok.rrr hk1;obtain⟨e0,e1,e2,b0,b1,_⟩:=P.at;rw[if_pos hk1,e0,e1,e2,b0,b1,hk1,P.eq];exact LX D hn P
  ·rw[if_neg hk1]
   by_cases hk2:g.kind=2
   ·obtain⟨i,z0,z1,j0,j,P,ha,hb⟩:=ok.pr hk2;obtain⟨e0,e1,b0,_⟩:=P.at;rw[if_pos hk2,e0,e1,b0,hk2,P.eq];exact QO D hn P ha hb
   ·obtain⟨i,z0,z1,j0,j,P,_,hj,hb⟩:=ok.rp hk0 hk1 hk2;obtain⟨e0,e1,b0,hk3⟩:=P.at;rw[if_neg hk2,e0,e1,b0,hk3,P.eq];exact RX D hn P hj hb
open Lean.Grind (CommRing)
structure Hm{ts:LL}{R:Type}[CommRing R](f:Et ts->R):Prop where
  add:∀x y,f (x+y)=f x+f y
  mul:∀x y,f (x*y)=f x*f y
  neg:∀x,f (-x)=-f x
  one:f 1=1
  inv:∀x,ak x≠0->f (iE x)*f x=1
  zero:∀x,f x=0↔ak x=0
section
variable{ts:LL}{R:Type}[CommRing R]{f:Et ts->R}(h:Hm f)
include h
theorem Hm.sub(x y:Et ts):f (x-y)=f x-f y:=by
 rw[show x-y=x+-y by grind,h.add,h.neg];grind
theorem Hm.nul:f 0=0:=by
 have e:=h.add 0 0;rw[show(0:Et ts)+0=0 by grind]at e;grind
theorem Hm.q1:f (qE ((1:Int):Rat))=1:=by rw[lH];exact h.one
theorem Hm.q4:f (qE 4)=4:=by
 have e:(qE 4:Et ts)=1+1+1+1:=by
  have e1:=lc (r:=aw ts) (n:=ts.length) 1 1;have e2:=lc (r:=aw ts) (n:=ts.length) 2 2;rw[show(1:Rat)+1=2 by decide +kernel]at e1;rw[show(2:Rat)+2=4 by decide +kernel,e1]at e2;rw[e2];have e3:(qE 1:Et ts)=1:=rfl;rw[e3];grind
 rw[e,h.add,h.add,h.add,h.one];grind
end
abbrev cP(ts:LL):Prop:=ff (aw ts) ts.length
theorem n8{ts:LL}(hp:cP ts):Hm (aa hp:Et ts->Zq hp) :=
 ⟨fun _ _=>rfl,fun _ _=>rfl,fun _=>rfl,rfl,fun x hx=>n6 hp hx,fun x=>et hp⟩
theorem Lk{ts:LL}(X:Et ts)(hp:cP (aQ ts (sX X))):Hm (fun x:Et ts=>aa hp (aI X x)) :=
  ⟨fun x y => by rw [pN]; rfl, fun x y => by rw [fe]; rfl, fun x => by rw [FY]; rfl,
   by have e := mM X ((1 : Nat) : Rat)
      have e1:(qE ((1:Nat):Rat):Et ts)=1:=rfl;rw[e1]at e;rw[e];rfl,
   fun x hx=>by rw[nT];exact n6 hp (by show ak (aI X x)≠0;rw[od];exact hx),
   fun x=>by rw[et hp];show ak (aI X x)=0↔_;rw[od]⟩
theorem BZ(k:Nat):ae (k+1) (cr k)=(T.zero k,T.ofQ k 1):=by
 have h1:(cr k).take (2^k)=List.replicate (2^k) 0:=by
  unfold cr;rw[List.take_set_of_le (le_refl _),List.take_replicate];congr 1;have:=Nat.pow_lt_pow_right (a:=2) oz (Nat.lt_succ_self k);omega
 have h2:(cr k).drop (2^k)=(1:Rat)::List.replicate (2^k-1) 0:=by
  unfold cr;rw[List.drop_set,if_neg oz,Nat.sub_self,List.drop_replicate]
  have e:2^(k+1)-2^k=(2^k-1)+1:=by
   have h3:0<2^k:=Nat.pow_pos oz;have h4:2^(k+1)=2^k+2^k:=by rw[Nat.pow_succ];omega
   omega
  rw[e,List.replicate_succ,List.set_cons_zero]
 show(ae k _,ae k _)=_;rw[h1,h2]
 have e1:ae k (List.replicate (2^k) (0:Rat))=T.zero k:=by
  rw[<- gQ]
  exact ou k (fun i _=>by
   rw[getD_eq_getElem?_getD,getD_eq_getElem?_getD,List.getElem?_replicate];split <;> rfl)
 have e2:ae k ((1:Rat)::List.replicate (2^k-1) 0)=T.ofQ k 1:=by
  rw[<- lN]
  exact ou k (fun i _=>by
   cases i with
   |zero=>rfl
   |succ i =>
    rw[getD_eq_getElem?_getD,getD_eq_getElem?_getD,List.getElem?_cons_succ,List.getElem?_replicate];split <;> rfl)
 rw[e1,e2]
theorem Jw{n N:Nat}(hN:N=n+1){r:(k:Nat)->T k}(x:T n)(hx:r n=x):T.mul r N (ae N (cr n)) (ae N (cr n))=jb x:=by
 subst hN;rw[BZ,jX];show(T.add n (T.mul r n (T.zero n) (T.zero n)) (T.mul r n (T.mul r n (T.ofQ n 1) (T.ofQ n 1)) (r n)),T.add n (T.mul r n (T.zero n) (T.ofQ n 1)) (T.mul r n (T.ofQ n 1) (T.zero n)))=_;have L:=mw r n;rw[L.one,L.one,T.zero_mul,T.zero_mul,T.zero_add,L.one,T.zero_add,hx]
theorem AN{ts:LL}(X:Et ts):bA X*bA X=aI X X:=by
 refine Jw (dD _ _) X ?_;show ae ts.length ((aQ ts (sX X)).getD ts.length [])=X;rw[un,no];exact bc _ _
section
variable{R:Type}[CommRing R]
theorem SP{p1 p2 q1 q2 z z2 i t:R}(hi:i*(((p1-q1)*(p1-q1)+(p2-q2)*(p2-q2))+((p1-q1)*(p1-q1)+(p2-q2)*(p2-q2)))=1)
  (ht:t*t=4*(z*((p1-q1)*(p1-q1)+(p2-q2)*(p2-q2)))-((z+((p1-q1)*(p1-q1)+(p2-q2)*(p2-q2)))-z2)*((z+((p1-q1)*(p1-q1)+(p2-q2)*(p2-q2)))-z2))
  {x y:R} (hx:x=p1+((z+((p1-q1)*(p1-q1)+(p2-q2)*(p2-q2)))-z2)*i*(q1-p1)+t*(i*-(q2-p2))) (hy:y=p2+((z+((p1-q1)*(p1-q1)+(p2-q2)*(p2-q2)))-z2)*i*(q2-p2)+t*(i*(q1-p1))) :
  (x-p1)*(x-p1)+(y-p2)*(y-p2)=z/\(x-q1)*(x-q1)+(y-q2)*(y-q2)=z2:=by
 obtain⟨d,hd⟩:∃d,d=(p1-q1)*(p1-q1)+(p2-q2)*(p2-q2):=⟨_,rfl⟩
 rw[<- hd]at hi ht hx hy;obtain⟨a,ha⟩:∃a,a=z+d-z2:=⟨_,rfl⟩
 rw[<- ha]at ht hx hy;have e1:(x-p1)*(x-p1)+(y-p2)*(y-p2)=(a*a+t*t)*(i*i)*d:=by rw[hx,hy,hd];grind
 have e2:(a*a+t*t)*(i*i)*d=z:=by
  rw[ht];have:(a*a+(4*(z*d)-a*a))*(i*i)*d=z*(i*(d+d))*(i*(d+d)):=by grind
  rw[this,hi];grind
 have e3:(x-q1)*(x-q1)+(y-q2)*(y-q2)=((x-p1)*(x-p1)+(y-p2)*(y-p2))-a*(i*(d+d))+d:=by rw[hx,hy,hd];grind
 refine⟨e1.trans e2,?_⟩;rw[e3,e1,e2,hi,ha];grind
theorem Np(e t i S:R):(e+t)*i*S=(e+t)*(i*S):=by grind
theorem QQ(z i S W:R):i*S*z-i*(S*W)+W=z*(i*S)-(i*S)*W+W:=by grind
theorem IS(z W:R):z*1-1*W+W=z:=by grind
theorem Qm(x:R):x*1=x:=by grind
theorem Ms(k e t S:R):k*k*S-(k*e+k*e)=k*(k*S)-(k*e+k*e):=by grind
theorem Ko(e t i:R):(e+t)*i*(e+t)-((e+t)*i*e+(e+t)*i*e)=i*(t*t-e*e):=by grind
theorem Kx{p1 p2 q1 q2 c1 c2 z i t k:R}(hi:i*((q1-p1)*(q1-p1)+(q2-p2)*(q2-p2))=1)
  (ht:t*t=((q1-p1)*(q1-p1)+(q2-p2)*(q2-p2))*z-((q1-p1)*(c2-p2)-(q2-p2)*(c1-p1))*((q1-p1)*(c2-p2)-(q2-p2)*(c1-p1)))
  (hk:k=((q1-p1)*(c1-p1)+(q2-p2)*(c2-p2)+t)*i)
  {x y:R} (hx:x=p1+k*(q1-p1)) (hy:y=p2+k*(q2-p2)) :
  (x-c1)*(x-c1)+(y-c2)*(y-c2)=z/\(q1-p1)*(y-p2)-(q2-p2)*(x-p1)=0:=by
 refine⟨?_,by rw[hx,hy];grind⟩;obtain⟨S,hS⟩:∃S,S=(q1-p1)*(q1-p1)+(q2-p2)*(q2-p2):=⟨_,rfl⟩
 obtain⟨e,he⟩:∃e,e=(q1-p1)*(c1-p1)+(q2-p2)*(c2-p2):=⟨_,rfl⟩
 obtain⟨C,hC⟩:∃C,C=(q1-p1)*(c2-p2)-(q2-p2)*(c1-p1):=⟨_,rfl⟩
 obtain⟨W,hW⟩:∃W,W=(c1-p1)*(c1-p1)+(c2-p2)*(c2-p2):=⟨_,rfl⟩
 rw[<- hS]at hi ht;rw[<- he]at hk;rw[<- hC]at ht;have e0:e*e+C*C=S*W:=by rw[he,hC,hS,hW];grind
 have e1:(x-c1)*(x-c1)+(y-c2)*(y-c2)=k*k*S-(k*e+k*e)+W:=by rw[hx,hy,hS,he,hW];grind
 have e2:k*S=e+t:=by rw[hk,Np,hi,Qm]
 have e3:k*k*S-(k*e+k*e)+W=i*(t*t-e*e)+W:=by
  rw[Ms k e t S,e2,hk,Ko]
 rw[e1,e3,ht];have:i*(S*z-C*C-e*e)+W=i*S*z-i*(e*e+C*C)+W:=by grind
 rw[this,e0,QQ,hi,IS]
theorem Jc{W1 W2 N hh i t D w1 w2:R}(hD:D=W1*W1+W2*W2)(hi:i*D=1)(ht:t*t=N*D-hh*hh)
  (h1:w1=(t*W1-hh*-W2)*i) (h2:w2=(t*W2-hh*W1)*i):w1*w1+w2*w2=N/\w1*W2-w2*W1=hh:=by
 have e1:w1*w1+w2*w2=(t*t+hh*hh)*(i*D)*i:=by rw[h1,h2,hD];grind
 have e2:w1*W2-w2*W1=hh*(i*D):=by rw[h1,h2,hD];grind
 refine⟨?_,by rw[e2,hi];grind⟩;rw[e1,ht,hi];have:(N*D-hh*hh+hh*hh)*1*i=N*(i*D):=by grind
 rw[this,hi];grind
theorem Hg{u1 u2 w1 w2 n i c s:R}(hn:n=u1*u1+u2*u2)(hi:i*n=1)(hc:c=(u1*w1+u2*w2)*i)(hs:s=(u1*w2-u2*w1)*i) :
  (c*u1-s*u2=w1/\s*u1+c*u2=w2)/\(w1*w1+w2*w2=n->c*c+s*s=1):=by
 have e1:c*u1-s*u2=w1*(i*n):=by rw[hc,hs,hn];grind
 have e2:s*u1+c*u2=w2*(i*n):=by rw[hc,hs,hn];grind
 refine⟨⟨by rw[e1,hi];grind,by rw[e2,hi];grind⟩,fun hw=>?_⟩;have e3:c*c+s*s=(w1*w1+w2*w2)*(i*n)*i:=by rw[hc,hs,hn];grind
 rw[e3,hw,hi];rw[show n*1*i=i*n by grind,hi]
end
end Go.Lw
namespace Go.Lw
open Lean.Grind (CommRing)
def aq{ts:LL}(T:LL)(y:Et ts):Et T:=dE T (sX y)
structure Lf(ts T:LL):Prop where
  pos:cP T
  hm:Hm (fun y:Et ts=>aa pos (aq T y))
  low:∀l:List Rat,l.length<=2^ts.length->aq T (dE ts l)=dE T l
  q:∀q:Rat,aq T (qE q:Et ts)=qE q
  len:ts.length<=T.length
  sg:∀y:Et ts,ak (aq T y)=ak y
  ad:∀x y:Et ts,aq T (x+y)=aq T x+aq T y
  mu:∀x y:Et ts,aq T (x*y)=aq T x*aq T y
theorem cR{ts:LL}(y:Et ts):aq ts y=y:=bc _ _
theorem kG{ts:LL}(hp:cP ts):Lf ts ts:=by
 refine⟨hp,?_,fun l _=>cR _,fun q=>cR _,le_refl _,fun y=>by rw[cR],fun x y=>by rw[cR,cR,cR],fun x y=>by rw[cR,cR,cR]⟩;have e:(fun y:Et ts=>aa hp (aq ts y))=aa hp:=funext fun y=>by rw[cR]
 rw[e];exact n8 hp
theorem Ol{n N:Nat}(hN:N=n+1){l:List Rat}(h:l.length<=2^n):ae N (sh n (ae n l))=ae N l:=by
 subst hN;rw[fW (di n _).le,bc,fW h]
theorem qB{ts:LL}(X:Et ts)(hp:cP (aQ ts (sX X))):Lf ts (aQ ts (sX X)) :=
 ⟨hp,Lk X hp,fun l h=>Ol (dD _ _) h,fun q=>mM X q,by rw[dD];omega,fun y=>od,fun x y=>pN X x y,fun x y=>fe X x y⟩
structure CirG(ts T:LL)(x:List Rat×List Rat)(p q:P2 ts)(z z2:Et ts):Prop where
  lf:Lf ts T
  c1:ak ((dE T x.1-aq T p.1)*(dE T x.1-aq T p.1)+(dE T x.2-aq T p.2)*(dE T x.2-aq T p.2)-aq T z)=0
  c2:ak ((dE T x.1-aq T q.1)*(dE T x.1-aq T q.1)+(dE T x.2-aq T q.2)*(dE T x.2-aq T q.2)-aq T z2)=0
section
variable{ts:LL}
theorem mP{R:Type}[CommRing R]{f:Et ts->R}(h:Hm f)(p q:P2 ts):f (az p q)=(f p.1-f q.1)*(f p.1-f q.1)+(f p.2-f q.2)*(f p.2-f q.2):=by
 show f ((p.1-q.1)*(p.1-q.1)+(p.2-q.2)*(p.2-q.2))=_;rw[h.add,h.mul,h.mul,h.sub,h.sub]
theorem Ht{R:Type}[CommRing R]{f:Et ts->R}(h:Hm f)(p q:P2 ts)(z z2:Et ts){D:R}(hD:f (az p q)=D):f (bg p z q z2)=4*(f z*D)-((f z+D)-f z2)*((f z+D)-f z2):=by
 subst hD;unfold bg;rw[h.sub,h.mul,h.mul,h.mul,h.sub,h.add,h.q4]
theorem Kk{R:Type}[CommRing R]{f:Et ts->R}(h:Hm f){p q:P2 ts}{z z2:Et ts}(hd2:ak (az p q+az p q)≠0){t:R}(ht:t*t=f (bg p z q z2)){x y:R}
  (hx:x=f (cS p q z z2).1+t*f (gk p q).1) (hy:y=f (cS p q z z2).2+t*f (gk p q).2) :
  (x-f p.1)*(x-f p.1)+(y-f p.2)*(y-f p.2)=f z/\(x-f q.1)*(x-f q.1)+(y-f q.2)*(y-f q.2)=f z2:=by
 have d:=mP h p q;have hi:=h.inv _ hd2;rw[h.add,d]at hi;rw[Ht h p q z z2 d]at ht;refine SP hi ht ?_ ?_
 ·rw[hx,vP];unfold cD gk;dsimp only;show f (p.1+qE ((1:Int):Rat)*iE (az p q+az p q)*(z+az p q-z2)*(q.1-p.1))+t*f (qE ((1:Int):Rat)*iE (az p q+az p q)*(0-(q.2-p.2)))=_;simp only[h.add,h.mul,h.sub,h.q1,h.nul,d];generalize(f p.1-f q.1)*(f p.1-f q.1)+(f p.2-f q.2)*(f p.2-f q.2)=D;generalize f (iE (az p q+az p q))=i;clear ht hi hx hy;grind
 ·rw[hy,vP];unfold cD gk;dsimp only;show f (p.2+qE ((1:Int):Rat)*iE (az p q+az p q)*(z+az p q-z2)*(q.2-p.2))+t*f (qE ((1:Int):Rat)*iE (az p q+az p q)*(q.1-p.1))=_;simp only[h.add,h.mul,h.sub,h.q1,d];generalize(f p.1-f q.1)*(f p.1-f q.1)+(f p.2-f q.2)*(f p.2-f q.2)=D;generalize f (iE (az p q+az p q))=i;clear ht hi hx hy;grind
theorem Cp{r:Nat}(tw:Tw ts r){d:Et ts}(hd:ak d≠0):ak (d+d)≠0:=by
 rw[<- A9,uZ tw];exact hd
theorem Ab{T:LL}(L:Lf ts T){x:List Rat×List Rat}{p q:P2 ts}{z z2:Et ts}(hd2:ak (az p q+az p q)≠0){t:Et T}(ht:aa L.pos (t*t)=aa L.pos (aq T (bg p z q z2)))
  (hx:dE T x.1=aq T (cS p q z z2).1+t*aq T (gk p q).1) (hy:dE T x.2=aq T (cS p q z z2).2+t*aq T (gk p q).2):CirG ts T x p q z z2:=by
 have g:=Kk L.hm hd2 (t:=aa L.pos t) ht (x:=aa L.pos (dE T x.1)) (y:=aa L.pos (dE T x.2)) (by rw[hx];rfl) (by rw[hy];rfl);refine⟨L,?_,?_⟩
 ·refine(et L.pos).1 ?_;rw[bp,cC,ba,ba,bp,bp];have:=g.1;generalize aa L.pos (aq T z)=Z at *;generalize aa L.pos (aq T p.1)=P1 at *;generalize aa L.pos (aq T p.2)=P2 at *;rw[this];grind
 ·refine(et L.pos).1 ?_;rw[bp,cC,ba,ba,bp,bp];have:=g.2;rw[this];grind
theorem ee{T:LL}(y:Et T):dE T (sX y)=y:=bc _ _
theorem QF{r:Nat}(tw:Tw ts r)(hx4:∀X:Et ts,0<ak X->cP (aQ ts (sX X))){p q:P2 ts}{z z2:Et ts}(h0:eL p q z z2=0)(hz:0<ak z) :
  ∀x∈(dc p q z z2).ps,CirG ts (dc p q z z2).ts x p q z z2:=by
 intro x;unfold eL kc at h0;unfold dc;split
 ·rename_i hd;rw[if_pos hd]at h0;unfold lh;split
  ·intro hx;cases hx
  ·intro hx;cases hx
 ·rename_i hd;have hd2:=Cp tw hd;split
  ·intro hx;cases hx
  ·rename_i hn;split
   ·rename_i hX;intro hx;rw[List.mem_singleton.1 hx];have hp:cP ts:=tw.pos;refine Ab (kG hp) hd2 (t:=0) ?_ ?_ ?_
    ·refine((et hp).2 ?_).trans ((et hp).2 ?_).symm
     ·rw[show(0:Et ts)*0=0 by grind];exact(du _ _ hp).zero
     ·rw[cR];exact hX
    ·rw[cR,cR,ee];grind
    ·rw[cR,cR,ee];grind
   ·rename_i hX;have hX1:0 < ak (bg p z q z2):=by omega
    have hp:=hx4 _ hX1;intro hx;have L:=qB (bg p z q z2) hp;have e:=AN (bg p z q z2);rcases List.mem_cons.1 hx with rfl |hx
    ·refine Ab L hd2 (t := bA (bg p z q z2)) (by rw [e]; rfl) ?_ ?_
     ·rw[ee];exact congrArg Prod.fst (sN (bg p z q z2) (cS p q z z2) p q)
     ·rw[ee];exact congrArg Prod.snd (sN (bg p z q z2) (cS p q z z2) p q)
    ·rw [List.mem_singleton.1 hx];refine Ab L hd2 (t:=-bA (bg p z q z2)) (by rw [show -bA (bg p z q z2) * -bA (bg p z q z2) = bA (bg p z q z2) * bA (bg p z q z2) by grind,e]; rfl) ?_ ?_
     ·rw[ee,congrArg Prod.fst (uI (bg p z q z2) (cS p q z z2) p q)];show aI _ _-_*aI _ _=aI _ _+-_*aI _ _;grind
     ·rw[ee,congrArg Prod.snd (uI (bg p z q z2) (cS p q z z2) p q)];show aI _ _-_*aI _ _=aI _ _+-_*aI _ _;grind
structure LinG(ts T:LL)(x:List Rat×List Rat)(p q c:P2 ts)(z:Et ts):Prop where
  lf:Lf ts T
  c:ak ((dE T x.1-aq T c.1)*(dE T x.1-aq T c.1)+(dE T x.2-aq T c.2)*(dE T x.2-aq T c.2)-aq T z)=0
  l:ak ((aq T q.1-aq T p.1)*(dE T x.2-aq T p.2)-(aq T q.2-aq T p.2)*(dE T x.1-aq T p.1))=0
theorem RV{R:Type}[CommRing R]{f:Et ts->R}(h:Hm f){p q c:P2 ts}{z:Et ts}(hd:ak (a7 p q)≠0){t:R}(ht:t*t=f (aP p q c z)){x y:R}
  (hx:x=f (cD p (bH p q c*iE (a7 p q)) (aE q p)).1+t*f (fP p q).1) (hy:y=f (cD p (bH p q c*iE (a7 p q)) (aE q p)).2+t*f (fP p q).2) :
  (x-f c.1)*(x-f c.1)+(y-f c.2)*(y-f c.2)=f z/\(f q.1-f p.1)*(y-f p.2)-(f q.2-f p.2)*(x-f p.1)=0:=by
 have hi:=h.inv _ hd
 have eS:f (a7 p q)=(f q.1-f p.1)*(f q.1-f p.1)+(f q.2-f p.2)*(f q.2-f p.2):=by
  show f ((q.1-p.1)*(q.1-p.1)+(q.2-p.2)*(q.2-p.2))=_;simp only[h.add,h.mul,h.sub]
 have eE:f (bH p q c)=(f q.1-f p.1)*(f c.1-f p.1)+(f q.2-f p.2)*(f c.2-f p.2):=by
  show f ((q.1-p.1)*(c.1-p.1)+(q.2-p.2)*(c.2-p.2))=_;simp only[h.add,h.mul,h.sub]
 have eC:f (gU p q c)=(f q.1-f p.1)*(f c.2-f p.2)-(f q.2-f p.2)*(f c.1-f p.1):=by
  show f ((q.1-p.1)*(c.2-p.2)-(q.2-p.2)*(c.1-p.1))=_;simp only[h.mul,h.sub]
 have eX:f (aP p q c z)=f (a7 p q)*f z-f (gU p q c)*f (gU p q c):=by
  show f (a7 p q*z-gU p q c*gU p q c)=_;simp only[h.mul,h.sub]
 rw[eX,eC,eS]at ht;rw[eS]at hi;refine Kx hi ht (k:=(f (bH p q c)+t)*f (iE (a7 p q))) (by rw[eE]) ?_ ?_
 ·rw[hx];unfold cD fP;show f (p.1+bH p q c*iE (a7 p q)*(q.1-p.1))+t*f (qE ((1:Int):Rat)*iE (a7 p q)*(q.1-p.1))=_;simp only[h.add,h.mul,h.sub,h.q1];generalize f (iE (a7 p q))=i;generalize f (bH p q c)=e;clear ht hi hx hy eS eE eC eX;grind
 ·rw[hy];unfold cD fP;show f (p.2+bH p q c*iE (a7 p q)*(q.2-p.2))+t*f (qE ((1:Int):Rat)*iE (a7 p q)*(q.2-p.2))=_;simp only[h.add,h.mul,h.sub,h.q1];generalize f (iE (a7 p q))=i;generalize f (bH p q c)=e;clear ht hi hx hy eS eE eC eX;grind
theorem yo{T:LL}(L:Lf ts T){x:List Rat×List Rat}{p q c:P2 ts}{z:Et ts}(hd:ak (a7 p q)≠0){t:Et T}(ht:aa L.pos (t*t)=aa L.pos (aq T (aP p q c z)))
  (hx:dE T x.1=aq T (cD p (bH p q c*iE (a7 p q)) (aE q p)).1+t*aq T (fP p q).1) (hy:dE T x.2=aq T (cD p (bH p q c*iE (a7 p q)) (aE q p)).2+t*aq T (fP p q).2):LinG ts T x p q c z:=by
 have g:=RV L.hm hd (t:=aa L.pos t) ht (x:=aa L.pos (dE T x.1)) (y:=aa L.pos (dE T x.2)) (by rw[hx];rfl) (by rw[hy];rfl);refine⟨L,?_,?_⟩
 ·refine(et L.pos).1 ?_;rw[bp,cC,ba,ba,bp,bp];have:=g.1;rw[this];grind
 ·refine(et L.pos).1 ?_;rw[bp,ba,ba,bp,bp,bp,bp];exact g.2
theorem Nk{r:Nat}(tw:Tw ts r)(hx4:∀X:Et ts,0<ak X->cP (aQ ts (sX X))){p q c:P2 ts}{z:Et ts}(h0:eP p q=0) :
  ∀x∈(dq p q c z).ps,LinG ts (dq p q c z).ts x p q c z:=by
 intro x;unfold eP at h0;unfold dq;split
 ·intro hx;cases hx
 ·rename_i hd;split
  ·intro hx;cases hx
  ·rename_i hn;split
   ·rename_i hX;intro hx;rw[List.mem_singleton.1 hx];have hp:cP ts:=tw.pos;refine yo (kG hp) hd (t:=0) ?_ ?_ ?_
    ·refine((et hp).2 ?_).trans ((et hp).2 ?_).symm
     ·rw[show(0:Et ts)*0=0 by grind];exact(du _ _ hp).zero
     ·rw[cR];exact hX
    ·rw[cR,cR,ee];grind
    ·rw[cR,cR,ee];grind
   ·rename_i hX
    have hX1:0<ak (aP p q c z):=by
     rcases(du _ _ tw.pos).cs (aP p q c z)with g |g |g
     ·exact absurd g hn
     ·exact absurd g hX
     ·show 0<sg _ _ _;rw[g];decide
    have hp:=hx4 _ hX1;intro hx;have L:=qB (aP p q c z) hp;have e:=AN (aP p q c z);rcases List.mem_cons.1 hx with rfl |hx
    ·refine yo L hd (t := bA (aP p q c z)) (by rw [e]; rfl) ?_ ?_
     ·rw[ee];exact congrArg Prod.fst (uz (aP p q c z) p q c)
     ·rw[ee];exact congrArg Prod.snd (uz (aP p q c z) p q c)
    ·rw [List.mem_singleton.1 hx];refine yo L hd (t:=-bA (aP p q c z)) (by rw [show -bA (aP p q c z) * -bA (aP p q c z) = bA (aP p q c z) * bA (aP p q c z) by grind,e]; rfl) ?_ ?_
     ·rw[ee,congrArg Prod.fst (wS (aP p q c z) p q c)];show aI _ _-_*aI _ _=aI _ _+-_*aI _ _;grind
     ·rw[ee,congrArg Prod.snd (wS (aP p q c z) p q c)];show aI _ _-_*aI _ _=aI _ _+-_*aI _ _;grind
end
end Go.Lw
namespace Go.Lw
theorem zL(r:(k:Nat)->T k)(q:Rat):∀(k:Nat){a c:List Rat},(∀i,i<2^k->c.getD i 0=q*a.getD i 0)->ae k c=T.mul r k (T.ofQ k q) (ae k a)
 |0,a,c,h=>h 0 (by decide)
 |k+1,a,c,h=>by
  have h1:=zL r q k (a:=a.take (2^k)) (c:=c.take (2^k)) (fun i hi=>by rw[kL,kL,if_pos hi,if_pos hi];exact h i (by rw[Nat.pow_succ];omega));have h2:=zL r q k (a:=a.drop (2^k)) (c:=c.drop (2^k)) (fun i hi=>by rw[kN,kN];exact h _ (by rw[Nat.pow_succ];omega));show(ae k (c.take (2^k)),ae k (c.drop (2^k)))=T.mul r (k+1) (T.ofQ k q,T.zero k) (ae k (a.take (2^k)),ae k (a.drop (2^k)));rw[T.mul_comm,T.mul_half,h1,h2,T.mul_comm r k (ae k (a.take _)),T.mul_comm r k (ae k (a.drop _))]
section
variable{ts:LL}
def Bz(e:Nat)(x:Et ts):Prop:=Nm ts.length e (sX x)
theorem Bz.mono{e f:Nat}{x:Et ts}(h:Bz e x)(hf:e<=f):Bz f x:=Nm.mono h hf
theorem Bz.add{e f:Nat}{x y:Et ts}(hx:Bz e x)(hy:Bz f y):Bz (e+f+1) (x+y):=Nm.addT hx hy
theorem Bz.sub{e f:Nat}{x y:Et ts}(hx:Bz e x)(hy:Bz f y):Bz (e+f+1) (x-y):=Nm.subT hx hy
theorem Bz.neg{e:Nat}{x:Et ts}(hx:Bz e x):Bz e (-x):=Nm.negT hx
theorem Bz.mul{r K e f:Nat}(tw:Tw ts r)(hK:eB r ts.length<=K){x y:Et ts}(hx:Bz e x)(hy:Bz f y):Bz (e+f+K) (x*y):=by
 have h:=Nm.mul tw rfl hx hy;have e1:∀z:Et ts,ae ts.length (sX z)=z:=fun z=>bc _ _
 rw[e1,e1]at h;exact Nm.mono h (Nat.add_le_add_left hK _)
theorem Bz.q{e:Nat}{q:Rat}(h5:ts.length<=5)(hq:Cb e [q]):Bz e (qE q:Et ts):=by
 unfold Bz;rw[tx];exact Nm.ofQ h5 hq
theorem Bz.qm{e f:Nat}{q:Rat}{x:Et ts}(hq:Cb e [q])(hx:Bz f x):Bz (e+f) (qE q*x):=by
 obtain⟨D,N,h1,h2,h3⟩:=hq;obtain⟨D',N',k1,k2,k3⟩:=hx.cb;obtain⟨n,hn,hN⟩:=h1.2 q (List.mem_singleton.2 rfl);have hx2:ae ts.length (sX x)=x:=bc _ _
 have hd:ae ts.length ((sX x).map (q*·))=T.mul (aw ts) ts.length (T.ofQ ts.length q) (ae ts.length (sX x)):=zL _ q _ (fun i _=>by
  rw[getD_eq_getElem?_getD,getElem?_map,getD_eq_getElem?_getD];cases(sX x)[i]? with
  |none=>exact(Rat.mul_zero q).symm
  |some v=>rfl)
 rw[hx2]at hd
 have hc:Cb (e+f) ((sX x).map (q*·)):=by
  refine⟨D*D',N*N',⟨Nat.mul_pos h1.1 k1.1,?_⟩,?_,?_⟩
  ·intro z hz;obtain⟨y,hy,rfl⟩:=List.mem_map.1 hz;obtain⟨m,hm,hM⟩:=k1.2 y hy;refine⟨n*m,?_,?_⟩
   ·rw[Int.natCast_mul,Rat.intCast_mul,Rat.intCast_mul,<- hn,<- hm];grind
   ·rw[Int.natAbs_mul];exact Nat.mul_le_mul hN hM
  ·rw[pow_add];exact Nat.mul_le_mul h2 k2
  ·rw[pow_add];exact Nat.mul_le_mul h3 k3
 have hnl:Nl ts.length ((sX x).map (q*·)):=by
  rcases hx.nl with h |⟨j,hj,h⟩
  ·exact .inl (by rw[h];rfl)
  ·exact .inr ⟨j,hj,by rw[length_map];exact h⟩
 refine⟨hx.five,di _ _,?_⟩;have:=hc.sh hnl;rw[hd]at this;exact this
theorem Bz.mq{e f:Nat}{q:Rat}{x:Et ts}(hx:Bz f x)(hq:Cb e [q]):Bz (e+f) (x*qE q):=by
 rw[show x*qE q=qE q*x by grind];exact hx.qm hq
theorem Bz.iq{e f:Nat}{q:Rat}{x:Et ts}(hx:Bz f x)(hq:Cb e [q])(h0:q≠0):Bz (e+f) (x*iE (qE q)):=by
 have h:(iE (qE q):Et ts)=qE (1/q):=wM _ _ q;rw[h];exact hx.mq (hq.inv1 h0)
theorem Bz.iv{r f j I:Nat}{y:Et ts}(tw:Tw ts r)(hy:Bz f y)(nb:Nl j (sX y))(hj:j<=ts.length)(h0:ak y≠0)(hI:iB r j f<=I)(hs:I<=50000000000):Bz I (iE y):=by
 have hf:=ya r j f;have hl:=kZ ts.length;have e1:ae ts.length (sX y)=y:=bc _ _;obtain⟨L,_,k2,k3,k4⟩:=AF (b:=sX y) tw hy hj nb (by rw[e1];exact h0) oz oz;rw[e1]at k4;have:=k3.sh k2;rw[k4]at this;exact⟨tw.five,di _ _,this.mono hI⟩
structure Pz(n ec ex:Nat)(p:Pq):Prop where
  c:Nm n ec p.c
  s:Nm n ec p.s
  x:Nm n ex p.x
  y:Nm n ex p.y
theorem Pz.mono{n n' a b a' b':Nat}{p:Pq}(h:Pz n a b p)(hn:n<=n')(h5:n'<=5)(ha:a<=a')(hb:b<=b'):Pz n' a' b' p :=
 ⟨⟨h5,h.c.nl.mono hn,h.c.cb.mono ha⟩,⟨h5,h.s.nl.mono hn,h.s.cb.mono ha⟩,⟨h5,h.x.nl.mono hn,h.x.cb.mono hb⟩,⟨h5,h.y.nl.mono hn,h.y.cb.mono hb⟩⟩
theorem Ea{s t e f:Nat}{u p:Rat×Rat}{w o:P2 ts}(hu:Sm t u)(hp:Sm s p)(h0:bJ u u≠0)(w1:Bz e w.1)(w2:Bz e w.2)(o1:Bz f o.1)(o2:Bz f o.2) :
  Pz ts.length (2*e+6*t+2) (f+4*e+12*t+2*s+6) (gp u w p o):=by
 have u1:=Cb.one hu.x;have u2:=Cb.one hu.y;have p1:=Cb.one hp.x;have p2:=Cb.one hp.y;have n:=Cb.one (hu.dot hu);have c:=(((w1.qm u1).add (w2.qm u2)).iq n h0).mono (f:=2*e+6*t+2) oz;have d:=(((w2.qm u1).sub (w1.qm u2)).iq n h0).mono (f:=2*e+6*t+2) oz;exact⟨c,d,(o1.sub ((c.mq p1).sub (d.mq p2))).mono oz,(o2.sub ((d.mq p1).add (c.mq p2))).mono oz⟩
theorem qd{a:List Rat}{e:Nat}(h:Nm ts.length e a):Bz e (dE ts a):=by
 have:=h.cb.sh h.nl;exact⟨h.five,di _ _,this⟩
theorem Ti{s f:Nat}{p:Rat×Rat}{c d:Rat}{o:P2 ts}{g:Nat}(hc:Cb g [c])(hd:Cb g [d])(hp:Sm s p)(h5:ts.length<=5)(o1:Bz f o.1)(o2:Bz f o.2) :
  Pz ts.length (g+1) (f+2*g+2*s+4) (gp (((1:Int):Rat),0) ((qE c,qE d):P2 ts) p o):=by
 have e0:∀x:Et ts,(qE ((1:Int):Rat):Et ts)*x=x:=fun x=>by
  have:(qE ((1:Int):Rat):Et ts)=1:=rfl;rw[this];grind
 have e1:∀x:Et ts,(qE (0:Rat):Et ts)*x=0:=fun x=>by
  have:(qE (0:Rat):Et ts)=0:=rfl;rw[this];grind
 have e2:(iE (j7 (((1:Int):Rat),0)):Et ts)=1:=by
  show iE (qE (bJ (((1:Int):Rat),0) (((1:Int):Rat),0)))=_;rw[show bJ (((1:Int):Rat),(0:Rat)) (((1:Int):Rat),(0:Rat))=1 by decide +kernel];exact AD
 have ec:de (((1:Int):Rat),0) ((qE c,qE d):P2 ts)=qE c:=by
  unfold de;rw[e0,e1,e2];grind
 have ed:db (((1:Int):Rat),0) ((qE c,qE d):P2 ts)=qE d:=by
  unfold db;rw[e0,e1,e2];grind
 have p1:=Cb.one hp.x;have p2:=Cb.one hp.y;have c1:Bz g (qE c:Et ts):=Bz.q h5 hc;have d1:Bz g (qE d:Et ts):=Bz.q h5 hd;refine⟨?_,?_,?_,?_⟩
 ·show Bz _ (de _ _);rw[ec];exact c1.mono oz
 ·show Bz _ (db _ _);rw[ed];exact d1.mono oz
 ·show Bz _ (rq _ _ p o);unfold rq;rw[ec,ed];exact(o1.sub ((c1.mq p1).sub (d1.mq p2))).mono oz
 ·show Bz _ (qR _ _ p o);unfold qR;rw[ec,ed];exact(o2.sub ((d1.mq p1).add (c1.mq p2))).mono oz
structure Xz(ts:LL)(r X:Nat)(us:LL):Prop where
  tw:Tw us (r+X)
  up:ts.length<=us.length
  ln:us.length<=ts.length+1
theorem AO{r X:Nat}(tw:Tw ts r)(hx:r+X<=5000000000):Xz ts r X ts:=⟨⟨tw.three,tw.len,tw.pos,tw.rb.mono oz,hx⟩,le_refl _,by omega⟩
theorem wN{r X:Nat}(tw:Tw ts r)(hn:ts.length<=1)(hx:r+X<=5000000000){x:Et ts}(h:Bz X x)(hs:0<=ak x):Xz ts r X (aQ ts (sX x)) :=
 ⟨zB tw oz h hx (by rw[show ae ts.length (sX x)=x from bc _ _];exact hs),by rw[dD];omega,by rw[dD];omega⟩
theorem Bz.up{e:Nat}{X x:Et ts}(h:Bz e x)(hn:ts.length<=1):Bz e (aI X x):=by
 have h1:Nm (aQ ts (sX X)).length e (sX x):=lX h oz;exact qd h1
structure Szs(n r a b X K K' I J:Nat):Prop where
  n1:n<=1
  hK:eB r n<=K
  hX:24*a+8*K+5*b+23<=X
  hL:r+X<=5000000000
  hK':eB (r+X) (n+1)<=K'
  hI:iB r n (8*a+2*K+8)<=I
  hJ:iB (r+X) n (8*a+2*K+8)<=J
  hJ':J<=50000000000
  kk:K<=K'
  ij:I<=J
theorem Szs.kx{n r a b X K K' I J:Nat}(h:Szs n r a b X K K' I J){us:LL}(hu:us.length<=n+1):eB (r+X) us.length<=K':=le_trans (g9 _ hu) h.hK'
section
variable{r a b X K K' I J:Nat}(Z:Szs ts.length r a b X K K' I J)(tw:Tw ts r)
include Z tw
theorem yX{p q:P2 ts}(p1:Bz a p.1)(p2:Bz a p.2)(q1:Bz a q.1)(q2:Bz a q.2):Bz (8*a+2*K+5) (co (aE q p) (aE q p)):=by
 have v1:=q1.sub p1;have v2:=q2.sub p2;exact((v1.mul tw Z.hK v1).add (v2.mul tw Z.hK v2)).mono oz
theorem Az{y:Et ts}(hy:Bz (8*a+2*K+8) y)(h0:ak y≠0):Bz I (iE y) :=
 hy.iv tw (di _ _) (le_refl _) h0 Z.hI (by have:=Z.ij;have:=Z.hJ';omega)
theorem yn{x y:Et ts}(hx:Bz X x)(hs:0<=ak x)(hy:Bz (8*a+2*K+8) y)(h0:ak y≠0):Bz J (iE (aI x y)):=by
 have E:=wN tw Z.n1 Z.hL hx hs
 have e1:sX (aI x y)=sX y:=by
  have:=(uN (X:=x) Z.n1 _ y hy).2;exact this
 refine(hy.up Z.n1).iv E.tw (j:=ts.length) (by rw[e1];exact di _ _) E.up (by rw[od];exact h0) Z.hJ Z.hJ'
theorem yL{x:Et ts}:Bz 1 (dE (aQ ts (sX x)) (cr ts.length)):=by have _:=tw;exact qd (sY (by have:=Z.n1;omega))
theorem Te{p q:P2 ts}{z z2:Et ts}(p1:Bz a p.1)(p2:Bz a p.2)(q1:Bz a q.1)(q2:Bz a q.2)(hz:Bz b z)(hz2:Bz b z2)(h0:eL p q z z2=0) :
  Xz ts r X (dc p q z z2).ts/\∀m∈(dc p q z z2).ps,Nm (dc p q z z2).ts.length (13*a+2*b+5*K+2*K'+I+J+20) m.1/\Nm (dc p q z z2).ts.length (13*a+2*b+5*K+2*K'+I+J+20) m.2:=by
 have hn:=Z.n1;have hkk:=Z.kk;have hd:Bz (8*a+2*K+5) (az p q):=yX Z tw (p:=q) (q:=p) q1 q2 p1 p2;have hm:=(hz.add hd).sub hz2;have q4:Cb 3 [((4:Int):Rat)]:=Cb.int (z:=4) (by decide);have q2':Cb 2 [((2:Int):Rat)]:=Cb.int (z:=2) (by decide);have qm1:Cb 1 [((-1:Int):Rat)]:=Cb.int (z:=-1) (by decide)
 have hX:Bz X (bg p z q z2):=by
  have h:=((hz.mul tw Z.hK hd).qm q4).sub (hm.mul tw Z.hK hm);have h2:=h.mono (f:=X) (by have:=Z.hX;omega);exact h2
 have same:=AO (X:=X) tw Z.hL;have v1:=q1.sub p1;have v2:=q2.sub p2;unfold eL kc at h0;unfold dc lh
 by_cases hs:ak (az p q)=0
 ·rw[if_pos hs]at h0 ⊢
  by_cases hz0:ak (z-z2)≠0
  ·rw[if_pos hz0];exact⟨same,fun m hm=>by cases hm⟩
  ·rw[if_neg hz0]
   by_cases hp:0<ak z
   ·rw[if_pos ⟨Decidable.not_not.1 hz0,hp⟩]at h0;cases h0
   ·rw[if_neg hp]
    have n0:Bz 0 (0:Et ts):=by
     have:=Bz.q (ts:=ts) (e:=0) (q:=0) oz (Cb.int (z:=0) (by decide));exact this
    refine⟨same,iL ⟨?_,?_⟩⟩
    ·exact(p1.add (n0.mul tw Z.hK p1)).mono (f:=13*a+2*b+5*K+2*K'+I+J+20) oz
    ·exact(p2.add (n0.mul tw Z.hK p2)).mono (f:=13*a+2*b+5*K+2*K'+I+J+20) oz
 ·rw [if_neg hs];have ht0:ak (eG (az p q)) ≠ 0:=by rw [uZ tw]; exact hs
  have ht:Bz (8*a+2*K+8) (eG (az p q)):=Bz.mono (e:=2+(8*a+2*K+5)) (hd.qm q2') oz
  by_cases hx0:ak (bg p z q z2)<0
  ·rw[if_pos hx0];exact⟨same,fun m hm=>by cases hm⟩
  ·rw[if_neg hx0];have hk:=hm.mul tw Z.hK (Az Z tw ht ht0);have f1:Bz (11*a+2*b+4*K+I+10) (cS p q z z2).1:=(p1.add (hk.mul tw Z.hK v1)).mono oz;have f2:Bz (11*a+2*b+4*K+I+10) (cS p q z z2).2:=(p2.add (hk.mul tw Z.hK v2)).mono oz
   by_cases hx1:ak (bg p z q z2)=0
   ·rw[if_pos hx1];exact⟨same,iL ⟨f1.mono oz,f2.mono oz⟩⟩
   ·rw [if_neg hx1];have hpos:0 <= ak (bg p z q z2):=by omega
    have E:=wN tw hn Z.hL hX hpos;have hkx:=Z.kx E.ln;have s1:=(yL Z tw (x:=bg p z q z2)).mul E.tw hkx (yn Z tw hX hpos ht ht0);have s2:=s1.qm qm1;have w1:=(v2.up (X:=bg p z q z2) hn).qm qm1;have w2:=v1.up (X:=bg p z q z2) hn;have g1:=f1.up (X:=bg p z q z2) hn;have g2:=f2.up (X:=bg p z q z2) hn;exact⟨E,lK ⟨(g1.add (s1.mul E.tw hkx w1)).mono oz,(g2.add (s1.mul E.tw hkx w2)).mono oz⟩ ⟨(g1.add (s2.mul E.tw hkx w1)).mono oz,(g2.add (s2.mul E.tw hkx w2)).mono oz⟩⟩
theorem P3{p q o:P2 ts}{z:Et ts}(p1:Bz a p.1)(p2:Bz a p.2)(q1:Bz a q.1)(q2:Bz a q.2)(o1:Bz a o.1)(o2:Bz a o.2)(hz:Bz b z)(h0:eP p q=0) :
  Xz ts r X (dq p q o z).ts/\∀m∈(dq p q o z).ps,Nm (dq p q o z).ts.length (13*a+2*b+5*K+2*K'+I+J+20) m.1/\Nm (dq p q o z).ts.length (13*a+2*b+5*K+2*K'+I+J+20) m.2:=by
 have hn:=Z.n1;have hkk:=Z.kk;have hS:=(yX Z tw p1 p2 q1 q2)
 have v1:=q1.sub p1;have v2:=q2.sub p2;have w1:=o1.sub p1;have w2:=o2.sub p2;have hE:Bz (8*a+2*K+5) (bH p q o):=((v1.mul tw Z.hK w1).add (v2.mul tw Z.hK w2)).mono oz;have hC:Bz (8*a+2*K+5) (gU p q o):=((v1.mul tw Z.hK w2).sub (v2.mul tw Z.hK w1)).mono oz;have hX:Bz X (aP p q o z):=((hS.mul tw Z.hK hz).sub (hC.mul tw Z.hK hC)).mono (by have:=Z.hX;omega);have same:=AO (X:=X) tw Z.hL;unfold eP at h0;unfold dq
 by_cases hs:ak (a7 p q)=0
 ·rw[if_pos hs]at h0;cases h0
 ·rw[if_neg hs]
  by_cases h1:ak (aP p q o z)=-1
  ·rw[if_pos h1];exact⟨same,fun m hm=>by cases hm⟩
  ·rw[if_neg h1]
   by_cases h2:ak (aP p q o z)=0
   ·rw[if_pos h2];have hk:=hE.mul tw Z.hK (Az Z tw (hS.mono oz) hs);exact⟨same,iL ⟨(p1.add (hk.mul tw Z.hK v1)).mono (f:=13*a+2*b+5*K+2*K'+I+J+20) oz,(p2.add (hk.mul tw Z.hK v2)).mono (f:=13*a+2*b+5*K+2*K'+I+J+20) oz⟩⟩
   ·rw[if_neg h2]
    have hpos:0<=ak (aP p q o z):=by
     have:=T.sgn_cases (aw ts) ts.length (aP p q o z);have e:ak (aP p q o z)=T.sgn (aw ts) ts.length (aP p q o z):=rfl;omega
    have E:=wN tw hn Z.hL hX hpos;have hkx:=Z.kx E.ln;have hi:=yn Z tw hX hpos (hS.mono oz) hs;have rt:=yL Z tw (x:=aP p q o z);have k1:=((hE.up (X:=aP p q o z) hn).add rt).mul E.tw hkx hi;have k2:=((hE.up (X:=aP p q o z) hn).sub rt).mul E.tw hkx hi;have g1:=p1.up (X:=aP p q o z) hn;have g2:=p2.up (X:=aP p q o z) hn;have u1:=v1.up (X:=aP p q o z) hn;have u2:=v2.up (X:=aP p q o z) hn;exact⟨E,lK ⟨(g1.add (k1.mul E.tw hkx u1)).mono oz,(g2.add (k1.mul E.tw hkx u2)).mono oz⟩ ⟨(g1.add (k2.mul E.tw hkx u1)).mono oz,(g2.add (k2.mul E.tw hkx u2)).mono oz⟩⟩
end
end
def Cs(s:Nat)(l:Li):Prop:=∀b∈l.bo,∀m∈b.pts,Qb s m.x.q/\Qb s m.y.q
section
variable{s:Nat}{l:Li}(hl:l.ok)(hli:aO l=0)(hcs:Cs s l)
include hl hli hcs
theorem tm{body pt:Int}(h1:bD body l.bo.length=true)(h2:bD pt (cE l body).length=true):Sm s (aB l body pt):=by
 obtain⟨n,k,bd,m,h⟩:=qD hl hli h1 h2;obtain⟨c1,c2⟩:=hcs bd (mem_of_getElem? h.gbd) m (mem_of_getElem? h.gm);rw[h.ex,bP]at c1;rw[h.ey,bP]at c2;exact⟨c1,c2⟩
theorem oh{i:Nat}{j:Jt}(hj:l.jo[i]?=some j){b:Int}(h:j.a=b\/j.b=b):Sm s (ai l j b):=by
 obtain⟨i1,i2,i3,i4,_⟩:=dw hli hj;unfold ai
 by_cases e:j.a=b
 ·rw[if_pos e];subst e;exact tm hl hli hcs i1 i3
 ·rw[if_neg e];rcases h with h |h
  ·exact absurd h e
  ·subst h;exact tm hl hli hcs i2 i4
theorem rK{E r K:Nat}{a:As}(al:AB a)(hc:bt a.rs=0)(tw:Tw (llq a.rs) r)(hK:eB r (llq a.rs).length<=K){body pt:Int}(h1:bD body l.bo.length=true)(h2:bD pt (cE l body).length=true)(hb:Pd E a body) :
  Bz (3*E+2*s+2*K+10) (aA l a body pt).1/\Bz (3*E+2*s+2*K+10) (aA l a body pt).2:=by
 obtain⟨n,k,bd,m,b,hp⟩:=wl hl hli al hc h1 h2 hb;obtain⟨c1,c2⟩:=hcs bd (mem_of_getElem? hp.mp.gbd) m (mem_of_getElem? hp.mp.gm);have h:=z6 tw hp.ok c1 c2;have hk:kB r (llq a.rs).length<=K:=hK;unfold aA Bz;rw[hp.eq];exact⟨h.1.mono oz,h.2.mono oz⟩
theorem tV{E r K:Nat}{a:As}(al:AB a)(hc:bt a.rs=0)(tw:Tw (llq a.rs) r)(hK:eB r (llq a.rs).length<=K){i:Nat}{j:Jt}(hj:l.jo[i]?=some j){b:Int}(h:PinP E l a j b) :
  Bz (3*E+2*s+2*K+10) (ax l a j b).1/\Bz (3*E+2*s+2*K+10) (ax l a j b).2:=by
 obtain⟨i1,i2,i3,i4,_⟩:=dw hli hj;unfold ax;rcases h.tie with⟨e,hb⟩ |⟨e,e2,hb⟩
 ·rw[if_pos e];exact rK hl hli hcs al hc tw hK i2 i4 hb
 ·rw[if_neg e];exact rK hl hli hcs al hc tw hK i1 i3 hb
end
theorem Bz.upX{ts us:LL}{e:Nat}{x:Et ts}(h:Bz e x)(h1:ts.length<=us.length)(h5:us.length<=5):Bz e (dE us (sX x)):=qd ⟨h5,Nl.mono h.nl h1,h.cb⟩
theorem yG{s:Nat}{p q:Rat×Rat}(hp:Sm s p)(hq:Sm s q):Cb (8*s+5) [aZ p q]:=by
 have h:=(hp.sub hq).dot (hp.sub hq);exact Cb.one (h.mono oz)
abbrev wZ(a b K K' I J:Nat):Nat:=14*a+3*b+5*K+3*K'+I+J+25
abbrev oZ(s a b K K' I J:Nat):Nat:=a+4*wZ a b K K' I J+26*s+18
theorem yK{n a b ec ex e:Nat}{p:Pq}(h:Pz n ec ex p)(h1:ec<=e)(h2:ex<=e):Pq.ok n e p:=⟨h.c.mono h1,h.s.mono h1,h.x.mono h2,h.y.mono h2⟩
section
variable{ts:LL}{r a b X K K' I J:Nat}(Z:Szs ts.length r a b X K K' I J)(tw:Tw ts r)
include Z tw
theorem D4{s:Nat}{m:Mt}(hx:Xz ts r X m.ts)(hm:∀x∈m.ps,Nm m.ts.length (13*a+2*b+5*K+2*K'+I+J+20) x.1/\Nm m.ts.length (13*a+2*b+5*K+2*K'+I+J+20) x.2){hs:List Hd}
  (hh:∀h∈hs,Sm s h.p/\Sm s h.c/\bJ (bw h.c h.p) (bw h.c h.p)≠0/\∃o:P2 ts,h.a=P2.l o/\Bz a o.1/\Bz a o.2) :
  ∀sv∈jA m hs,Xz ts r X sv.ts/\∀p∈sv.ps,Pq.ok sv.ts.length (oZ s a b K K' I J) p:=by
 have _:=Z;have _:=tw;intro sv h1;unfold jA at h1;obtain⟨i,hi,rfl⟩:=List.mem_map.1 h1;obtain⟨x,hxx⟩:=aG (List.mem_range.1 hi);obtain⟨n1,n2⟩:=hm x (mem_of_getElem? hxx);refine⟨hx,fun p hp=>?_⟩;unfold iy at hp;rw[ao hxx]at hp;obtain⟨h,h2,rfl⟩:=List.mem_map.1 hp;obtain⟨hp1,hc1,h0,o,ea,o1,o2⟩:=hh h h2;have h5:=hx.tw.five;have u1:=o1.upX hx.up h5;have u2:=o2.upX hx.up h5;have w1:=qd n1;have w2:=qd n2;have e1:h.a.1=sX o.1:=by rw[ea]
 have e2:h.a.2=sX o.2:=by rw[ea]
 have z:=Ea (ts:=m.ts) (u:=bw h.c h.p) (p:=h.p) (w:=je m.ts h x) (o:=kq m.ts h) (e:=13*a+2*b+5*K+2*K'+I+J+20+a+1) (f:=a) (hc1.sub hp1) hp1 h0
  (by unfold je;rw[e1];exact w1.sub u1) (by unfold je;rw[e2];exact w2.sub u2) (by unfold kq;rw[e1];exact u1) (by unfold kq;rw[e2];exact u2)
 exact yK (a:=a) (b:=b) z (by show _<=a+4*(14*a+3*b+5*K+3*K'+I+J+25)+26*s+18;omega) (by show _<=a+4*(14*a+3*b+5*K+3*K'+I+J+25)+26*s+18;omega)
theorem PZ{s:Nat}{us:LL}(hx:Xz ts r X us){R:Rp}{q:List Rat}(hv:Sm (2*s+1) R.v)(hp:Sm s R.p)(h0:bJ R.v R.v≠0)(hq:Bz 1 (dE us q))(w1:Bz (2*a+1) (dE us R.w.1))(w2:Bz (2*a+1) (dE us R.w.2))(hh:Bz b (dE us R.h))
  (hd:Bz J (iE (dE us R.d))) (a1:Bz a (dE us R.a.1)) (a2:Bz a (dE us R.a.2)):Pq.ok us.length (oZ s a b K K' I J) (mF us R q):=by
 have _:=tw;have hkx:=Z.kx hx.ln;have x1:=(((hq.mul hx.tw hkx w1).sub (hh.mul hx.tw hkx w2.neg)).mul hx.tw hkx hd)
 have x2:=(((hq.mul hx.tw hkx w2).sub (hh.mul hx.tw hkx w1)).mul hx.tw hkx hd)
 have z:=Ea (ts:=us) (u:=R.v) (p:=R.p) (w:=ns us q R.h R.d R.w) (o:=(dE us R.a.1,dE us R.a.2)) (e:=wZ a b K K' I J) (f:=a) hv hp h0
  (x1.mono (by show _<=14*a+3*b+5*K+3*K'+I+J+25;omega)) (x2.mono (by show _<=14*a+3*b+5*K+3*K'+I+J+25;omega)) a1 a2
 exact yK (a:=a) (b:=b) z (by show _<=a+4*(14*a+3*b+5*K+3*K'+I+J+25)+26*s+18;simp only[wZ];omega) (by show _<=a+4*(14*a+3*b+5*K+3*K'+I+J+25)+26*s+18;simp only[wZ];omega)
end
section
variable{s r b X K K' I J E:Nat}{l:Li}{a:As}(D:DyR l a)(hn:(llq a.rs).length<=1)(hcs:Cs s l)(tw:Tw (llq a.rs) r)
  (Z:Szs (llq a.rs).length r (3*E+2*s+2*K+10) b X K K' I J) (hb:8*s+5<=b)
include D hn hcs tw Z hb
theorem JM{g:Gr}{i k z0 z1 z2:Int}{j0 j1 j2:Jt}(P:RrrP E l a g i k z0 z1 z2 j0 j1 j2) :
  ∀sv∈iD l a i k j0 j1 j2,Xz (llq a.rs) r X sv.ts/\∀p∈sv.ps,Pq.ok sv.ts.length (oZ s (3*E+2*s+2*K+10) b K K' I J) p:=by
 have _:=hn;have hq0:=oh D.hl D.li hcs P.h0 P.p0.or;have hq1:=oh D.hl D.li hcs P.h1 P.p1.or;have hq2:=oh D.hl D.li hcs P.h2 P.t1;have hq3:=oh D.hl D.li hcs P.h2 P.t2;obtain⟨y1,y2⟩:=tV D.hl D.li hcs D.al D.hc tw Z.hK P.h0 P.p0;obtain⟨y3,y4⟩:=tV D.hl D.li hcs D.al D.hc tw Z.hK P.h1 P.p1;have z1:Bz b (qE (aZ (ai l j2 i) (ai l j0 i)):Et (llq a.rs)):=Bz.q tw.five ((yG hq2 hq0).mono hb);have z2:Bz b (qE (aZ (ai l j2 k) (ai l j1 k)):Et (llq a.rs)):=Bz.q tw.five ((yG hq3 hq1).mono hb);unfold iD
 by_cases h1:fX [bw (ai l j2 i) (ai l j0 i),bw (ai l j2 k) (ai l j1 k)]=true
 ·rw[if_pos h1];intro sv h;cases h
 ·rw[if_neg h1];obtain⟨w1,w2⟩:=rj (Bool.eq_false_iff.2 h1)
  by_cases h2:eL (ax l a j0 i) (ax l a j1 k) (qE (aZ (ai l j2 i) (ai l j0 i))) (qE (aZ (ai l j2 k) (ai l j1 k)))≠0
  ·rw[if_pos h2];intro sv h;cases h
  ·rw[if_neg h2];obtain⟨hx,hm⟩:=Te Z tw y1 y2 y3 y4 z1 z2 (Decidable.not_not.1 h2);exact D4 Z tw hx hm (lK ⟨hq0,hq2,w1,_,rfl,y1,y2⟩ ⟨hq1,hq3,w2,_,rfl,y3,y4⟩)
theorem Lb{g:Gr}{i z0 z1:Int}{j0 j:Jt}(P:SlP E l a g 2 i z0 z1 j0 j)(ha:j.a=i)(hbd:Pd E a j.b) :
  ∀sv∈iC l a i j0 j,Xz (llq a.rs) r X sv.ts/\∀p∈sv.ps,Pq.ok sv.ts.length (oZ s (3*E+2*s+2*K+10) b K K' I J) p:=by
 have _:=hn;obtain⟨i1,i2,i3,i4,i5⟩:=dw D.li P.h1;have hq2:Sm s (aB l i j.point):=by rw[<- ha];exact tm D.hl D.li hcs i1 i3
 have hq0:=oh D.hl D.li hcs P.h0 P.p0.or;obtain⟨y1,y2⟩:=tV D.hl D.li hcs D.al D.hc tw Z.hK P.h0 P.p0;obtain⟨y3,y4⟩:=rK D.hl D.li hcs D.al D.hc tw Z.hK i2 i4 hbd;obtain⟨y5,y6⟩:=rK D.hl D.li hcs D.al D.hc tw Z.hK i2 (i5 P.hk) hbd;have z1:Bz b (qE (aZ (aB l i j.point) (ai l j0 i)):Et (llq a.rs)):=Bz.q tw.five ((yG hq2 hq0).mono hb);unfold iC
 by_cases h1:fX [bw (aB l i j.point) (ai l j0 i)]=true
 ·rw[if_pos h1];intro sv h;cases h
 ·rw[if_neg h1];have w1:=ru (Bool.eq_false_iff.2 h1)
  by_cases h2:eP (aA l a j.b j.on) (aA l a j.b j.to)≠0
  ·rw[if_pos h2];intro sv h;cases h
  ·rw[if_neg h2];obtain⟨hx,hm⟩:=P3 Z tw y3 y4 y5 y6 y1 y2 z1 (Decidable.not_not.1 h2);exact D4 Z tw hx hm (iL ⟨hq0,hq2,w1,_,rfl,y1,y2⟩)
theorem Ov{g:Gr}{i z0 z1:Int}{j0 j:Jt}(P:SlP E l a g 3 i z0 z1 j0 j)(hj:j.b=i)(hbd:Pd E a j.a) :
  ∀sv∈gK l a i j0 j,Xz (llq a.rs) r X sv.ts/\∀p∈sv.ps,Pq.ok sv.ts.length (oZ s (3*E+2*s+2*K+10) b K K' I J) p:=by
 obtain⟨i1,i2,i3,i4,i5⟩:=dw D.li P.h1;have hs0:=oh D.hl D.li hcs P.h0 P.p0.or;have hs1:Sm s (aB l i j.on):=by rw[<- hj];exact tm D.hl D.li hcs i2 i4
 have hs2:Sm s (aB l i j.to):=by rw[<- hj];exact tm D.hl D.li hcs i2 (i5 P.hk)
 have hv:Sm (2*s+1) (b9 l i j):=(hs2.sub hs1).mono oz;have qn:Cb b [fV l i j]:=(Cb.one (hv.dot hv)).mono oz;have qh:Cb b [bV l i j0 j]:=(Cb.one (hv.cross (hs1.sub hs0))).mono oz;obtain⟨o1,o2⟩:=tV D.hl D.li hcs D.al D.hc tw Z.hK P.h0 P.p0;obtain⟨p1,p2⟩:=rK D.hl D.li hcs D.al D.hc tw Z.hK i1 i3 hbd;have w1:Bz (2*(3*E+2*s+2*K+10)+1) (bS l a i j0 j).1:=Bz.mono (p1.sub o1) oz;have w2:Bz (2*(3*E+2*s+2*K+10)+1) (bS l a i j0 j).2:=Bz.mono (p2.sub o2) oz;have hd:Bz (8*(3*E+2*s+2*K+10)+2*K+8) (bX l a i j0 j):=Bz.mono (yX Z tw (p:=ax l a j0 i) (q:=aA l a j.a j.point) o1 o2 p1 p2) oz;have hX:Bz X (bm l a i j0 j):=Bz.mono ((hd.qm qn).sub ((Bz.q tw.five qh).qm qh)) (by have:=Z.hX;omega);have h0:=rm D.li P.h1 P.hk hj;unfold gK
 by_cases h1:ak (bX l a i j0 j)=0/\ak (qE (bV l i j0 j):Et (llq a.rs))=0
 ·rw[if_pos h1];intro sv h;cases h
 ·rw[if_neg h1]
  by_cases h2:ak (bm l a i j0 j)<0
  ·rw[if_pos h2];intro sv h;cases h
  ·rw[if_neg h2];have hd0:ak (bX l a i j0 j)≠0:=pa tw h2 h1
   have key:∀us,Xz (llq a.rs) r X us->Bz J (iE (dE us (sX (bX l a i j0 j))))->∀q,Bz 1 (dE us q)->Pq.ok us.length (oZ s (3*E+2*s+2*K+10) b K K' I J) (mF us (dl l a i j0 j) q):=by
    intro us hx hi q hq;have h5:=hx.tw.five
    have hh:Bz b (dE us (sh 0 (bV l i j0 j:Rat))):=by
     have e:dE us (sh 0 (bV l i j0 j:Rat))=qE (bV l i j0 j):=ik _ _;rw[e];exact Bz.q h5 qh
    exact PZ Z tw hx (R:=dl l a i j0 j) hv hs0 h0 hq (w1.upX hx.up h5) (w2.upX hx.up h5) hh hi (o1.upX hx.up h5) (o2.upX hx.up h5)
   by_cases h3:0<ak (bm l a i j0 j)
   ·rw [if_pos h3];have hx:=wN tw hn Z.hL hX oz;have hi:=yn Z tw hX (by omega:0 <= ak (bm l a i j0 j)) hd hd0;have rt:=yL Z tw (x:=bm l a i j0 j);have k:=key _ hx hi;intro sv h;unfold ju at h;obtain ⟨n,hn2,rfl⟩:=List.mem_map.1 h;refine ⟨hx,fun p hp=>?_⟩;unfold iR at hp;rw [List.mem_singleton.1 hp]
    match n,List.mem_range.1 hn2 with
    |0,_=>exact k _ rt
    |1,_ =>
     refine k _ ?_;show Bz 1 (dE _ (sX (-bA (bm l a i j0 j))));have e:dE (aQ (llq a.rs) (sX (bm l a i j0 j))) (sX (-bA (bm l a i j0 j)))=-bA (bm l a i j0 j):=bc _ _;rw[e];exact rt.neg
   ·rw[if_neg h3];have hx:=AO (X:=X) tw Z.hL;have e:dE (llq a.rs) (sX (bX l a i j0 j))=bX l a i j0 j:=bc _ _
    have hi:Bz J (iE (dE (llq a.rs) (sX (bX l a i j0 j)))):=by
     rw[e];exact(Az Z tw hd hd0).mono Z.ij
    have k:=key _ hx hi;intro sv h;unfold ju at h;obtain⟨n,hn2,rfl⟩:=List.mem_map.1 h;refine⟨hx,fun p hp=>?_⟩;unfold iR at hp;rw[List.mem_singleton.1 hp]
    match n,List.mem_range.1 hn2 with
    |0,_=>exact k _ (qd ⟨tw.five,.inl rfl,⟨1,0,⟨by decide,fun q h=>by cases h⟩,by decide,by decide⟩⟩)
end
structure Aq where
  ts:LL
  bs:List Pq
  ms:List Int
instance:Inhabited Pq:=⟨⟨[],[],[],[]⟩⟩
instance:Inhabited Aq:=⟨⟨[],[],[]⟩⟩
def Pq.pl(p:Pq):Pl:=⟨p.c.map rt,p.s.map rt,p.x.map rt,p.y.map rt⟩
def Aq.as(a:Aq):As:=⟨a.ts.map (List.map rt),a.bs.map Pq.pl,a.ms⟩
theorem Pq.pl_av(p:Pq):p.pl.av=p.av:=by unfold Pl.av Pq.av Pq.pl;rw[dA,dA,dA,dA]
abbrev Aq.cs(a:Aq):List AV:=[.lst 1 (a.ts.map nA),.lst 4 (a.bs.map Pq.av),.lst 1 (a.ms.map i64)]
abbrev Aq.av(a:Aq):AV:=.agg a.cs
theorem Aq.as_av(a:Aq):a.as.av=a.av:=by
 unfold As.av Aq.as Aq.av Aq.cs;rw[map_map,map_map];congr 3
 ·exact List.map_congr_left (fun x _=>dA x)
 ·congr 1;exact List.map_congr_left (fun x _=>Pq.pl_av x)
theorem Aq.llq(a:Aq):Lw.llq a.as.rs=a.ts:=nD _
def a8(bs:List Pq)(is:List Int)(ps:List Pq):List Pq:=(is.zip ps).foldl (fun k x=>k.set x.1.toNat x.2) bs
def Aq.nxt(a:Aq)(g:Gr)(s:Sv):Aq:=⟨s.ts,a8 a.bs g.bo s.ps,a.ms++[s.mode]⟩
def aS:Pq:=⟨[],[],[],[]⟩
def Vl:Pq:=⟨[1],[],[],[]⟩
def ko:Tn:=⟨⟨false,[],[]⟩,false⟩
def fE(g:Gr)(xs:List Tn):Tn:=if g.kind=0 then xs.getD g.driver.toNat ko else ko
theorem Fg:∀(zs:List (Int×Pq))(bs:List Pq),(zs.foldl (fun k x=>k.set x.1.toNat x.2) bs).length=bs.length
 |[],bs=>rfl
 |z::zs,bs=>by rw[List.foldl_cons,Fg zs,length_set]
theorem Dz:∀(zs:List (Int×Pq))(bs:List Pq)(p:Pq),p∈zs.foldl (fun k x=>k.set x.1.toNat x.2) bs->p∈bs\/∃z∈zs,z.2=p
 |[],bs,p,h=>.inl h
 |z::zs,bs,p,h=>by
  rw[List.foldl_cons]at h;rcases Dz zs _ p h with h |⟨z',hz,e⟩
  ·rcases List.mem_or_eq_of_mem_set h with h |h
   ·exact .inl h
   ·exact .inr ⟨z,mem_cons_self,h.symm⟩
  ·exact .inr ⟨z',mem_cons_of_mem _ hz,e⟩
theorem wt(bs:List Pq)(is:List Int)(ps:List Pq):(a8 bs is ps).length=bs.length:=Fg _ _
theorem IC{bs:List Pq}{is:List Int}{ps:List Pq}{p:Pq}(h:p∈a8 bs is ps):p∈bs\/p∈ps:=by
 rcases Dz _ _ _ h with h |⟨z,hz,e⟩
 ·exact .inl h
 ·exact .inr (e▸(List.of_mem_zip hz).2)
theorem Rf{bs:List Pq}{is:List Int}{ps:List Pq}{i:Nat}{b:Int}{p:Pq}(hb:is[i]?=some b)(hp:ps[i]?=some p) :
  a8 bs (is.take (i+1)) (ps.take (i+1))=(a8 bs (is.take i) (ps.take i)).set b.toNat p:=by
 have h1:is.take (i+1)=is.take i++[b]:=by rw[List.take_add_one,hb];rfl
 have h2:ps.take (i+1)=ps.take i++[p]:=by rw[List.take_add_one,hp];rfl
 have hl1:=(List.getElem?_eq_some_iff.1 hb).1;have hl2:=(List.getElem?_eq_some_iff.1 hp).1;unfold a8;rw[h1,h2,List.zip_append (by rw[length_take,length_take];omega),List.foldl_append];rfl
def lg(s j r E:Nat):Nat:=3*E+2*s+2*eB r j+10
def j4(s j r E:Nat):Nat:=24*lg s j r E+8*eB r j+5*(8*s+5)+23
def Cq(s j r E:Nat):Nat:=iB r j (8*lg s j r E+2*eB r j+8)
def uT(s j r E:Nat):Nat:=iB (r+j4 s j r E) j (8*lg s j r E+2*eB r j+8)
def pJ(s j r E:Nat):Nat:=oZ s (lg s j r E) (8*s+5) (eB r j) (eB (r+j4 s j r E) (j+1)) (Cq s j r E) (uT s j r E)
def lZ(s g j r E:Nat):Nat:=lg s j r E+2*g+2*s+4
def jN(s g:Nat):Nat->Nat->Nat->Nat->Nat->Bool
  |0,_,j,r,E=>decide (E<=3200000000/\r<=400000000/\j<=2)
  |n+1,y,j,r,E=>decide (E<=3200000000/\r<=400000000/\j<=2)&&(jN s g n y j r (lZ s g j r E) &&
      (decide (y=0)||(decide (j<=1/\E<=3900000/\r<=64990/\r+j4 s j r E<=5000000000/\uT s j r E<=50000000000)&&jN s g n (y-1) (j+1) (r+j4 s j r E) (pJ s j r E))))
theorem AG{s g n y j r E:Nat}(h:jN s g (n+1) y j r E=true):(E<=20000000000/\r<=400000000/\j<=2)/\jN s g n y j r (lZ s g j r E)=true:=by
 unfold jN at h;simp only[and_eq_true,decide_eq_true_eq]at h;exact⟨⟨by omega,h.1.2⟩,h.2.1⟩
theorem zi{s g n y j r E:Nat}(h:jN s g (n+1) (y+1) j r E=true):(j<=1/\E<=3900000/\r<=64990/\r+j4 s j r E<=5000000000/\uT s j r E<=50000000000)/\jN s g n y (j+1) (r+j4 s j r E) (pJ s j r E)=true:=by
 unfold jN at h;simp only[and_eq_true,or_eq_true,decide_eq_true_eq,Nat.add_sub_cancel]at h;rcases h.2.2 with h1 |h1
 ·omega
 ·exact h1
structure QInv(l:Li)(j r E:Nat)(a:Aq):Prop where
  tw:Tw a.ts r
  lv:a.ts.length<=j
  bs:∀p∈a.bs,Pq.ok a.ts.length E p
  ln:a.bs.length=l.bo.length
theorem Pq.ok.up{n n' e e':Nat}{p:Pq}(h:Pq.ok n e p)(hn:n<=n')(h5:n'<=5)(he:e<=e'):Pq.ok n' e' p :=
 ⟨⟨h5,h.c.nl.mono hn,h.c.cb.mono he⟩,⟨h5,h.s.nl.mono hn,h.s.cb.mono he⟩,⟨h5,h.x.nl.mono hn,h.x.cb.mono he⟩,⟨h5,h.y.nl.mono hn,h.y.cb.mono he⟩⟩
theorem Pq.ok.lv{n m e:Nat}{p:Pq}(h:Pq.ok n e p)(hn:n=m):Pq.ok m e p:=hn▸h
theorem uH{r r':Nat}(h:r<=r'):∀j,eB r j<=eB r' j
 |0=>le_refl _
 |j+1=>by have:=uH h j;simp only[eB];omega
theorem ET{r r':Nat}(h:r<=r'):∀j e,iB r j e<=iB r' j e
 |0,e=>le_refl _
 |j+1,e=>by
  have h1:=uH h j;have h2:=uH h (j+1);have h3:=ET h j (4*e+3*eB r j+r+1);have h4:=wW r' j (e:=4*e+3*eB r j+r+1) (f:=4*e+3*eB r' j+r'+1) oz;simp only[iB];omega
theorem vY:Tw [] 0:=⟨by decide,(fun j h=>by cases h),(fun j h=>by cases h),⟨1,1,by decide,(fun d h=>by cases h),by decide,by decide⟩,by omega⟩
theorem Pq.ok.nr{n e:Nat}{p:Pq}(h:Pq.ok n e p)(he:e<=lm n):∀x∈p.pl.l,NR x e:=by
 intro x hx;simp only[Pl.l,Pq.pl,mem_cons,not_mem_nil,or_false]at hx;rcases hx with rfl |rfl |rfl |rfl
 ·exact h.c.rt he
 ·exact h.s.rt he
 ·exact h.x.rt he
 ·exact h.y.rt he
theorem Pq.ok.num{n e:Nat}{p:Pq}(h:Pq.ok n e p):∀x∈p.pl.l,bZ n x=0:=by
 intro x hx;simp only[Pl.l,Pq.pl,mem_cons,not_mem_nil,or_false]at hx;rcases hx with rfl |rfl |rfl |rfl
 ·exact oP h.c.nl
 ·exact oP h.s.nl
 ·exact oP h.x.nl
 ·exact oP h.y.nl
section
variable{l:Li}{j r E:Nat}{a:Aq}(Q:QInv l j r E a)
include Q
theorem QInv.chk:bt a.as.rs=0:=Q.tw.chk
theorem QInv.mem{p:Pl}(h:p∈a.as.bs):∃q∈a.bs,q.pl=p:=by have _:=Q;exact List.mem_map.1 h
theorem QInv.nr(hE:E<=50000000000){p:Pl}(h:p∈a.as.bs):∀x∈p.l,NR x E:=by
 obtain⟨q,hq,rfl⟩:=Q.mem h;exact(Q.bs q hq).nr (le_trans hE (kZ _))
theorem QInv.ab(hl:aO l=0)(hE:E<=50000000000)(hr:r<=400000000):AB a.as:=by
 refine⟨Q.tw.tr.mono hr oz,fun p hp x hx=>(Q.nr hE hp x hx).mono hE,?_,?_⟩
 ·show(a.ts.map _).length<=8;rw[length_map];have:=Q.tw.three;omega
 ·show(a.bs.map _).length<=30;rw[length_map,Q.ln];have:=(dY hl).2.2.2.1;omega
theorem QInv.sma(hE:E<=50000000000){F:Nat}(hF:E<=F)(k:Int)(own:Bool):qQ F l k a.as own :=
 fun b _ _ p hp x hx=>(Q.nr hE (mem_of_getElem? hp) x hx).mono hF
theorem QInv.nd(hl:aO l=0){g:Gr}(hg:GrOk l g){own:Bool}:∀b∈cM l g own,fZ a.as b=0:=by
 intro b hb;unfold fZ;split
 ·rfl
 ·have h1:=yz hl hg b hb;obtain ⟨p,hp⟩:=aG (l:=a.bs) (i:=b.toNat) (by rw [Q.ln]; omega);have e:a.as.bs[b.toNat]? = some p.pl:=by show (a.bs.map Pq.pl)[b.toNat]? = _; rw [getElem?_map,hp]; rfl
  rw[ao e];unfold bi;rw[if_neg (by rw[Q.chk];simp)];have e2:a.as.rs.length=a.ts.length:=length_map _;rw[e2];exact qi (fun x hx=>(Q.bs p (mem_of_getElem? hp)).num x hx)
theorem QInv.dy0(hl:aO l=0)(hs:splitE l=0){k:Nat}{g:Gr}(hg:(splitG l)[k]?=some g)(own:Bool):eJ l k a.as own=0:=by
 have hk:=(List.getElem?_eq_some_iff.1 hg).1;obtain⟨_,ho⟩:=nV hl (mem_of_getElem? hg);have hgA:eH l (k:Nat)=g:=ao hg;rw[ra hl,FU hs oz (by show(a.bs.map _).length=_;rw[length_map,Q.ln]) Q.chk,hgA];exact qi (fun b hb=>Q.nd hl ho b (wG.1 hb))
end
structure WkC(l:Li)(xs:List Tn)(s g:Nat):Prop where
  hl:l.ok
  li:aO l=0
  sp:splitE l=0
  cs:Cs s l
  ln:xs.length=l.dv.length
  ok:∀x∈xs,x.t.ok/\x.err=0/\Qb 1000 x.t.q/\Cb g [dM x.half x.t.q]/\Cb g [dP x.half x.t.q]
theorem Ma{l:Li}{g:Gr}(h:DyK l g)(hk:g.kind=0):0<=g.driver/\g.driver<l.dv.length:=by
 cases h with
 | @drv b z d _ _ t d0 hd hb=>have:=(List.getElem?_eq_some_iff.1 hd).1;exact⟨d0,by show d<_;omega⟩
 |rrr=>exact absurd hk (by simp)
 |pr=>exact absurd hk (by simp)
 |rp=>exact absurd hk (by simp)
theorem PH:ko.t.ok:=⟨(fun x h=>by cases h),(fun x h=>by cases h),zero_le _,zero_le _⟩
theorem Je:Qb 1000 ko.t.q:=by
 have e:ko.t.q=0:=by decide +kernel
 rw[e];exact Qb.zero.mono oz
section
variable{l:Li}{xs:List Tn}{s g:Nat}(W:WkC l xs s g){k:Nat}{gr:Gr}(hg:(splitG l)[k]?=some gr)
include W hg
theorem WkC.grp:DyK l gr/\GrOk l gr:=nV W.li (mem_of_getElem? hg)
theorem WkC.tn:(fE gr xs).t.ok/\Qb 1000 (fE gr xs).t.q/\(gr.kind=0->∃x∈xs,fE gr xs=x):=by
 unfold fE
 by_cases hk:gr.kind=0
 ·rw[if_pos hk];have h:=Ma (W.grp hg).1 hk;obtain⟨x,hx⟩:=aG (l:=xs) (i:=gr.driver.toNat) (by rw[W.ln];omega);rw[ao hx];have hm:=mem_of_getElem? hx;exact⟨(W.ok x hm).1,(W.ok x hm).2.2.1,fun _=>⟨x,hm,rfl⟩⟩
 ·rw[if_neg hk];exact⟨PH,Je,fun h=>absurd h hk⟩
variable{j r E:Nat}{a:Aq}(Q:QInv l j r E a)
include Q
theorem QInv.dyOk{F:Nat}(hE:E<=50000000000)(hF:E<=F):DyOk F l k a.as false k gr:=by
 obtain⟨i,g',h⟩:=zJ (Q.sma hE hF k false) (Q.dy0 W.li W.sp hg false);have e:i=k:=by have:=h.hk;omega
 subst e;have:=h.hg;rw[hg]at this;cases this;exact h
theorem QInv.dyS(hr:r<=64990)(hj:j<=1):DyS a.as:=by have _:=W;have _:=hg;exact⟨Q.tw.tr.mono hr oz,fun _=>by rw[a.llq];exact le_trans Q.lv hj⟩
theorem QInv.dyW(hE:E<=50000000000)(hr:r<=400000000):DyW l a.as:=by have _:=hg;exact⟨W.hl,W.li,Q.ab W.li hE hr,Q.chk⟩
theorem QInv.twl:Tw (Lw.llq a.as.rs) r:=by have _:=W;have _:=hg;rw[a.llq];exact Q.tw
theorem QInv.drv{n y:Nat}(ok:jN s g (n+1) y j r E=true)(hk:gr.kind=0):∀sv∈fO l a.as gr (fE gr xs),QInv l j r (lZ s g j r E) (a.nxt gr sv):=by
 obtain⟨⟨hE,hr,hj⟩,_⟩:=AG ok;have D:=QInv.dyW W hg Q oz hr;have O:=QInv.dyOk W hg Q (F:=E) oz (le_refl _);obtain⟨i,z0,d,j0,e,hj0,p0⟩:=BA O hk;obtain⟨_,_,hx⟩:=W.tn hg;obtain⟨x,hx,ex⟩:=hx hk;obtain⟨_,he,_,hc,hs⟩:=W.ok x hx;have hlen:(Lw.llq a.as.rs).length=a.ts.length:=by rw[a.llq]
 have tw:=QInv.twl W hg Q;have hq0:=oh W.hl W.li W.cs hj0 p0.or;have hK:eB r (Lw.llq a.as.rs).length<=eB r j:=g9 r (by rw[hlen];exact Q.lv);obtain⟨o1,o2⟩:=tV W.hl W.li W.cs D.al D.hc tw hK hj0 p0;rw[ex];unfold fO;rw[if_pos hk,e];show ∀sv∈iY l a.as i (l.jo.getD z0.toNat default) x,_;rw[ao hj0];unfold iY;rw[if_neg oz];have hp:=Ti (ts:=Lw.llq a.as.rs) (p:=ai l j0 i) (o:=ax l a.as j0 i) hc hs hq0 tw.five o1 o2
 have hp2:Pq.ok a.ts.length (lZ s g j r E) (ku l a.as i j0 x):=by
  have:=yK (a:=0) (b:=0) hp (e:=lZ s g j r E) (by unfold lZ lg;omega) (by unfold lZ lg;omega);exact Pq.ok.lv this hlen
 refine iL ⟨?_,?_,?_,?_⟩
 ·exact tw
 ·show(Lw.llq a.as.rs).length<=j;rw[hlen];exact Q.lv
 ·intro p hp3;show Pq.ok (Lw.llq a.as.rs).length _ p;rw[hlen];rcases IC hp3 with h |h
  ·exact(Q.bs p h).up (le_refl _) Q.tw.five (by unfold lZ lg;omega)
  ·rw[List.mem_singleton.1 h];exact hp2
 ·exact(wt _ _ _).trans Q.ln
theorem QInv.dy{n y:Nat}(ok:jN s g (n+1) (y+1) j r E=true)(hk:gr.kind≠0):∀sv∈fO l a.as gr (fE gr xs),QInv l (j+1) (r+j4 s j r E) (pJ s j r E) (a.nxt gr sv):=by
 obtain⟨⟨hj,hE,hr,hX,hJ⟩,_⟩:=zi ok;have D:DyR l a.as:=⟨QInv.dyW W hg Q oz oz,QInv.dyS W hg Q hr hj⟩
 have O:=QInv.dyOk W hg Q (F:=E) oz (le_refl _);have hlen:(Lw.llq a.as.rs).length=a.ts.length:=by rw[a.llq]
 have hlv:(Lw.llq a.as.rs).length<=j:=by rw[hlen];exact Q.lv
 have tw:=QInv.twl W hg Q
 have Z:Szs (Lw.llq a.as.rs).length r (3*E+2*s+2*eB r j+10) (8*s+5) (j4 s j r E) (eB r j) (eB (r+j4 s j r E) (j+1)) (Cq s j r E) (uT s j r E):=by
  refine⟨by omega,g9 r hlv,?_,hX,g9 _ oz,?_,?_,hJ,?_,?_⟩
  ·unfold j4 lg;omega
  ·exact yW r _ hlv
  ·exact yW _ _ hlv
  ·exact le_trans (g9 r oz) (uH oz _)
  ·exact ET oz _ _
 have hn:(Lw.llq a.as.rs).length<=1:=by omega
 have key:∀sv∈fO l a.as gr (fE gr xs),Xz (Lw.llq a.as.rs) r (j4 s j r E) sv.ts/\∀p∈sv.ps,Pq.ok sv.ts.length (pJ s j r E) p:=by
  unfold fO;rw[if_neg hk]
  by_cases hk1:gr.kind=1
  ·obtain⟨i,k2,z0,z1,z2,j0,j1,j2,P⟩:=O.rrr hk1;obtain⟨e0,e1,e2,b0,b1,_⟩:=P.at;rw[if_pos hk1,e0,e1,e2,b0,b1];exact JM D hn W.cs tw Z (le_refl _) P
  ·rw[if_neg hk1]
   by_cases hk2:gr.kind=2
   ·obtain⟨i,z0,z1,j0,j,P,ha,hb⟩:=O.pr hk2;obtain⟨e0,e1,b0,_⟩:=P.at;rw[if_pos hk2,e0,e1,b0];exact Lb D hn W.cs tw Z (le_refl _) P ha hb
   ·obtain⟨i,z0,z1,j0,j,P,_,hj,hb⟩:=O.rp hk hk1 hk2;obtain⟨e0,e1,b0,hk3⟩:=P.at;rw[if_neg hk2,e0,e1,b0];exact Ov D hn W.cs tw Z (le_refl _) P hj hb
 intro sv hsv;obtain⟨hx,hp⟩:=key sv hsv;have h5:=hx.tw.five;have hup:=hx.up;have hln:=hx.ln;rw[hlen]at hup hln;refine⟨hx.tw,?_,?_,?_⟩
 ·show sv.ts.length<=j+1;have:=Q.lv;omega
 ·intro p hp3;rcases IC hp3 with h |h
  ·exact(Q.bs p h).up hup h5 (by unfold pJ oZ wZ lg;omega)
  ·exact hp p h
 ·exact(wt _ _ _).trans Q.ln
end
def sL(l:Li)(a:As)(g:Gr)(x:Tn):Nat:=(iO l a g x).2
def rA(F:Int->Bool)(sg:Bool)(f:Sv->List Aq×Nat):List Sv->List Aq×Nat
  |[]=>([],0)
  |s::r=>if F s.mode=false then rA F sg f r else if(f s).2≠0 then f s else if sg=true then f s else((f s).1++(rA F sg f r).1,(rA F sg f r).2)
theorem E3{l:Li}{xs:List Tn}{s g:Nat}(W:WkC l xs s g){k:Nat}{gr:Gr}(hg:(splitG l)[k]?=some gr){j r E:Nat}{a:Aq}(Q:QInv l j r E a){n y:Nat}(ok:jN s g (n+1) y j r E=true)(hy:gr.kind≠0->0<y) :
  SolP (fO l a.as gr (fE gr xs)) gr.kind a.ts.length gr.bo.length:=by
 obtain⟨⟨hE,hr,hj⟩,_⟩:=AG ok;have D:=QInv.dyW W hg Q oz hr;have h3:(Lw.llq a.as.rs).length<=2:=by rw[a.llq];have:=Q.lv;omega
 have hlen:(Lw.llq a.as.rs).length=a.ts.length:=by rw[a.llq]
 rw[<- hlen]
 by_cases hk:gr.kind=0
 ·exact BW hE D h3 (QInv.dyOk W hg Q (F:=E) oz (le_refl _)) (fun h=>absurd hk h) (W.tn hg).2.1
 ·have hy:=hy hk;obtain ⟨y',rfl⟩:∃ y',y = y' + 1:=⟨y - 1,by omega⟩
  obtain⟨⟨hj,hE,hr,hX,hJ⟩,_⟩:=zi ok;exact BW oz D h3 (QInv.dyOk W hg Q (F:=3900000) oz hE) (fun _=>⟨rfl,QInv.dyS W hg Q hr hj⟩) (W.tn hg).2.1
open Lean.Grind (CommRing)
theorem ry{ts:LL}(hp:cP ts){X:Et ts}(h:0<ak X):cP (aQ ts (sX X)):=by
 intro j hj;rw[dD]at hj;rw[xc oz];rcases lt_or_ge j ts.length with h9 |h9
 ·rw[wj h9];exact hp j h9
 ·have : j = ts.length := by omega
  subst this
  have e1:aw (aQ ts (sX X)) ts.length=X:=by
   show ae ts.length ((aQ ts (sX X)).getD ts.length [])=_;rw[un,no];exact bc _ _
  rw[e1];exact Int.le_of_lt h
def a6(T:LL)(p:Pq)(m:Rat×Rat):P2 T:=(dE T p.c*qE m.1-dE T p.s*qE m.2+dE T p.x,dE T p.s*qE m.1+dE T p.c*qE m.2+dE T p.y)
def CH(T:LL)(p:Pq):Prop:=ak (dE T p.c*dE T p.c+dE T p.s*dE T p.s-1)=0
def an(l:Li)(T:LL)(bs:List Pq)(b pt:Int):P2 T:=a6 T (bs.getD b.toNat aS) (aB l b pt)
def JH(l:Li)(T:LL)(bs:List Pq)(j:Jt):Prop :=
  if j.kind=0 then ak ((an l T bs j.a j.point).1-(an l T bs j.b j.on).1)=0/\ak ((an l T bs j.a j.point).2-(an l T bs j.b j.on).2)=0
  else ak (f7 (aE (an l T bs j.b j.to) (an l T bs j.b j.on)) (aE (an l T bs j.a j.point) (an l T bs j.b j.on)))=0
theorem yP{ts:LL}{q:Rat}(h:q≠0):(iE (qE q)*qE q:Et ts)=1:=by
 have e:(iE (qE q):Et ts)=qE (1/q):=wM (aw ts) ts.length q;rw[e,<- fH,show 1/q*q=((1:Nat):Rat) by rw[show(((1:Nat):Rat))=1 from rfl];grind];rfl
section
variable{T:LL}{u p c:Rat×Rat}{w o:P2 T}
theorem wk:dE T (gp u w p o).c=de u w:=bc _ _
theorem v7:dE T (gp u w p o).s=db u w:=bc _ _
theorem Q4:dE T (gp u w p o).x=rq u w p o:=bc _ _
theorem OX:dE T (gp u w p o).y=qR u w p o:=bc _ _
theorem m7(m:Rat×Rat):a6 T (gp u w p o) m=(o.1+(de u w*qE (m.1-p.1)-db u w*qE (m.2-p.2)),o.2+(db u w*qE (m.1-p.1)+de u w*qE (m.2-p.2))):=by
 unfold a6;rw[wk,v7,Q4,OX,kj,kj];unfold rq qR;refine Prod.ext ?_ ?_
 ·dsimp only;grind
 ·dsimp only;grind
theorem sJ:a6 T (gp u w p o) p=o:=by
 rw[m7,show p.1-p.1=0 by grind,show p.2-p.2=0 by grind,xJ];refine Prod.ext ?_ ?_
 ·dsimp only;grind
 ·dsimp only;grind
theorem zM(h:bJ u u≠0):(de u w*qE u.1-db u w*qE u.2=w.1/\db u w*qE u.1+de u w*qE u.2=w.2):=by
 have hn:(j7 u:Et T)=qE u.1*qE u.1+qE u.2*qE u.2:=by
  show qE (u.1*u.1+u.2*u.2)=_;rw[lc,fH,fH]
 exact(Hg hn (yP h) rfl rfl).1
theorem sT(h:bJ (bw c p) (bw c p)≠0):a6 T (gp (bw c p) w p o) c=(o.1+w.1,o.2+w.2):=by
 rw[m7];have g:=zM (w:=w) h;have e1:(qE (c.1-p.1):Et T)=qE (bw c p).1:=rfl;have e2:(qE (c.2-p.2):Et T)=qE (bw c p).2:=rfl;rw[e1,e2,g.1,g.2]
theorem wF(hp:cP T)(h:bJ u u≠0)(hw:ak (w.1*w.1+w.2*w.2-qE (bJ u u))=0):CH T (gp u w p o):=by
 unfold CH;rw[wk,v7]
 have hn:(j7 u:Et T)=qE u.1*qE u.1+qE u.2*qE u.2:=by
  show qE (u.1*u.1+u.2*u.2)=_;rw[lc,fH,fH]
 have hi:(iE (j7 u)*j7 u:Et T)=1:=yP h;have e:=congrArg (aa hp) hn;have ei:=congrArg (aa hp) hi;have ew:aa hp w.1*aa hp w.1+aa hp w.2*aa hp w.2=aa hp (j7 u):=(fh hp (x:=w.1*w.1+w.2*w.2) (y:=j7 u)).2 hw;have g:=(Hg (R:=Zq hp) (n:=aa hp (j7 u)) (i:=aa hp (iE (j7 u))) (u1:=aa hp (qE u.1)) (u2:=aa hp (qE u.2)) (c:=aa hp (de u w)) (s:=aa hp (db u w)) (w1:=aa hp w.1) (w2:=aa hp w.2) e ei rfl (by unfold db;rw[ba,bp,ba,ba])).2 ew;refine(fh hp (x:=de u w*de u w+db u w*db u w) (y:=1)).1 ?_;exact g
end
def aC(a:As):List Pq:=a.bs.map fun b=>⟨lq b.c,lq b.s,lq b.x,lq b.y⟩
theorem vn(q:Aq):aC q.as=q.bs:=by
 unfold aC Aq.as;rw[map_map]
 conv=>rhs;rw[<- List.map_id q.bs]
 refine List.map_congr_left fun p _=>?_
 show(⟨lq (p.c.map rt),lq (p.s.map rt),lq (p.x.map rt),lq (p.y.map rt)⟩:Pq)=p;rw[cU,cU,cU,cU]
theorem eO(l:Li)(a:As)(b pt:Int):aA l a b pt=an l (llq a.rs) (aC a) b pt:=by
 have e:(aC a).getD b.toNat aS=⟨lq (a.bs.getD b.toNat default).c,lq (a.bs.getD b.toNat default).s,lq (a.bs.getD b.toNat default).x,lq (a.bs.getD b.toNat default).y⟩:=by
  unfold aC;rw[getD_eq_getElem?_getD,getD_eq_getElem?_getD,getElem?_map];cases a.bs[b.toNat]? <;> rfl
 unfold an;rw[e];rfl
def Nq(n:Nat)(p:Pq):Prop:=p.c.length<=2^n/\p.s.length<=2^n/\p.x.length<=2^n/\p.y.length<=2^n
section
variable{ts T:LL}(L:Lf ts T)
include L
theorem Lf.add(x y:Et ts):aa L.pos (aq T (x+y))=aa L.pos (aq T x)+aa L.pos (aq T y):=L.hm.add x y
theorem Lf.mul(x y:Et ts):aa L.pos (aq T (x*y))=aa L.pos (aq T x)*aa L.pos (aq T y):=L.hm.mul x y
theorem Lf.sub(x y:Et ts):aa L.pos (aq T (x-y))=aa L.pos (aq T x)-aa L.pos (aq T y):=L.hm.sub x y
theorem Lf.one:aa L.pos (aq T (1:Et ts))=1:=L.hm.one
theorem Lf.at{p:Pq}(hp:Nq ts.length p)(m:Rat×Rat):aa L.pos (a6 T p m).1=aa L.pos (aq T (a6 ts p m).1)/\aa L.pos (a6 T p m).2=aa L.pos (aq T (a6 ts p m).2):=by
 obtain⟨h1,h2,h3,h4⟩:=hp;unfold a6;dsimp only;constructor
 ·rw[L.add,L.sub,L.mul,L.mul,L.low _ h1,L.low _ h2,L.low _ h3,L.q,L.q,cC,bp,ba,ba]
 ·rw[L.add,L.add,L.mul,L.mul,L.low _ h1,L.low _ h2,L.low _ h4,L.q,L.q,cC,cC,ba,ba]
theorem Lf.zero(x:Et ts):ak (aq T x)=0↔ak x=0:=(et L.pos).symm.trans (L.hm.zero x)
theorem Lf.ch{p:Pq}(hp:Nq ts.length p)(h:CH ts p):CH T p:=by
 obtain⟨h1,h2,h3,h4⟩:=hp;have e:=(L.zero _).2 h;have e1:=(et L.pos).2 e;refine(et L.pos).1 ?_;rw[L.sub,L.add,L.mul,L.mul,L.low _ h1,L.low _ h2,L.one]at e1;rw[bp,cC,ba,ba];exact e1
end
end Go.Lw
namespace Go.Lw
open Lean.Grind (CommRing)
def el(bs bs':List Pq)(n:Nat)(b:Int):Prop:=bs'.getD b.toNat aS=bs.getD b.toNat aS/\Nq n (bs.getD b.toNat aS)
section
variable{ts T:LL}(L:Lf ts T)
include L
theorem Lf.pt(l:Li){bs bs':List Pq}{b:Int}(h:el bs bs' ts.length b)(pt:Int) :
  aa L.pos (an l T bs' b pt).1=aa L.pos (aq T (an l ts bs b pt).1)/\aa L.pos (an l T bs' b pt).2=aa L.pos (aq T (an l ts bs b pt).2):=by
 unfold an;rw[h.1];exact L.at h.2 _
end
section
variable{T:LL}(hp:cP T)
include hp
theorem wH{l:Li}{bs:List Pq}{j:Jt}(hk:j.kind=0)(h1:aa hp (an l T bs j.a j.point).1=aa hp (an l T bs j.b j.on).1)(h2:aa hp (an l T bs j.a j.point).2=aa hp (an l T bs j.b j.on).2):JH l T bs j:=by
 unfold JH;rw[if_pos hk];exact⟨(fh hp).1 h1,(fh hp).1 h2⟩
theorem Aj{l:Li}{bs:List Pq}{j:Jt}(hk:j.kind≠0)
  (h:(aa hp (an l T bs j.b j.to).1-aa hp (an l T bs j.b j.on).1)*(aa hp (an l T bs j.a j.point).2-aa hp (an l T bs j.b j.on).2)-(aa hp (an l T bs j.b j.to).2-aa hp (an l T bs j.b j.on).2)*(aa hp (an l T bs j.a j.point).1-aa hp (an l T bs j.b j.on).1)=0):JH l T bs j:=by
 unfold JH;rw[if_neg hk];refine(et hp).1 ?_;unfold f7 crsE aE;dsimp only;rw[bp,ba,ba,bp,bp,bp,bp];exact h
theorem Er{l:Li}{bs:List Pq}{j:Jt}(hk:j.kind=0)(h:JH l T bs j):aa hp (an l T bs j.a j.point).1=aa hp (an l T bs j.b j.on).1/\aa hp (an l T bs j.a j.point).2=aa hp (an l T bs j.b j.on).2:=by
 unfold JH at h;rw[if_pos hk]at h;exact⟨(fh hp).2 h.1,(fh hp).2 h.2⟩
theorem F1{l:Li}{bs:List Pq}{j:Jt}(hk:j.kind≠0)(h:JH l T bs j) :
  (aa hp (an l T bs j.b j.to).1-aa hp (an l T bs j.b j.on).1)*(aa hp (an l T bs j.a j.point).2-aa hp (an l T bs j.b j.on).2)-(aa hp (an l T bs j.b j.to).2-aa hp (an l T bs j.b j.on).2)*(aa hp (an l T bs j.a j.point).1-aa hp (an l T bs j.b j.on).1)=0:=by
 unfold JH at h;rw[if_neg hk]at h;have e:=(et hp).2 h;unfold f7 crsE aE at e;dsimp only at e;rw[bp,ba,ba,bp,bp,bp,bp]at e;exact e
end
section
variable{ts T:LL}(L:Lf ts T)
include L
theorem Lf.jh{l:Li}{bs bs':List Pq}{j:Jt}(ha:el bs bs' ts.length j.a)(hb:el bs bs' ts.length j.b)(h:JH l ts bs j):JH l T bs' j:=by
 have a:=L.pt l ha;have b:=L.pt l hb
 by_cases hk:j.kind=0
 ·unfold JH at h;rw[if_pos hk]at h;have e1:=(et L.pos).2 ((L.zero _).2 h.1);have e2:=(et L.pos).2 ((L.zero _).2 h.2);rw[L.sub]at e1 e2;refine wH L.pos hk ?_ ?_
  ·rw[(a _).1,(b _).1];grind
  ·rw[(a _).2,(b _).2];grind
 ·unfold JH at h;rw[if_neg hk]at h;have e1:=(et L.pos).2 ((L.zero _).2 h);unfold f7 crsE aE at e1;dsimp only at e1;simp only[L.sub,L.mul]at e1;refine Aj L.pos hk ?_;rw[(a _).1,(a _).2,(b _).1,(b _).2,(b _).1,(b _).2];exact e1
end
section
variable{l:Li}{a:As}{T:LL}(L:Lf (llq a.rs) T)
include L
theorem Lf.pin{bs':List Pq}{j:Jt}{i:Int}(hk:j.kind=0)(tie:(j.a=i/\el (aC a) bs' (llq a.rs).length j.b)\/(j.a≠i/\j.b=i/\el (aC a) bs' (llq a.rs).length j.a))
  (h:a6 T (bs'.getD i.toNat aS) (ai l j i)=(aq T (ax l a j i).1,aq T (ax l a j i).2)):JH l T bs' j:=by
 have h1:=congrArg Prod.fst h;have h2:=congrArg Prod.snd h;dsimp only at h1 h2;rcases tie with⟨e,hs⟩ |⟨e,e2,hs⟩
 ·have b:=L.pt l hs j.on;unfold ai ax at h1 h2;simp only[if_pos e]at h1 h2;rw[eO]at h1 h2;refine wH L.pos hk ?_ ?_
  ·rw[b.1];unfold an;rw[e];exact congrArg (aa L.pos) h1
  ·rw[b.2];unfold an;rw[e];exact congrArg (aa L.pos) h2
 ·have b:=L.pt l hs j.point;unfold ai ax at h1 h2;simp only[if_neg e]at h1 h2;rw[eO]at h1 h2;refine wH L.pos hk ?_ ?_
  ·rw[b.1]
   conv=>rhs;unfold an
   rw[e2];exact(congrArg (aa L.pos) h1).symm
  ·rw[b.2]
   conv=>rhs;unfold an
   rw[e2];exact(congrArg (aa L.pos) h2).symm
end
theorem kf{bs:List Pq}{i k:Int}{p:Pq}(hi:0<=i)(hk:0<=k)(h:k≠i):(bs.set i.toNat p).getD k.toNat aS=bs.getD k.toNat aS:=by
 rw[getD_eq_getElem?_getD,getD_eq_getElem?_getD,List.getElem?_set_ne oz]
theorem nF{bs:List Pq}{i:Nat}{p:Pq}(h:i<bs.length):(bs.set i p).getD i aS=p:=by
 rw[getD_eq_getElem?_getD,List.getElem?_set_self h];rfl
theorem P8(n:Nat):Nq n aS:=⟨zero_le _,zero_le _,zero_le _,zero_le _⟩
theorem xf{bs:List Pq}{n:Nat}(h:∀p∈bs,Nq n p)(i:Nat):Nq n (bs.getD i aS):=by
 rw[getD_eq_getElem?_getD];cases e:bs[i]? with
 |none=>exact P8 n
 |some p=>exact h p (mem_of_getElem? e)
structure GrpH(l:Li)(a:As)(g:Gr)(s:Sv):Prop where
  lf:Lf (llq a.rs) s.ts
  js:∀z∈g.jo,JH l s.ts (a8 (aC a) g.bo s.ps) (l.jo.getD z.toNat default)
  cs:∀b∈g.bo,CH s.ts ((a8 (aC a) g.bo s.ps).getD b.toNat aS)
theorem VD{R:Type}[CommRing R]{C S a1 a2 b1 b2 x1 x2 P1 P2 o1 o2:R}(hcs:C*C+S*S=1)(g:x1*(P2-o2)-x2*(P1-o1)=(a1-b1)*b2-(a2-b2)*b1)
  (y1:C*(a1-b1)-S*(a2-b2)=x1) (y2:S*(a1-b1)+C*(a2-b2)=x2) :
  (o1+(C*a1-S*a2)-(o1+(C*b1-S*b2)))*(P2-(o2+(S*b1+C*b2)))-(o2+(S*a1+C*a2)-(o2+(S*b1+C*b2)))*(P1-(o1+(C*b1-S*b2)))=0:=by
 have e1:o1+(C*a1-S*a2)-(o1+(C*b1-S*b2))=x1:=by rw[<- y1];grind
 have e2:o2+(S*a1+C*a2)-(o2+(S*b1+C*b2))=x2:=by rw[<- y2];grind
 rw[e1,e2];have e3:x1*(P2-(o2+(S*b1+C*b2)))-x2*(P1-(o1+(C*b1-S*b2)))=(x1*(P2-o2)-x2*(P1-o1))-(x1*(S*b1+C*b2)-x2*(C*b1-S*b2)):=by clear hcs g y1 y2 e1 e2;grind
 have e4:x1*(S*b1+C*b2)-x2*(C*b1-S*b2)=((a1-b1)*b2-(a2-b2)*b1)*(C*C+S*S):=by rw[<- y1,<- y2];clear hcs g y1 y2 e1 e2 e3;grind
 rw[e3,e4,g,hcs];grind
section
variable{l:Li}{a:As}{r:Nat}(tw:Tw (llq a.rs) r)(hN:∀p∈aC a,Nq (llq a.rs).length p)
include tw hN
theorem oI{bs':List Pq}{b:Int}(h:bs'.getD b.toNat aS=(aC a).getD b.toNat aS):el (aC a) bs' (llq a.rs).length b:=by
 have:=tw;exact⟨h,xf hN _⟩
theorem GK{u:Rat×Rat}(h:bJ u u≠0):0<ak (qE (bJ u u):Et (llq a.rs)):=by
 have:=tw;have:=hN;have h0:0<=bJ u u:=Rat.add_nonneg (mh u.1) (mh u.2)
 have h1:0<bJ u u:=by
  rcases Rat.le_iff_lt_or_eq.1 h0 with g |g
  ·exact g
  ·exact absurd g.symm h
 rw[vU,tE h1];decide
theorem Ry{i k z0 z1 z2:Int}{j0 j1 j2:Jt}(ne:i≠k)(t0:TieO l 0 [i,k] z0 i j0)(t1:TieO l 0 [i,k] z1 k j1)(h2:l.jo[z2.toNat]?=some j2)(kd:j2.kind=0)
  (tie:(j2.a=i/\j2.b=k)\/(j2.b=i/\j2.a=k)) (hi:0<=i) (hk:0<=k) (hil:i.toNat<(aC a).length) (hkl:k.toNat<(aC a).length) (hn:∀j∈l.jo,0<=j.a/\0<=j.b)
  {s:Sv} (hs:s∈iD l a i k j0 j1 j2):GrpH l a ⟨1,[i,k],[z0,z1,z2],0⟩ s:=by
 unfold iD at hs;split at hs
 ·cases hs
 ·rename_i hz;obtain⟨w1,w2⟩:=rj (Bool.eq_false_iff.2 hz);split at hs
  ·cases hs
  ·rename_i hc;have hc:=Decidable.not_not.1 hc;have geo:=QF tw (fun X hX=>ry tw.pos hX) hc (GK tw hN w1);unfold jA at hs;obtain ⟨m,hm,rfl⟩:=List.mem_map.1 hs;obtain ⟨x,hx⟩:=aG (List.mem_range.1 hm);have G:=geo x (mem_of_getElem? hx);unfold iy;rw [ao hx];have e0:TieO l 0 [i,k] z0 i j0:=t0;obtain ⟨n0,n1⟩:=hn j0 (mem_of_getElem? t0.hj);obtain ⟨n2,n3⟩:=hn j1 (mem_of_getElem? t1.hj);have hne:i.toNat ≠ k.toNat:=by omega
   generalize hM:dc (ax l a j0 i) (ax l a j1 k) (qE (aZ (ai l j2 i) (ai l j0 i))) (qE (aZ (ai l j2 k) (ai l j1 k)))=M at *;obtain⟨B0,hB0⟩:∃B0,B0=fS M.ts x ⟨ai l j0 i,P2.l (ax l a j0 i),ai l j2 i⟩:=⟨_,rfl⟩
   obtain⟨B1,hB1⟩:∃B1,B1=fS M.ts x ⟨ai l j1 k,P2.l (ax l a j1 k),ai l j2 k⟩:=⟨_,rfl⟩
   have hbs:a8 (aC a) [i,k] [B0,B1]=((aC a).set i.toNat B0).set k.toNat B1:=rfl;have g0:(a8 (aC a) [i,k] [B0,B1]).getD i.toNat aS=B0:=by rw[hbs,kf hk hi ne,nF hil]
   have g1:(a8 (aC a) [i,k] [B0,B1]).getD k.toNat aS=B1:=by rw[hbs,nF (by rw[length_set];exact hkl)]
   have gn:∀b:Int,0<=b->b∉[i,k]->el (aC a) (a8 (aC a) [i,k] [B0,B1]) (llq a.rs).length b:=fun b h0 hb=>oI tw hN (by
    rw[hbs,kf hk h0 (fun e=>hb (by simp[e])),kf hi h0 (fun e=>hb (by simp[e]))])
   have p0:a6 M.ts B0 (ai l j0 i)=(aq M.ts (ax l a j0 i).1,aq M.ts (ax l a j0 i).2):=by rw[hB0];exact sJ
   have p1:a6 M.ts B1 (ai l j1 k)=(aq M.ts (ax l a j1 k).1,aq M.ts (ax l a j1 k).2):=by rw[hB1];exact sJ
   have q0:a6 M.ts B0 (ai l j2 i)=(dE M.ts x.1,dE M.ts x.2):=by
    rw[hB0];refine(sT w1).trans ?_;unfold kq je;refine Prod.ext ?_ ?_
    ·dsimp only;grind
    ·dsimp only;grind
   have q1:a6 M.ts B1 (ai l j2 k)=(dE M.ts x.1,dE M.ts x.2):=by
    rw[hB1];refine(sT w2).trans ?_;unfold kq je;refine Prod.ext ?_ ?_
    ·dsimp only;grind
    ·dsimp only;grind
   refine⟨G.lf,?_,?_⟩
   ·intro z hz;show JH l M.ts (a8 (aC a) [i,k] [_,_]) _;rw[<- hB0,<- hB1];rcases List.mem_cons.1 hz with rfl |hz
    ·rw [ao t0.hj];refine G.lf.pin t0.kd (i:=i) ?_ (by rw [g0]; exact p0);rcases t0.tie with ⟨e,hb⟩ | ⟨e,hb⟩
     ·exact .inl ⟨e,gn _ n1 hb⟩
     ·exact .inr ⟨fun e2=>hb (by simp[e2]),e,gn _ n0 hb⟩
    ·rcases List.mem_cons.1 hz with rfl |hz
     ·rw [ao t1.hj];refine G.lf.pin t1.kd (i:=k) ?_ (by rw [g1]; exact p1);rcases t1.tie with ⟨e,hb⟩ | ⟨e,hb⟩
      ·exact .inl ⟨e,gn _ n3 hb⟩
      ·exact .inr ⟨fun e2=>hb (by simp[e2]),e,gn _ n2 hb⟩
     ·rw[List.mem_singleton.1 hz,ao h2]
      have key:an l M.ts (a8 (aC a) [i,k] [B0,B1]) j2.a j2.point=an l M.ts (a8 (aC a) [i,k] [B0,B1]) j2.b j2.on:=by
       unfold an;rcases tie with⟨e,e'⟩ |⟨e,e'⟩
       ·have c0 : ai l j2 i = aB l i j2.point := by unfold ai; rw [if_pos e]
        have c1:ai l j2 k=aB l k j2.on:=by unfold ai;rw[if_neg oz]
        rw[e,e',g0,g1,<- c0,<- c1,q0,q1]
       ·have c0 : ai l j2 k = aB l k j2.point := by unfold ai; rw [if_pos e']
        have c1:ai l j2 i=aB l i j2.on:=by unfold ai;rw[if_neg oz]
        rw[e,e',g0,g1,<- c0,<- c1,q0,q1]
      exact wH G.lf.pos kd (by rw[key]) (by rw[key])
   ·intro b hb;show CH M.ts ((a8 (aC a) [i,k] [_,_]).getD b.toNat aS);rw[<- hB0,<- hB1];rcases List.mem_cons.1 hb with rfl |hb
    ·rw[g0,hB0];refine wF G.lf.pos w1 ?_;have:=G.c1;rw[G.lf.q]at this;exact this
    ·rw[List.mem_singleton.1 hb,g1,hB1];refine wF G.lf.pos w2 ?_;have:=G.c2;rw[G.lf.q]at this;exact this
theorem Tv{i z0 z1:Int}{j0 j:Jt}(t0:TieO l 0 [i] z0 i j0)(t1:TieO l 1 [i] z1 i j)(ha:j.a=i)(hi:0<=i)(hil:i.toNat<(aC a).length)(hn:∀j∈l.jo,0<=j.a/\0<=j.b)
  {s:Sv} (hs:s∈iC l a i j0 j):GrpH l a ⟨2,[i],[z0,z1],0⟩ s:=by
 unfold iC at hs;split at hs
 ·cases hs
 ·rename_i hz;have w1:=ru (Bool.eq_false_iff.2 hz);split at hs
  ·cases hs
  ·rename_i hc;have hc:=Decidable.not_not.1 hc;have geo:=Nk tw (fun X hX=>ry tw.pos hX) (c:=ax l a j0 i) (z:=qE (aZ (aB l i j.point) (ai l j0 i))) hc;unfold jA at hs;obtain⟨m,hm,rfl⟩:=List.mem_map.1 hs;obtain⟨x,hx⟩:=aG (List.mem_range.1 hm);have G:=geo x (mem_of_getElem? hx);have L:=G.lf;unfold iy;rw[ao hx];obtain⟨n0,n1⟩:=hn j0 (mem_of_getElem? t0.hj);obtain⟨n2,n3⟩:=hn j (mem_of_getElem? t1.hj);generalize hM:dq (aA l a j.b j.on) (aA l a j.b j.to) (ax l a j0 i) (qE (aZ (aB l i j.point) (ai l j0 i)))=M at *;obtain⟨B0,hB0⟩:∃B0,B0=fS M.ts x ⟨ai l j0 i,P2.l (ax l a j0 i),aB l i j.point⟩:=⟨_,rfl⟩
   have hbs:a8 (aC a) [i] [B0]=(aC a).set i.toNat B0:=rfl;have g0:(a8 (aC a) [i] [B0]).getD i.toNat aS=B0:=by rw[hbs,nF hil]
   have gn:∀b:Int,0<=b->b∉[i]->el (aC a) (a8 (aC a) [i] [B0]) (llq a.rs).length b:=fun b h0 hb=>oI tw hN (by
    rw[hbs,kf hi h0 (fun e=>hb (by simp[e]))])
   have p0:a6 M.ts B0 (ai l j0 i)=(aq M.ts (ax l a j0 i).1,aq M.ts (ax l a j0 i).2):=by rw[hB0];exact sJ
   have q0:a6 M.ts B0 (aB l i j.point)=(dE M.ts x.1,dE M.ts x.2):=by
    rw[hB0];refine(sT w1).trans ?_;unfold kq je;refine Prod.ext ?_ ?_
    ·dsimp only;grind
    ·dsimp only;grind
   have hjb:el (aC a) (a8 (aC a) [i] [B0]) (llq a.rs).length j.b:=by
    rcases t1.tie with⟨e,hb⟩ |⟨e,hb⟩
    ·exact gn _ n3 hb
    ·exact absurd (by simp[ha]) hb
   refine⟨G.lf,?_,?_⟩
   ·intro z hz;show JH l M.ts (a8 (aC a) [i] [_]) _;rw[<- hB0];rcases List.mem_cons.1 hz with rfl |hz
    ·rw [ao t0.hj];refine L.pin t0.kd (i:=i) ?_ (by rw [g0]; exact p0);rcases t0.tie with ⟨e,hb⟩ | ⟨e,hb⟩
     ·exact .inl ⟨e,gn _ n1 hb⟩
     ·exact .inr ⟨fun e2=>hb (by simp[e2]),e,gn _ n0 hb⟩
    ·rw [List.mem_singleton.1 hz, ao t1.hj];refine Aj L.pos (by rw [t1.kd]; decide) ?_;have ec:=(et L.pos).2 G.l;rw [bp,ba,ba,bp,bp,bp,bp,eO,eO] at ec;have on:=L.pt l hjb j.on;have to:=L.pt l hjb j.to
     have pp:an l M.ts (a8 (aC a) [i] [B0]) j.a j.point=(dE M.ts x.1,dE M.ts x.2):=by
      unfold an;rw[ha,g0,q0]
     rw[pp,on.1,on.2,to.1,to.2];exact ec
   ·intro b hb;show CH M.ts ((a8 (aC a) [i] [_]).getD b.toNat aS);rw[<- hB0,List.mem_singleton.1 hb,g0,hB0];refine wF L.pos w1 ?_;have:=G.c;rw[L.q]at this;exact this
theorem Ak{i z0 z1:Int}{j0 j:Jt}(t0:TieO l 0 [i] z0 i j0)(t1:TieO l 1 [i] z1 i j)(ha:j.a≠i)(hi:0<=i)(hil:i.toNat<(aC a).length)(hn:∀j∈l.jo,0<=j.a/\0<=j.b)(hv:bJ (b9 l i j) (b9 l i j)≠0)
  (hd:ak (bX l a i j0 j)≠0) {T:LL} (L:Lf (llq a.rs) T) {q:List Rat} (hq:aa L.pos (dE T q*dE T q)=aa L.pos (aq T (bm l a i j0 j))) {n:Int} :
  GrpH l a ⟨3,[i],[z0,z1],0⟩ ⟨T,[mF T (dl l a i j0 j) q],n⟩:=by
 obtain⟨n0,n1⟩:=hn j0 (mem_of_getElem? t0.hj);obtain⟨n2,n3⟩:=hn j (mem_of_getElem? t1.hj)
 obtain⟨tb,tn⟩:j.b=i/\j.a∉[i]:=by
  rcases t1.tie with⟨e,hb⟩ |h
  ·exact absurd e ha
  ·exact h
 obtain⟨w,hw⟩:∃w:P2 T,w=ns T q (dl l a i j0 j).h (dl l a i j0 j).d (dl l a i j0 j).w:=⟨_,rfl⟩
 obtain⟨o,ho⟩:∃o:P2 T,o=(aq T (ax l a j0 i).1,aq T (ax l a j0 i).2):=⟨_,rfl⟩
 obtain⟨B0,hB0⟩:∃B0,B0=gp (b9 l i j) w (ai l j0 i) o:=⟨_,rfl⟩
 have e0:mF T (dl l a i j0 j) q=B0:=by rw[hB0,hw,ho];rfl
 rw[e0];have hbs:a8 (aC a) [i] [B0]=(aC a).set i.toNat B0:=rfl;have g0:(a8 (aC a) [i] [B0]).getD i.toNat aS=B0:=by rw[hbs,nF hil]
 have gn:∀b:Int,0<=b->b∉[i]->el (aC a) (a8 (aC a) [i] [B0]) (llq a.rs).length b:=fun b h0 hb=>oI tw hN (by
  rw[hbs,kf hi h0 (fun e=>hb (by simp[e]))])
 have hD:aa L.pos (aq T (bX l a i j0 j))=aa L.pos (aq T (bS l a i j0 j).1)*aa L.pos (aq T (bS l a i j0 j).1)+aa L.pos (aq T (bS l a i j0 j).2)*aa L.pos (aq T (bS l a i j0 j).2):=by
  rw[<- L.mul,<- L.mul,<- L.add];rfl
 have hI:aa L.pos (iE (aq T (bX l a i j0 j)))*aa L.pos (aq T (bX l a i j0 j))=1:=n6 L.pos (fun e=>hd ((L.zero _).1 e))
 have hX:aa L.pos (dE T q)*aa L.pos (dE T q)=aa L.pos (qE (fV l i j))*aa L.pos (aq T (bX l a i j0 j))-aa L.pos (qE (bV l i j0 j))*aa L.pos (qE (bV l i j0 j)):=by
  rw[<- ba,hq];unfold bm;rw[L.sub,L.mul,L.mul,L.q,L.q]
 have eh:dE T (dl l a i j0 j).h=qE (bV l i j0 j):=ik _ _;have x1:w.1=(dE T q*aq T (bS l a i j0 j).1-qE (bV l i j0 j)*-aq T (bS l a i j0 j).2)*iE (aq T (bX l a i j0 j)):=by rw[hw,<- eh];rfl
 have x2:w.2=(dE T q*aq T (bS l a i j0 j).2-qE (bV l i j0 j)*aq T (bS l a i j0 j).1)*iE (aq T (bX l a i j0 j)):=by rw[hw,<- eh];rfl
 have G:=Jc hD hI hX (w1:=aa L.pos w.1) (w2:=aa L.pos w.2) (by rw[x1,ba,bp,ba,ba,Gh]) (by rw[x2,ba,bp,ba,ba])
 have hc:CH T B0:=by
  rw[hB0];refine wF L.pos hv ?_;refine(fh L.pos (x:=w.1*w.1+w.2*w.2) (y:=qE (bJ (b9 l i j) (b9 l i j)))).1 ?_;rw[cC,ba,ba,G.1];rfl
 refine⟨L,?_,?_⟩
 ·intro z hz;show JH l T (a8 (aC a) [i] [B0]) _;rcases List.mem_cons.1 hz with rfl |hz
  ·rw [ao t0.hj];refine L.pin t0.kd (i:=i) ?_ (by rw [g0,hB0,sJ,ho]);rcases t0.tie with ⟨e,hb⟩ | ⟨e,hb⟩
   ·exact .inl ⟨e,gn _ n1 hb⟩
   ·exact .inr ⟨fun e2=>hb (by simp[e2]),e,gn _ n0 hb⟩
  ·rw [List.mem_singleton.1 hz, ao t1.hj];refine Aj L.pos (by rw [t1.kd]; decide) ?_;have pp:=L.pt l (gn _ n2 tn) j.point;have eon:an l T (a8 (aC a) [i] [B0]) j.b j.on = a6 T B0 (aB l i j.on):=by unfold an; rw [tb,g0]
   have eto:an l T (a8 (aC a) [i] [B0]) j.b j.to=a6 T B0 (aB l i j.to):=by unfold an;rw[tb,g0]
   have W1:aa L.pos (aq T (bS l a i j0 j).1)=aa L.pos (aq T (an l (llq a.rs) (aC a) j.a j.point).1)-aa L.pos o.1:=by
    rw[ho,<- L.sub,<- eO];rfl
   have W2:aa L.pos (aq T (bS l a i j0 j).2)=aa L.pos (aq T (an l (llq a.rs) (aC a) j.a j.point).2)-aa L.pos o.2:=by
    rw[ho,<- L.sub,<- eO];rfl
   have g2:=G.2;rw[W1,W2]at g2;rw[pp.1,pp.2,eon,eto,hB0,m7,m7];have gg:=zM (w:=w) hv
   have hcs:aa L.pos (de (b9 l i j) w)*aa L.pos (de (b9 l i j) w)+aa L.pos (db (b9 l i j) w)*aa L.pos (db (b9 l i j) w)=1:=by
    have h9:=(et L.pos).2 hc;rw[hB0,wk,v7,bp,cC,ba,ba,Ck]at h9;grind
   have v1:(qE (b9 l i j).1:Et T)=qE ((aB l i j.to).1-(ai l j0 i).1)-qE ((aB l i j.on).1-(ai l j0 i).1):=by rw[<- kj];congr 1;show(aB l i j.to).1-(aB l i j.on).1=_;grind
   have v2:(qE (b9 l i j).2:Et T)=qE ((aB l i j.to).2-(ai l j0 i).2)-qE ((aB l i j.on).2-(ai l j0 i).2):=by rw[<- kj];congr 1;show(aB l i j.to).2-(aB l i j.on).2=_;grind
   have hh:(qE (bV l i j0 j):Et T)=qE (b9 l i j).1*qE ((aB l i j.on).2-(ai l j0 i).2)-qE (b9 l i j).2*qE ((aB l i j.on).1-(ai l j0 i).1):=by
    rw[<- fH,<- fH,<- kj];rfl
   have y1:=congrArg (aa L.pos) gg.1;have y2:=congrArg (aa L.pos) gg.2;rw[hh,bp,ba,ba]at g2;rw[v1,v2]at g2 y1 y2;simp only[cC,bp,ba]at g2 y1 y2 ⊢
   revert hcs g2 y1 y2
   generalize aa L.pos (qE ((aB l i j.to).1-(ai l j0 i).1):Et T)=a1;generalize aa L.pos (qE ((aB l i j.to).2-(ai l j0 i).2):Et T)=a2;generalize aa L.pos (qE ((aB l i j.on).1-(ai l j0 i).1):Et T)=b1;generalize aa L.pos (qE ((aB l i j.on).2-(ai l j0 i).2):Et T)=b2;generalize aa L.pos (de (b9 l i j) w)=C;generalize aa L.pos (db (b9 l i j) w)=S;generalize aa L.pos (aq T (an l (llq a.rs) (aC a) j.a j.point).1)=P1;generalize aa L.pos (aq T (an l (llq a.rs) (aC a) j.a j.point).2)=P2;generalize aa L.pos o.1=o1;generalize aa L.pos o.2=o2;generalize aa L.pos w.1=x1;generalize aa L.pos w.2=x2;intro hcs g2 y1 y2;exact VD hcs g2 y1 y2
 ·intro b hb;rw[List.mem_singleton.1 hb];show CH T ((a8 (aC a) [i] [B0]).getD i.toNat aS);rw[g0];exact hc
end
end Go.Lw
namespace Go.Lw
open Lean.Grind (CommRing)
theorem HS(half:Bool)(t:Rat):dM half t*dM half t+dP half t*dP half t=1:=by
 unfold dM dP;cases half
 ·have h:1+t*t≠0:=by
   have:=mh t;intro e;grind
  simp only[Bool.false_eq_true,if_false]
  have e1:(1-t*t)/(1+t*t)*((1-t*t)/(1+t*t))+(t+t)/(1+t*t)*((t+t)/(1+t*t))=((1-t*t)*(1-t*t)+(t+t)*(t+t))*((1+t*t)⁻¹*(1+t*t)⁻¹):=by
   rw[Rat.div_def,Rat.div_def];grind
  rw[e1];have e2:(1+t*t)*(1+t*t)⁻¹=1:=Rat.mul_inv_cancel _ h;generalize(1+t*t)⁻¹=k at e2 ⊢;have e3:((1-t*t)*(1-t*t)+(t+t)*(t+t))*(k*k)=((1+t*t)*k)*((1+t*t)*k):=by grind
  rw[e3,e2,Rat.one_mul]
 ·simp only[if_true];decide +kernel
section
variable{l:Li}{a:As}{r:Nat}(tw:Tw (llq a.rs) r)(hN:∀p∈aC a,Nq (llq a.rs).length p)
include tw hN
theorem Lx{i z0 z1:Int}{j0 j:Jt}(t0:TieO l 0 [i] z0 i j0)(t1:TieO l 1 [i] z1 i j)(ha:j.a≠i)(hi:0<=i)(hil:i.toNat<(aC a).length)(hn:∀j∈l.jo,0<=j.a/\0<=j.b)(hv:bJ (b9 l i j) (b9 l i j)≠0)
  {s:Sv} (hs:s∈gK l a i j0 j):GrpH l a ⟨3,[i],[z0,z1],0⟩ s:=by
 unfold gK at hs;split at hs
 ·cases hs
 ·rename_i h1;split at hs
  ·cases hs
  ·rename_i h2;have hd:=pa tw h2 h1;split at hs
   ·rename_i h3;have hp:=ry tw.pos h3;have L:=qB (bm l a i j0 j) hp;have e:=AN (bm l a i j0 j);unfold ju at hs;obtain⟨m,hm,rfl⟩:=List.mem_map.1 hs;have hm:=List.mem_range.1 hm;unfold iR
    match m,hm with
    |0,_ =>
     refine Ak tw hN t0 t1 ha hi hil hn hv hd L ?_;show aa L.pos (bA (bm l a i j0 j)*bA (bm l a i j0 j))=_;rw[e];rfl
    |1,_ =>
     refine Ak tw hN t0 t1 ha hi hil hn hv hd L ?_;show aa L.pos (dE _ (sX (-bA (bm l a i j0 j)))*dE _ (sX (-bA (bm l a i j0 j))))=_;rw[ee,show -bA (bm l a i j0 j)*-bA (bm l a i j0 j)=bA (bm l a i j0 j)*bA (bm l a i j0 j) by grind,e];rfl
    |m+2,h=>exact absurd h (by simp)
   ·rename_i h3;have hX:ak (bm l a i j0 j) = 0:=by omega
    have L:=kG (ts:=llq a.rs) tw.pos;unfold ju at hs;obtain⟨m,hm,rfl⟩:=List.mem_map.1 hs;have hm:=List.mem_range.1 hm;unfold iR
    match m,hm with
    |0,_ =>
     refine Ak tw hN t0 t1 ha hi hil hn hv hd L ?_;show aa L.pos (dE _ []*dE _ [])=_;have e0:(dE (llq a.rs) []:Et (llq a.rs))=0:=by rw[E.zero_def];exact gQ _
     rw[e0,cR];refine((et L.pos).2 ?_).trans ((et L.pos).2 hX).symm;rw[show(0:Et (llq a.rs))*0=0 by grind];exact(du _ _ L.pos).zero
    |m+1,h=>exact absurd h (by simp)
theorem M2{i z0 d:Int}{j0:Jt}(t0:TieO l 0 [i] z0 i j0)(hi:0<=i)(hil:i.toNat<(aC a).length)(hn:∀j∈l.jo,0<=j.a/\0<=j.b){x:Tn}
  {s:Sv} (hs:s∈iY l a i j0 x):GrpH l a ⟨0,[i],[z0],d⟩ s/\dE s.ts ((a8 (aC a) [i] s.ps).getD i.toNat aS).c=qE (dM x.half x.t.q)/\dE s.ts ((a8 (aC a) [i] s.ps).getD i.toNat aS).s=qE (dP x.half x.t.q):=by
 unfold iY at hs;split at hs
 ·cases hs
 ·rw[List.mem_singleton.1 hs];obtain⟨n0,n1⟩:=hn j0 (mem_of_getElem? t0.hj);have L:=kG (ts:=llq a.rs) tw.pos;have hbs:∀B0,a8 (aC a) [i] [B0]=(aC a).set i.toNat B0:=fun _=>rfl
  have g0:∀B0,(a8 (aC a) [i] [B0]).getD i.toNat aS=B0:=fun B0=>by rw[hbs,nF hil]
  have gn:∀(B0:Pq)(b:Int),0<=b->b∉[i]->el (aC a) (a8 (aC a) [i] [B0]) (llq a.rs).length b:=fun B0 b h0 hb=>oI tw hN (by
   rw[hbs,kf hi h0 (fun e=>hb (by simp[e]))])
  have eN:(j7 (((1:Int):Rat),0):Et (llq a.rs))=qE 1:=congrArg qE (show((1:Int):Rat)*((1:Int):Rat)+0*0=1 by decide +kernel);have q1:(qE 1:Et (llq a.rs))=1:=rfl
  have hc:(dE (llq a.rs) (ku l a i j0 x).c:Et (llq a.rs))=qE (dM x.half x.t.q):=by
   unfold ku;rw[wk];unfold de;rw[eN,AD,lH,xJ];grind
  have hsn:(dE (llq a.rs) (ku l a i j0 x).s:Et (llq a.rs))=qE (dP x.half x.t.q):=by
   unfold ku;rw[v7];unfold db;rw[eN,AD,lH,xJ];grind
  refine⟨⟨L,?_,?_⟩,by rw[g0];exact hc,by rw[g0];exact hsn⟩
  ·intro z hz;rw [List.mem_singleton.1 hz,ao t0.hj];show JH l (llq a.rs) (a8 (aC a) [i] [ku l a i j0 x]) j0;refine L.pin t0.kd (i:=i) ?_ (by rw [g0,cR,cR]; exact sJ);rcases t0.tie with ⟨e,hb⟩ | ⟨e,hb⟩
   ·exact .inl ⟨e,gn _ _ n1 hb⟩
   ·exact .inr ⟨fun e2=>hb (by simp[e2]),e,gn _ _ n0 hb⟩
  ·intro b hb;rw[List.mem_singleton.1 hb];show CH (llq a.rs) ((a8 (aC a) [i] [ku l a i j0 x]).getD i.toNat aS);rw[g0];unfold CH;rw[hc,hsn,<- fH,<- fH,<- lc,HS,q1,show(1:Et (llq a.rs))-1=0 by grind];exact(du _ _ L.pos).zero
theorem Uq{g:Gr}(hg:DyK l g)(hgb:∀b∈g.bo,0<=b/\b.toNat<(aC a).length)(hli:aO l=0){x:Tn}{s:Sv}(hs:s∈fO l a g x):GrpH l a g s/\(g.kind=0->dE s.ts ((a8 (aC a) g.bo s.ps).getD (au g 0).toNat aS).c=qE (dM x.half x.t.q)/\dE s.ts ((a8 (aC a) g.bo s.ps).getD (au g 0).toNat aS).s=qE (dP x.half x.t.q)):=by
 have hn:∀j∈l.jo,0<=j.a/\0<=j.b:=fun j hj=>by
  obtain⟨n,hn⟩:=List.getElem?_of_mem hj;obtain⟨i1,i2,_⟩:=dw hli hn;have i1:=dz i1;have i2:=dz i2;omega
 cases hg with
 | @drv b z d j dr t d0 hd hb =>
  have e:ah l ⟨0,[b],[z],d⟩ 0=j:=ao t.hj;have hs:s∈iY l a b j x:=by rw[<- e];exact hs
  obtain⟨h1,h2⟩:=hgb b (by simp);have h:=M2 (d:=d) tw hN t h1 h2 hn hs;exact⟨h.1,fun _=>h.2⟩
 | @rrr i k z0 z1 z2 j0 j1 j2 ne t0 t1 h0 h2 kd tie =>
  have e0:ah l ⟨1,[i,k],[z0,z1,z2],0⟩ 0=j0:=ao t0.hj;have e1:ah l ⟨1,[i,k],[z0,z1,z2],0⟩ 1=j1:=ao t1.hj;have e2:ah l ⟨1,[i,k],[z0,z1,z2],0⟩ 2=j2:=ao h2;have hs:s∈iD l a i k j0 j1 j2:=by rw[<- e0,<- e1,<- e2];exact hs
  obtain⟨b1,b2⟩:=hgb i (by simp);obtain⟨b3,b4⟩:=hgb k (by simp);exact⟨Ry tw hN ne t0 t1 h2 kd tie b1 b3 b2 b4 hn hs,fun h=>absurd h (by simp)⟩
 | @pr i z0 z1 j0 j1 t0 t1 ha =>
  have e0:ah l ⟨2,[i],[z0,z1],0⟩ 0=j0:=ao t0.hj;have e1:ah l ⟨2,[i],[z0,z1],0⟩ 1=j1:=ao t1.hj;have hs:s∈iC l a i j0 j1:=by rw[<- e0,<- e1];exact hs
  obtain⟨b1,b2⟩:=hgb i (by simp);exact⟨Tv tw hN t0 t1 ha b1 b2 hn hs,fun h=>absurd h (by simp)⟩
 | @rp i z0 z1 j0 j1 t0 t1 ha =>
  have e0:ah l ⟨3,[i],[z0,z1],0⟩ 0=j0:=ao t0.hj;have e1:ah l ⟨3,[i],[z0,z1],0⟩ 1=j1:=ao t1.hj;have hs:s∈gK l a i j0 j1:=by rw[<- e0,<- e1];exact hs
  obtain⟨b1,b2⟩:=hgb i (by simp)
  have tb:j1.b=i:=by
   rcases t1.tie with⟨e,_⟩ |⟨e,_⟩
   ·exact absurd e ha
   ·exact e
  exact⟨Lx tw hN t0 t1 ha b1 b2 hn (rm hli t1.hj (by rw[t1.kd];decide) tb) hs,fun h=>absurd h (by simp)⟩
end
end Go.Lw
namespace Go.Lw
open Lean.Grind (CommRing)
theorem QL{n N:Nat}(hN:N=n+1){r:(k:Nat)->T k}(h:T.sgn r n (r n)=1):T.sgn r N (ae N (cr n))=1:=by
 subst hN;rw[BZ];show T.sgn3 (T.sgn r n (T.zero n)) (T.sgn r n (T.ofQ n 1)) (T.sgn r n (r n)) _=1;rw[h,T.sgn_zero,T.sgn_ofQ];have e:bN 1=1:=by decide +kernel
 rw[e];rfl
theorem xS{ts:LL}{X:Et ts}(h:ak X=1):ak (bA X)=1:=by
 refine QL (dD _ _) ?_;rw[xc (le_refl _)]
 have e1:aw (aQ ts (sX X)) ts.length=X:=by
  show ae ts.length ((aQ ts (sX X)).getD ts.length [])=X;rw[un,no];exact bc _ _
 rw[e1];exact h
theorem Hf{ts:LL}(hp:cP ts){X:Et ts}(h:0<ak X):ak X=1:=by
 rcases(du _ _ hp).cs X with g |g |g
 ·have g:ak X=-1:=g;omega
 ·have g:ak X=0:=g;omega
 ·exact g
theorem jD{ts:LL}(hp:cP ts){x y:Et ts}(h:aa hp x=aa hp y):ak x=ak y:=(du _ _ hp).sub0 ((fh hp).1 h)
theorem v8{ts:LL}(hp:cP ts)(x:Et ts):ak (-x)=-ak x:=(du _ _ hp).neg x
theorem rQ{ts:LL}(hp:cP ts)(x:Et ts):ak (x+x)=ak x:=by
 have H:=du (aw ts) ts.length hp;show sg _ _ (x+x)=sg _ _ x;rcases H.cs x with h |h |h
 ·have n:=H.neg x;have a:=H.padd (x:=-x) (y:=-x) oz oz;have e:=H.neg (x+x);rw[show -(x+x)=-x+-x by grind,a]at e;omega
 ·rw[H.zadd h]
 ·rw[H.padd h oz];exact h.symm
section
variable{R:Type}[CommRing R]
theorem Pf{p1 p2 q1 q2 i t a x y:R}(hi:i*(((p1-q1)*(p1-q1)+(p2-q2)*(p2-q2))+((p1-q1)*(p1-q1)+(p2-q2)*(p2-q2)))=1)
  (hx:x=p1+a*i*(q1-p1)+t*(i*-(q2-p2))) (hy:y=p2+a*i*(q2-p2)+t*(i*(q1-p1))) :
  ((q1-p1)*(y-p2)-(q2-p2)*(x-p1))+((q1-p1)*(y-p2)-(q2-p2)*(x-p1))=t:=by
 have e:((q1-p1)*(y-p2)-(q2-p2)*(x-p1))+((q1-p1)*(y-p2)-(q2-p2)*(x-p1))=t*(i*(((p1-q1)*(p1-q1)+(p2-q2)*(p2-q2))+((p1-q1)*(p1-q1)+(p2-q2)*(p2-q2)))):=by
  rw[hx,hy];clear hi hx hy;grind
 rw[e,hi];grind
theorem NJ{p1 p2 q1 q2 c1 c2 i t k x y:R}(hi:i*((q1-p1)*(q1-p1)+(q2-p2)*(q2-p2))=1)(hk:k=((q1-p1)*(c1-p1)+(q2-p2)*(c2-p2)+t)*i)
  (hx:x=p1+k*(q1-p1)) (hy:y=p2+k*(q2-p2)):(q1-p1)*(x-c1)+(q2-p2)*(y-c2)=t:=by
 have e:(q1-p1)*(x-c1)+(q2-p2)*(y-c2)=k*((q1-p1)*(q1-p1)+(q2-p2)*(q2-p2))-((q1-p1)*(c1-p1)+(q2-p2)*(c2-p2)):=by
  rw[hx,hy];clear hi hk hx hy;grind
 have e2:k*((q1-p1)*(q1-p1)+(q2-p2)*(q2-p2))=((q1-p1)*(c1-p1)+(q2-p2)*(c2-p2)+t)*(i*((q1-p1)*(q1-p1)+(q2-p2)*(q2-p2))):=by
  rw[hk];clear hi hk hx hy e;grind
 rw[e,e2,hi];grind
theorem Kf{W1 W2 hh i t D w1 w2:R}(hD:D=W1*W1+W2*W2)(hi:i*D=1)(h1:w1=(t*W1-hh*-W2)*i)(h2:w2=(t*W2-hh*W1)*i):w1*W1+w2*W2=t:=by
 have e:w1*W1+w2*W2=t*(i*D):=by rw[h1,h2,hD];clear hD hi h1 h2;grind
 rw[e,hi];grind
theorem NW{ts:LL}{f:Et ts->R}(h:Hm f){p q:P2 ts}{z z2:Et ts}(hd2:ak (az p q+az p q)≠0){t x y:R}
  (hx:x=f (cS p q z z2).1+t*f (gk p q).1) (hy:y=f (cS p q z z2).2+t*f (gk p q).2) :
  ((f q.1-f p.1)*(y-f p.2)-(f q.2-f p.2)*(x-f p.1))+((f q.1-f p.1)*(y-f p.2)-(f q.2-f p.2)*(x-f p.1))=t:=by
 have d:=mP h p q;have hi:=h.inv _ hd2;rw[h.add,d]at hi;refine Pf hi (a:=f z+((f p.1-f q.1)*(f p.1-f q.1)+(f p.2-f q.2)*(f p.2-f q.2))-f z2) ?_ ?_
 ·rw[hx,vP];unfold cD gk;dsimp only;show f (p.1+qE ((1:Int):Rat)*iE (az p q+az p q)*(z+az p q-z2)*(q.1-p.1))+t*f (qE ((1:Int):Rat)*iE (az p q+az p q)*(0-(q.2-p.2)))=_;simp only[h.add,h.mul,h.sub,h.q1,h.nul,d];generalize(f p.1-f q.1)*(f p.1-f q.1)+(f p.2-f q.2)*(f p.2-f q.2)=D;generalize f (iE (az p q+az p q))=i;clear hi hx hy d;grind
 ·rw[hy,vP];unfold cD gk;dsimp only;show f (p.2+qE ((1:Int):Rat)*iE (az p q+az p q)*(z+az p q-z2)*(q.2-p.2))+t*f (qE ((1:Int):Rat)*iE (az p q+az p q)*(q.1-p.1))=_;simp only[h.add,h.mul,h.sub,h.q1,d];generalize(f p.1-f q.1)*(f p.1-f q.1)+(f p.2-f q.2)*(f p.2-f q.2)=D;generalize f (iE (az p q+az p q))=i;clear hi hx hy d;grind
theorem MB{ts:LL}{f:Et ts->R}(h:Hm f){p q c:P2 ts}(hd:ak (a7 p q)≠0){t x y:R}
  (hx:x=f (cD p (bH p q c*iE (a7 p q)) (aE q p)).1+t*f (fP p q).1) (hy:y=f (cD p (bH p q c*iE (a7 p q)) (aE q p)).2+t*f (fP p q).2) :
  (f q.1-f p.1)*(x-f c.1)+(f q.2-f p.2)*(y-f c.2)=t:=by
 have hi:=h.inv _ hd
 have eS:f (a7 p q)=(f q.1-f p.1)*(f q.1-f p.1)+(f q.2-f p.2)*(f q.2-f p.2):=by
  show f ((q.1-p.1)*(q.1-p.1)+(q.2-p.2)*(q.2-p.2))=_;simp only[h.add,h.mul,h.sub]
 have eE:f (bH p q c)=(f q.1-f p.1)*(f c.1-f p.1)+(f q.2-f p.2)*(f c.2-f p.2):=by
  show f ((q.1-p.1)*(c.1-p.1)+(q.2-p.2)*(c.2-p.2))=_;simp only[h.add,h.mul,h.sub]
 rw[eS]at hi;refine NJ hi (k:=(f (bH p q c)+t)*f (iE (a7 p q))) (by rw[eE]) ?_ ?_
 ·rw[hx];unfold cD fP;show f (p.1+bH p q c*iE (a7 p q)*(q.1-p.1))+t*f (qE ((1:Int):Rat)*iE (a7 p q)*(q.1-p.1))=_;simp only[h.add,h.mul,h.sub,h.q1];generalize f (iE (a7 p q))=i;generalize f (bH p q c)=e;clear hi hx hy eS eE;grind
 ·rw[hy];unfold cD fP;show f (p.2+bH p q c*iE (a7 p q)*(q.2-p.2))+t*f (qE ((1:Int):Rat)*iE (a7 p q)*(q.2-p.2))=_;simp only[h.add,h.mul,h.sub,h.q1];generalize f (iE (a7 p q))=i;generalize f (bH p q c)=e;clear hi hx hy eS eE;grind
end
structure CirD(ts T:LL)(x:List Rat×List Rat)(p q:P2 ts)(z z2:Et ts)(m:Int):Prop where
  lf:Lf ts T
  ex:∀d:Et T,aa lf.pos d=(aa lf.pos (aq T q.1)-aa lf.pos (aq T p.1))*(aa lf.pos (dE T x.2)-aa lf.pos (aq T p.2))-(aa lf.pos (aq T q.2)-aa lf.pos (aq T p.2))*(aa lf.pos (dE T x.1)-aa lf.pos (aq T p.1)) ->
    ak d=m
section
variable{ts:LL}
theorem Bg{T:LL}(L:Lf ts T){x:List Rat×List Rat}{p q:P2 ts}{z z2:Et ts}(hd2:ak (az p q+az p q)≠0){t:Et T}
  (hx:dE T x.1=aq T (cS p q z z2).1+t*aq T (gk p q).1) (hy:dE T x.2=aq T (cS p q z z2).2+t*aq T (gk p q).2) {m:Int} (hm:ak t=m):CirD ts T x p q z z2 m:=by
 have g:=NW L.hm hd2 (z:=z) (z2:=z2) (t:=aa L.pos t) (x:=aa L.pos (dE T x.1)) (y:=aa L.pos (dE T x.2)) (by rw[hx];rfl) (by rw[hy];rfl);refine⟨L,fun d hd=>?_⟩;have e:aa L.pos (d+d)=aa L.pos t:=by rw[cC,hd];exact g
 rw[<- hm,<- rQ L.pos d];exact jD L.pos e
theorem Sf{r:Nat}(tw:Tw ts r){p q:P2 ts}{z z2:Et ts}(h0:eL p q z z2=0)(hz:0<ak z) :
  ∀(i:Nat)(x:List Rat×List Rat),(dc p q z z2).ps[i]?=some x->CirD ts (dc p q z z2).ts x p q z z2 (if(dc p q z z2).ps.length=1 then 0 else 1-2*(i:Int)):=by
 intro i x;unfold eL kc at h0;unfold dc;split
 ·rename_i hd;rw[if_pos hd]at h0;unfold lh;split
  ·intro hx;simp at hx
  ·intro hx;simp at hx
 ·rename_i hd;have hd2:=Cp tw hd;split
  ·intro hx;simp at hx
  ·rename_i hn;split
   ·rename_i hX;intro hx
    match i,hx with
    |0,hx =>
     have hx:(cS p q z z2).l=x:=Option.some.inj hx;subst hx;have hp:cP ts:=tw.pos;refine Bg (kG hp) hd2 (t:=0) ?_ ?_ ?_
     ·rw[cR,cR,ee];grind
     ·rw[cR,cR,ee];grind
     ·exact(du _ _ hp).zero
    |i+1,hx=>simp at hx
   ·rename_i hX;have hX1:0 < ak (bg p z q z2):=by omega
    have hp:=ry tw.pos hX1;have L:=qB (bg p z q z2) hp;have s1:=xS (Hf tw.pos hX1);intro hx
    match i,hx with
    |0,hx =>
     have hx:(gw (bg p z q z2) (cS p q z z2) (fy p q) (dZ (bg p z q z2) (az p q))).l=x:=Option.some.inj hx;subst hx;refine Bg L hd2 (t:=bA (bg p z q z2)) ?_ ?_ s1
     ·rw[ee];exact congrArg Prod.fst (sN (bg p z q z2) (cS p q z z2) p q)
     ·rw[ee];exact congrArg Prod.snd (sN (bg p z q z2) (cS p q z z2) p q)
    |1,hx =>
     have hx:(gw (bg p z q z2) (cS p q z z2) (fy p q) (qE ((-1:Int):Rat)*dZ (bg p z q z2) (az p q))).l=x:=Option.some.inj hx;subst hx;refine Bg L hd2 (t:=-bA (bg p z q z2)) ?_ ?_ (by rw[v8 hp,s1];rfl)
     ·rw[ee,congrArg Prod.fst (uI (bg p z q z2) (cS p q z z2) p q)];show aI _ _-_*aI _ _=aI _ _+-_*aI _ _;grind
     ·rw[ee,congrArg Prod.snd (uI (bg p z q z2) (cS p q z z2) p q)];show aI _ _-_*aI _ _=aI _ _+-_*aI _ _;grind
    |i+2,hx=>simp at hx
structure LinD(ts T:LL)(x:List Rat×List Rat)(p q c:P2 ts)(z:Et ts)(m:Int):Prop where
  lf:Lf ts T
  ex:∀d:Et T,aa lf.pos d=(aa lf.pos (aq T q.1)-aa lf.pos (aq T p.1))*(aa lf.pos (dE T x.1)-aa lf.pos (aq T c.1))+(aa lf.pos (aq T q.2)-aa lf.pos (aq T p.2))*(aa lf.pos (dE T x.2)-aa lf.pos (aq T c.2)) ->
    ak d=m
theorem xQ{T:LL}(L:Lf ts T){x:List Rat×List Rat}{p q c:P2 ts}{z:Et ts}(hd:ak (a7 p q)≠0){t:Et T}
  (hx:dE T x.1=aq T (cD p (bH p q c*iE (a7 p q)) (aE q p)).1+t*aq T (fP p q).1) (hy:dE T x.2=aq T (cD p (bH p q c*iE (a7 p q)) (aE q p)).2+t*aq T (fP p q).2) {m:Int} (hm:ak t=m):LinD ts T x p q c z m:=by
 have g:=MB L.hm hd (c:=c) (t:=aa L.pos t) (x:=aa L.pos (dE T x.1)) (y:=aa L.pos (dE T x.2)) (by rw[hx];rfl) (by rw[hy];rfl);refine⟨L,fun d hd=>?_⟩;have e:aa L.pos d=aa L.pos t:=by rw[hd];exact g
 rw[<- hm];exact jD L.pos e
theorem Oe{r:Nat}(tw:Tw ts r){p q c:P2 ts}{z:Et ts}(h0:eP p q=0) :
  ∀(i:Nat)(x:List Rat×List Rat),(dq p q c z).ps[i]?=some x->LinD ts (dq p q c z).ts x p q c z (if(dq p q c z).ps.length=1 then 0 else 1-2*(i:Int)):=by
 intro i x;unfold eP at h0;unfold dq;split
 ·intro hx;simp at hx
 ·rename_i hd;split
  ·intro hx;simp at hx
  ·rename_i hn;split
   ·rename_i hX;intro hx
    match i,hx with
    |0,hx =>
     have hx:(cD p (bH p q c*iE (a7 p q)) (aE q p)).l=x:=Option.some.inj hx;subst hx;have hp:cP ts:=tw.pos;refine xQ (kG hp) hd (t:=0) ?_ ?_ ?_
     ·rw[cR,cR,ee];grind
     ·rw[cR,cR,ee];grind
     ·exact(du _ _ hp).zero
    |i+1,hx=>simp at hx
   ·rename_i hX
    have hX2:ak (aP p q c z)=1:=by
     rcases(du _ _ tw.pos).cs (aP p q c z)with g |g |g
     ·exact absurd g hn
     ·exact absurd g hX
     ·exact g
    have hX1:0<ak (aP p q c z):=by omega
    have hp:=ry tw.pos hX1;have L:=qB (aP p q c z) hp;have s1:=xS hX2;intro hx
    match i,hx with
    |0,hx =>
     have hx:(jI (aP p q c z) p (aE q p) (fi (aP p q c z) (a7 p q) (aI (aP p q c z) (bH p q c)+bA (aP p q c z)))).l=x:=Option.some.inj hx;subst hx;refine xQ L hd (t:=bA (aP p q c z)) ?_ ?_ s1
     ·rw[ee];exact congrArg Prod.fst (uz (aP p q c z) p q c)
     ·rw[ee];exact congrArg Prod.snd (uz (aP p q c z) p q c)
    |1,hx =>
     have hx:(jI (aP p q c z) p (aE q p) (fi (aP p q c z) (a7 p q) (aI (aP p q c z) (bH p q c)-bA (aP p q c z)))).l=x:=Option.some.inj hx;subst hx;refine xQ L hd (t:=-bA (aP p q c z)) ?_ ?_ (by rw[v8 hp,s1];rfl)
     ·rw[ee,congrArg Prod.fst (wS (aP p q c z) p q c)];show aI _ _-_*aI _ _=aI _ _+-_*aI _ _;grind
     ·rw[ee,congrArg Prod.snd (wS (aP p q c z) p q c)];show aI _ _-_*aI _ _=aI _ _+-_*aI _ _;grind
    |i+2,hx=>simp at hx
end
def pinP(l:Li)(T:LL)(bs:List Pq)(j:Jt)(b:Int):P2 T:=if j.a=b then an l T bs j.b j.on else an l T bs j.a j.point
def cV(l:Li)(T:LL)(bs:List Pq)(g:Gr):Et T :=
  if g.kind=0 then qE 1
  else if g.kind=1 then f7 (aE (pinP l T bs (ah l g 1) (au g 1)) (pinP l T bs (ah l g 0) (au g 0))) (aE (a6 T (bs.getD (au g 0).toNat aS) (ai l (ah l g 2) (au g 0))) (pinP l T bs (ah l g 0) (au g 0)))
  else if g.kind=2 then co (aE (an l T bs (ah l g 1).b (ah l g 1).to) (an l T bs (ah l g 1).b (ah l g 1).on)) (aE (a6 T (bs.getD (au g 0).toNat aS) (aB l (au g 0) (ah l g 1).point)) (pinP l T bs (ah l g 0) (au g 0)))
  else co (aE (an l T bs (ah l g 1).b (ah l g 1).to) (an l T bs (ah l g 1).b (ah l g 1).on)) (aE (an l T bs (ah l g 1).a (ah l g 1).point) (pinP l T bs (ah l g 0) (au g 0)))
def iX(l:Li)(T:LL)(bs:List Pq)(g:Gr):Et T :=
  if g.kind=0 then qE 1
  else if g.kind=1 then bg (pinP l T bs (ah l g 0) (au g 0)) (qE (aZ (ai l (ah l g 2) (au g 0)) (ai l (ah l g 0) (au g 0)))) (pinP l T bs (ah l g 1) (au g 1)) (qE (aZ (ai l (ah l g 2) (au g 1)) (ai l (ah l g 1) (au g 1))))
  else if g.kind=2 then aP (an l T bs (ah l g 1).b (ah l g 1).on) (an l T bs (ah l g 1).b (ah l g 1).to) (pinP l T bs (ah l g 0) (au g 0)) (qE (aZ (aB l (au g 0) (ah l g 1).point) (ai l (ah l g 0) (au g 0))))
  else qE (fV l (au g 0) (ah l g 1))*co (aE (an l T bs (ah l g 1).a (ah l g 1).point) (pinP l T bs (ah l g 0) (au g 0))) (aE (an l T bs (ah l g 1).a (ah l g 1).point) (pinP l T bs (ah l g 0) (au g 0)))
    - qE (bV l (au g 0) (ah l g 0) (ah l g 1))*qE (bV l (au g 0) (ah l g 0) (ah l g 1))
theorem jT(l:Li)(a:As)(j:Jt)(b:Int):ax l a j b=pinP l (llq a.rs) (aC a) j b:=by
 unfold ax pinP;split
 ·exact eO l a _ _
 ·exact eO l a _ _
theorem mS(l:Li)(a:As)(g:Gr):gh l a g=iX l (llq a.rs) (aC a) g:=by
 unfold gh iX bX bS;simp only[jT,eO];rfl
def l7{T:LL}(k:Int)(d:Et T):Et T:=if k=1 then(d+d)*(d+d)else d*d
section
variable{ts T:LL}(L:Lf ts T)
include L
theorem Lf.pinP{l:Li}{bs bs':List Pq}{j:Jt}(b:Int)(ha:el bs bs' ts.length j.a)(hb:el bs bs' ts.length j.b) :
  aa L.pos (Lw.pinP l T bs' j b).1=aa L.pos (aq T (Lw.pinP l ts bs j b).1)/\aa L.pos (Lw.pinP l T bs' j b).2=aa L.pos (aq T (Lw.pinP l ts bs j b).2):=by
 unfold Lw.pinP;split
 ·exact L.pt l hb _
 ·exact L.pt l ha _
theorem Sk{l:Li}{bs bs':List Pq}{g:Gr}(h0:g.kind≠0->el bs bs' ts.length (ah l g 0).a/\el bs bs' ts.length (ah l g 0).b)(h1:g.kind≠0->el bs bs' ts.length (ah l g 1).a/\el bs bs' ts.length (ah l g 1).b)
  (hb:g.kind≠0->el bs bs' ts.length (au g 0)):aa L.pos (cV l T bs' g)=aa L.pos (aq T (cV l ts bs g)):=by
 unfold cV
 by_cases k0:g.kind=0
 ·rw[if_pos k0,if_pos k0,L.q]
 ·rw[if_neg k0,if_neg k0];have p0:=L.pinP (l:=l) (au g 0) (h0 k0).1 (h0 k0).2;have p1:=L.pinP (l:=l) (au g 1) (h1 k0).1 (h1 k0).2
  have own:∀m,aa L.pos (a6 T (bs'.getD (au g 0).toNat aS) m).1=aa L.pos (aq T (a6 ts (bs.getD (au g 0).toNat aS) m).1)/\aa L.pos (a6 T (bs'.getD (au g 0).toNat aS) m).2=aa L.pos (aq T (a6 ts (bs.getD (au g 0).toNat aS) m).2):=by
   intro m;rw[(hb k0).1];exact L.at (hb k0).2 m
  have qa:=fun pt=>L.pt l (h1 k0).1 pt
  have qb:=fun pt=>L.pt l (h1 k0).2 pt
  by_cases k1:g.kind=1
  ·rw[if_pos k1,if_pos k1];unfold f7 crsE aE;dsimp only;simp only[L.sub,L.mul,bp,ba];rw[p0.1,p0.2,p1.1,p1.2,(own _).1,(own _).2]
  ·rw[if_neg k1,if_neg k1]
   by_cases k2:g.kind=2
   ·rw[if_pos k2,if_pos k2];unfold co dotE aE;dsimp only;simp only[L.sub,L.mul,L.add,bp,ba,cC];rw[p0.1,p0.2,(own _).1,(own _).2,(qb _).1,(qb _).2,(qb _).1,(qb _).2]
   ·rw[if_neg k2,if_neg k2];unfold co dotE aE;dsimp only;simp only[L.sub,L.mul,L.add,bp,ba,cC];rw[p0.1,p0.2,(qa _).1,(qa _).2,(qb _).1,(qb _).2,(qb _).1,(qb _).2]
theorem pY{l:Li}{bs bs':List Pq}{g:Gr}(p0:g.kind≠0->aa L.pos (Lw.pinP l T bs' (ah l g 0) (au g 0)).1=aa L.pos (aq T (Lw.pinP l ts bs (ah l g 0) (au g 0)).1)/\aa L.pos (Lw.pinP l T bs' (ah l g 0) (au g 0)).2=aa L.pos (aq T (Lw.pinP l ts bs (ah l g 0) (au g 0)).2))
  (p1:g.kind=1->aa L.pos (Lw.pinP l T bs' (ah l g 1) (au g 1)).1=aa L.pos (aq T (Lw.pinP l ts bs (ah l g 1) (au g 1)).1)/\aa L.pos (Lw.pinP l T bs' (ah l g 1) (au g 1)).2=aa L.pos (aq T (Lw.pinP l ts bs (ah l g 1) (au g 1)).2))
  (hb:g.kind=2->∀pt,aa L.pos (an l T bs' (ah l g 1).b pt).1=aa L.pos (aq T (an l ts bs (ah l g 1).b pt).1)/\aa L.pos (an l T bs' (ah l g 1).b pt).2=aa L.pos (aq T (an l ts bs (ah l g 1).b pt).2))
  (ha:g.kind≠0->g.kind≠1->g.kind≠2->∀pt,aa L.pos (an l T bs' (ah l g 1).a pt).1=aa L.pos (aq T (an l ts bs (ah l g 1).a pt).1)/\aa L.pos (an l T bs' (ah l g 1).a pt).2=aa L.pos (aq T (an l ts bs (ah l g 1).a pt).2)) :
  aa L.pos (iX l T bs' g)=aa L.pos (aq T (iX l ts bs g)):=by
 unfold iX
 by_cases k0:g.kind=0
 ·rw[if_pos k0,if_pos k0,L.q]
 ·rw[if_neg k0,if_neg k0];have p0:=p0 k0
  by_cases k1:g.kind=1
  ·rw[if_pos k1,if_pos k1];have p1:=p1 k1;unfold bg az co dotE aE;dsimp only;simp only[L.sub,L.mul,L.add,L.q,bp,ba,cC];rw[p0.1,p0.2,p1.1,p1.2]
  ·rw[if_neg k1,if_neg k1]
   by_cases k2:g.kind=2
   ·rw[if_pos k2,if_pos k2];have qb:=hb k2;unfold aP a7 gU co dotE f7 crsE aE;dsimp only;simp only[L.sub,L.mul,L.add,L.q,bp,ba,cC];rw[p0.1,p0.2,(qb _).1,(qb _).2,(qb _).1,(qb _).2]
   ·rw[if_neg k2,if_neg k2];have qa:=ha k0 k1 k2;unfold co dotE aE;dsimp only;simp only[L.sub,L.mul,L.add,L.q,bp,ba,cC];rw[p0.1,p0.2,(qa _).1,(qa _).2]
end
end Go.Lw
namespace Go.Lw
open Lean.Grind (CommRing)
section
variable{R:Type}[CommRing R]
theorem N4(p1 p2 q1 q2 x y:R) :
  (((q1-p1)*(y-p2)-(q2-p2)*(x-p1))+((q1-p1)*(y-p2)-(q2-p2)*(x-p1)))*(((q1-p1)*(y-p2)-(q2-p2)*(x-p1))+((q1-p1)*(y-p2)-(q2-p2)*(x-p1))) =
  4*(((x-p1)*(x-p1)+(y-p2)*(y-p2))*((p1-q1)*(p1-q1)+(p2-q2)*(p2-q2)))
   - ((((x-p1)*(x-p1)+(y-p2)*(y-p2))+((p1-q1)*(p1-q1)+(p2-q2)*(p2-q2)))-((x-q1)*(x-q1)+(y-q2)*(y-q2)))
    * ((((x-p1)*(x-p1)+(y-p2)*(y-p2))+((p1-q1)*(p1-q1)+(p2-q2)*(p2-q2)))-((x-q1)*(x-q1)+(y-q2)*(y-q2))):=by grind
theorem EU(a b u v:R):(a*u+b*v)*(a*u+b*v)=(a*a+b*b)*(u*u+v*v)-(a*v-b*u)*(a*v-b*u):=by grind
theorem Sx{p1 p2 q1 q2 c1 c2 x y:R}(h0:(q1-p1)*(y-p2)-(q2-p2)*(x-p1)=0) :
  ((q1-p1)*(x-c1)+(q2-p2)*(y-c2))*((q1-p1)*(x-c1)+(q2-p2)*(y-c2)) =
  ((q1-p1)*(q1-p1)+(q2-p2)*(q2-p2))*((x-c1)*(x-c1)+(y-c2)*(y-c2))-((q1-p1)*(c2-p2)-(q2-p2)*(c1-p1))*((q1-p1)*(c2-p2)-(q2-p2)*(c1-p1)):=by
 have e:(q1-p1)*(c2-p2)-(q2-p2)*(c1-p1)=-((q1-p1)*(y-c2)-(q2-p2)*(x-c1)):=by grind
 rw[EU,e];generalize(q1-p1)*(y-c2)-(q2-p2)*(x-c1)=k;clear h0 e;grind
theorem Ve{C S u v:R}(h:C*C+S*S=1):(C*u-S*v)*(C*u-S*v)+(S*u+C*v)*(S*u+C*v)=u*u+v*v:=by
 have e:(C*u-S*v)*(C*u-S*v)+(S*u+C*v)*(S*u+C*v)=(C*C+S*S)*(u*u+v*v):=by clear h;grind
 rw[e,h];grind
theorem Ks{C S u v a b:R}(h:C*C+S*S=1):(C*u-S*v)*(S*a+C*b)-(S*u+C*v)*(C*a-S*b)=u*b-v*a:=by
 have e:(C*u-S*v)*(S*a+C*b)-(S*u+C*v)*(C*a-S*b)=(C*C+S*S)*(u*b-v*a):=by clear h;grind
 rw[e,h];grind
end
section
variable{T:LL}(hp:cP T){p:Pq}
include hp
theorem Ei(hc:CH T p):aa hp (dE T p.c)*aa hp (dE T p.c)+aa hp (dE T p.s)*aa hp (dE T p.s)=1:=by
 have h9:=(et hp).2 hc;rw[bp,cC,ba,ba,Ck]at h9;grind
theorem tM(m n:Rat×Rat):aa hp (a6 T p n).1-aa hp (a6 T p m).1=aa hp (dE T p.c)*aa hp (qE (n.1-m.1))-aa hp (dE T p.s)*aa hp (qE (n.2-m.2)) /\
  aa hp (a6 T p n).2-aa hp (a6 T p m).2=aa hp (dE T p.s)*aa hp (qE (n.1-m.1))+aa hp (dE T p.c)*aa hp (qE (n.2-m.2)):=by
 unfold a6;dsimp only;rw[kj,kj];simp only[cC,bp,ba];constructor <;> grind
theorem rW(hc:CH T p)(m n:Rat×Rat):(aa hp (a6 T p n).1-aa hp (a6 T p m).1)*(aa hp (a6 T p n).1-aa hp (a6 T p m).1)+(aa hp (a6 T p n).2-aa hp (a6 T p m).2)*(aa hp (a6 T p n).2-aa hp (a6 T p m).2)=aa hp (qE (aZ n m)):=by
 obtain⟨e1,e2⟩:=tM hp (p:=p) m n;rw[e1,e2,Ve (Ei hp hc)];unfold aZ bJ bw;dsimp only;rw[lc,fH,fH,cC,ba,ba]
theorem Kb(hc:CH T p)(m n k:Rat×Rat):(aa hp (a6 T p n).1-aa hp (a6 T p m).1)*(aa hp (a6 T p m).2-aa hp (a6 T p k).2)-(aa hp (a6 T p n).2-aa hp (a6 T p m).2)*(aa hp (a6 T p m).1-aa hp (a6 T p k).1)=aa hp (qE (p4 (bw n m) (bw m k))):=by
 obtain⟨e1,e2⟩:=tM hp (p:=p) m n;obtain⟨e3,e4⟩:=tM hp (p:=p) k m
 have en:(qE (p4 (bw n m) (bw m k)):Et T)=qE (n.1-m.1)*qE (m.2-k.2)-qE (n.2-m.2)*qE (m.1-k.1):=by
  rw[<- fH,<- fH,<- kj];rfl
 rw[e1,e2,e3,e4,Ks (Ei hp hc),en,bp,ba,ba]
end
theorem iN{l:Li}{T:LL}(hp:cP T){bs:List Pq}{j:Jt}{i:Int}(hk:j.kind=0)(tie:j.a=i\/j.b=i)(h:JH l T bs j) :
  aa hp (a6 T (bs.getD i.toNat aS) (ai l j i)).1=aa hp (pinP l T bs j i).1/\aa hp (a6 T (bs.getD i.toNat aS) (ai l j i)).2=aa hp (pinP l T bs j i).2:=by
 have e:=Er hp hk h;unfold ai pinP
 by_cases e1:j.a=i
 ·rw[if_pos e1,if_pos e1];unfold an at e ⊢;rw[e1]at e;exact e
 ·have e2:j.b=i:=tie.resolve_left e1;rw[if_neg e1,if_neg e1];unfold an at e ⊢;rw[e2]at e;exact⟨e.1.symm,e.2.symm⟩
theorem gy{l:Li}{kd z i:Int}{bs:List Int}{j:Jt}(t:TieO l kd bs z i j):j.a=i\/j.b=i:=by
 rcases t.tie with⟨e,_⟩ |⟨e,_⟩
 ·exact .inl e
 ·exact .inr e
section
variable{l:Li}{T:LL}{bs:List Pq}{g:Gr}
theorem vK(h:g.kind=1):cV l T bs g=f7 (aE (pinP l T bs (ah l g 1) (au g 1)) (pinP l T bs (ah l g 0) (au g 0))) (aE (a6 T (bs.getD (au g 0).toNat aS) (ai l (ah l g 2) (au g 0))) (pinP l T bs (ah l g 0) (au g 0))):=by
 unfold cV;rw[if_neg oz,if_pos h]
theorem vF(h:g.kind=2):cV l T bs g=co (aE (an l T bs (ah l g 1).b (ah l g 1).to) (an l T bs (ah l g 1).b (ah l g 1).on)) (aE (a6 T (bs.getD (au g 0).toNat aS) (aB l (au g 0) (ah l g 1).point)) (pinP l T bs (ah l g 0) (au g 0))):=by
 unfold cV;rw[if_neg oz,if_neg oz,if_pos h]
theorem vl(h:g.kind=3):cV l T bs g=co (aE (an l T bs (ah l g 1).b (ah l g 1).to) (an l T bs (ah l g 1).b (ah l g 1).on)) (aE (an l T bs (ah l g 1).a (ah l g 1).point) (pinP l T bs (ah l g 0) (au g 0))):=by
 unfold cV;rw[if_neg oz,if_neg oz,if_neg oz]
theorem G2(h:g.kind=1):iX l T bs g=bg (pinP l T bs (ah l g 0) (au g 0)) (qE (aZ (ai l (ah l g 2) (au g 0)) (ai l (ah l g 0) (au g 0)))) (pinP l T bs (ah l g 1) (au g 1)) (qE (aZ (ai l (ah l g 2) (au g 1)) (ai l (ah l g 1) (au g 1)))):=by
 unfold iX;rw[if_neg oz,if_pos h]
theorem GZ(h:g.kind=2):iX l T bs g=aP (an l T bs (ah l g 1).b (ah l g 1).on) (an l T bs (ah l g 1).b (ah l g 1).to) (pinP l T bs (ah l g 0) (au g 0)) (qE (aZ (aB l (au g 0) (ah l g 1).point) (ai l (ah l g 0) (au g 0)))):=by
 unfold iX;rw[if_neg oz,if_neg oz,if_pos h]
theorem DU(h:g.kind=3):iX l T bs g=qE (fV l (au g 0) (ah l g 1))*co (aE (an l T bs (ah l g 1).a (ah l g 1).point) (pinP l T bs (ah l g 0) (au g 0))) (aE (an l T bs (ah l g 1).a (ah l g 1).point) (pinP l T bs (ah l g 0) (au g 0)))
  - qE (bV l (au g 0) (ah l g 0) (ah l g 1))*qE (bV l (au g 0) (ah l g 0) (ah l g 1)):=by
 unfold iX;rw[if_neg oz,if_neg oz,if_neg oz]
end
section
variable{l:Li}{T:LL}(hp:cP T){bs:List Pq}
include hp
theorem uS{i k z0 z1:Int}{j0 j1 j2:Jt}(t0:TieO l 0 [i,k] z0 i j0)(t1:TieO l 0 [i,k] z1 k j1)(ne:i≠k)(kd:j2.kind=0)(tie:(j2.a=i/\j2.b=k)\/(j2.b=i/\j2.a=k))
  (h0:JH l T bs j0) (h1:JH l T bs j1) (h2:JH l T bs j2) (c0:CH T (bs.getD i.toNat aS)) (c1:CH T (bs.getD k.toNat aS)) {x:P2 T} (hx:x=a6 T (bs.getD i.toNat aS) (ai l j2 i)) :
  (aa hp x.1=aa hp (a6 T (bs.getD k.toNat aS) (ai l j2 k)).1/\aa hp x.2=aa hp (a6 T (bs.getD k.toNat aS) (ai l j2 k)).2) /\
  ((aa hp x.1-aa hp (pinP l T bs j0 i).1)*(aa hp x.1-aa hp (pinP l T bs j0 i).1)+(aa hp x.2-aa hp (pinP l T bs j0 i).2)*(aa hp x.2-aa hp (pinP l T bs j0 i).2)=aa hp (qE (aZ (ai l j2 i) (ai l j0 i)))) /\
  ((aa hp x.1-aa hp (pinP l T bs j1 k).1)*(aa hp x.1-aa hp (pinP l T bs j1 k).1)+(aa hp x.2-aa hp (pinP l T bs j1 k).2)*(aa hp x.2-aa hp (pinP l T bs j1 k).2)=aa hp (qE (aZ (ai l j2 k) (ai l j1 k)))):=by
 have o0:=iN hp t0.kd (gy t0) h0;have o1:=iN hp t1.kd (gy t1) h1
 have e:aa hp x.1=aa hp (a6 T (bs.getD k.toNat aS) (ai l j2 k)).1/\aa hp x.2=aa hp (a6 T (bs.getD k.toNat aS) (ai l j2 k)).2:=by
  have e:=Er hp kd h2;unfold an at e;rcases tie with⟨ea,eb⟩ |⟨eb,ea⟩
  ·have q0 : ai l j2 i = aB l i j2.point := by unfold ai; rw [if_pos ea]
   have q1:ai l j2 k=aB l k j2.on:=by unfold ai;rw[if_neg oz]
   rw[ea,eb]at e;rw[hx,q0,q1];exact e
  ·have q0 : ai l j2 i = aB l i j2.on := by unfold ai; rw [if_neg oz]
   have q1:ai l j2 k=aB l k j2.point:=by unfold ai;rw[if_pos ea]
   rw[ea,eb]at e;rw[hx,q0,q1];exact⟨e.1.symm,e.2.symm⟩
 have d0:=rW hp c0 (ai l j0 i) (ai l j2 i);have d1:=rW hp c1 (ai l j1 k) (ai l j2 k);rw[<- hx,o0.1,o0.2]at d0;rw[<- e.1,<- e.2,o1.1,o1.2]at d1;exact⟨e,d0,d1⟩
theorem zT{i z0 z1:Int}{j0 j:Jt}(t0:TieO l 0 [i] z0 i j0)(t1:TieO l 1 [i] z1 i j)(ha:j.a=i)(h0:JH l T bs j0)(h1:JH l T bs j)(c0:CH T (bs.getD i.toNat aS)){x:P2 T}(hx:x=a6 T (bs.getD i.toNat aS) (aB l i j.point)) :
  ((aa hp (an l T bs j.b j.to).1-aa hp (an l T bs j.b j.on).1)*(aa hp x.2-aa hp (an l T bs j.b j.on).2)-(aa hp (an l T bs j.b j.to).2-aa hp (an l T bs j.b j.on).2)*(aa hp x.1-aa hp (an l T bs j.b j.on).1)=0) /\
  ((aa hp x.1-aa hp (pinP l T bs j0 i).1)*(aa hp x.1-aa hp (pinP l T bs j0 i).1)+(aa hp x.2-aa hp (pinP l T bs j0 i).2)*(aa hp x.2-aa hp (pinP l T bs j0 i).2)=aa hp (qE (aZ (aB l i j.point) (ai l j0 i)))):=by
 have o0:=iN hp t0.kd (gy t0) h0;have s:=F1 hp (by rw[t1.kd];decide) h1;have ep:an l T bs j.a j.point=x:=by rw[hx,ha];rfl
 rw[ep]at s;have d0:=rW hp c0 (ai l j0 i) (aB l i j.point);rw[<- hx,o0.1,o0.2]at d0;exact⟨s,d0⟩
theorem xr{i z0 z1:Int}{j0 j:Jt}(t0:TieO l 0 [i] z0 i j0)(t1:TieO l 1 [i] z1 i j)(ha:j.a≠i)(h0:JH l T bs j0)(h1:JH l T bs j)(c0:CH T (bs.getD i.toNat aS)){w:Zq hp×Zq hp}(hw:w=(aa hp (an l T bs j.b j.to).1-aa hp (an l T bs j.b j.on).1,aa hp (an l T bs j.b j.to).2-aa hp (an l T bs j.b j.on).2)) :
  (w.1*w.1+w.2*w.2=aa hp (qE (fV l i j))) /\
  (w.1*(aa hp (an l T bs j.a j.point).2-aa hp (pinP l T bs j0 i).2)-w.2*(aa hp (an l T bs j.a j.point).1-aa hp (pinP l T bs j0 i).1)=aa hp (qE (bV l i j0 j))):=by
 have tb:j.b=i:=(gy t1).resolve_left ha;have o0:=iN hp t0.kd (gy t0) h0;have s:=F1 hp (by rw[t1.kd];decide) h1;have eto:an l T bs j.b j.to=a6 T (bs.getD i.toNat aS) (aB l i j.to):=by unfold an;rw[tb]
 have eon:an l T bs j.b j.on=a6 T (bs.getD i.toNat aS) (aB l i j.on):=by unfold an;rw[tb]
 have d0:=rW hp c0 (aB l i j.on) (aB l i j.to);have r0:=Kb hp c0 (aB l i j.on) (aB l i j.to) (ai l j0 i);rw[o0.1,o0.2]at r0;rw[<- eto,<- eon]at d0 r0;refine⟨by rw[hw];exact d0,?_⟩;rw[hw];dsimp only;have e:aa hp (qE (bV l i j0 j))=aa hp (qE (p4 (bw (aB l i j.to) (aB l i j.on)) (bw (aB l i j.on) (ai l j0 i)))):=rfl;rw[e,<- r0];clear e r0 d0
 revert s
 generalize aa hp (an l T bs j.b j.to).1=a1;generalize aa hp (an l T bs j.b j.to).2=a2;generalize aa hp (an l T bs j.b j.on).1=b1;generalize aa hp (an l T bs j.b j.on).2=b2;generalize aa hp (an l T bs j.a j.point).1=u1;generalize aa hp (an l T bs j.a j.point).2=u2;generalize aa hp (pinP l T bs j0 i).1=v1;generalize aa hp (pinP l T bs j0 i).2=v2;clear eto eon o0;intro s;grind
theorem Ai{g:Gr}(hg:DyK l g)(js:∀z∈g.jo,JH l T bs (l.jo.getD z.toNat default))(cs:∀b∈g.bo,CH T (bs.getD b.toNat aS)):aa hp (l7 g.kind (cV l T bs g))=aa hp (iX l T bs g):=by
 cases hg with
 | @drv b z d j dr t d0 hd hb =>
  show aa hp ((qE 1:Et T)*qE 1)=aa hp (qE 1);have q1:(qE 1:Et T)=1:=rfl;rw[q1,show(1:Et T)*1=1 by grind]
 | @rrr i k z0 z1 z2 j0 j1 j2 ne t0 t1 h0 h2 kd tie =>
  have e0:ah l ⟨1,[i,k],[z0,z1,z2],0⟩ 0=j0:=ao t0.hj;have e1:ah l ⟨1,[i,k],[z0,z1,z2],0⟩ 1=j1:=ao t1.hj;have e2:ah l ⟨1,[i,k],[z0,z1,z2],0⟩ 2=j2:=ao h2;have b0:au ⟨1,[i,k],[z0,z1,z2],0⟩ 0=i:=rfl;have b1:au ⟨1,[i,k],[z0,z1,z2],0⟩ 1=k:=rfl;have y0:=js z0 (by simp);have y1:=js z1 (by simp);have y2:=js z2 (by simp);rw[ao t0.hj]at y0;rw[ao t1.hj]at y1;rw[ao h2]at y2;obtain⟨_,d0,d1⟩:=uS hp t0 t1 ne kd tie y0 y1 y2 (cs i (by simp)) (cs k (by simp)) rfl;show aa hp ((cV l T bs _+cV l T bs _)*(cV l T bs _+cV l T bs _))=_;rw[vK rfl,G2 rfl,e0,e1,e2,b0,b1,Ht (n8 hp) _ _ _ _ (mP (n8 hp) _ _),<- d0,<- d1];unfold f7 crsE aE;dsimp only;simp only[ba,cC,bp];exact N4 _ _ _ _ _ _
 | @pr i z0 z1 j0 j1 t0 t1 ha =>
  have e0:ah l ⟨2,[i],[z0,z1],0⟩ 0=j0:=ao t0.hj;have e1:ah l ⟨2,[i],[z0,z1],0⟩ 1=j1:=ao t1.hj;have b0:au ⟨2,[i],[z0,z1],0⟩ 0=i:=rfl;have y0:=js z0 (by simp);have y1:=js z1 (by simp);rw[ao t0.hj]at y0;rw[ao t1.hj]at y1;obtain⟨s,d0⟩:=zT hp t0 t1 ha y0 y1 (cs i (by simp)) rfl;show aa hp (cV l T bs _*cV l T bs _)=_;rw[vF rfl,GZ rfl,e0,e1,b0];unfold aP a7 gU co dotE f7 crsE aE;dsimp only;simp only[ba,cC,bp];rw[<- d0];exact Sx s
 | @rp i z0 z1 j0 j1 t0 t1 ha =>
  have e0:ah l ⟨3,[i],[z0,z1],0⟩ 0=j0:=ao t0.hj;have e1:ah l ⟨3,[i],[z0,z1],0⟩ 1=j1:=ao t1.hj;have b0:au ⟨3,[i],[z0,z1],0⟩ 0=i:=rfl;have y0:=js z0 (by simp);have y1:=js z1 (by simp);rw[ao t0.hj]at y0;rw[ao t1.hj]at y1;obtain⟨d0,d1⟩:=xr hp t0 t1 ha y0 y1 (cs i (by simp)) rfl;show aa hp (cV l T bs _*cV l T bs _)=_;rw[vl rfl,DU rfl,e0,e1,b0];unfold co dotE aE;dsimp only at d0 d1 ⊢;simp only[ba,cC,bp];rw[<- d0,<- d1];exact EU _ _ _ _
end
end Go.Lw
namespace Go.Lw
open Go.Proofs
section
variable{P:Program}{N:Nat}{R:Array Oper}{s:AS}{pos:String}{after:Array Edge}
end
def JF(F:Int->Bool)(sg:Bool)(f:Sv->List Aq×Nat)(S:List Sv)(i:Nat)(c:List Aq):Prop :=
  i<=S.length/\rA F sg f S=(c++(rA F sg f (S.drop i)).1,(rA F sg f (S.drop i)).2)
section
variable{F:Int->Bool}{sg:Bool}{f:Sv->List Aq×Nat}{S:List Sv}{i:Nat}{c:List Aq}(h:JF F sg f S i c){s:Sv}(hs:S[i]?=some s)
include h hs
end
variable{P:Program}{N:Nat}{R:Array Oper}{s:AS}{pos:String}{after:Array Edge}
end Go.Lw
namespace Go.Lw
open Go.Proofs
theorem qF(i:Int)(n:Nat):FP 227 [i64 i,i64 n] (bl (bD i n)):=by
 refine aj func227 ?_;refine af ?_;exact congrArg bl (BV i n)
theorem Ug(p q:Mk)(hp:p.ok)(hq:q.ok):FP 228 [p.av,q.av] (bl (decide (p.x.q=q.x.q/\p.y.q=q.y.q))):=by
 refine aj func228 ?_;refine gc (BS p.x q.x hp.x hq.x ((hp.qx.sub hq.qx).qs oz)) ?_;refine bT (fun _=>(BS p.y q.y hp.y hq.y ((hp.qy.sub hq.qy).qs oz))) ?_;refine af ?_;exact congrArg bl TH
theorem SJ(b:Bd)(hbo:b.ok):FP 226 [b.av] (i64 (if 8<b.pts.length then 4 else fm b.pts.length (eg b.pts):Nat)):=by
 have hll:=hbo.ll;refine aj func226 ?_;refine gl ?_;refine gC (fun t9=>?_) (fun t9=>?_)
 ·have h0:8<b.pts.length:=jy t9;refine af ?_;rw[if_pos h0];rfl
 have h0:b.pts.length<=8:=j9 t9;have e0:(if 8<b.pts.length then 4 else fm b.pts.length (eg b.pts):Nat)=fm b.pts.length (eg b.pts):=if_neg oz;refine a5 [1] [1] (fun(p:Nat)=>[(3,some (i64 p))]) (fun _=>[]) (fun p=>p<=b.pts.length/\∀j,j<p->eg b.pts j=0) (fun p=>b.pts.length-p) 0 ⟨zero_le _,fun j h=>by omega⟩ ?_;rintro p ⟨hp,hpj⟩ K1 J1;refine gl ?_;refine gC (fun t14=>?_) (fun t14=>?_)
 ·have hpn:=bn t14;obtain⟨m,hm⟩:=aG hpn;have hmd:b.pts.getD p default=m:=ao hm;have hmm:=mem_of_getElem? hm;have hmdup:=mC Mk.name hm;have hmo:=hbo.pts m hmm;refine gi (aN hm) ?_;refine gc (sC m.name (hbo.names m hmm)) ?_;refine gC (fun t25=>?_) (fun t25=>?_)
  ·have h4:=dH t25;have e2:eg b.pts p = 5:=by unfold eg; rw [hmd,if_pos h4]
   refine af ?_;rw[e0,er hpn hpj (by rw[e2];decide),e2];rfl
  have h4:=dC t25;refine a5 [1,3,4] [1,4] (fun(q:Nat)=>[(5,some (i64 q))]) (fun _=>[]) (fun q=>q<=p/\(b.pts.take q).any (fun y=>dS y.name m.name)=false) (fun q=>p-q) 0 ⟨zero_le _,rfl⟩ ?_;rintro q ⟨hq,hqd⟩ K2 J2;refine gC (fun t28=>?_) (fun t28=>?_)
  ·have hqn:=bn t28;obtain⟨y,hy⟩:∃y,b.pts[q]?=some y:=aG oz;refine gi (aN hy) ?_;refine gD ?_;refine gC (fun t39=>?_) (fun t39=>?_)
   ·have h5:dS y.name m.name = true:=t39;have e2:eg b.pts p = 6:=by unfold eg; rw [hmd,if_neg (by rw [h4]; decide),if_pos (by rw [hmdup]; exact lB hy hqn h5)]
    refine af ?_;rw[e0,er hpn hpj (by rw[e2];decide),e2];rfl
   have h5:dS y.name m.name=false:=t39;refine ga aW ?_;exact aT J2 (q+1) ⟨hqn,kK hy hqd h5⟩
  have hqn:=bE hq t28;subst hqn;have hmnd:¬gH (b.pts.map Mk.name) q=true:=by rw[hmdup,hqd];decide
  refine gc (om m.x hmo.x) ?_;refine bT (fun _=>(om m.y hmo.y)) ?_;refine gC (fun t49=>?_) (fun t49=>?_)
  ·have h6:=oR t49;have e2:eg b.pts q = 3:=by unfold eg; rw [hmd,if_neg (by rw [h4]; decide),if_neg hmnd,if_neg (by rintro ⟨g1,g2⟩; rcases h6 with g | g; (rw [g1] at g; cases g); (rw [g2] at g; cases g))]
   refine af ?_;rw[e0,er hpn hpj (by rw[e2];decide),e2];rfl
  have h6:=nH t49;have e2:eg b.pts q=0:=by unfold eg;rw[hmd,if_neg (by rw[h4];decide),if_neg hmnd,if_pos h6]
  refine ga aW ?_;exact aT J1 (q+1) ⟨hpn,fun j h9=>by rcases lt_or_ge j q with g |g;exact hpj j g;(have:j=q:=by omega);subst this;exact e2⟩
 have hpn:=bE hp t14;subst hpn;refine af ?_;rw[e0,mD hpj];rfl
theorem Pw(l:Li)(hl:l.ok):FP 112 [l.av] (i64 (iI l)):=by
 have hlb:=hl.lb;have e0:iI l=fm l.bo.length (eA l.bo):=rfl;refine aj func112 ?_;refine a5 [1] [1] (fun(i:Nat)=>[(3,some (i64 i))]) (fun _=>[]) (fun i=>i<=l.bo.length/\∀j,j<i->eA l.bo j=0) (fun i=>l.bo.length-i) 0 ⟨zero_le _,fun j h=>by omega⟩ ?_;rintro i ⟨hi,hj⟩ K1 J1;refine gl ?_;refine gC (fun t10=>?_) (fun t10=>?_)
 ·have hin:=bn t10;obtain⟨b,hb⟩:=aG hin;have hbd:l.bo.getD i default=b:=ao hb;have hbo:=hl.bo b (mem_of_getElem? hb);have hbdup:=mC Bd.name hb;refine gi (aN hb) ?_;refine gc (sC b.name hbo.name) ?_;refine gC (fun t20=>?_) (fun t20=>?_)
  ·have h1:=dH t20;have e1:eA l.bo i = 5:=by unfold eA; rw [hbd,if_pos h1]
   refine af ?_;rw[e0,er hin hj (by rw[e1];decide),e1];rfl
  have h1:=dC t20;refine a5 [1,3] [1] (fun(k:Nat)=>[(4,some (i64 k))]) (fun _=>[]) (fun k=>k<=i/\(l.bo.take k).any (fun y=>dS y.name b.name)=false) (fun k=>i-k) 0 ⟨zero_le _,rfl⟩ ?_;rintro k ⟨hk,hd⟩ K2 J2;refine gC (fun t23=>?_) (fun t23=>?_)
  ·have hkn:=bn t23;obtain⟨y,hy⟩:∃y,l.bo[k]?=some y:=aG oz;refine gi (aN hy) ?_;refine gi (aN hb) ?_;refine gD ?_;refine gC (fun t38=>?_) (fun t38=>?_)
   ·have h2:dS y.name b.name = true:=t38;have e1:eA l.bo i = 6:=by unfold eA; rw [hbd,if_neg (by rw [h1]; decide),if_pos (by rw [hbdup]; exact lB hy hkn h2)]
    refine af ?_;rw[e0,er hin hj (by rw[e1];decide),e1];rfl
   have h2:dS y.name b.name=false:=t38;refine ga aW ?_;exact aT J2 (k+1) ⟨hkn,kK hy hd h2⟩
  have hkn:=bE hk t23;subst hkn;have hnd:¬gH (l.bo.map Bd.name) k=true:=by rw[hbdup,hd];decide
  have e1:eA l.bo k=if 8<b.pts.length then 4 else fm b.pts.length (eg b.pts):=by unfold eA;rw[hbd,if_neg (by rw[h1];decide),if_neg hnd]
  refine gi (aN hb) ?_;refine gc (SJ b hbo) ?_;refine gC (fun t46=>?_) (fun t46=>?_)
  ·have h3:=hP t46;refine af ?_;rw[e0,er hin hj (by rw[e1];exact h3),e1]
  have h3:=gf t46;refine ga aW ?_;exact aT J1 (k+1) ⟨hin,fun j h9=>by rcases lt_or_ge j k with g |g;exact hj j g;(have:j=k:=by omega);subst this;exact e1.trans h3⟩
 have hin:=bE hi t10;subst hin;refine af ?_;rw[e0,mD hj];rfl
theorem SC(l:Li)(hl:l.ok)(i:Nat)(hi:i<l.jo.length)(h16:l.jo.length<=16):FP 113 [l.av,i64 i] (i64 (fT l i)):=by
 obtain⟨j,hjj⟩:=aG hi;have hbd:l.jo.getD i default=j:=ao hjj;have hbdup:=mC Jt.name hjj;refine aj func113 ?_;refine gi (aN hjj) ?_;refine gc (sC j.name (hl.jnames j (mem_of_getElem? hjj))) ?_;refine gC (fun t17=>?_) (fun t17=>?_)
 ·have h0:=dH t17;refine af ?_;unfold fT;rw[hbd,if_pos h0];rfl
 have h0:=dC t17;refine a5 [1,2,5] [2,5] (fun(k:Nat)=>[(6,some (i64 k))]) (fun _=>[]) (fun k=>k<=i/\(l.jo.take k).any (fun y=>dS y.name j.name)=false) (fun k=>i-k) 0 ⟨zero_le _,rfl⟩ ?_;rintro k ⟨hk,hd⟩ K1 J1;refine gC (fun t20=>?_) (fun t20=>?_)
 ·have hkn:=bn t20;obtain⟨y,hy⟩:∃y,l.jo[k]?=some y:=aG oz;refine gi (aN hy) ?_;refine gD ?_;refine gC (fun t31=>?_) (fun t31=>?_)
  ·have h2:dS y.name j.name=true:=t31;refine af ?_;unfold fT;rw[hbd,if_neg (by rw[h0];decide),if_pos (by rw[hbdup];exact lB hy hkn h2)];rfl
  have h2:dS y.name j.name=false:=t31;refine ga aW ?_;exact aT J1 (k+1) ⟨hkn,kK hy hd h2⟩
 have hkn:=bE hk t20;subst hkn;have hnd:¬gH (l.jo.map Jt.name) k=true:=by rw[hbdup,hd];decide
 have e1:fT l k=eF l j:=by unfold fT;rw[hbd,if_neg (by rw[h0];decide),if_neg hnd]
 refine gC (fun t39=>?_) (fun t39=>?_)
 ·have h1:=BF t39;refine af ?_;rw[e1];unfold eF;rw[if_pos h1];rfl
 have h1:=G5 t39;refine gl ?_;refine gc (qF j.a l.bo.length) ?_;refine cO ?_;refine bT (fun _=>(qF j.b l.bo.length)) ?_;refine gC (fun t55=>?_) (fun t55=>?_)
 ·have h2:=oR t55;refine af ?_;rw[e1];unfold eF;rw[if_neg h1,if_pos h2];rfl
 have h2:=nH t55;have h2n:¬(bD j.a l.bo.length=false\/bD j.b l.bo.length=false):=by rw[h2.1,h2.2];simp
 obtain⟨A,hA,pA,mA,zA0⟩:=oS h2.1;obtain⟨B,hB,pB,mB,zB0⟩:=oS h2.2;refine gC (fun t60=>?_) (fun t60=>?_)
 ·have h3:=cK t60;refine af ?_;rw[e1];unfold eF;rw[if_neg h1,if_neg h2n,if_pos h3];rfl
 have h3:=dj t60;refine gi (aN hA) ?_;refine gi (aN hB) ?_;refine gD ?_;refine gl ?_;refine gc (qF j.point A.pts.length) ?_;refine cO ?_;refine bT (fun _=>(qF j.on B.pts.length)) ?_;refine gC (fun t88=>?_) (fun t88=>?_)
 ·have h4:=oR t88;refine af ?_;rw[e1];unfold eF;rw[if_neg h1,if_neg h2n,if_neg h3,pA,pB,if_pos h4];rfl
 have h4:=nH t88;have h4n:¬(bD j.point A.pts.length=false\/bD j.on B.pts.length=false):=by rw[h4.1,h4.2];simp
 refine gC (fun t91=>?_) (fun t91=>?_)
 ·have h5:=cK t91;refine gC (fun t94=>?_) (fun t94=>?_)
  ·have h6:=tk t94;refine af ?_;rw[e1];unfold eF;rw[if_neg h1,if_neg h2n,if_neg h3,pA,pB,if_neg h4n,if_pos h5,if_pos h6];rfl
  have h6:=wB t94;refine af ?_;rw[e1];unfold eF;rw[if_neg h1,if_neg h2n,if_neg h3,pA,pB,if_neg h4n,if_pos h5,if_neg (by rw[h6];simp)];rfl
 have h5:=dj t91;refine gl ?_;refine gc (qF j.to B.pts.length) ?_;refine gC (fun t100=>?_) (fun t100=>?_)
 ·have h6:=dH t100;refine af ?_;rw[e1];unfold eF;rw[if_neg h1,if_neg h2n,if_neg h3,pA,pB,if_neg h4n,if_neg h5,if_pos h6];rfl
 have h6:=dC t100;obtain⟨m1,g1,d1,mm1,z1⟩:=qH h4.2;obtain⟨m2,g2,d2,mm2,z2⟩:=qH h6;have mo1:=(hl.bo B mB).pts m1 mm1;have mo2:=(hl.bo B mB).pts m2 mm2;refine gi (aN g1) ?_;refine gi (aN g2) ?_;refine gc (Ug m1 m2 mo1 mo2) ?_;refine gD ?_;refine gC (fun t111=>?_) (fun t111=>?_)
 ·have h7:=of_decide_eq_true t111;refine af ?_;rw[e1];unfold eF;rw[if_neg h1,if_neg h2n,if_neg h3,pA,pB,if_neg h4n,if_neg h5,if_neg (by rw[h6];decide),d1,d2,if_pos h7];rfl
 have h7:=of_decide_eq_false t111;refine af ?_;rw[e1];unfold eF;rw[if_neg h1,if_neg h2n,if_neg h3,pA,pB,if_neg h4n,if_neg h5,if_neg (by rw[h6];decide),d1,d2,if_neg h7];rfl
theorem Tb(l:Li)(hl:l.ok)(i:Nat)(hi:i<l.dv.length)(h2l:l.dv.length<=2):FP 114 [l.av,i64 i] (i64 (ek l i)):=by
 obtain⟨b,hb⟩:=aG hi;have hbd:l.dv.getD i default=b:=ao hb;have hbdup:=mC Dr.name hb;refine aj func114 ?_;refine gi (aN hb) ?_;refine gc (sC b.name (hl.dnames b (mem_of_getElem? hb))) ?_;refine gC (fun t16=>?_) (fun t16=>?_)
 ·have h1:=dH t16;refine af ?_;unfold ek;rw[hbd,if_pos h1];rfl
 have h1:=dC t16;refine a5 [1,2,5] [2,5] (fun(k:Nat)=>[(6,some (i64 k))]) (fun _=>[]) (fun k=>k<=i/\(l.dv.take k).any (fun y=>dS y.name b.name)=false) (fun k=>i-k) 0 ⟨zero_le _,rfl⟩ ?_;rintro k ⟨hk,hd⟩ K1 J1;refine gC (fun t19=>?_) (fun t19=>?_)
 ·have hkn:=bn t19;obtain⟨y,hy⟩:∃y,l.dv[k]?=some y:=aG oz;refine gi (aN hy) ?_;refine gD ?_;refine gC (fun t30=>?_) (fun t30=>?_)
  ·have h2:dS y.name b.name=true:=t30;refine af ?_;unfold ek;rw[hbd,if_neg (by rw[h1];decide),if_pos (by rw[hbdup];exact lB hy hkn h2)];rfl
  have h2:dS y.name b.name=false:=t30;refine ga aW ?_;exact aT J1 (k+1) ⟨hkn,kK hy hd h2⟩
 have hkn:=bE hk t19;subst hkn;have hnd:¬gH (l.dv.map Dr.name) k=true:=by rw[hbdup,hd];decide
 refine gl ?_;refine gc (qF b.body l.bo.length) ?_;refine gC (fun t37=>?_) (fun t37=>?_)
 ·have h3:=dH t37;refine af ?_;unfold ek;rw[hbd,if_neg (by rw[h1];decide),if_neg hnd,if_pos h3];rfl
 have h3:=dC t37;refine gC (fun t40=>?_) (fun t40=>?_)
 ·have h4:=cK t40;refine af ?_;unfold ek;rw[hbd,if_neg (by rw[h1];decide),if_neg hnd,if_neg (by rw[h3];decide),if_pos h4];rfl
 have h4:=dj t40;have e1:ek l k=if(l.dv.take k).any (fun d=>decide (d.body=b.body))=true then 6 else 0:=by unfold ek;rw[hbd,if_neg (by rw[h1];decide),if_neg hnd,if_neg (by rw[h3];decide),if_neg h4]
 refine a5 [1,2,5] [2,5] (fun(q:Nat)=>[(7,some (i64 q))]) (fun _=>[]) (fun q=>q<=k/\(l.dv.take q).any (fun d=>decide (d.body=b.body))=false) (fun q=>k-q) 0 ⟨zero_le _,rfl⟩ ?_;rintro q ⟨hq,hqd⟩ K2 J2;refine gC (fun t43=>?_) (fun t43=>?_)
 ·have hqn:=bn t43;obtain⟨y,hy⟩:∃y,l.dv[q]?=some y:=aG oz;refine gi (aN hy) ?_;refine gD ?_;refine gC (fun t54=>?_) (fun t54=>?_)
  ·have h5:decide (y.body=b.body)=true:=decide_eq_true (cK t54);refine af ?_;rw[e1,if_pos (lB hy hqn h5)];rfl
  have h5:decide (y.body=b.body)=false:=decide_eq_false (dj t54);refine ga aW ?_;exact aT J2 (q+1) ⟨hqn,kK hy hqd h5⟩
 have hqn:=bE hq t43;subst hqn;refine af ?_;rw[e1,hqd];rfl
theorem I8(l:Li)(hl:l.ok):FP 40 [l.av] (i64 (aO l)):=by
 have hlb:=hl.lb;refine aj func40 ?_;refine gc (sC l.name hl.name) ?_;refine gC (fun t11=>?_) (fun t11=>?_)
 ·have h1:=dH t11;refine af ?_;unfold aO;rw[if_pos h1];rfl
 have h1:=dC t11;refine gl ?_;refine gC (fun t15=>?_) (fun t15=>?_)
 ·have h2:=C4 t15;refine af ?_;unfold aO;rw[if_neg (by rw[h1];decide),if_pos h2];rfl
 have h2:=HZ t15;refine gl ?_;refine gC (fun t19=>?_) (fun t19=>?_)
 ·have h3:8<l.bo.length:=jy t19;refine af ?_;unfold aO;rw[if_neg (by rw[h1];decide),if_neg h2,if_pos h3];rfl
 have h3:l.bo.length<=8:=j9 t19;have e0:aO l=if iI l≠0 then iI l else if eU l≠0 then eU l else ir l:=by unfold aO;rw[if_neg (by rw[h1];decide),if_neg h2,if_neg oz]
 refine gc (Pw l hl) ?_;refine gC (fun t23=>?_) (fun t23=>?_)
 ·have h4:iI l≠0:=hP t23;refine af ?_;rw[e0,if_pos h4]
 have h4:iI l=0:=gf t23;refine gl ?_;refine gC (fun t28=>?_) (fun t28=>?_)
 ·have h5:16 < l.jo.length:=jy t28;have ej:eU l = 4:=by unfold eU; rw [if_pos h5]
  refine af ?_;rw[e0,if_neg (by rw[h4];simp),if_pos (by rw[ej];decide),ej];rfl
 have h5:l.jo.length<=16:=j9 t28;have ej:eU l=fm l.jo.length (fT l):=by unfold eU;rw[if_neg oz]
 refine a5 [1] [1] (fun(i:Nat)=>[(4,some (i64 i))]) (fun _=>[]) (fun i=>i<=l.jo.length/\∀j,j<i->fT l j=0) (fun i=>l.jo.length-i) 0 ⟨zero_le _,fun j h=>by omega⟩ ?_;rintro i ⟨hi,hj⟩ K1 J1;refine gl ?_;refine gC (fun t33=>?_) (fun t33=>?_)
 ·have hin:=bn t33;refine gc (SC l hl i hin h5) ?_;refine gC (fun t40=>?_) (fun t40=>?_)
  ·have h6:=hP t40;refine af ?_;rw[e0,if_neg (by rw[h4];simp),if_pos (by rw[ej,er hin hj h6];exact h6),ej,er hin hj h6]
  have h6:=gf t40;refine ga aW ?_;exact aT J1 (i+1) ⟨hin,fun j h9=>by rcases lt_or_ge j i with g |g;exact hj j g;(have:j=i:=by omega);subst this;exact h6⟩
 have hin:=bE hi t33;subst hin;have ejz:eU l=0:=ej.trans (mD hj);have e0':aO l=ir l:=by rw[e0,if_neg (by rw[h4];simp),if_neg (by rw[ejz];simp)]
 refine gl ?_;refine gC (fun t45=>?_) (fun t45=>?_)
 ·have h6:2<l.dv.length:=jy t45;refine af ?_;rw[e0'];unfold ir;rw[if_pos h6];rfl
 have h6:l.dv.length<=2:=j9 t45;have ed:ir l=fm l.dv.length (ek l):=by unfold ir;rw[if_neg oz]
 refine a5 [1] [1] (fun(k:Nat)=>[(6,some (i64 k))]) (fun _=>[]) (fun k=>k<=l.dv.length/\∀j,j<k->ek l j=0) (fun k=>l.dv.length-k) 0 ⟨zero_le _,fun j h=>by omega⟩ ?_;rintro k ⟨hk,hkj⟩ K2 J2;refine gl ?_;refine gC (fun t50=>?_) (fun t50=>?_)
 ·have hkn:=bn t50;refine gc (Tb l hl k hkn h6) ?_;refine gC (fun t57=>?_) (fun t57=>?_)
  ·have h7:=hP t57;refine af ?_;rw[e0',ed,er hkn hkj h7]
  have h7:=gf t57;refine ga aW ?_;exact aT J2 (k+1) ⟨hkn,fun j h9=>by rcases lt_or_ge j k with g |g;exact hkj j g;(have:j=k:=by omega);subst this;exact h7⟩
 have hkn:=bE hk t50;subst hkn;refine af ?_;rw[e0',ed,mD hkj];rfl
theorem zD(rs xs:List (List Rt))(w m:Nat)(hrs:fv rs)(hxs:fv xs)(hrl:rs.length<=100)(hxl:xs.length<=100):FP 132 [cq rs,i64 w,i64 m,.lst 1 (xs.map nR)] (bl (lE w m (rs++xs))):=by
 obtain⟨l,hl⟩:∃l,l=rs++xs:=⟨_,rfl⟩
 have hlo:fv l:=by rw[hl];exact hrs.app hxs
 have hll:l.length<=200:=by rw[hl,length_append];omega
 have hml:rs.map nR++xs.map nR=l.map nR:=by rw[hl,map_append]
 rw[<- hl];refine aj func132 ?_;refine gs (kE T35 rfl T67 rfl rfl rfl) ?_;refine gs (da (.tmp rfl) rfl rfl (.tmp rfl) T35 rfl T67 rfl rfl (by simp only[length_map];omega) rfl rfl) ?_;refine gs (nK (.tmp rfl) rfl (by simp) (.tmp rfl) T35 rfl T67 rfl rfl (by simp only[length_map];omega) rfl rfl) ?_;refine ge rfl ?_;refine a5 [1,2] [] (fun(i:Nat)=>[(18,some (.lst 1 (l.map nR))),(19,some (i64 l.length)),(20,some (i64 i))]) (fun _=>[]) (fun i=>i<=l.length/\(l.take i).all (lT w m)=true) (fun i=>l.length-i) 0 ⟨zero_le _,rfl⟩ ?_ (h1:=(.cons rfl (Sub.of (congrArg (AV.lst 1) hml)) (.cons rfl (Sub.int (by rw[nil_append,hml,length_map])) (.k .nil))));rintro i ⟨hi,hj⟩ K1 J1;refine gC (fun t21=>?_) (fun t21=>?_)
 ·have hin:=bn t21;obtain⟨x,hx⟩:=aG hin;have hxo:=hlo x (mem_of_getElem? hx);have hxl:=hxo.2;refine gi (aN hx) ?_;refine gl ?_;refine gC (fun t27=>?_) (fun t27=>?_)
  ·have h1:=jy t27;refine af ?_;rw[lE,mj hx (by unfold lT;rw[decide_eq_false oz];rfl)];rfl
  have h1:x.length<=m:=j9 t27;refine gl ?_;refine a5 [1,2,18,19,20,28,29] [] (fun(k:Nat)=>[(30,some (i64 k))]) (fun _=>[]) (fun k=>k<=x.length/\(x.take k).all (fun r=>decide (r.num.length<=w/\r.den.length<=w))=true) (fun k=>x.length-k) 0 ⟨zero_le _,rfl⟩ ?_;rintro k ⟨hk,hkj⟩ K2 J2;refine gC (fun t31=>?_) (fun t31=>?_)
  ·have hkn:=bn t31;obtain⟨r,hr⟩:=aG hkn;refine gi (aN hr) ?_;refine gl ?_;refine cO ?_;refine gC (fun t45=>?_) (fun t45=>?_)
   ·have h2:¬(r.num.length<=w/\r.den.length<=w):=KA t45;refine af ?_;rw[lE,mj hx (by unfold lT;rw[mj hr (decide_eq_false h2),Bool.and_false])];rfl
   have h2:r.num.length<=w/\r.den.length<=w:=KJ t45;refine ga aW ?_;exact aT J2 (k+1) ⟨hkn,ov hkj hr (decide_eq_true h2)⟩
  have hkn:=bE hk t31;refine ga aW ?_;exact aT J1 (i+1) ⟨hin,ov hj hx (by unfold lT;rw[decide_eq_true h1,oM hkn hkj];rfl)⟩
 have hin:=bE hi t21;refine af ?_;rw[lE,oM hin hj];rfl
theorem LD(rs xs:List (List Rt))(hrs:fv rs)(hxs:fv xs)(hrl:rs.length<=281474976710656)(hxl:xs.length<=100):FP 55 [cq rs,.lst 1 (xs.map nR)] (bl (kI rs xs)):=by
 refine aj func55 ?_;refine gl ?_;refine gC (fun t9=>?_) (fun t9=>?_)
 ·have h1:rs.length<=1\/(5<rs.length/\rs.length<=8):=PD t9;refine gc (zD rs xs 3 40 hrs hxs oz hxl) ?_;refine af ?_;unfold kI;rw[if_pos h1]
 have h1:¬(rs.length<=1\/(5<rs.length/\rs.length<=8)):=Ss t9;refine gC (fun t23=>?_) (fun t23=>?_)
 ·have h2 : rs.length = 2 := by have := cK t23; omega
  refine gc (zD rs xs 1 40 hrs hxs oz hxl) ?_;refine af ?_;unfold kI;rw[if_neg h1,if_pos h2]
 have h2:¬rs.length=2:=by have:=dj t23;omega
 refine gC (fun t29=>?_) (fun t29=>?_)
 ·have h3 : rs.length = 3 := by have := cK t29; omega
  refine gc (zD rs xs 1 4 hrs hxs oz hxl) ?_;refine af ?_;unfold kI;rw[if_neg h1,if_neg h2,if_pos h3]
 have h3:¬rs.length=3:=by have:=dj t29;omega
 refine af ?_;unfold kI;rw[if_neg h1,if_neg h2,if_neg h3];rfl
theorem RK(l:Li)(hl:l.okw):FP 56 [l.av] (bl (k9 l)):=by
 have hbl:=hl.lb;refine aj func56 ?_;refine gl ?_;refine a5 [1,8,9] [1] (fun(i:Nat)=>[(10,some (i64 i))]) (fun _=>[]) (fun i=>i<=l.bo.length/\(l.bo.take i).all nN=true) (fun i=>l.bo.length-i) 0 ⟨zero_le _,rfl⟩ ?_;rintro i ⟨hi,hj⟩ K1 J1;refine gC (fun t11=>?_) (fun t11=>?_)
 ·have hin:=bn t11;obtain⟨b,hb⟩:=aG hin;refine gi (aN hb) ?_;refine gl ?_;refine gC (fun t17=>?_) (fun t17=>?_)
  ·have h1:30<b.pts.length:=jy t17;refine af ?_;unfold k9;rw[mj hb (by unfold nN;rw[decide_eq_false oz];rfl)];rfl
  have h1:b.pts.length<=30:=j9 t17;refine gl ?_;refine a5 [1,8,9,10,19,20] [1] (fun(k:Nat)=>[(21,some (i64 k))]) (fun _=>[]) (fun k=>k<=b.pts.length/\(b.pts.take k).all kT=true) (fun k=>b.pts.length-k) 0 ⟨zero_le _,rfl⟩ ?_;rintro k ⟨hk,hkj⟩ K2 J2;refine gC (fun t22=>?_) (fun t22=>?_)
  ·have hkn:=bn t22;obtain⟨p,hp⟩:=aG hkn;refine gi (aN hp) ?_;refine gl ?_;refine cO ?_;refine cO ?_;refine cO ?_;refine gC (fun t50=>?_) (fun t50=>?_)
   ·have h2:kT p=false:=QE t50;refine af ?_;unfold k9;rw[mj hb (by unfold nN;rw[mj hp h2,Bool.and_false])];rfl
   have h2:kT p=true:=SG t50;refine ga aW ?_;exact aT J2 (k+1) ⟨hkn,ov hkj hp h2⟩
  have hkn:=bE hk t22;refine ga aW ?_;exact aT J1 (i+1) ⟨hin,ov hj hb (by unfold nN;rw[decide_eq_true h1,oM hkn hkj];rfl)⟩
 have hin:=bE hi t11;refine gl ?_;refine cO ?_;refine cO ?_;refine af ?_;exact congrArg bl (QD (oM hin hj))
theorem VL(l:Li)(ps:List Pse)(hl:l.okw)(hps:∀p∈ps,p.wok)(hpl:ps.length<=281474976710656):FP 14 [Ad l ps] (bl (p5 l ps)):=by
 refine aj func14 ?_;refine gl ?_;refine a5 [1,6,7] [1] (fun(i:Nat)=>[(8,some (i64 i))]) (fun _=>[]) (fun i=>i<=ps.length/\(ps.take i).all tG=true) (fun i=>ps.length-i) 0 ⟨zero_le _,rfl⟩ ?_;rintro i ⟨hi,hj⟩ K1 J1;refine gC (fun t9=>?_) (fun t9=>?_)
 ·have hin:=bn t9;obtain ⟨p,hp⟩:=aG hin;have hpo:=hps p (mem_of_getElem? hp);refine gi (aN hp) ?_;refine gc (Con.sA (.cons (Sub.agg (.cons (Sub.nil 1 none 0) .nil) rfl) (.cons (.refl _) .nil)) (LD [] [[p.turn.t,p.at_.x],[p.at_.y]] x8 hpo.rs (by show 0 <= _; omega) (by show 2 <= 100; omega))) ?_;refine gC (fun t26=>?_) (fun t26=>?_)
  ·have h1:=dH t26;refine af ?_;unfold p5;rw[mj hp h1];rfl
  have h1:=dC t26;refine ga aW ?_;exact aT J1 (i+1) ⟨hin,ov hj hp h1⟩
 have hin:=bE hi t9;refine gl ?_;refine bT (fun _=>(RK l hl)) ?_;refine af ?_;exact congrArg bl (Pi (oM hin hj))
section
variable{l:Li}{xs:List Tn}{s g:Nat}(W:WkC l xs s g){k:Nat}{gr:Gr}(hg:(splitG l)[k]?=some gr){j r E:Nat}{a:Aq}(Q:QInv l j r E a){n y:Nat}(ok:jN s g (n+1) y j r E=true)(hy:gr.kind≠0->0<y)
include W hg Q ok hy
theorem BX:∃F,F<=20000000000/\qQ F l k a.as false/\AB a.as/\(Lw.llq a.as.rs).length<=2/\(gr.kind≠0->F=3900000/\DyS a.as):=by
 obtain⟨⟨hE,hr,hj⟩,_⟩:=AG ok;have h3:(Lw.llq a.as.rs).length<=2:=by rw[a.llq];have:=Q.lv;omega
 have al:=Q.ab W.li (by omega:E<=50000000000) hr
 by_cases hk:gr.kind=0
 ·exact⟨E,hE,Q.sma oz (le_refl _) k false,al,h3,fun h=>absurd hk h⟩
 ·have hy:=hy hk;obtain ⟨y',rfl⟩:∃ y',y = y' + 1:=⟨y - 1,by omega⟩
  obtain⟨⟨hj,hE,hr,hX,hJ⟩,_⟩:=zi ok;exact⟨3900000,by omega,Q.sma oz hE k false,al,h3,fun _=>⟨rfl,QInv.dyS W hg Q hr hj⟩⟩
theorem GD:kp l k (fE gr xs) a.as=((fO l a.as gr (fE gr xs)).map Sv.av,sL l a.as gr (fE gr xs)):=by
 have _:=ok;have _:=hy;unfold kp;have hgA:eH l (k:Nat)=gr:=ao hg;rw[if_pos (Q.dy0 W.li W.sp hg false),hgA];exact Prod.ext (Uk _ _ _ _) rfl
theorem I0:FP 18 [l.av,i64 k,(fE gr xs).av,a.av] (.tup [.lst 3 ((fO l a.as gr (fE gr xs)).map Sv.av),cg (sL l a.as gr (fE gr xs))]):=by
 obtain⟨F,hF,hs,al,h3,hR⟩:=BX W hg Q ok hy;have hgA:eH l (k:Nat)=gr:=ao hg;have h:=A7 l W.hl k (W.tn hg).1 (W.tn hg).2.1 a.as al (fun _=>h3) hF hs (fun _ h=>hR (by rw[hgA]at h;exact h));rw[GD W hg Q ok hy,a.as_av]at h;exact h
end
structure SameJ(l' l:Li):Prop where
  j:l'.jo=l.jo
  d:l'.dv=l.dv
  b:l'.bo.length=l.bo.length
section
variable{l' l:Li}(h:SameJ l' l)
include h
theorem SameJ.jointI(kind body:Int)(oth:List Bool):jointI l' kind body oth=jointI l kind body oth:=by unfold Lw.jointI;rw[h.j]
theorem SameJ.freeB(k:List Bool)(i:Int):freeB l' k i=freeB l k i:=by unfold Lw.freeB o5;rw[h.d]
theorem SameJ.drHit(k:List Bool)(i:Nat):drHit l' k i=drHit l k i:=by unfold Lw.drHit;simp only[h.d,h.jointI]
theorem SameJ.driverG(k:List Bool):driverG l' k=driverG l k:=by unfold Lw.driverG;simp only[h.d,h.jointI,h.drHit]
theorem SameJ.prHit(k:List Bool)(i j:Nat):prHit l' k i j=prHit l k i j:=by unfold Lw.prHit;simp only[h.freeB,h.jointI,h.b]
theorem SameJ.prAt(k:List Bool)(i:Nat):prAt l' k i=prAt l k i:=by unfold Lw.prAt;simp only[h.prHit,h.b]
theorem SameJ.prG(k:List Bool)(i j:Nat):prG l' k i j=prG l k i j:=by unfold Lw.prG;simp only[h.jointI,h.b]
theorem SameJ.pairG(k:List Bool):pairG l' k=pairG l k:=by unfold Lw.pairG;simp only[h.prAt,h.prG,h.b]
theorem SameJ.sgHit(k:List Bool)(i:Nat):sgHit l' k i=sgHit l k i:=by unfold Lw.sgHit;simp only[h.freeB,h.jointI]
theorem SameJ.sgG(k:List Bool)(i:Nat):sgG l' k i=sgG l k i:=by unfold Lw.sgG;simp only[h.jointI,h.j]
theorem SameJ.singleG(k:List Bool):singleG l' k=singleG l k:=by
 unfold Lw.singleG;have e:Lw.sgG l' k=Lw.sgG l k:=funext (h.sgG k);simp only[h.sgHit,h.b,e]
theorem SameJ.nextG(k:List Bool):nextG l' k=nextG l k:=by unfold Lw.nextG;rw[h.driverG,h.pairG,h.singleG]
theorem SameJ.findFrom:∀(n:Nat)(k:List Bool)(out:List Gr),findFrom l' n k out=findFrom l n k out
 |0,k,out=>rfl
 |n+1,k,out=>by
  unfold Lw.findFrom;rw[h.nextG];cases Lw.nextG l k with
  |none=>rfl
  |some g=>exact SameJ.findFrom n _ _
theorem SameJ.findG:findG l'=findG l:=by unfold Lw.findG;rw[h.b,h.findFrom]
theorem SameJ.splitE:splitE l'=splitE l:=by unfold Lw.splitE cJ fg;rw[h.findG,h.b,h.j]
theorem SameJ.splitG:splitG l'=splitG l:=by unfold Lw.splitG;rw[h.splitE,h.findG]
end
def Jt.vs(j:Jt):List Value:=[.string j.name,.int .i64 j.kind,.int .i64 j.a,.int .i64 j.point,.int .i64 j.b,.int .i64 j.on,.int .i64 j.to]
def Dr.vs(d:Dr):List Value:=[.string d.name,.int .i64 d.body]
structure Gr.sm(g:Gr):Prop where
  b:g.bo.length<=100
  j:g.jo.length<=100
theorem Cv{l:Li}(hl:aO l=0):(∀g∈splitG l,g.sm)/\(splitG l).length<=100:=by
 refine⟨fun g hg=>?_,?_⟩
 ·obtain⟨_,ho⟩:=nV hl hg;have:=ho.lb;have:=ho.lj
  exact⟨by omega,by omega⟩
 ·unfold splitG;split
  ·have:=(tc hl).2;omega
  ·exact zero_le _
theorem Qu:FP 68 [.v .nilIface] (i64 0):=by
 refine aj func68 ?_;refine gC (fun t6=>?_) (fun t6=>?_) (st2:=(77777,0))
 ·refine af ?_
  first |rfl |(simp;done)
 cases t6
theorem Ny(n:Int):FP 68 [.v (.iface 60 (.int .i64 n))] (i64 n):=by
 refine aj func68 ?_;refine gC (fun t6=>?_) (fun t6=>?_) (st1:=(2,0));cases t6;refine gs (QH (.tmp rfl) T60 rfl rfl) ?_;refine gC (fun t13=>?_) (fun t13=>?_) (st1:=(5,0));cases t13;refine af ?_;rfl
theorem Vc(e:Nat):FP 68 [cg e] (i64 e):=by
 cases e with
 |zero=>exact Qu
 |succ e=>exact Ny _
open Lean.Grind (CommRing)
theorem F9:∀(zs:List (Int×Pq))(bs:List Pq)(b:Int),(∀z∈zs,0<=z.1/\z.1≠b)->0<=b->(zs.foldl (fun k x=>k.set x.1.toNat x.2) bs).getD b.toNat aS=bs.getD b.toNat aS
 |[],bs,b,h,h0=>rfl
 |z::zs,bs,b,h,h0=>by
  rw[List.foldl_cons,F9 zs _ b (fun y hy=>h y (mem_cons_of_mem _ hy)) h0];obtain⟨h1,h2⟩:=h z mem_cons_self;exact kf h1 h0 (Ne.symm h2)
theorem KL{bs:List Pq}{is:List Int}{ps:List Pq}{b:Int}(h:∀x∈is,0<=x)(hb:b∉is)(h0:0<=b):(a8 bs is ps).getD b.toNat aS=bs.getD b.toNat aS :=
 F9 _ _ b (fun z hz=>by
  have:=(List.of_mem_zip hz).1;exact⟨h _ this,fun e=>hb (e▸this)⟩) h0
theorem xj{n e:Nat}{a:List Rat}(h:Nm n e a):a.length<=2^n:=h.nl.le
theorem Pq.ok.nq{n e:Nat}{p:Pq}(h:Pq.ok n e p):Nq n p:=⟨xj h.c,xj h.s,xj h.x,xj h.y⟩
section
variable{l:Li}{xs:List Tn}{s g:Nat}(W:WkC l xs s g){gr:Gr}{a:Aq}(hg:(splitG l)[a.ms.length]?=some gr)
variable{j r E:Nat}(Q:QInv l j r E a)
include W hg Q
end
end Go.Lw
namespace Go.Lw
structure AqFin(l:Li)(xs:List Tn)(a:Aq):Prop where
  li:aO l=0
  lx:xs.length=l.dv.length
  xo:∀x∈xs,x.err=0/\Qb 1000 x.t.q/\x.t.ok
  tw:∃r,r<=400000000/\Tw a.ts r
  two:a.ts.length<=2
  bs:∀p∈a.bs,Pq.ok a.ts.length 3200000000 p
  ln:a.bs.length=l.bo.length
  lm:a.ms.length<=100
  js:∀j∈l.jo,JH l a.ts a.bs j
  cs:∀i,i<l.bo.length->CH a.ts (a.bs.getD i aS)
  dr:∀i d,l.dv[i]?=some d->dE a.ts (a.bs.getD d.body.toNat aS).c=qE (dM (xs.getD i ko).half (xs.getD i ko).t.q)/\dE a.ts (a.bs.getD d.body.toNat aS).s=qE (dP (xs.getD i ko).half (xs.getD i ko).t.q)
  fr:a.bs.getD 0 aS=Vl
end Go.Lw
