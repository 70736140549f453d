/- DyadHolds: for anything drawn and any group the law returns true and leaves its arguments as they were. No other condition. Part 7 of 8: what the later parts need -/
import Derived.Test.YtpdiojikejnehaaGreatXf
set_option linter.unusedVariables false
open List (mem_of_getElem? mem_cons_of_mem mem_cons length_cons mem_cons_self length_append length_nil getD_eq_getElem?_getD getElem?_map nil_append map_append length_take not_mem_nil length_map map_map length_set)
open Nat (le_refl lt_or_ge le_trans zero_le pow_add)
open Bool (and_eq_true or_eq_true)
open Int (toNat_natCast)
open Go.Proofs.Tryz
namespace Go.Lw
open Go.Proofs
def lV(l:Li)(a:As)(g:Gr):List Rat:=if g.kind=0 then sh 0 ((1:Int):Rat)else sX (fN l a g)
theorem lX{p q:Rat×Rat}(hp:Sm 1000 p)(hq:Sm 1000 q):Qz 310000 (aX p q) 3:=pc (P9 hp hq) oz
theorem QC{l:Li}{k:Int}{a:As}{E:Nat}(hop:FP 63 [l.av,i64 k,a.av,bl false] (.tup [.v (.pointer none),cq E]))(h0:E≠0)(L:List Rat) :
  FP 22 [l.av,i64 k,a.av] (.tup [nA (if E=0 then L else[]),cq E]):=by
 refine aj func22 ?_;refine gc (hop) ?_;refine gC (fun t27=>?_) (fun t27=>?_) (st2:=(77777,0))
 ·refine gR ?_;exact d7 (by rw[if_neg h0];exact Sub.tup (.cons (.nil _ _ _) (.cons (.refl _) .nil)))
 exact absurd (eH t27) h0
theorem MY{l:Li}{k:Int}{a:As}{n:Nat}{g:Gr}(hop:Con prog 63 [l.av,i64 k,a.av,bl false] [] (.tup [.ptr 900 0,.v .nilIface]) [(900,some (b8 l g a))])(D:DyR l a)(ok:DyOk 3900000 l k a false n g) :
  FP 22 [l.av,i64 k,a.av] (.tup [nA (lV l a g),.v .nilIface]):=by
 haveI c:=D.s.ct D.hc;have hgo:=ok.ok;have hbl:=D.al.bl;refine aj func22 ?_;refine gt (aI hop (.cons (.tmp rfl) (.cons (.tmp rfl) (.cons (.tmp rfl) (.cons (.const _) .nil)))) aL rfl rfl) ?_ (2,0);refine gW (Wk.o (sl:=[(5,some (.ptr 5 0)),(8,some (.ptr 900 0)),(9,some (.v .nilIface))]) (hp:=[(5,some (.box a.av.cells)),(900,some (b8 l g a))])) ?_;refine gC (fun t27=>?_) (fun t27=>?_) (st1:=(3,0)) (st2:=(5,0));cases t27;refine gW (Wk.o (sl:=[(5,some (.ptr 5 0)),(8,some (.ptr 900 0)),(10,some (.ptr 32 0))]) (hp:=[(5,some (.box a.av.cells)),(900,some (b8 l g a)),(32,some (df a.rs))])) ?_ (8,0);refine qu [10] [32] [(11,some (nA (sX (fN l a g))))] [] (g.kind≠0) ?_ ?_ 2
 ·intro K1 J1;refine gC (fun t43=>?_) (fun t43=>?_)
  ·have hk:g.kind=0:=cB t43;have hd:lV l a g=sh 0 ((1:Int):Rat):=if_pos hk;rw[hd];refine gc (GH) ?_;refine gR ?_;exact kP rfl
  have hk0:g.kind≠0:=cK t43;refine gC (fun t46=>?_) (fun t46=>?_)
  ·have hk:g.kind = 1:=cB t46;obtain ⟨i,k2,z0,z1,z2,j0,j1,j2,P⟩:=ok.rrr hk;have hE:=KA P;obtain rfl:=P.eq;have hq0:=eT D.hl D.li P.h0 (by rcases P.p0.tie with h9 | h9; exact .inl h9.1; exact .inr h9.2.1);have hq1:=eT D.hl D.li P.h1 (by rcases P.p1.tie with h9 | h9; exact .inl h9.1; exact .inr h9.2.1);have hq2:=eT D.hl D.li P.h2 P.t1;have hq3:=eT D.hl D.li P.h2 P.t2;rw [r5,r5] at hE;obtain ⟨y1,y2⟩:=kl D.hl D.li D.al D.s D.hc P.h0 P.p0;obtain ⟨y3,y4⟩:=kl D.hl D.li D.al D.s D.hc P.h1 P.p1;haveI:=y1; haveI:=y2; haveI:=y3; haveI:=y4
   haveI:=lX hq2 hq0;haveI:=lX hq3 hq1;have hr:=Ny (a:=sX (an l a j0 i).1) (b:=sX (an l a j0 i).2) (c:=sh 0 (aX (ah l j2 i) (ah l j0 i):Rat)) (a2:=sX (an l a j1 k2).1) (b2:=sX (an l a j1 k2).2) (c2:=sh 0 (aX (ah l j2 k2) (ah l j1 k2):Rat)) D.s.tr D.hc (sF _ _) (sF _ _);refine gt (aI (Con.rB 900 rfl rfl rfl rfl (zI D.hl D.li D.al D.hc D.two hgo P.h0 P.h1 P.h2 P.p0 P.p1 P.t1 P.t2)) (cJ rfl) aL rfl rfl) ?_;refine gc (pJ hq0 hq2 _) ?_;refine gc (pJ hq1 hq3 _) ?_;refine gc hr ?_;refine gt (aS (Con.rB 32 rfl rfl rfl rfl (lN _ _)) (aF rfl rfl rfl) rfl rfl rfl) ?_;refine gD ?_;exact iT J1 hk0 (hw:=Wk.of (.cons rfl (Sub.of (congrArg (fun z=>nA (sX z)) hE.symm)) (.k .nil)) (.k .nil))
  have hk1:g.kind≠1:=cK t46;refine gC (fun t73=>?_) (fun t73=>?_)
  ·have hk:g.kind = 2:=cB t73;obtain ⟨i,z0,z1,j0,j,P,ha,hb⟩:=ok.pr hk;have hE:=Jp P;obtain rfl:=P.eq;obtain ⟨i1,i2,i3,i4,i5⟩:=cH D.li P.h1;have hq:Sm 1000 (aB l i j.point):=by rw [<- ha]; exact iM D.hl D.li i1 i3
   have hq0:=eT D.hl D.li P.h0 (by rcases P.p0.tie with h9 |h9;exact .inl h9.1;exact .inr h9.2.1);rw[r5]at hE;obtain⟨y1,y2⟩:=kl D.hl D.li D.al D.s D.hc P.h0 P.p0;obtain⟨y3,y4⟩:=lG D.hl D.li D.al D.s D.hc i2 (i5 P.hk) hb;obtain⟨y7,y8⟩:=lG D.hl D.li D.al D.s D.hc i2 i4 hb;haveI:=y1;haveI:=y2;haveI:=y3;haveI:=y4;haveI:=y7;haveI:=y8
   haveI:=lX hq hq0;have s1:=yu (ts:=llq a.rs) (u:=310000) (k:=65000) (a:=sX (ax l a j.b j.to).1) (b:=sX (ax l a j.b j.to).2) (a2:=sX (ax l a j.b j.on).1) (b2:=sX (ax l a j.b j.on).2);have s2:=yu (ts:=llq a.rs) (u:=310000) (k:=65000) (a:=sX (an l a j0 i).1) (b:=sX (an l a j0 i).2) (a2:=sX (ax l a j.b j.on).1) (b2:=sX (ax l a j.b j.on).2);have s3:=Qj (ts:=llq a.rs) (u:=310000) (k:=65000) (a:=sX ((ax l a j.b j.to).1-(ax l a j.b j.on).1)) (b:=sX ((ax l a j.b j.to).2-(ax l a j.b j.on).2)) (a2:=sX ((an l a j0 i).1-(ax l a j.b j.on).1)) (b2:=sX ((an l a j0 i).2-(ax l a j.b j.on).2));have s4:=Fa (ts:=llq a.rs) (u:=310000) (k:=65000) (a:=sX ((ax l a j.b j.to).1-(ax l a j.b j.on).1)) (b:=sX ((ax l a j.b j.to).2-(ax l a j.b j.on).2)) (a2:=sX ((ax l a j.b j.to).1-(ax l a j.b j.on).1)) (b2:=sX ((ax l a j.b j.to).2-(ax l a j.b j.on).2));have m1:=wM (rs:=a.rs) (u:=310000) (k:=65000) (a:=sX (dotE ((ax l a j.b j.to).1-(ax l a j.b j.on).1) ((ax l a j.b j.to).2-(ax l a j.b j.on).2) ((ax l a j.b j.to).1-(ax l a j.b j.on).1) ((ax l a j.b j.to).2-(ax l a j.b j.on).2))) (b:=sh 0 (aX (aB l i j.point) (ah l j0 i):Rat)) D.s.tr D.hc;have m2:=wM (rs:=a.rs) (u:=310000) (k:=65000) (a:=sX (crsE ((ax l a j.b j.to).1-(ax l a j.b j.on).1) ((ax l a j.b j.to).2-(ax l a j.b j.on).2) ((an l a j0 i).1-(ax l a j.b j.on).1) ((an l a j0 i).2-(ax l a j.b j.on).2))) (b:=sX (crsE ((ax l a j.b j.to).1-(ax l a j.b j.on).1) ((ax l a j.b j.to).2-(ax l a j.b j.on).2) ((an l a j0 i).1-(ax l a j.b j.on).1) ((an l a j0 i).2-(ax l a j.b j.on).2))) D.s.tr D.hc
   have m3:=Dn (rs:=a.rs) (u:=310000) (k:=65000)
    (a:=sX (dotE ((ax l a j.b j.to).1-(ax l a j.b j.on).1) ((ax l a j.b j.to).2-(ax l a j.b j.on).2) ((ax l a j.b j.to).1-(ax l a j.b j.on).1) ((ax l a j.b j.to).2-(ax l a j.b j.on).2)*qE (aX (aB l i j.point) (ah l j0 i))))
    (b:=sX (crsE ((ax l a j.b j.to).1-(ax l a j.b j.on).1) ((ax l a j.b j.to).2-(ax l a j.b j.on).2) ((an l a j0 i).1-(ax l a j.b j.on).1) ((an l a j0 i).2-(ax l a j.b j.on).2)*crsE ((ax l a j.b j.to).1-(ax l a j.b j.on).1) ((ax l a j.b j.to).2-(ax l a j.b j.on).2) ((an l a j0 i).1-(ax l a j.b j.on).1) ((an l a j0 i).2-(ax l a j.b j.on).2))) D.s.tr D.hc
   rw[kH D.s.tr D.hc]at s1 s2 s3 s4;refine gt (aI (Con.rB 900 rfl rfl rfl rfl (xS D.hl D.li D.al D.hc D.two hgo P.h0 P.h1 P.p0 ha P.hk hb)) (cJ rfl) aL rfl rfl) ?_;refine gc s1 ?_;refine gt (aS (Con.rB 32 rfl rfl rfl rfl (kL _ _ _)) (aF rfl rfl rfl) rfl rfl rfl) ?_;refine gD ?_;refine gc s2 ?_;refine gt (aS (Con.rB 32 rfl rfl rfl rfl (kL _ _ _)) (aF rfl rfl rfl) rfl rfl rfl) ?_;refine gc s3 ?_;refine gt (aS (Con.rB 32 rfl rfl rfl rfl (lN _ _)) (aF rfl rfl rfl) rfl rfl rfl) ?_;refine gD ?_;refine gc s4 ?_;refine gt (aS (Con.rB 32 rfl rfl rfl rfl (lN _ _)) (aF rfl rfl rfl) rfl rfl rfl) ?_;refine gc (pJ hq0 hq _) ?_;refine gs (L9 (o:=2) (.tmp rfl) rfl (by kernel_rfl) rfl) ?_;refine gt (aS (Con.rB 32 rfl rfl rfl rfl m1) (aF rfl rfl rfl) rfl rfl rfl) ?_;refine gt (aS (Con.rB 32 rfl rfl rfl rfl m2) (aF rfl rfl rfl) rfl rfl rfl) ?_;refine gt (aS (Con.rB 32 rfl rfl rfl rfl m3) (aF rfl rfl rfl) rfl rfl rfl) ?_;refine gD ?_;exact iT J1 hk0 (hw:=Wk.of (.cons rfl (Sub.of (congrArg (fun z=>nA (sX z)) hE.symm)) (.k .nil)) (.k .nil))
  have hk2:g.kind≠2:=cK t73;obtain⟨i,z0,z1,j0,j,P,ha,hj,hb⟩:=ok.rp hk0 hk1 hk2;obtain⟨e0,e1,b0,_⟩:=P.at;have hE:fN l a g=qE (fJ l i j)*bZ l a i j0 j-qE (bV l i j0 j)*qE (bV l i j0 j):=by unfold fN;rw[if_neg hk0,if_neg hk1,if_neg hk2,e0,e1,b0]
  obtain rfl:=P.eq;obtain⟨i1,i2,i3,i4,i5⟩:=cH D.li P.h1;have hs0:Sm 1000 (ah l j0 i):=eT D.hl D.li P.h0 (by rcases P.p0.tie with h9 |h9;exact .inl h9.1;exact .inr h9.2.1);have hs1:Sm 1000 (aB l i j.on):=by rw[<- hj];exact iM D.hl D.li i2 i4
  have hs2:Sm 1000 (aB l i j.to):=by rw[<- hj];exact iM D.hl D.li i2 (i5 P.hk)
  have hv:Sm _ (cf l i j):=hs2.sub hs1;haveI:Qz 310000 (fJ l i j) 3:=pc (hv.dot hv) oz;haveI:Qz 310000 (bV l i j0 j) 3:=pc (hv.cross (hs1.sub hs0)) oz;obtain⟨w1,w2⟩:=zE D P.h0 P.p0 P.h1 hb;haveI:=w1;haveI:=w2
  haveI z3:Zu 310000 65000 (bZ l a i j0 j) _ _:=(inferInstance:Zu 310000 65000 (dotE (bR l a i j0 j).1 (bR l a i j0 j).2 (bR l a i j0 j).1 (bR l a i j0 j).2) _ _)
  have hrr:=I9 D (i:=i) (j0:=j0) (j:=j) (by decide);refine gt (aI (Con.rekeyBB 900 32 (by decide) (by decide) rfl rfl rfl rfl rfl rfl (Gv D hgo P.h0 P.h1 P.p0 hj P.hk hb)) (bO rfl rfl) aL rfl rfl) ?_;refine gt (aI (Con.rekeyB1 32 rfl rfl rfl rfl rfl hrr) (bO rfl rfl) aL rfl rfl) ?_;exact iT J1 hk0 (hw:=Wk.of (.cons rfl (Sub.of (congrArg (fun z=>nA (sX z)) hE.symm)) (.k .nil)) (.k .nil))
 rintro hk9;rw[show lV l a g=sX (fN l a g)from if_neg hk9];refine gC (fun t147=>?_) (fun t147=>?_) (st1:=(21,0));cases t147;refine gR ?_;exact kP rfl
theorem Gt(l:Li)(hl:l.ok)(k:Int)(a:As)(al:AB a)(S:DyS a)(hs:p7 3900000 l k a false) :
  FP 22 [l.av,i64 k,a.av] (.tup [nA (if et l k a false=0 then lV l a (el l k)else[]),cq (et l k a false)]):=by
 have hop:=A5 l hl k a al false
 by_cases h0:et l k a false=0
 ·obtain ⟨n, g, ok⟩:=vt hs h0;have hgA:el l k = g:=by unfold el; rw [ok.hk,toNat_natCast]; exact aw ok.hg
  rw[h0,hgA]at hop ⊢;exact MY hop ⟨⟨hl,ok.li,al,ok.chk⟩,S⟩ ok
 ·rw[pj h0,ow h0]at hop;exact QC hop h0 _
structure MtOk(ts:LL)(m:Mt):Prop where
  tw:∃r,Tw m.ts r/\kB r m.ts.length<=1101400000
  two:m.ts.length<=2
  ln:m.ps.length<=2
  ps:∀x∈m.ps,Nm m.ts.length 15500000000 x.1/\Nm m.ts.length 15500000000 x.2
  up:∀(e:Nat)(y:Et ts),Nm ts.length e (sX y)->Nm m.ts.length e (sX y)/\sX (dE m.ts (sX y))=sX y
theorem xV{ts:LL}(e:Nat)(y:Et ts)(h:Nm ts.length e (sX y)):Nm ts.length e (sX y)/\sX (dE ts (sX y))=sX y:=⟨h,congrArg (sh ts.length) (a5 _ _)⟩
theorem wz{ts:LL}{X:Et ts}(hn:ts.length<=1)(e:Nat)(y:Et ts)(h:Nm ts.length e (sX y)):Nm (aQ ts (sX X)).length e (sX y)/\sX (dE (aQ ts (sX X)) (sX y))=sX y:=by
 refine⟨mr h oz,?_⟩;show sh (aQ ts (sX X)).length (ac (aQ ts (sX X)).length (sX y))=sX y;rw[dD,fY h.nl.le];show(if T.isZ ts.length (T.zero ts.length)=true then sh ts.length (ac ts.length (sX y))else _)=_;rw[if_pos ((T.isZ_iff _ _).2 rfl)];exact congrArg (sh ts.length) (a5 _ _)
theorem qV{ts:LL}{ps:List (List Rat×List Rat)}(tw:Tw ts 64990)(hn:ts.length<=1)(hl:ps.length<=2)(hp:∀x∈ps,Nm ts.length 15500000000 x.1/\Nm ts.length 15500000000 x.2):MtOk ts ⟨ts,ps⟩ :=
 ⟨⟨64990,tw,by have:=zj hn;show kB 64990 ts.length<=_;omega⟩,by show ts.length<=2;omega,hl,hp,xV⟩
theorem Gs{ts:LL}{X:Et ts}{ps:List (List Rat×List Rat)}(E:ExtP X)(hn:ts.length<=1)(hl:ps.length<=2)(hp:∀x∈ps,Nm (aQ ts (sX X)).length 15500000000 x.1/\Nm (aQ ts (sX X)).length 15500000000 x.2):MtOk ts ⟨aQ ts (sX X),ps⟩ :=
 ⟨⟨366909990,E.tw,by
  have h:=gP 366909990 (show ts.length+1<=2 by omega);have h2:eB 366909990 2=1100729976:=by decide
  show eB 366909990 (aQ ts (sX X)).length<=_;rw[dD];omega⟩,by show(aQ ts (sX X)).length<=2;rw[dD];omega,hl,hp,wz hn⟩
theorem qM{ts:LL}{m:Mt}(ok:MtOk ts m){x:List Rat×List Rat}(hx:x∈m.ps){p c:Rat×Rat}{o:P2 ts}(a1:Nm ts.length 773000000 (sX o.1))(a2:Nm ts.length 773000000 (sX o.2))(hp:Sm 1000 p)(hc:Sm 1000 c)
  (h0:bQ (bF c p) (bF c p)≠0):HdP m.ts x ⟨p,o.l,c⟩:=by
 obtain⟨r,tw,hk⟩:=ok.tw;obtain⟨n1,n2⟩:=ok.ps x hx;obtain⟨b1,e1⟩:=ok.up _ _ a1;obtain⟨b2,e2⟩:=ok.up _ _ a2;have hl:lm m.ts.length=200000000000:=by unfold lm;rw[if_pos ok.two]
 refine⟨hp,hc,oy tw n1 b1 (by rw[hl];omega),oy tw n2 b2 (by rw[hl];omega),e1,e2,D7 tw ok.two hk ((hc.sub hp).mono oz) (hp.mono oz) h0 ((n1.sub b1).mono oz) ((n2.sub b2).mono oz) ?_ ?_⟩
 ·show Nm m.ts.length 773000000 (sX (dE m.ts (sX o.1)));rw[e1];exact b1
 ·show Nm m.ts.length 773000000 (sX (dE m.ts (sX o.2)));rw[e2];exact b2
theorem lr{α:Type}{P:α->Prop}{x y:α}(hx:P x)(hy:P y):∀z∈[x,y],P z:=by
 intro z hz;rcases List.mem_cons.1 hz with rfl |hz
 ·exact hx
 ·rw[List.mem_singleton.1 hz];exact hy
theorem iD{α:Type}{P:α->Prop}{x:α}(hx:P x):∀z∈[x],P z:=by
 intro z hz;rw[List.mem_singleton.1 hz];exact hx
theorem Di{ts:LL}{x y z x2 y2 z2:Et ts}(tw:Tw ts 64990)(hn:ts.length<=1)(c:Ct ts 310000 65000)(h1:Zu 310000 65000 x 40 40)(h2:Zu 310000 65000 y 40 40)(h3:Zu 310000 65000 z 3 0)(h4:Zu 310000 65000 x2 40 40)(h5:Zu 310000 65000 y2 40 40)(h6:Zu 310000 65000 z2 3 0)
  (h0:eL (x,y) (x2,y2) z z2=0):MtOk ts (dc (x,y) (x2,y2) z z2):=by
 have P:=HM c h1 h2 h3 h4 h5 h6;have ce:=c.ex;have ck:=c.k1;have cu:=c.u3;haveI cy:Cy ts 310000 65000:=⟨ce,ck,cu,by omega⟩
 unfold eL at h0;unfold dc
 by_cases hd:am (az (x,y) (x2,y2))=0
 ·rw[if_pos hd]at h0 ⊢;unfold ka at h0;unfold lA
  by_cases hz:am (z-z2)≠0
  ·rw[if_pos hz];exact qV tw hn (by simp) (by simp)
  ·rw[if_neg hz]
   by_cases hp:0<am z
   ·rw[if_pos ⟨Decidable.not_not.1 hz,hp⟩]at h0;cases h0
   ·rw[if_neg hp];haveI:=h1;haveI:=h2
    refine qV tw hn (by simp) (iD ⟨?_,?_⟩)
    ·exact(inferInstance:Zu 310000 65000 (x+0*x) _ _).nm.mono (by decide)
    ·exact(inferInstance:Zu 310000 65000 (y+0*y) _ _).nm.mono (by decide)
 ·rw [if_neg hd];have ht0:am (eA (az (x,y) (x2,y2))) ≠ 0:=by rw [uY tw]; exact hd
  by_cases hx0:am (bc (x,y) z (x2,y2) z2)<0
  ·rw[if_pos hx0];exact qV tw hn (by simp) (by simp)
  ·rw[if_neg hx0];obtain⟨_,_,f1,f2⟩:=EL hn h1 h2 h3 h6 P ht0
   by_cases hx1:am (bc (x,y) z (x2,y2) z2)=0
   ·rw[if_pos hx1];exact qV tw hn (by simp) (iD ⟨f1.nm.mono (by decide),f2.nm.mono (by decide)⟩)
   ·rw[if_neg hx1];have E:ExtP (bc (x,y) z (x2,y2) z2):=uk tw hn P.zX oz;have S:=D6 (X:=bc (x,y) z (x2,y2) z2) (d:=az (x,y) (x2,y2)) (f:=cV (x,y) (x2,y2) z z2) (v:=fu (x,y) (x2,y2)) hn E P.zt ht0 f1 f2 P.z1 P.z2;exact Gs E hn (by simp) (lr ⟨S.n1.1.nm.mono (by decide),S.n1.2.nm.mono (by decide)⟩ ⟨S.n2.1.nm.mono (by decide),S.n2.2.nm.mono (by decide)⟩)
theorem E9{ts:LL}{o p q:P2 ts}{z:Et ts}(tw:Tw ts 64990)(hn:ts.length<=1)(c:Ct ts 310000 65000)(o1:Zu 310000 65000 o.1 40 40)(o2:Zu 310000 65000 o.2 40 40)(p1:Zu 310000 65000 p.1 40 40)(p2:Zu 310000 65000 p.2 40 40)(q1:Zu 310000 65000 q.1 40 40)(q2:Zu 310000 65000 q.2 40 40)
  (i3:Zu 310000 65000 z 3 0) (h0:eU p q=0):MtOk ts (dt p q o z):=by
 have ce:=c.ex;have ck:=c.k1;have cu:=c.u3;haveI cy:Cy ts 310000 65000:=⟨ce,ck,cu,by omega⟩
 have P:=Hx cy p1 p2 q1 q2 o1 o2 i3;unfold eU at h0;unfold dt
 by_cases hs:am (ba p q)=0
 ·rw[if_pos hs]at h0;cases h0
 ·rw[if_neg hs]
  by_cases h1:am (aR p q o z)=-1
  ·rw[if_pos h1];exact qV tw hn (by simp) (by simp)
  ·rw[if_neg h1]
   by_cases h2:am (aR p q o z)=0
   ·rw[if_pos h2];have Q:=Gx cy hn p1 p2 P hs;exact qV tw hn (by simp) (iD ⟨Q.n1.nm.mono (by decide),Q.n2.nm.mono (by decide)⟩)
   ·rw[if_neg h2]
    have hpos:0<=am (aR p q o z):=by
     have:=T.sgn_cases (ao ts) ts.length (aR p q o z);have e:am (aR p q o z)=T.sgn (ao ts) ts.length (aR p q o z):=rfl;omega
    have E:ExtP (aR p q o z):=uk tw hn (Bh P.zX oz oz) hpos;haveI ce:=E.cy;haveI zr:Zl (aQ ts (sX (aR p q o z))) 773000000 1101400000 (cw ts.length) (dE _ (cw ts.length)) 1 0:=Zl.at (um oz) (by decide);haveI ze':=ko (X:=aR p q o z) hn P.ze (by decide);haveI:=zr.zu;haveI:=ze'.zu
    have S1:=vQ (p:=p) (v:=aK q p) hn E P.zs hs p1 p2 P.v1 P.v2 (k:=aM (aR p q o z) (bI p q o)+bu (aR p q o z)) inferInstance;have S2:=vQ (p:=p) (v:=aK q p) hn E P.zs hs p1 p2 P.v1 P.v2 (k:=aM (aR p q o z) (bI p q o)-bu (aR p q o z)) inferInstance;exact Gs E hn (by simp) (lr ⟨S1.n1.nm.mono (by decide),S1.n2.nm.mono (by decide)⟩ ⟨S2.n1.nm.mono (by decide),S2.n2.nm.mono (by decide)⟩)
abbrev oo(r:List AV×Nat):AV:=.tup [.lst 3 r.1,cq r.2]
def hP(l:Li)(a:As)(i k:Int)(j0 j1 j2:Jt):List AV×Nat :=
  if fR [bF (ah l j2 i) (ah l j0 i),bF (ah l j2 k) (ah l j1 k)]=true then([],15)
  else if eL (an l a j0 i) (an l a j1 k) (qE (aX (ah l j2 i) (ah l j0 i))) (qE (aX (ah l j2 k) (ah l j1 k)))≠0 then([],eL (an l a j0 i) (an l a j1 k) (qE (aX (ah l j2 i) (ah l j0 i))) (qE (aX (ah l j2 k) (ah l j1 k))))
  else(iz (dc (an l a j0 i) (an l a j1 k) (qE (aX (ah l j2 i) (ah l j0 i))) (qE (aX (ah l j2 k) (ah l j1 k)))) [⟨ah l j0 i,P2.l (an l a j0 i),ah l j2 i⟩,⟨ah l j1 k,P2.l (an l a j1 k),ah l j2 k⟩]
    (dc (an l a j0 i) (an l a j1 k) (qE (aX (ah l j2 i) (ah l j0 i))) (qE (aX (ah l j2 k) (ah l j1 k)))).ps.length,0)
theorem OQ{l:Li}{a:As}(D:DyR l a)(hn:(llq a.rs).length<=1){i k z0 z1 z2:Int}{j0 j1 j2:Jt}(hg:GrOk l ⟨1,[i,k],[z0,z1,z2],0⟩)(P:RrrP 3900000 l a ⟨1,[i,k],[z0,z1,z2],0⟩ i k z0 z1 z2 j0 j1 j2) :
  Con prog 65 [.ptr 1000 0] [(1000,some (b8 l ⟨1,[i,k],[z0,z1,z2],0⟩ a))] (oo (hP l a i k j0 j1 j2)) [(1000,some (b8 l ⟨1,[i,k],[z0,z1,z2],0⟩ a))]:=by
 haveI c:=D.s.ct D.hc;obtain⟨tw,etw⟩:=cA D.s.tr D.hc;have hq0:=eT D.hl D.li P.h0 P.p0.or;have hq1:=eT D.hl D.li P.h1 P.p1.or;have hq2:=eT D.hl D.li P.h2 P.t1;have hq3:=eT D.hl D.li P.h2 P.t2;obtain⟨y1,y2⟩:=kl D.hl D.li D.al D.s D.hc P.h0 P.p0;obtain⟨y3,y4⟩:=kl D.hl D.li D.al D.s D.hc P.h1 P.p1;haveI:=y1;haveI:=y2;haveI:=y3;haveI:=y4
 haveI q1:=lX hq2 hq0;haveI q2:=lX hq3 hq1;haveI z1:Zu 310000 65000 (qE (aX (ah l j2 i) (ah l j0 i)):Et (llq a.rs)) 3 0:=inferInstance;haveI z2:Zu 310000 65000 (qE (aX (ah l j2 k) (ah l j1 k)):Et (llq a.rs)) 3 0:=inferInstance;have hr:=SR (a:=sX (an l a j0 i).1) (b:=sX (an l a j0 i).2) (c:=sh 0 (aX (ah l j2 i) (ah l j0 i):Rat)) (a2:=sX (an l a j1 k).1) (b2:=sX (an l a j1 k).2) (c2:=sh 0 (aX (ah l j2 k) (ah l j1 k):Rat)) D.s.tr D.hc hn rfl rfl (sF _ _) (sF _ _);have hzz:=HQ [bF (ah l j2 i) (ah l j0 i),bF (ah l j2 k) (ah l j1 k)] (by show 2<=_;omega) (lr ((hq2.sub hq0).mono oz) ((hq3.sub hq1).mono oz));refine gF func65 (fun k z h=>bH h) ?_;refine gt (aS (zI D.hl D.li D.al D.hc D.two hg P.h0 P.h1 P.h2 P.p0 P.p1 P.t1 P.t2) (cJ rfl) rfl rfl rfl) ?_;refine gC (fun t13=>?_) (fun t13=>?_) (st1:=(3,0));cases t13;refine gc (oT hq2 hq0 oz oz) ?_;refine gc (oT hq3 hq1 oz oz) ?_;refine gc hzz ?_;refine gD ?_;refine gC (fun t23=>?_) (fun t23=>?_)
 ·have h1:fR [bF (ah l j2 i) (ah l j0 i),bF (ah l j2 k) (ah l j1 k)]=true:=t23;refine gR ?_;exact(aJ.keep (br rfl)).sub (by unfold hP;rw[if_pos h1];exact Sub.tup (.cons (.nil _ _ _) (.cons (.refl _) .nil)))
 have h1:fR [bF (ah l j2 i) (ah l j0 i),bF (ah l j2 k) (ah l j1 k)]=false:=t23;obtain⟨w1,w2⟩:=pZ h1;refine gc (pJ hq0 hq2 _) ?_;refine gc (pJ hq1 hq3 _) ?_;refine gc hr ?_;refine gD ?_;refine gC (fun t51=>?_) (fun t51=>?_)
 ·have h2:=fc t51;refine gR ?_;exact(aJ.keep (br rfl)).sub (by unfold hP;rw[if_neg (by rw[h1];decide),if_pos h2];exact Sub.tup (.cons (.nil _ _ _) (.cons (.refl _) .nil)))
 have h2:=eH t51;have ok:=Di (x:=(an l a j0 i).1) (y:=(an l a j0 i).2) (x2:=(an l a j1 k).1) (y2:=(an l a j1 k).2) tw hn c y1 y2 z1 y3 y4 z2 h2;obtain⟨r9,tw9,_⟩:=ok.tw
 have hpl:=Gy tw9 [⟨ah l j0 i,P2.l (an l a j0 i),ah l j2 i⟩,⟨ah l j1 k,P2.l (an l a j1 k),ah l j2 k⟩] (le_refl 2) ok.ln
  (fun x hx=>lr (qM ok hx (y1.nm.mono (by decide)) (y2.nm.mono (by decide)) hq0 hq2 w1) (qM ok hx (y3.nm.mono (by decide)) (y4.nm.mono (by decide)) hq1 hq3 w2))
 refine gc hpl ?_;refine gR ?_;exact(aJ.keep (br rfl)).sub (Sub.of (by unfold hP;rw[if_neg (by rw[h1];decide),if_neg (fun h=>h h2)];rfl))
def iV(l:Li)(a:As)(i:Int)(j0 j:Jt):List AV×Nat :=
  if fR [bF (aB l i j.point) (ah l j0 i)]=true then([],15)
  else if eU (ax l a j.b j.on) (ax l a j.b j.to)≠0 then([],eU (ax l a j.b j.on) (ax l a j.b j.to))
  else(iz (dt (ax l a j.b j.on) (ax l a j.b j.to) (an l a j0 i) (qE (aX (aB l i j.point) (ah l j0 i)))) [⟨ah l j0 i,P2.l (an l a j0 i),aB l i j.point⟩]
    (dt (ax l a j.b j.on) (ax l a j.b j.to) (an l a j0 i) (qE (aX (aB l i j.point) (ah l j0 i)))).ps.length,0)
theorem SH{l:Li}{a:As}(D:DyR l a)(hn:(llq a.rs).length<=1){i z0 z1:Int}{j0 j:Jt}(hg:GrOk l ⟨2,[i],[z0,z1],0⟩)(P:SlP 3900000 l a ⟨2,[i],[z0,z1],0⟩ 2 i z0 z1 j0 j)(ha:j.a=i)(hb:Pd 3900000 a j.b) :
  Con prog 66 [.ptr 1000 0] [(1000,some (b8 l ⟨2,[i],[z0,z1],0⟩ a))] (oo (iV l a i j0 j)) [(1000,some (b8 l ⟨2,[i],[z0,z1],0⟩ a))]:=by
 haveI c:=D.s.ct D.hc;obtain⟨tw,etw⟩:=cA D.s.tr D.hc;obtain⟨i1,i2,i3,i4,i5⟩:=cH D.li P.h1;have hq2:Sm 1000 (aB l i j.point):=by rw[<- ha];exact iM D.hl D.li i1 i3
 have hq0:=eT D.hl D.li P.h0 P.p0.or;obtain⟨y1,y2⟩:=kl D.hl D.li D.al D.s D.hc P.h0 P.p0;obtain⟨y3,y4⟩:=lG D.hl D.li D.al D.s D.hc i2 i4 hb;obtain⟨y5,y6⟩:=lG D.hl D.li D.al D.s D.hc i2 (i5 P.hk) hb;haveI q1:=lX hq2 hq0;haveI z1:Zu 310000 65000 (qE (aX (aB l i j.point) (ah l j0 i)):Et (llq a.rs)) 3 0:=inferInstance;have hr:=Nx (o:=an l a j0 i) (p:=ax l a j.b j.on) (q:=ax l a j.b j.to) (c:=sh 0 (aX (aB l i j.point) (ah l j0 i):Rat)) D.s.tr D.hc hn c y1 y2 y3 y4 y5 y6 (sF _ _);have hzz:=HQ [bF (aB l i j.point) (ah l j0 i)] (by show 1<=_;omega) (iD ((hq2.sub hq0).mono oz));refine gF func66 (fun k z h=>bH h) ?_;refine gt (aS (xS D.hl D.li D.al D.hc D.two hg P.h0 P.h1 P.p0 ha P.hk hb) (cJ rfl) rfl rfl rfl) ?_;refine gC (fun t15=>?_) (fun t15=>?_) (st1:=(3,0));cases t15;refine gc (oT hq2 hq0 oz oz) ?_;refine gc hzz ?_;refine gC (fun t25=>?_) (fun t25=>?_)
 ·have h1:fR [bF (aB l i j.point) (ah l j0 i)]=true:=t25;refine gR ?_;exact(aJ.keep (br rfl)).sub (by unfold iV;rw[if_pos h1];exact Sub.tup (.cons (.nil _ _ _) (.cons (.refl _) .nil)))
 have h1:fR [bF (aB l i j.point) (ah l j0 i)]=false:=t25;have w1:=rc h1;refine gc (pJ hq0 hq2 _) ?_;refine gc hr ?_;refine gD ?_;refine gC (fun t48=>?_) (fun t48=>?_)
 ·have h2:=fc t48;refine gR ?_;exact(aJ.keep (br rfl)).sub (by unfold iV;rw[if_neg (by rw[h1];decide),if_pos h2];exact Sub.tup (.cons (.nil _ _ _) (.cons (.refl _) .nil)))
 have h2:=eH t48;have ok:=E9 (o:=an l a j0 i) (p:=ax l a j.b j.on) (q:=ax l a j.b j.to) (z:=qE (aX (aB l i j.point) (ah l j0 i))) tw hn c y1 y2 y3 y4 y5 y6 z1 h2;obtain⟨r9,tw9,_⟩:=ok.tw;have hpl:=Gy tw9 [⟨ah l j0 i,P2.l (an l a j0 i),aB l i j.point⟩] (show 1<=2 by omega) ok.ln (fun x hx=>iD (qM ok hx (y1.nm.mono (by decide)) (y2.nm.mono (by decide)) hq0 hq2 w1));refine gc hpl ?_;refine gR ?_;exact(aJ.keep (br rfl)).sub (Sub.of (by unfold iV;rw[if_neg (by rw[h1];decide),if_neg (fun h=>h h2)];rfl))
theorem CM{ts:LL}{r e:Nat}(tw:Tw ts r){a b c:List Rat}(ha:Nm ts.length e a)(hb:Nm ts.length e b)(hc:Nm ts.length e c)(he:2*(e+e+kB r ts.length)<=lm ts.length) :
  FP 162 [aO ts,nA a,aG b c] (.tup [aG (sh ts.length (T.mul (ao ts) ts.length (ac ts.length a) (ac ts.length b))) (sh ts.length (T.mul (ao ts) ts.length (ac ts.length a) (ac ts.length c))),.v .nilIface]):=by
 refine aj func162 ?_;refine gc (vR (e:=e) tw [a,b,c] (by simp only[mem_cons,not_mem_nil,or_false];rintro x (rfl |rfl |rfl) <;> assumption) oz (by simp)) ?_;refine gC (fun t19=>?_) (fun t19=>?_) (st1:=(3,0));cases t19;refine gt (aI (Con.rB 24 rfl rfl rfl rfl (lR tw ha hb oz)) (aF rfl rfl rfl) aL rfl rfl) ?_;refine gt (aI (Con.rB 24 rfl rfl rfl rfl (lR tw ha hc oz)) (aF rfl rfl rfl) aL rfl rfl) ?_;refine gt (aI (Con.rB 24 rfl rfl rfl rfl (wb _ _ _)) (bO rfl rfl) aL rfl rfl) ?_;refine gD ?_;refine bE ?_;rfl
section
variable{ts:LL}
def tG(q w1 w2 h:Et ts):Et ts:=q*w1-h*-w2
def ss(q w1 w2 h:Et ts):Et ts:=q*w2-h*w1
def nU(ts:LL)(q h d:List Rat)(w:List Rat×List Rat):P2 ts:=(tG (dE ts q) (dE ts w.1) (dE ts w.2) (dE ts h)*iE (dE ts d),ss (dE ts q) (dE ts w.1) (dE ts w.2) (dE ts h)*iE (dE ts d))
structure Rp where
  v:Rat×Rat
  p:Rat×Rat
  a:List Rat×List Rat
  h:List Rat
  d:List Rat
  w:List Rat×List Rat
def m8(ts:LL)(R:Rp)(q:List Rat):Pq:=gK R.v (nU ts q R.h R.d R.w) R.p (dE ts R.a.1,dE ts R.a.2)
structure RqP(ts:LL)(R:Rp)(q:List Rat):Prop where
  sm:Sm 3000 R.v
  sp:Sm 3000 R.p
  c1:FP 162 [aO ts,nA q,aG R.w.1 R.w.2] (.tup [aG (sX (dE ts q*dE ts R.w.1)) (sX (dE ts q*dE ts R.w.2)),.v .nilIface])
  ng:FP 147 [aO ts,nA R.w.2] (.tup [nA (sX (-dE ts R.w.2)),.v .nilIface])
  c2:FP 162 [aO ts,nA R.h,aG (sX (-dE ts R.w.2)) R.w.1] (.tup [aG (sX (dE ts R.h*-dE ts R.w.2)) (sX (dE ts R.h*dE ts R.w.1)),.v .nilIface])
  sb:FP 76 [aO ts,aG (sX (dE ts q*dE ts R.w.1)) (sX (dE ts q*dE ts R.w.2)),aG (sX (dE ts R.h*-dE ts R.w.2)) (sX (dE ts R.h*dE ts R.w.1))] (.tup [aG (sX (tG (dE ts q) (dE ts R.w.1) (dE ts R.w.2) (dE ts R.h))) (sX (ss (dE ts q) (dE ts R.w.1) (dE ts R.w.2) (dE ts R.h))),.v .nilIface])
  d1:FP 281 [aO ts,nA (sX (tG (dE ts q) (dE ts R.w.1) (dE ts R.w.2) (dE ts R.h))),nA R.d] (.tup [nA (sX (nU ts q R.h R.d R.w).1),.v .nilIface])
  d2:FP 281 [aO ts,nA (sX (ss (dE ts q) (dE ts R.w.1) (dE ts R.w.2) (dE ts R.h))),nA R.d] (.tup [nA (sX (nU ts q R.h R.d R.w).2),.v .nilIface])
  e1:sX (dE ts R.a.1)=R.a.1
  e2:sX (dE ts R.a.2)=R.a.2
  b:BdP ts R.v (nU ts q R.h R.d R.w) R.p (dE ts R.a.1,dE ts R.a.2)
theorem RqP.body{R:Rp}{q:List Rat}(H:RqP ts R q) :
  Con prog 152 [.ptr 1000 0,qP R.v,dp (nU ts q R.h R.d R.w).l,qP R.p,aG R.a.1 R.a.2] [(1000,some (bf ts))] (m8 ts R q).av [(1000,some (bf ts))]:=by
 have hb:=xC H.sm H.sp H.b
 have e:dp (P2.l ((dE ts R.a.1,dE ts R.a.2):P2 ts))=aG R.a.1 R.a.2:=by
  show aG (sX (dE ts R.a.1)) (sX (dE ts R.a.2))=_;rw[H.e1,H.e2]
 rw[e]at hb;exact hb
theorem C9{R:Rp}{q:List Rat}{j:Nat}(cy:Cy ts 773000000 1101400000)(sm:Sm 3000 R.v)(sp:Sm 3000 R.p)(h0:bQ R.v R.v≠0)(nq:Nm ts.length 773000000 q)(nh:Nm ts.length 773000000 R.h)(nd:Nm ts.length 773000000 R.d)
  (n1:Nm ts.length 773000000 R.w.1) (n2:Nm ts.length 773000000 R.w.2) (a1:Nm ts.length 773000000 R.a.1) (a2:Nm ts.length 773000000 R.a.2) (e1:sX (dE ts R.a.1)=R.a.1) (e2:sX (dE ts R.a.2)=R.a.2)
  (nj:Nl j R.d) (hj:j<=ts.length) (hj1:j<=1) (hd:am (dE ts R.d)≠0):RqP ts R q:=by
 obtain⟨r,tw,hk⟩:=cy.ex;have hl:=cy.lm;haveI:=cy;haveI zq:Zl ts 773000000 1101400000 q (dE ts q) 1 0:=Zl.at nq (le_refl _);haveI zh:Zl ts 773000000 1101400000 R.h (dE ts R.h) 1 0:=Zl.at nh (le_refl _);haveI zd:Zl ts 773000000 1101400000 R.d (dE ts R.d) 1 0:=Zl.at nd (le_refl _);haveI z1:Zl ts 773000000 1101400000 R.w.1 (dE ts R.w.1) 1 0:=Zl.at n1 (le_refl _);haveI z2:Zl ts 773000000 1101400000 R.w.2 (dE ts R.w.2) 1 0:=Zl.at n2 (le_refl _);haveI:=zq.zu;haveI:=zh.zu;haveI:=z1.zu;haveI:=z2.zu
 haveI zn:Zu 773000000 1101400000 (-dE ts R.w.2) 1 0:=inferInstance;haveI y1:Zu 773000000 1101400000 (dE ts q*dE ts R.w.1) 2 1:=inferInstance;haveI y2:Zu 773000000 1101400000 (dE ts q*dE ts R.w.2) 2 1:=inferInstance;haveI y3:Zu 773000000 1101400000 (dE ts R.h*-dE ts R.w.2) 2 1:=inferInstance;haveI y4:Zu 773000000 1101400000 (dE ts R.h*dE ts R.w.1) 2 1:=inferInstance;haveI x1:Zu 773000000 1101400000 (tG (dE ts q) (dE ts R.w.1) (dE ts R.w.2) (dE ts R.h)) 4 3:=(inferInstance:Zu 773000000 1101400000 (dE ts q*dE ts R.w.1-dE ts R.h*-dE ts R.w.2) 4 3)
 haveI x2:Zu 773000000 1101400000 (ss (dE ts q) (dE ts R.w.1) (dE ts R.w.2) (dE ts R.h)) 4 3:=(inferInstance:Zu 773000000 1101400000 (dE ts q*dE ts R.w.2-dE ts R.h*dE ts R.w.1) 4 3)
 have ew:∀x:Et ts,ac ts.length (sX x)=x:=fun x=>a5 _ _
 have hkB:kB r ts.length<=1101400000:=hk;have c1:=CM tw nq n1 n2 (by rw[hl];omega);have ng:=C7 (ts:=ts) (u:=773000000) (k:=1101400000) (a:=R.w.2) (by decide);have nn:Nm ts.length 773000000 (sX (-dE ts R.w.2)):=zn.nm.mono (by decide);have c2:=CM tw nh nn n1 (by rw[hl];omega);rw[ew]at c2;have sb:=xQ (a:=sX (dE ts q*dE ts R.w.1)) (b:=sX (dE ts q*dE ts R.w.2)) (c:=sX (dE ts R.h*-dE ts R.w.2)) (d:=sX (dE ts R.h*dE ts R.w.1)) tw y1.nm y2.nm y3.nm y4.nm (by rw[hl];decide);rw[ew,ew,ew,ew]at sb;have d1:=ql (ts:=ts) (u:=773000000) (k:=1101400000) (a:=sX (tG (dE ts q) (dE ts R.w.1) (dE ts R.w.2) (dE ts R.h))) (b:=R.d) nj hj hj1 hd (by decide);have d2:=ql (ts:=ts) (u:=773000000) (k:=1101400000) (a:=sX (ss (dE ts q) (dE ts R.w.1) (dE ts R.w.2) (dE ts R.h))) (b:=R.d) nj hj hj1 hd (by decide);exact⟨sm,sp,c1,ng,c2,sb,d1.1,d2.1,e1,e2,D7 tw cy.two hkB sm sp h0 (d1.2.nm.mono (by decide)) (d2.2.nm.mono (by decide)) (by show Nm ts.length 773000000 (sX (dE ts R.a.1));rw[e1];exact a1) (by show Nm ts.length 773000000 (sX (dE ts R.a.2));rw[e2];exact a2)⟩
end
def iQ(ts:LL)(R:Rp)(qs:LL)(i:Nat):Sv:=⟨ts,[m8 ts R (qs.getD i [])],if qs.length=1 then 0 else 1-2*(i:Int)⟩
def kQ(ts:LL)(R:Rp)(qs:LL)(n:Nat):List AV:=(List.range n).map fun i=>(iQ ts R qs i).av
theorem AM(ts:LL)(R:Rp)(qs:LL)(n:Nat):(kQ ts R qs n).length=n:=by simp[kQ]
theorem VT(ts:LL)(R:Rp)(qs:LL)(n:Nat):kQ ts R qs (n+1)=kQ ts R qs n++[(iQ ts R qs n).av]:=by unfold kQ;rw[List.range_succ];simp
def dg(l:Li)(a:As)(i:Int)(j0 j:Jt):Rp:=⟨cf l i j,ah l j0 i,P2.l (an l a j0 i),sh 0 (bV l i j0 j:Rat),sX (bZ l a i j0 j),P2.l (bR l a i j0 j)⟩
def bi(l:Li)(a:As)(i:Int)(j0 j:Jt):Et (llq a.rs):=qE (fJ l i j)*bZ l a i j0 j-qE (bV l i j0 j)*qE (bV l i j0 j)
def gY(l:Li)(a:As)(i:Int)(j0 j:Jt):List AV×Nat :=
  if am (bZ l a i j0 j)=0/\am (qE (bV l i j0 j):Et (llq a.rs))=0 then([],15)
  else if am (bi l a i j0 j)<0 then([],0)
  else if 0<am (bi l a i j0 j)then(kQ (aQ (llq a.rs) (sX (bi l a i j0 j))) (dg l a i j0 j) [cw (llq a.rs).length,sX (-bu (bi l a i j0 j))] 2,0)
  else(kQ (llq a.rs) (dg l a i j0 j) [[]] 1,0)
theorem rJ{ts:LL}{r:Nat}(tw:Tw ts r){n d h:Et ts}(hs:¬am (n*d-h*h)<0)(h1:¬(am d=0/\am h=0)):am d≠0:=by
 intro h0;have S:=dz (ao ts) ts.length tw.pos
 have e1:sg (ao ts) ts.length (n*d)=0:=by
  rw[S.mul];have:sg (ao ts) ts.length d=0:=h0;rw[this];exact Int.mul_zero _
 have e2:=S.zadd (y:=-(h*h)) e1;rw[show n*d+-(h*h)=n*d-h*h by grind,S.neg,S.mul]at e2;have e3:am (n*d-h*h)=sg (ao ts) ts.length (n*d-h*h):=rfl;have e4:am h=sg (ao ts) ts.length h:=rfl;have h2:sg (ao ts) ts.length h≠0:=fun h9=>h1 ⟨h0,by rw[e4];exact h9⟩
 rw[e3,e2]at hs;rcases S.cs h with g |g |g
 ·rw[g]at hs;exact hs (by decide)
 ·exact h2 g
 ·rw[g]at hs;exact hs (by decide)
theorem Jy{p q:Rat}(h:p*p+q*q=0):p=0/\q=0:=by
 have h1:=l8 p;have h2:=l8 q;have h3:p*p=0:=by grind
 have h4:q*q=0:=by grind
 exact⟨by rcases Rat.mul_eq_zero.1 h3 with g |g <;> exact g,by rcases Rat.mul_eq_zero.1 h4 with g |g <;> exact g⟩
theorem qB{l:Li}(hli:aP l=0){n:Nat}{j:Jt}(hj:l.jo[n]?=some j)(hk:j.kind≠0){i:Int}(hi:j.b=i):bQ (cf l i j) (cf l i j)≠0:=by
 intro h0;obtain⟨h1,h2⟩:=Jy h0;have h3:=IE hli hj;subst hi;have e1:(aB l j.b j.to).1-(aB l j.b j.on).1=0:=h1;have e2:(aB l j.b j.to).2-(aB l j.b j.on).2=0:=h2;have e3:((cF l j.b).getD j.on.toNat default).x.q=((cF l j.b).getD j.to.toNat default).x.q:=by unfold aB at e1;dsimp only at e1;grind
 have e4:((cF l j.b).getD j.on.toNat default).y.q=((cF l j.b).getD j.to.toNat default).y.q:=by unfold aB at e2;dsimp only at e2;grind
 unfold eF at h3;split at h3
 ·cases h3
 ·split at h3
  ·cases h3
  ·split at h3
   ·cases h3
   ·split at h3
    ·cases h3
    ·split at h3
     ·cases h3
     ·first |(rw[if_pos ⟨e3,e4⟩]at h3;cases h3) |(split at h3 <;> first |(cases h3;done) |(rename_i g;exact absurd ⟨e3,e4⟩ g))
theorem TZ:Sub (.lst 1 [nS]) (.lst 1 [nA []]):=by
 refine Sub.lst rfl (fun i x y hx hy=>?_)
 match i,hx,hy with
 |0,hx,hy =>
  cases hx;cases hy
  refine⟨rfl,fun j x y hx hy=>?_⟩
  match j,hx,hy with
  |0,hx,hy=>cases hx;cases hy;exact⟨rfl,.nil _ _ _⟩
theorem Ux{x y:Int}(h:cond (aa .eql x 0) (aa .eql y 0) false=true):x=0/\y=0:=by
 cases h1:aa .eql x 0
 ·rw[h1]at h;cases h
 ·rw[h1]at h;exact⟨cB h1,cB h⟩
theorem LT{x y:Int}(h:cond (aa .eql x 0) (aa .eql y 0) false=false):¬(x=0/\y=0):=by
 rintro⟨rfl,rfl⟩;cases h
structure RpF(l:Li)(a:As)(i:Int)(j0 j:Jt):Prop where
  hv:Sm 3000 (cf l i j)
  hp:Sm 3000 (ah l j0 i)
  vv:bQ (cf l i j) (cf l i j)≠0
  zl:Zl (llq a.rs) 310000 65000 (sh 0 (bV l i j0 j:Rat)) (qE (bV l i j0 j)) 3 0
  z3:Zu 310000 65000 (bZ l a i j0 j) 320 327
  zX:Zu 310000 65000 (bi l a i j0 j) 976 989
  w1:Zu 310000 65000 (bR l a i j0 j).1 80 81
  w2:Zu 310000 65000 (bR l a i j0 j).2 80 81
  y1:Zu 310000 65000 (an l a j0 i).1 40 40
  y2:Zu 310000 65000 (an l a j0 i).2 40 40
theorem GC{l:Li}{a:As}(D:DyR l a)(hn:(llq a.rs).length<=1){g:Gr}{i z0 z1:Int}{j0 j:Jt}(P:SlP 3900000 l a g 3 i z0 z1 j0 j)(hj:j.b=i)(hb:Pd 3900000 a j.a):RpF l a i j0 j:=by
 haveI c:=D.s.ct D.hc;have ck:=c.k1;haveI cy:Cy (llq a.rs) 310000 65000:=⟨c.ex,c.k1,c.u3,by omega⟩
 have hs0:Sm 1000 (ah l j0 i):=eT D.hl D.li P.h0 P.p0.or;obtain⟨i1,i2,i3,i4,i5⟩:=cH D.li P.h1;have hs1:Sm 1000 (aB l i j.on):=by rw[<- hj];exact iM D.hl D.li i2 i4
 have hs2:Sm 1000 (aB l i j.to):=by rw[<- hj];exact iM D.hl D.li i2 (i5 P.hk)
 have hv:Sm _ (cf l i j):=hs2.sub hs1;haveI qn:Qz 310000 (fJ l i j) 3:=pc (hv.dot hv) oz;haveI qh:Qz 310000 (bV l i j0 j) 3:=pc (hv.cross (hs1.sub hs0)) oz;obtain⟨w1,w2⟩:=zE D P.h0 P.p0 P.h1 hb;obtain⟨y1,y2⟩:=kl D.hl D.li D.al D.s D.hc P.h0 P.p0;haveI:=w1;haveI:=w2
 haveI z3:Zu 310000 65000 (bZ l a i j0 j) 320 327:=(inferInstance:Zu 310000 65000 (dotE (bR l a i j0 j).1 (bR l a i j0 j).2 (bR l a i j0 j).1 (bR l a i j0 j).2) _ _)
 exact⟨hv.mono oz,hs0.mono oz,qB D.li P.h1 P.hk hj,Cy.zq,z3,Bh (inferInstance:Zu 310000 65000 (qE (fJ l i j)*bZ l a i j0 j-qE (bV l i j0 j)*qE (bV l i j0 j)) _ _) (by decide) (by decide),w1,w2,y1,y2⟩
theorem I7{l:Li}{a:As}{i:Int}{j0 j:Jt}(F:RpF l a i j0 j)(tw:Tw (llq a.rs) 64990)(hn:(llq a.rs).length<=1)(hd0:am (bZ l a i j0 j)≠0)(hp:0<=am (bi l a i j0 j)) :
  ExtP (bi l a i j0 j)/\RqP (aQ (llq a.rs) (sX (bi l a i j0 j))) (dg l a i j0 j) (cw (llq a.rs).length)/\RqP (aQ (llq a.rs) (sX (bi l a i j0 j))) (dg l a i j0 j) (sX (-bu (bi l a i j0 j))) /\
  FP 147 [aO (aQ (llq a.rs) (sX (bi l a i j0 j))),nA (cw (llq a.rs).length)] (.tup [nA (sX (-bu (bi l a i j0 j))),.v .nilIface]):=by
 have E:ExtP (bi l a i j0 j):=uk tw hn F.zX hp;have ce:=E.cy;have zr:Nm (aQ (llq a.rs) (sX (bi l a i j0 j))).length 773000000 (cw (llq a.rs).length):=(um oz).mono (by decide);haveI zrl:Zl (aQ (llq a.rs) (sX (bi l a i j0 j))) 773000000 1101400000 (cw (llq a.rs).length) (bu (bi l a i j0 j)) 1 0:=Zl.at zr (by decide);haveI:=zrl.zu;have hng:=C7 (ts:=aQ (llq a.rs) (sX (bi l a i j0 j))) (u:=773000000) (k:=1101400000) (a:=cw (llq a.rs).length) (by decide);have zn:Nm (aQ (llq a.rs) (sX (bi l a i j0 j))).length 773000000 (sX (-bu (bi l a i j0 j))):=(inferInstance:Zu 773000000 1101400000 (-bu (bi l a i j0 j)) 1 0).nm.mono (by decide)
 have hR:∀q,Nm (aQ (llq a.rs) (sX (bi l a i j0 j))).length 773000000 q->RqP (aQ (llq a.rs) (sX (bi l a i j0 j))) (dg l a i j0 j) q:=fun q nq =>
  C9 (R := dg l a i j0 j) (j := (llq a.rs).length) ce F.hv F.hp F.vv nq (mr (F.zl.nm.mono (by decide)) oz) (mr (F.z3.nm.mono (by decide)) oz) (mr (F.w1.nm.mono (by decide)) oz) (mr (F.w2.nm.mono (by decide)) oz)
   (mr (F.y1.nm.mono (by decide)) oz) (mr (F.y2.nm.mono (by decide)) oz) (wz hn _ _ F.y1.nm).2 (wz hn _ _ F.y2.nm).2 F.z3.nm.nl (by rw[dD];omega) hn (by rw[show am (dE (aQ (llq a.rs) (sX (bi l a i j0 j))) (dg l a i j0 j).d)=am (bZ l a i j0 j)from pg];exact hd0)
 exact⟨E,hR _ zr,hR _ zn,hng⟩
theorem Cn{l:Li}{a:As}{i:Int}{j0 j:Jt}(F:RpF l a i j0 j)(tw:Tw (llq a.rs) 64990)(hn:(llq a.rs).length<=1)(hd0:am (bZ l a i j0 j)≠0):Cy (llq a.rs) 773000000 1101400000/\RqP (llq a.rs) (dg l a i j0 j) []:=by
 have cs:Cy (llq a.rs) 773000000 1101400000:=⟨⟨64990,tw,by show kB 64990 (llq a.rs).length<=_;have:=zj hn;omega⟩,by omega,by omega,by omega⟩
 have nil0:Nm (llq a.rs).length 773000000 []:=⟨tw.five,.inl rfl,Cb.nil.mono oz⟩
 exact ⟨cs, C9 (R := dg l a i j0 j) (j := (llq a.rs).length) cs F.hv F.hp F.vv nil0 (F.zl.nm.mono (by decide)) (F.z3.nm.mono (by decide)) (F.w1.nm.mono (by decide)) (F.w2.nm.mono (by decide))
   (F.y1.nm.mono (by decide)) (F.y2.nm.mono (by decide)) (xV _ _ F.y1.nm).2 (xV _ _ F.y2.nm).2 F.z3.nm.nl (le_refl _) hn (by rw[show am (dE (llq a.rs) (dg l a i j0 j).d)=am (bZ l a i j0 j)from congrArg am (a5 _ _)];exact hd0)⟩
theorem Q8{l:Li}{a:As}(D:DyR l a)(hn:(llq a.rs).length<=1){i z0 z1:Int}{j0 j:Jt}(hg:GrOk l ⟨3,[i],[z0,z1],0⟩)(P:SlP 3900000 l a ⟨3,[i],[z0,z1],0⟩ 3 i z0 z1 j0 j)(hj:j.b=i)(hb:Pd 3900000 a j.a) :
  Con prog 67 [.ptr 1000 0] [(1000,some (b8 l ⟨3,[i],[z0,z1],0⟩ a))] (oo (gY l a i j0 j)) [(1000,some (b8 l ⟨3,[i],[z0,z1],0⟩ a))]:=by
 haveI c:=D.s.ct D.hc;obtain⟨tw,etw⟩:=cA D.s.tr D.hc;haveI cy:Cy (llq a.rs) 310000 65000:=⟨c.ex,c.k1,c.u3,by omega⟩
 have hlm:=cy.lm;have F:=GC D hn P hj hb;obtain⟨i1,i2,i3,i4,i5⟩:=cH D.li P.h1;have hs0:Sm 1000 (ah l j0 i):=eT D.hl D.li P.h0 P.p0.or;have hs1:Sm 1000 (aB l i j.on):=by rw[<- hj];exact iM D.hl D.li i2 i4
 have hs2:Sm 1000 (aB l i j.to):=by rw[<- hj];exact iM D.hl D.li i2 (i5 P.hk)
 have hv:Sm _ (cf l i j):=hs2.sub hs1;haveI qn:Qz 310000 (fJ l i j) 3:=pc (hv.dot hv) oz;haveI qh:Qz 310000 (bV l i j0 j) 3:=pc (hv.cross (hs1.sub hs0)) oz;haveI z3:=F.z3;haveI zX:=F.zX;haveI zl:=F.zl;have hrr:=I9 D (i:=i) (j0:=j0) (j:=j) (by decide);have m1:=yD (ts:=llq a.rs) (u:=310000) (k:=65000) (a:=sX (bi l a i j0 j)) (by decide);have m2:=yD (ts:=llq a.rs) (u:=310000) (k:=65000) (a:=sX (bZ l a i j0 j)) (by decide);have m3:=yD (ts:=llq a.rs) (u:=310000) (k:=65000) (a:=sh 0 (bV l i j0 j:Rat)) (by decide);refine gF func67 (fun k z h=>bH h) ?_ (2,0);refine gW (Wk.o (sl:=[(0,some (.ptr 1000 0)),(4,some (.ptr 24 0))]) (hp:=[(1000,some (b8 l ⟨3,[i],[z0,z1],0⟩ a)),(24,some (df a.rs))])) ?_;refine gt (aI (Con.rekeyBB 1000 24 (by decide) (by decide) rfl rfl rfl rfl rfl rfl (Gv D hg P.h0 P.h1 P.p0 hj P.hk hb)) (bO rfl rfl) aL rfl rfl) ?_;refine gt (aI (Con.rekeyB1 24 rfl rfl rfl rfl rfl hrr) (bO rfl rfl) aL rfl rfl) ?_ (4,0);refine gW (Wk.of (sl:=[(4,some (.ptr 24 0)),(5,some (.ptr 5 0)),(6,some (nA (sX (bi l a i j0 j))))]) (hp:=[(1000,some (b8 l ⟨3,[i],[z0,z1],0⟩ a)),(5,some (.box (uv l a i j0 j))),(24,some (bf (llq a.rs)))]) bg (.k (.k (.cons rfl (BlkSub.bL (.cons (.of (lU etw)) (.cons (.refl _) .nil)) rfl) .nil)))) ?_;refine gt (aS (Con.rB 24 rfl rfl rfl rfl m1) (bO rfl rfl) rfl rfl rfl) ?_;refine gC (fun t34=>?_) (fun t34=>?_) (st1:=(6,0));cases t34;refine gt (aS (Con.rB 24 rfl rfl rfl rfl m2) (bO rfl rfl) rfl rfl rfl) ?_;refine gu (eJ rfl rfl rfl (fun h=>aS (Con.rB 24 rfl rfl rfl rfl m3) (.cons (.opt rfl (o1 h)) (.cons (.opt rfl (o1 h)) .nil)) rfl rfl rfl)) ?_;refine gC (fun t44=>?_) (fun t44=>?_)
 ·have h1:=Ux t44;refine gR ?_;exact(aJ.keep (br rfl)).sub (by unfold gY;rw[if_pos h1];exact Sub.tup (.cons (.nil _ _ _) (.cons (.refl _) .nil)))
 have h1:=LT t44;refine gC (fun t58=>?_) (fun t58=>?_)
 ·have h2:am (bi l a i j0 j)<0:=of_decide_eq_true t58;refine gR ?_;exact(aJ.keep (br rfl)).sub (by unfold gY;rw[if_neg h1,if_pos h2];exact Sub.tup (.cons (.nil _ _ _) (.cons (.refl _) .nil)))
 have h2:¬am (bi l a i j0 j)<0:=of_decide_eq_false t58;have hd0:am (bZ l a i j0 j)≠0:=rJ tw h2 h1;refine Bl [4,5] [1000,5] (fun(T:LL)(qs:LL)=>[(8,some (.lst 1 (qs.map nA)))]) (fun T _=>[(24,some (bf T))]) (fun T qs=>Cy T 773000000 1101400000/\qs.length<=2/\(∀q∈qs,RqP T (dg l a i j0 j) q)/\gY l a i j0 j=(kQ T (dg l a i j0 j) qs qs.length,0)) ?_ ?_
 ·intro K1 J1;refine gC (fun t63=>?_) (fun t63=>?_)
  ·have h3:0<am (bi l a i j0 j):=of_decide_eq_true t63;obtain⟨E,R1,R2,hng⟩:=I7 F tw hn hd0 oz;have ce:=E.cy;have hex:=HP (a:=sX (bi l a i j0 j)) tw zX.nm (by rw[hlm];decide) (by rw[show ac (llq a.rs).length (sX (bi l a i j0 j))=bi l a i j0 j from a5 _ _];show 0<=am (bi l a i j0 j);omega);refine gc hex ?_;refine gC (fun t75=>?_) (fun t75=>?_) (st1:=(15,0));cases t75;refine gc hng ?_;refine gt (aS (Con.rB 24 rfl rfl rfl rfl (qF _ _)) (aF rfl rfl rfl) rfl rfl rfl) ?_;exact pS J1 (aQ (llq a.rs) (sX (bi l a i j0 j))) ([cw (llq a.rs).length,sX (-bu (bi l a i j0 j))]) ⟨ce,le_refl 2,lr R1 R2,by unfold gY;rw[if_neg h1,if_neg h2,if_pos h3];rfl⟩
  have h3:¬0<am (bi l a i j0 j):=of_decide_eq_false t63;obtain⟨cs,R0⟩:=Cn F tw hn hd0;exact pS J1 (llq a.rs) ([[]]) ⟨cs,by decide,iD R0,by unfold gY;rw[if_neg h1,if_neg h2,if_neg h3];rfl⟩ (hw:=Wk.of (.cons rfl TZ (.k (.k .nil))) (.k (.k (.k .nil))))
 rintro T qs ⟨ct,hql,hq,hR⟩;obtain⟨rr,twT,hkT⟩:=ct.ex;refine gl ?_;refine gW (Wk.virt 900 3 rfl) ?_;refine aZ [4,5,8,90,91] [1000,5,24] (fun(q:Nat)=>[(12,some (.ms 900 3 0 q)),(92,some (i64 q))]) (fun q=>[(900,some (.row 3 (kQ T (dg l a i j0 j) qs q)))]) (fun q=>q<=qs.length) (fun q=>qs.length-q) 0 (zero_le _) ?_;rintro q hqi K2 J2;refine gC (fun t93=>?_) (fun t93=>?_) (st2:=(28,0))
 ·have hin:=bh t93;obtain ⟨x,hx⟩:=aH hin;have hx9:qs.getD q [] = x:=aw hx;have R:=hq x (mem_of_getElem? hx);refine gi (aN hx) ?_;refine gc R.c1 ?_;refine gt (aS (Con.rB 24 rfl rfl rfl rfl (v5 _ _ _)) (aF rfl rfl rfl) rfl rfl rfl) ?_;refine gD ?_;refine gc R.ng ?_;refine gt (aS (Con.rB 24 rfl rfl rfl rfl (qF _ _)) (aF rfl rfl rfl) rfl rfl rfl) ?_;refine gc R.c2 ?_;refine gt (aS (Con.rB 24 rfl rfl rfl rfl (v5 _ _ _)) (aF rfl rfl rfl) rfl rfl rfl) ?_;refine gD ?_;refine gc R.sb ?_;refine gt (aS (Con.rB 24 rfl rfl rfl rfl (v5 _ _ _)) (aF rfl rfl rfl) rfl rfl rfl) ?_;refine gD ?_;refine gt (aS (Con.rB 24 rfl rfl rfl rfl (vY R.d1)) (aF rfl rfl rfl) rfl rfl rfl) ?_;refine gt (aS (Con.rB 24 rfl rfl rfl rfl (vY R.d2)) (aF rfl rfl rfl) rfl rfl rfl) ?_;refine gD ?_;refine gc (zw twT) ?_;refine gt (aS (Con.rB 24 rfl rfl rfl rfl R.body) (.cons (.tmp rfl) (.cons (.tmp rfl) (.cons (.tmp rfl) (.cons (.tmp rfl) (.cons (.tmp rfl) .nil))))) rfl rfl rfl) ?_;refine gl ?_;refine gc (HW q qs.length oz) ?_;refine gs (de (.tmp rfl) rfl (AM _ _ _ _).symm (.tmp rfl) T54 rfl T62 rfl rfl (by dsimp only; simp only [length_cons,length_nil]; omega) rfl rfl) ?_;refine gD ?_ (27,0);refine gW (Wk.of (sl:=[(4,some (.ptr 24 0)),(5,some (.ptr 5 0)),(8,some (.lst 1 (qs.map nA))),(12,some (.ms 182 3 0 (q + 1))),(90,some (.lst 1 (qs.map nA))),(91,some (i64 qs.length)),(92,some (i64 q))]) (hp:=[(1000,some (b8 l ⟨3,[i],[z0,z1],0⟩ a)),(5,some (.box (uv l a i j0 j))),(24,some (bf T)),(182,some (.row 3 (kQ T (dg l a i j0 j) qs (q + 1))))]) bg (.k (.k (.k (.cons rfl (BlkSub.of (by rw [VT]; unfold iQ; rw [hx9]; rfl)) .nil))))) ?_ (27,0)
  refine gW (Wk.rk (k:=182) (d:=900) rfl rfl) ?_;refine ga aV ?_;exact aT J2 (q+1) hin
 have hin:=bD hqi t93;subst hin;refine gW ((Wk.freeze (k:=900) rfl).trans<|Wk.of (sl:=[(4,some (.ptr 24 0)),(12,some (.lst 3 (kQ T (dg l a i j0 j) qs qs.length)))]) (hp:=[(1000,some (b8 l ⟨3,[i],[z0,z1],0⟩ a)),(24,some (bf T))]) (.k (.cons rfl (Sub.of (by rw[cr (AM _ _ _ _).symm])) .nil)) (.k (.k .nil))) ?_;refine gC (fun t188=>?_) (fun t188=>?_) (st1:=(29,0));cases t188;refine gR ?_;exact(aJ.keep (br rfl)).sub (Sub.of (by rw[hR];rfl))
theorem RT:Sub (.agg [bl (rt ((1:Int):Rat)).neg,ws (rt ((1:Int):Rat)).num,ws (rt ((1:Int):Rat)).den,.v (.bool false),nS,nS]) (qP (((1:Int):Rat),0)) :=
 Sub.agg (.cons (.refl _) (.cons (.refl _) (.cons (.refl _) (.cons (.refl _) (.cons (Sub.nil _ _ _) (.cons (Sub.nil _ _ _) .nil)))))) rfl
theorem tU{ts:LL}(q:Rat):sX (qE q:Et ts)=sh 0 (q:Rat):=Bt _ _
def kT(l:Li)(a:As)(i:Int)(j0:Jt)(x:Tn):Pq:=gK (((1:Int):Rat),0) ((qE (dR x.half x.t.q),qE (d5 x.half x.t.q)):P2 (llq a.rs)) (ah l j0 i) (an l a j0 i)
def jY(l:Li)(a:As)(i:Int)(j0:Jt)(x:Tn):List AV×Nat:=if x.err≠0 then([],x.err)else([(⟨llq a.rs,[kT l a i j0 x],1⟩:Sv).av],0)
theorem Qk{l:Li}{g:Gr}{a:As}{x:Tn}(hx:x.t.ok)(hq:Qb 1000 x.t.q)(he:x.err≠0) :
  Con prog 64 [.ptr 1000 0,x.av] [(1000,some (b8 l g a))] (.tup [.lst 3 [],cq x.err]) [(1000,some (b8 l g a))]:=by
 refine gF func64 (fun k z h=>bH h) ?_;refine gc (FS x hx hq oz) ?_;refine gC (fun t20=>?_) (fun t20=>?_) (st2:=(77777,0))
 ·refine gR ?_;exact(aJ.keep (br rfl)).sub (Sub.tup (.cons (.nil _ _ _) (.cons (.refl _) .nil)))
 exact absurd (eH t20) he
theorem HX:Sm 3000 (((1:Int):Rat),(0:Rat)):=⟨Qb.one.mono oz,Qb.mono (e:=1) (q:=0) ⟨by decide,by decide⟩ oz⟩
theorem EO{E:Nat}(hE:E<=20000000000){l:Li}{a:As}(D:DyW l a)(h3:(llq a.rs).length<=2){body pt:Int}(h1:bA body l.bo.length=true)(h2:bA pt (cF l body).length=true)(hb:Pd E a body) :
  Nm (llq a.rs).length 62500000000 (sX (ax l a body pt).1)/\Nm (llq a.rs).length 62500000000 (sX (ax l a body pt).2):=by
 obtain⟨n,k,bd,m,b,hp⟩:=ue D.hl D.li D.al D.hc h1 h2 hb;obtain⟨tw,_⟩:=cA D.al.tr D.hc;have kb:=oh h3;have qx:Qb 1000 m.x.q:=by rw[hp.mp.ex,bK];exact hp.mp.sm.x
 have qy:Qb 1000 m.y.q:=by rw[hp.mp.ey,bK];exact hp.mp.sm.y
 have h:=wV tw hp.ok qx qy;unfold ax;rw[hp.eq];exact⟨h.1.mono oz,h.2.mono oz⟩
theorem RA{E:Nat}(hE:E<=20000000000){l:Li}{a:As}(D:DyW l a)(h3:(llq a.rs).length<=2){i:Nat}{j:Jt}(hj:l.jo[i]?=some j){b:Int}(h:PinP E l a j b) :
  Nm (llq a.rs).length 62500000000 (sX (an l a j b).1)/\Nm (llq a.rs).length 62500000000 (sX (an l a j b).2):=by
 obtain⟨i1,i2,i3,i4,_⟩:=cH D.li hj;unfold an;rcases h.tie with⟨e,hb⟩ |⟨e,e2,hb⟩
 ·rw[if_pos e];exact EO hE D h3 i2 i4 hb
 ·rw[if_neg e];exact EO hE D h3 i1 i3 hb
theorem Ip{E:Nat}(hE:E<=20000000000){l:Li}{a:As}(D:DyW l a)(h3:(llq a.rs).length<=2){n:Nat}{i:Int}{j0:Jt}(h0:l.jo[n]?=some j0)(p0:PinP E l a j0 i){x:Tn}(hq:Qb 1000 x.t.q) :
  BdP (llq a.rs) (((1:Int):Rat),(0:Rat)) ((qE (dR x.half x.t.q),qE (d5 x.half x.t.q)):P2 (llq a.rs)) (ah l j0 i) (an l a j0 i):=by
 obtain⟨tw,etw⟩:=cA D.al.tr D.hc;have qc:=oP (half:=x.half) hq;have qs:=pC (half:=x.half) hq;have hs0:Sm 1000 (ah l j0 i):=eT D.hl D.li h0 p0.or;obtain⟨y1,y2⟩:=RA hE D h3 h0 p0
 exact Gb (F := 80000000000) (W := 10000) (u := (((1 : Int) : Rat), (0 : Rat))) (p := ah l j0 i) (w := ((qE (dR x.half x.t.q), qE (d5 x.half x.t.q)) : P2 (llq a.rs))) (o := an l a j0 i) tw h3 (oh h3) HX (hs0.mono oz) (by decide +kernel)
  (by show Nm _ _ (sX (qE (dR x.half x.t.q):Et (llq a.rs)));rw[tU];exact(oW tw.five qc).mono oz) (by show Nm _ _ (sX (qE (d5 x.half x.t.q):Et (llq a.rs)));rw[tU];exact(oW tw.five qs).mono oz) y1 y2 oz oz oz
theorem Jn{E:Nat}(hE:E<=20000000000){l:Li}{a:As}(D:DyW l a)(h3:(llq a.rs).length<=2){i z0 d:Int}{j0:Jt}(hg:GrOk l ⟨0,[i],[z0],d⟩)(h0:l.jo[z0.toNat]?=some j0)(p0:PinP E l a j0 i){x:Tn}(hx:x.t.ok)(hq:Qb 1000 x.t.q)(he:x.err=0) :
  Con prog 64 [.ptr 1000 0,x.av] [(1000,some (b8 l ⟨0,[i],[z0],d⟩ a))] (.tup [.lst 3 [(⟨llq a.rs,[kT l a i j0 x],1⟩:Sv).av],.v .nilIface]) [(1000,some (b8 l ⟨0,[i],[z0],d⟩ a))]:=by
 obtain⟨tw,etw⟩:=cA D.al.tr D.hc;have hc:=FS x hx hq oz;rw[if_pos he,he]at hc;have hs:=LC x hx hq oz;rw[if_pos he,he]at hs;have qc:=oP (half:=x.half) hq;have qs:=pC (half:=x.half) hq;have hs0:Sm 1000 (ah l j0 i):=eT D.hl D.li h0 p0.or;have hb:=xC HX (hs0.mono oz) (Ip hE D h3 h0 p0 hq)
 have ew:dp (P2.l ((qE (dR x.half x.t.q),qE (d5 x.half x.t.q)):P2 (llq a.rs)))=aG (sh 0 (dR x.half x.t.q:Rat)) (sh 0 (d5 x.half x.t.q:Rat)):=by
  show aG (sX (qE (dR x.half x.t.q):Et (llq a.rs))) (sX (qE (d5 x.half x.t.q):Et (llq a.rs)))=_;rw[tU,tU]
 rw[ew]at hb;have hcl:=zw tw;have hcl2:FP 154 [cz a.rs] (aO (llq a.rs)):=by rw[etw];exact hcl
 refine gF func64 (fun k z h=>bH h) ?_;refine gc hc ?_;refine gC (fun t20=>?_) (fun t20=>?_) (st1:=(3,0));cases t20;refine gc hs ?_;refine gC (fun t28=>?_) (fun t28=>?_) (st1:=(6,0));cases t28;refine gi rfl ?_;refine gt (aS (tj hE D.hl D.li _ hg D.al D.hc (k:=0) rfl h0 h3 p0) (.cons (.tmp rfl) (.cons (.const _) (cJ rfl))) rfl rfl rfl) ?_;refine gD ?_ (9,0);refine gW (Wk.of (sl:=[(0,some (.ptr 1000 0)),(6,some (.ptr 6 0)),(8,some (.ptr 8 0)),(9,some (.ptr 9 0)),(10,some (.ptr 10 0)),(11,some (.ptr 52 0))]) (hp:=[(1000,some (b8 l ⟨0,[i],[z0],d⟩ a)),(6,some (.box [bl (rt (dR x.half x.t.q)).neg,ws (rt (dR x.half x.t.q)).num,ws (rt (dR x.half x.t.q)).den])),(8,some (.box [bl (rt (d5 x.half x.t.q)).neg,ws (rt (d5 x.half x.t.q)).num,ws (rt (d5 x.half x.t.q)).den])),(9,some (.box (qC (ah l j0 i)))),(10,some (.box [nA (sX (an l a j0 i).1),nA (sX (an l a j0 i).2)])),(52,some (bf (llq a.rs)))]) bg (.k (.k (.k (.k (.k (.cons rfl (BlkSub.bL (.cons (.of (lU etw)) (.cons (.refl _) .nil)) rfl) .nil))))))) ?_
 refine gc (mV 1 oz) ?_;refine gc (vO (qc.qs oz) (qs.qs oz)) ?_;refine gt (aS (Con.rB 52 rfl rfl rfl rfl (Con.sA (.cons (.refl _) (.cons RT (.cons (.refl _) (.cons (.refl _) (.cons (.refl _) .nil))))) hb)) (.cons (.tmp rfl) (.cons (.tmp rfl) (.cons (.tmp rfl) (.cons (.tmp rfl) (.cons (.tmp rfl) .nil))))) rfl rfl rfl) ?_;refine gD ?_;refine gC (fun t67=>?_) (fun t67=>?_) (st1:=(12,0));cases t67;refine gc hcl2 ?_;refine gD ?_;refine gR ?_;exact aJ.keep (br rfl)
theorem MD{E:Nat}(hE:E<=20000000000){l:Li}{a:As}(D:DyW l a)(h3:(llq a.rs).length<=2){i z0 d:Int}{j0:Jt}(hg:GrOk l ⟨0,[i],[z0],d⟩)(h0:l.jo[z0.toNat]?=some j0)(p0:PinP E l a j0 i){x:Tn}(hx:x.t.ok)(hq:Qb 1000 x.t.q) :
  Con prog 64 [.ptr 1000 0,x.av] [(1000,some (b8 l ⟨0,[i],[z0],d⟩ a))] (oo (jY l a i j0 x)) [(1000,some (b8 l ⟨0,[i],[z0],d⟩ a))]:=by
 by_cases he:x.err=0
 ·have h:=Jn hE D h3 hg h0 p0 hx hq he;unfold jY;rw[if_neg oz];exact h
 ·have h:=Qk (l:=l) (g:=⟨0,[i],[z0],d⟩) (a:=a) hx hq he;unfold jY;rw[if_pos he];exact h
def iP(l:Li)(a:As)(g:Gr)(x:Tn):List AV×Nat :=
  if g.kind=0 then jY l a (aA g 0) (ai l g 0) x
  else if g.kind=1 then hP l a (aA g 0) (aA g 1) (ai l g 0) (ai l g 1) (ai l g 2)
  else if g.kind=2 then iV l a (aA g 0) (ai l g 0) (ai l g 1)
  else gY l a (aA g 0) (ai l g 0) (ai l g 1)
theorem AK{E:Nat}{l:Li}{k:Int}{a:As}{own:Bool}{n:Nat}{g:Gr}(h:DyOk E l k a own n g)(hk:g.kind=0):∃i z0 d j0,g=⟨0,[i],[z0],d⟩/\l.jo[z0.toNat]?=some j0/\PinP E l a j0 i:=by
 have hd:=h.dy;cases hd with
 |rrr _ _ _ _ _ _ _=>exact absurd hk (by simp)
 |pr _ _ _=>exact absurd hk (by simp)
 |rp _ _ _=>exact absurd hk (by simp)
 | @drv b z d j x t d0 hd hb=>exact⟨b,z,d,j,rfl,t.hj,h.pin rfl t (by simp) (by simp)⟩
theorem No{l:Li}{k:Int}{x:Tn}{a:As}{E:Nat}(hop:FP 63 [l.av,i64 k,a.av,bl false] (.tup [.v (.pointer none),cq E]))(h0:E≠0) :
  FP 18 [l.av,i64 k,x.av,a.av] (.tup [.lst 3 [],cq E]):=by
 refine aj func18 ?_;refine gc hop ?_;refine gC (fun t20=>?_) (fun t20=>?_) (st2:=(77777,0))
 ·refine gR ?_;exact d7 (Sub.tup (.cons (.nil _ _ _) (.cons (.refl _) .nil)))
 exact absurd (eH t20) h0
theorem Ri{E:Nat}(hE:E<=20000000000){l:Li}{k:Int}{a:As}{n:Nat}{g:Gr}{x:Tn}(hx:x.t.ok)(hq:Qb 1000 x.t.q)(h3:(llq a.rs).length<=2)(hR:g.kind≠0->E=3900000/\DyS a)(hop:Con prog 63 [l.av,i64 k,a.av,bl false] [] (.tup [.ptr 900 0,.v .nilIface]) [(900,some (b8 l g a))])(D:DyW l a)(ok:DyOk E l k a false n g) :
  FP 18 [l.av,i64 k,x.av,a.av] (oo (iP l a g x)):=by
 have hgo:=ok.ok;refine aj func18 ?_;refine gt (aI hop (.cons (.tmp rfl) (.cons (.tmp rfl) (.cons (.tmp rfl) (.cons (.const _) .nil)))) aL rfl rfl) ?_ (2,0);refine gW (Wk.o (sl:=[(6,some (.ptr 6 0)),(10,some (.ptr 900 0)),(11,some (.v .nilIface))]) (hp:=[(6,some (.box x.av.cells)),(900,some (b8 l g a))])) ?_;refine gC (fun t20=>?_) (fun t20=>?_) (st1:=(3,0));cases t20;refine gC (fun t27=>?_) (fun t27=>?_)
 ·have hk:g.kind = 0:=cB t27;obtain ⟨i,z0,d,j0,e,hj0,p0⟩:=AK ok hk;have eR:iP l a g x = jY l a i j0 x:=by unfold iP; rw [if_pos hk,e]; show jY l a i (l.jo.getD z0.toNat default) x = _; rw [aw hj0]
  subst e;refine gt (aS (Con.rB 900 rfl rfl rfl rfl (MD hE D h3 hgo hj0 p0 hx hq)) (bO rfl rfl) rfl rfl rfl) ?_;refine gR ?_;exact d7 (Sub.of (by rw[eR];rfl))
 have hk0:g.kind≠0:=cK t27;obtain⟨hE9,S⟩:=hR hk0;subst hE9;have D:DyR l a:=⟨D,S⟩
 have hn:=S.one D.hc;refine gC (fun t34=>?_) (fun t34=>?_)
 ·have hk:g.kind = 1:=cB t34;obtain ⟨i,k2,z0,z1,z2,j0,j1,j2,P⟩:=ok.rrr hk;obtain ⟨e0,e1,e2,b0,b1,_⟩:=P.at;have eR:iP l a g x = hP l a i k2 j0 j1 j2:=by unfold iP; rw [if_neg hk0,if_pos hk,e0,e1,e2,b0,b1]
  have e:=P.eq;subst e;refine gt (aS (Con.rB 900 rfl rfl rfl rfl (OQ D hn hgo P)) (cJ rfl) rfl rfl rfl) ?_;refine gR ?_;exact d7 (Sub.of (by rw[eR];rfl))
 have hk1:g.kind≠1:=cK t34;refine gC (fun t40=>?_) (fun t40=>?_)
 ·have hk:g.kind = 2:=cB t40;obtain ⟨i,z0,z1,j0,j,P,ha,hb⟩:=ok.pr hk;obtain ⟨e0,e1,b0,_⟩:=P.at;have eR:iP l a g x = iV l a i j0 j:=by unfold iP; rw [if_neg hk0,if_neg hk1,if_pos hk,e0,e1,b0]
  have e:=P.eq;subst e;refine gt (aS (Con.rB 900 rfl rfl rfl rfl (SH D hn hgo P ha hb)) (cJ rfl) rfl rfl rfl) ?_;refine gR ?_;exact d7 (Sub.of (by rw[eR];rfl))
 have hk2:g.kind≠2:=cK t40;obtain⟨i,z0,z1,j0,j,P,_,hj,hb⟩:=ok.rp hk0 hk1 hk2;obtain⟨e0,e1,b0,_⟩:=P.at;have eR:iP l a g x=gY l a i j0 j:=by unfold iP;rw[if_neg hk0,if_neg hk1,if_neg hk2,e0,e1,b0]
 have e:=P.eq;subst e;refine gt (aS (Con.rB 900 rfl rfl rfl rfl (Q8 D hn hgo P hj hb)) (cJ rfl) rfl rfl rfl) ?_;refine gR ?_;exact d7 (Sub.of (by rw[eR];rfl))
def mL(l:Li)(k:Int)(x:Tn)(a:As):List AV×Nat:=if et l k a false=0 then iP l a (el l k) x else([],et l k a false)
theorem HZ(l:Li)(hl:l.ok)(k:Int){x:Tn}(hx:x.t.ok)(hq:Qb 1000 x.t.q)(a:As)(al:AB a)(h3:bq a.rs=0->(llq a.rs).length<=2){E:Nat}(hE:E<=20000000000)(hs:p7 E l k a false)(hR:et l k a false=0->(el l k).kind≠0->E=3900000/\DyS a) :
  FP 18 [l.av,i64 k,x.av,a.av] (oo (mL l k x a)):=by
 have hop:=A5 l hl k a al false;unfold mL
 by_cases h0:et l k a false=0
 ·obtain ⟨n, g, ok⟩:=vt hs h0;have hgA:el l k = g:=by unfold el; rw [ok.hk,toNat_natCast]; exact aw ok.hg
  have hR:=hR h0;rw[hgA]at hR;rw[h0,hgA]at hop;rw[if_pos h0,hgA];exact Ri hE hx hq (h3 ok.chk) hR hop ⟨hl,ok.li,al,ok.chk⟩ ok
 ·rw[pj h0,ow h0]at hop;rw[if_neg h0];exact No hop h0
theorem AL.dys{a:As}(al:AL a)(hn:bq a.rs=0->(llq a.rs).length<=1):DyS a:=⟨al.tr.mono oz oz,hn⟩
theorem AL.sma{a:As}(al:AL a)(l:Li)(k:Int)(own:Bool):p7 3900000 l k a own:=fun b _ _ p hp x hx=>(al.nr p (mem_of_getElem? hp) x hx).mono oz
theorem N7(l:Li)(hl:l.ok)(k:Int){x:Tn}(hx:x.t.ok)(hq:Qb 1000 x.t.q)(a:As)(al:AL a)(hn:bq a.rs=0->(llq a.rs).length<=1):FP 18 [l.av,i64 k,x.av,a.av] (oo (mL l k x a)) :=
 HZ l hl k hx hq a al.ab (fun h=>le_trans (hn h) oz) oz (al.sma l k false) (fun _ _=>⟨rfl,al.dys hn⟩)
structure SvOk(s:Sv):Prop where
  tw:∃r,Tw s.ts r
  two:s.ts.length<=2
  ps:∀p∈s.ps,Pq.ok s.ts.length 80000000000 p
  ln:s.ps.length<=2
theorem Pu(ts:LL)(x:T ts.length):eG ts x x=true:=by
 unfold eG subT;rw[T.add_neg,T.sgn_zero];rfl
structure SolP(S:List Sv)(kd:Int)(n b:Nat):Prop where
  two:S.length<=2
  ok:∀s∈S,SvOk s
  md:∀(i:Nat)(s:Sv),S[i]?=some s->s.mode=(if kd=0 then 1 else if S.length=2 then 1-2*(i:Int)else 0)/\s.ts.length=n+(if S.length=2 then 1 else 0)/\s.ps.length=b
theorem oS(kd:Int)(n b:Nat):SolP [] kd n b:=⟨by simp,by simp,by simp⟩
theorem wj(f:Nat->Sv)(n:Nat):((List.range n).map fun i=>(f i).av)=((List.range n).map f).map Sv.av:=by rw[map_map];rfl
theorem Jl{ts:LL}(p q:P2 ts)(z z2:Et ts)(h0:eL p q z z2=0):(dc p q z z2).ts.length=ts.length+(if(dc p q z z2).ps.length=2 then 1 else 0):=by
 unfold eL ka at h0;unfold dc lA;split
 ·rename_i hd;rw[if_pos hd]at h0;split
  ·simp
  ·rename_i hz;split
   ·rename_i hp;rw[if_pos ⟨Decidable.not_not.1 hz,hp⟩]at h0;cases h0
   ·simp
 ·split
  ·simp
  ·split
   ·simp
   ·simp[dD]
theorem JG{ts:LL}(p q o:P2 ts)(z:Et ts)(h0:eU p q=0):(dt p q o z).ts.length=ts.length+(if(dt p q o z).ps.length=2 then 1 else 0):=by
 unfold eU at h0;unfold dt;split
 ·rename_i hd;rw[if_pos hd]at h0;cases h0
 ·split
  ·simp
  ·split
   ·simp
   ·simp[dD]
def jK(m:Mt)(hs:List Hd):List Sv:=(List.range m.ps.length).map (io m hs)
def il(l:Li)(a:As)(i k:Int)(j0 j1 j2:Jt):List Sv :=
  if fR [bF (ah l j2 i) (ah l j0 i),bF (ah l j2 k) (ah l j1 k)]=true then[]
  else if eL (an l a j0 i) (an l a j1 k) (qE (aX (ah l j2 i) (ah l j0 i))) (qE (aX (ah l j2 k) (ah l j1 k)))≠0 then[]
  else jK (dc (an l a j0 i) (an l a j1 k) (qE (aX (ah l j2 i) (ah l j0 i))) (qE (aX (ah l j2 k) (ah l j1 k)))) [⟨ah l j0 i,P2.l (an l a j0 i),ah l j2 i⟩,⟨ah l j1 k,P2.l (an l a j1 k),ah l j2 k⟩]
def ib(l:Li)(a:As)(i:Int)(j0 j:Jt):List Sv :=
  if fR [bF (aB l i j.point) (ah l j0 i)]=true then[]
  else if eU (ax l a j.b j.on) (ax l a j.b j.to)≠0 then[]
  else jK (dt (ax l a j.b j.on) (ax l a j.b j.to) (an l a j0 i) (qE (aX (aB l i j.point) (ah l j0 i)))) [⟨ah l j0 i,P2.l (an l a j0 i),aB l i j.point⟩]
def jx(ts:LL)(R:Rp)(qs:LL):List Sv:=(List.range qs.length).map (iQ ts R qs)
def gE(l:Li)(a:As)(i:Int)(j0 j:Jt):List Sv :=
  if am (bZ l a i j0 j)=0/\am (qE (bV l i j0 j):Et (llq a.rs))=0 then[]
  else if am (bi l a i j0 j)<0 then[]
  else if 0<am (bi l a i j0 j)then jx (aQ (llq a.rs) (sX (bi l a i j0 j))) (dg l a i j0 j) [cw (llq a.rs).length,sX (-bu (bi l a i j0 j))]
  else jx (llq a.rs) (dg l a i j0 j) [[]]
def iy(l:Li)(a:As)(i:Int)(j0:Jt)(x:Tn):List Sv:=if x.err≠0 then[]else[⟨llq a.rs,[kT l a i j0 x],1⟩]
def fP(l:Li)(a:As)(g:Gr)(x:Tn):List Sv :=
  if g.kind=0 then iy l a (aA g 0) (ai l g 0) x
  else if g.kind=1 then il l a (aA g 0) (aA g 1) (ai l g 0) (ai l g 1) (ai l g 2)
  else if g.kind=2 then ib l a (aA g 0) (ai l g 0) (ai l g 1)
  else gE l a (aA g 0) (ai l g 0) (ai l g 1)
theorem Jv(l:Li)(a:As)(i k:Int)(j0 j1 j2:Jt):(hP l a i k j0 j1 j2).1=(il l a i k j0 j1 j2).map Sv.av:=by
 unfold hP il;split
 ·rfl
 ·split
  ·rfl
  ·exact wj _ _
theorem Ns(l:Li)(a:As)(i:Int)(j0 j:Jt):(iV l a i j0 j).1=(ib l a i j0 j).map Sv.av:=by
 unfold iV ib;split
 ·rfl
 ·split
  ·rfl
  ·exact wj _ _
theorem Rb(l:Li)(a:As)(i:Int)(j0 j:Jt):(gY l a i j0 j).1=(gE l a i j0 j).map Sv.av:=by
 unfold gY gE;split
 ·rfl
 ·split
  ·rfl
  ·split
   ·exact wj _ _
   ·exact wj _ _
theorem Ki(l:Li)(a:As)(g:Gr)(x:Tn):(iP l a g x).1=(fP l a g x).map Sv.av:=by
 unfold iP fP;split
 ·unfold jY iy;split <;> rfl
 ·split
  ·exact Jv ..
  ·split
   ·exact Ns ..
   ·exact Rb ..
theorem Fv{ts:LL}{m:Mt}(ok:MtOk ts m){hs:List Hd}(hl:hs.length<=2)(H:∀x∈m.ps,∀h∈hs,HdP m.ts x h){kd:Int}(hk:kd≠0)(lv:m.ts.length=ts.length+(if m.ps.length=2 then 1 else 0)) :
  SolP (jK m hs) kd ts.length hs.length:=by
 have hln:=ok.ln;refine⟨by simpa[jK]using hln,?_,?_⟩
 ·intro s hs2;obtain⟨i,hi,rfl⟩:=List.mem_map.1 hs2;obtain⟨x,hx⟩:=aH (List.mem_range.1 hi);obtain⟨r,tw,_⟩:=ok.tw;refine⟨⟨r,tw⟩,ok.two,?_,by simpa[io]using hl⟩;intro p hp;unfold io at hp;rw[aw hx]at hp;obtain⟨h,hh,rfl⟩:=List.mem_map.1 hp;exact(H x (mem_of_getElem? hx) h hh).b.ok
 ·intro i s hi;unfold jK at hi;have hin:i < m.ps.length:=by have:=(List.getElem?_eq_some_iff.1 hi).1; simpa using this
  have e:s=io m hs i:=by simp[hin]at hi;exact hi.symm
  subst e;have hlen:(jK m hs).length=m.ps.length:=by simp[jK]
  rw[hlen,if_neg hk];refine⟨?_,lv,by simp[io]⟩;show(if m.ps.length=1 then 0 else 1-2*(i:Int))=_
  by_cases h2:m.ps.length=2
  ·rw[if_neg oz,if_pos h2]
  ·rw[if_pos oz,if_neg h2]
theorem ST{l:Li}{a:As}(D:DyR l a)(hn:(llq a.rs).length<=1){g:Gr}{i k z0 z1 z2:Int}{j0 j1 j2:Jt}(P:RrrP 3900000 l a g i k z0 z1 z2 j0 j1 j2):SolP (il l a i k j0 j1 j2) 1 (llq a.rs).length 2:=by
 have c:=D.s.ct D.hc;obtain⟨tw,etw⟩:=cA D.s.tr D.hc;have hq0:=eT D.hl D.li P.h0 P.p0.or;have hq1:=eT D.hl D.li P.h1 P.p1.or;have hq2:=eT D.hl D.li P.h2 P.t1;have hq3:=eT D.hl D.li P.h2 P.t2;obtain⟨y1,y2⟩:=kl D.hl D.li D.al D.s D.hc P.h0 P.p0;obtain⟨y3,y4⟩:=kl D.hl D.li D.al D.s D.hc P.h1 P.p1;haveI:=c;haveI q1:=lX hq2 hq0;haveI q2:=lX hq3 hq1;have z1:Zu 310000 65000 (qE (aX (ah l j2 i) (ah l j0 i)):Et (llq a.rs)) 3 0:=inferInstance;have z2:Zu 310000 65000 (qE (aX (ah l j2 k) (ah l j1 k)):Et (llq a.rs)) 3 0:=inferInstance;unfold il
 by_cases h1:fR [bF (ah l j2 i) (ah l j0 i),bF (ah l j2 k) (ah l j1 k)]=true
 ·rw[if_pos h1];exact oS _ _ _
 ·rw[if_neg h1];obtain⟨w1,w2⟩:=pZ (Bool.eq_false_iff.2 h1)
  by_cases h2:eL (an l a j0 i) (an l a j1 k) (qE (aX (ah l j2 i) (ah l j0 i))) (qE (aX (ah l j2 k) (ah l j1 k)))≠0
  ·rw[if_pos h2];exact oS _ _ _
  ·rw[if_neg h2];have h3:=Decidable.not_not.1 h2;have ok:=Di (x:=(an l a j0 i).1) (y:=(an l a j0 i).2) (x2:=(an l a j1 k).1) (y2:=(an l a j1 k).2) tw hn c y1 y2 z1 y3 y4 z2 h3;exact Fv ok (by simp) (fun x hx=>lr (qM ok hx (y1.nm.mono (by decide)) (y2.nm.mono (by decide)) hq0 hq2 w1) (qM ok hx (y3.nm.mono (by decide)) (y4.nm.mono (by decide)) hq1 hq3 w2)) (by decide) (Jl _ _ _ _ h3)
theorem OS{l:Li}{a:As}(D:DyR l a)(hn:(llq a.rs).length<=1){g:Gr}{i z0 z1:Int}{j0 j:Jt}(P:SlP 3900000 l a g 2 i z0 z1 j0 j)(ha:j.a=i)(hb:Pd 3900000 a j.b):SolP (ib l a i j0 j) 2 (llq a.rs).length 1:=by
 have c:=D.s.ct D.hc;obtain⟨tw,etw⟩:=cA D.s.tr D.hc;obtain⟨i1,i2,i3,i4,i5⟩:=cH D.li P.h1;have hq2:Sm 1000 (aB l i j.point):=by rw[<- ha];exact iM D.hl D.li i1 i3
 have hq0:=eT D.hl D.li P.h0 P.p0.or;obtain⟨y1,y2⟩:=kl D.hl D.li D.al D.s D.hc P.h0 P.p0;obtain⟨y3,y4⟩:=lG D.hl D.li D.al D.s D.hc i2 i4 hb;obtain⟨y5,y6⟩:=lG D.hl D.li D.al D.s D.hc i2 (i5 P.hk) hb;haveI:=c;haveI q1:=lX hq2 hq0;have z1:Zu 310000 65000 (qE (aX (aB l i j.point) (ah l j0 i)):Et (llq a.rs)) 3 0:=inferInstance;unfold ib
 by_cases h1:fR [bF (aB l i j.point) (ah l j0 i)]=true
 ·rw[if_pos h1];exact oS _ _ _
 ·rw[if_neg h1];have w1:=rc (Bool.eq_false_iff.2 h1)
  by_cases h2:eU (ax l a j.b j.on) (ax l a j.b j.to)≠0
  ·rw[if_pos h2];exact oS _ _ _
  ·rw[if_neg h2];have h3:=Decidable.not_not.1 h2;have ok:=E9 (o:=an l a j0 i) (p:=ax l a j.b j.on) (q:=ax l a j.b j.to) (z:=qE (aX (aB l i j.point) (ah l j0 i))) tw hn c y1 y2 y3 y4 y5 y6 z1 h3;exact Fv ok (by simp) (fun x hx=>iD (qM ok hx (y1.nm.mono (by decide)) (y2.nm.mono (by decide)) hq0 hq2 w1)) (by decide) (JG _ _ _ _ h3)
theorem Il{ts T:LL}{R:Rp}{qs:LL}(ct:Cy T 773000000 1101400000)(hl:qs.length<=2)(h1:1<=qs.length)(H:∀q∈qs,RqP T R q)(lv:T.length=ts.length+(if qs.length=2 then 1 else 0)):SolP (jx T R qs) 3 ts.length 1:=by
 refine⟨by simpa[jx]using hl,?_,?_⟩
 ·intro s hs2;obtain⟨i,hi,rfl⟩:=List.mem_map.1 hs2;obtain⟨x,hx⟩:=aH (List.mem_range.1 hi);obtain⟨r,tw,_⟩:=ct.ex;refine⟨⟨r,tw⟩,ct.two,?_,by simp[iQ]⟩;intro p hp;unfold iQ at hp;rw[aw hx]at hp;rw[List.mem_singleton.1 hp];exact(H x (mem_of_getElem? hx)).b.ok
 ·intro i s hi;unfold jx at hi;have hin:i < qs.length:=by have:=(List.getElem?_eq_some_iff.1 hi).1; simpa using this
  have e:s=iQ T R qs i:=by simp[hin]at hi;exact hi.symm
  subst e;have hlen:(jx T R qs).length=qs.length:=by simp[jx]
  rw[hlen,if_neg (by decide)];refine⟨?_,lv,by simp[iQ]⟩;show(if qs.length=1 then 0 else 1-2*(i:Int))=_
  by_cases h2:qs.length=2
  ·rw[if_neg oz,if_pos h2]
  ·rw[if_pos oz,if_neg h2]
theorem Up{l:Li}{a:As}(D:DyR l a)(hn:(llq a.rs).length<=1){g:Gr}{i z0 z1:Int}{j0 j:Jt}(P:SlP 3900000 l a g 3 i z0 z1 j0 j)(hj:j.b=i)(hb:Pd 3900000 a j.a):SolP (gE l a i j0 j) 3 (llq a.rs).length 1:=by
 obtain⟨tw,etw⟩:=cA D.s.tr D.hc;have F:=GC D hn P hj hb;unfold gE
 by_cases h1:am (bZ l a i j0 j)=0/\am (qE (bV l i j0 j):Et (llq a.rs))=0
 ·rw[if_pos h1];exact oS _ _ _
 ·rw[if_neg h1]
  by_cases h2:am (bi l a i j0 j)<0
  ·rw[if_pos h2];exact oS _ _ _
  ·rw[if_neg h2];have hd0:am (bZ l a i j0 j)≠0:=rJ tw h2 h1
   by_cases h3:0<am (bi l a i j0 j)
   ·rw[if_pos h3];obtain⟨E,R1,R2,_⟩:=I7 F tw hn hd0 oz;exact Il (ts:=llq a.rs) (qs:=[cw (llq a.rs).length,sX (-bu (bi l a i j0 j))]) E.cy (le_refl 2) (by show 1<=2;omega) (lr R1 R2) (dD (llq a.rs) (sX (bi l a i j0 j)))
   ·rw[if_neg h3];obtain⟨cs,R0⟩:=Cn F tw hn hd0;exact Il (ts:=llq a.rs) (qs:=[[]]) cs (by show 1<=2;omega) (le_refl 1) (iD R0) rfl
theorem ON{E:Nat}(hE:E<=20000000000){l:Li}{a:As}(D:DyW l a)(h3:(llq a.rs).length<=2){i z0:Int}{j0:Jt}(h0:l.jo[z0.toNat]?=some j0)(p0:PinP E l a j0 i){x:Tn}(hq:Qb 1000 x.t.q):SolP (iy l a i j0 x) 0 (llq a.rs).length 1:=by
 obtain⟨tw,etw⟩:=cA D.al.tr D.hc;unfold iy
 by_cases he:x.err≠0
 ·rw[if_pos he];exact oS _ _ _
 ·rw [if_neg he];refine ⟨by simp,iD ⟨⟨_,tw⟩,h3,iD (Ip hE D h3 h0 p0 hq).ok,by show 1 <= 2; omega⟩,?_⟩;intro n s hs
  match n,hs with
  |0,hs=>cases hs;exact⟨rfl,rfl,rfl⟩
theorem IC{E:Nat}(hE:E<=20000000000){l:Li}{k:Int}{a:As}{n:Nat}{g:Gr}{x:Tn}(D:DyW l a)(h3:(llq a.rs).length<=2)(ok:DyOk E l k a false n g)(hR:g.kind≠0->E=3900000/\DyS a)(hq:Qb 1000 x.t.q):SolP (fP l a g x) g.kind (llq a.rs).length g.bo.length:=by
 unfold fP
 by_cases hk0:g.kind=0
 ·obtain⟨i,z0,d,j0,e,hj0,p0⟩:=AK ok hk0;rw[if_pos hk0,e];show SolP (iy l a i (l.jo.getD z0.toNat default) x) _ _ _;rw[aw hj0];exact ON hE D h3 hj0 p0 hq
 ·rw[if_neg hk0];obtain⟨hE9,S⟩:=hR hk0;subst hE9;have D:DyR l a:=⟨D,S⟩
  have hn:=S.one D.hc
  by_cases hk1:g.kind=1
  ·obtain⟨i,k2,z0,z1,z2,j0,j1,j2,P⟩:=ok.rrr hk1;obtain⟨e0,e1,e2,b0,b1,_⟩:=P.at;rw[if_pos hk1,e0,e1,e2,b0,b1,hk1,P.eq];exact ST D hn P
  ·rw[if_neg hk1]
   by_cases hk2:g.kind=2
   ·obtain⟨i,z0,z1,j0,j,P,ha,hb⟩:=ok.pr hk2;obtain⟨e0,e1,b0,_⟩:=P.at;rw[if_pos hk2,e0,e1,b0,hk2,P.eq];exact OS D hn P ha hb
   ·obtain⟨i,z0,z1,j0,j,P,_,hj,hb⟩:=ok.rp hk0 hk1 hk2;obtain⟨e0,e1,b0,hk3⟩:=P.at;rw[if_neg hk2,e0,e1,b0,hk3,P.eq];exact Up D hn P hj hb
open Lean.Grind (CommRing)
structure Hm{ts:LL}{R:Type}[CommRing R](f:Et ts->R):Prop where
  add:∀x y,f (x+y)=f x+f y
  mul:∀x y,f (x*y)=f x*f y
  neg:∀x,f (-x)=-f x
  one:f 1=1
  inv:∀x,am x≠0->f (iE x)*f x=1
  zero:∀x,f x=0↔am x=0
section
variable{ts:LL}{R:Type}[CommRing R]{f:Et ts->R}(h:Hm f)
include h
theorem Hm.sub(x y:Et ts):f (x-y)=f x-f y:=by
 rw[show x-y=x+-y by grind,h.add,h.neg];grind
theorem Hm.nul:f 0=0:=by
 have e:=h.add 0 0;rw[show(0:Et ts)+0=0 by grind]at e;grind
theorem Hm.q1:f (qE ((1:Int):Rat))=1:=by rw[lc];exact h.one
theorem Hm.q4:f (qE 4)=4:=by
 have e:(qE 4:Et ts)=1+1+1+1:=by
  have e1:=l7 (r:=ao ts) (n:=ts.length) 1 1;have e2:=l7 (r:=ao ts) (n:=ts.length) 2 2;rw[show(1:Rat)+1=2 by decide +kernel]at e1;rw[show(2:Rat)+2=4 by decide +kernel,e1]at e2;rw[e2];have e3:(qE 1:Et ts)=1:=rfl;rw[e3];grind
 rw[e,h.add,h.add,h.add,h.one];grind
end
abbrev cS(ts:LL):Prop:=fh (ao ts) ts.length
theorem qU{ts:LL}(hp:cS ts):Hm (ae hp:Et ts->Zq hp) :=
 ⟨fun _ _=>rfl,fun _ _=>rfl,fun _=>rfl,rfl,fun x hx=>wt hp hx,fun x=>eI hp⟩
theorem LP{ts:LL}(X:Et ts)(hp:cS (aQ ts (sX X))):Hm (fun x:Et ts=>ae hp (aM X x)) :=
  ⟨fun x y => by rw [pN]; rfl, fun x y => by rw [fj]; rfl, fun x => by rw [GI]; rfl,
   by have e := nV X ((1 : Nat) : Rat)
      have e1:(qE ((1:Nat):Rat):Et ts)=1:=rfl;rw[e1]at e;rw[e];rfl,
   fun x hx=>by rw[oQ];exact wt hp (by show am (aM X x)≠0;rw[pg];exact hx),
   fun x=>by rw[eI hp];show am (aM X x)=0↔_;rw[pg]⟩
theorem GG(k:Nat):ac (k+1) (cw k)=(T.zero k,T.ofQ k 1):=by
 have h1:(cw k).take (2^k)=List.replicate (2^k) 0:=by
  unfold cw;rw[List.take_set_of_le (le_refl _),List.take_replicate];congr 1;have:=Nat.pow_lt_pow_right (a:=2) oz (Nat.lt_succ_self k);omega
 have h2:(cw k).drop (2^k)=(1:Rat)::List.replicate (2^k-1) 0:=by
  unfold cw;rw[List.drop_set,if_neg oz,Nat.sub_self,List.drop_replicate]
  have e:2^(k+1)-2^k=(2^k-1)+1:=by
   have h3:0<2^k:=Nat.pow_pos oz;have h4:2^(k+1)=2^k+2^k:=by rw[Nat.pow_succ];omega
   omega
  rw[e,List.replicate_succ,List.set_cons_zero]
 show(ac k _,ac k _)=_;rw[h1,h2]
 have e1:ac k (List.replicate (2^k) (0:Rat))=T.zero k:=by
  rw[<- ia]
  exact o4 k (fun i _=>by
   rw[getD_eq_getElem?_getD,getD_eq_getElem?_getD,List.getElem?_replicate];split <;> rfl)
 have e2:ac k ((1:Rat)::List.replicate (2^k-1) 0)=T.ofQ k 1:=by
  rw[<- mf]
  exact o4 k (fun i _=>by
   cases i with
   |zero=>rfl
   |succ i =>
    rw[getD_eq_getElem?_getD,getD_eq_getElem?_getD,List.getElem?_cons_succ,List.getElem?_replicate];split <;> rfl)
 rw[e1,e2]
theorem PW{n N:Nat}(hN:N=n+1){r:(k:Nat)->T k}(x:T n)(hx:r n=x):T.mul r N (ac N (cw n)) (ac N (cw n))=iS x:=by
 subst hN;rw[GG,j8];show(T.add n (T.mul r n (T.zero n) (T.zero n)) (T.mul r n (T.mul r n (T.ofQ n 1) (T.ofQ n 1)) (r n)),T.add n (T.mul r n (T.zero n) (T.ofQ n 1)) (T.mul r n (T.ofQ n 1) (T.zero n)))=_;have L:=mT r n;rw[L.one,L.one,T.zero_mul,T.zero_mul,T.zero_add,L.one,T.zero_add,hx]
theorem AG{ts:LL}(X:Et ts):bu X*bu X=aM X X:=by
 refine PW (dD _ _) X ?_;show ac ts.length ((aQ ts (sX X)).getD ts.length [])=X;rw[s6,mU];exact a5 _ _
section
variable{R:Type}[CommRing R]
theorem M7{p1 p2 q1 q2 z z2 i t:R}(hi:i*(((p1-q1)*(p1-q1)+(p2-q2)*(p2-q2))+((p1-q1)*(p1-q1)+(p2-q2)*(p2-q2)))=1)
  (ht:t*t=4*(z*((p1-q1)*(p1-q1)+(p2-q2)*(p2-q2)))-((z+((p1-q1)*(p1-q1)+(p2-q2)*(p2-q2)))-z2)*((z+((p1-q1)*(p1-q1)+(p2-q2)*(p2-q2)))-z2))
  {x y:R} (hx:x=p1+((z+((p1-q1)*(p1-q1)+(p2-q2)*(p2-q2)))-z2)*i*(q1-p1)+t*(i*-(q2-p2))) (hy:y=p2+((z+((p1-q1)*(p1-q1)+(p2-q2)*(p2-q2)))-z2)*i*(q2-p2)+t*(i*(q1-p1))) :
  (x-p1)*(x-p1)+(y-p2)*(y-p2)=z/\(x-q1)*(x-q1)+(y-q2)*(y-q2)=z2:=by
 obtain⟨d,hd⟩:∃d,d=(p1-q1)*(p1-q1)+(p2-q2)*(p2-q2):=⟨_,rfl⟩
 rw[<- hd]at hi ht hx hy;obtain⟨a,ha⟩:∃a,a=z+d-z2:=⟨_,rfl⟩
 rw[<- ha]at ht hx hy;have e1:(x-p1)*(x-p1)+(y-p2)*(y-p2)=(a*a+t*t)*(i*i)*d:=by rw[hx,hy,hd];grind
 have e2:(a*a+t*t)*(i*i)*d=z:=by
  rw[ht];have:(a*a+(4*(z*d)-a*a))*(i*i)*d=z*(i*(d+d))*(i*(d+d)):=by grind
  rw[this,hi];grind
 have e3:(x-q1)*(x-q1)+(y-q2)*(y-q2)=((x-p1)*(x-p1)+(y-p2)*(y-p2))-a*(i*(d+d))+d:=by rw[hx,hy,hd];grind
 refine⟨e1.trans e2,?_⟩;rw[e3,e1,e2,hi,ha];grind
theorem Kw(e t i S:R):(e+t)*i*S=(e+t)*(i*S):=by grind
theorem US(z i S W:R):i*S*z-i*(S*W)+W=z*(i*S)-(i*S)*W+W:=by grind
theorem Nj(z W:R):z*1-1*W+W=z:=by grind
theorem ME(x:R):x*1=x:=by grind
theorem M8(k e t S:R):k*k*S-(k*e+k*e)=k*(k*S)-(k*e+k*e):=by grind
theorem UK(e t i:R):(e+t)*i*(e+t)-((e+t)*i*e+(e+t)*i*e)=i*(t*t-e*e):=by grind
theorem JP{p1 p2 q1 q2 c1 c2 z i t k:R}(hi:i*((q1-p1)*(q1-p1)+(q2-p2)*(q2-p2))=1)
  (ht:t*t=((q1-p1)*(q1-p1)+(q2-p2)*(q2-p2))*z-((q1-p1)*(c2-p2)-(q2-p2)*(c1-p1))*((q1-p1)*(c2-p2)-(q2-p2)*(c1-p1)))
  (hk:k=((q1-p1)*(c1-p1)+(q2-p2)*(c2-p2)+t)*i)
  {x y:R} (hx:x=p1+k*(q1-p1)) (hy:y=p2+k*(q2-p2)) :
  (x-c1)*(x-c1)+(y-c2)*(y-c2)=z/\(q1-p1)*(y-p2)-(q2-p2)*(x-p1)=0:=by
 refine⟨?_,by rw[hx,hy];grind⟩;obtain⟨S,hS⟩:∃S,S=(q1-p1)*(q1-p1)+(q2-p2)*(q2-p2):=⟨_,rfl⟩
 obtain⟨e,he⟩:∃e,e=(q1-p1)*(c1-p1)+(q2-p2)*(c2-p2):=⟨_,rfl⟩
 obtain⟨C,hC⟩:∃C,C=(q1-p1)*(c2-p2)-(q2-p2)*(c1-p1):=⟨_,rfl⟩
 obtain⟨W,hW⟩:∃W,W=(c1-p1)*(c1-p1)+(c2-p2)*(c2-p2):=⟨_,rfl⟩
 rw[<- hS]at hi ht;rw[<- he]at hk;rw[<- hC]at ht;have e0:e*e+C*C=S*W:=by rw[he,hC,hS,hW];grind
 have e1:(x-c1)*(x-c1)+(y-c2)*(y-c2)=k*k*S-(k*e+k*e)+W:=by rw[hx,hy,hS,he,hW];grind
 have e2:k*S=e+t:=by rw[hk,Kw,hi,ME]
 have e3:k*k*S-(k*e+k*e)+W=i*(t*t-e*e)+W:=by
  rw[M8 k e t S,e2,hk,UK]
 rw[e1,e3,ht];have:i*(S*z-C*C-e*e)+W=i*S*z-i*(e*e+C*C)+W:=by grind
 rw[this,e0,US,hi,Nj]
theorem VG{W1 W2 N hh i t D w1 w2:R}(hD:D=W1*W1+W2*W2)(hi:i*D=1)(ht:t*t=N*D-hh*hh)
  (h1:w1=(t*W1-hh*-W2)*i) (h2:w2=(t*W2-hh*W1)*i):w1*w1+w2*w2=N/\w1*W2-w2*W1=hh:=by
 have e1:w1*w1+w2*w2=(t*t+hh*hh)*(i*D)*i:=by rw[h1,h2,hD];grind
 have e2:w1*W2-w2*W1=hh*(i*D):=by rw[h1,h2,hD];grind
 refine⟨?_,by rw[e2,hi];grind⟩;rw[e1,ht,hi];have:(N*D-hh*hh+hh*hh)*1*i=N*(i*D):=by grind
 rw[this,hi];grind
theorem IW{u1 u2 w1 w2 n i c s:R}(hn:n=u1*u1+u2*u2)(hi:i*n=1)(hc:c=(u1*w1+u2*w2)*i)(hs:s=(u1*w2-u2*w1)*i) :
  (c*u1-s*u2=w1/\s*u1+c*u2=w2)/\(w1*w1+w2*w2=n->c*c+s*s=1):=by
 have e1:c*u1-s*u2=w1*(i*n):=by rw[hc,hs,hn];grind
 have e2:s*u1+c*u2=w2*(i*n):=by rw[hc,hs,hn];grind
 refine⟨⟨by rw[e1,hi];grind,by rw[e2,hi];grind⟩,fun hw=>?_⟩;have e3:c*c+s*s=(w1*w1+w2*w2)*(i*n)*i:=by rw[hc,hs,hn];grind
 rw[e3,hw,hi];rw[show n*1*i=i*n by grind,hi]
end
end Go.Lw
namespace Go.Lw
open Lean.Grind (CommRing)
def au{ts:LL}(T:LL)(y:Et ts):Et T:=dE T (sX y)
structure Lf(ts T:LL):Prop where
  pos:cS T
  hm:Hm (fun y:Et ts=>ae pos (au T y))
  low:∀l:List Rat,l.length<=2^ts.length->au T (dE ts l)=dE T l
  q:∀q:Rat,au T (qE q:Et ts)=qE q
  len:ts.length<=T.length
  sg:∀y:Et ts,am (au T y)=am y
  ad:∀x y:Et ts,au T (x+y)=au T x+au T y
  mu:∀x y:Et ts,au T (x*y)=au T x*au T y
theorem c9{ts:LL}(y:Et ts):au ts y=y:=a5 _ _
theorem lT{ts:LL}(hp:cS ts):Lf ts ts:=by
 refine⟨hp,?_,fun l _=>c9 _,fun q=>c9 _,le_refl _,fun y=>by rw[c9],fun x y=>by rw[c9,c9,c9],fun x y=>by rw[c9,c9,c9]⟩;have e:(fun y:Et ts=>ae hp (au ts y))=ae hp:=funext fun y=>by rw[c9]
 rw[e];exact qU hp
theorem Rj{n N:Nat}(hN:N=n+1){l:List Rat}(h:l.length<=2^n):ac N (sh n (ac n l))=ac N l:=by
 subst hN;rw[fY (di n _).le,a5,fY h]
theorem rI{ts:LL}(X:Et ts)(hp:cS (aQ ts (sX X))):Lf ts (aQ ts (sX X)) :=
 ⟨hp,LP X hp,fun l h=>Rj (dD _ _) h,fun q=>nV X q,by rw[dD];omega,fun y=>pg,fun x y=>pN X x y,fun x y=>fj X x y⟩
structure CirG(ts T:LL)(x:List Rat×List Rat)(p q:P2 ts)(z z2:Et ts):Prop where
  lf:Lf ts T
  c1:am ((dE T x.1-au T p.1)*(dE T x.1-au T p.1)+(dE T x.2-au T p.2)*(dE T x.2-au T p.2)-au T z)=0
  c2:am ((dE T x.1-au T q.1)*(dE T x.1-au T q.1)+(dE T x.2-au T q.2)*(dE T x.2-au T q.2)-au T z2)=0
section
variable{ts:LL}
theorem r8{R:Type}[CommRing R]{f:Et ts->R}(h:Hm f)(p q:P2 ts):f (az p q)=(f p.1-f q.1)*(f p.1-f q.1)+(f p.2-f q.2)*(f p.2-f q.2):=by
 show f ((p.1-q.1)*(p.1-q.1)+(p.2-q.2)*(p.2-q.2))=_;rw[h.add,h.mul,h.mul,h.sub,h.sub]
theorem IZ{R:Type}[CommRing R]{f:Et ts->R}(h:Hm f)(p q:P2 ts)(z z2:Et ts){D:R}(hD:f (az p q)=D):f (bc p z q z2)=4*(f z*D)-((f z+D)-f z2)*((f z+D)-f z2):=by
 subst hD;unfold bc;rw[h.sub,h.mul,h.mul,h.mul,h.sub,h.add,h.q4]
theorem Mv{R:Type}[CommRing R]{f:Et ts->R}(h:Hm f){p q:P2 ts}{z z2:Et ts}(hd2:am (az p q+az p q)≠0){t:R}(ht:t*t=f (bc p z q z2)){x y:R}
  (hx:x=f (cV p q z z2).1+t*f (gh p q).1) (hy:y=f (cV p q z z2).2+t*f (gh p q).2) :
  (x-f p.1)*(x-f p.1)+(y-f p.2)*(y-f p.2)=f z/\(x-f q.1)*(x-f q.1)+(y-f q.2)*(y-f q.2)=f z2:=by
 have d:=r8 h p q;have hi:=h.inv _ hd2;rw[h.add,d]at hi;rw[IZ h p q z z2 d]at ht;refine M7 hi ht ?_ ?_
 ·rw[hx,xr];unfold cG gh;dsimp only;show f (p.1+qE ((1:Int):Rat)*iE (az p q+az p q)*(z+az p q-z2)*(q.1-p.1))+t*f (qE ((1:Int):Rat)*iE (az p q+az p q)*(0-(q.2-p.2)))=_;simp only[h.add,h.mul,h.sub,h.q1,h.nul,d];generalize(f p.1-f q.1)*(f p.1-f q.1)+(f p.2-f q.2)*(f p.2-f q.2)=D;generalize f (iE (az p q+az p q))=i;clear ht hi hx hy;grind
 ·rw[hy,xr];unfold cG gh;dsimp only;show f (p.2+qE ((1:Int):Rat)*iE (az p q+az p q)*(z+az p q-z2)*(q.2-p.2))+t*f (qE ((1:Int):Rat)*iE (az p q+az p q)*(q.1-p.1))=_;simp only[h.add,h.mul,h.sub,h.q1,d];generalize(f p.1-f q.1)*(f p.1-f q.1)+(f p.2-f q.2)*(f p.2-f q.2)=D;generalize f (iE (az p q+az p q))=i;clear ht hi hx hy;grind
theorem HO{r:Nat}(tw:Tw ts r){d:Et ts}(hd:am d≠0):am (d+d)≠0:=by
 rw[<- Ap,uY tw];exact hd
theorem AF{T:LL}(L:Lf ts T){x:List Rat×List Rat}{p q:P2 ts}{z z2:Et ts}(hd2:am (az p q+az p q)≠0){t:Et T}(ht:ae L.pos (t*t)=ae L.pos (au T (bc p z q z2)))
  (hx:dE T x.1=au T (cV p q z z2).1+t*au T (gh p q).1) (hy:dE T x.2=au T (cV p q z z2).2+t*au T (gh p q).2):CirG ts T x p q z z2:=by
 have g:=Mv L.hm hd2 (t:=ae L.pos t) ht (x:=ae L.pos (dE T x.1)) (y:=ae L.pos (dE T x.2)) (by rw[hx];rfl) (by rw[hy];rfl);refine⟨L,?_,?_⟩
 ·refine(eI L.pos).1 ?_;rw[bC,ee,bm,bm,bC,bC];have:=g.1;generalize ae L.pos (au T z)=Z at *;generalize ae L.pos (au T p.1)=P1 at *;generalize ae L.pos (au T p.2)=P2 at *;rw[this];grind
 ·refine(eI L.pos).1 ?_;rw[bC,ee,bm,bm,bC,bC];have:=g.2;rw[this];grind
theorem ef{T:LL}(y:Et T):dE T (sX y)=y:=a5 _ _
theorem Tc{r:Nat}(tw:Tw ts r)(hx4:∀X:Et ts,0<am X->cS (aQ ts (sX X))){p q:P2 ts}{z z2:Et ts}(h0:eL p q z z2=0)(hz:0<am z) :
  ∀x∈(dc p q z z2).ps,CirG ts (dc p q z z2).ts x p q z z2:=by
 intro x;unfold eL ka at h0;unfold dc;split
 ·rename_i hd;rw[if_pos hd]at h0;unfold lA;split
  ·intro hx;cases hx
  ·intro hx;cases hx
 ·rename_i hd;have hd2:=HO tw hd;split
  ·intro hx;cases hx
  ·rename_i hn;split
   ·rename_i hX;intro hx;rw[List.mem_singleton.1 hx];have hp:cS ts:=tw.pos;refine AF (lT hp) hd2 (t:=0) ?_ ?_ ?_
    ·refine((eI hp).2 ?_).trans ((eI hp).2 ?_).symm
     ·rw[show(0:Et ts)*0=0 by grind];exact(dz _ _ hp).zero
     ·rw[c9];exact hX
    ·rw[c9,c9,ef];grind
    ·rw[c9,c9,ef];grind
   ·rename_i hX;have hX1:0 < am (bc p z q z2):=by omega
    have hp:=hx4 _ hX1;intro hx;have L:=rI (bc p z q z2) hp;have e:=AG (bc p z q z2);rcases List.mem_cons.1 hx with rfl |hx
    ·refine AF L hd2 (t := bu (bc p z q z2)) (by rw [e]; rfl) ?_ ?_
     ·rw[ef];exact congrArg Prod.fst (tI (bc p z q z2) (cV p q z z2) p q)
     ·rw[ef];exact congrArg Prod.snd (tI (bc p z q z2) (cV p q z z2) p q)
    ·rw [List.mem_singleton.1 hx];refine AF L hd2 (t:=-bu (bc p z q z2)) (by rw [show -bu (bc p z q z2) * -bu (bc p z q z2) = bu (bc p z q z2) * bu (bc p z q z2) by grind,e]; rfl) ?_ ?_
     ·rw[ef,congrArg Prod.fst (u6 (bc p z q z2) (cV p q z z2) p q)];show aM _ _-_*aM _ _=aM _ _+-_*aM _ _;grind
     ·rw[ef,congrArg Prod.snd (u6 (bc p z q z2) (cV p q z z2) p q)];show aM _ _-_*aM _ _=aM _ _+-_*aM _ _;grind
structure LinG(ts T:LL)(x:List Rat×List Rat)(p q c:P2 ts)(z:Et ts):Prop where
  lf:Lf ts T
  c:am ((dE T x.1-au T c.1)*(dE T x.1-au T c.1)+(dE T x.2-au T c.2)*(dE T x.2-au T c.2)-au T z)=0
  l:am ((au T q.1-au T p.1)*(dE T x.2-au T p.2)-(au T q.2-au T p.2)*(dE T x.1-au T p.1))=0
theorem Ry{R:Type}[CommRing R]{f:Et ts->R}(h:Hm f){p q c:P2 ts}{z:Et ts}(hd:am (ba p q)≠0){t:R}(ht:t*t=f (aR p q c z)){x y:R}
  (hx:x=f (cG p (bI p q c*iE (ba p q)) (aK q p)).1+t*f (f0 p q).1) (hy:y=f (cG p (bI p q c*iE (ba p q)) (aK q p)).2+t*f (f0 p q).2) :
  (x-f c.1)*(x-f c.1)+(y-f c.2)*(y-f c.2)=f z/\(f q.1-f p.1)*(y-f p.2)-(f q.2-f p.2)*(x-f p.1)=0:=by
 have hi:=h.inv _ hd
 have eS:f (ba p q)=(f q.1-f p.1)*(f q.1-f p.1)+(f q.2-f p.2)*(f q.2-f p.2):=by
  show f ((q.1-p.1)*(q.1-p.1)+(q.2-p.2)*(q.2-p.2))=_;simp only[h.add,h.mul,h.sub]
 have eE:f (bI p q c)=(f q.1-f p.1)*(f c.1-f p.1)+(f q.2-f p.2)*(f c.2-f p.2):=by
  show f ((q.1-p.1)*(c.1-p.1)+(q.2-p.2)*(c.2-p.2))=_;simp only[h.add,h.mul,h.sub]
 have eC:f (gS p q c)=(f q.1-f p.1)*(f c.2-f p.2)-(f q.2-f p.2)*(f c.1-f p.1):=by
  show f ((q.1-p.1)*(c.2-p.2)-(q.2-p.2)*(c.1-p.1))=_;simp only[h.mul,h.sub]
 have eX:f (aR p q c z)=f (ba p q)*f z-f (gS p q c)*f (gS p q c):=by
  show f (ba p q*z-gS p q c*gS p q c)=_;simp only[h.mul,h.sub]
 rw[eX,eC,eS]at ht;rw[eS]at hi;refine JP hi ht (k:=(f (bI p q c)+t)*f (iE (ba p q))) (by rw[eE]) ?_ ?_
 ·rw[hx];unfold cG f0;show f (p.1+bI p q c*iE (ba p q)*(q.1-p.1))+t*f (qE ((1:Int):Rat)*iE (ba p q)*(q.1-p.1))=_;simp only[h.add,h.mul,h.sub,h.q1];generalize f (iE (ba p q))=i;generalize f (bI p q c)=e;clear ht hi hx hy eS eE eC eX;grind
 ·rw[hy];unfold cG f0;show f (p.2+bI p q c*iE (ba p q)*(q.2-p.2))+t*f (qE ((1:Int):Rat)*iE (ba p q)*(q.2-p.2))=_;simp only[h.add,h.mul,h.sub,h.q1];generalize f (iE (ba p q))=i;generalize f (bI p q c)=e;clear ht hi hx hy eS eE eC eX;grind
theorem yR{T:LL}(L:Lf ts T){x:List Rat×List Rat}{p q c:P2 ts}{z:Et ts}(hd:am (ba p q)≠0){t:Et T}(ht:ae L.pos (t*t)=ae L.pos (au T (aR p q c z)))
  (hx:dE T x.1=au T (cG p (bI p q c*iE (ba p q)) (aK q p)).1+t*au T (f0 p q).1) (hy:dE T x.2=au T (cG p (bI p q c*iE (ba p q)) (aK q p)).2+t*au T (f0 p q).2):LinG ts T x p q c z:=by
 have g:=Ry L.hm hd (t:=ae L.pos t) ht (x:=ae L.pos (dE T x.1)) (y:=ae L.pos (dE T x.2)) (by rw[hx];rfl) (by rw[hy];rfl);refine⟨L,?_,?_⟩
 ·refine(eI L.pos).1 ?_;rw[bC,ee,bm,bm,bC,bC];have:=g.1;rw[this];grind
 ·refine(eI L.pos).1 ?_;rw[bC,bm,bm,bC,bC,bC,bC];exact g.2
theorem Uz{r:Nat}(tw:Tw ts r)(hx4:∀X:Et ts,0<am X->cS (aQ ts (sX X))){p q c:P2 ts}{z:Et ts}(h0:eU p q=0) :
  ∀x∈(dt p q c z).ps,LinG ts (dt p q c z).ts x p q c z:=by
 intro x;unfold eU at h0;unfold dt;split
 ·intro hx;cases hx
 ·rename_i hd;split
  ·intro hx;cases hx
  ·rename_i hn;split
   ·rename_i hX;intro hx;rw[List.mem_singleton.1 hx];have hp:cS ts:=tw.pos;refine yR (lT hp) hd (t:=0) ?_ ?_ ?_
    ·refine((eI hp).2 ?_).trans ((eI hp).2 ?_).symm
     ·rw[show(0:Et ts)*0=0 by grind];exact(dz _ _ hp).zero
     ·rw[c9];exact hX
    ·rw[c9,c9,ef];grind
    ·rw[c9,c9,ef];grind
   ·rename_i hX
    have hX1:0<am (aR p q c z):=by
     rcases(dz _ _ tw.pos).cs (aR p q c z)with g |g |g
     ·exact absurd g hn
     ·exact absurd g hX
     ·show 0<sg _ _ _;rw[g];decide
    have hp:=hx4 _ hX1;intro hx;have L:=rI (aR p q c z) hp;have e:=AG (aR p q c z);rcases List.mem_cons.1 hx with rfl |hx
    ·refine yR L hd (t := bu (aR p q c z)) (by rw [e]; rfl) ?_ ?_
     ·rw[ef];exact congrArg Prod.fst (uR (aR p q c z) p q c)
     ·rw[ef];exact congrArg Prod.snd (uR (aR p q c z) p q c)
    ·rw [List.mem_singleton.1 hx];refine yR L hd (t:=-bu (aR p q c z)) (by rw [show -bu (aR p q c z) * -bu (aR p q c z) = bu (aR p q c z) * bu (aR p q c z) by grind,e]; rfl) ?_ ?_
     ·rw[ef,congrArg Prod.fst (vk (aR p q c z) p q c)];show aM _ _-_*aM _ _=aM _ _+-_*aM _ _;grind
     ·rw[ef,congrArg Prod.snd (vk (aR p q c z) p q c)];show aM _ _-_*aM _ _=aM _ _+-_*aM _ _;grind
end
end Go.Lw
namespace Go.Lw
theorem BH(r:(k:Nat)->T k)(q:Rat):∀(k:Nat){a c:List Rat},(∀i,i<2^k->c.getD i 0=q*a.getD i 0)->ac k c=T.mul r k (T.ofQ k q) (ac k a)
 |0,a,c,h=>h 0 (by decide)
 |k+1,a,c,h=>by
  have h1:=BH r q k (a:=a.take (2^k)) (c:=c.take (2^k)) (fun i hi=>by rw[kS,kS,if_pos hi,if_pos hi];exact h i (by rw[Nat.pow_succ];omega));have h2:=BH r q k (a:=a.drop (2^k)) (c:=c.drop (2^k)) (fun i hi=>by rw[kv,kv];exact h _ (by rw[Nat.pow_succ];omega));show(ac k (c.take (2^k)),ac k (c.drop (2^k)))=T.mul r (k+1) (T.ofQ k q,T.zero k) (ac k (a.take (2^k)),ac k (a.drop (2^k)));rw[T.mul_comm,T.mul_half,h1,h2,T.mul_comm r k (ac k (a.take _)),T.mul_comm r k (ac k (a.drop _))]
section
variable{ts:LL}
def Bz(e:Nat)(x:Et ts):Prop:=Nm ts.length e (sX x)
theorem Bz.mono{e f:Nat}{x:Et ts}(h:Bz e x)(hf:e<=f):Bz f x:=Nm.mono h hf
theorem Bz.add{e f:Nat}{x y:Et ts}(hx:Bz e x)(hy:Bz f y):Bz (e+f+1) (x+y):=Nm.addT hx hy
theorem Bz.sub{e f:Nat}{x y:Et ts}(hx:Bz e x)(hy:Bz f y):Bz (e+f+1) (x-y):=Nm.subT hx hy
theorem Bz.neg{e:Nat}{x:Et ts}(hx:Bz e x):Bz e (-x):=Nm.negT hx
theorem Bz.mul{r K e f:Nat}(tw:Tw ts r)(hK:eB r ts.length<=K){x y:Et ts}(hx:Bz e x)(hy:Bz f y):Bz (e+f+K) (x*y):=by
 have h:=Nm.mul tw rfl hx hy;have e1:∀z:Et ts,ac ts.length (sX z)=z:=fun z=>a5 _ _
 rw[e1,e1]at h;exact Nm.mono h (Nat.add_le_add_left hK _)
theorem Bz.q{e:Nat}{q:Rat}(h5:ts.length<=5)(hq:Cb e [q]):Bz e (qE q:Et ts):=by
 unfold Bz;rw[tU];exact Nm.ofQ h5 hq
theorem Bz.qm{e f:Nat}{q:Rat}{x:Et ts}(hq:Cb e [q])(hx:Bz f x):Bz (e+f) (qE q*x):=by
 obtain⟨D,N,h1,h2,h3⟩:=hq;obtain⟨D',N',k1,k2,k3⟩:=hx.cb;obtain⟨n,hn,hN⟩:=h1.2 q (List.mem_singleton.2 rfl);have hx2:ac ts.length (sX x)=x:=a5 _ _
 have hd:ac ts.length ((sX x).map (q*·))=T.mul (ao ts) ts.length (T.ofQ ts.length q) (ac ts.length (sX x)):=BH _ q _ (fun i _=>by
  rw[getD_eq_getElem?_getD,getElem?_map,getD_eq_getElem?_getD];cases(sX x)[i]? with
  |none=>exact(Rat.mul_zero q).symm
  |some v=>rfl)
 rw[hx2]at hd
 have hc:Cb (e+f) ((sX x).map (q*·)):=by
  refine⟨D*D',N*N',⟨Nat.mul_pos h1.1 k1.1,?_⟩,?_,?_⟩
  ·intro z hz;obtain⟨y,hy,rfl⟩:=List.mem_map.1 hz;obtain⟨m,hm,hM⟩:=k1.2 y hy;refine⟨n*m,?_,?_⟩
   ·rw[Int.natCast_mul,Rat.intCast_mul,Rat.intCast_mul,<- hn,<- hm];grind
   ·rw[Int.natAbs_mul];exact Nat.mul_le_mul hN hM
  ·rw[pow_add];exact Nat.mul_le_mul h2 k2
  ·rw[pow_add];exact Nat.mul_le_mul h3 k3
 have hnl:Nl ts.length ((sX x).map (q*·)):=by
  rcases hx.nl with h |⟨j,hj,h⟩
  ·exact .inl (by rw[h];rfl)
  ·exact .inr ⟨j,hj,by rw[length_map];exact h⟩
 refine⟨hx.five,di _ _,?_⟩;have:=hc.sh hnl;rw[hd]at this;exact this
theorem Bz.mq{e f:Nat}{q:Rat}{x:Et ts}(hx:Bz f x)(hq:Cb e [q]):Bz (e+f) (x*qE q):=by
 rw[show x*qE q=qE q*x by grind];exact hx.qm hq
theorem Bz.iq{e f:Nat}{q:Rat}{x:Et ts}(hx:Bz f x)(hq:Cb e [q])(h0:q≠0):Bz (e+f) (x*iE (qE q)):=by
 have h:(iE (qE q):Et ts)=qE (1/q):=uK _ _ q;rw[h];exact hx.mq (hq.inv1 h0)
theorem Bz.iv{r f j I:Nat}{y:Et ts}(tw:Tw ts r)(hy:Bz f y)(nb:Nl j (sX y))(hj:j<=ts.length)(h0:am y≠0)(hI:iB r j f<=I)(hs:I<=50000000000):Bz I (iE y):=by
 have hf:=yT r j f;have hl:=lM ts.length;have e1:ac ts.length (sX y)=y:=a5 _ _;obtain⟨L,_,k2,k3,k4⟩:=xK (b:=sX y) tw hy hj nb (by rw[e1];exact h0) oz oz;rw[e1]at k4;have:=k3.sh k2;rw[k4]at this;exact⟨tw.five,di _ _,this.mono hI⟩
structure Pz(n ec ex:Nat)(p:Pq):Prop where
  c:Nm n ec p.c
  s:Nm n ec p.s
  x:Nm n ex p.x
  y:Nm n ex p.y
theorem Pz.mono{n n' a b a' b':Nat}{p:Pq}(h:Pz n a b p)(hn:n<=n')(h5:n'<=5)(ha:a<=a')(hb:b<=b'):Pz n' a' b' p :=
 ⟨⟨h5,h.c.nl.mono hn,h.c.cb.mono ha⟩,⟨h5,h.s.nl.mono hn,h.s.cb.mono ha⟩,⟨h5,h.x.nl.mono hn,h.x.cb.mono hb⟩,⟨h5,h.y.nl.mono hn,h.y.cb.mono hb⟩⟩
theorem H2{s t e f:Nat}{u p:Rat×Rat}{w o:P2 ts}(hu:Sm t u)(hp:Sm s p)(h0:bQ u u≠0)(w1:Bz e w.1)(w2:Bz e w.2)(o1:Bz f o.1)(o2:Bz f o.2) :
  Pz ts.length (2*e+6*t+2) (f+4*e+12*t+2*s+6) (gK u w p o):=by
 have u1:=Cb.one hu.x;have u2:=Cb.one hu.y;have p1:=Cb.one hp.x;have p2:=Cb.one hp.y;have n:=Cb.one (hu.dot hu);have c:=(((w1.qm u1).add (w2.qm u2)).iq n h0).mono (f:=2*e+6*t+2) oz;have d:=(((w2.qm u1).sub (w1.qm u2)).iq n h0).mono (f:=2*e+6*t+2) oz;exact⟨c,d,(o1.sub ((c.mq p1).sub (d.mq p2))).mono oz,(o2.sub ((d.mq p1).add (c.mq p2))).mono oz⟩
theorem rC{a:List Rat}{e:Nat}(h:Nm ts.length e a):Bz e (dE ts a):=by
 have:=h.cb.sh h.nl;exact⟨h.five,di _ _,this⟩
theorem Ua{s f:Nat}{p:Rat×Rat}{c d:Rat}{o:P2 ts}{g:Nat}(hc:Cb g [c])(hd:Cb g [d])(hp:Sm s p)(h5:ts.length<=5)(o1:Bz f o.1)(o2:Bz f o.2) :
  Pz ts.length (g+1) (f+2*g+2*s+4) (gK (((1:Int):Rat),0) ((qE c,qE d):P2 ts) p o):=by
 have e0:∀x:Et ts,(qE ((1:Int):Rat):Et ts)*x=x:=fun x=>by
  have:(qE ((1:Int):Rat):Et ts)=1:=rfl;rw[this];grind
 have e1:∀x:Et ts,(qE (0:Rat):Et ts)*x=0:=fun x=>by
  have:(qE (0:Rat):Et ts)=0:=rfl;rw[this];grind
 have e2:(iE (kp (((1:Int):Rat),0)):Et ts)=1:=by
  show iE (qE (bQ (((1:Int):Rat),0) (((1:Int):Rat),0)))=_;rw[show bQ (((1:Int):Rat),(0:Rat)) (((1:Int):Rat),(0:Rat))=1 by decide +kernel];exact x3
 have ec:dm (((1:Int):Rat),0) ((qE c,qE d):P2 ts)=qE c:=by
  unfold dm;rw[e0,e1,e2];grind
 have ed:da (((1:Int):Rat),0) ((qE c,qE d):P2 ts)=qE d:=by
  unfold da;rw[e0,e1,e2];grind
 have p1:=Cb.one hp.x;have p2:=Cb.one hp.y;have c1:Bz g (qE c:Et ts):=Bz.q h5 hc;have d1:Bz g (qE d:Et ts):=Bz.q h5 hd;refine⟨?_,?_,?_,?_⟩
 ·show Bz _ (dm _ _);rw[ec];exact c1.mono oz
 ·show Bz _ (da _ _);rw[ed];exact d1.mono oz
 ·show Bz _ (pH _ _ p o);unfold pH;rw[ec,ed];exact(o1.sub ((c1.mq p1).sub (d1.mq p2))).mono oz
 ·show Bz _ (qH _ _ p o);unfold qH;rw[ec,ed];exact(o2.sub ((d1.mq p1).add (c1.mq p2))).mono oz
structure Xz(ts:LL)(r X:Nat)(us:LL):Prop where
  tw:Tw us (r+X)
  up:ts.length<=us.length
  ln:us.length<=ts.length+1
theorem Bs{r X:Nat}(tw:Tw ts r)(hx:r+X<=5000000000):Xz ts r X ts:=⟨⟨tw.three,tw.len,tw.pos,tw.rb.mono oz,hx⟩,le_refl _,by omega⟩
theorem wn{r X:Nat}(tw:Tw ts r)(hn:ts.length<=1)(hx:r+X<=5000000000){x:Et ts}(h:Bz X x)(hs:0<=am x):Xz ts r X (aQ ts (sX x)) :=
 ⟨yy tw oz h hx (by rw[show ac ts.length (sX x)=x from a5 _ _];exact hs),by rw[dD];omega,by rw[dD];omega⟩
theorem Bz.up{e:Nat}{X x:Et ts}(h:Bz e x)(hn:ts.length<=1):Bz e (aM X x):=by
 have h1:Nm (aQ ts (sX X)).length e (sX x):=mr h oz;exact rC h1
structure Szs(n r a b X K K' I J:Nat):Prop where
  n1:n<=1
  hK:eB r n<=K
  hX:24*a+8*K+5*b+23<=X
  hL:r+X<=5000000000
  hK':eB (r+X) (n+1)<=K'
  hI:iB r n (8*a+2*K+8)<=I
  hJ:iB (r+X) n (8*a+2*K+8)<=J
  hJ':J<=50000000000
  kk:K<=K'
  ij:I<=J
theorem Szs.kx{n r a b X K K' I J:Nat}(h:Szs n r a b X K K' I J){us:LL}(hu:us.length<=n+1):eB (r+X) us.length<=K':=le_trans (gP _ hu) h.hK'
section
variable{r a b X K K' I J:Nat}(Z:Szs ts.length r a b X K K' I J)(tw:Tw ts r)
include Z tw
theorem BD{p q:P2 ts}(p1:Bz a p.1)(p2:Bz a p.2)(q1:Bz a q.1)(q2:Bz a q.2):Bz (8*a+2*K+5) (cR (aK q p) (aK q p)):=by
 have v1:=q1.sub p1;have v2:=q2.sub p2;exact((v1.mul tw Z.hK v1).add (v2.mul tw Z.hK v2)).mono oz
theorem yF{y:Et ts}(hy:Bz (8*a+2*K+8) y)(h0:am y≠0):Bz I (iE y) :=
 hy.iv tw (di _ _) (le_refl _) h0 Z.hI (by have:=Z.ij;have:=Z.hJ';omega)
theorem BJ{x y:Et ts}(hx:Bz X x)(hs:0<=am x)(hy:Bz (8*a+2*K+8) y)(h0:am y≠0):Bz J (iE (aM x y)):=by
 have E:=wn tw Z.n1 Z.hL hx hs
 have e1:sX (aM x y)=sX y:=by
  have:=(wz (X:=x) Z.n1 _ y hy).2;exact this
 refine(hy.up Z.n1).iv E.tw (j:=ts.length) (by rw[e1];exact di _ _) E.up (by rw[pg];exact h0) Z.hJ Z.hJ'
theorem zP{x:Et ts}:Bz 1 (dE (aQ ts (sX x)) (cw ts.length)):=by have _:=tw;exact rC (um (by have:=Z.n1;omega))
theorem OZ{p q:P2 ts}{z z2:Et ts}(p1:Bz a p.1)(p2:Bz a p.2)(q1:Bz a q.1)(q2:Bz a q.2)(hz:Bz b z)(hz2:Bz b z2)(h0:eL p q z z2=0) :
  Xz ts r X (dc p q z z2).ts/\∀m∈(dc p q z z2).ps,Nm (dc p q z z2).ts.length (13*a+2*b+5*K+2*K'+I+J+20) m.1/\Nm (dc p q z z2).ts.length (13*a+2*b+5*K+2*K'+I+J+20) m.2:=by
 have hn:=Z.n1;have hkk:=Z.kk;have hd:Bz (8*a+2*K+5) (az p q):=BD Z tw (p:=q) (q:=p) q1 q2 p1 p2;have hm:=(hz.add hd).sub hz2;have q4:Cb 3 [((4:Int):Rat)]:=Cb.int (z:=4) (by decide);have q2':Cb 2 [((2:Int):Rat)]:=Cb.int (z:=2) (by decide);have qm1:Cb 1 [((-1:Int):Rat)]:=Cb.int (z:=-1) (by decide)
 have hX:Bz X (bc p z q z2):=by
  have h:=((hz.mul tw Z.hK hd).qm q4).sub (hm.mul tw Z.hK hm);have h2:=h.mono (f:=X) (by have:=Z.hX;omega);exact h2
 have same:=Bs (X:=X) tw Z.hL;have v1:=q1.sub p1;have v2:=q2.sub p2;unfold eL ka at h0;unfold dc lA
 by_cases hs:am (az p q)=0
 ·rw[if_pos hs]at h0 ⊢
  by_cases hz0:am (z-z2)≠0
  ·rw[if_pos hz0];exact⟨same,fun m hm=>by cases hm⟩
  ·rw[if_neg hz0]
   by_cases hp:0<am z
   ·rw[if_pos ⟨Decidable.not_not.1 hz0,hp⟩]at h0;cases h0
   ·rw[if_neg hp]
    have n0:Bz 0 (0:Et ts):=by
     have:=Bz.q (ts:=ts) (e:=0) (q:=0) oz (Cb.int (z:=0) (by decide));exact this
    refine⟨same,iD ⟨?_,?_⟩⟩
    ·exact(p1.add (n0.mul tw Z.hK p1)).mono (f:=13*a+2*b+5*K+2*K'+I+J+20) oz
    ·exact(p2.add (n0.mul tw Z.hK p2)).mono (f:=13*a+2*b+5*K+2*K'+I+J+20) oz
 ·rw [if_neg hs];have ht0:am (eA (az p q)) ≠ 0:=by rw [uY tw]; exact hs
  have ht:Bz (8*a+2*K+8) (eA (az p q)):=Bz.mono (e:=2+(8*a+2*K+5)) (hd.qm q2') oz
  by_cases hx0:am (bc p z q z2)<0
  ·rw[if_pos hx0];exact⟨same,fun m hm=>by cases hm⟩
  ·rw[if_neg hx0];have hk:=hm.mul tw Z.hK (yF Z tw ht ht0);have f1:Bz (11*a+2*b+4*K+I+10) (cV p q z z2).1:=(p1.add (hk.mul tw Z.hK v1)).mono oz;have f2:Bz (11*a+2*b+4*K+I+10) (cV p q z z2).2:=(p2.add (hk.mul tw Z.hK v2)).mono oz
   by_cases hx1:am (bc p z q z2)=0
   ·rw[if_pos hx1];exact⟨same,iD ⟨f1.mono oz,f2.mono oz⟩⟩
   ·rw [if_neg hx1];have hpos:0 <= am (bc p z q z2):=by omega
    have E:=wn tw hn Z.hL hX hpos;have hkx:=Z.kx E.ln;have s1:=(zP Z tw (x:=bc p z q z2)).mul E.tw hkx (BJ Z tw hX hpos ht ht0);have s2:=s1.qm qm1;have w1:=(v2.up (X:=bc p z q z2) hn).qm qm1;have w2:=v1.up (X:=bc p z q z2) hn;have g1:=f1.up (X:=bc p z q z2) hn;have g2:=f2.up (X:=bc p z q z2) hn;exact⟨E,lr ⟨(g1.add (s1.mul E.tw hkx w1)).mono oz,(g2.add (s1.mul E.tw hkx w2)).mono oz⟩ ⟨(g1.add (s2.mul E.tw hkx w1)).mono oz,(g2.add (s2.mul E.tw hkx w2)).mono oz⟩⟩
theorem My{p q o:P2 ts}{z:Et ts}(p1:Bz a p.1)(p2:Bz a p.2)(q1:Bz a q.1)(q2:Bz a q.2)(o1:Bz a o.1)(o2:Bz a o.2)(hz:Bz b z)(h0:eU p q=0) :
  Xz ts r X (dt p q o z).ts/\∀m∈(dt p q o z).ps,Nm (dt p q o z).ts.length (13*a+2*b+5*K+2*K'+I+J+20) m.1/\Nm (dt p q o z).ts.length (13*a+2*b+5*K+2*K'+I+J+20) m.2:=by
 have hn:=Z.n1;have hkk:=Z.kk;have hS:=(BD Z tw p1 p2 q1 q2)
 have v1:=q1.sub p1;have v2:=q2.sub p2;have w1:=o1.sub p1;have w2:=o2.sub p2;have hE:Bz (8*a+2*K+5) (bI p q o):=((v1.mul tw Z.hK w1).add (v2.mul tw Z.hK w2)).mono oz;have hC:Bz (8*a+2*K+5) (gS p q o):=((v1.mul tw Z.hK w2).sub (v2.mul tw Z.hK w1)).mono oz;have hX:Bz X (aR p q o z):=((hS.mul tw Z.hK hz).sub (hC.mul tw Z.hK hC)).mono (by have:=Z.hX;omega);have same:=Bs (X:=X) tw Z.hL;unfold eU at h0;unfold dt
 by_cases hs:am (ba p q)=0
 ·rw[if_pos hs]at h0;cases h0
 ·rw[if_neg hs]
  by_cases h1:am (aR p q o z)=-1
  ·rw[if_pos h1];exact⟨same,fun m hm=>by cases hm⟩
  ·rw[if_neg h1]
   by_cases h2:am (aR p q o z)=0
   ·rw[if_pos h2];have hk:=hE.mul tw Z.hK (yF Z tw (hS.mono oz) hs);exact⟨same,iD ⟨(p1.add (hk.mul tw Z.hK v1)).mono (f:=13*a+2*b+5*K+2*K'+I+J+20) oz,(p2.add (hk.mul tw Z.hK v2)).mono (f:=13*a+2*b+5*K+2*K'+I+J+20) oz⟩⟩
   ·rw[if_neg h2]
    have hpos:0<=am (aR p q o z):=by
     have:=T.sgn_cases (ao ts) ts.length (aR p q o z);have e:am (aR p q o z)=T.sgn (ao ts) ts.length (aR p q o z):=rfl;omega
    have E:=wn tw hn Z.hL hX hpos;have hkx:=Z.kx E.ln;have hi:=BJ Z tw hX hpos (hS.mono oz) hs;have rt:=zP Z tw (x:=aR p q o z);have k1:=((hE.up (X:=aR p q o z) hn).add rt).mul E.tw hkx hi;have k2:=((hE.up (X:=aR p q o z) hn).sub rt).mul E.tw hkx hi;have g1:=p1.up (X:=aR p q o z) hn;have g2:=p2.up (X:=aR p q o z) hn;have u1:=v1.up (X:=aR p q o z) hn;have u2:=v2.up (X:=aR p q o z) hn;exact⟨E,lr ⟨(g1.add (k1.mul E.tw hkx u1)).mono oz,(g2.add (k1.mul E.tw hkx u2)).mono oz⟩ ⟨(g1.add (k2.mul E.tw hkx u1)).mono oz,(g2.add (k2.mul E.tw hkx u2)).mono oz⟩⟩
end
end
def Cs(s:Nat)(l:Li):Prop:=∀b∈l.bo,∀m∈b.pts,Qb s m.x.q/\Qb s m.y.q
section
variable{s:Nat}{l:Li}(hl:l.ok)(hli:aP l=0)(hcs:Cs s l)
include hl hli hcs
theorem mK{body pt:Int}(h1:bA body l.bo.length=true)(h2:bA pt (cF l body).length=true):Sm s (aB l body pt):=by
 obtain⟨n,k,bd,m,h⟩:=qj hl hli h1 h2;obtain⟨c1,c2⟩:=hcs bd (mem_of_getElem? h.gbd) m (mem_of_getElem? h.gm);rw[h.ex,bK]at c1;rw[h.ey,bK]at c2;exact⟨c1,c2⟩
theorem jN{i:Nat}{j:Jt}(hj:l.jo[i]?=some j){b:Int}(h:j.a=b\/j.b=b):Sm s (ah l j b):=by
 obtain⟨i1,i2,i3,i4,_⟩:=cH hli hj;unfold ah
 by_cases e:j.a=b
 ·rw[if_pos e];subst e;exact mK hl hli hcs i1 i3
 ·rw[if_neg e];rcases h with h |h
  ·exact absurd h e
  ·subst h;exact mK hl hli hcs i2 i4
theorem nW{E r K:Nat}{a:As}(al:AB a)(hc:bq a.rs=0)(tw:Tw (llq a.rs) r)(hK:eB r (llq a.rs).length<=K){body pt:Int}(h1:bA body l.bo.length=true)(h2:bA pt (cF l body).length=true)(hb:Pd E a body) :
  Bz (3*E+2*s+2*K+10) (ax l a body pt).1/\Bz (3*E+2*s+2*K+10) (ax l a body pt).2:=by
 obtain⟨n,k,bd,m,b,hp⟩:=ue hl hli al hc h1 h2 hb;obtain⟨c1,c2⟩:=hcs bd (mem_of_getElem? hp.mp.gbd) m (mem_of_getElem? hp.mp.gm);have h:=wV tw hp.ok c1 c2;have hk:kB r (llq a.rs).length<=K:=hK;unfold ax Bz;rw[hp.eq];exact⟨h.1.mono oz,h.2.mono oz⟩
theorem mF{E r K:Nat}{a:As}(al:AB a)(hc:bq a.rs=0)(tw:Tw (llq a.rs) r)(hK:eB r (llq a.rs).length<=K){i:Nat}{j:Jt}(hj:l.jo[i]?=some j){b:Int}(h:PinP E l a j b) :
  Bz (3*E+2*s+2*K+10) (an l a j b).1/\Bz (3*E+2*s+2*K+10) (an l a j b).2:=by
 obtain⟨i1,i2,i3,i4,_⟩:=cH hli hj;unfold an;rcases h.tie with⟨e,hb⟩ |⟨e,e2,hb⟩
 ·rw[if_pos e];exact nW hl hli hcs al hc tw hK i2 i4 hb
 ·rw[if_neg e];exact nW hl hli hcs al hc tw hK i1 i3 hb
end
theorem Bz.upX{ts us:LL}{e:Nat}{x:Et ts}(h:Bz e x)(h1:ts.length<=us.length)(h5:us.length<=5):Bz e (dE us (sX x)):=rC ⟨h5,Nl.mono h.nl h1,h.cb⟩
theorem qL{s:Nat}{p q:Rat×Rat}(hp:Sm s p)(hq:Sm s q):Cb (8*s+5) [aX p q]:=by
 have h:=(hp.sub hq).dot (hp.sub hq);exact Cb.one (h.mono oz)
abbrev wZ(a b K K' I J:Nat):Nat:=14*a+3*b+5*K+3*K'+I+J+25
abbrev oZ(s a b K K' I J:Nat):Nat:=a+4*wZ a b K K' I J+26*s+18
theorem Ai{n a b ec ex e:Nat}{p:Pq}(h:Pz n ec ex p)(h1:ec<=e)(h2:ex<=e):Pq.ok n e p:=⟨h.c.mono h1,h.s.mono h1,h.x.mono h2,h.y.mono h2⟩
section
variable{ts:LL}{r a b X K K' I J:Nat}(Z:Szs ts.length r a b X K K' I J)(tw:Tw ts r)
include Z tw
theorem CA{s:Nat}{m:Mt}(hx:Xz ts r X m.ts)(hm:∀x∈m.ps,Nm m.ts.length (13*a+2*b+5*K+2*K'+I+J+20) x.1/\Nm m.ts.length (13*a+2*b+5*K+2*K'+I+J+20) x.2){hs:List Hd}
  (hh:∀h∈hs,Sm s h.p/\Sm s h.c/\bQ (bF h.c h.p) (bF h.c h.p)≠0/\∃o:P2 ts,h.a=P2.l o/\Bz a o.1/\Bz a o.2) :
  ∀sv∈jK m hs,Xz ts r X sv.ts/\∀p∈sv.ps,Pq.ok sv.ts.length (oZ s a b K K' I J) p:=by
 have _:=Z;have _:=tw;intro sv h1;unfold jK at h1;obtain⟨i,hi,rfl⟩:=List.mem_map.1 h1;obtain⟨x,hxx⟩:=aH (List.mem_range.1 hi);obtain⟨n1,n2⟩:=hm x (mem_of_getElem? hxx);refine⟨hx,fun p hp=>?_⟩;unfold io at hp;rw[aw hxx]at hp;obtain⟨h,h2,rfl⟩:=List.mem_map.1 hp;obtain⟨hp1,hc1,h0,o,ea,o1,o2⟩:=hh h h2;have h5:=hx.tw.five;have u1:=o1.upX hx.up h5;have u2:=o2.upX hx.up h5;have w1:=rC n1;have w2:=rC n2;have e1:h.a.1=sX o.1:=by rw[ea]
 have e2:h.a.2=sX o.2:=by rw[ea]
 have z:=H2 (ts:=m.ts) (u:=bF h.c h.p) (p:=h.p) (w:=ji m.ts h x) (o:=kR m.ts h) (e:=13*a+2*b+5*K+2*K'+I+J+20+a+1) (f:=a) (hc1.sub hp1) hp1 h0
  (by unfold ji;rw[e1];exact w1.sub u1) (by unfold ji;rw[e2];exact w2.sub u2) (by unfold kR;rw[e1];exact u1) (by unfold kR;rw[e2];exact u2)
 exact Ai (a:=a) (b:=b) z (by show _<=a+4*(14*a+3*b+5*K+3*K'+I+J+25)+26*s+18;omega) (by show _<=a+4*(14*a+3*b+5*K+3*K'+I+J+25)+26*s+18;omega)
theorem RK{s:Nat}{us:LL}(hx:Xz ts r X us){R:Rp}{q:List Rat}(hv:Sm (2*s+1) R.v)(hp:Sm s R.p)(h0:bQ R.v R.v≠0)(hq:Bz 1 (dE us q))(w1:Bz (2*a+1) (dE us R.w.1))(w2:Bz (2*a+1) (dE us R.w.2))(hh:Bz b (dE us R.h))
  (hd:Bz J (iE (dE us R.d))) (a1:Bz a (dE us R.a.1)) (a2:Bz a (dE us R.a.2)):Pq.ok us.length (oZ s a b K K' I J) (m8 us R q):=by
 have _:=tw;have hkx:=Z.kx hx.ln;have x1:=(((hq.mul hx.tw hkx w1).sub (hh.mul hx.tw hkx w2.neg)).mul hx.tw hkx hd)
 have x2:=(((hq.mul hx.tw hkx w2).sub (hh.mul hx.tw hkx w1)).mul hx.tw hkx hd)
 have z:=H2 (ts:=us) (u:=R.v) (p:=R.p) (w:=nU us q R.h R.d R.w) (o:=(dE us R.a.1,dE us R.a.2)) (e:=wZ a b K K' I J) (f:=a) hv hp h0
  (x1.mono (by show _<=14*a+3*b+5*K+3*K'+I+J+25;omega)) (x2.mono (by show _<=14*a+3*b+5*K+3*K'+I+J+25;omega)) a1 a2
 exact Ai (a:=a) (b:=b) z (by show _<=a+4*(14*a+3*b+5*K+3*K'+I+J+25)+26*s+18;simp only[wZ];omega) (by show _<=a+4*(14*a+3*b+5*K+3*K'+I+J+25)+26*s+18;simp only[wZ];omega)
end
section
variable{s r b X K K' I J E:Nat}{l:Li}{a:As}(D:DyR l a)(hn:(llq a.rs).length<=1)(hcs:Cs s l)(tw:Tw (llq a.rs) r)
  (Z:Szs (llq a.rs).length r (3*E+2*s+2*K+10) b X K K' I J) (hb:8*s+5<=b)
include D hn hcs tw Z hb
theorem N9{g:Gr}{i k z0 z1 z2:Int}{j0 j1 j2:Jt}(P:RrrP E l a g i k z0 z1 z2 j0 j1 j2) :
  ∀sv∈il l a i k j0 j1 j2,Xz (llq a.rs) r X sv.ts/\∀p∈sv.ps,Pq.ok sv.ts.length (oZ s (3*E+2*s+2*K+10) b K K' I J) p:=by
 have _:=hn;have hq0:=jN D.hl D.li hcs P.h0 P.p0.or;have hq1:=jN D.hl D.li hcs P.h1 P.p1.or;have hq2:=jN D.hl D.li hcs P.h2 P.t1;have hq3:=jN D.hl D.li hcs P.h2 P.t2;obtain⟨y1,y2⟩:=mF D.hl D.li hcs D.al D.hc tw Z.hK P.h0 P.p0;obtain⟨y3,y4⟩:=mF D.hl D.li hcs D.al D.hc tw Z.hK P.h1 P.p1;have z1:Bz b (qE (aX (ah l j2 i) (ah l j0 i)):Et (llq a.rs)):=Bz.q tw.five ((qL hq2 hq0).mono hb);have z2:Bz b (qE (aX (ah l j2 k) (ah l j1 k)):Et (llq a.rs)):=Bz.q tw.five ((qL hq3 hq1).mono hb);unfold il
 by_cases h1:fR [bF (ah l j2 i) (ah l j0 i),bF (ah l j2 k) (ah l j1 k)]=true
 ·rw[if_pos h1];intro sv h;cases h
 ·rw[if_neg h1];obtain⟨w1,w2⟩:=pZ (Bool.eq_false_iff.2 h1)
  by_cases h2:eL (an l a j0 i) (an l a j1 k) (qE (aX (ah l j2 i) (ah l j0 i))) (qE (aX (ah l j2 k) (ah l j1 k)))≠0
  ·rw[if_pos h2];intro sv h;cases h
  ·rw[if_neg h2];obtain⟨hx,hm⟩:=OZ Z tw y1 y2 y3 y4 z1 z2 (Decidable.not_not.1 h2);exact CA Z tw hx hm (lr ⟨hq0,hq2,w1,_,rfl,y1,y2⟩ ⟨hq1,hq3,w2,_,rfl,y3,y4⟩)
theorem K0{g:Gr}{i z0 z1:Int}{j0 j:Jt}(P:SlP E l a g 2 i z0 z1 j0 j)(ha:j.a=i)(hbd:Pd E a j.b) :
  ∀sv∈ib l a i j0 j,Xz (llq a.rs) r X sv.ts/\∀p∈sv.ps,Pq.ok sv.ts.length (oZ s (3*E+2*s+2*K+10) b K K' I J) p:=by
 have _:=hn;obtain⟨i1,i2,i3,i4,i5⟩:=cH D.li P.h1;have hq2:Sm s (aB l i j.point):=by rw[<- ha];exact mK D.hl D.li hcs i1 i3
 have hq0:=jN D.hl D.li hcs P.h0 P.p0.or;obtain⟨y1,y2⟩:=mF D.hl D.li hcs D.al D.hc tw Z.hK P.h0 P.p0;obtain⟨y3,y4⟩:=nW D.hl D.li hcs D.al D.hc tw Z.hK i2 i4 hbd;obtain⟨y5,y6⟩:=nW D.hl D.li hcs D.al D.hc tw Z.hK i2 (i5 P.hk) hbd;have z1:Bz b (qE (aX (aB l i j.point) (ah l j0 i)):Et (llq a.rs)):=Bz.q tw.five ((qL hq2 hq0).mono hb);unfold ib
 by_cases h1:fR [bF (aB l i j.point) (ah l j0 i)]=true
 ·rw[if_pos h1];intro sv h;cases h
 ·rw[if_neg h1];have w1:=rc (Bool.eq_false_iff.2 h1)
  by_cases h2:eU (ax l a j.b j.on) (ax l a j.b j.to)≠0
  ·rw[if_pos h2];intro sv h;cases h
  ·rw[if_neg h2];obtain⟨hx,hm⟩:=My Z tw y3 y4 y5 y6 y1 y2 z1 (Decidable.not_not.1 h2);exact CA Z tw hx hm (iD ⟨hq0,hq2,w1,_,rfl,y1,y2⟩)
theorem Ke{g:Gr}{i z0 z1:Int}{j0 j:Jt}(P:SlP E l a g 3 i z0 z1 j0 j)(hj:j.b=i)(hbd:Pd E a j.a) :
  ∀sv∈gE l a i j0 j,Xz (llq a.rs) r X sv.ts/\∀p∈sv.ps,Pq.ok sv.ts.length (oZ s (3*E+2*s+2*K+10) b K K' I J) p:=by
 obtain⟨i1,i2,i3,i4,i5⟩:=cH D.li P.h1;have hs0:=jN D.hl D.li hcs P.h0 P.p0.or;have hs1:Sm s (aB l i j.on):=by rw[<- hj];exact mK D.hl D.li hcs i2 i4
 have hs2:Sm s (aB l i j.to):=by rw[<- hj];exact mK D.hl D.li hcs i2 (i5 P.hk)
 have hv:Sm (2*s+1) (cf l i j):=(hs2.sub hs1).mono oz;have qn:Cb b [fJ l i j]:=(Cb.one (hv.dot hv)).mono oz;have qh:Cb b [bV l i j0 j]:=(Cb.one (hv.cross (hs1.sub hs0))).mono oz;obtain⟨o1,o2⟩:=mF D.hl D.li hcs D.al D.hc tw Z.hK P.h0 P.p0;obtain⟨p1,p2⟩:=nW D.hl D.li hcs D.al D.hc tw Z.hK i1 i3 hbd;have w1:Bz (2*(3*E+2*s+2*K+10)+1) (bR l a i j0 j).1:=Bz.mono (p1.sub o1) oz;have w2:Bz (2*(3*E+2*s+2*K+10)+1) (bR l a i j0 j).2:=Bz.mono (p2.sub o2) oz;have hd:Bz (8*(3*E+2*s+2*K+10)+2*K+8) (bZ l a i j0 j):=Bz.mono (BD Z tw (p:=an l a j0 i) (q:=ax l a j.a j.point) o1 o2 p1 p2) oz;have hX:Bz X (bi l a i j0 j):=Bz.mono ((hd.qm qn).sub ((Bz.q tw.five qh).qm qh)) (by have:=Z.hX;omega);have h0:=qB D.li P.h1 P.hk hj;unfold gE
 by_cases h1:am (bZ l a i j0 j)=0/\am (qE (bV l i j0 j):Et (llq a.rs))=0
 ·rw[if_pos h1];intro sv h;cases h
 ·rw[if_neg h1]
  by_cases h2:am (bi l a i j0 j)<0
  ·rw[if_pos h2];intro sv h;cases h
  ·rw[if_neg h2];have hd0:am (bZ l a i j0 j)≠0:=rJ tw h2 h1
   have key:∀us,Xz (llq a.rs) r X us->Bz J (iE (dE us (sX (bZ l a i j0 j))))->∀q,Bz 1 (dE us q)->Pq.ok us.length (oZ s (3*E+2*s+2*K+10) b K K' I J) (m8 us (dg l a i j0 j) q):=by
    intro us hx hi q hq;have h5:=hx.tw.five
    have hh:Bz b (dE us (sh 0 (bV l i j0 j:Rat))):=by
     have e:dE us (sh 0 (bV l i j0 j:Rat))=qE (bV l i j0 j):=gf _ _;rw[e];exact Bz.q h5 qh
    exact RK Z tw hx (R:=dg l a i j0 j) hv hs0 h0 hq (w1.upX hx.up h5) (w2.upX hx.up h5) hh hi (o1.upX hx.up h5) (o2.upX hx.up h5)
   by_cases h3:0<am (bi l a i j0 j)
   ·rw [if_pos h3];have hx:=wn tw hn Z.hL hX oz;have hi:=BJ Z tw hX (by omega:0 <= am (bi l a i j0 j)) hd hd0;have rt:=zP Z tw (x:=bi l a i j0 j);have k:=key _ hx hi;intro sv h;unfold jx at h;obtain ⟨n,hn2,rfl⟩:=List.mem_map.1 h;refine ⟨hx,fun p hp=>?_⟩;unfold iQ at hp;rw [List.mem_singleton.1 hp]
    match n,List.mem_range.1 hn2 with
    |0,_=>exact k _ rt
    |1,_ =>
     refine k _ ?_;show Bz 1 (dE _ (sX (-bu (bi l a i j0 j))));have e:dE (aQ (llq a.rs) (sX (bi l a i j0 j))) (sX (-bu (bi l a i j0 j)))=-bu (bi l a i j0 j):=a5 _ _;rw[e];exact rt.neg
   ·rw[if_neg h3];have hx:=Bs (X:=X) tw Z.hL;have e:dE (llq a.rs) (sX (bZ l a i j0 j))=bZ l a i j0 j:=a5 _ _
    have hi:Bz J (iE (dE (llq a.rs) (sX (bZ l a i j0 j)))):=by
     rw[e];exact(yF Z tw hd hd0).mono Z.ij
    have k:=key _ hx hi;intro sv h;unfold jx at h;obtain⟨n,hn2,rfl⟩:=List.mem_map.1 h;refine⟨hx,fun p hp=>?_⟩;unfold iQ at hp;rw[List.mem_singleton.1 hp]
    match n,List.mem_range.1 hn2 with
    |0,_=>exact k _ (rC ⟨tw.five,.inl rfl,⟨1,0,⟨by decide,fun q h=>by cases h⟩,by decide,by decide⟩⟩)
end
structure Aq where
  ts:LL
  bs:List Pq
  ms:List Int
instance:Inhabited Pq:=⟨⟨[],[],[],[]⟩⟩
instance:Inhabited Aq:=⟨⟨[],[],[]⟩⟩
def Pq.pl(p:Pq):Pl:=⟨p.c.map rt,p.s.map rt,p.x.map rt,p.y.map rt⟩
def Aq.as(a:Aq):As:=⟨a.ts.map (List.map rt),a.bs.map Pq.pl,a.ms⟩
theorem Pq.pl_av(p:Pq):p.pl.av=p.av:=by unfold Pl.av Pq.av Pq.pl;rw[dj,dj,dj,dj]
abbrev Aq.cs(a:Aq):List AV:=[.lst 1 (a.ts.map nA),.lst 4 (a.bs.map Pq.av),.lst 1 (a.ms.map i64)]
abbrev Aq.av(a:Aq):AV:=.agg a.cs
theorem Aq.as_av(a:Aq):a.as.av=a.av:=by
 unfold As.av Aq.as Aq.av Aq.cs;rw[map_map,map_map];congr 3
 ·exact List.map_congr_left (fun x _=>dj x)
 ·congr 1;exact List.map_congr_left (fun x _=>Pq.pl_av x)
theorem Aq.llq(a:Aq):Lw.llq a.as.rs=a.ts:=no _
def a6(bs:List Pq)(is:List Int)(ps:List Pq):List Pq:=(is.zip ps).foldl (fun k x=>k.set x.1.toNat x.2) bs
def Aq.nxt(a:Aq)(g:Gr)(s:Sv):Aq:=⟨s.ts,a6 a.bs g.bo s.ps,a.ms++[s.mode]⟩
def bt:Pq:=⟨[],[],[],[]⟩
def M4:Pq:=⟨[1],[],[],[]⟩
def jJ:Tn:=⟨⟨false,[],[]⟩,false⟩
def fv(g:Gr)(xs:List Tn):Tn:=if g.kind=0 then xs.getD g.driver.toNat jJ else jJ
theorem DS:∀(zs:List (Int×Pq))(bs:List Pq),(zs.foldl (fun k x=>k.set x.1.toNat x.2) bs).length=bs.length
 |[],bs=>rfl
 |z::zs,bs=>by rw[List.foldl_cons,DS zs,length_set]
theorem FZ:∀(zs:List (Int×Pq))(bs:List Pq)(p:Pq),p∈zs.foldl (fun k x=>k.set x.1.toNat x.2) bs->p∈bs\/∃z∈zs,z.2=p
 |[],bs,p,h=>.inl h
 |z::zs,bs,p,h=>by
  rw[List.foldl_cons]at h;rcases FZ zs _ p h with h |⟨z',hz,e⟩
  ·rcases List.mem_or_eq_of_mem_set h with h |h
   ·exact .inl h
   ·exact .inr ⟨z,mem_cons_self,h.symm⟩
  ·exact .inr ⟨z',mem_cons_of_mem _ hz,e⟩
theorem vm(bs:List Pq)(is:List Int)(ps:List Pq):(a6 bs is ps).length=bs.length:=DS _ _
theorem Hn{bs:List Pq}{is:List Int}{ps:List Pq}{p:Pq}(h:p∈a6 bs is ps):p∈bs\/p∈ps:=by
 rcases FZ _ _ _ h with h |⟨z,hz,e⟩
 ·exact .inl h
 ·exact .inr (e▸(List.of_mem_zip hz).2)
theorem KB{bs:List Pq}{is:List Int}{ps:List Pq}{i:Nat}{b:Int}{p:Pq}(hb:is[i]?=some b)(hp:ps[i]?=some p) :
  a6 bs (is.take (i+1)) (ps.take (i+1))=(a6 bs (is.take i) (ps.take i)).set b.toNat p:=by
 have h1:is.take (i+1)=is.take i++[b]:=by rw[List.take_add_one,hb];rfl
 have h2:ps.take (i+1)=ps.take i++[p]:=by rw[List.take_add_one,hp];rfl
 have hl1:=(List.getElem?_eq_some_iff.1 hb).1;have hl2:=(List.getElem?_eq_some_iff.1 hp).1;unfold a6;rw[h1,h2,List.zip_append (by rw[length_take,length_take];omega),List.foldl_append];rfl
def lL(s j r E:Nat):Nat:=3*E+2*s+2*eB r j+10
def j5(s j r E:Nat):Nat:=24*lL s j r E+8*eB r j+5*(8*s+5)+23
def G6(s j r E:Nat):Nat:=iB r j (8*lL s j r E+2*eB r j+8)
def uL(s j r E:Nat):Nat:=iB (r+j5 s j r E) j (8*lL s j r E+2*eB r j+8)
def qR(s j r E:Nat):Nat:=oZ s (lL s j r E) (8*s+5) (eB r j) (eB (r+j5 s j r E) (j+1)) (G6 s j r E) (uL s j r E)
def l9(s g j r E:Nat):Nat:=lL s j r E+2*g+2*s+4
def jy(s g:Nat):Nat->Nat->Nat->Nat->Nat->Bool
  |0,_,j,r,E=>decide (E<=3200000000/\r<=400000000/\j<=2)
  |n+1,y,j,r,E=>decide (E<=3200000000/\r<=400000000/\j<=2)&&(jy s g n y j r (l9 s g j r E) &&
      (decide (y=0)||(decide (j<=1/\E<=3900000/\r<=64990/\r+j5 s j r E<=5000000000/\uL s j r E<=50000000000)&&jy s g n (y-1) (j+1) (r+j5 s j r E) (qR s j r E))))
theorem Av{s g n y j r E:Nat}(h:jy s g (n+1) y j r E=true):(E<=20000000000/\r<=400000000/\j<=2)/\jy s g n y j r (l9 s g j r E)=true:=by
 unfold jy at h;simp only[and_eq_true,decide_eq_true_eq]at h;exact⟨⟨by omega,h.1.2⟩,h.2.1⟩
theorem yc{s g n y j r E:Nat}(h:jy s g (n+1) (y+1) j r E=true):(j<=1/\E<=3900000/\r<=64990/\r+j5 s j r E<=5000000000/\uL s j r E<=50000000000)/\jy s g n y (j+1) (r+j5 s j r E) (qR s j r E)=true:=by
 unfold jy at h;simp only[and_eq_true,or_eq_true,decide_eq_true_eq,Nat.add_sub_cancel]at h;rcases h.2.2 with h1 |h1
 ·omega
 ·exact h1
structure QInv(l:Li)(j r E:Nat)(a:Aq):Prop where
  tw:Tw a.ts r
  lv:a.ts.length<=j
  bs:∀p∈a.bs,Pq.ok a.ts.length E p
  ln:a.bs.length=l.bo.length
theorem Pq.ok.up{n n' e e':Nat}{p:Pq}(h:Pq.ok n e p)(hn:n<=n')(h5:n'<=5)(he:e<=e'):Pq.ok n' e' p :=
 ⟨⟨h5,h.c.nl.mono hn,h.c.cb.mono he⟩,⟨h5,h.s.nl.mono hn,h.s.cb.mono he⟩,⟨h5,h.x.nl.mono hn,h.x.cb.mono he⟩,⟨h5,h.y.nl.mono hn,h.y.cb.mono he⟩⟩
theorem Pq.ok.lv{n m e:Nat}{p:Pq}(h:Pq.ok n e p)(hn:n=m):Pq.ok m e p:=hn▸h
theorem wA{r r':Nat}(h:r<=r'):∀j,eB r j<=eB r' j
 |0=>le_refl _
 |j+1=>by have:=wA h j;simp only[eB];omega
theorem FH{r r':Nat}(h:r<=r'):∀j e,iB r j e<=iB r' j e
 |0,e=>le_refl _
 |j+1,e=>by
  have h1:=wA h j;have h2:=wA h (j+1);have h3:=FH h j (4*e+3*eB r j+r+1);have h4:=vT r' j (e:=4*e+3*eB r j+r+1) (f:=4*e+3*eB r' j+r'+1) oz;simp only[iB];omega
theorem wK:Tw [] 0:=⟨by decide,(fun j h=>by cases h),(fun j h=>by cases h),⟨1,1,by decide,(fun d h=>by cases h),by decide,by decide⟩,by omega⟩
theorem Pq.ok.nr{n e:Nat}{p:Pq}(h:Pq.ok n e p)(he:e<=lm n):∀x∈p.pl.l,NR x e:=by
 intro x hx;simp only[Pl.l,Pq.pl,mem_cons,not_mem_nil,or_false]at hx;rcases hx with rfl |rfl |rfl |rfl
 ·exact h.c.rt he
 ·exact h.s.rt he
 ·exact h.x.rt he
 ·exact h.y.rt he
theorem Pq.ok.num{n e:Nat}{p:Pq}(h:Pq.ok n e p):∀x∈p.pl.l,b7 n x=0:=by
 intro x hx;simp only[Pl.l,Pq.pl,mem_cons,not_mem_nil,or_false]at hx;rcases hx with rfl |rfl |rfl |rfl
 ·exact mD h.c.nl
 ·exact mD h.s.nl
 ·exact mD h.x.nl
 ·exact mD h.y.nl
section
variable{l:Li}{j r E:Nat}{a:Aq}(Q:QInv l j r E a)
include Q
theorem QInv.chk:bq a.as.rs=0:=Q.tw.chk
theorem QInv.mem{p:Pl}(h:p∈a.as.bs):∃q∈a.bs,q.pl=p:=by have _:=Q;exact List.mem_map.1 h
theorem QInv.nr(hE:E<=50000000000){p:Pl}(h:p∈a.as.bs):∀x∈p.l,NR x E:=by
 obtain⟨q,hq,rfl⟩:=Q.mem h;exact(Q.bs q hq).nr (le_trans hE (lM _))
theorem QInv.ab(hl:aP l=0)(hE:E<=50000000000)(hr:r<=400000000):AB a.as:=by
 refine⟨Q.tw.tr.mono hr oz,fun p hp x hx=>(Q.nr hE hp x hx).mono hE,?_,?_⟩
 ·show(a.ts.map _).length<=8;rw[length_map];have:=Q.tw.three;omega
 ·show(a.bs.map _).length<=30;rw[length_map,Q.ln];have:=(dZ hl).2.2.2.1;omega
theorem QInv.sma(hE:E<=50000000000){F:Nat}(hF:E<=F)(k:Int)(own:Bool):p7 F l k a.as own :=
 fun b _ _ p hp x hx=>(Q.nr hE (mem_of_getElem? hp) x hx).mono hF
theorem QInv.nd(hl:aP l=0){g:Gr}(hg:GrOk l g){own:Bool}:∀b∈cQ l g own,fU a.as b=0:=by
 intro b hb;unfold fU;split
 ·rfl
 ·have h1:=yI hl hg b hb;obtain ⟨p,hp⟩:=aH (l:=a.bs) (i:=b.toNat) (by rw [Q.ln]; omega);have e:a.as.bs[b.toNat]? = some p.pl:=by show (a.bs.map Pq.pl)[b.toNat]? = _; rw [getElem?_map,hp]; rfl
  rw[aw e];unfold bb;rw[if_neg (by rw[Q.chk];simp)];have e2:a.as.rs.length=a.ts.length:=length_map _;rw[e2];exact oc (fun x hx=>(Q.bs p (mem_of_getElem? hp)).num x hx)
theorem QInv.dy0(hl:aP l=0)(hs:splitE l=0){k:Nat}{g:Gr}(hg:(splitG l)[k]?=some g)(own:Bool):et l k a.as own=0:=by
 have hk:=(List.getElem?_eq_some_iff.1 hg).1;obtain⟨_,ho⟩:=oY hl (mem_of_getElem? hg);have hgA:el l (k:Nat)=g:=aw hg;rw[rx hl,E0 hs oz (by show(a.bs.map _).length=_;rw[length_map,Q.ln]) Q.chk,hgA];exact oc (fun b hb=>Q.nd hl ho b (uJ.1 hb))
end
structure WkC(l:Li)(xs:List Tn)(s g:Nat):Prop where
  hl:l.ok
  li:aP l=0
  sp:splitE l=0
  cs:Cs s l
  ln:xs.length=l.dv.length
  ok:∀x∈xs,x.t.ok/\x.err=0/\Qb 1000 x.t.q/\Cb g [dR x.half x.t.q]/\Cb g [d5 x.half x.t.q]
theorem UP{l:Li}{g:Gr}(h:DyK l g)(hk:g.kind=0):0<=g.driver/\g.driver<l.dv.length:=by
 cases h with
 | @drv b z d _ _ t d0 hd hb=>have:=(List.getElem?_eq_some_iff.1 hd).1;exact⟨d0,by show d<_;omega⟩
 |rrr=>exact absurd hk (by simp)
 |pr=>exact absurd hk (by simp)
 |rp=>exact absurd hk (by simp)
theorem Nk:jJ.t.ok:=⟨(fun x h=>by cases h),(fun x h=>by cases h),zero_le _,zero_le _⟩
theorem Um:Qb 1000 jJ.t.q:=by
 have e:jJ.t.q=0:=by decide +kernel
 rw[e];exact Qb.zero.mono oz
section
variable{l:Li}{xs:List Tn}{s g:Nat}(W:WkC l xs s g){k:Nat}{gr:Gr}(hg:(splitG l)[k]?=some gr)
include W hg
theorem WkC.grp:DyK l gr/\GrOk l gr:=oY W.li (mem_of_getElem? hg)
theorem WkC.tn:(fv gr xs).t.ok/\Qb 1000 (fv gr xs).t.q/\(gr.kind=0->∃x∈xs,fv gr xs=x):=by
 unfold fv
 by_cases hk:gr.kind=0
 ·rw[if_pos hk];have h:=UP (W.grp hg).1 hk;obtain⟨x,hx⟩:=aH (l:=xs) (i:=gr.driver.toNat) (by rw[W.ln];omega);rw[aw hx];have hm:=mem_of_getElem? hx;exact⟨(W.ok x hm).1,(W.ok x hm).2.2.1,fun _=>⟨x,hm,rfl⟩⟩
 ·rw[if_neg hk];exact⟨Nk,Um,fun h=>absurd h hk⟩
variable{j r E:Nat}{a:Aq}(Q:QInv l j r E a)
include Q
theorem QInv.dyOk{F:Nat}(hE:E<=50000000000)(hF:E<=F):DyOk F l k a.as false k gr:=by
 obtain⟨i,g',h⟩:=vt (Q.sma hE hF k false) (Q.dy0 W.li W.sp hg false);have e:i=k:=by have:=h.hk;omega
 subst e;have:=h.hg;rw[hg]at this;cases this;exact h
theorem QInv.dyS(hr:r<=64990)(hj:j<=1):DyS a.as:=by have _:=W;have _:=hg;exact⟨Q.tw.tr.mono hr oz,fun _=>by rw[a.llq];exact le_trans Q.lv hj⟩
theorem QInv.dyW(hE:E<=50000000000)(hr:r<=400000000):DyW l a.as:=by have _:=hg;exact⟨W.hl,W.li,Q.ab W.li hE hr,Q.chk⟩
theorem QInv.twl:Tw (Lw.llq a.as.rs) r:=by have _:=W;have _:=hg;rw[a.llq];exact Q.tw
theorem QInv.drv{n y:Nat}(ok:jy s g (n+1) y j r E=true)(hk:gr.kind=0):∀sv∈fP l a.as gr (fv gr xs),QInv l j r (l9 s g j r E) (a.nxt gr sv):=by
 obtain⟨⟨hE,hr,hj⟩,_⟩:=Av ok;have D:=QInv.dyW W hg Q oz hr;have O:=QInv.dyOk W hg Q (F:=E) oz (le_refl _);obtain⟨i,z0,d,j0,e,hj0,p0⟩:=AK O hk;obtain⟨_,_,hx⟩:=W.tn hg;obtain⟨x,hx,ex⟩:=hx hk;obtain⟨_,he,_,hc,hs⟩:=W.ok x hx;have hlen:(Lw.llq a.as.rs).length=a.ts.length:=by rw[a.llq]
 have tw:=QInv.twl W hg Q;have hq0:=jN W.hl W.li W.cs hj0 p0.or;have hK:eB r (Lw.llq a.as.rs).length<=eB r j:=gP r (by rw[hlen];exact Q.lv);obtain⟨o1,o2⟩:=mF W.hl W.li W.cs D.al D.hc tw hK hj0 p0;rw[ex];unfold fP;rw[if_pos hk,e];show ∀sv∈iy l a.as i (l.jo.getD z0.toNat default) x,_;rw[aw hj0];unfold iy;rw[if_neg oz];have hp:=Ua (ts:=Lw.llq a.as.rs) (p:=ah l j0 i) (o:=an l a.as j0 i) hc hs hq0 tw.five o1 o2
 have hp2:Pq.ok a.ts.length (l9 s g j r E) (kT l a.as i j0 x):=by
  have:=Ai (a:=0) (b:=0) hp (e:=l9 s g j r E) (by unfold l9 lL;omega) (by unfold l9 lL;omega);exact Pq.ok.lv this hlen
 refine iD ⟨?_,?_,?_,?_⟩
 ·exact tw
 ·show(Lw.llq a.as.rs).length<=j;rw[hlen];exact Q.lv
 ·intro p hp3;show Pq.ok (Lw.llq a.as.rs).length _ p;rw[hlen];rcases Hn hp3 with h |h
  ·exact(Q.bs p h).up (le_refl _) Q.tw.five (by unfold l9 lL;omega)
  ·rw[List.mem_singleton.1 h];exact hp2
 ·exact(vm _ _ _).trans Q.ln
theorem QInv.dy{n y:Nat}(ok:jy s g (n+1) (y+1) j r E=true)(hk:gr.kind≠0):∀sv∈fP l a.as gr (fv gr xs),QInv l (j+1) (r+j5 s j r E) (qR s j r E) (a.nxt gr sv):=by
 obtain⟨⟨hj,hE,hr,hX,hJ⟩,_⟩:=yc ok;have D:DyR l a.as:=⟨QInv.dyW W hg Q oz oz,QInv.dyS W hg Q hr hj⟩
 have O:=QInv.dyOk W hg Q (F:=E) oz (le_refl _);have hlen:(Lw.llq a.as.rs).length=a.ts.length:=by rw[a.llq]
 have hlv:(Lw.llq a.as.rs).length<=j:=by rw[hlen];exact Q.lv
 have tw:=QInv.twl W hg Q
 have Z:Szs (Lw.llq a.as.rs).length r (3*E+2*s+2*eB r j+10) (8*s+5) (j5 s j r E) (eB r j) (eB (r+j5 s j r E) (j+1)) (G6 s j r E) (uL s j r E):=by
  refine⟨by omega,gP r hlv,?_,hX,gP _ oz,?_,?_,hJ,?_,?_⟩
  ·unfold j5 lL;omega
  ·exact zB r _ hlv
  ·exact zB _ _ hlv
  ·exact le_trans (gP r oz) (wA oz _)
  ·exact FH oz _ _
 have hn:(Lw.llq a.as.rs).length<=1:=by omega
 have key:∀sv∈fP l a.as gr (fv gr xs),Xz (Lw.llq a.as.rs) r (j5 s j r E) sv.ts/\∀p∈sv.ps,Pq.ok sv.ts.length (qR s j r E) p:=by
  unfold fP;rw[if_neg hk]
  by_cases hk1:gr.kind=1
  ·obtain⟨i,k2,z0,z1,z2,j0,j1,j2,P⟩:=O.rrr hk1;obtain⟨e0,e1,e2,b0,b1,_⟩:=P.at;rw[if_pos hk1,e0,e1,e2,b0,b1];exact N9 D hn W.cs tw Z (le_refl _) P
  ·rw[if_neg hk1]
   by_cases hk2:gr.kind=2
   ·obtain⟨i,z0,z1,j0,j,P,ha,hb⟩:=O.pr hk2;obtain⟨e0,e1,b0,_⟩:=P.at;rw[if_pos hk2,e0,e1,b0];exact K0 D hn W.cs tw Z (le_refl _) P ha hb
   ·obtain⟨i,z0,z1,j0,j,P,_,hj,hb⟩:=O.rp hk hk1 hk2;obtain⟨e0,e1,b0,hk3⟩:=P.at;rw[if_neg hk2,e0,e1,b0];exact Ke D hn W.cs tw Z (le_refl _) P hj hb
 intro sv hsv;obtain⟨hx,hp⟩:=key sv hsv;have h5:=hx.tw.five;have hup:=hx.up;have hln:=hx.ln;rw[hlen]at hup hln;refine⟨hx.tw,?_,?_,?_⟩
 ·show sv.ts.length<=j+1;have:=Q.lv;omega
 ·intro p hp3;rcases Hn hp3 with h |h
  ·exact(Q.bs p h).up hup h5 (by unfold qR oZ wZ lL;omega)
  ·exact hp p h
 ·exact(vm _ _ _).trans Q.ln
end
def rZ(l:Li)(a:As)(g:Gr)(x:Tn):Nat:=(iP l a g x).2
def qI(F:Int->Bool)(sg:Bool)(f:Sv->List Aq×Nat):List Sv->List Aq×Nat
  |[]=>([],0)
  |s::r=>if F s.mode=false then qI F sg f r else if(f s).2≠0 then f s else if sg=true then f s else((f s).1++(qI F sg f r).1,(qI F sg f r).2)
theorem GE{l:Li}{xs:List Tn}{s g:Nat}(W:WkC l xs s g){k:Nat}{gr:Gr}(hg:(splitG l)[k]?=some gr){j r E:Nat}{a:Aq}(Q:QInv l j r E a){n y:Nat}(ok:jy s g (n+1) y j r E=true)(hy:gr.kind≠0->0<y) :
  SolP (fP l a.as gr (fv gr xs)) gr.kind a.ts.length gr.bo.length:=by
 obtain⟨⟨hE,hr,hj⟩,_⟩:=Av ok;have D:=QInv.dyW W hg Q oz hr;have h3:(Lw.llq a.as.rs).length<=2:=by rw[a.llq];have:=Q.lv;omega
 have hlen:(Lw.llq a.as.rs).length=a.ts.length:=by rw[a.llq]
 rw[<- hlen]
 by_cases hk:gr.kind=0
 ·exact IC hE D h3 (QInv.dyOk W hg Q (F:=E) oz (le_refl _)) (fun h=>absurd hk h) (W.tn hg).2.1
 ·have hy:=hy hk;obtain ⟨y',rfl⟩:∃ y',y = y' + 1:=⟨y - 1,by omega⟩
  obtain⟨⟨hj,hE,hr,hX,hJ⟩,_⟩:=yc ok;exact IC oz D h3 (QInv.dyOk W hg Q (F:=3900000) oz hE) (fun _=>⟨rfl,QInv.dyS W hg Q hr hj⟩) (W.tn hg).2.1
open Lean.Grind (CommRing)
theorem q8{ts:LL}(hp:cS ts){X:Et ts}(h:0<am X):cS (aQ ts (sX X)):=by
 intro j hj;rw[dD]at hj;rw[vJ oz];rcases lt_or_ge j ts.length with h9 |h9
 ·rw[vu h9];exact hp j h9
 ·have : j = ts.length := by omega
  subst this
  have e1:ao (aQ ts (sX X)) ts.length=X:=by
   show ac ts.length ((aQ ts (sX X)).getD ts.length [])=_;rw[s6,mU];exact a5 _ _
  rw[e1];exact Int.le_of_lt h
def bn(T:LL)(p:Pq)(m:Rat×Rat):P2 T:=(dE T p.c*qE m.1-dE T p.s*qE m.2+dE T p.x,dE T p.s*qE m.1+dE T p.c*qE m.2+dE T p.y)
def CH(T:LL)(p:Pq):Prop:=am (dE T p.c*dE T p.c+dE T p.s*dE T p.s-1)=0
def aq(l:Li)(T:LL)(bs:List Pq)(b pt:Int):P2 T:=bn T (bs.getD b.toNat bt) (aB l b pt)
def JH(l:Li)(T:LL)(bs:List Pq)(j:Jt):Prop :=
  if j.kind=0 then am ((aq l T bs j.a j.point).1-(aq l T bs j.b j.on).1)=0/\am ((aq l T bs j.a j.point).2-(aq l T bs j.b j.on).2)=0
  else am (gj (aK (aq l T bs j.b j.to) (aq l T bs j.b j.on)) (aK (aq l T bs j.a j.point) (aq l T bs j.b j.on)))=0
theorem EN{ts:LL}{q:Rat}(h:q≠0):(iE (qE q)*qE q:Et ts)=1:=by
 have e:(iE (qE q):Et ts)=qE (1/q):=uK (ao ts) ts.length q;rw[e,<- gG,show 1/q*q=((1:Nat):Rat) by rw[show(((1:Nat):Rat))=1 from rfl];grind];rfl
section
variable{T:LL}{u p c:Rat×Rat}{w o:P2 T}
theorem wX:dE T (gK u w p o).c=dm u w:=a5 _ _
theorem xy:dE T (gK u w p o).s=da u w:=a5 _ _
theorem O1:dE T (gK u w p o).x=pH u w p o:=a5 _ _
theorem QS:dE T (gK u w p o).y=qH u w p o:=a5 _ _
theorem nK(m:Rat×Rat):bn T (gK u w p o) m=(o.1+(dm u w*qE (m.1-p.1)-da u w*qE (m.2-p.2)),o.2+(da u w*qE (m.1-p.1)+dm u w*qE (m.2-p.2))):=by
 unfold bn;rw[wX,xy,O1,QS,kq,kq];unfold pH qH;refine Prod.ext ?_ ?_
 ·dsimp only;grind
 ·dsimp only;grind
theorem tc:bn T (gK u w p o) p=o:=by
 rw[nK,show p.1-p.1=0 by grind,show p.2-p.2=0 by grind,AY];refine Prod.ext ?_ ?_
 ·dsimp only;grind
 ·dsimp only;grind
theorem A9(h:bQ u u≠0):(dm u w*qE u.1-da u w*qE u.2=w.1/\da u w*qE u.1+dm u w*qE u.2=w.2):=by
 have hn:(kp u:Et T)=qE u.1*qE u.1+qE u.2*qE u.2:=by
  show qE (u.1*u.1+u.2*u.2)=_;rw[l7,gG,gG]
 exact(IW hn (EN h) rfl rfl).1
theorem ud(h:bQ (bF c p) (bF c p)≠0):bn T (gK (bF c p) w p o) c=(o.1+w.1,o.2+w.2):=by
 rw[nK];have g:=A9 (w:=w) h;have e1:(qE (c.1-p.1):Et T)=qE (bF c p).1:=rfl;have e2:(qE (c.2-p.2):Et T)=qE (bF c p).2:=rfl;rw[e1,e2,g.1,g.2]
theorem u4(hp:cS T)(h:bQ u u≠0)(hw:am (w.1*w.1+w.2*w.2-qE (bQ u u))=0):CH T (gK u w p o):=by
 unfold CH;rw[wX,xy]
 have hn:(kp u:Et T)=qE u.1*qE u.1+qE u.2*qE u.2:=by
  show qE (u.1*u.1+u.2*u.2)=_;rw[l7,gG,gG]
 have hi:(iE (kp u)*kp u:Et T)=1:=EN h;have e:=congrArg (ae hp) hn;have ei:=congrArg (ae hp) hi;have ew:ae hp w.1*ae hp w.1+ae hp w.2*ae hp w.2=ae hp (kp u):=(fQ hp (x:=w.1*w.1+w.2*w.2) (y:=kp u)).2 hw;have g:=(IW (R:=Zq hp) (n:=ae hp (kp u)) (i:=ae hp (iE (kp u))) (u1:=ae hp (qE u.1)) (u2:=ae hp (qE u.2)) (c:=ae hp (dm u w)) (s:=ae hp (da u w)) (w1:=ae hp w.1) (w2:=ae hp w.2) e ei rfl (by unfold da;rw[bm,bC,bm,bm])).2 ew;refine(fQ hp (x:=dm u w*dm u w+da u w*da u w) (y:=1)).1 ?_;exact g
end
def aC(a:As):List Pq:=a.bs.map fun b=>⟨lq b.c,lq b.s,lq b.x,lq b.y⟩
theorem qk(q:Aq):aC q.as=q.bs:=by
 unfold aC Aq.as;rw[map_map]
 conv=>rhs;rw[<- List.map_id q.bs]
 refine List.map_congr_left fun p _=>?_
 show(⟨lq (p.c.map rt),lq (p.s.map rt),lq (p.x.map rt),lq (p.y.map rt)⟩:Pq)=p;rw[cZ,cZ,cZ,cZ]
theorem dT(l:Li)(a:As)(b pt:Int):ax l a b pt=aq l (llq a.rs) (aC a) b pt:=by
 have e:(aC a).getD b.toNat bt=⟨lq (a.bs.getD b.toNat default).c,lq (a.bs.getD b.toNat default).s,lq (a.bs.getD b.toNat default).x,lq (a.bs.getD b.toNat default).y⟩:=by
  unfold aC;rw[getD_eq_getElem?_getD,getD_eq_getElem?_getD,getElem?_map];cases a.bs[b.toNat]? <;> rfl
 unfold aq;rw[e];rfl
def Nq(n:Nat)(p:Pq):Prop:=p.c.length<=2^n/\p.s.length<=2^n/\p.x.length<=2^n/\p.y.length<=2^n
section
variable{ts T:LL}(L:Lf ts T)
include L
theorem Lf.add(x y:Et ts):ae L.pos (au T (x+y))=ae L.pos (au T x)+ae L.pos (au T y):=L.hm.add x y
theorem Lf.mul(x y:Et ts):ae L.pos (au T (x*y))=ae L.pos (au T x)*ae L.pos (au T y):=L.hm.mul x y
theorem Lf.sub(x y:Et ts):ae L.pos (au T (x-y))=ae L.pos (au T x)-ae L.pos (au T y):=L.hm.sub x y
theorem Lf.one:ae L.pos (au T (1:Et ts))=1:=L.hm.one
theorem Lf.at{p:Pq}(hp:Nq ts.length p)(m:Rat×Rat):ae L.pos (bn T p m).1=ae L.pos (au T (bn ts p m).1)/\ae L.pos (bn T p m).2=ae L.pos (au T (bn ts p m).2):=by
 obtain⟨h1,h2,h3,h4⟩:=hp;unfold bn;dsimp only;constructor
 ·rw[L.add,L.sub,L.mul,L.mul,L.low _ h1,L.low _ h2,L.low _ h3,L.q,L.q,ee,bC,bm,bm]
 ·rw[L.add,L.add,L.mul,L.mul,L.low _ h1,L.low _ h2,L.low _ h4,L.q,L.q,ee,ee,bm,bm]
theorem Lf.zero(x:Et ts):am (au T x)=0↔am x=0:=(eI L.pos).symm.trans (L.hm.zero x)
theorem Lf.ch{p:Pq}(hp:Nq ts.length p)(h:CH ts p):CH T p:=by
 obtain⟨h1,h2,h3,h4⟩:=hp;have e:=(L.zero _).2 h;have e1:=(eI L.pos).2 e;refine(eI L.pos).1 ?_;rw[L.sub,L.add,L.mul,L.mul,L.low _ h1,L.low _ h2,L.one]at e1;rw[bC,ee,bm,bm];exact e1
end
end Go.Lw
namespace Go.Lw
open Lean.Grind (CommRing)
def fx(bs bs':List Pq)(n:Nat)(b:Int):Prop:=bs'.getD b.toNat bt=bs.getD b.toNat bt/\Nq n (bs.getD b.toNat bt)
section
variable{ts T:LL}(L:Lf ts T)
include L
theorem Lf.pt(l:Li){bs bs':List Pq}{b:Int}(h:fx bs bs' ts.length b)(pt:Int) :
  ae L.pos (aq l T bs' b pt).1=ae L.pos (au T (aq l ts bs b pt).1)/\ae L.pos (aq l T bs' b pt).2=ae L.pos (au T (aq l ts bs b pt).2):=by
 unfold aq;rw[h.1];exact L.at h.2 _
end
section
variable{T:LL}(hp:cS T)
include hp
theorem vI{l:Li}{bs:List Pq}{j:Jt}(hk:j.kind=0)(h1:ae hp (aq l T bs j.a j.point).1=ae hp (aq l T bs j.b j.on).1)(h2:ae hp (aq l T bs j.a j.point).2=ae hp (aq l T bs j.b j.on).2):JH l T bs j:=by
 unfold JH;rw[if_pos hk];exact⟨(fQ hp).1 h1,(fQ hp).1 h2⟩
theorem AZ{l:Li}{bs:List Pq}{j:Jt}(hk:j.kind≠0)
  (h:(ae hp (aq l T bs j.b j.to).1-ae hp (aq l T bs j.b j.on).1)*(ae hp (aq l T bs j.a j.point).2-ae hp (aq l T bs j.b j.on).2)-(ae hp (aq l T bs j.b j.to).2-ae hp (aq l T bs j.b j.on).2)*(ae hp (aq l T bs j.a j.point).1-ae hp (aq l T bs j.b j.on).1)=0):JH l T bs j:=by
 unfold JH;rw[if_neg hk];refine(eI hp).1 ?_;unfold gj crsE aK;dsimp only;rw[bC,bm,bm,bC,bC,bC,bC];exact h
theorem E5{l:Li}{bs:List Pq}{j:Jt}(hk:j.kind=0)(h:JH l T bs j):ae hp (aq l T bs j.a j.point).1=ae hp (aq l T bs j.b j.on).1/\ae hp (aq l T bs j.a j.point).2=ae hp (aq l T bs j.b j.on).2:=by
 unfold JH at h;rw[if_pos hk]at h;exact⟨(fQ hp).2 h.1,(fQ hp).2 h.2⟩
theorem Fn{l:Li}{bs:List Pq}{j:Jt}(hk:j.kind≠0)(h:JH l T bs j) :
  (ae hp (aq l T bs j.b j.to).1-ae hp (aq l T bs j.b j.on).1)*(ae hp (aq l T bs j.a j.point).2-ae hp (aq l T bs j.b j.on).2)-(ae hp (aq l T bs j.b j.to).2-ae hp (aq l T bs j.b j.on).2)*(ae hp (aq l T bs j.a j.point).1-ae hp (aq l T bs j.b j.on).1)=0:=by
 unfold JH at h;rw[if_neg hk]at h;have e:=(eI hp).2 h;unfold gj crsE aK at e;dsimp only at e;rw[bC,bm,bm,bC,bC,bC,bC]at e;exact e
end
section
variable{ts T:LL}(L:Lf ts T)
include L
theorem Lf.jh{l:Li}{bs bs':List Pq}{j:Jt}(ha:fx bs bs' ts.length j.a)(hb:fx bs bs' ts.length j.b)(h:JH l ts bs j):JH l T bs' j:=by
 have a:=L.pt l ha;have b:=L.pt l hb
 by_cases hk:j.kind=0
 ·unfold JH at h;rw[if_pos hk]at h;have e1:=(eI L.pos).2 ((L.zero _).2 h.1);have e2:=(eI L.pos).2 ((L.zero _).2 h.2);rw[L.sub]at e1 e2;refine vI L.pos hk ?_ ?_
  ·rw[(a _).1,(b _).1];grind
  ·rw[(a _).2,(b _).2];grind
 ·unfold JH at h;rw[if_neg hk]at h;have e1:=(eI L.pos).2 ((L.zero _).2 h);unfold gj crsE aK at e1;dsimp only at e1;simp only[L.sub,L.mul]at e1;refine AZ L.pos hk ?_;rw[(a _).1,(a _).2,(b _).1,(b _).2,(b _).1,(b _).2];exact e1
end
section
variable{l:Li}{a:As}{T:LL}(L:Lf (llq a.rs) T)
include L
theorem Lf.pin{bs':List Pq}{j:Jt}{i:Int}(hk:j.kind=0)(tie:(j.a=i/\fx (aC a) bs' (llq a.rs).length j.b)\/(j.a≠i/\j.b=i/\fx (aC a) bs' (llq a.rs).length j.a))
  (h:bn T (bs'.getD i.toNat bt) (ah l j i)=(au T (an l a j i).1,au T (an l a j i).2)):JH l T bs' j:=by
 have h1:=congrArg Prod.fst h;have h2:=congrArg Prod.snd h;dsimp only at h1 h2;rcases tie with⟨e,hs⟩ |⟨e,e2,hs⟩
 ·have b:=L.pt l hs j.on;unfold ah an at h1 h2;simp only[if_pos e]at h1 h2;rw[dT]at h1 h2;refine vI L.pos hk ?_ ?_
  ·rw[b.1];unfold aq;rw[e];exact congrArg (ae L.pos) h1
  ·rw[b.2];unfold aq;rw[e];exact congrArg (ae L.pos) h2
 ·have b:=L.pt l hs j.point;unfold ah an at h1 h2;simp only[if_neg e]at h1 h2;rw[dT]at h1 h2;refine vI L.pos hk ?_ ?_
  ·rw[b.1]
   conv=>rhs;unfold aq
   rw[e2];exact(congrArg (ae L.pos) h1).symm
  ·rw[b.2]
   conv=>rhs;unfold aq
   rw[e2];exact(congrArg (ae L.pos) h2).symm
end
theorem kG{bs:List Pq}{i k:Int}{p:Pq}(hi:0<=i)(hk:0<=k)(h:k≠i):(bs.set i.toNat p).getD k.toNat bt=bs.getD k.toNat bt:=by
 rw[getD_eq_getElem?_getD,getD_eq_getElem?_getD,List.getElem?_set_ne oz]
theorem nH{bs:List Pq}{i:Nat}{p:Pq}(h:i<bs.length):(bs.set i p).getD i bt=p:=by
 rw[getD_eq_getElem?_getD,List.getElem?_set_self h];rfl
theorem Q3(n:Nat):Nq n bt:=⟨zero_le _,zero_le _,zero_le _,zero_le _⟩
theorem Cj{bs:List Pq}{n:Nat}(h:∀p∈bs,Nq n p)(i:Nat):Nq n (bs.getD i bt):=by
 rw[getD_eq_getElem?_getD];cases e:bs[i]? with
 |none=>exact Q3 n
 |some p=>exact h p (mem_of_getElem? e)
structure GrpH(l:Li)(a:As)(g:Gr)(s:Sv):Prop where
  lf:Lf (llq a.rs) s.ts
  js:∀z∈g.jo,JH l s.ts (a6 (aC a) g.bo s.ps) (l.jo.getD z.toNat default)
  cs:∀b∈g.bo,CH s.ts ((a6 (aC a) g.bo s.ps).getD b.toNat bt)
theorem Qh{R:Type}[CommRing R]{C S a1 a2 b1 b2 x1 x2 P1 P2 o1 o2:R}(hcs:C*C+S*S=1)(g:x1*(P2-o2)-x2*(P1-o1)=(a1-b1)*b2-(a2-b2)*b1)
  (y1:C*(a1-b1)-S*(a2-b2)=x1) (y2:S*(a1-b1)+C*(a2-b2)=x2) :
  (o1+(C*a1-S*a2)-(o1+(C*b1-S*b2)))*(P2-(o2+(S*b1+C*b2)))-(o2+(S*a1+C*a2)-(o2+(S*b1+C*b2)))*(P1-(o1+(C*b1-S*b2)))=0:=by
 have e1:o1+(C*a1-S*a2)-(o1+(C*b1-S*b2))=x1:=by rw[<- y1];grind
 have e2:o2+(S*a1+C*a2)-(o2+(S*b1+C*b2))=x2:=by rw[<- y2];grind
 rw[e1,e2];have e3:x1*(P2-(o2+(S*b1+C*b2)))-x2*(P1-(o1+(C*b1-S*b2)))=(x1*(P2-o2)-x2*(P1-o1))-(x1*(S*b1+C*b2)-x2*(C*b1-S*b2)):=by clear hcs g y1 y2 e1 e2;grind
 have e4:x1*(S*b1+C*b2)-x2*(C*b1-S*b2)=((a1-b1)*b2-(a2-b2)*b1)*(C*C+S*S):=by rw[<- y1,<- y2];clear hcs g y1 y2 e1 e2 e3;grind
 rw[e3,e4,g,hcs];grind
section
variable{l:Li}{a:As}{r:Nat}(tw:Tw (llq a.rs) r)(hN:∀p∈aC a,Nq (llq a.rs).length p)
include tw hN
theorem ph{bs':List Pq}{b:Int}(h:bs'.getD b.toNat bt=(aC a).getD b.toNat bt):fx (aC a) bs' (llq a.rs).length b:=by
 have:=tw;exact⟨h,Cj hN _⟩
theorem Ff{u:Rat×Rat}(h:bQ u u≠0):0<am (qE (bQ u u):Et (llq a.rs)):=by
 have:=tw;have:=hN;have h0:0<=bQ u u:=Rat.add_nonneg (l8 u.1) (l8 u.2)
 have h1:0<bQ u u:=by
  rcases Rat.le_iff_lt_or_eq.1 h0 with g |g
  ·exact g
  ·exact absurd g.symm h
 rw[xj,sk h1];decide
theorem RE{i k z0 z1 z2:Int}{j0 j1 j2:Jt}(ne:i≠k)(t0:TieO l 0 [i,k] z0 i j0)(t1:TieO l 0 [i,k] z1 k j1)(h2:l.jo[z2.toNat]?=some j2)(kd:j2.kind=0)
  (tie:(j2.a=i/\j2.b=k)\/(j2.b=i/\j2.a=k)) (hi:0<=i) (hk:0<=k) (hil:i.toNat<(aC a).length) (hkl:k.toNat<(aC a).length) (hn:∀j∈l.jo,0<=j.a/\0<=j.b)
  {s:Sv} (hs:s∈il l a i k j0 j1 j2):GrpH l a ⟨1,[i,k],[z0,z1,z2],0⟩ s:=by
 unfold il at hs;split at hs
 ·cases hs
 ·rename_i hz;obtain⟨w1,w2⟩:=pZ (Bool.eq_false_iff.2 hz);split at hs
  ·cases hs
  ·rename_i hc;have hc:=Decidable.not_not.1 hc;have geo:=Tc tw (fun X hX=>q8 tw.pos hX) hc (Ff tw hN w1);unfold jK at hs;obtain ⟨m,hm,rfl⟩:=List.mem_map.1 hs;obtain ⟨x,hx⟩:=aH (List.mem_range.1 hm);have G:=geo x (mem_of_getElem? hx);unfold io;rw [aw hx];have e0:TieO l 0 [i,k] z0 i j0:=t0;obtain ⟨n0,n1⟩:=hn j0 (mem_of_getElem? t0.hj);obtain ⟨n2,n3⟩:=hn j1 (mem_of_getElem? t1.hj);have hne:i.toNat ≠ k.toNat:=by omega
   generalize hM:dc (an l a j0 i) (an l a j1 k) (qE (aX (ah l j2 i) (ah l j0 i))) (qE (aX (ah l j2 k) (ah l j1 k)))=M at *;obtain⟨B0,hB0⟩:∃B0,B0=f7 M.ts x ⟨ah l j0 i,P2.l (an l a j0 i),ah l j2 i⟩:=⟨_,rfl⟩
   obtain⟨B1,hB1⟩:∃B1,B1=f7 M.ts x ⟨ah l j1 k,P2.l (an l a j1 k),ah l j2 k⟩:=⟨_,rfl⟩
   have hbs:a6 (aC a) [i,k] [B0,B1]=((aC a).set i.toNat B0).set k.toNat B1:=rfl;have g0:(a6 (aC a) [i,k] [B0,B1]).getD i.toNat bt=B0:=by rw[hbs,kG hk hi ne,nH hil]
   have g1:(a6 (aC a) [i,k] [B0,B1]).getD k.toNat bt=B1:=by rw[hbs,nH (by rw[length_set];exact hkl)]
   have gn:∀b:Int,0<=b->b∉[i,k]->fx (aC a) (a6 (aC a) [i,k] [B0,B1]) (llq a.rs).length b:=fun b h0 hb=>ph tw hN (by
    rw[hbs,kG hk h0 (fun e=>hb (by simp[e])),kG hi h0 (fun e=>hb (by simp[e]))])
   have p0:bn M.ts B0 (ah l j0 i)=(au M.ts (an l a j0 i).1,au M.ts (an l a j0 i).2):=by rw[hB0];exact tc
   have p1:bn M.ts B1 (ah l j1 k)=(au M.ts (an l a j1 k).1,au M.ts (an l a j1 k).2):=by rw[hB1];exact tc
   have q0:bn M.ts B0 (ah l j2 i)=(dE M.ts x.1,dE M.ts x.2):=by
    rw[hB0];refine(ud w1).trans ?_;unfold kR ji;refine Prod.ext ?_ ?_
    ·dsimp only;grind
    ·dsimp only;grind
   have q1:bn M.ts B1 (ah l j2 k)=(dE M.ts x.1,dE M.ts x.2):=by
    rw[hB1];refine(ud w2).trans ?_;unfold kR ji;refine Prod.ext ?_ ?_
    ·dsimp only;grind
    ·dsimp only;grind
   refine⟨G.lf,?_,?_⟩
   ·intro z hz;show JH l M.ts (a6 (aC a) [i,k] [_,_]) _;rw[<- hB0,<- hB1];rcases List.mem_cons.1 hz with rfl |hz
    ·rw [aw t0.hj];refine G.lf.pin t0.kd (i:=i) ?_ (by rw [g0]; exact p0);rcases t0.tie with ⟨e,hb⟩ | ⟨e,hb⟩
     ·exact .inl ⟨e,gn _ n1 hb⟩
     ·exact .inr ⟨fun e2=>hb (by simp[e2]),e,gn _ n0 hb⟩
    ·rcases List.mem_cons.1 hz with rfl |hz
     ·rw [aw t1.hj];refine G.lf.pin t1.kd (i:=k) ?_ (by rw [g1]; exact p1);rcases t1.tie with ⟨e,hb⟩ | ⟨e,hb⟩
      ·exact .inl ⟨e,gn _ n3 hb⟩
      ·exact .inr ⟨fun e2=>hb (by simp[e2]),e,gn _ n2 hb⟩
     ·rw[List.mem_singleton.1 hz,aw h2]
      have key:aq l M.ts (a6 (aC a) [i,k] [B0,B1]) j2.a j2.point=aq l M.ts (a6 (aC a) [i,k] [B0,B1]) j2.b j2.on:=by
       unfold aq;rcases tie with⟨e,e'⟩ |⟨e,e'⟩
       ·have c0 : ah l j2 i = aB l i j2.point := by unfold ah; rw [if_pos e]
        have c1:ah l j2 k=aB l k j2.on:=by unfold ah;rw[if_neg oz]
        rw[e,e',g0,g1,<- c0,<- c1,q0,q1]
       ·have c0 : ah l j2 k = aB l k j2.point := by unfold ah; rw [if_pos e']
        have c1:ah l j2 i=aB l i j2.on:=by unfold ah;rw[if_neg oz]
        rw[e,e',g0,g1,<- c0,<- c1,q0,q1]
      exact vI G.lf.pos kd (by rw[key]) (by rw[key])
   ·intro b hb;show CH M.ts ((a6 (aC a) [i,k] [_,_]).getD b.toNat bt);rw[<- hB0,<- hB1];rcases List.mem_cons.1 hb with rfl |hb
    ·rw[g0,hB0];refine u4 G.lf.pos w1 ?_;have:=G.c1;rw[G.lf.q]at this;exact this
    ·rw[List.mem_singleton.1 hb,g1,hB1];refine u4 G.lf.pos w2 ?_;have:=G.c2;rw[G.lf.q]at this;exact this
theorem Sb{i z0 z1:Int}{j0 j:Jt}(t0:TieO l 0 [i] z0 i j0)(t1:TieO l 1 [i] z1 i j)(ha:j.a=i)(hi:0<=i)(hil:i.toNat<(aC a).length)(hn:∀j∈l.jo,0<=j.a/\0<=j.b)
  {s:Sv} (hs:s∈ib l a i j0 j):GrpH l a ⟨2,[i],[z0,z1],0⟩ s:=by
 unfold ib at hs;split at hs
 ·cases hs
 ·rename_i hz;have w1:=rc (Bool.eq_false_iff.2 hz);split at hs
  ·cases hs
  ·rename_i hc;have hc:=Decidable.not_not.1 hc;have geo:=Uz tw (fun X hX=>q8 tw.pos hX) (c:=an l a j0 i) (z:=qE (aX (aB l i j.point) (ah l j0 i))) hc;unfold jK at hs;obtain⟨m,hm,rfl⟩:=List.mem_map.1 hs;obtain⟨x,hx⟩:=aH (List.mem_range.1 hm);have G:=geo x (mem_of_getElem? hx);have L:=G.lf;unfold io;rw[aw hx];obtain⟨n0,n1⟩:=hn j0 (mem_of_getElem? t0.hj);obtain⟨n2,n3⟩:=hn j (mem_of_getElem? t1.hj);generalize hM:dt (ax l a j.b j.on) (ax l a j.b j.to) (an l a j0 i) (qE (aX (aB l i j.point) (ah l j0 i)))=M at *;obtain⟨B0,hB0⟩:∃B0,B0=f7 M.ts x ⟨ah l j0 i,P2.l (an l a j0 i),aB l i j.point⟩:=⟨_,rfl⟩
   have hbs:a6 (aC a) [i] [B0]=(aC a).set i.toNat B0:=rfl;have g0:(a6 (aC a) [i] [B0]).getD i.toNat bt=B0:=by rw[hbs,nH hil]
   have gn:∀b:Int,0<=b->b∉[i]->fx (aC a) (a6 (aC a) [i] [B0]) (llq a.rs).length b:=fun b h0 hb=>ph tw hN (by
    rw[hbs,kG hi h0 (fun e=>hb (by simp[e]))])
   have p0:bn M.ts B0 (ah l j0 i)=(au M.ts (an l a j0 i).1,au M.ts (an l a j0 i).2):=by rw[hB0];exact tc
   have q0:bn M.ts B0 (aB l i j.point)=(dE M.ts x.1,dE M.ts x.2):=by
    rw[hB0];refine(ud w1).trans ?_;unfold kR ji;refine Prod.ext ?_ ?_
    ·dsimp only;grind
    ·dsimp only;grind
   have hjb:fx (aC a) (a6 (aC a) [i] [B0]) (llq a.rs).length j.b:=by
    rcases t1.tie with⟨e,hb⟩ |⟨e,hb⟩
    ·exact gn _ n3 hb
    ·exact absurd (by simp[ha]) hb
   refine⟨G.lf,?_,?_⟩
   ·intro z hz;show JH l M.ts (a6 (aC a) [i] [_]) _;rw[<- hB0];rcases List.mem_cons.1 hz with rfl |hz
    ·rw [aw t0.hj];refine L.pin t0.kd (i:=i) ?_ (by rw [g0]; exact p0);rcases t0.tie with ⟨e,hb⟩ | ⟨e,hb⟩
     ·exact .inl ⟨e,gn _ n1 hb⟩
     ·exact .inr ⟨fun e2=>hb (by simp[e2]),e,gn _ n0 hb⟩
    ·rw [List.mem_singleton.1 hz, aw t1.hj];refine AZ L.pos (by rw [t1.kd]; decide) ?_;have ec:=(eI L.pos).2 G.l;rw [bC,bm,bm,bC,bC,bC,bC,dT,dT] at ec;have on:=L.pt l hjb j.on;have to:=L.pt l hjb j.to
     have pp:aq l M.ts (a6 (aC a) [i] [B0]) j.a j.point=(dE M.ts x.1,dE M.ts x.2):=by
      unfold aq;rw[ha,g0,q0]
     rw[pp,on.1,on.2,to.1,to.2];exact ec
   ·intro b hb;show CH M.ts ((a6 (aC a) [i] [_]).getD b.toNat bt);rw[<- hB0,List.mem_singleton.1 hb,g0,hB0];refine u4 L.pos w1 ?_;have:=G.c;rw[L.q]at this;exact this
theorem BE{i z0 z1:Int}{j0 j:Jt}(t0:TieO l 0 [i] z0 i j0)(t1:TieO l 1 [i] z1 i j)(ha:j.a≠i)(hi:0<=i)(hil:i.toNat<(aC a).length)(hn:∀j∈l.jo,0<=j.a/\0<=j.b)(hv:bQ (cf l i j) (cf l i j)≠0)
  (hd:am (bZ l a i j0 j)≠0) {T:LL} (L:Lf (llq a.rs) T) {q:List Rat} (hq:ae L.pos (dE T q*dE T q)=ae L.pos (au T (bi l a i j0 j))) {n:Int} :
  GrpH l a ⟨3,[i],[z0,z1],0⟩ ⟨T,[m8 T (dg l a i j0 j) q],n⟩:=by
 obtain⟨n0,n1⟩:=hn j0 (mem_of_getElem? t0.hj);obtain⟨n2,n3⟩:=hn j (mem_of_getElem? t1.hj)
 obtain⟨tb,tn⟩:j.b=i/\j.a∉[i]:=by
  rcases t1.tie with⟨e,hb⟩ |h
  ·exact absurd e ha
  ·exact h
 obtain⟨w,hw⟩:∃w:P2 T,w=nU T q (dg l a i j0 j).h (dg l a i j0 j).d (dg l a i j0 j).w:=⟨_,rfl⟩
 obtain⟨o,ho⟩:∃o:P2 T,o=(au T (an l a j0 i).1,au T (an l a j0 i).2):=⟨_,rfl⟩
 obtain⟨B0,hB0⟩:∃B0,B0=gK (cf l i j) w (ah l j0 i) o:=⟨_,rfl⟩
 have e0:m8 T (dg l a i j0 j) q=B0:=by rw[hB0,hw,ho];rfl
 rw[e0];have hbs:a6 (aC a) [i] [B0]=(aC a).set i.toNat B0:=rfl;have g0:(a6 (aC a) [i] [B0]).getD i.toNat bt=B0:=by rw[hbs,nH hil]
 have gn:∀b:Int,0<=b->b∉[i]->fx (aC a) (a6 (aC a) [i] [B0]) (llq a.rs).length b:=fun b h0 hb=>ph tw hN (by
  rw[hbs,kG hi h0 (fun e=>hb (by simp[e]))])
 have hD:ae L.pos (au T (bZ l a i j0 j))=ae L.pos (au T (bR l a i j0 j).1)*ae L.pos (au T (bR l a i j0 j).1)+ae L.pos (au T (bR l a i j0 j).2)*ae L.pos (au T (bR l a i j0 j).2):=by
  rw[<- L.mul,<- L.mul,<- L.add];rfl
 have hI:ae L.pos (iE (au T (bZ l a i j0 j)))*ae L.pos (au T (bZ l a i j0 j))=1:=wt L.pos (fun e=>hd ((L.zero _).1 e))
 have hX:ae L.pos (dE T q)*ae L.pos (dE T q)=ae L.pos (qE (fJ l i j))*ae L.pos (au T (bZ l a i j0 j))-ae L.pos (qE (bV l i j0 j))*ae L.pos (qE (bV l i j0 j)):=by
  rw[<- bm,hq];unfold bi;rw[L.sub,L.mul,L.mul,L.q,L.q]
 have eh:dE T (dg l a i j0 j).h=qE (bV l i j0 j):=gf _ _;have x1:w.1=(dE T q*au T (bR l a i j0 j).1-qE (bV l i j0 j)*-au T (bR l a i j0 j).2)*iE (au T (bZ l a i j0 j)):=by rw[hw,<- eh];rfl
 have x2:w.2=(dE T q*au T (bR l a i j0 j).2-qE (bV l i j0 j)*au T (bR l a i j0 j).1)*iE (au T (bZ l a i j0 j)):=by rw[hw,<- eh];rfl
 have G:=VG hD hI hX (w1:=ae L.pos w.1) (w2:=ae L.pos w.2) (by rw[x1,bm,bC,bm,bm,Ca]) (by rw[x2,bm,bC,bm,bm])
 have hc:CH T B0:=by
  rw[hB0];refine u4 L.pos hv ?_;refine(fQ L.pos (x:=w.1*w.1+w.2*w.2) (y:=qE (bQ (cf l i j) (cf l i j)))).1 ?_;rw[ee,bm,bm,G.1];rfl
 refine⟨L,?_,?_⟩
 ·intro z hz;show JH l T (a6 (aC a) [i] [B0]) _;rcases List.mem_cons.1 hz with rfl |hz
  ·rw [aw t0.hj];refine L.pin t0.kd (i:=i) ?_ (by rw [g0,hB0,tc,ho]);rcases t0.tie with ⟨e,hb⟩ | ⟨e,hb⟩
   ·exact .inl ⟨e,gn _ n1 hb⟩
   ·exact .inr ⟨fun e2=>hb (by simp[e2]),e,gn _ n0 hb⟩
  ·rw [List.mem_singleton.1 hz, aw t1.hj];refine AZ L.pos (by rw [t1.kd]; decide) ?_;have pp:=L.pt l (gn _ n2 tn) j.point;have eon:aq l T (a6 (aC a) [i] [B0]) j.b j.on = bn T B0 (aB l i j.on):=by unfold aq; rw [tb,g0]
   have eto:aq l T (a6 (aC a) [i] [B0]) j.b j.to=bn T B0 (aB l i j.to):=by unfold aq;rw[tb,g0]
   have W1:ae L.pos (au T (bR l a i j0 j).1)=ae L.pos (au T (aq l (llq a.rs) (aC a) j.a j.point).1)-ae L.pos o.1:=by
    rw[ho,<- L.sub,<- dT];rfl
   have W2:ae L.pos (au T (bR l a i j0 j).2)=ae L.pos (au T (aq l (llq a.rs) (aC a) j.a j.point).2)-ae L.pos o.2:=by
    rw[ho,<- L.sub,<- dT];rfl
   have g2:=G.2;rw[W1,W2]at g2;rw[pp.1,pp.2,eon,eto,hB0,nK,nK];have gg:=A9 (w:=w) hv
   have hcs:ae L.pos (dm (cf l i j) w)*ae L.pos (dm (cf l i j) w)+ae L.pos (da (cf l i j) w)*ae L.pos (da (cf l i j) w)=1:=by
    have h9:=(eI L.pos).2 hc;rw[hB0,wX,xy,bC,ee,bm,bm,CP]at h9;grind
   have v1:(qE (cf l i j).1:Et T)=qE ((aB l i j.to).1-(ah l j0 i).1)-qE ((aB l i j.on).1-(ah l j0 i).1):=by rw[<- kq];congr 1;show(aB l i j.to).1-(aB l i j.on).1=_;grind
   have v2:(qE (cf l i j).2:Et T)=qE ((aB l i j.to).2-(ah l j0 i).2)-qE ((aB l i j.on).2-(ah l j0 i).2):=by rw[<- kq];congr 1;show(aB l i j.to).2-(aB l i j.on).2=_;grind
   have hh:(qE (bV l i j0 j):Et T)=qE (cf l i j).1*qE ((aB l i j.on).2-(ah l j0 i).2)-qE (cf l i j).2*qE ((aB l i j.on).1-(ah l j0 i).1):=by
    rw[<- gG,<- gG,<- kq];rfl
   have y1:=congrArg (ae L.pos) gg.1;have y2:=congrArg (ae L.pos) gg.2;rw[hh,bC,bm,bm]at g2;rw[v1,v2]at g2 y1 y2;simp only[ee,bC,bm]at g2 y1 y2 ⊢
   revert hcs g2 y1 y2
   generalize ae L.pos (qE ((aB l i j.to).1-(ah l j0 i).1):Et T)=a1;generalize ae L.pos (qE ((aB l i j.to).2-(ah l j0 i).2):Et T)=a2;generalize ae L.pos (qE ((aB l i j.on).1-(ah l j0 i).1):Et T)=b1;generalize ae L.pos (qE ((aB l i j.on).2-(ah l j0 i).2):Et T)=b2;generalize ae L.pos (dm (cf l i j) w)=C;generalize ae L.pos (da (cf l i j) w)=S;generalize ae L.pos (au T (aq l (llq a.rs) (aC a) j.a j.point).1)=P1;generalize ae L.pos (au T (aq l (llq a.rs) (aC a) j.a j.point).2)=P2;generalize ae L.pos o.1=o1;generalize ae L.pos o.2=o2;generalize ae L.pos w.1=x1;generalize ae L.pos w.2=x2;intro hcs g2 y1 y2;exact Qh hcs g2 y1 y2
 ·intro b hb;rw[List.mem_singleton.1 hb];show CH T ((a6 (aC a) [i] [B0]).getD i.toNat bt);rw[g0];exact hc
end
end Go.Lw
namespace Go.Lw
open Lean.Grind (CommRing)
theorem Fo(half:Bool)(t:Rat):dR half t*dR half t+d5 half t*d5 half t=1:=by
 unfold dR d5;cases half
 ·have h:1+t*t≠0:=by
   have:=l8 t;intro e;grind
  simp only[Bool.false_eq_true,if_false]
  have e1:(1-t*t)/(1+t*t)*((1-t*t)/(1+t*t))+(t+t)/(1+t*t)*((t+t)/(1+t*t))=((1-t*t)*(1-t*t)+(t+t)*(t+t))*((1+t*t)⁻¹*(1+t*t)⁻¹):=by
   rw[Rat.div_def,Rat.div_def];grind
  rw[e1];have e2:(1+t*t)*(1+t*t)⁻¹=1:=Rat.mul_inv_cancel _ h;generalize(1+t*t)⁻¹=k at e2 ⊢;have e3:((1-t*t)*(1-t*t)+(t+t)*(t+t))*(k*k)=((1+t*t)*k)*((1+t*t)*k):=by grind
  rw[e3,e2,Rat.one_mul]
 ·simp only[if_true];decide +kernel
section
variable{l:Li}{a:As}{r:Nat}(tw:Tw (llq a.rs) r)(hN:∀p∈aC a,Nq (llq a.rs).length p)
include tw hN
theorem L1{i z0 z1:Int}{j0 j:Jt}(t0:TieO l 0 [i] z0 i j0)(t1:TieO l 1 [i] z1 i j)(ha:j.a≠i)(hi:0<=i)(hil:i.toNat<(aC a).length)(hn:∀j∈l.jo,0<=j.a/\0<=j.b)(hv:bQ (cf l i j) (cf l i j)≠0)
  {s:Sv} (hs:s∈gE l a i j0 j):GrpH l a ⟨3,[i],[z0,z1],0⟩ s:=by
 unfold gE at hs;split at hs
 ·cases hs
 ·rename_i h1;split at hs
  ·cases hs
  ·rename_i h2;have hd:=rJ tw h2 h1;split at hs
   ·rename_i h3;have hp:=q8 tw.pos h3;have L:=rI (bi l a i j0 j) hp;have e:=AG (bi l a i j0 j);unfold jx at hs;obtain⟨m,hm,rfl⟩:=List.mem_map.1 hs;have hm:=List.mem_range.1 hm;unfold iQ
    match m,hm with
    |0,_ =>
     refine BE tw hN t0 t1 ha hi hil hn hv hd L ?_;show ae L.pos (bu (bi l a i j0 j)*bu (bi l a i j0 j))=_;rw[e];rfl
    |1,_ =>
     refine BE tw hN t0 t1 ha hi hil hn hv hd L ?_;show ae L.pos (dE _ (sX (-bu (bi l a i j0 j)))*dE _ (sX (-bu (bi l a i j0 j))))=_;rw[ef,show -bu (bi l a i j0 j)*-bu (bi l a i j0 j)=bu (bi l a i j0 j)*bu (bi l a i j0 j) by grind,e];rfl
    |m+2,h=>exact absurd h (by simp)
   ·rename_i h3;have hX:am (bi l a i j0 j) = 0:=by omega
    have L:=lT (ts:=llq a.rs) tw.pos;unfold jx at hs;obtain⟨m,hm,rfl⟩:=List.mem_map.1 hs;have hm:=List.mem_range.1 hm;unfold iQ
    match m,hm with
    |0,_ =>
     refine BE tw hN t0 t1 ha hi hil hn hv hd L ?_;show ae L.pos (dE _ []*dE _ [])=_;have e0:(dE (llq a.rs) []:Et (llq a.rs))=0:=by rw[E.zero_def];exact ia _
     rw[e0,c9];refine((eI L.pos).2 ?_).trans ((eI L.pos).2 hX).symm;rw[show(0:Et (llq a.rs))*0=0 by grind];exact(dz _ _ L.pos).zero
    |m+1,h=>exact absurd h (by simp)
theorem Nn{i z0 d:Int}{j0:Jt}(t0:TieO l 0 [i] z0 i j0)(hi:0<=i)(hil:i.toNat<(aC a).length)(hn:∀j∈l.jo,0<=j.a/\0<=j.b){x:Tn}
  {s:Sv} (hs:s∈iy l a i j0 x):GrpH l a ⟨0,[i],[z0],d⟩ s/\dE s.ts ((a6 (aC a) [i] s.ps).getD i.toNat bt).c=qE (dR x.half x.t.q)/\dE s.ts ((a6 (aC a) [i] s.ps).getD i.toNat bt).s=qE (d5 x.half x.t.q):=by
 unfold iy at hs;split at hs
 ·cases hs
 ·rw[List.mem_singleton.1 hs];obtain⟨n0,n1⟩:=hn j0 (mem_of_getElem? t0.hj);have L:=lT (ts:=llq a.rs) tw.pos;have hbs:∀B0,a6 (aC a) [i] [B0]=(aC a).set i.toNat B0:=fun _=>rfl
  have g0:∀B0,(a6 (aC a) [i] [B0]).getD i.toNat bt=B0:=fun B0=>by rw[hbs,nH hil]
  have gn:∀(B0:Pq)(b:Int),0<=b->b∉[i]->fx (aC a) (a6 (aC a) [i] [B0]) (llq a.rs).length b:=fun B0 b h0 hb=>ph tw hN (by
   rw[hbs,kG hi h0 (fun e=>hb (by simp[e]))])
  have eN:(kp (((1:Int):Rat),0):Et (llq a.rs))=qE 1:=congrArg qE (show((1:Int):Rat)*((1:Int):Rat)+0*0=1 by decide +kernel);have q1:(qE 1:Et (llq a.rs))=1:=rfl
  have hc:(dE (llq a.rs) (kT l a i j0 x).c:Et (llq a.rs))=qE (dR x.half x.t.q):=by
   unfold kT;rw[wX];unfold dm;rw[eN,x3,lc,AY];grind
  have hsn:(dE (llq a.rs) (kT l a i j0 x).s:Et (llq a.rs))=qE (d5 x.half x.t.q):=by
   unfold kT;rw[xy];unfold da;rw[eN,x3,lc,AY];grind
  refine⟨⟨L,?_,?_⟩,by rw[g0];exact hc,by rw[g0];exact hsn⟩
  ·intro z hz;rw [List.mem_singleton.1 hz,aw t0.hj];show JH l (llq a.rs) (a6 (aC a) [i] [kT l a i j0 x]) j0;refine L.pin t0.kd (i:=i) ?_ (by rw [g0,c9,c9]; exact tc);rcases t0.tie with ⟨e,hb⟩ | ⟨e,hb⟩
   ·exact .inl ⟨e,gn _ _ n1 hb⟩
   ·exact .inr ⟨fun e2=>hb (by simp[e2]),e,gn _ _ n0 hb⟩
  ·intro b hb;rw[List.mem_singleton.1 hb];show CH (llq a.rs) ((a6 (aC a) [i] [kT l a i j0 x]).getD i.toNat bt);rw[g0];unfold CH;rw[hc,hsn,<- gG,<- gG,<- l7,Fo,q1,show(1:Et (llq a.rs))-1=0 by grind];exact(dz _ _ L.pos).zero
theorem VQ{g:Gr}(hg:DyK l g)(hgb:∀b∈g.bo,0<=b/\b.toNat<(aC a).length)(hli:aP l=0){x:Tn}{s:Sv}(hs:s∈fP l a g x):GrpH l a g s/\(g.kind=0->dE s.ts ((a6 (aC a) g.bo s.ps).getD (aA g 0).toNat bt).c=qE (dR x.half x.t.q)/\dE s.ts ((a6 (aC a) g.bo s.ps).getD (aA g 0).toNat bt).s=qE (d5 x.half x.t.q)):=by
 have hn:∀j∈l.jo,0<=j.a/\0<=j.b:=fun j hj=>by
  obtain⟨n,hn⟩:=List.getElem?_of_mem hj;obtain⟨i1,i2,_⟩:=cH hli hn;have i1:=dM i1;have i2:=dM i2;omega
 cases hg with
 | @drv b z d j dr t d0 hd hb =>
  have e:ai l ⟨0,[b],[z],d⟩ 0=j:=aw t.hj;have hs:s∈iy l a b j x:=by rw[<- e];exact hs
  obtain⟨h1,h2⟩:=hgb b (by simp);have h:=Nn (d:=d) tw hN t h1 h2 hn hs;exact⟨h.1,fun _=>h.2⟩
 | @rrr i k z0 z1 z2 j0 j1 j2 ne t0 t1 h0 h2 kd tie =>
  have e0:ai l ⟨1,[i,k],[z0,z1,z2],0⟩ 0=j0:=aw t0.hj;have e1:ai l ⟨1,[i,k],[z0,z1,z2],0⟩ 1=j1:=aw t1.hj;have e2:ai l ⟨1,[i,k],[z0,z1,z2],0⟩ 2=j2:=aw h2;have hs:s∈il l a i k j0 j1 j2:=by rw[<- e0,<- e1,<- e2];exact hs
  obtain⟨b1,b2⟩:=hgb i (by simp);obtain⟨b3,b4⟩:=hgb k (by simp);exact⟨RE tw hN ne t0 t1 h2 kd tie b1 b3 b2 b4 hn hs,fun h=>absurd h (by simp)⟩
 | @pr i z0 z1 j0 j1 t0 t1 ha =>
  have e0:ai l ⟨2,[i],[z0,z1],0⟩ 0=j0:=aw t0.hj;have e1:ai l ⟨2,[i],[z0,z1],0⟩ 1=j1:=aw t1.hj;have hs:s∈ib l a i j0 j1:=by rw[<- e0,<- e1];exact hs
  obtain⟨b1,b2⟩:=hgb i (by simp);exact⟨Sb tw hN t0 t1 ha b1 b2 hn hs,fun h=>absurd h (by simp)⟩
 | @rp i z0 z1 j0 j1 t0 t1 ha =>
  have e0:ai l ⟨3,[i],[z0,z1],0⟩ 0=j0:=aw t0.hj;have e1:ai l ⟨3,[i],[z0,z1],0⟩ 1=j1:=aw t1.hj;have hs:s∈gE l a i j0 j1:=by rw[<- e0,<- e1];exact hs
  obtain⟨b1,b2⟩:=hgb i (by simp)
  have tb:j1.b=i:=by
   rcases t1.tie with⟨e,_⟩ |⟨e,_⟩
   ·exact absurd e ha
   ·exact e
  exact⟨L1 tw hN t0 t1 ha b1 b2 hn (qB hli t1.hj (by rw[t1.kd];decide) tb) hs,fun h=>absurd h (by simp)⟩
end
end Go.Lw
namespace Go.Lw
open Lean.Grind (CommRing)
theorem Rz{n N:Nat}(hN:N=n+1){r:(k:Nat)->T k}(h:T.sgn r n (r n)=1):T.sgn r N (ac N (cw n))=1:=by
 subst hN;rw[GG];show T.sgn3 (T.sgn r n (T.zero n)) (T.sgn r n (T.ofQ n 1)) (T.sgn r n (r n)) _=1;rw[h,T.sgn_zero,T.sgn_ofQ];have e:bP 1=1:=by decide +kernel
 rw[e];rfl
theorem AI{ts:LL}{X:Et ts}(h:am X=1):am (bu X)=1:=by
 refine Rz (dD _ _) ?_;rw[vJ (le_refl _)]
 have e1:ao (aQ ts (sX X)) ts.length=X:=by
  show ac ts.length ((aQ ts (sX X)).getD ts.length [])=X;rw[s6,mU];exact a5 _ _
 rw[e1];exact h
theorem FE{ts:LL}(hp:cS ts){X:Et ts}(h:0<am X):am X=1:=by
 rcases(dz _ _ hp).cs X with g |g |g
 ·have g:am X=-1:=g;omega
 ·have g:am X=0:=g;omega
 ·exact g
theorem mh{ts:LL}(hp:cS ts){x y:Et ts}(h:ae hp x=ae hp y):am x=am y:=(dz _ _ hp).sub0 ((fQ hp).1 h)
theorem AR{ts:LL}(hp:cS ts)(x:Et ts):am (-x)=-am x:=(dz _ _ hp).neg x
theorem HH{ts:LL}(hp:cS ts)(x:Et ts):am (x+x)=am x:=by
 have H:=dz (ao ts) ts.length hp;show sg _ _ (x+x)=sg _ _ x;rcases H.cs x with h |h |h
 ·have n:=H.neg x;have a:=H.padd (x:=-x) (y:=-x) oz oz;have e:=H.neg (x+x);rw[show -(x+x)=-x+-x by grind,a]at e;omega
 ·rw[H.zadd h]
 ·rw[H.padd h oz];exact h.symm
section
variable{R:Type}[CommRing R]
theorem RZ{p1 p2 q1 q2 i t a x y:R}(hi:i*(((p1-q1)*(p1-q1)+(p2-q2)*(p2-q2))+((p1-q1)*(p1-q1)+(p2-q2)*(p2-q2)))=1)
  (hx:x=p1+a*i*(q1-p1)+t*(i*-(q2-p2))) (hy:y=p2+a*i*(q2-p2)+t*(i*(q1-p1))) :
  ((q1-p1)*(y-p2)-(q2-p2)*(x-p1))+((q1-p1)*(y-p2)-(q2-p2)*(x-p1))=t:=by
 have e:((q1-p1)*(y-p2)-(q2-p2)*(x-p1))+((q1-p1)*(y-p2)-(q2-p2)*(x-p1))=t*(i*(((p1-q1)*(p1-q1)+(p2-q2)*(p2-q2))+((p1-q1)*(p1-q1)+(p2-q2)*(p2-q2)))):=by
  rw[hx,hy];clear hi hx hy;grind
 rw[e,hi];grind
theorem SL{p1 p2 q1 q2 c1 c2 i t k x y:R}(hi:i*((q1-p1)*(q1-p1)+(q2-p2)*(q2-p2))=1)(hk:k=((q1-p1)*(c1-p1)+(q2-p2)*(c2-p2)+t)*i)
  (hx:x=p1+k*(q1-p1)) (hy:y=p2+k*(q2-p2)):(q1-p1)*(x-c1)+(q2-p2)*(y-c2)=t:=by
 have e:(q1-p1)*(x-c1)+(q2-p2)*(y-c2)=k*((q1-p1)*(q1-p1)+(q2-p2)*(q2-p2))-((q1-p1)*(c1-p1)+(q2-p2)*(c2-p2)):=by
  rw[hx,hy];clear hi hk hx hy;grind
 have e2:k*((q1-p1)*(q1-p1)+(q2-p2)*(q2-p2))=((q1-p1)*(c1-p1)+(q2-p2)*(c2-p2)+t)*(i*((q1-p1)*(q1-p1)+(q2-p2)*(q2-p2))):=by
  rw[hk];clear hi hk hx hy e;grind
 rw[e,e2,hi];grind
theorem M9{W1 W2 hh i t D w1 w2:R}(hD:D=W1*W1+W2*W2)(hi:i*D=1)(h1:w1=(t*W1-hh*-W2)*i)(h2:w2=(t*W2-hh*W1)*i):w1*W1+w2*W2=t:=by
 have e:w1*W1+w2*W2=t*(i*D):=by rw[h1,h2,hD];clear hD hi h1 h2;grind
 rw[e,hi];grind
theorem Ts{ts:LL}{f:Et ts->R}(h:Hm f){p q:P2 ts}{z z2:Et ts}(hd2:am (az p q+az p q)≠0){t x y:R}
  (hx:x=f (cV p q z z2).1+t*f (gh p q).1) (hy:y=f (cV p q z z2).2+t*f (gh p q).2) :
  ((f q.1-f p.1)*(y-f p.2)-(f q.2-f p.2)*(x-f p.1))+((f q.1-f p.1)*(y-f p.2)-(f q.2-f p.2)*(x-f p.1))=t:=by
 have d:=r8 h p q;have hi:=h.inv _ hd2;rw[h.add,d]at hi;refine RZ hi (a:=f z+((f p.1-f q.1)*(f p.1-f q.1)+(f p.2-f q.2)*(f p.2-f q.2))-f z2) ?_ ?_
 ·rw[hx,xr];unfold cG gh;dsimp only;show f (p.1+qE ((1:Int):Rat)*iE (az p q+az p q)*(z+az p q-z2)*(q.1-p.1))+t*f (qE ((1:Int):Rat)*iE (az p q+az p q)*(0-(q.2-p.2)))=_;simp only[h.add,h.mul,h.sub,h.q1,h.nul,d];generalize(f p.1-f q.1)*(f p.1-f q.1)+(f p.2-f q.2)*(f p.2-f q.2)=D;generalize f (iE (az p q+az p q))=i;clear hi hx hy d;grind
 ·rw[hy,xr];unfold cG gh;dsimp only;show f (p.2+qE ((1:Int):Rat)*iE (az p q+az p q)*(z+az p q-z2)*(q.2-p.2))+t*f (qE ((1:Int):Rat)*iE (az p q+az p q)*(q.1-p.1))=_;simp only[h.add,h.mul,h.sub,h.q1,d];generalize(f p.1-f q.1)*(f p.1-f q.1)+(f p.2-f q.2)*(f p.2-f q.2)=D;generalize f (iE (az p q+az p q))=i;clear hi hx hy d;grind
theorem JI{ts:LL}{f:Et ts->R}(h:Hm f){p q c:P2 ts}(hd:am (ba p q)≠0){t x y:R}
  (hx:x=f (cG p (bI p q c*iE (ba p q)) (aK q p)).1+t*f (f0 p q).1) (hy:y=f (cG p (bI p q c*iE (ba p q)) (aK q p)).2+t*f (f0 p q).2) :
  (f q.1-f p.1)*(x-f c.1)+(f q.2-f p.2)*(y-f c.2)=t:=by
 have hi:=h.inv _ hd
 have eS:f (ba p q)=(f q.1-f p.1)*(f q.1-f p.1)+(f q.2-f p.2)*(f q.2-f p.2):=by
  show f ((q.1-p.1)*(q.1-p.1)+(q.2-p.2)*(q.2-p.2))=_;simp only[h.add,h.mul,h.sub]
 have eE:f (bI p q c)=(f q.1-f p.1)*(f c.1-f p.1)+(f q.2-f p.2)*(f c.2-f p.2):=by
  show f ((q.1-p.1)*(c.1-p.1)+(q.2-p.2)*(c.2-p.2))=_;simp only[h.add,h.mul,h.sub]
 rw[eS]at hi;refine SL hi (k:=(f (bI p q c)+t)*f (iE (ba p q))) (by rw[eE]) ?_ ?_
 ·rw[hx];unfold cG f0;show f (p.1+bI p q c*iE (ba p q)*(q.1-p.1))+t*f (qE ((1:Int):Rat)*iE (ba p q)*(q.1-p.1))=_;simp only[h.add,h.mul,h.sub,h.q1];generalize f (iE (ba p q))=i;generalize f (bI p q c)=e;clear hi hx hy eS eE;grind
 ·rw[hy];unfold cG f0;show f (p.2+bI p q c*iE (ba p q)*(q.2-p.2))+t*f (qE ((1:Int):Rat)*iE (ba p q)*(q.2-p.2))=_;simp only[h.add,h.mul,h.sub,h.q1];generalize f (iE (ba p q))=i;generalize f (bI p q c)=e;clear hi hx hy eS eE;grind
end
structure CirD(ts T:LL)(x:List Rat×List Rat)(p q:P2 ts)(z z2:Et ts)(m:Int):Prop where
  lf:Lf ts T
  ex:∀d:Et T,ae lf.pos d=(ae lf.pos (au T q.1)-ae lf.pos (au T p.1))*(ae lf.pos (dE T x.2)-ae lf.pos (au T p.2))-(ae lf.pos (au T q.2)-ae lf.pos (au T p.2))*(ae lf.pos (dE T x.1)-ae lf.pos (au T p.1)) ->
    am d=m
section
variable{ts:LL}
theorem Ax{T:LL}(L:Lf ts T){x:List Rat×List Rat}{p q:P2 ts}{z z2:Et ts}(hd2:am (az p q+az p q)≠0){t:Et T}
  (hx:dE T x.1=au T (cV p q z z2).1+t*au T (gh p q).1) (hy:dE T x.2=au T (cV p q z z2).2+t*au T (gh p q).2) {m:Int} (hm:am t=m):CirD ts T x p q z z2 m:=by
 have g:=Ts L.hm hd2 (z:=z) (z2:=z2) (t:=ae L.pos t) (x:=ae L.pos (dE T x.1)) (y:=ae L.pos (dE T x.2)) (by rw[hx];rfl) (by rw[hy];rfl);refine⟨L,fun d hd=>?_⟩;have e:ae L.pos (d+d)=ae L.pos t:=by rw[ee,hd];exact g
 rw[<- hm,<- HH L.pos d];exact mh L.pos e
theorem KJ{r:Nat}(tw:Tw ts r){p q:P2 ts}{z z2:Et ts}(h0:eL p q z z2=0)(hz:0<am z) :
  ∀(i:Nat)(x:List Rat×List Rat),(dc p q z z2).ps[i]?=some x->CirD ts (dc p q z z2).ts x p q z z2 (if(dc p q z z2).ps.length=1 then 0 else 1-2*(i:Int)):=by
 intro i x;unfold eL ka at h0;unfold dc;split
 ·rename_i hd;rw[if_pos hd]at h0;unfold lA;split
  ·intro hx;simp at hx
  ·intro hx;simp at hx
 ·rename_i hd;have hd2:=HO tw hd;split
  ·intro hx;simp at hx
  ·rename_i hn;split
   ·rename_i hX;intro hx
    match i,hx with
    |0,hx =>
     have hx:(cV p q z z2).l=x:=Option.some.inj hx;subst hx;have hp:cS ts:=tw.pos;refine Ax (lT hp) hd2 (t:=0) ?_ ?_ ?_
     ·rw[c9,c9,ef];grind
     ·rw[c9,c9,ef];grind
     ·exact(dz _ _ hp).zero
    |i+1,hx=>simp at hx
   ·rename_i hX;have hX1:0 < am (bc p z q z2):=by omega
    have hp:=q8 tw.pos hX1;have L:=rI (bc p z q z2) hp;have s1:=AI (FE tw.pos hX1);intro hx
    match i,hx with
    |0,hx =>
     have hx:(gp (bc p z q z2) (cV p q z z2) (fu p q) (dY (bc p z q z2) (az p q))).l=x:=Option.some.inj hx;subst hx;refine Ax L hd2 (t:=bu (bc p z q z2)) ?_ ?_ s1
     ·rw[ef];exact congrArg Prod.fst (tI (bc p z q z2) (cV p q z z2) p q)
     ·rw[ef];exact congrArg Prod.snd (tI (bc p z q z2) (cV p q z z2) p q)
    |1,hx =>
     have hx:(gp (bc p z q z2) (cV p q z z2) (fu p q) (qE ((-1:Int):Rat)*dY (bc p z q z2) (az p q))).l=x:=Option.some.inj hx;subst hx;refine Ax L hd2 (t:=-bu (bc p z q z2)) ?_ ?_ (by rw[AR hp,s1];rfl)
     ·rw[ef,congrArg Prod.fst (u6 (bc p z q z2) (cV p q z z2) p q)];show aM _ _-_*aM _ _=aM _ _+-_*aM _ _;grind
     ·rw[ef,congrArg Prod.snd (u6 (bc p z q z2) (cV p q z z2) p q)];show aM _ _-_*aM _ _=aM _ _+-_*aM _ _;grind
    |i+2,hx=>simp at hx
structure LinD(ts T:LL)(x:List Rat×List Rat)(p q c:P2 ts)(z:Et ts)(m:Int):Prop where
  lf:Lf ts T
  ex:∀d:Et T,ae lf.pos d=(ae lf.pos (au T q.1)-ae lf.pos (au T p.1))*(ae lf.pos (dE T x.1)-ae lf.pos (au T c.1))+(ae lf.pos (au T q.2)-ae lf.pos (au T p.2))*(ae lf.pos (dE T x.2)-ae lf.pos (au T c.2)) ->
    am d=m
theorem xP{T:LL}(L:Lf ts T){x:List Rat×List Rat}{p q c:P2 ts}{z:Et ts}(hd:am (ba p q)≠0){t:Et T}
  (hx:dE T x.1=au T (cG p (bI p q c*iE (ba p q)) (aK q p)).1+t*au T (f0 p q).1) (hy:dE T x.2=au T (cG p (bI p q c*iE (ba p q)) (aK q p)).2+t*au T (f0 p q).2) {m:Int} (hm:am t=m):LinD ts T x p q c z m:=by
 have g:=JI L.hm hd (c:=c) (t:=ae L.pos t) (x:=ae L.pos (dE T x.1)) (y:=ae L.pos (dE T x.2)) (by rw[hx];rfl) (by rw[hy];rfl);refine⟨L,fun d hd=>?_⟩;have e:ae L.pos d=ae L.pos t:=by rw[hd];exact g
 rw[<- hm];exact mh L.pos e
theorem NF{r:Nat}(tw:Tw ts r){p q c:P2 ts}{z:Et ts}(h0:eU p q=0) :
  ∀(i:Nat)(x:List Rat×List Rat),(dt p q c z).ps[i]?=some x->LinD ts (dt p q c z).ts x p q c z (if(dt p q c z).ps.length=1 then 0 else 1-2*(i:Int)):=by
 intro i x;unfold eU at h0;unfold dt;split
 ·intro hx;simp at hx
 ·rename_i hd;split
  ·intro hx;simp at hx
  ·rename_i hn;split
   ·rename_i hX;intro hx
    match i,hx with
    |0,hx =>
     have hx:(cG p (bI p q c*iE (ba p q)) (aK q p)).l=x:=Option.some.inj hx;subst hx;have hp:cS ts:=tw.pos;refine xP (lT hp) hd (t:=0) ?_ ?_ ?_
     ·rw[c9,c9,ef];grind
     ·rw[c9,c9,ef];grind
     ·exact(dz _ _ hp).zero
    |i+1,hx=>simp at hx
   ·rename_i hX
    have hX2:am (aR p q c z)=1:=by
     rcases(dz _ _ tw.pos).cs (aR p q c z)with g |g |g
     ·exact absurd g hn
     ·exact absurd g hX
     ·exact g
    have hX1:0<am (aR p q c z):=by omega
    have hp:=q8 tw.pos hX1;have L:=rI (aR p q c z) hp;have s1:=AI hX2;intro hx
    match i,hx with
    |0,hx =>
     have hx:(ju (aR p q c z) p (aK q p) (fa (aR p q c z) (ba p q) (aM (aR p q c z) (bI p q c)+bu (aR p q c z)))).l=x:=Option.some.inj hx;subst hx;refine xP L hd (t:=bu (aR p q c z)) ?_ ?_ s1
     ·rw[ef];exact congrArg Prod.fst (uR (aR p q c z) p q c)
     ·rw[ef];exact congrArg Prod.snd (uR (aR p q c z) p q c)
    |1,hx =>
     have hx:(ju (aR p q c z) p (aK q p) (fa (aR p q c z) (ba p q) (aM (aR p q c z) (bI p q c)-bu (aR p q c z)))).l=x:=Option.some.inj hx;subst hx;refine xP L hd (t:=-bu (aR p q c z)) ?_ ?_ (by rw[AR hp,s1];rfl)
     ·rw[ef,congrArg Prod.fst (vk (aR p q c z) p q c)];show aM _ _-_*aM _ _=aM _ _+-_*aM _ _;grind
     ·rw[ef,congrArg Prod.snd (vk (aR p q c z) p q c)];show aM _ _-_*aM _ _=aM _ _+-_*aM _ _;grind
    |i+2,hx=>simp at hx
end
def pinP(l:Li)(T:LL)(bs:List Pq)(j:Jt)(b:Int):P2 T:=if j.a=b then aq l T bs j.b j.on else aq l T bs j.a j.point
def bX(l:Li)(T:LL)(bs:List Pq)(g:Gr):Et T :=
  if g.kind=0 then qE 1
  else if g.kind=1 then gj (aK (pinP l T bs (ai l g 1) (aA g 1)) (pinP l T bs (ai l g 0) (aA g 0))) (aK (bn T (bs.getD (aA g 0).toNat bt) (ah l (ai l g 2) (aA g 0))) (pinP l T bs (ai l g 0) (aA g 0)))
  else if g.kind=2 then cR (aK (aq l T bs (ai l g 1).b (ai l g 1).to) (aq l T bs (ai l g 1).b (ai l g 1).on)) (aK (bn T (bs.getD (aA g 0).toNat bt) (aB l (aA g 0) (ai l g 1).point)) (pinP l T bs (ai l g 0) (aA g 0)))
  else cR (aK (aq l T bs (ai l g 1).b (ai l g 1).to) (aq l T bs (ai l g 1).b (ai l g 1).on)) (aK (aq l T bs (ai l g 1).a (ai l g 1).point) (pinP l T bs (ai l g 0) (aA g 0)))
def iY(l:Li)(T:LL)(bs:List Pq)(g:Gr):Et T :=
  if g.kind=0 then qE 1
  else if g.kind=1 then bc (pinP l T bs (ai l g 0) (aA g 0)) (qE (aX (ah l (ai l g 2) (aA g 0)) (ah l (ai l g 0) (aA g 0)))) (pinP l T bs (ai l g 1) (aA g 1)) (qE (aX (ah l (ai l g 2) (aA g 1)) (ah l (ai l g 1) (aA g 1))))
  else if g.kind=2 then aR (aq l T bs (ai l g 1).b (ai l g 1).on) (aq l T bs (ai l g 1).b (ai l g 1).to) (pinP l T bs (ai l g 0) (aA g 0)) (qE (aX (aB l (aA g 0) (ai l g 1).point) (ah l (ai l g 0) (aA g 0))))
  else qE (fJ l (aA g 0) (ai l g 1))*cR (aK (aq l T bs (ai l g 1).a (ai l g 1).point) (pinP l T bs (ai l g 0) (aA g 0))) (aK (aq l T bs (ai l g 1).a (ai l g 1).point) (pinP l T bs (ai l g 0) (aA g 0)))
    - qE (bV l (aA g 0) (ai l g 0) (ai l g 1))*qE (bV l (aA g 0) (ai l g 0) (ai l g 1))
theorem f9(l:Li)(a:As)(j:Jt)(b:Int):an l a j b=pinP l (llq a.rs) (aC a) j b:=by
 unfold an pinP;split
 ·exact dT l a _ _
 ·exact dT l a _ _
theorem V4(a:As)(b:Int)(q:Rat×Rat):kt a b q=bn (llq a.rs) ((aC a).getD b.toNat bt) q:=by
 have e:(aC a).getD b.toNat bt=⟨lq (a.bs.getD b.toNat default).c,lq (a.bs.getD b.toNat default).s,lq (a.bs.getD b.toNat default).x,lq (a.bs.getD b.toNat default).y⟩:=by
  unfold aC;rw[getD_eq_getElem?_getD,getD_eq_getElem?_getD,getElem?_map];cases a.bs[b.toNat]? <;> rfl
 rw[e];rfl
theorem Lr(l:Li)(a:As)(g:Gr):i7 l a g=bX l (llq a.rs) (aC a) g:=by
 unfold i7 bX bR;simp only[f9,dT,V4]
theorem kW(l:Li)(a:As)(g:Gr):fN l a g=iY l (llq a.rs) (aC a) g:=by
 unfold fN iY bZ bR;simp only[f9,dT];rfl
def ri{T:LL}(k:Int)(d:Et T):Et T:=if k=1 then(d+d)*(d+d)else d*d
section
variable{ts T:LL}(L:Lf ts T)
include L
theorem Lf.pinP{l:Li}{bs bs':List Pq}{j:Jt}(b:Int)(ha:fx bs bs' ts.length j.a)(hb:fx bs bs' ts.length j.b) :
  ae L.pos (Lw.pinP l T bs' j b).1=ae L.pos (au T (Lw.pinP l ts bs j b).1)/\ae L.pos (Lw.pinP l T bs' j b).2=ae L.pos (au T (Lw.pinP l ts bs j b).2):=by
 unfold Lw.pinP;split
 ·exact L.pt l hb _
 ·exact L.pt l ha _
theorem uM{l:Li}{bs bs':List Pq}{g:Gr}(p0:g.kind≠0->ae L.pos (Lw.pinP l T bs' (ai l g 0) (aA g 0)).1=ae L.pos (au T (Lw.pinP l ts bs (ai l g 0) (aA g 0)).1)/\ae L.pos (Lw.pinP l T bs' (ai l g 0) (aA g 0)).2=ae L.pos (au T (Lw.pinP l ts bs (ai l g 0) (aA g 0)).2))
  (p1:g.kind=1->ae L.pos (Lw.pinP l T bs' (ai l g 1) (aA g 1)).1=ae L.pos (au T (Lw.pinP l ts bs (ai l g 1) (aA g 1)).1)/\ae L.pos (Lw.pinP l T bs' (ai l g 1) (aA g 1)).2=ae L.pos (au T (Lw.pinP l ts bs (ai l g 1) (aA g 1)).2))
  (hb:g.kind=2->∀pt,ae L.pos (aq l T bs' (ai l g 1).b pt).1=ae L.pos (au T (aq l ts bs (ai l g 1).b pt).1)/\ae L.pos (aq l T bs' (ai l g 1).b pt).2=ae L.pos (au T (aq l ts bs (ai l g 1).b pt).2))
  (ha:g.kind≠0->g.kind≠1->g.kind≠2->∀pt,ae L.pos (aq l T bs' (ai l g 1).a pt).1=ae L.pos (au T (aq l ts bs (ai l g 1).a pt).1)/\ae L.pos (aq l T bs' (ai l g 1).a pt).2=ae L.pos (au T (aq l ts bs (ai l g 1).a pt).2)) :
  ae L.pos (iY l T bs' g)=ae L.pos (au T (iY l ts bs g)):=by
 unfold iY
 by_cases k0:g.kind=0
 ·rw[if_pos k0,if_pos k0,L.q]
 ·rw[if_neg k0,if_neg k0];have p0:=p0 k0
  by_cases k1:g.kind=1
  ·rw[if_pos k1,if_pos k1];have p1:=p1 k1;unfold bc az cR dotE aK;dsimp only;simp only[L.sub,L.mul,L.add,L.q,bC,bm,ee];rw[p0.1,p0.2,p1.1,p1.2]
  ·rw[if_neg k1,if_neg k1]
   by_cases k2:g.kind=2
   ·rw[if_pos k2,if_pos k2];have qb:=hb k2;unfold aR ba gS cR dotE gj crsE aK;dsimp only;simp only[L.sub,L.mul,L.add,L.q,bC,bm,ee];rw[p0.1,p0.2,(qb _).1,(qb _).2,(qb _).1,(qb _).2]
   ·rw[if_neg k2,if_neg k2];have qa:=ha k0 k1 k2;unfold cR dotE aK;dsimp only;simp only[L.sub,L.mul,L.add,L.q,bC,bm,ee];rw[p0.1,p0.2,(qa _).1,(qa _).2]
end
end Go.Lw
namespace Go.Lw
open Lean.Grind (CommRing)
section
variable{R:Type}[CommRing R]
theorem TL(p1 p2 q1 q2 x y:R) :
  (((q1-p1)*(y-p2)-(q2-p2)*(x-p1))+((q1-p1)*(y-p2)-(q2-p2)*(x-p1)))*(((q1-p1)*(y-p2)-(q2-p2)*(x-p1))+((q1-p1)*(y-p2)-(q2-p2)*(x-p1))) =
  4*(((x-p1)*(x-p1)+(y-p2)*(y-p2))*((p1-q1)*(p1-q1)+(p2-q2)*(p2-q2)))
   - ((((x-p1)*(x-p1)+(y-p2)*(y-p2))+((p1-q1)*(p1-q1)+(p2-q2)*(p2-q2)))-((x-q1)*(x-q1)+(y-q2)*(y-q2)))
    * ((((x-p1)*(x-p1)+(y-p2)*(y-p2))+((p1-q1)*(p1-q1)+(p2-q2)*(p2-q2)))-((x-q1)*(x-q1)+(y-q2)*(y-q2))):=by grind
theorem Ib(a b u v:R):(a*u+b*v)*(a*u+b*v)=(a*a+b*b)*(u*u+v*v)-(a*v-b*u)*(a*v-b*u):=by grind
theorem OR{p1 p2 q1 q2 c1 c2 x y:R}(h0:(q1-p1)*(y-p2)-(q2-p2)*(x-p1)=0) :
  ((q1-p1)*(x-c1)+(q2-p2)*(y-c2))*((q1-p1)*(x-c1)+(q2-p2)*(y-c2)) =
  ((q1-p1)*(q1-p1)+(q2-p2)*(q2-p2))*((x-c1)*(x-c1)+(y-c2)*(y-c2))-((q1-p1)*(c2-p2)-(q2-p2)*(c1-p1))*((q1-p1)*(c2-p2)-(q2-p2)*(c1-p1)):=by
 have e:(q1-p1)*(c2-p2)-(q2-p2)*(c1-p1)=-((q1-p1)*(y-c2)-(q2-p2)*(x-c1)):=by grind
 rw[Ib,e];generalize(q1-p1)*(y-c2)-(q2-p2)*(x-c1)=k;clear h0 e;grind
theorem S8{C S u v:R}(h:C*C+S*S=1):(C*u-S*v)*(C*u-S*v)+(S*u+C*v)*(S*u+C*v)=u*u+v*v:=by
 have e:(C*u-S*v)*(C*u-S*v)+(S*u+C*v)*(S*u+C*v)=(C*C+S*S)*(u*u+v*v):=by clear h;grind
 rw[e,h];grind
theorem Kf{C S u v a b:R}(h:C*C+S*S=1):(C*u-S*v)*(S*a+C*b)-(S*u+C*v)*(C*a-S*b)=u*b-v*a:=by
 have e:(C*u-S*v)*(S*a+C*b)-(S*u+C*v)*(C*a-S*b)=(C*C+S*S)*(u*b-v*a):=by clear h;grind
 rw[e,h];grind
end
section
variable{T:LL}(hp:cS T){p:Pq}
include hp
theorem Er(hc:CH T p):ae hp (dE T p.c)*ae hp (dE T p.c)+ae hp (dE T p.s)*ae hp (dE T p.s)=1:=by
 have h9:=(eI hp).2 hc;rw[bC,ee,bm,bm,CP]at h9;grind
theorem zy(m n:Rat×Rat):ae hp (bn T p n).1-ae hp (bn T p m).1=ae hp (dE T p.c)*ae hp (qE (n.1-m.1))-ae hp (dE T p.s)*ae hp (qE (n.2-m.2)) /\
  ae hp (bn T p n).2-ae hp (bn T p m).2=ae hp (dE T p.s)*ae hp (qE (n.1-m.1))+ae hp (dE T p.c)*ae hp (qE (n.2-m.2)):=by
 unfold bn;dsimp only;rw[kq,kq];simp only[ee,bC,bm];constructor <;> grind
theorem tT(hc:CH T p)(m n:Rat×Rat):(ae hp (bn T p n).1-ae hp (bn T p m).1)*(ae hp (bn T p n).1-ae hp (bn T p m).1)+(ae hp (bn T p n).2-ae hp (bn T p m).2)*(ae hp (bn T p n).2-ae hp (bn T p m).2)=ae hp (qE (aX n m)):=by
 obtain⟨e1,e2⟩:=zy hp (p:=p) m n;rw[e1,e2,S8 (Er hp hc)];unfold aX bQ bF;dsimp only;rw[l7,gG,gG,ee,bm,bm]
theorem OC(hc:CH T p)(m n k:Rat×Rat):(ae hp (bn T p n).1-ae hp (bn T p m).1)*(ae hp (bn T p m).2-ae hp (bn T p k).2)-(ae hp (bn T p n).2-ae hp (bn T p m).2)*(ae hp (bn T p m).1-ae hp (bn T p k).1)=ae hp (qE (ry (bF n m) (bF m k))):=by
 obtain⟨e1,e2⟩:=zy hp (p:=p) m n;obtain⟨e3,e4⟩:=zy hp (p:=p) k m
 have en:(qE (ry (bF n m) (bF m k)):Et T)=qE (n.1-m.1)*qE (m.2-k.2)-qE (n.2-m.2)*qE (m.1-k.1):=by
  rw[<- gG,<- gG,<- kq];rfl
 rw[e1,e2,e3,e4,Kf (Er hp hc),en,bC,bm,bm]
end
theorem wH{l:Li}{T:LL}(hp:cS T){bs:List Pq}{j:Jt}{i:Int}(hk:j.kind=0)(tie:j.a=i\/j.b=i)(h:JH l T bs j) :
  ae hp (bn T (bs.getD i.toNat bt) (ah l j i)).1=ae hp (pinP l T bs j i).1/\ae hp (bn T (bs.getD i.toNat bt) (ah l j i)).2=ae hp (pinP l T bs j i).2:=by
 have e:=E5 hp hk h;unfold ah pinP
 by_cases e1:j.a=i
 ·rw[if_pos e1,if_pos e1];unfold aq at e ⊢;rw[e1]at e;exact e
 ·have e2:j.b=i:=tie.resolve_left e1;rw[if_neg e1,if_neg e1];unfold aq at e ⊢;rw[e2]at e;exact⟨e.1.symm,e.2.symm⟩
theorem rG{l:Li}{kd z i:Int}{bs:List Int}{j:Jt}(t:TieO l kd bs z i j):j.a=i\/j.b=i:=by
 rcases t.tie with⟨e,_⟩ |⟨e,_⟩
 ·exact .inl e
 ·exact .inr e
section
variable{l:Li}{T:LL}{bs:List Pq}{g:Gr}
theorem C1(h:g.kind=1):bX l T bs g=gj (aK (pinP l T bs (ai l g 1) (aA g 1)) (pinP l T bs (ai l g 0) (aA g 0))) (aK (bn T (bs.getD (aA g 0).toNat bt) (ah l (ai l g 2) (aA g 0))) (pinP l T bs (ai l g 0) (aA g 0))):=by
 unfold bX;rw[if_neg oz,if_pos h]
theorem HL(h:g.kind=2):bX l T bs g=cR (aK (aq l T bs (ai l g 1).b (ai l g 1).to) (aq l T bs (ai l g 1).b (ai l g 1).on)) (aK (bn T (bs.getD (aA g 0).toNat bt) (aB l (aA g 0) (ai l g 1).point)) (pinP l T bs (ai l g 0) (aA g 0))):=by
 unfold bX;rw[if_neg oz,if_neg oz,if_pos h]
theorem En(h:g.kind=3):bX l T bs g=cR (aK (aq l T bs (ai l g 1).b (ai l g 1).to) (aq l T bs (ai l g 1).b (ai l g 1).on)) (aK (aq l T bs (ai l g 1).a (ai l g 1).point) (pinP l T bs (ai l g 0) (aA g 0))):=by
 unfold bX;rw[if_neg oz,if_neg oz,if_neg oz]
theorem yU(h:g.kind=1):iY l T bs g=bc (pinP l T bs (ai l g 0) (aA g 0)) (qE (aX (ah l (ai l g 2) (aA g 0)) (ah l (ai l g 0) (aA g 0)))) (pinP l T bs (ai l g 1) (aA g 1)) (qE (aX (ah l (ai l g 2) (aA g 1)) (ah l (ai l g 1) (aA g 1)))):=by
 unfold iY;rw[if_neg oz,if_pos h]
theorem zM(h:g.kind=2):iY l T bs g=aR (aq l T bs (ai l g 1).b (ai l g 1).on) (aq l T bs (ai l g 1).b (ai l g 1).to) (pinP l T bs (ai l g 0) (aA g 0)) (qE (aX (aB l (aA g 0) (ai l g 1).point) (ah l (ai l g 0) (aA g 0)))):=by
 unfold iY;rw[if_neg oz,if_neg oz,if_pos h]
theorem yG(h:g.kind=3):iY l T bs g=qE (fJ l (aA g 0) (ai l g 1))*cR (aK (aq l T bs (ai l g 1).a (ai l g 1).point) (pinP l T bs (ai l g 0) (aA g 0))) (aK (aq l T bs (ai l g 1).a (ai l g 1).point) (pinP l T bs (ai l g 0) (aA g 0)))
  - qE (bV l (aA g 0) (ai l g 0) (ai l g 1))*qE (bV l (aA g 0) (ai l g 0) (ai l g 1)):=by
 unfold iY;rw[if_neg oz,if_neg oz,if_neg oz]
end
section
variable{l:Li}{T:LL}(hp:cS T){bs:List Pq}
include hp
theorem E6{i k z0 z1:Int}{j0 j1 j2:Jt}(t0:TieO l 0 [i,k] z0 i j0)(t1:TieO l 0 [i,k] z1 k j1)(ne:i≠k)(kd:j2.kind=0)(tie:(j2.a=i/\j2.b=k)\/(j2.b=i/\j2.a=k))
  (h0:JH l T bs j0) (h1:JH l T bs j1) (h2:JH l T bs j2) (c0:CH T (bs.getD i.toNat bt)) (c1:CH T (bs.getD k.toNat bt)) {x:P2 T} (hx:x=bn T (bs.getD i.toNat bt) (ah l j2 i)) :
  (ae hp x.1=ae hp (bn T (bs.getD k.toNat bt) (ah l j2 k)).1/\ae hp x.2=ae hp (bn T (bs.getD k.toNat bt) (ah l j2 k)).2) /\
  ((ae hp x.1-ae hp (pinP l T bs j0 i).1)*(ae hp x.1-ae hp (pinP l T bs j0 i).1)+(ae hp x.2-ae hp (pinP l T bs j0 i).2)*(ae hp x.2-ae hp (pinP l T bs j0 i).2)=ae hp (qE (aX (ah l j2 i) (ah l j0 i)))) /\
  ((ae hp x.1-ae hp (pinP l T bs j1 k).1)*(ae hp x.1-ae hp (pinP l T bs j1 k).1)+(ae hp x.2-ae hp (pinP l T bs j1 k).2)*(ae hp x.2-ae hp (pinP l T bs j1 k).2)=ae hp (qE (aX (ah l j2 k) (ah l j1 k)))):=by
 have o0:=wH hp t0.kd (rG t0) h0;have o1:=wH hp t1.kd (rG t1) h1
 have e:ae hp x.1=ae hp (bn T (bs.getD k.toNat bt) (ah l j2 k)).1/\ae hp x.2=ae hp (bn T (bs.getD k.toNat bt) (ah l j2 k)).2:=by
  have e:=E5 hp kd h2;unfold aq at e;rcases tie with⟨ea,eb⟩ |⟨eb,ea⟩
  ·have q0 : ah l j2 i = aB l i j2.point := by unfold ah; rw [if_pos ea]
   have q1:ah l j2 k=aB l k j2.on:=by unfold ah;rw[if_neg oz]
   rw[ea,eb]at e;rw[hx,q0,q1];exact e
  ·have q0 : ah l j2 i = aB l i j2.on := by unfold ah; rw [if_neg oz]
   have q1:ah l j2 k=aB l k j2.point:=by unfold ah;rw[if_pos ea]
   rw[ea,eb]at e;rw[hx,q0,q1];exact⟨e.1.symm,e.2.symm⟩
 have d0:=tT hp c0 (ah l j0 i) (ah l j2 i);have d1:=tT hp c1 (ah l j1 k) (ah l j2 k);rw[<- hx,o0.1,o0.2]at d0;rw[<- e.1,<- e.2,o1.1,o1.2]at d1;exact⟨e,d0,d1⟩
theorem Od{i z0 z1:Int}{j0 j:Jt}(t0:TieO l 0 [i] z0 i j0)(t1:TieO l 1 [i] z1 i j)(ha:j.a=i)(h0:JH l T bs j0)(h1:JH l T bs j)(c0:CH T (bs.getD i.toNat bt)){x:P2 T}(hx:x=bn T (bs.getD i.toNat bt) (aB l i j.point)) :
  ((ae hp (aq l T bs j.b j.to).1-ae hp (aq l T bs j.b j.on).1)*(ae hp x.2-ae hp (aq l T bs j.b j.on).2)-(ae hp (aq l T bs j.b j.to).2-ae hp (aq l T bs j.b j.on).2)*(ae hp x.1-ae hp (aq l T bs j.b j.on).1)=0) /\
  ((ae hp x.1-ae hp (pinP l T bs j0 i).1)*(ae hp x.1-ae hp (pinP l T bs j0 i).1)+(ae hp x.2-ae hp (pinP l T bs j0 i).2)*(ae hp x.2-ae hp (pinP l T bs j0 i).2)=ae hp (qE (aX (aB l i j.point) (ah l j0 i)))):=by
 have o0:=wH hp t0.kd (rG t0) h0;have s:=Fn hp (by rw[t1.kd];decide) h1;have ep:aq l T bs j.a j.point=x:=by rw[hx,ha];rfl
 rw[ep]at s;have d0:=tT hp c0 (ah l j0 i) (aB l i j.point);rw[<- hx,o0.1,o0.2]at d0;exact⟨s,d0⟩
theorem U3{i z0 z1:Int}{j0 j:Jt}(t0:TieO l 0 [i] z0 i j0)(t1:TieO l 1 [i] z1 i j)(ha:j.a≠i)(h0:JH l T bs j0)(h1:JH l T bs j)(c0:CH T (bs.getD i.toNat bt)){w:Zq hp×Zq hp}(hw:w=(ae hp (aq l T bs j.b j.to).1-ae hp (aq l T bs j.b j.on).1,ae hp (aq l T bs j.b j.to).2-ae hp (aq l T bs j.b j.on).2)) :
  (w.1*w.1+w.2*w.2=ae hp (qE (fJ l i j))) /\
  (w.1*(ae hp (aq l T bs j.a j.point).2-ae hp (pinP l T bs j0 i).2)-w.2*(ae hp (aq l T bs j.a j.point).1-ae hp (pinP l T bs j0 i).1)=ae hp (qE (bV l i j0 j))):=by
 have tb:j.b=i:=(rG t1).resolve_left ha;have o0:=wH hp t0.kd (rG t0) h0;have s:=Fn hp (by rw[t1.kd];decide) h1;have eto:aq l T bs j.b j.to=bn T (bs.getD i.toNat bt) (aB l i j.to):=by unfold aq;rw[tb]
 have eon:aq l T bs j.b j.on=bn T (bs.getD i.toNat bt) (aB l i j.on):=by unfold aq;rw[tb]
 have d0:=tT hp c0 (aB l i j.on) (aB l i j.to);have r0:=OC hp c0 (aB l i j.on) (aB l i j.to) (ah l j0 i);rw[o0.1,o0.2]at r0;rw[<- eto,<- eon]at d0 r0;refine⟨by rw[hw];exact d0,?_⟩;rw[hw];dsimp only;have e:ae hp (qE (bV l i j0 j))=ae hp (qE (ry (bF (aB l i j.to) (aB l i j.on)) (bF (aB l i j.on) (ah l j0 i)))):=rfl;rw[e,<- r0];clear e r0 d0
 revert s
 generalize ae hp (aq l T bs j.b j.to).1=a1;generalize ae hp (aq l T bs j.b j.to).2=a2;generalize ae hp (aq l T bs j.b j.on).1=b1;generalize ae hp (aq l T bs j.b j.on).2=b2;generalize ae hp (aq l T bs j.a j.point).1=u1;generalize ae hp (aq l T bs j.a j.point).2=u2;generalize ae hp (pinP l T bs j0 i).1=v1;generalize ae hp (pinP l T bs j0 i).2=v2;clear eto eon o0;intro s;grind
theorem Em{g:Gr}(hg:DyK l g)(js:∀z∈g.jo,JH l T bs (l.jo.getD z.toNat default))(cs:∀b∈g.bo,CH T (bs.getD b.toNat bt)):ae hp (ri g.kind (bX l T bs g))=ae hp (iY l T bs g):=by
 cases hg with
 | @drv b z d j dr t d0 hd hb =>
  show ae hp ((qE 1:Et T)*qE 1)=ae hp (qE 1);have q1:(qE 1:Et T)=1:=rfl;rw[q1,show(1:Et T)*1=1 by grind]
 | @rrr i k z0 z1 z2 j0 j1 j2 ne t0 t1 h0 h2 kd tie =>
  have e0:ai l ⟨1,[i,k],[z0,z1,z2],0⟩ 0=j0:=aw t0.hj;have e1:ai l ⟨1,[i,k],[z0,z1,z2],0⟩ 1=j1:=aw t1.hj;have e2:ai l ⟨1,[i,k],[z0,z1,z2],0⟩ 2=j2:=aw h2;have b0:aA ⟨1,[i,k],[z0,z1,z2],0⟩ 0=i:=rfl;have b1:aA ⟨1,[i,k],[z0,z1,z2],0⟩ 1=k:=rfl;have y0:=js z0 (by simp);have y1:=js z1 (by simp);have y2:=js z2 (by simp);rw[aw t0.hj]at y0;rw[aw t1.hj]at y1;rw[aw h2]at y2;obtain⟨_,d0,d1⟩:=E6 hp t0 t1 ne kd tie y0 y1 y2 (cs i (by simp)) (cs k (by simp)) rfl;show ae hp ((bX l T bs _+bX l T bs _)*(bX l T bs _+bX l T bs _))=_;rw[C1 rfl,yU rfl,e0,e1,e2,b0,b1,IZ (qU hp) _ _ _ _ (r8 (qU hp) _ _),<- d0,<- d1];unfold gj crsE aK;dsimp only;simp only[bm,ee,bC];exact TL _ _ _ _ _ _
 | @pr i z0 z1 j0 j1 t0 t1 ha =>
  have e0:ai l ⟨2,[i],[z0,z1],0⟩ 0=j0:=aw t0.hj;have e1:ai l ⟨2,[i],[z0,z1],0⟩ 1=j1:=aw t1.hj;have b0:aA ⟨2,[i],[z0,z1],0⟩ 0=i:=rfl;have y0:=js z0 (by simp);have y1:=js z1 (by simp);rw[aw t0.hj]at y0;rw[aw t1.hj]at y1;obtain⟨s,d0⟩:=Od hp t0 t1 ha y0 y1 (cs i (by simp)) rfl;show ae hp (bX l T bs _*bX l T bs _)=_;rw[HL rfl,zM rfl,e0,e1,b0];unfold aR ba gS cR dotE gj crsE aK;dsimp only;simp only[bm,ee,bC];rw[<- d0];exact OR s
 | @rp i z0 z1 j0 j1 t0 t1 ha =>
  have e0:ai l ⟨3,[i],[z0,z1],0⟩ 0=j0:=aw t0.hj;have e1:ai l ⟨3,[i],[z0,z1],0⟩ 1=j1:=aw t1.hj;have b0:aA ⟨3,[i],[z0,z1],0⟩ 0=i:=rfl;have y0:=js z0 (by simp);have y1:=js z1 (by simp);rw[aw t0.hj]at y0;rw[aw t1.hj]at y1;obtain⟨d0,d1⟩:=U3 hp t0 t1 ha y0 y1 (cs i (by simp)) rfl;show ae hp (bX l T bs _*bX l T bs _)=_;rw[En rfl,yG rfl,e0,e1,b0];unfold cR dotE aK;dsimp only at d0 d1 ⊢;simp only[bm,ee,bC];rw[<- d0,<- d1];exact Ib _ _ _ _
end
end Go.Lw
namespace Go.Lw
open Go.Proofs
section
variable{P:Program}{N:Nat}{R:Array Oper}{s:AS}{pos:String}{after:Array Edge}
end
def JC(F:Int->Bool)(sg:Bool)(f:Sv->List Aq×Nat)(S:List Sv)(i:Nat)(c:List Aq):Prop :=
  i<=S.length/\qI F sg f S=(c++(qI F sg f (S.drop i)).1,(qI F sg f (S.drop i)).2)
section
variable{F:Int->Bool}{sg:Bool}{f:Sv->List Aq×Nat}{S:List Sv}{i:Nat}{c:List Aq}(h:JC F sg f S i c){s:Sv}(hs:S[i]?=some s)
include h hs
end
variable{P:Program}{N:Nat}{R:Array Oper}{s:AS}{pos:String}{after:Array Edge}
end Go.Lw
namespace Go.Lw
open Go.Proofs
theorem p5(i:Int)(n:Nat):FP 227 [i64 i,i64 n] (bl (bA i n)):=by
 refine aj func227 ?_;refine af ?_;exact congrArg bl (G3 i n)
theorem SZ(p q:Mk)(hp:p.ok)(hq:q.ok):FP 228 [p.av,q.av] (bl (decide (p.x.q=q.x.q/\p.y.q=q.y.q))):=by
 refine aj func228 ?_;refine gc (Hi p.x q.x hp.x hq.x ((hp.qx.sub hq.qx).qs oz)) ?_;refine bU (fun _=>(Hi p.y q.y hp.y hq.y ((hp.qy.sub hq.qy).qs oz))) ?_;refine af ?_;exact congrArg bl LQ
theorem J0(b:Bd)(hbo:b.ok):FP 226 [b.av] (i64 (if 8<b.pts.length then 4 else fi b.pts.length (d9 b.pts):Nat)):=by
 have hll:=hbo.ll;refine aj func226 ?_;refine gl ?_;refine gC (fun t9=>?_) (fun t9=>?_)
 ·have h0:8<b.pts.length:=jl t9;refine af ?_;rw[if_pos h0];rfl
 have h0:b.pts.length<=8:=kc t9;have e0:(if 8<b.pts.length then 4 else fi b.pts.length (d9 b.pts):Nat)=fi b.pts.length (d9 b.pts):=if_neg oz;refine aZ [1] [1] (fun(p:Nat)=>[(3,some (i64 p))]) (fun _=>[]) (fun p=>p<=b.pts.length/\∀j,j<p->d9 b.pts j=0) (fun p=>b.pts.length-p) 0 ⟨zero_le _,fun j h=>by omega⟩ ?_;rintro p ⟨hp,hpj⟩ K1 J1;refine gl ?_;refine gC (fun t14=>?_) (fun t14=>?_)
 ·have hpn:=bh t14;obtain⟨m,hm⟩:=aH hpn;have hmd:b.pts.getD p default=m:=aw hm;have hmm:=mem_of_getElem? hm;have hmdup:=nQ Mk.name hm;have hmo:=hbo.pts m hmm;refine gi (aN hm) ?_;refine gc (sU m.name (hbo.names m hmm)) ?_;refine gC (fun t25=>?_) (fun t25=>?_)
  ·have h4:=dF t25;have e2:d9 b.pts p = 5:=by unfold d9; rw [hmd,if_pos h4]
   refine af ?_;rw[e0,eg hpn hpj (by rw[e2];decide),e2];rfl
  have h4:=dw t25;refine aZ [1,3,4] [1,4] (fun(q:Nat)=>[(5,some (i64 q))]) (fun _=>[]) (fun q=>q<=p/\(b.pts.take q).any (fun y=>dJ y.name m.name)=false) (fun q=>p-q) 0 ⟨zero_le _,rfl⟩ ?_;rintro q ⟨hq,hqd⟩ K2 J2;refine gC (fun t28=>?_) (fun t28=>?_)
  ·have hqn:=bh t28;obtain⟨y,hy⟩:∃y,b.pts[q]?=some y:=aH oz;refine gi (aN hy) ?_;refine gD ?_;refine gC (fun t39=>?_) (fun t39=>?_)
   ·have h5:dJ y.name m.name = true:=t39;have e2:d9 b.pts p = 6:=by unfold d9; rw [hmd,if_neg (by rw [h4]; decide),if_pos (by rw [hmdup]; exact lP hy hqn h5)]
    refine af ?_;rw[e0,eg hpn hpj (by rw[e2];decide),e2];rfl
   have h5:dJ y.name m.name=false:=t39;refine ga aV ?_;exact aT J2 (q+1) ⟨hqn,kU hy hqd h5⟩
  have hqn:=bD hq t28;subst hqn;have hmnd:¬gM (b.pts.map Mk.name) q=true:=by rw[hmdup,hqd];decide
  refine gc (pb m.x hmo.x) ?_;refine bU (fun _=>(pb m.y hmo.y)) ?_;refine gC (fun t49=>?_) (fun t49=>?_)
  ·have h6:=oD t49;have e2:d9 b.pts q = 3:=by unfold d9; rw [hmd,if_neg (by rw [h4]; decide),if_neg hmnd,if_neg (by rintro ⟨g1,g2⟩; rcases h6 with g | g; (rw [g1] at g; cases g); (rw [g2] at g; cases g))]
   refine af ?_;rw[e0,eg hpn hpj (by rw[e2];decide),e2];rfl
  have h6:=oU t49;have e2:d9 b.pts q=0:=by unfold d9;rw[hmd,if_neg (by rw[h4];decide),if_neg hmnd,if_pos h6]
  refine ga aV ?_;exact aT J1 (q+1) ⟨hpn,fun j h9=>by rcases lt_or_ge j q with g |g;exact hpj j g;(have:j=q:=by omega);subst this;exact e2⟩
 have hpn:=bD hp t14;subst hpn;refine af ?_;rw[e0,nv hpj];rfl
theorem UJ(l:Li)(hl:l.ok):FP 112 [l.av] (i64 (iu l)):=by
 have hlb:=hl.lb;have e0:iu l=fi l.bo.length (er l.bo):=rfl;refine aj func112 ?_;refine aZ [1] [1] (fun(i:Nat)=>[(3,some (i64 i))]) (fun _=>[]) (fun i=>i<=l.bo.length/\∀j,j<i->er l.bo j=0) (fun i=>l.bo.length-i) 0 ⟨zero_le _,fun j h=>by omega⟩ ?_;rintro i ⟨hi,hj⟩ K1 J1;refine gl ?_;refine gC (fun t10=>?_) (fun t10=>?_)
 ·have hin:=bh t10;obtain⟨b,hb⟩:=aH hin;have hbd:l.bo.getD i default=b:=aw hb;have hbo:=hl.bo b (mem_of_getElem? hb);have hbdup:=nQ Bd.name hb;refine gi (aN hb) ?_;refine gc (sU b.name hbo.name) ?_;refine gC (fun t20=>?_) (fun t20=>?_)
  ·have h1:=dF t20;have e1:er l.bo i = 5:=by unfold er; rw [hbd,if_pos h1]
   refine af ?_;rw[e0,eg hin hj (by rw[e1];decide),e1];rfl
  have h1:=dw t20;refine aZ [1,3] [1] (fun(k:Nat)=>[(4,some (i64 k))]) (fun _=>[]) (fun k=>k<=i/\(l.bo.take k).any (fun y=>dJ y.name b.name)=false) (fun k=>i-k) 0 ⟨zero_le _,rfl⟩ ?_;rintro k ⟨hk,hd⟩ K2 J2;refine gC (fun t23=>?_) (fun t23=>?_)
  ·have hkn:=bh t23;obtain⟨y,hy⟩:∃y,l.bo[k]?=some y:=aH oz;refine gi (aN hy) ?_;refine gi (aN hb) ?_;refine gD ?_;refine gC (fun t38=>?_) (fun t38=>?_)
   ·have h2:dJ y.name b.name = true:=t38;have e1:er l.bo i = 6:=by unfold er; rw [hbd,if_neg (by rw [h1]; decide),if_pos (by rw [hbdup]; exact lP hy hkn h2)]
    refine af ?_;rw[e0,eg hin hj (by rw[e1];decide),e1];rfl
   have h2:dJ y.name b.name=false:=t38;refine ga aV ?_;exact aT J2 (k+1) ⟨hkn,kU hy hd h2⟩
  have hkn:=bD hk t23;subst hkn;have hnd:¬gM (l.bo.map Bd.name) k=true:=by rw[hbdup,hd];decide
  have e1:er l.bo k=if 8<b.pts.length then 4 else fi b.pts.length (d9 b.pts):=by unfold er;rw[hbd,if_neg (by rw[h1];decide),if_neg hnd]
  refine gi (aN hb) ?_;refine gc (J0 b hbo) ?_;refine gC (fun t46=>?_) (fun t46=>?_)
  ·have h3:=ig t46;refine af ?_;rw[e0,eg hin hj (by rw[e1];exact h3),e1]
  have h3:=gB t46;refine ga aV ?_;exact aT J1 (k+1) ⟨hin,fun j h9=>by rcases lt_or_ge j k with g |g;exact hj j g;(have:j=k:=by omega);subst this;exact e1.trans h3⟩
 have hin:=bD hi t10;subst hin;refine af ?_;rw[e0,nv hj];rfl
theorem QU(l:Li)(hl:l.ok)(i:Nat)(hi:i<l.jo.length)(h16:l.jo.length<=16):FP 113 [l.av,i64 i] (i64 (f6 l i)):=by
 obtain⟨j,hjj⟩:=aH hi;have hbd:l.jo.getD i default=j:=aw hjj;have hbdup:=nQ Jt.name hjj;refine aj func113 ?_;refine gi (aN hjj) ?_;refine gc (sU j.name (hl.jnames j (mem_of_getElem? hjj))) ?_;refine gC (fun t17=>?_) (fun t17=>?_)
 ·have h0:=dF t17;refine af ?_;unfold f6;rw[hbd,if_pos h0];rfl
 have h0:=dw t17;refine aZ [1,2,5] [2,5] (fun(k:Nat)=>[(6,some (i64 k))]) (fun _=>[]) (fun k=>k<=i/\(l.jo.take k).any (fun y=>dJ y.name j.name)=false) (fun k=>i-k) 0 ⟨zero_le _,rfl⟩ ?_;rintro k ⟨hk,hd⟩ K1 J1;refine gC (fun t20=>?_) (fun t20=>?_)
 ·have hkn:=bh t20;obtain⟨y,hy⟩:∃y,l.jo[k]?=some y:=aH oz;refine gi (aN hy) ?_;refine gD ?_;refine gC (fun t31=>?_) (fun t31=>?_)
  ·have h2:dJ y.name j.name=true:=t31;refine af ?_;unfold f6;rw[hbd,if_neg (by rw[h0];decide),if_pos (by rw[hbdup];exact lP hy hkn h2)];rfl
  have h2:dJ y.name j.name=false:=t31;refine ga aV ?_;exact aT J1 (k+1) ⟨hkn,kU hy hd h2⟩
 have hkn:=bD hk t20;subst hkn;have hnd:¬gM (l.jo.map Jt.name) k=true:=by rw[hbdup,hd];decide
 have e1:f6 l k=eF l j:=by unfold f6;rw[hbd,if_neg (by rw[h0];decide),if_neg hnd]
 refine gC (fun t39=>?_) (fun t39=>?_)
 ·have h1:=D9 t39;refine af ?_;rw[e1];unfold eF;rw[if_pos h1];rfl
 have h1:=EJ t39;refine gl ?_;refine gc (p5 j.a l.bo.length) ?_;refine cE ?_;refine bU (fun _=>(p5 j.b l.bo.length)) ?_;refine gC (fun t55=>?_) (fun t55=>?_)
 ·have h2:=oD t55;refine af ?_;rw[e1];unfold eF;rw[if_neg h1,if_pos h2];rfl
 have h2:=oU t55;have h2n:¬(bA j.a l.bo.length=false\/bA j.b l.bo.length=false):=by rw[h2.1,h2.2];simp
 obtain⟨A,hA,pA,mA,zA0⟩:=oV h2.1;obtain⟨B,hB,pB,mB,zB0⟩:=oV h2.2;refine gC (fun t60=>?_) (fun t60=>?_)
 ·have h3:=cB t60;refine af ?_;rw[e1];unfold eF;rw[if_neg h1,if_neg h2n,if_pos h3];rfl
 have h3:=cK t60;refine gi (aN hA) ?_;refine gi (aN hB) ?_;refine gD ?_;refine gl ?_;refine gc (p5 j.point A.pts.length) ?_;refine cE ?_;refine bU (fun _=>(p5 j.on B.pts.length)) ?_;refine gC (fun t88=>?_) (fun t88=>?_)
 ·have h4:=oD t88;refine af ?_;rw[e1];unfold eF;rw[if_neg h1,if_neg h2n,if_neg h3,pA,pB,if_pos h4];rfl
 have h4:=oU t88;have h4n:¬(bA j.point A.pts.length=false\/bA j.on B.pts.length=false):=by rw[h4.1,h4.2];simp
 refine gC (fun t91=>?_) (fun t91=>?_)
 ·have h5:=cB t91;refine gC (fun t94=>?_) (fun t94=>?_)
  ·have h6:=ut t94;refine af ?_;rw[e1];unfold eF;rw[if_neg h1,if_neg h2n,if_neg h3,pA,pB,if_neg h4n,if_pos h5,if_pos h6];rfl
  have h6:=vV t94;refine af ?_;rw[e1];unfold eF;rw[if_neg h1,if_neg h2n,if_neg h3,pA,pB,if_neg h4n,if_pos h5,if_neg (by rw[h6];simp)];rfl
 have h5:=cK t91;refine gl ?_;refine gc (p5 j.to B.pts.length) ?_;refine gC (fun t100=>?_) (fun t100=>?_)
 ·have h6:=dF t100;refine af ?_;rw[e1];unfold eF;rw[if_neg h1,if_neg h2n,if_neg h3,pA,pB,if_neg h4n,if_neg h5,if_pos h6];rfl
 have h6:=dw t100;obtain⟨m1,g1,d1,mm1,z1⟩:=qJ h4.2;obtain⟨m2,g2,d2,mm2,z2⟩:=qJ h6;have mo1:=(hl.bo B mB).pts m1 mm1;have mo2:=(hl.bo B mB).pts m2 mm2;refine gi (aN g1) ?_;refine gi (aN g2) ?_;refine gc (SZ m1 m2 mo1 mo2) ?_;refine gD ?_;refine gC (fun t111=>?_) (fun t111=>?_)
 ·have h7:=of_decide_eq_true t111;refine af ?_;rw[e1];unfold eF;rw[if_neg h1,if_neg h2n,if_neg h3,pA,pB,if_neg h4n,if_neg h5,if_neg (by rw[h6];decide),d1,d2,if_pos h7];rfl
 have h7:=of_decide_eq_false t111;refine af ?_;rw[e1];unfold eF;rw[if_neg h1,if_neg h2n,if_neg h3,pA,pB,if_neg h4n,if_neg h5,if_neg (by rw[h6];decide),d1,d2,if_neg h7];rfl
theorem Ue(l:Li)(hl:l.ok)(i:Nat)(hi:i<l.dv.length)(h2l:l.dv.length<=2):FP 114 [l.av,i64 i] (i64 (d6 l i)):=by
 obtain⟨b,hb⟩:=aH hi;have hbd:l.dv.getD i default=b:=aw hb;have hbdup:=nQ Dr.name hb;refine aj func114 ?_;refine gi (aN hb) ?_;refine gc (sU b.name (hl.dnames b (mem_of_getElem? hb))) ?_;refine gC (fun t16=>?_) (fun t16=>?_)
 ·have h1:=dF t16;refine af ?_;unfold d6;rw[hbd,if_pos h1];rfl
 have h1:=dw t16;refine aZ [1,2,5] [2,5] (fun(k:Nat)=>[(6,some (i64 k))]) (fun _=>[]) (fun k=>k<=i/\(l.dv.take k).any (fun y=>dJ y.name b.name)=false) (fun k=>i-k) 0 ⟨zero_le _,rfl⟩ ?_;rintro k ⟨hk,hd⟩ K1 J1;refine gC (fun t19=>?_) (fun t19=>?_)
 ·have hkn:=bh t19;obtain⟨y,hy⟩:∃y,l.dv[k]?=some y:=aH oz;refine gi (aN hy) ?_;refine gD ?_;refine gC (fun t30=>?_) (fun t30=>?_)
  ·have h2:dJ y.name b.name=true:=t30;refine af ?_;unfold d6;rw[hbd,if_neg (by rw[h1];decide),if_pos (by rw[hbdup];exact lP hy hkn h2)];rfl
  have h2:dJ y.name b.name=false:=t30;refine ga aV ?_;exact aT J1 (k+1) ⟨hkn,kU hy hd h2⟩
 have hkn:=bD hk t19;subst hkn;have hnd:¬gM (l.dv.map Dr.name) k=true:=by rw[hbdup,hd];decide
 refine gl ?_;refine gc (p5 b.body l.bo.length) ?_;refine gC (fun t37=>?_) (fun t37=>?_)
 ·have h3:=dF t37;refine af ?_;unfold d6;rw[hbd,if_neg (by rw[h1];decide),if_neg hnd,if_pos h3];rfl
 have h3:=dw t37;refine gC (fun t40=>?_) (fun t40=>?_)
 ·have h4:=cB t40;refine af ?_;unfold d6;rw[hbd,if_neg (by rw[h1];decide),if_neg hnd,if_neg (by rw[h3];decide),if_pos h4];rfl
 have h4:=cK t40;have e1:d6 l k=if(l.dv.take k).any (fun d=>decide (d.body=b.body))=true then 6 else 0:=by unfold d6;rw[hbd,if_neg (by rw[h1];decide),if_neg hnd,if_neg (by rw[h3];decide),if_neg h4]
 refine aZ [1,2,5] [2,5] (fun(q:Nat)=>[(7,some (i64 q))]) (fun _=>[]) (fun q=>q<=k/\(l.dv.take q).any (fun d=>decide (d.body=b.body))=false) (fun q=>k-q) 0 ⟨zero_le _,rfl⟩ ?_;rintro q ⟨hq,hqd⟩ K2 J2;refine gC (fun t43=>?_) (fun t43=>?_)
 ·have hqn:=bh t43;obtain⟨y,hy⟩:∃y,l.dv[q]?=some y:=aH oz;refine gi (aN hy) ?_;refine gD ?_;refine gC (fun t54=>?_) (fun t54=>?_)
  ·have h5:decide (y.body=b.body)=true:=decide_eq_true (cB t54);refine af ?_;rw[e1,if_pos (lP hy hqn h5)];rfl
  have h5:decide (y.body=b.body)=false:=decide_eq_false (cK t54);refine ga aV ?_;exact aT J2 (q+1) ⟨hqn,kU hy hqd h5⟩
 have hqn:=bD hq t43;subst hqn;refine af ?_;rw[e1,hqd];rfl
theorem TM(l:Li)(hl:l.ok):FP 40 [l.av] (i64 (aP l)):=by
 have hlb:=hl.lb;refine aj func40 ?_;refine gc (sU l.name hl.name) ?_;refine gC (fun t11=>?_) (fun t11=>?_)
 ·have h1:=dF t11;refine af ?_;unfold aP;rw[if_pos h1];rfl
 have h1:=dw t11;refine gl ?_;refine gC (fun t15=>?_) (fun t15=>?_)
 ·have h2:=Hw t15;refine af ?_;unfold aP;rw[if_neg (by rw[h1];decide),if_pos h2];rfl
 have h2:=I8 t15;refine gl ?_;refine gC (fun t19=>?_) (fun t19=>?_)
 ·have h3:8<l.bo.length:=jl t19;refine af ?_;unfold aP;rw[if_neg (by rw[h1];decide),if_neg h2,if_pos h3];rfl
 have h3:l.bo.length<=8:=kc t19;have e0:aP l=if iu l≠0 then iu l else if eM l≠0 then eM l else iI l:=by unfold aP;rw[if_neg (by rw[h1];decide),if_neg h2,if_neg oz]
 refine gc (UJ l hl) ?_;refine gC (fun t23=>?_) (fun t23=>?_)
 ·have h4:iu l≠0:=ig t23;refine af ?_;rw[e0,if_pos h4]
 have h4:iu l=0:=gB t23;refine gl ?_;refine gC (fun t28=>?_) (fun t28=>?_)
 ·have h5:16 < l.jo.length:=jl t28;have ej:eM l = 4:=by unfold eM; rw [if_pos h5]
  refine af ?_;rw[e0,if_neg (by rw[h4];simp),if_pos (by rw[ej];decide),ej];rfl
 have h5:l.jo.length<=16:=kc t28;have ej:eM l=fi l.jo.length (f6 l):=by unfold eM;rw[if_neg oz]
 refine aZ [1] [1] (fun(i:Nat)=>[(4,some (i64 i))]) (fun _=>[]) (fun i=>i<=l.jo.length/\∀j,j<i->f6 l j=0) (fun i=>l.jo.length-i) 0 ⟨zero_le _,fun j h=>by omega⟩ ?_;rintro i ⟨hi,hj⟩ K1 J1;refine gl ?_;refine gC (fun t33=>?_) (fun t33=>?_)
 ·have hin:=bh t33;refine gc (QU l hl i hin h5) ?_;refine gC (fun t40=>?_) (fun t40=>?_)
  ·have h6:=ig t40;refine af ?_;rw[e0,if_neg (by rw[h4];simp),if_pos (by rw[ej,eg hin hj h6];exact h6),ej,eg hin hj h6]
  have h6:=gB t40;refine ga aV ?_;exact aT J1 (i+1) ⟨hin,fun j h9=>by rcases lt_or_ge j i with g |g;exact hj j g;(have:j=i:=by omega);subst this;exact h6⟩
 have hin:=bD hi t33;subst hin;have ejz:eM l=0:=ej.trans (nv hj);have e0':aP l=iI l:=by rw[e0,if_neg (by rw[h4];simp),if_neg (by rw[ejz];simp)]
 refine gl ?_;refine gC (fun t45=>?_) (fun t45=>?_)
 ·have h6:2<l.dv.length:=jl t45;refine af ?_;rw[e0'];unfold iI;rw[if_pos h6];rfl
 have h6:l.dv.length<=2:=kc t45;have ed:iI l=fi l.dv.length (d6 l):=by unfold iI;rw[if_neg oz]
 refine aZ [1] [1] (fun(k:Nat)=>[(6,some (i64 k))]) (fun _=>[]) (fun k=>k<=l.dv.length/\∀j,j<k->d6 l j=0) (fun k=>l.dv.length-k) 0 ⟨zero_le _,fun j h=>by omega⟩ ?_;rintro k ⟨hk,hkj⟩ K2 J2;refine gl ?_;refine gC (fun t50=>?_) (fun t50=>?_)
 ·have hkn:=bh t50;refine gc (Ue l hl k hkn h6) ?_;refine gC (fun t57=>?_) (fun t57=>?_)
  ·have h7:=ig t57;refine af ?_;rw[e0',ed,eg hkn hkj h7]
  have h7:=gB t57;refine ga aV ?_;exact aT J2 (k+1) ⟨hkn,fun j h9=>by rcases lt_or_ge j k with g |g;exact hkj j g;(have:j=k:=by omega);subst this;exact h7⟩
 have hkn:=bD hk t50;subst hkn;refine af ?_;rw[e0',ed,nv hkj];rfl
theorem Bp(rs xs:List (List Rt))(w m:Nat)(hrs:ft rs)(hxs:ft xs)(hrl:rs.length<=100)(hxl:xs.length<=100):FP 132 [cz rs,i64 w,i64 m,.lst 1 (xs.map nR)] (bl (kX w m (rs++xs))):=by
 obtain⟨l,hl⟩:∃l,l=rs++xs:=⟨_,rfl⟩
 have hlo:ft l:=by rw[hl];exact hrs.app hxs
 have hll:l.length<=200:=by rw[hl,length_append];omega
 have hml:rs.map nR++xs.map nR=l.map nR:=by rw[hl,map_append]
 rw[<- hl];refine aj func132 ?_;refine gs (ku T35 rfl T67 rfl rfl rfl) ?_;refine gs (de (.tmp rfl) rfl rfl (.tmp rfl) T35 rfl T67 rfl rfl (by simp only[length_map];omega) rfl rfl) ?_;refine gs (oE (.tmp rfl) rfl (by simp) (.tmp rfl) T35 rfl T67 rfl rfl (by simp only[length_map];omega) rfl rfl) ?_;refine ge rfl ?_;refine aZ [1,2] [] (fun(i:Nat)=>[(18,some (.lst 1 (l.map nR))),(19,some (i64 l.length)),(20,some (i64 i))]) (fun _=>[]) (fun i=>i<=l.length/\(l.take i).all (lY w m)=true) (fun i=>l.length-i) 0 ⟨zero_le _,rfl⟩ ?_ (h1:=(.cons rfl (Sub.of (congrArg (AV.lst 1) hml)) (.cons rfl (Sub.int (by rw[nil_append,hml,length_map])) (.k .nil))));rintro i ⟨hi,hj⟩ K1 J1;refine gC (fun t21=>?_) (fun t21=>?_)
 ·have hin:=bh t21;obtain⟨x,hx⟩:=aH hin;have hxo:=hlo x (mem_of_getElem? hx);have hxl:=hxo.2;refine gi (aN hx) ?_;refine gl ?_;refine gC (fun t27=>?_) (fun t27=>?_)
  ·have h1:=jl t27;refine af ?_;rw[kX,mj hx (by unfold lY;rw[decide_eq_false oz];rfl)];rfl
  have h1:x.length<=m:=kc t27;refine gl ?_;refine aZ [1,2,18,19,20,28,29] [] (fun(k:Nat)=>[(30,some (i64 k))]) (fun _=>[]) (fun k=>k<=x.length/\(x.take k).all (fun r=>decide (r.num.length<=w/\r.den.length<=w))=true) (fun k=>x.length-k) 0 ⟨zero_le _,rfl⟩ ?_;rintro k ⟨hk,hkj⟩ K2 J2;refine gC (fun t31=>?_) (fun t31=>?_)
  ·have hkn:=bh t31;obtain⟨r,hr⟩:=aH hkn;refine gi (aN hr) ?_;refine gl ?_;refine cE ?_;refine gC (fun t45=>?_) (fun t45=>?_)
   ·have h2:¬(r.num.length<=w/\r.den.length<=w):=LH t45;refine af ?_;rw[kX,mj hx (by unfold lY;rw[mj hr (decide_eq_false h2),Bool.and_false])];rfl
   have h2:r.num.length<=w/\r.den.length<=w:=Vw t45;refine ga aV ?_;exact aT J2 (k+1) ⟨hkn,om hkj hr (decide_eq_true h2)⟩
  have hkn:=bD hk t31;refine ga aV ?_;exact aT J1 (i+1) ⟨hin,om hj hx (by unfold lY;rw[decide_eq_true h1,oa hkn hkj];rfl)⟩
 have hin:=bD hi t21;refine af ?_;rw[kX,oa hin hj];rfl
theorem QI(rs xs:List (List Rt))(hrs:ft rs)(hxs:ft xs)(hrl:rs.length<=281474976710656)(hxl:xs.length<=100):FP 55 [cz rs,.lst 1 (xs.map nR)] (bl (kz rs xs)):=by
 refine aj func55 ?_;refine gl ?_;refine gC (fun t9=>?_) (fun t9=>?_)
 ·have h1:rs.length<=1\/(5<rs.length/\rs.length<=8):=Sx t9;refine gc (Bp rs xs 3 40 hrs hxs oz hxl) ?_;refine af ?_;unfold kz;rw[if_pos h1]
 have h1:¬(rs.length<=1\/(5<rs.length/\rs.length<=8)):=QZ t9;refine gC (fun t23=>?_) (fun t23=>?_)
 ·have h2 : rs.length = 2 := by have := cB t23; omega
  refine gc (Bp rs xs 1 40 hrs hxs oz hxl) ?_;refine af ?_;unfold kz;rw[if_neg h1,if_pos h2]
 have h2:¬rs.length=2:=by have:=cK t23;omega
 refine gC (fun t29=>?_) (fun t29=>?_)
 ·have h3 : rs.length = 3 := by have := cB t29; omega
  refine gc (Bp rs xs 1 4 hrs hxs oz hxl) ?_;refine af ?_;unfold kz;rw[if_neg h1,if_neg h2,if_pos h3]
 have h3:¬rs.length=3:=by have:=cK t29;omega
 refine af ?_;unfold kz;rw[if_neg h1,if_neg h2,if_neg h3];rfl
theorem Us(l:Li)(hl:l.okw):FP 56 [l.av] (bl (lK l)):=by
 have hbl:=hl.lb;refine aj func56 ?_;refine gl ?_;refine aZ [1,8,9] [1] (fun(i:Nat)=>[(10,some (i64 i))]) (fun _=>[]) (fun i=>i<=l.bo.length/\(l.bo.take i).all ou=true) (fun i=>l.bo.length-i) 0 ⟨zero_le _,rfl⟩ ?_;rintro i ⟨hi,hj⟩ K1 J1;refine gC (fun t11=>?_) (fun t11=>?_)
 ·have hin:=bh t11;obtain⟨b,hb⟩:=aH hin;refine gi (aN hb) ?_;refine gl ?_;refine gC (fun t17=>?_) (fun t17=>?_)
  ·have h1:30<b.pts.length:=jl t17;refine af ?_;unfold lK;rw[mj hb (by unfold ou;rw[decide_eq_false oz];rfl)];rfl
  have h1:b.pts.length<=30:=kc t17;refine gl ?_;refine aZ [1,8,9,10,19,20] [1] (fun(k:Nat)=>[(21,some (i64 k))]) (fun _=>[]) (fun k=>k<=b.pts.length/\(b.pts.take k).all lH=true) (fun k=>b.pts.length-k) 0 ⟨zero_le _,rfl⟩ ?_;rintro k ⟨hk,hkj⟩ K2 J2;refine gC (fun t22=>?_) (fun t22=>?_)
  ·have hkn:=bh t22;obtain⟨p,hp⟩:=aH hkn;refine gi (aN hp) ?_;refine gl ?_;refine cE ?_;refine cE ?_;refine cE ?_;refine gC (fun t50=>?_) (fun t50=>?_)
   ·have h2:lH p=false:=Th t50;refine af ?_;unfold lK;rw[mj hb (by unfold ou;rw[mj hp h2,Bool.and_false])];rfl
   have h2:lH p=true:=PH t50;refine ga aV ?_;exact aT J2 (k+1) ⟨hkn,om hkj hp h2⟩
  have hkn:=bD hk t22;refine ga aV ?_;exact aT J1 (i+1) ⟨hin,om hj hb (by unfold ou;rw[decide_eq_true h1,oa hkn hkj];rfl)⟩
 have hin:=bD hi t11;refine gl ?_;refine cE ?_;refine cE ?_;refine af ?_;exact congrArg bl (Vj (oa hin hj))
theorem UC(l:Li)(ps:List Pse)(hl:l.okw)(hps:∀p∈ps,p.wok)(hpl:ps.length<=281474976710656):FP 14 [Ae l ps] (bl (qO l ps)):=by
 refine aj func14 ?_;refine gl ?_;refine aZ [1,6,7] [1] (fun(i:Nat)=>[(8,some (i64 i))]) (fun _=>[]) (fun i=>i<=ps.length/\(ps.take i).all uI=true) (fun i=>ps.length-i) 0 ⟨zero_le _,rfl⟩ ?_;rintro i ⟨hi,hj⟩ K1 J1;refine gC (fun t9=>?_) (fun t9=>?_)
 ·have hin:=bh t9;obtain ⟨p,hp⟩:=aH hin;have hpo:=hps p (mem_of_getElem? hp);refine gi (aN hp) ?_;refine gc (Con.sA (.cons (Sub.agg (.cons (Sub.nil 1 none 0) .nil) rfl) (.cons (.refl _) .nil)) (QI [] [[p.turn.t,p.at_.x],[p.at_.y]] xW hpo.rs (by show 0 <= _; omega) (by show 2 <= 100; omega))) ?_;refine gC (fun t26=>?_) (fun t26=>?_)
  ·have h1:=dF t26;refine af ?_;unfold qO;rw[mj hp h1];rfl
  have h1:=dw t26;refine ga aV ?_;exact aT J1 (i+1) ⟨hin,om hj hp h1⟩
 have hin:=bD hi t9;refine gl ?_;refine bU (fun _=>(Us l hl)) ?_;refine af ?_;exact congrArg bl (U9 (oa hin hj))
section
variable{l:Li}{xs:List Tn}{s g:Nat}(W:WkC l xs s g){k:Nat}{gr:Gr}(hg:(splitG l)[k]?=some gr){j r E:Nat}{a:Aq}(Q:QInv l j r E a){n y:Nat}(ok:jy s g (n+1) y j r E=true)(hy:gr.kind≠0->0<y)
include W hg Q ok hy
theorem MK:∃F,F<=20000000000/\p7 F l k a.as false/\AB a.as/\(Lw.llq a.as.rs).length<=2/\(gr.kind≠0->F=3900000/\DyS a.as):=by
 obtain⟨⟨hE,hr,hj⟩,_⟩:=Av ok;have h3:(Lw.llq a.as.rs).length<=2:=by rw[a.llq];have:=Q.lv;omega
 have al:=Q.ab W.li (by omega:E<=50000000000) hr
 by_cases hk:gr.kind=0
 ·exact⟨E,hE,Q.sma oz (le_refl _) k false,al,h3,fun h=>absurd hk h⟩
 ·have hy:=hy hk;obtain ⟨y',rfl⟩:∃ y',y = y' + 1:=⟨y - 1,by omega⟩
  obtain⟨⟨hj,hE,hr,hX,hJ⟩,_⟩:=yc ok;exact⟨3900000,by omega,Q.sma oz hE k false,al,h3,fun _=>⟨rfl,QInv.dyS W hg Q hr hj⟩⟩
theorem Qm:mL l k (fv gr xs) a.as=((fP l a.as gr (fv gr xs)).map Sv.av,rZ l a.as gr (fv gr xs)):=by
 have _:=ok;have _:=hy;unfold mL;have hgA:el l (k:Nat)=gr:=aw hg;rw[if_pos (Q.dy0 W.li W.sp hg false),hgA];exact Prod.ext (Ki _ _ _ _) rfl
theorem SS:FP 18 [l.av,i64 k,(fv gr xs).av,a.av] (.tup [.lst 3 ((fP l a.as gr (fv gr xs)).map Sv.av),cq (rZ l a.as gr (fv gr xs))]):=by
 obtain⟨F,hF,hs,al,h3,hR⟩:=MK W hg Q ok hy;have hgA:el l (k:Nat)=gr:=aw hg;have h:=HZ l W.hl k (W.tn hg).1 (W.tn hg).2.1 a.as al (fun _=>h3) hF hs (fun _ h=>hR (by rw[hgA]at h;exact h));rw[Qm W hg Q ok hy,a.as_av]at h;exact h
end
structure SameJ(l' l:Li):Prop where
  j:l'.jo=l.jo
  d:l'.dv=l.dv
  b:l'.bo.length=l.bo.length
section
variable{l' l:Li}(h:SameJ l' l)
include h
theorem SameJ.jointI(kind body:Int)(oth:List Bool):jointI l' kind body oth=jointI l kind body oth:=by unfold Lw.jointI;rw[h.j]
theorem SameJ.freeB(k:List Bool)(i:Int):freeB l' k i=freeB l k i:=by unfold Lw.freeB oJ;rw[h.d]
theorem SameJ.drHit(k:List Bool)(i:Nat):drHit l' k i=drHit l k i:=by unfold Lw.drHit;simp only[h.d,h.jointI]
theorem SameJ.driverG(k:List Bool):driverG l' k=driverG l k:=by unfold Lw.driverG;simp only[h.d,h.jointI,h.drHit]
theorem SameJ.prHit(k:List Bool)(i j:Nat):prHit l' k i j=prHit l k i j:=by unfold Lw.prHit;simp only[h.freeB,h.jointI,h.b]
theorem SameJ.prAt(k:List Bool)(i:Nat):prAt l' k i=prAt l k i:=by unfold Lw.prAt;simp only[h.prHit,h.b]
theorem SameJ.prG(k:List Bool)(i j:Nat):prG l' k i j=prG l k i j:=by unfold Lw.prG;simp only[h.jointI,h.b]
theorem SameJ.pairG(k:List Bool):pairG l' k=pairG l k:=by unfold Lw.pairG;simp only[h.prAt,h.prG,h.b]
theorem SameJ.sgHit(k:List Bool)(i:Nat):sgHit l' k i=sgHit l k i:=by unfold Lw.sgHit;simp only[h.freeB,h.jointI]
theorem SameJ.sgG(k:List Bool)(i:Nat):sgG l' k i=sgG l k i:=by unfold Lw.sgG;simp only[h.jointI,h.j]
theorem SameJ.singleG(k:List Bool):singleG l' k=singleG l k:=by
 unfold Lw.singleG;have e:Lw.sgG l' k=Lw.sgG l k:=funext (h.sgG k);simp only[h.sgHit,h.b,e]
theorem SameJ.nextG(k:List Bool):nextG l' k=nextG l k:=by unfold Lw.nextG;rw[h.driverG,h.pairG,h.singleG]
theorem SameJ.findFrom:∀(n:Nat)(k:List Bool)(out:List Gr),findFrom l' n k out=findFrom l n k out
 |0,k,out=>rfl
 |n+1,k,out=>by
  unfold Lw.findFrom;rw[h.nextG];cases Lw.nextG l k with
  |none=>rfl
  |some g=>exact SameJ.findFrom n _ _
theorem SameJ.findG:findG l'=findG l:=by unfold Lw.findG;rw[h.b,h.findFrom]
theorem SameJ.splitE:splitE l'=splitE l:=by unfold Lw.splitE cP fe;rw[h.findG,h.b,h.j]
theorem SameJ.splitG:splitG l'=splitG l:=by unfold Lw.splitG;rw[h.splitE,h.findG]
end
def Jt.vs(j:Jt):List Value:=[.string j.name,.int .i64 j.kind,.int .i64 j.a,.int .i64 j.point,.int .i64 j.b,.int .i64 j.on,.int .i64 j.to]
def Dr.vs(d:Dr):List Value:=[.string d.name,.int .i64 d.body]
structure Gr.sm(g:Gr):Prop where
  b:g.bo.length<=100
  j:g.jo.length<=100
theorem Ej{l:Li}(hl:aP l=0):(∀g∈splitG l,g.sm)/\(splitG l).length<=100:=by
 refine⟨fun g hg=>?_,?_⟩
 ·obtain⟨_,ho⟩:=oY hl hg;have:=ho.lb;have:=ho.lj
  exact⟨by omega,by omega⟩
 ·unfold splitG;split
  ·have:=(sW hl).2;omega
  ·exact zero_le _
theorem Pb:FP 68 [.v .nilIface] (i64 0):=by
 refine aj func68 ?_;refine gC (fun t6=>?_) (fun t6=>?_) (st2:=(77777,0))
 ·refine af ?_
  first |rfl |(simp;done)
 cases t6
theorem Ku(n:Int):FP 68 [.v (.iface 60 (.int .i64 n))] (i64 n):=by
 refine aj func68 ?_;refine gC (fun t6=>?_) (fun t6=>?_) (st1:=(2,0));cases t6;refine gs (MV (.tmp rfl) T60 rfl rfl) ?_;refine gC (fun t13=>?_) (fun t13=>?_) (st1:=(5,0));cases t13;refine af ?_;rfl
theorem Ji(e:Nat):FP 68 [cq e] (i64 e):=by
 cases e with
 |zero=>exact Pb
 |succ e=>exact Ku _
open Lean.Grind (CommRing)
theorem xc{n e:Nat}{a:List Rat}(h:Nm n e a):a.length<=2^n:=h.nl.le
theorem Pq.ok.nq{n e:Nat}{p:Pq}(h:Pq.ok n e p):Nq n p:=⟨xc h.c,xc h.s,xc h.x,xc h.y⟩
section
variable{l:Li}{xs:List Tn}{s g:Nat}(W:WkC l xs s g){gr:Gr}{a:Aq}(hg:(splitG l)[a.ms.length]?=some gr)
variable{j r E:Nat}(Q:QInv l j r E a)
include W hg Q
end
end Go.Lw
namespace Go.Lw
structure AqFin(l:Li)(xs:List Tn)(a:Aq):Prop where
  li:aP l=0
  lx:xs.length=l.dv.length
  xo:∀x∈xs,x.err=0/\Qb 1000 x.t.q/\x.t.ok
  tw:∃r,r<=400000000/\Tw a.ts r
  two:a.ts.length<=2
  bs:∀p∈a.bs,Pq.ok a.ts.length 3200000000 p
  ln:a.bs.length=l.bo.length
  lm:a.ms.length<=100
  js:∀j∈l.jo,JH l a.ts a.bs j
  cs:∀i,i<l.bo.length->CH a.ts (a.bs.getD i bt)
  dr:∀i d,l.dv[i]?=some d->dE a.ts (a.bs.getD d.body.toNat bt).c=qE (dR (xs.getD i jJ).half (xs.getD i jJ).t.q)/\dE a.ts (a.bs.getD d.body.toNat bt).s=qE (d5 (xs.getD i jJ).half (xs.getD i jJ).t.q)
  fr:a.bs.getD 0 bt=M4
end Go.Lw
