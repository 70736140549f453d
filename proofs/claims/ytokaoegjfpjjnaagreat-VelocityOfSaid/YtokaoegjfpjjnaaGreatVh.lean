/- VelocityOf: for any linkage,any turns,any assembly and driver the law returns true and leaves its arguments as they were. No other condition. Part 8 of 8: the statement -/
import Derived.Test.YtokaoegjfpjjnaaGreatVg
import Derived.Laws.Pointers
set_option linter.unusedVariables false
open List (cons_append nil_append map_nil map_map map_id)
open List renaming mem_of_getElem? → afl, mem_cons_of_mem → agi, mem_append → aft, map_cons → agv, mem_cons → agd, length_cons → af9, mem_cons_self → agt, length_nil → agj, all_eq_true → afy, map_append → agc, length_take → agu, take_length → af1, not_mem_nil → af8, length_map → afm, length_replicate → agl, map_set → ags, length_set → agm, eq_nil_of_length_eq_zero → ac9, mem_singleton → adc, getElem?_eq_some_iff → adw, mem_replicate → ad4, replicate → ad7
open Nat renaming eq_of_beq_eq_true → afo, le_refl → afq, le_trans → af2, zero_le → afz, beq → ab3, blt_eq → ab7, ble_eq → acl, blt → acm, ne_of_beq_eq_false → acw
open Option renaming map_some → afi
open Bool renaming and_eq_true → afp, or_eq_true → agp, true_and → aet, and_false → aeu, false_eq_true → aew
open Array renaming toList_inj → ae9
open Int renaming toNat_natCast → ago, ofNat_eq_natCast → aec, natCast_nonneg → aeg
open Decidable renaming not_not → afk
open Go renaming Operand → ag8, Value → ag9, TypeId → aha, Program → ahb, World → ahc
open Go.Proofs.Tryz
namespace Go.Lw
open Go.Proofs
theorem aE.one1{s:AS}{x:AV}{k:Nat}{b b':Blk}(h:lk s.hp k=some b)(e:b=b'):aE s x x [(k,some b')]:=by
 subst e;exact aE.keep (df h)
theorem Ef{ts:LL}{V:List (Vt ts)}{n:Nat}{t:Vt ts}:Blk.row 3 ((V.map Vt.av).set n t.av)=Blk.row 3 ((V.set n t).map Vt.av):=by rw[ags]
theorem UL{ts:LL}{V:List (Vt ts)}{n m:Nat}{t u:Vt ts}:Blk.row 3 (((V.map Vt.av).set n t.av).set m u.av)=Blk.row 3 (((V.set n t).set m u).map Vt.av):=by rw[ags,ags]
theorem qc{E K:Nat}{l:Li}{a:Aq}(A:AqV E K l a){n:Nat}{j:Jt}(hj:l.jo[n]?=some j)(b:Int):Bp (3*E+2*K+2010) (pinP l a.ts a.bs j b):=by
 obtain⟨i1,i2,i3,i4,_⟩:=bS A.li hj;unfold pinP;split
 ·exact A.pt i2 i4
 ·exact A.pt i1 i3
section
variable{l:Li}{a:As}(D:DyR l a){E K:Nat}(A:AqV E K l (aR a)){V:List (Vt (llq a.rs))}(hV:V.length=l.bo.length){R:Nat}(hR:∀v∈V,Bv R v)
include A
theorem uI{n:Nat}{j:Jt}(hj:l.jo[n]?=some j)(b:Int):Bp (3*E+2*K+2010) (aN l a j b):=by
 rw[kF];exact qc A hj b
theorem B0{b pt:Int}(h1:aT b l.bo.length=true)(h2:aT pt (bW l b).length=true):Bp (3*E+2*K+2010) (bb l a b pt):=by
 rw[gS];exact A.pt h1 h2
theorem uD{b pt:Int}(h1:aT b l.bo.length=true)(h2:aT pt (bW l b).length=true):Bp (3*E+2*K+2010) (bD a b (aJ l b pt)):=by
 rw[rW];exact A.pt h1 h2
theorem QN{n:Nat}{j:Jt}(hj:l.jo[n]?=some j){b:Int}(h:j.a=b\/j.b=b):Bp (3*E+2*K+2010) (bD a b (aO l j b)):=by
 obtain⟨i1,i2,i3,i4,_⟩:=bS A.li hj;unfold aO
 by_cases e:j.a=b
 ·rw[agz e];subst e;exact uD A i1 i3
 ·rw[agy e];obtain rfl:j.b=b:=h.resolve_left e;exact uD A i2 i4
include hV hR
theorem qd{b:Int}(hb:aT b l.bo.length=true){p:P2 (llq a.rs)}(hp:Bp (3*E+2*K+2010) p):Bp (2*R+3*E+3*K+2011) (cR (cE V b) p):=by
 obtain⟨r,tw,hK⟩:=A.tw;obtain⟨h1,h2⟩:=cV hb;obtain⟨v,hv⟩:=ay (l:=V) (i:=b.toNat) oz;unfold cE;rw[ax hv];exact((hR v (afl hv)).at tw hK hp).mono oz
include D
theorem pz{b:Int}(hb:aT b l.bo.length=true){p:P2 (llq a.rs)}(hp:Bp (3*E+2*K+2010) p)(h:30*R+30*E+30*K<=199999970000) :
  ∃v,V[b.toNat]?=some v/\FP 241 [a5 a.rs,v.av,eP p] (eP (cR (cE V b) p)):=by
 obtain⟨r,tw,hK⟩:=A.tw;obtain⟨h1,h2⟩:=cV hb;obtain⟨v,hv⟩:=ay (l:=V) (i:=b.toNat) oz;have h9:=O7 (ts:=llq a.rs) tw hK A.two (hR v (afl hv)) hp oz;rw[<- (bZ D.s.tr D.hc).2]at h9;refine⟨v,hv,?_⟩;unfold cE;rw[ax hv];exact h9
theorem Wp{P Q C u v:P2 (llq a.rs)}(bP:Bp (3*E+2*K+2010) P)(bQ:Bp (3*E+2*K+2010) Q)(bC:Bp (3*E+2*K+2010) C)(bu:Bp (2*R+3*E+3*K+2011) u)(bv:Bp (2*R+3*E+3*K+2011) v){I:Nat}(hI:∀r,eB r (llq a.rs).length<=K->iB r (llq a.rs).length (24*E+18*K+16085)<=I)(h0:aC (a6 (ah C P) (ah C Q))≠0)(h:30*R+30*E+30*K+I<=199999970000) :
  (FP 245 [a5 a.rs,eP C,eP P] (eP (ah C P)))/\(FP 245 [a5 a.rs,eP C,eP Q] (eP (ah C Q)))/\(FP 245 [a5 a.rs,eP v,eP u] (eP (ah v u))) /\
  (FP 246 [a5 a.rs,eP (ah C P),eP (ah C Q)] (nA (sX (a6 (ah C P) (ah C Q))))) /\
  (FP 247 [a5 a.rs,eP (ah v u),eP (ah C Q)] (nA (sX (aX (ah v u) (ah C Q))))) /\
  (FP 135 [a5 a.rs,nA (sX (aX (ah v u) (ah C Q))),nA (sX (a6 (ah C P) (ah C Q)))] (nA (sX (aX (ah v u) (ah C Q)*iE (a6 (ah C P) (ah C Q)))))) /\
  (FP 243 [a5 a.rs,nA (sX (aX (ah v u) (ah C Q)*iE (a6 (ah C P) (ah C Q)))),eP P,eP u] ((cW (aX (ah v u) (ah C Q)*iE (a6 (ah C P) (ah C Q))) P u).av)) /\
  (FP 247 [a5 a.rs,eP (ah v u),eP (ah C P)] (nA (sX (aX (ah v u) (ah C P))))) /\
  (FP 135 [a5 a.rs,nA (sX (aX (ah v u) (ah C P))),nA (sX (a6 (ah C P) (ah C Q)))] (nA (sX (aX (ah v u) (ah C P)*iE (a6 (ah C P) (ah C Q)))))) /\
  (FP 243 [a5 a.rs,nA (sX (aX (ah v u) (ah C P)*iE (a6 (ah C P) (ah C Q)))),eP Q,eP v] ((cW (aX (ah v u) (ah C P)*iE (a6 (ah C P) (ah C Q))) Q v).av)):=by
 have _:=hV;have _:=hR;obtain⟨r,tw,hK⟩:=A.tw;have tw:Tw (llq a.rs) r:=tw;have hK:eB r (llq a.rs).length<=K:=hK;have h2:(llq a.rs).length<=2:=A.two;have dA:=(bC.sb bP).mono (show 3*E+2*K+2010+(3*E+2*K+2010)+1<=6*E+4*K+4021 by omega);have dB:=(bC.sb bQ).mono (show 3*E+2*K+2010+(3*E+2*K+2010)+1<=6*E+4*K+4021 by omega);have dE:=(bv.sb bu).mono (show 2*R+3*E+3*K+2011+(2*R+3*E+3*K+2011)+1<=4*R+6*E+6*K+4023 by omega);have dD:=Bz.mono (f:=24*E+18*K+16085) (dA.crs tw hK h2 dB) oz;have mA:=dA.mono (show 6*E+4*K+4021<=4*R+6*E+6*K+4023 by omega);have mB:=dB.mono (show 6*E+4*K+4021<=4*R+6*E+6*K+4023 by omega);have f0:=C6 (x:=aX (ah v u) (ah C Q)) tw hK h2 (dE.dot tw hK h2 dB) dD h0 (hI r hK) oz;have f1:=C6 (x:=aX (ah v u) (ah C P)) tw hK h2 (dE.dot tw hK h2 dA) dD h0 (hI r hK) oz;rw[(bZ D.s.tr D.hc).2]
 exact⟨rc tw h2 bC bP oz,rc tw h2 bC bQ oz,rc tw h2 bv bu oz,Fl tw hK h2 dA dB oz,
  B7 tw hK h2 dE mB oz,f0.1,wn tw hK h2 f0.2 bP bu oz,B7 tw hK h2 dE mA oz,f1.1,wn tw hK h2 f1.2 bQ bv oz⟩
theorem X1{n:Nat}{i k z0 z1 z2:Int}{j0 j1 j2:Jt}(hG:(splitG l)[n]?=some ⟨1,[i,k],[z0,z1,z2],0⟩)(hgo:GrOk l ⟨1,[i,k],[z0,z1,z2],0⟩)(P:RrrP 3900000 l a ⟨1,[i,k],[z0,z1,z2],0⟩ i k z0 z1 z2 j0 j1 j2)(ne:i≠k)(own:Pd 3900000 a i)
  {I:Nat} (hI:∀r,eB r (llq a.rs).length<=K->iB r (llq a.rs).length (24*E+18*K+16085)<=I) (hD:aC (lP l (aR a) ⟨1,[i,k],[z0,z1,z2],0⟩)≠0) (h:30*R+30*E+30*K+I<=199999970000) (drv:Int) :
  Con prog 123 [l.av,i64 n,i64 drv,a.av,.ms 1000 3 0 l.bo.length] [pP 1000 (.row 3 (V.map Vt.av))] (.tup []) [pP 1000 (.row 3 ((sK l (aR a) V ⟨1,[i,k],[z0,z1,z2],0⟩).map Vt.av))]:=by
 have hsl:=m6 D.li;have hlj:=D.hl.lj;have hlb:=D.hl.lb;have hj0:=(hgo.j z0 (by simp)).1;have hj1:=(hgo.j z1 (by simp)).1;have hj2:=(hgo.j z2 (by simp)).1;obtain⟨g1,g2⟩:=hgo.b i (by simp);obtain⟨g3,g4⟩:=hgo.b k (by simp);obtain⟨n0,rfl⟩:∃m:Nat,i=(m:Int):=⟨i.toNat,by omega⟩
 obtain⟨n1,rfl⟩:∃m:Nat,k=(m:Int):=⟨k.toNat,by omega⟩
 obtain⟨p,hp,hpn⟩:=own;have hp:a.bs[n0]?=some p:=hp;have q2:=k8 D.hl D.li P.h2 P.t1;obtain⟨e0,e1,e2,b0,b1,_⟩:=P.at;have o0:=oS A hV hR P.h0 n0;have o1:=oS A hV hR P.h1 n1;obtain⟨o2,o3⟩:=cV o0;obtain⟨o4,o5⟩:=cV o1;have bP:=uI A P.h0 n0;have bQ:=uI A P.h1 n1;have bC:=QN A P.h2 P.t1;obtain⟨v0,hv0,c0⟩:=pz D A hV hR o0 bP oz;obtain⟨v1,hv1,c1⟩:=pz D A hV hR o1 bQ oz
 have hD2:aC (a6 (ah (bD a n0 (aO l j2 n0)) (aN l a j0 n0)) (ah (bD a n0 (aO l j2 n0)) (aN l a j1 n1)))≠0:=by
  unfold lP rY rL pR at hD;rw[e0,e1,e2,b0,b1]at hD;rw[rW,kF,kF];exact hD
 obtain⟨s0,s1,s2,s3,s4,s5,s6,s7,s8,s9⟩:=Wp D A hV hR bP bQ bC (qd A hV hR o0 bP) (qd A hV hR o1 bQ) hI hD2 h
 have hpr:∃t0 t1,sK l (aR a) V ⟨1,[(n0:Int),(n1:Int)],[z0,z1,z2],0⟩=(V.set n0 t0).set n1 t1/\t0=cW (aX (ah (cR (cE V (ee j1 n1)) (aN l a j1 n1)) (cR (cE V (ee j0 n0)) (aN l a j0 n0))) (ah (bD a n0 (aO l j2 n0)) (aN l a j1 n1))*iE (a6 (ah (bD a n0 (aO l j2 n0)) (aN l a j0 n0)) (ah (bD a n0 (aO l j2 n0)) (aN l a j1 n1)))) (aN l a j0 n0) (cR (cE V (ee j0 n0)) (aN l a j0 n0)) /\
   t1=cW (aX (ah (cR (cE V (ee j1 n1)) (aN l a j1 n1)) (cR (cE V (ee j0 n0)) (aN l a j0 n0))) (ah (bD a n0 (aO l j2 n0)) (aN l a j0 n0))*iE (a6 (ah (bD a n0 (aO l j2 n0)) (aN l a j0 n0)) (ah (bD a n0 (aO l j2 n0)) (aN l a j1 n1)))) (aN l a j1 n1) (cR (cE V (ee j1 n1)) (aN l a j1 n1)):=by
  refine⟨_,_,?_,rfl,rfl⟩;unfold sK DG Av xg lP rY rL pR jQ;rw[e0,e1,e2,b0,b1,rW,kF,kF];rfl
 obtain⟨t0,t1,hpr,ht0,ht1⟩:=hpr;rw[<- ht0]at s6;rw[<- ht1]at s9;rw[hpr];obtain⟨w0,hw0⟩:=ay (l:=V) (i:=n0) oz;obtain⟨w1,hw1⟩:=ay (l:=V.set n0 t0) (i:=n1) (by rw[agm];omega);clear hD hD2 ht0 ht1 hpr;refine gF func123 (fun k z h=>cO h) ?_;refine gc (jU l D.hl D.li) ?_;refine gi (aq hG) ?_;refine gc (LH D hG hgo P ne) ?_;refine gD ?_;refine gi (rfl) ?_;refine gi (bY (n:=z0.toNat) oz P.h0) ?_;refine gc (vN j0 n0) ?_;refine gs (bi (n:=(ee j0 n0).toNat) (.tmp rfl) (.tmp rfl) T81 rfl T90 rfl oz oz rfl) ?_;refine gs (cF (.tmp rfl) rfl (aq hv0) T90 rfl rfl rfl) ?_;refine gc c0 ?_;refine gD ?_;refine gf ?_;refine gC (fun y=>?_) (fun y=>?_) (st2:=(21,0))
 ·refine gc (yG D hp hpn q2) ?_;refine gc s0 ?_;refine gc s1 ?_;refine gD ?_;refine gi (rfl) ?_;refine gi (bY (n:=z1.toNat) oz P.h1) ?_;refine gc (vN j1 n1) ?_;refine gs (bi (n:=(ee j1 n1).toNat) (.tmp rfl) (.tmp rfl) T81 rfl T90 rfl oz oz rfl) ?_;refine gs (cF (.tmp rfl) rfl (aq hv1) T90 rfl rfl rfl) ?_;refine gc c1 ?_;refine gD ?_;refine gc s2 ?_;refine gc s3 ?_;refine gD ?_;refine gc s4 ?_;refine gc s5 ?_;refine gc s6 ?_;refine gs (bi (n:=n0) (.tmp rfl) (.tmp rfl) T81 rfl T90 rfl oz oz rfl) ?_;refine gs (cw (.tmp rfl) rfl (aq hw0) rfl (.tmp rfl) rfl rfl T90 rfl rfl) ?_;refine gD ?_;refine gc s7 ?_;refine gc s8 ?_;refine gc s9 ?_;refine gs (bi (n:=n1) (.tmp rfl) (.tmp rfl) T81 rfl T90 rfl oz oz rfl) ?_;refine gs (cw (.tmp rfl) rfl (by rw[<- ags (f:=Vt.av)];exact aq hw1) rfl (.tmp rfl) rfl rfl T90 rfl rfl) ?_;refine gD ?_;refine gR ?_;exact aE.one1 rfl UL
 cases y
theorem Kf{P C v f u:P2 (llq a.rs)}(bv:Bp (6*E+4*K+4021) v)(bP:Bp (3*E+2*K+2010) P)(bC:Bp (3*E+2*K+2010) C)(bf:Bp (2*R+3*E+3*K+2011) f)(bu:Bp (2*R+3*E+3*K+2011) u){I:Nat}(hI:∀r,eB r (llq a.rs).length<=K->iB r (llq a.rs).length (24*E+18*K+16085)<=I)(h0:aC (aX v (ah C P))≠0)(h:30*R+30*E+30*K+I<=199999970000) :
  (FP 245 [a5 a.rs,eP C,eP P] (eP (ah C P))) /\
  (FP 247 [a5 a.rs,eP v,eP (ah C P)] (nA (sX (aX v (ah C P))))) /\
  (FP 245 [a5 a.rs,eP f,eP u] (eP (ah f u))) /\
  (FP 246 [a5 a.rs,eP v,eP (ah f u)] (nA (sX (a6 v (ah f u))))) /\
  (FP 135 [a5 a.rs,nA (sX (a6 v (ah f u))),nA (sX (aX v (ah C P)))] (nA (sX (a6 v (ah f u)*iE (aX v (ah C P)))))) /\
  (FP 243 [a5 a.rs,nA (sX (a6 v (ah f u)*iE (aX v (ah C P)))),eP P,eP u] ((cW (a6 v (ah f u)*iE (aX v (ah C P))) P u).av)):=by
 have _:=hV;have _:=hR;obtain⟨r,tw,hK⟩:=A.tw;have tw:Tw (llq a.rs) r:=tw;have hK:eB r (llq a.rs).length<=K:=hK;have h2:(llq a.rs).length<=2:=A.two;have dC:=(bC.sb bP).mono (show 3*E+2*K+2010+(3*E+2*K+2010)+1<=6*E+4*K+4021 by omega);have dU:=(bf.sb bu).mono (show 2*R+3*E+3*K+2011+(2*R+3*E+3*K+2011)+1<=4*R+6*E+6*K+4023 by omega);have dD:=Bz.mono (f:=24*E+18*K+16085) (bv.dot tw hK h2 dC) oz;have mV:=bv.mono (show 6*E+4*K+4021<=4*R+6*E+6*K+4023 by omega);have f0:=C6 (x:=a6 v (ah f u)) tw hK h2 (bv.crs tw hK h2 dU) dD h0 (hI r hK) oz;rw[(bZ D.s.tr D.hc).2];exact⟨rc tw h2 bC bP oz,B7 tw hK h2 bv dC oz,rc tw h2 bf bu oz,Fl tw hK h2 mV dU oz,f0.1,wn tw hK h2 f0.2 bP bu oz⟩
theorem RK{n:Nat}{i z0 z1:Int}{j0 j:Jt}(hG:(splitG l)[n]?=some ⟨2,[i],[z0,z1],0⟩)(hgo:GrOk l ⟨2,[i],[z0,z1],0⟩)(P:SlP 3900000 l a ⟨2,[i],[z0,z1],0⟩ 2 i z0 z1 j0 j)(ha:j.a=i)(hb:Pd 3900000 a j.b)(own:Pd 3900000 a i)
  {I:Nat} (hI:∀r,eB r (llq a.rs).length<=K->iB r (llq a.rs).length (24*E+18*K+16085)<=I) (hD:aC (iU l (aR a) ⟨2,[i],[z0,z1],0⟩)≠0) (h:30*R+30*E+30*K+I<=199999970000) (drv:Int) :
  Con prog 123 [l.av,i64 n,i64 drv,a.av,.ms 1000 3 0 l.bo.length] [pP 1000 (.row 3 (V.map Vt.av))] (.tup []) [pP 1000 (.row 3 ((lR l (aR a) V ⟨2,[i],[z0,z1],0⟩).map Vt.av))]:=by
 have hsl:=m6 D.li;have hlj:=D.hl.lj;have hlb:=D.hl.lb;have hj0:=(hgo.j z0 (by simp)).1;have hj1:=(hgo.j z1 (by simp)).1;obtain⟨g1,g2⟩:=hgo.b i (by simp);obtain⟨n0,rfl⟩:∃m:Nat,i=(m:Int):=⟨i.toNat,by omega⟩
 obtain⟨p,hp,hpn⟩:=own;have hp:a.bs[n0]?=some p:=hp;obtain⟨i1,i2,i3,i4,i5⟩:=bS D.li P.h1;have i5:=i5 P.hk;have q2:Sm 1000 (aJ l n0 j.point):=by rw[<- ha];exact iT D.hl D.li i1 i3
 obtain⟨e0,e1,b0,_⟩:=P.at;have o0:=oS A hV hR P.h0 n0;obtain⟨o2,o3⟩:=cV o0;obtain⟨o4,o5⟩:=cV i2;have bP:=uI A P.h0 n0;have bC:Bp (3*E+2*K+2010) (bD a n0 (aJ l n0 j.point)):=by rw[<- ha];exact uD A i1 i3
 have bv:=((B0 A i2 i5).sb (B0 A i2 i4)).mono (show 3*E+2*K+2010+(3*E+2*K+2010)+1<=6*E+4*K+4021 by omega);obtain⟨v0,hv0,c0⟩:=pz D A hV hR o0 bP oz;obtain⟨v1,hv1,c1⟩:=pz D A hV hR i2 bC oz
 have hD2:aC (aX (ah (bb l a j.b j.to) (bb l a j.b j.on)) (ah (bD a n0 (aJ l n0 j.point)) (aN l a j0 n0)))≠0:=by
  unfold iU i7 fq at hD;rw[e0,e1,b0,agz rfl]at hD;rw[rW,kF,gS,gS];exact hD
 obtain⟨s0,s1,s2,s3,s4,s5⟩:=Kf D A hV hR bv bP bC (qd A hV hR i2 bC) (qd A hV hR o0 bP) hI hD2 h
 have hpr:∃t0,lR l (aR a) V ⟨2,[(n0:Int)],[z0,z1],0⟩=V.set n0 t0/\t0=cW (a6 (ah (bb l a j.b j.to) (bb l a j.b j.on)) (ah (cR (cE V j.b) (bD a n0 (aJ l n0 j.point))) (cR (cE V (ee j0 n0)) (aN l a j0 n0)))*iE (aX (ah (bb l a j.b j.to) (bb l a j.b j.on)) (ah (bD a n0 (aJ l n0 j.point)) (aN l a j0 n0)))) (aN l a j0 n0) (cR (cE V (ee j0 n0)) (aN l a j0 n0)):=by
  refine⟨_,?_,rfl⟩;unfold lR ud qg qT iU i7 fq jQ;rw[e0,e1,b0,agz rfl,agz rfl,rW,kF,gS,gS];rfl
 obtain⟨t0,hpr,ht0⟩:=hpr;rw[<- ht0]at s5;rw[hpr];obtain⟨w0,hw0⟩:=ay (l:=V) (i:=n0) oz;clear hD hD2 ht0 hpr;refine gF func123 (fun k z h=>cO h) ?_;refine gc (jU l D.hl D.li) ?_;refine gi (aq hG) ?_;refine gc (I4 D hG hgo P ha hb) ?_;refine gD ?_;refine gi (rfl) ?_;refine gi (bY (n:=z0.toNat) oz P.h0) ?_;refine gc (vN j0 n0) ?_;refine gs (bi (n:=(ee j0 n0).toNat) (.tmp rfl) (.tmp rfl) T81 rfl T90 rfl oz oz rfl) ?_;refine gs (cF (.tmp rfl) rfl (aq hv0) T90 rfl rfl rfl) ?_;refine gc c0 ?_;refine gD ?_;refine gf ?_;refine gf ?_;refine gC (fun y=>?_) (fun y=>?_) (st2:=(5,0))
 ·refine gc (yG D hp hpn q2) ?_;refine gi (rfl) ?_;refine gi (bY (n:=z1.toNat) oz P.h1) ?_;refine gs (bi (n:=j.b.toNat) (.tmp rfl) (.tmp rfl) T81 rfl T90 rfl oz oz rfl) ?_;refine gs (cF (.tmp rfl) rfl (aq hv1) T90 rfl rfl rfl) ?_;refine gc c1 ?_;refine gD ?_;refine gc s2 ?_;refine gc s3 ?_;refine gD ?_;refine gc s0 ?_;refine gc s1 ?_;refine gc s4 ?_;refine gc s5 ?_;refine gs (bi (n:=n0) (.tmp rfl) (.tmp rfl) T81 rfl T90 rfl oz oz rfl) ?_;refine gs (cw (.tmp rfl) rfl (aq hw0) rfl (.tmp rfl) rfl rfl T90 rfl rfl) ?_;refine gD ?_;refine gR ?_;exact aE.one1 rfl Ef
 cases y
theorem US{n:Nat}{i z0 z1:Int}{j0 j:Jt}(hG:(splitG l)[n]?=some ⟨3,[i],[z0,z1],0⟩)(hgo:GrOk l ⟨3,[i],[z0,z1],0⟩)(P:SlP 3900000 l a ⟨3,[i],[z0,z1],0⟩ 3 i z0 z1 j0 j)(hj:j.b=i)(hb:Pd 3900000 a j.a)(own:Pd 3900000 a i)
  {I:Nat} (hI:∀r,eB r (llq a.rs).length<=K->iB r (llq a.rs).length (24*E+18*K+16085)<=I) (hD:aC (iU l (aR a) ⟨3,[i],[z0,z1],0⟩)≠0) (h:30*R+30*E+30*K+I<=199999970000) (drv:Int) :
  Con prog 123 [l.av,i64 n,i64 drv,a.av,.ms 1000 3 0 l.bo.length] [pP 1000 (.row 3 (V.map Vt.av))] (.tup []) [pP 1000 (.row 3 ((lR l (aR a) V ⟨3,[i],[z0,z1],0⟩).map Vt.av))]:=by
 have hsl:=m6 D.li;have hlj:=D.hl.lj;have hlb:=D.hl.lb;have hj0:=(hgo.j z0 (by simp)).1;have hj1:=(hgo.j z1 (by simp)).1;obtain⟨g1,g2⟩:=hgo.b i (by simp);obtain⟨n0,rfl⟩:∃m:Nat,i=(m:Int):=⟨i.toNat,by omega⟩
 obtain⟨p,hp,hpn⟩:=own;have hp:a.bs[n0]?=some p:=hp;obtain⟨i1,i2,i3,i4,i5⟩:=bS D.li P.h1;have i5:=i5 P.hk;have q1:Sm 1000 (aJ l n0 j.on):=by rw[<- hj];exact iT D.hl D.li i2 i4
 have q2:Sm 1000 (aJ l n0 j.to):=by rw[<- hj];exact iT D.hl D.li i2 i5
 obtain⟨e0,e1,b0,_⟩:=P.at;have o0:=oS A hV hR P.h0 n0;obtain⟨o2,o3⟩:=cV o0;obtain⟨o4,o5⟩:=cV i1;have bP:=uI A P.h0 n0;have bC:=B0 A i1 i3;have bM:Bp (3*E+2*K+2010) (bD a n0 (aJ l n0 j.to)):=by rw[<- hj];exact uD A i2 i5
 have bL:Bp (3*E+2*K+2010) (bD a n0 (aJ l n0 j.on)):=by rw[<- hj];exact uD A i2 i4
 have bv:=(bM.sb bL).mono (show 3*E+2*K+2010+(3*E+2*K+2010)+1<=6*E+4*K+4021 by omega);obtain⟨v0,hv0,c0⟩:=pz D A hV hR o0 bP oz;obtain⟨v1,hv1,c1⟩:=pz D A hV hR i1 bC oz;have eM:bD a n0 (aJ l n0 j.to)=bb l a j.b j.to:=by rw[hj];rfl
 have eL:bD a n0 (aJ l n0 j.on)=bb l a j.b j.on:=by rw[hj];rfl
 have hD2:aC (aX (ah (bD a n0 (aJ l n0 j.to)) (bD a n0 (aJ l n0 j.on))) (ah (bb l a j.a j.point) (aN l a j0 n0)))≠0:=by
  unfold iU i7 fq at hD;rw[e0,e1,b0,agy (show ¬(3:Int)=2 by decide)]at hD;rw[eM,eL,kF,gS,gS,gS];exact hD
 obtain⟨s0,s1,s2,s3,s4,s5⟩:=Kf D A hV hR bv bP bC (qd A hV hR i1 bC) (qd A hV hR o0 bP) hI hD2 h
 have sw:FP 245 [a5 a.rs,eP (bD a n0 (aJ l n0 j.to)),eP (bD a n0 (aJ l n0 j.on))] (eP (ah (bD a n0 (aJ l n0 j.to)) (bD a n0 (aJ l n0 j.on)))):=by
  obtain⟨r,tw,hK⟩:=A.tw;have h9:=rc (ts:=llq a.rs) tw A.two bM bL oz;rw[<- (bZ D.s.tr D.hc).2]at h9;exact h9
 have hpr:∃t0,lR l (aR a) V ⟨3,[(n0:Int)],[z0,z1],0⟩=V.set n0 t0/\t0=cW (a6 (ah (bD a n0 (aJ l n0 j.to)) (bD a n0 (aJ l n0 j.on))) (ah (cR (cE V j.a) (bb l a j.a j.point)) (cR (cE V (ee j0 n0)) (aN l a j0 n0)))*iE (aX (ah (bD a n0 (aJ l n0 j.to)) (bD a n0 (aJ l n0 j.on))) (ah (bb l a j.a j.point) (aN l a j0 n0)))) (aN l a j0 n0) (cR (cE V (ee j0 n0)) (aN l a j0 n0)):=by
  refine⟨_,?_,rfl⟩;unfold lR ud qg qT iU i7 fq jQ;rw[e0,e1,b0,agy (show ¬(3:Int)=2 by decide),agy (show ¬(3:Int)=2 by decide),eM,eL,kF,gS,gS,gS];rfl
 obtain⟨t0,hpr,ht0⟩:=hpr;rw[<- ht0]at s5;rw[hpr];obtain⟨w0,hw0⟩:=ay (l:=V) (i:=n0) oz;clear hD hD2 ht0 hpr eM eL;refine gF func123 (fun k z h=>cO h) ?_;refine gc (jU l D.hl D.li) ?_;refine gi (aq hG) ?_;refine gc (Ht D hG hgo P hj hb) ?_;refine gD ?_;refine gi (rfl) ?_;refine gi (bY (n:=z0.toNat) oz P.h0) ?_;refine gc (vN j0 n0) ?_;refine gs (bi (n:=(ee j0 n0).toNat) (.tmp rfl) (.tmp rfl) T81 rfl T90 rfl oz oz rfl) ?_;refine gs (cF (.tmp rfl) rfl (aq hv0) T90 rfl rfl rfl) ?_;refine gc c0 ?_;refine gD ?_;refine gf ?_;refine gf ?_;refine gf ?_;refine gc (yG D hp hpn q2) ?_;refine gc (yG D hp hpn q1) ?_;refine gc sw ?_;refine gD ?_;refine gi (rfl) ?_;refine gi (bY (n:=z1.toNat) oz P.h1) ?_;refine gs (bi (n:=j.a.toNat) (.tmp rfl) (.tmp rfl) T81 rfl T90 rfl oz oz rfl) ?_;refine gs (cF (.tmp rfl) rfl (aq hv1) T90 rfl rfl rfl) ?_;refine gc c1 ?_;refine gD ?_;refine gc s2 ?_;refine gc s3 ?_;refine gD ?_;refine gc s0 ?_;refine gc s1 ?_;refine gc s4 ?_;refine gc s5 ?_;refine gs (bi (n:=n0) (.tmp rfl) (.tmp rfl) T81 rfl T90 rfl oz oz rfl) ?_;refine gs (cw (.tmp rfl) rfl (aq hw0) rfl (.tmp rfl) rfl rfl T90 rfl rfl) ?_;refine gD ?_;refine gR ?_;exact aE.one1 rfl Ef
theorem Tp{n:Nat}{i z0 d:Int}{j0:Jt}(hG:(splitG l)[n]?=some ⟨0,[i],[z0],d⟩)(hgo:GrOk l ⟨0,[i],[z0],d⟩)(h0:l.jo[z0.toNat]?=some j0)(p0:PinP 3900000 l a j0 i)
  (h:30*R+30*E+30*K<=199999970000) (drv:Int) :
  Con prog 123 [l.av,i64 n,i64 drv,a.av,.ms 1000 3 0 l.bo.length] [pP 1000 (.row 3 (V.map Vt.av))] (.tup []) [pP 1000 (.row 3 ((sN l (aR a) drv V ⟨0,[i],[z0],d⟩).map Vt.av))]:=by
 have hsl:=m6 D.li;have hlj:=D.hl.lj;have hlb:=D.hl.lb;have hj0:=(hgo.j z0 (by simp)).1;obtain⟨g1,g2⟩:=hgo.b i (by simp);obtain⟨n0,rfl⟩:∃m:Nat,i=(m:Int):=⟨i.toNat,by omega⟩
 have e0:an l ⟨0,[(n0:Int)],[z0],d⟩ 0=j0:=ax h0;have o0:=oS A hV hR h0 n0;obtain⟨o2,o3⟩:=cV o0;have bP:=uI A h0 n0;obtain⟨v0,hv0,c0⟩:=pz D A hV hR o0 bP oz;have bu:=qd A hV hR o0 bP
 have sr:FP 243 [a5 a.rs,nA (sX (wD ⟨0,[(n0:Int)],[z0],d⟩ drv:Et (llq a.rs))),eP (aN l a j0 n0),eP (cR (cE V (ee j0 n0)) (aN l a j0 n0))] ((cW (wD ⟨0,[(n0:Int)],[z0],d⟩ drv:Et (llq a.rs)) (aN l a j0 n0) (cR (cE V (ee j0 n0)) (aN l a j0 n0))).av):=by
  obtain⟨r,tw,hK⟩:=A.tw;have tw:Tw (llq a.rs) r:=tw;have h9:=wn (ts:=llq a.rs) tw hK A.two (yp tw.five ⟨0,[(n0:Int)],[z0],d⟩ drv) bP bu oz;rw[<- (bZ D.s.tr D.hc).2]at h9;exact h9
 have hpr:∃t0 w1,sN l (aR a) drv V ⟨0,[(n0:Int)],[z0],d⟩=V.set n0 t0/\w1=(wD ⟨0,[(n0:Int)],[z0],d⟩ drv:Et (llq a.rs))/\t0=cW w1 (aN l a j0 n0) (cR (cE V (ee j0 n0)) (aN l a j0 n0)):=by
  refine⟨_,_,?_,rfl,rfl⟩;unfold sN jQ;rw[e0,kF];rfl
 obtain⟨t0,w1,hpr,hw1,ht0⟩:=hpr;rw[<- hw1,<- ht0]at sr;rw[hpr];obtain⟨w0,hw0⟩:=ay (l:=V) (i:=n0) oz;clear ht0 hpr;refine gF func123 (fun k z h=>cO h) ?_;refine gc (jU l D.hl D.li) ?_;refine gi (aq hG) ?_;refine gc (I7 D hG hgo h0 p0) ?_;refine gD ?_;refine gi (rfl) ?_;refine gi (bY (n:=z0.toNat) oz h0) ?_;refine gc (vN j0 n0) ?_;refine gs (bi (n:=(ee j0 n0).toNat) (.tmp rfl) (.tmp rfl) T81 rfl T90 rfl oz oz rfl) ?_;refine gs (cF (.tmp rfl) rfl (aq hv0) T90 rfl rfl rfl) ?_;refine gc c0 ?_;refine gD ?_;refine gC (fun y=>?_) (fun y=>?_) (st2:=(14,0))
 ·refine tb [13,14,15] [13,14,15,1000] [pP 4 (.ms 1000 3 0 l.bo.length),pP 16 (nA (sX w1))] [] (True) ?_ ?_
  ·intro K1 J1;refine gC (fun y=>?_) (fun y=>?_)
   ·have hw:w1=qE ((1:Int):Rat):=by rw[hw1]; exact agz (cB y)
    refine gc (Bh 1 oz) ?_;exact jx J1 trivial (hw:=Wk.of (.k (.cons rfl (Sub.of (by rw[hw,yj])) (.k (.k (.k .nil))))) (.k (.k (.k (.k .nil)))))
   have hw:w1=0:=by rw[hw1];exact agy (cU y)
   exact jx J1 trivial (hw:=Wk.of (.k (.cons rfl (by rw[hw,uX];exact Sub.nil _ none 0) (.k (.k (.k .nil))))) (.k (.k (.k (.k .nil)))))
  rintro -;refine gc sr ?_;refine gs (bi (n:=n0) (.tmp rfl) (.tmp rfl) T81 rfl T90 rfl oz oz rfl) ?_;refine gs (cw (.tmp rfl) rfl (aq hw0) rfl (.tmp rfl) rfl rfl T90 rfl rfl) ?_;refine gD ?_;refine gR ?_;exact aE.one1 rfl Ef
 cases y
end
theorem YV{α:Type}{x:α}{i:Nat}(h:i=0):[x][i]?=some x:=by subst h;rfl
theorem Wx{l:Li}{a:As}(hg:Good l a)(h2:(llq a.rs).length<=2):DyS a:=by
 refine⟨hg.al.tr.mono oz oz,fun _=>h2,fun _=>⟨⟨40000,hg.tw.1,?_⟩,by omega,by omega,by omega,by omega⟩⟩;have h:=jX 40000 h2;have h3:eB 40000 2=120006:=by decide
 omega
theorem Hy{l:Li}{a:As}(hg:Good l a)(h2:(llq a.rs).length<=2):DyR l a:=⟨⟨hg.lo,hg.li,hg.al.ab,hg.ck⟩,Wx hg h2⟩
theorem KX{l:Li}{a:As}(hg:Good l a)(hs:splitE l=0){k:Nat}{g:Gr}(hk:(splitG l)[k]?=some g):DyOk 3900000 l k a true k g:=by
 obtain⟨n,g',ok⟩:=CA (hg.al.sma l k true) (YU hg hs (adw.1 hk).1 true);have e:n=k:=by have:=ok.hk;omega
 subst e;have h2:=ok.hg;rw[hk]at h2;cases h2;exact ok
theorem Xf(l:Li)(a:As)(g:Gr):kQ l a g=j9 l (aR a) g:=by
 unfold kQ j9;split
 ·rfl
 ·rw[M4];rfl
theorem abd{l:Li}{a:As}(hg:Good l a)(h2:(llq a.rs).length<=2)(hs:splitE l=0){k:Nat}{g:Gr}(hk:(splitG l)[k]?=some g) :
  FP 352 [l.av,i64 k,a.av] (iI l (aR a) g):=by
 have h:=Rg (Hy hg h2) (KX hg hs hk);rw[Xf]at h;exact h
theorem Pg{l:Li}{a:As}(hg:Good l a)(h2:(llq a.rs).length<=2)(hs:splitE l=0){k:Nat}{g:Gr}(hk:(splitG l)[k]?=some g) :
  FP 33 [a5 a.rs,iI l (aR a) g] (i64 (aC (de l (aR a).ts (aR a).bs g))):=by
 have hn:=Gx hg.lo (Iw hg h2) hs hk;have hlm:=fP h2;have h:=BJ (ts:=(aR a).ts) hg.tw.1 hn (by show _<=lm (llq a.rs).length;omega);rw[Nd]at h;rw[hg.tw.2.1];exact h
theorem N2(l:Li)(hl:l.ok)(xs:List Tn)(hx:∀x∈xs,x.t.ok/\Qb 1000 x.t.q)(hxl:xs.length<=281474976710656)(a:As)(ha:AL a) :
  FP 38 [l.av,.lst 4 (xs.map Tn.av),.lst 3 [a.av]] (i64 (d8 l xs a)):=by
 refine ai func38 ?_;refine gc (BL l hl) ?_;refine gC (fun z=>?_) (fun z=>?_)
 ·have h1:=eF z;refine af ?_;rw[BO h1]
 have h1:=eR z;refine gc (jU l hl h1) ?_;refine gC (fun z=>?_) (fun z=>?_)
 ·have h2:=eF z;refine af ?_;rw[ER h1 h2]
 have h2:=eR z;refine gc (aaa l hl xs (fun x h9=>(hx x h9).1) hxl) ?_;refine gC (fun z=>?_) (fun z=>?_)
 ·have h3:=eF z;refine af ?_;rw[Do h1 h2 h3]
 have h3:=eR z;refine ge rfl ?_;refine aL [1,3,32,33] [3] (fun(i:Nat)=>[pP 34 (i64 i)]) (fun _=>[]) (fun i=>i<=1/\(0<i->(cA l xs a).1=0)) (fun i=>1-i) 0 ⟨afz _,fun h=>ag5 h oz⟩ ?_;rintro i ⟨hi,hj⟩ K1 J1;refine gC (fun z=>?_) (fun z=>?_)
 ·have hin:i<1:=aY (b:=1) z;have hi0:i=0:=by omega
  obtain⟨_,hb1,hb2⟩:=RN h3;refine gi (YV hi0) ?_;refine gc (RU hl h1 xs (fun x h9=>⟨(hx x h9).1,hb2 x h9,(hx x h9).2⟩) hb1 ha) ?_;refine gs (WD (o:=0) (.tmp rfl) rfl (by kernel_rfl) rfl) ?_;refine gC (fun z=>?_) (fun z=>?_)
  ·have h4:(cA l xs a).1≠0:=eF z;refine af ?_;rw[Ar h1 h2 h3 h4];rfl
  have h4:(cA l xs a).1=0:=eR z;refine ga aK ?_;exact aH J1 (i+1) ⟨hin,fun _=>h4⟩
 have h4:(cA l xs a).1=0:=hj (by have:=a7 (b:=1) hi z;omega);refine af ?_;rw[zU h1 h2 h3 h4];rfl
theorem Zy{l:Li}{a:As}(hg:Good l a)(h2:(llq a.rs).length<=2)(hs:splitE l=0):FP 239 [l.av,a.av] (.lst 1 ((splitG l).map (iI l (aR a)))):=by
 have hgl:=nD hg.li;refine ai func239 ?_;refine gc (jU l hg.lo hg.li) ?_;refine gl ?_;refine gW (Wk.virt 900 1 rfl) ?_;refine aL [2,3,15] [2,3] (fun(i:Nat)=>[pP 7 (.ms 900 1 0 i),pP 16 (i64 i)]) (fun i=>[pP 900 (.row 1 (((splitG l).take i).map (iI l (aR a))))]) (fun i=>i<=(splitG l).length) (fun i=>(splitG l).length-i) 0 (afz _) ?_;rintro i hi K1 J1;refine gC (fun z=>?_) (fun z=>?_) (st2:=(8,0))
 ·have hin:i<(splitG l).length:=aY z;obtain⟨g,hgk⟩:=ay hin;refine gc (abd hg h2 hs hgk) ?_;refine gs (eg (.tmp rfl) rfl (yP oz).symm (.tmp rfl) T42 rfl T53 rfl rfl (by simp only[af9,agj];omega) rfl rfl) ?_ (7,0);refine gW (Wk.of (sl:=[pP 2 (.ptr 2 0),pP 3 (.ptr 3 0),pP 7 (.ms 25 1 0 (i+1)),pP 15 (i64 (splitG l).length),pP 16 (i64 i)]) (hp:=[pP 2 (.box l.av.cells),pP 3 (.box a.av.cells),pP 25 (.row 1 (((splitG l).take (i+1)).map (iI l (aR a))))]) bj (.k (.k (.cons rfl (BlkSub.of (by rw[eH hgk,agc];rfl)) .nil)))) ?_ (7,0);refine gW (Wk.rk (k:=25) (d:=900) rfl rfl) ?_;refine ga aK ?_;exact aH J1 (i+1) hin
 have hin:=a7 hi z;subst hin;refine gW ((Wk.freeze (k:=900) rfl).trans<|Wk.of (sl:=[pP 7 (.lst 1 ((splitG l).map (iI l (aR a))))]) (hp:=[]) (.cons rfl (Sub.of (by rw[cz (yP (afq _)).symm,af1])) .nil) .nil) ?_;refine af ?_;rfl
theorem XF{l:Li}{a:As}(hg:Good l a)(h2:(llq a.rs).length<=2)(hs:splitE l=0):FP 122 [l.av,a.av] (.lst 1 ((cM l (aR a) (splitG l).length).map i64)):=by
 have hgl:=nD hg.li;refine ai func122 ?_;refine gc (Zy hg h2 hs) ?_;refine gl ?_;refine gW (Wk.virt 900 1 rfl) ?_;refine aL [3,10,11] [3] (fun(i:Nat)=>[pP 5 (.ms 900 1 0 (cM l (aR a) i).length),pP 12 (i64 i)]) (fun i=>[pP 900 (.row 1 ((cM l (aR a) i).map i64))]) (fun i=>i<=(splitG l).length) (fun i=>(splitG l).length-i) 0 (afz _) ?_;rintro i hi K1 J1;refine gC (fun z=>?_) (fun z=>?_) (st2:=(8,0))
 ·have hin:i<(splitG l).length:=aY z;obtain⟨g,hgk⟩:=ay hin;have hsl:=xL l (aR a) i;refine gi (aq hgk) ?_;refine gc (Pg hg h2 hs hgk) ?_;refine gC (fun z=>?_) (fun z=>?_) (st2:=(77777,0))
  ·have hz:aC (de l (aR a).ts (aR a).bs g)=0:=ag1 z;refine gs (eg (.tmp rfl) rfl (by simp) (.tmp rfl) T46 rfl T3 rfl rfl (by simp only [af9,agj]; omega) rfl rfl) ?_ (7,0);refine gW (Wk.of (sl:=[pP 3 (.ptr 3 0),pP 5 (.ms 25 1 0 (cM l (aR a) (i+1)).length),pP 10 (.lst 1 ((splitG l).map (iI l (aR a)))),pP 11 (i64 (splitG l).length),pP 12 (i64 i)]) (hp:=[pP 3 (.box a.av.cells),pP 25 (.row 1 ((cM l (aR a) (i+1)).map i64))]) (.k (.cons rfl (Sub.of (by rw[yA hgk hz]; simp)) (.k (.k (.k .nil))))) (.k (.cons rfl (BlkSub.of (by rw[yA hgk hz]; simp)) .nil))) ?_ (7,0)
   refine gW (Wk.rk (k:=25) (d:=900) rfl rfl) ?_;refine ga aK ?_;exact aH J1 (i+1) hin
  have hz:aC (de l (aR a).ts (aR a).bs g)≠0:=ag2 z;refine gW (Wk.of (sl:=[pP 3 (.ptr 3 0),pP 5 (.ms 900 1 0 (cM l (aR a) (i+1)).length),pP 10 (.lst 1 ((splitG l).map (iI l (aR a)))),pP 11 (i64 (splitG l).length),pP 12 (i64 i)]) (hp:=[pP 3 (.box a.av.cells),pP 900 (.row 1 ((cM l (aR a) (i+1)).map i64))]) (.k (.cons rfl (Sub.of (by rw[zx hgk hz])) (.k (.k (.k .nil))))) (.k (.cons rfl (BlkSub.of (by rw[zx hgk hz])) .nil))) ?_
  refine ga aK ?_;exact aH J1 (i+1) hin
 have hin:=a7 hi z;subst hin;refine gW ((Wk.freeze (k:=900) rfl).trans<|Wk.of (sl:=[pP 5 (.lst 1 ((cM l (aR a) (splitG l).length).map i64))]) (hp:=[]) (.cons rfl (Sub.of (by rw[cz (by simp)])) .nil) .nil) ?_;refine af ?_;rfl
def Dq(l:Li)(a:Aq)(g:Gr):Prop:=(g.kind=1->aC (lP l a g)≠0)/\(g.kind≠0->g.kind≠1->aC (iU l a g)≠0)
theorem Fz{l:Li}{a:Aq}(hp:fC a.ts)(hJ:∀j∈l.jo,JH l a.ts a.bs j){g:Gr}(D:DyK l g)(hd:g.kind≠0->aC (de l a.ts a.bs g)≠0):Dq l a g:=by
 cases D with
 | @drv b z d j x t d0 hx hb=>exact⟨fun h=>ag5 h (by show ¬(0:Int)=1;decide),fun h=>ag5 rfl h⟩
 | @rrr i k z0 z1 z2 a0 a1 a2 ne t0 t1 p2 h2 kd tie =>
  have e0:an l ⟨1,[i,k],[z0,z1,z2],0⟩ 0=a0:=ax t0.hj;have e1:an l ⟨1,[i,k],[z0,z1,z2],0⟩ 1=a1:=ax t1.hj;have e2:an l ⟨1,[i,k],[z0,z1,z2],0⟩ 2=a2:=ax h2;obtain⟨q1,q2⟩:=EL hp hJ (g:=⟨1,[i,k],[z0,z1,z2],0⟩) rfl (n0:=z0.toNat) (n1:=z1.toNat) (n2:=z2.toNat) (by rw[e0];exact t0.hj) (by rw[e0];exact t0.kd) (by rw[e1];exact t1.hj) (by rw[e1];exact t1.kd) (by rw[e2];exact h2) (by rw[e2];exact kd) (by rw[e2];rcases tie with h |h;exact .inl h.1;exact .inr h.1);exact⟨fun _=>by rw[mS hp (q1.symm.trans q2)];exact hd (by show(1:Int)≠0;decide),fun _ h=>ag5 rfl h⟩
 | @pr i z0 z1 a0 a1 t0 t1 ha =>
  have e0:an l ⟨2,[i],[z0,z1],0⟩ 0=a0:=ax t0.hj;have e1:an l ⟨2,[i],[z0,z1],0⟩ 1=a1:=ax t1.hj;obtain⟨q0,q1,q2⟩:=vm hp hJ (g:=⟨2,[i],[z0,z1],0⟩) (n0:=z0.toNat) (n1:=0) (by show(2:Int)≠0;decide) (by show(2:Int)≠1;decide) (by rw[e0];exact t0.hj) (by rw[e0];exact t0.kd) (fun _=>by rw[e1];exact ha);exact⟨fun h=>ag5 h (by show ¬(2:Int)=1;decide),fun _ _=>by rw[mS hp (q1.symm.trans q2)];exact hd (by show(2:Int)≠0;decide)⟩
 | @rp i z0 z1 a0 a1 t0 t1 ha =>
  have e0:an l ⟨3,[i],[z0,z1],0⟩ 0=a0:=ax t0.hj;obtain⟨q0,q1,q2⟩:=vm hp hJ (g:=⟨3,[i],[z0,z1],0⟩) (n0:=z0.toNat) (n1:=0) (by show(3:Int)≠0;decide) (by show(3:Int)≠1;decide) (by rw[e0];exact t0.hj) (by rw[e0];exact t0.kd) (fun h=>ag5 h (by show ¬(3:Int)=2;decide));exact⟨fun h=>ag5 h (by show ¬(3:Int)=1;decide),fun _ _=>by rw[mS hp (q1.symm.trans q2)];exact hd (by show(3:Int)≠0;decide)⟩
section
variable{E K:Nat}{l:Li}{a:Aq}(A:AqV E K l a){V:List (Vt a.ts)}(hV:V.length=l.bo.length){R:Nat}(hR:∀v∈V,Bv R v){I:Nat}(hI:∀r,eB r a.ts.length<=K->iB r a.ts.length (24*E+18*K+16085)<=I)
include A hV hR
theorem AM{b:Int}(hb:aT b l.bo.length=true){p:P2 a.ts}(hp:Bp (3*E+2*K+2010) p):Bp (2*R+3*E+3*K+2011) (cR (cE V b) p):=by
 obtain⟨r,tw,hK⟩:=A.tw;exact((ru A hV hR hb).at tw hK hp).mono oz
theorem v8{n:Nat}{j:Jt}(hj:l.jo[n]?=some j)(b:Int):Bp (2*R+3*E+3*K+2011) (jQ l a V j b):=AM A hV hR (oS A hV hR hj b) (qc A hj b)
include hI
theorem Se{g:Gr}(D:DyK l g)(hd:Dq l a g)(drv:Int)(h:30*R+30*E+30*K+I<=199999970000):(fK l a drv V g).length=l.bo.length/\∀v∈fK l a drv V g,Bv (vR E K I R) v:=by
 obtain⟨r,tw,hK⟩:=A.tw;have hRR:R<=vR E K I R:=by unfold vR;omega
 cases D with
 | @drv b z d j x t d0 hx hb =>
  have e0:an l ⟨0,[b],[z],d⟩ 0=j:=ax t.hj;unfold fK;rw[agz rfl];unfold sN;rw[e0];exact⟨by rw[agm];exact hV,lX hR hRR ((ul tw hK (yp tw.five _ drv) (qc A t.hj b) (v8 A hV hR t.hj b)).mono (by unfold vR;omega)) _⟩
 | @rrr i k z0 z1 z2 a0 a1 a2 ne t0 t1 p2 h2 kd tie =>
  have e0:an l ⟨1,[i,k],[z0,z1,z2],0⟩ 0=a0:=ax t0.hj;have e1:an l ⟨1,[i,k],[z0,z1,z2],0⟩ 1=a1:=ax t1.hj;have e2:an l ⟨1,[i,k],[z0,z1,z2],0⟩ 2=a2:=ax h2;have hd:=hd.1 rfl
  have bC:Bp (3*E+2*K+2010) (pR l a ⟨1,[i,k],[z0,z1,z2],0⟩):=by
   obtain⟨i1,i2,i3,i4,_⟩:=bS A.li h2;unfold pR;rw[e2];show Bp _ (iJ a.ts (a.bs.getD i.toNat fZ) (aO l a2 i));unfold aO
   by_cases e:a2.a=i
   ·rw[agz e];subst e;exact A.pt i1 i3
   ·rw[agy e];have e9:a2.b=i:=by rcases tie with h9 | h9; exact ag5 h9.1 e; exact h9.1
    subst e9;exact A.pt i2 i4
  unfold lP rY rL at hd;rw[e0,e1]at hd;have hb:=IU A hV hR hI (qc A t0.hj i) (qc A t1.hj k) bC (v8 A hV hR t0.hj i) (v8 A hV hR t1.hj k) hd h;unfold fK;rw[agy (show ¬(1:Int)=0 by decide),agz rfl];unfold sK DG Av xg lP rY rL;rw[e0,e1];refine⟨by rw[agm,agm];exact hV,lX (lX hR hRR hb.1 _) (afq _) hb.2 _⟩
 | @pr i z0 z1 a0 a1 t0 t1 ha =>
  have e0:an l ⟨2,[i],[z0,z1],0⟩ 0=a0:=ax t0.hj;have e1:an l ⟨2,[i],[z0,z1],0⟩ 1=a1:=ax t1.hj;obtain⟨i1,i2,i3,i4,i5⟩:=bS A.li t1.hj;have i5:=i5 (by rw[t1.kd];decide);have hd:=hd.2 (by show(2:Int)≠0;decide) (by show(2:Int)≠1;decide)
  have bC:Bp (3*E+2*K+2010) (i7 l a ⟨2,[i],[z0,z1],0⟩):=by
   unfold i7;rw[agz rfl,e1];show Bp _ (iJ a.ts (a.bs.getD i.toNat fZ) (aJ l i a1.point));rw[<- ha];exact A.pt i1 i3
  unfold iU fq at hd;rw[e0,e1]at hd;have hb:=ya A hV hR hI (((A.pt i2 i5).sb (A.pt i2 i4)).mono (show _<=6*E+4*K+4021 by omega)) (qc A t0.hj i) bC (AM A hV hR i2 bC) (v8 A hV hR t0.hj i) hd h;unfold fK;rw[agy (show ¬(2:Int)=0 by decide),agy (show ¬(2:Int)=1 by decide)];unfold lR ud qg qT iU fq;rw[agz rfl,e0,e1];exact⟨by rw[agm];exact hV,lX hR hRR hb.2 _⟩
 | @rp i z0 z1 a0 a1 t0 t1 ha =>
  have e0:an l ⟨3,[i],[z0,z1],0⟩ 0=a0:=ax t0.hj;have e1:an l ⟨3,[i],[z0,z1],0⟩ 1=a1:=ax t1.hj;obtain⟨i1,i2,i3,i4,i5⟩:=bS A.li t1.hj;have i5:=i5 (by rw[t1.kd];decide);have hd:=hd.2 (by show(3:Int)≠0;decide) (by show(3:Int)≠1;decide)
  have bC:Bp (3*E+2*K+2010) (i7 l a ⟨3,[i],[z0,z1],0⟩):=by
   unfold i7;rw[agy (show ¬(3:Int)=2 by decide),e1];exact A.pt i1 i3
  unfold iU fq at hd;rw[e0,e1]at hd;have hb:=ya A hV hR hI (((A.pt i2 i5).sb (A.pt i2 i4)).mono (show _<=6*E+4*K+4021 by omega)) (qc A t0.hj i) bC (AM A hV hR i1 bC) (v8 A hV hR t0.hj i) hd h;unfold fK;rw[agy (show ¬(3:Int)=0 by decide),agy (show ¬(3:Int)=1 by decide)];unfold lR ud qg qT iU fq;rw[agy (show ¬(3:Int)=2 by decide),e0,e1];exact⟨by rw[agm];exact hV,lX hR hRR hb.2 _⟩
end
def lV(l:Li)(a:Aq)(drv:Int)(gs:List Gr)(V:List (Vt a.ts)):List (Vt a.ts):=gs.foldl (fK l a drv) V
def u9(l:Li)(a:Aq)(drv:Int):List (Vt a.ts):=lV l a drv (splitG l) (V0 l a.ts)
theorem J8{l:Li}{a:Aq}{drv:Int}{gs:List Gr}{V:List (Vt a.ts)}{i:Nat}{g:Gr}(h:gs[i]?=some g):lV l a drv (gs.take (i+1)) V=fK l a drv (lV l a drv (gs.take i) V) g:=by
 unfold lV;rw[eH h,List.foldl_append];rfl
theorem BA{E K I:Nat}{l:Li}{a:Aq}(A:AqV E K l a)(hI:∀r,eB r a.ts.length<=K->iB r a.ts.length (24*E+18*K+16085)<=I)(hd:∀g∈splitG l,Dq l a g)(drv:Int):∀n,n<=(splitG l).length->(∀m,m<n->30*vB E K I m+30*E+30*K+I<=199999970000) ->
  (lV l a drv ((splitG l).take n) (V0 l a.ts)).length=l.bo.length/\∀v∈lV l a drv ((splitG l).take n) (V0 l a.ts),Bv (vB E K I n) v
 |0,_,_=>by
  obtain⟨r,tw,hK⟩:=A.tw;rw[List.take_zero];refine⟨agl,fun v hv=>?_⟩;have hv:v∈V0 l a.ts:=hv;rw[(ad4.1 hv).2];exact MM tw.five
 |n+1,hn,hm=>by
  obtain⟨g,hg⟩:=ay (l:=splitG l) (i:=n) oz;have hgm:=afl hg;obtain⟨h1,h2⟩:=BA A hI hd drv n oz (fun m h=>hm m oz);rw[J8 hg];exact Se A h1 h2 hI (i9 A.li hgm).1 (hd g hgm) drv (hm n oz)
theorem YA{l:Li}{a:Aq}(hp:fC a.ts)(hJ:∀j∈l.jo,JH l a.ts a.bs j)(hli:ao l=0)(drv:Int)(hd:∀g∈splitG l,g.kind≠0->aC (de l a.ts a.bs g)≠0):VE hp (qX l a drv) (u9 l a drv):=by
 have key:∀(gs:List Gr)(V V':List (Vt a.ts)),(∀g∈gs,g∈splitG l)->VE hp V V'->VE hp (kl l a drv gs V) (lV l a drv gs V'):=by
  intro gs
  induction gs with
  |nil=>intro V V' _ h;exact h
  |cons g gs ih =>
   intro V V' hm h;have hg:=hm g (by simp);exact ih _ _ (fun x hx=>hm x (by simp[hx])) (YF hp hJ h (i9 hli hg).1 drv (hd g hg))
 exact key _ _ _ (fun g h=>h) (VE.rf _)
theorem ZZ{l:Li}{a:As}(hg:Good l a)(h2:(llq a.rs).length<=2)(hs:splitE l=0){V:List (Vt (llq a.rs))}(hV:V.length=l.bo.length){R:Nat}(hR:∀v∈V,Bv R v){E K:Nat}(A:AqV E K l (aR a)){n:Nat}{g:Gr}(hG:(splitG l)[n]?=some g)
  {I:Nat} (hI:∀r,eB r (llq a.rs).length<=K->iB r (llq a.rs).length (24*E+18*K+16085)<=I) (hD:Dq l (aR a) g) (h:30*R+30*E+30*K+I<=199999970000) (drv:Int) :
  Con prog 123 [l.av,i64 n,i64 drv,a.av,.ms 1000 3 0 l.bo.length] [pP 1000 (.row 3 (V.map Vt.av))] (.tup []) [pP 1000 (.row 3 ((fK l (aR a) drv V g).map Vt.av))]:=by
 have ok:=KX hg hs hG;have D:=Hy hg h2;have hgo:=ok.ok
 by_cases h0:g.kind=0
 ·obtain⟨i,z0,d,j0,rfl,hj,hp⟩:=ok.drv h0;have e:fK l (aR a) drv V ⟨0,[i],[z0],d⟩=sN l (aR a) drv V ⟨0,[i],[z0],d⟩:=agz rfl;rw[e];exact Tp D A hV hR hG hgo hj hp oz drv
 ·by_cases h1:g.kind=1
  ·obtain⟨i,k2,z0,z1,z2,j0,j1,j2,P⟩:=ok.rrr h1;obtain rfl:=P.eq;have e:fK l (aR a) drv V ⟨1,[i,k2],[z0,z1,z2],0⟩=sK l (aR a) V ⟨1,[i,k2],[z0,z1,z2],0⟩:=by unfold fK; rw[agy h0,agz h1]
   rw[e];exact X1 D A hV hR hG hgo P ok.ne (ok.own (b:=i) (by simp)) hI (hD.1 rfl) h drv
  ·have hd:=hD.2 h0 h1;have e:fK l (aR a) drv V g=lR l (aR a) V g:=by unfold fK; rw[agy h0,agy h1]
   rw[e]
   by_cases h3:g.kind=2
   ·obtain⟨i,z0,z1,j0,j,P,ha,hb⟩:=ok.pr h3;obtain rfl:=P.eq;exact RK D A hV hR hG hgo P ha hb (ok.own (b:=i) (by simp)) hI hd h drv
   ·obtain⟨i,z0,z1,j0,j,P,_,hj,hb⟩:=ok.rp h0 h1 h3;obtain rfl:=P.eq;exact US D A hV hR hG hgo P hj hb (ok.own (b:=i) (by simp)) hI hd h drv
theorem VK{l:Li}{a:As}{ts:LL}{V V':List (Vt ts)}{n:Nat}{drv:Int}(h:Con prog 123 [l.av,i64 n,i64 drv,a.av,.ms 1000 3 0 l.bo.length] [pP 1000 (.row 3 (V.map Vt.av))] (.tup []) [pP 1000 (.row 3 (V'.map Vt.av))]) :
  Con prog 123 [l.av,i64 n,i64 drv,a.av,.ms 902 3 0 l.bo.length] [pP 902 (.row 3 (V.map Vt.av))] (.tup []) [pP 902 (.row 3 (V'.map Vt.av))]:=Con.pm xE h
def j7(l:Li)(B:Aq)(drv:Int):Nat:=if drv<0\/(l.dv.length:Int)<=drv then 9 else if(cM l B (splitG l).length).length≠0 then 8 else 0
def o8(l:Li)(B:Aq)(drv:Int):List AV:=if j7 l B drv=0 then(u9 l B drv).map Vt.av else[]
theorem Ih{l:Li}{B:Aq}{drv:Int}{e:Nat}(he:j7 l B drv=e)(h:e≠0):Sub (nS) (.lst 3 (o8 l B drv)):=by unfold o8;rw[agy oz];exact Sub.nil _ _ _
theorem TC{l:Li}{a:As}(hg:Good l a)(h2:(llq a.rs).length<=2)(hs:splitE l=0)(hn:(splitG l).length<=4)(hd:(cM l (aR a) (splitG l).length).length=0->∀g∈splitG l,Dq l (aR a) g)(drv:Int) :
  FP 39 [l.av,a.av,i64 drv] (.tup [.lst 3 (o8 l (aR a) drv),i64 (j7 l (aR a) drv)]):=by
 have hld:=hg.lo.ld;have hgl:=nD hg.li;have hzl:=xL l (aR a) (splitG l).length;refine ai func39 ?_;refine bF ?_;refine gC (fun z=>?_) (fun z=>?_)
 ·have h6:=Ah z;have he:j7 l (aR a) drv=9:=agz h6;refine gR ?_;exact n6 (Ih he (by decide)) (Sub.of (by rw[he];rfl))
 have h6:¬(drv<0\/(l.dv.length:Int)<=drv):=Cq z;refine gc (XF hg h2 hs) ?_;refine gl ?_;refine gC (fun t25=>?_) (fun t25=>?_)
 ·have h7:(cM l (aR a) (splitG l).length).length≠0:=by
   intro h7;rw[h7]at t25;cases t25
  have he:j7 l (aR a) drv=8:=by unfold j7;rw[agy h6,agz h7]
  refine gR ?_;exact n6 (Ih he (by decide)) (Sub.of (by rw[he];rfl))
 have h7:(cM l (aR a) (splitG l).length).length=0:=by
  have:=iP (b:=0) t25;omega
 have he:j7 l (aR a) drv=0:=by unfold j7;rw[agy h6,agy oz]
 have hL:o8 l (aR a) drv=(u9 l (aR a) drv).map Vt.av:=agz he;have hdq:=hd h7;have A:=tT hg h2;have hlb:=(er hg.li).2.2.2;have hI:∀r,eB r (llq a.rs).length<=120006->iB r (llq a.rs).length (24*4000+18*120006+16085)<=49000000:=fun r hr=>Ay h2 hr
 have hvb:=BA A hI hdq drv;rw[hL,he];refine gc (jU l hg.lo hg.li) ?_;refine gl ?_;refine gs (gX (.tmp rfl) T81 rfl T90 rfl rfl oz (by dsimp only;omega) rfl) ?_ (7,0);refine gW (Wk.of (sl:=[pP 2 (i64 drv),pP 3 (.ptr 3 0),pP 4 (.ptr 4 0),pP 8 (.lst 4 ((splitG l).map Gr.av)),pP 10 (.ms 34 3 0 l.bo.length)]) (hp:=[pP 3 (.box l.av.cells),pP 4 (.box a.av.cells),pP 34 (.row 3 ((V0 l (llq a.rs)).map Vt.av))]) bj (.k (.k (.cons rfl (Jf _ _) .nil)))) ?_ (7,0);refine gW (Wk.rk (k:=34) (d:=902) rfl rfl) ?_;refine gl ?_;refine aL [2,3,4,36] [3,4] (fun(i:Nat)=>[pP 10 (.ms 902 3 0 l.bo.length),pP 37 (i64 i)]) (fun i=>[pP 902 (.row 3 ((lV l (aR a) drv ((splitG l).take i) (V0 l (llq a.rs))).map Vt.av))]) (fun i=>i<=(splitG l).length) (fun i=>(splitG l).length-i) 0 (afz _) ?_;rintro i hi K1 J1;refine gC (fun z=>?_) (fun z=>?_) (st2:=(12,0))
 ·have hin:i<(splitG l).length:=aY z;obtain⟨g,hgi⟩:=ay hin;have hgm:=afl hgi;have hvs:=J8 (l:=l) (a:=aR a) (drv:=drv) (V:=V0 l (llq a.rs)) hgi;obtain⟨hVl,hVb⟩:=hvb i hi (fun m hm=>rH oz);have hRc:=rH (m:=i) oz;obtain⟨V,hVe⟩:∃V:List (Vt (llq a.rs)),V=lV l (aR a) drv ((splitG l).take i) (V0 l (llq a.rs)):=⟨_,rfl⟩
  have hVl:V.length=l.bo.length:=by rw[hVe];exact hVl
  have hVb:∀v∈V,Bv (vB 4000 120006 49000000 i) v:=by rw[hVe];exact hVb
  have hvs:lV l (aR a) drv ((splitG l).take (i+1)) (V0 l (llq a.rs))=fK l (aR a) drv V g:=by rw[hVe];exact hvs
  have hcg:=VK (ZZ hg h2 hs hVl hVb A hgi hI (hdq g hgm) hRc drv);rw[<- hvs]at hcg;rw[<- hVe];refine gt (aF hcg (.cons (.tmp rfl) (.cons (.tmp rfl) (.cons (.tmp rfl) (.cons (.tmp rfl) (.cons (.tmp rfl) .nil))))) aG rfl rfl) ?_;refine ga aK ?_;exact aH J1 (i+1) hin
 have hin:=a7 hi z;subst hin;rw[af1];refine gW ((Wk.freeze (k:=902) rfl).trans<|Wk.of (sl:=[pP 10 (.lst 3 ((u9 l (aR a) drv).map Vt.av))]) (hp:=[]) (.cons rfl (Sub.of (cz (by have h9:=(hvb _ (afq _) (fun m hm=>rH oz)).1;rw[af1]at h9;rw[afm];exact h9.symm))) .nil) .nil) ?_;refine bg ?_;rfl
theorem Vq{a:As}{r:List Vr}(h:a.bs.all (fun b=>iy a.rs b.l)=true)(h2:r.all (fun b=>iy a.rs b.l)=true) :
  cond (cond (cond (aa .leq (a.bs.length:Int) 20) (aa .leq (r.length:Int) 20) false) (iy a.rs []) false) (cond (aa .leq (a.rs.length:Int) 2) true (aa .gtr (a.rs.length:Int) 5)) false=lD a r:=by
 have e1:=sj (n:=a.bs.length) (k:=20);have e4:=sj (n:=r.length) (k:=20);have e2:=sj (n:=a.rs.length) (k:=2);have e3:=ky (n:=a.rs.length) (k:=5);unfold lD;rw[h,h2,aet,aet];rw[show aa .leq (a.bs.length:Int) 20=decide (a.bs.length<=20)from e1,show aa .leq (r.length:Int) 20=decide (r.length<=20)from e4,show aa .leq (a.rs.length:Int) 2=decide (a.rs.length<=2)from e2,show aa .gtr (a.rs.length:Int) 5=decide (5<a.rs.length)from e3];cases iy a.rs [] <;> by_cases c1:a.bs.length<=20 <;> by_cases c2:r.length<=20 <;> by_cases c3:a.rs.length<=2 <;> by_cases c4:5<a.rs.length <;> simp[c1,c2,c3,c4]
theorem SN(a:As)(ha:a.ok)(r:List Vr)(hr:∀x∈r,dH x.l)(hrl:r.length<=281474976710656):FP 36 [a.av,.lst 3 (r.map Vr.av)] (bl (lD a r)):=by
 have hbl:=ha.bl;refine ai func36 ?_;refine gl ?_;refine aL [1,2,10,11] [2] (fun(i:Nat)=>[pP 12 (i64 i)]) (fun _=>[]) (fun i=>i<=a.bs.length/\(a.bs.take i).all (fun b=>iy a.rs b.l)=true) (fun i=>a.bs.length-i) 0 ⟨afz _,rfl⟩ ?_;rintro i ⟨hi,hj⟩ K1 J1;refine gC (fun z=>?_) (fun z=>?_)
 ·have hin:=aY z;obtain⟨b,hb⟩:=ay hin;have hbo:=ha.bs b (afl hb);refine gi (aq hb) ?_;refine gc (AK a.rs b.l ha.rs hbo ha.rl (by show 4<=100; omega)) ?_;refine gC (fun z=>?_) (fun z=>?_)
  ·have h1:=cm z;refine af ?_;unfold lD;rw[iN hb h1];rfl
  have h1:=ci z;refine ga aK ?_;exact aH J1 (i+1) ⟨hin,jN hj hb h1⟩
 have hall:=jE (a7 hi z) hj;refine gl ?_;refine aL [1,2,30,31] [2] (fun(i:Nat)=>[pP 32 (i64 i)]) (fun _=>[]) (fun i=>i<=r.length/\(r.take i).all (fun b=>iy a.rs b.l)=true) (fun i=>r.length-i) 0 ⟨afz _,rfl⟩ ?_;rintro i ⟨hk,hkj⟩ K2 J2;refine gC (fun z=>?_) (fun z=>?_)
 ·have hkn:=aY z;obtain⟨v,hv⟩:=ay hkn;have hvo:=hr v (afl hv);refine gi (aq hv) ?_;refine gc (AK a.rs v.l ha.rs hvo ha.rl (by show 3<=100; omega)) ?_;refine gC (fun z=>?_) (fun z=>?_)
  ·have h1:=cm z;refine af ?_;unfold lD;rw[hall,iN hv h1];rfl
  have h1:=ci z;refine ga aK ?_;exact aH J2 (i+1) ⟨hkn,jN hkj hv h1⟩
 have hall2:=jE (a7 hk z) hkj;refine gl ?_;refine bF ?_;refine bn (fun _=>(Con.sA (.cons (.refl _) (.cons (Sub.nil 1 none 0) .nil)) (AK a.rs [] ha.rs Fu ha.rl (by show 0<=100;omega)))) ?_;refine bF ?_;refine bF ?_;refine af ?_;exact ag6 bl (Vq hall hall2)
theorem aar{l:Li}{xs:List Tn}(h:ku l xs=true):iS l=true/\xs.length<=20/\xs.all lr=true:=by
 unfold ku at h;simp only[afp,ag0]at h;exact⟨h.1.1,h.1.2,h.2.1⟩
theorem Ru{x:Tn}(h:lr x=true)(ho:x.t.wok):x.t.ok/\Qb 1000 x.t.q:=by
 unfold lr at h;rw[ag0]at h;have hx:=ho.ok h.1 h.2 oz;exact⟨hx,(Rt.qb hx (k:=1) oz h.1 h.2).mono oz⟩
variable{P:ahb}{N:Nat}
def c9(s:AS):ag8->Option AV
  | .tmp t=>match s.get t with
    |some x=>match x with
      | .opt _ _=>none
      |x=>some x
    |none=>none
  | .const c=>some (.v c)
  | .func f=>some (.v (.func (.func f) #[] #[]))
  | .global _=>none
theorem bI{s:AS}{o:ag8}{x:AV}(h:c9 s o=some x):Ev s o x:=by
 cases o with
 |tmp t =>
  simp only[c9]at h;split at h
  ·rename_i y hy;split at h
   ·cases h
   ·cases h;exact .tmp hy
  ·cases h
 |const c=>cases h;exact .const c
 |func f=>cases h;exact .func f
 |global n=>cases h
def rx(s:AS):List ag8->Option (List AV)
  |[]=>some []
  |o::os=>match c9 s o with
    |some x=>match rx s os with
      |some xs=>some (x::xs)
      |none=>none
    |none=>none
theorem qw{s:AS}:∀{os:List ag8}{xs:List AV},rx s os=some xs->EvL s os xs
 |[],xs,h=>by cases h;exact .nil
 |o::os,xs,h=>by
  unfold rx at h;split at h
  ·rename_i x h1;split at h
   ·rename_i ys h2;cases h;exact .cons (bI h1) (qw h2)
   ·cases h
  ·cases h
def wN{α:Type}(n:Nat)(f:Nat->α):α:=match n with
  |0=>f 0
  |m+1=>f (m+1)
theorem oL{α:Type}(n:Nat)(f:Nat->α):wN n f=f n:=by cases n <;> rfl
def wI{α:Type}(z:Int)(f:Int->α):α:=match z with
  | .ofNat n=>match n with
    |0=>f 0
    |m+1=>f (Int.ofNat (m+1))
  | .negSucc n=>f (.negSucc n)
theorem mG{α:Type}(z:Int)(f:Int->α):wI z f=f z:=by
 cases z with
 |ofNat n=>cases n <;> rfl
 |negSucc n=>rfl
structure V1 where
  x:AV
  rt:List Nat
  rd:List Nat
def I2:ag9->Bool
  | .nilIface=>true
  | .iface _ _=>true
  |_=>false
theorem MQ{v:ag9}(h:I2 v=true):Bk v:=by
 cases v <;> first |exact .inl rfl |exact .inr ⟨_,_,rfl⟩ |cases h
def EM:BinOp->Bool
  | .and | .or | .xor | .andNot=>true
  |_=>false
theorem Wn:∀{op:BinOp},EM op=true->(match op with | .and | .or | .xor | .andNot=>true |_=>false)=true:=by intro op;cases op <;> intro h <;> first |rfl |cases h
def qJ(op:BinOp)(x y:ag8)(k k':IntKind)(a b:Int):Option V1:=match op with
  | .add | .sub | .mul=>match ab3 (en k) (en k')with
    |true=>wI (k.wrap (fy op a b)) fun z=>some ⟨.v (.int k z),aj x++aj y,[]⟩
    |false=>none
  | .quo=>match ab3 (en k) (en k')with
    |true=>match b with
      | .ofNat 0=>none
      |b=>wI (k.wrap (a.tdiv b)) fun z=>some ⟨.v (.int k z),aj x++aj y,[]⟩
    |false=>none
  | .rem=>match ab3 (en k) (en k')with
    |true=>match b with
      | .ofNat 0=>none
      |b=>wI (a.tmod b) fun z=>some ⟨.v (.int k z),aj x++aj y,[]⟩
    |false=>none
  | .shl=>match b with
    | .ofNat n=>wI (k.wrap (a*2^(min n k.bits))) fun z=>some ⟨.v (.int k z),aj x++aj y,[]⟩
    | .negSucc _=>none
  | .shr=>match b with
    | .ofNat n=>wI (a.fdiv (2^(min n k.bits))) fun z=>some ⟨.v (.int k z),aj x++aj y,[]⟩
    | .negSucc _=>none
  | .eql | .neq | .lss | .leq | .gtr | .geq=>match ab3 (en k) (en k')with
    |true=>match aa op a b with
      |true=>some ⟨.v (.bool true),aj x++aj y,[]⟩
      |false=>some ⟨.v (.bool false),aj x++aj y,[]⟩
    |false=>none
  |op=>match EM op&&ab3 (en k) (en k')with
    |true=>wI (mR op k a b) fun z=>some ⟨.v (.int k z),aj x++aj y,[]⟩
    |false=>none
section
variable{s:AS}{R:Array Oper}{d:Nat}{t T:aha}{pos:String}{after:Array Edge}
theorem S4{op:BinOp}{x y:ag8}{k k':IntKind}{a b:Int}{S:aha}{r:V1}(hx:Ev s x (.v (.int k a)))(hy:Ev s y (.v (.int k' b)))(h:qJ op x y k k' a b=some r)(hN:acm d N=true) :
  Step P N R s ⟨some d,.binOp op S x y T,t,pos,after,none⟩ ⟨some r.x,[],r.rt,r.rd⟩:=by
 have hc:∀(op:BinOp),y9 op=true->(match ab3 (en k) (en k')with
  |true=>match aa op a b with
   |true=>some (⟨.v (.bool true),aj x++aj y,[]⟩:V1)
   |false=>some ⟨.v (.bool false),aj x++aj y,[]⟩
  |false=>none)=some r->Step P N R s ⟨some d,.binOp op S x y T,t,pos,after,none⟩ ⟨some r.x,[],r.rt,r.rd⟩:=by
  intro op hop h';split at h'
  ·rename_i hk;cases mW hk;have:=L7 (P:=P) (R:=R) (op:=op) (S:=S) (T:=T) (t:=t) (pos:=pos) (after:=after) hx hy (by cases op <;> simp_all[y9]) hN;split at h'
   ·rename_i hb;cases h';rw[hb]at this;exact this
   ·rename_i hb;cases h';rw[hb]at this;exact this
  ·cases h'
 have ha:∀(op:BinOp),Bm op=true->(match ab3 (en k) (en k')with
  |true=>wI (k.wrap (fy op a b)) fun z=>some (⟨.v (.int k z),aj x++aj y,[]⟩:V1)
  |false=>none)=some r->Step P N R s ⟨some d,.binOp op S x y T,t,pos,after,none⟩ ⟨some r.x,[],r.rt,r.rd⟩:=by
  intro op hop h';split at h'
  ·rename_i hk;cases mW hk;rw[mG]at h';cases h';exact Iq hx hy (Ib hop) hN
  ·cases h'
 have hb:∀(op:BinOp),(match EM op&&ab3 (en k) (en k')with
  |true=>wI (mR op k a b) fun z=>some (⟨.v (.int k z),aj x++aj y,[]⟩:V1)
  |false=>none)=some r->Step P N R s ⟨some d,.binOp op S x y T,t,pos,after,none⟩ ⟨some r.x,[],r.rt,r.rd⟩:=by
  intro op h';split at h'
  ·rename_i hk;simp only[afp]at hk;cases mW hk.2;rw[mG]at h';cases h';exact JA hx hy (Wn hk.1) hN
  ·cases h'
 cases op with
 |add=>exact ha _ rfl h
 |sub=>exact ha _ rfl h
 |mul=>exact ha _ rfl h
 |quo =>
  simp only[qJ]at h;split at h
  ·rename_i hk;cases mW hk;split at h
   ·cases h
   ·rename_i hb0;rw[mG]at h;cases h
    exact IZ hx hy (fun e=>hb0 (by rw[e];rfl)) hN
  ·cases h
 |rem =>
  simp only[qJ]at h;split at h
  ·rename_i hk;cases mW hk;split at h
   ·cases h
   ·rename_i hb0;rw[mG]at h;cases h
    exact Gp hx hy (fun e=>hb0 (by rw[e];rfl)) hN
  ·cases h
 |shl =>
  simp only[qJ]at h;split at h
  ·rename_i n;rw[mG]at h;obtain rfl:=Option.some.inj h;have:=Gy (P:=P) (R:=R) (S:=S) (T:=T) (t:=t) (pos:=pos) (after:=after) hx hy (aeg n) hN;simp only[aec,ago]at this;exact this
  ·cases h
 |shr =>
  simp only[qJ]at h;split at h
  ·rename_i n;rw[mG]at h;obtain rfl:=Option.some.inj h;have:=Mg (P:=P) (R:=R) (S:=S) (T:=T) (t:=t) (pos:=pos) (after:=after) hx hy (aeg n) hN;simp only[aec,ago]at this;exact this
  ·cases h
 |eql=>exact hc _ rfl h
 |neq=>exact hc _ rfl h
 |lss=>exact hc _ rfl h
 |leq=>exact hc _ rfl h
 |gtr=>exact hc _ rfl h
 |geq=>exact hc _ rfl h
 |_=>exact hb _ h
end
def qe(op:BinOp)(b:Bool):Bool:=match op with
  | .eql=>b
  |_=>!b
def BV:AV->Option Bool
  | .v (.slice none 0 0)=>some true
  | .lst _ (_::_)=>some false
  | .ms _ _ _ (_+1)=>some false
  |_=>none
theorem TB{S:aha}{w:ahc}{E:aha}(h3:(underlying S).run P w=.ok (.slice E) w){a:Option Addr}{n c:Nat} :
  (Op.equal S (.slice a n c) (.slice none 0 0)).run P w=.ok a.isNone w:=by
 show(Op.equalIn (9999+1) S _ _).run P w=_;rw[Op.equalIn];cases a <;> simp[h3]
theorem R9{s:AS}{R:Array Oper}{d:Nat}{x:ag8}{xv:AV}{b:Bool}{op:BinOp}{S T t E:aha}{ti:TI}{pos:String}{after:Array Edge}(hop:op=.eql\/op=.neq)
  (hx:Ev s x xv) (hv:BV xv=some b) (hS:au P S=some ti) (hk:ti.k=.slice E) (hN:acm d N=true) :
  Step P N R s ⟨some d,.binOp op S x (.const (.slice none 0 0)) T,t,pos,after,none⟩ ⟨some (.v (.bool (qe op b))),[],aj x,[]⟩ :=
 cK rfl rfl hN fun s' hag C m a w hr=>⟨.bool (qe op b),by
  have h:=(hx.agree hag (fun _ h=>h)).rep hr;obtain⟨d2,h3,h4,-,-⟩:=dg hS w;obtain rfl:=gT (h4.trans hk);have h2:a.eval (.const (.slice none 0 0))=.slice none 0 0:=rfl
  obtain⟨ad,n,c,he,hb⟩:∃ad n c,a.eval x=.slice ad n c/\ad.isNone=b:=by
   generalize a.eval x=u at h;unfold BV at hv;split at hv
   ·cases hv;cases h;exact⟨_,_,_,rfl,rfl⟩
   ·cases hv;cases h with
    |lst u hb hc hl hs h1 hu hr=>exact⟨_,_,_,rfl,rfl⟩
   ·cases hv;cases h with
    |ms hm hc hS=>exact⟨_,_,_,rfl,rfl⟩
   ·cases hv
  have h5:=TB (P:=P) (a:=ad) (n:=n) (c:=c) h3;rcases hop with rfl |rfl <;> simp[execOp,he,h2,eqGuard,binOp,h5,hb,qe],.v _⟩
theorem Th{s:AS}{R:Array Oper}{d:Nat}{x:ag8}{lo hi:Option ag8}{T E t:aha}{ti te:TI}{pos:String}{after:Array Edge}
  (hx:Ev s x (.v (.slice none 0 0))) (hl:EvI s lo 0 0) (hh:EvI s hi 0 0) (hT:au P T=some ti) (hk:ti.k=.slice E) (hE:au P E=some te) (hN:acm d N=true) :
  Step P N R s ⟨some d,.slice T x lo hi none,t,pos,after,none⟩ ⟨some (.v (.slice none 0 0)),[],aj x++(jF lo++jF hi),[]⟩ :=
 cK rfl rfl hN fun s' hag C m a w hr=>by
  have hxv:=mi hr (hx.agree hag (fun _ h=>aft.2 (.inl h)));have hl':=hl.agree hag (fun _ h=>aft.2 (.inr (aft.2 (.inl h))));have hh':=hh.agree hag (fun _ h=>aft.2 (.inr (aft.2 (.inr h))));obtain⟨d2,hu,h3,-,-⟩:=dg hT w;obtain rfl:=gT (h3.trans hk);have:=tq (P:=P) hr (cap:=0) true hl' hh' (afq _) (afq _);exact⟨.slice none 0 0,by simp[execOp,hxv,Instr.sliceAt,hu,Instr.slice,this,fL hE],.v _⟩
theorem Ud{s:AS}{R:Array Oper}{d:Nat}{x:ag8}{k1 k2:IntKind}{sz:Nat}{es:List AV}{T E t:aha}{ti te:TI}{pos:String}{after:Array Edge}
  (hx:Ev s x (.lst sz es)) (hT:au P T=some ti) (hk:ti.k=.slice E) (hE:au P E=some te) (hsz:te.size=sz) (hN:acm d N=true) :
  Step P N R s ⟨some d,.slice T x none (some (.const (.int k1 0))) (some (.const (.int k2 0))),t,pos,after,none⟩ ⟨some (.ms d sz 0 0),[(d,some (.row sz []))],aj x,[]⟩:=by
 refine yI rfl ?_;intro s' hag hnew C m a w next hC hr hnext
 have hfr:s'.Fresh d:=by
  rcases hnew d (by simp)with h |h
  ·cases h
  ·exact h
 have hxr:=(hx.agree hag (fun _ h=>h)).rep hr;obtain⟨d2,hu,h3,-,-⟩:=dg hT w;obtain rfl:=gT (h3.trans hk)
 obtain⟨ad,n,c,he⟩:∃ad n c,a.eval x=.slice ad n c:=by
  generalize a.eval x=u at hxr;cases hxr with
  |lst0 a cap=>exact⟨_,_,_,rfl⟩
  |lst u hb hc hl hs h1 hu hr=>exact⟨_,_,_,rfl⟩
 have e1:a.eval (.const (.int k1 0))=.int k1 0:=rfl;have e2:a.eval (.const (.int k2 0))=.int k2 0:=rfl
 have hex:(execOp a.eval ⟨some d,.slice T x none (some (.const (.int k1 0))) (some (.const (.int k2 0))),t,pos,after,none⟩).run P w=.ok (.value (.slice ad 0 0)) w:=by
  simp[execOp,he,e1,e2,Instr.sliceAt,hu,Instr.slice,Instr.sliceBounds,Instr.sliceBound,asIntOf,fL hE]
 rw[hex];rw[ab7]at hN;simp only[Oper.upon,Act.put];obtain⟨m2,h1⟩:∃m2,RelM C ⟨s'.sl,(d,some (.row sz []))::s'.hp⟩ m2 a w:=⟨_,hr.virt sz hfr⟩
 refine hnext m2 _ _ ?_
 have:=h1.put d (.slice ad 0 0) (some (.ms d sz 0 0)) (fun z hz=>by
  cases hz;exact⟨by have:=hr.nt;omega,.ms0 _ _ _ _⟩)
 simpa[AS.app]using this
variable[Inhabited (Tys P)]
def LT:BinOp->Bool
  | .eql | .neq=>true
  |_=>false
def yz:List UInt8->List UInt8->Bool
  |[],y=>match y with
    |[]=>true
    |_=>false
  |x::l,y=>match y with
    |x'::l'=>match ab3 x.toNat x'.toNat with
      |true=>yz l l'
      |false=>false
    |[]=>false
theorem Ce:∀{a b:List UInt8},yz a b=(a==b)
 |[],[]=>rfl
 |[],_::_=>rfl
 |_::_,[]=>rfl
 |x::l,x'::l'=>by
  show(match ab3 x.toNat x'.toNat with |true=>yz l l' |false=>false)=_;cases h:ab3 x.toNat x'.toNat with
  |true =>
   have:x=x':=UInt8.toNat_inj.1 (afo h);subst this;simp only[Ce (a:=l)];simp
  |false =>
   have:x≠x':=fun e=>acw h (by rw[e])
   simp[this]
def mC(a b:ByteArray):Bool:=yz a.data.toList b.data.toList
theorem BG(a b:ByteArray):(a.toList==b.toList)=mC a b:=by
 unfold mC;rw[Ce,ByteArray.toList_eq,ByteArray.toList_eq]
def AF(P:ahb)[Inhabited (Tys P)](op:BinOp)(S:aha)(x y:ag8)(vx vy:ag9):Option V1:=match vx with
  | .int k a=>match vy with
    | .int k' b=>qJ op x y k k' a b
    |_=>none
  |vx=>match vy with
    | .nilIface=>match y with
      | .const _=>match I2 vx with
        |true=>match cg P S with
          |some ti=>match ti.k with
            | .iface _=>match op with
              | .eql=>some ⟨.v (.bool (e8 vx)),aj x++[],[]⟩
              | .neq=>some ⟨.v (.bool !(e8 vx)),aj x++[],[]⟩
              |_=>none
            |_=>none
          |none=>none
        |false=>none
      |_=>none
    | .string b=>match vx with
      | .string a=>match op with
        | .eql=>match mC a b with
          |true=>some ⟨.v (.bool true),aj x++aj y,[]⟩
          |false=>some ⟨.v (.bool false),aj x++aj y,[]⟩
        | .neq=>match mC a b with
          |true=>some ⟨.v (.bool false),aj x++aj y,[]⟩
          |false=>some ⟨.v (.bool true),aj x++aj y,[]⟩
        |_=>none
      |_=>none
    |vy=>match rm P op S x y [] vx vy with
      |some r=>match r.ob with
        |[]=>some ⟨r.x,r.rt,r.rd⟩
        |_=>none
      |none=>none
def pF(P:ahb)[Inhabited (Tys P)](T sz:Nat):Bool:=match cg P T with
  |some ti=>match ti.k with
    | .slice E=>match cg P E with
      |some te=>ab3 te.size sz
      |none=>false
    |_=>false
  |none=>false
theorem un{T sz:Nat}(h:pF P T sz=true):∃ti E te,au P T=some ti/\ti.k=.slice E/\au P E=some te/\te.size=sz:=by
 unfold pF at h;split at h
 ·rename_i ti hti;split at h
  ·rename_i E hk;split at h
   ·rename_i te hte;exact⟨ti,E,te,bX hti,hk,bX hte,afo h⟩
   ·cases h
  ·cases h
 ·cases h
def oh(s:AS)(o:Option ag8)(d:Nat):Option Nat:=match o with
  |none=>some d
  |some x=>match c9 s x with
    |some (.v (.int _ (.ofNat n)))=>some n
    |_=>none
theorem q8{s:AS}{o:Option ag8}{d n:Nat}(h:oh s o d=some n):EvI s o d n:=by
 cases o with
 |none=>cases h;exact .none d
 |some x =>
  simp only[oh]at h;split at h
  ·rename_i hx;cases h;exact .some (i:=Int.ofNat n) d (bI hx) (aeg _)
  ·cases h
def Bu(ti:TI)(l:List AV):Option AV:=match ti.ag with
  |true=>match g9 (l.take ti.size)with
    |some r=>some (.agg r)
    |none=>none
  |false=>match ab3 ti.size 1 with
    |true=>match l with
      |x::_=>some x
      |[]=>none
    |false=>none
theorem ZQ{ti:TI}{l:List AV}{x:AV}(h:Bu ti l=some x):(ti.ag||ab3 ti.size 1)=true/\x=jH ti.ag (l.take ti.size):=by
 unfold Bu at h;split at h
 ·rename_i ha;split at h
  ·rename_i r hr;cases h;rw[ha,jn hr];exact⟨rfl,rfl⟩
  ·cases h
 ·rename_i ha;split at h
  ·rename_i h1;split at h
   ·cases h;rw[ha,afo h1];exact⟨rfl,rfl⟩
   ·cases h
  ·cases h
def rS:List AV->List AV->Option (List ag9×List Nat)
  |[],[]=>some ([],[])
  | .v (.int .i64 a)::l,.v (.int .i64 b)::l'=>match a==b with
    |true=>match rS l l' with
      |some (vs,ks)=>some (.int .i64 a::vs,1::ks)
      |none=>none
    |false=>none
  | .v (.string a)::l,.v (.string b)::l'=>match mC a b with
    |true=>match rS l l' with
      |some (vs,ks)=>some (.string a::vs,2::ks)
      |none=>none
    |false=>none
  |_,_=>none
theorem Ql{a b:ByteArray}(h:mC a b=true):a=b:=by
 rw[<- BG,beq_iff_eq,ByteArray.toList_eq,ByteArray.toList_eq]at h;cases a;cases b;congr 1
 exact Array.ext' h
theorem Bg:∀{l l':List AV}{vs:List ag9}{ks:List Nat},rS l l'=some (vs,ks)->l=vs.map .v/\l'=vs.map .v/\vs.map vk=ks
 |[],[],_,_,h=>by cases h;exact⟨rfl,rfl,rfl⟩
 | .v (.int .i64 a)::l,.v (.int .i64 b)::l',_,_,h=>by
  rw[rS]at h;split at h
  ·rename_i he;split at h
   ·rename_i vs ks hs;obtain⟨h1,h2,h3⟩:=Bg hs;cases h;cases eq_of_beq he;exact⟨by rw[h1];rfl,by rw[h2];rfl,by rw[<- h3];rfl⟩
   ·cases h
  ·cases h
 | .v (.string a)::l,.v (.string b)::l',_,_,h=>by
  rw[rS]at h;split at h
  ·rename_i he;split at h
   ·rename_i vs ks hs;obtain⟨h1,h2,h3⟩:=Bg hs;cases h;cases Ql he;exact⟨by rw[h1];rfl,by rw[h2];rfl,by rw[<- h3];rfl⟩
   ·cases h
  ·cases h
def EB(P:ahb)(op:BinOp)(S:aha)(x y:ag8)(cs cs':List AV):Option V1:=match op with
  | .neq=>match rS cs cs' with
    |some (_,ks)=>match xd P S ks with
      |true=>some ⟨.v (.bool false),aj x++aj y,[]⟩
      |false=>none
    |none=>none
  |_=>none
omit [Inhabited (Tys P)] in
theorem O2{s:AS}{R:Array Oper}{d:Nat}{x y:ag8}{cs cs':List AV}{op:BinOp}{S T t:aha}{pos:String}{after:Array Edge}{r:V1}(h:EB P op S x y cs cs'=some r)
  (hx:Ev s x (.agg cs)) (hy:Ev s y (.agg cs')) (hN:acm d N=true):Step P N R s ⟨some d,.binOp op S x y T,t,pos,after,none⟩ ⟨some r.x,[],r.rt,r.rd⟩:=by
 unfold EB at h;split at h
 ·split at h
  ·rename_i vs ks hs;obtain⟨h1,h2,h3⟩:=Bg hs;subst h1;subst h2
   split at h
   ·rename_i hS;cases h;exact Rc hx hy h3 hS hN
   ·cases h
  ·cases h
 ·cases h
def wl(P:ahb)(t:aha):Bool:=match P.underlying t with |some (.pointer _)=>true |_=>false
omit [Inhabited (Tys P)] in
theorem ZD{t:aha}(h:wl P t=true):P.underlying t=some (.pointer (P.pointee t)):=by
 unfold wl at h;split at h
 ·rename_i e he;rw[he];unfold Program.pointee;rw[he]
 ·cases h
omit [Inhabited (Tys P)] in
theorem Ux{s:AS}{R:Array Oper}{d:Nat}{x:ag8}{k off:Nat}{op:BinOp}{S T t:aha}{pos:String}{after:Array Edge}(hop:op=.eql\/op=.neq)
  (hx:Ev s x (.ptr k off)) (hS:wl P S=true) (hN:acm d N=true) :
  Step P N R s ⟨some d,.binOp op S x (.const (.pointer none)) T,t,pos,after,none⟩ ⟨some (.v (.bool (qe op false))),[],aj x,[]⟩ :=
 cK rfl rfl hN fun s' hag C m a w hr=>⟨.bool (qe op false),by
  have h:=(hx.agree hag (fun _ h=>h)).rep hr;have h2:a.eval (.const (.pointer none))=.pointer none:=rfl;have hu:=ZD hS;generalize ha:a.eval x=u at h;cases h;rcases hop with rfl |rfl
  ·simp[execOp,ha,h2,eqGuard,run_eql_pointer_nil w S _ hu,qe]
  ·simp[execOp,ha,h2,eqGuard,run_neq_pointer_nil w S _ hu,qe],.v _⟩
def Bc(P:ahb)(op:BinOp)(S:aha)(x y:ag8):Option V1:=match y with
  | .const (.pointer none)=>match LT op with
    |true=>match wl P S with
      |true=>match op with
        | .eql=>some ⟨.v (.bool false),aj x,[]⟩
        |_=>some ⟨.v (.bool true),aj x,[]⟩
      |false=>none
    |false=>none
  |_=>none
omit [Inhabited (Tys P)] in
theorem WP{s:AS}{R:Array Oper}{d:Nat}{x y:ag8}{k off:Nat}{op:BinOp}{S T t:aha}{pos:String}{after:Array Edge}{r:V1}(h:Bc P op S x y=some r)
  (hx:Ev s x (.ptr k off)) (hN:acm d N=true):Step P N R s ⟨some d,.binOp op S x y T,t,pos,after,none⟩ ⟨some r.x,[],r.rt,r.rd⟩:=by
 unfold Bc at h;split at h
 ·split at h
  ·rename_i hop;have hop:op=.eql \/ op=.neq:=by cases op <;> first | exact .inl rfl | exact .inr rfl | cases hop
   split at h
   ·rename_i hS;have h9:=Ux (P:=P) (R:=R) (T:=T) (t:=t) (pos:=pos) (after:=after) hop hx hS hN;rcases hop with rfl |rfl <;> (cases h;exact h9)
   ·cases h
  ·cases h
 ·cases h
def HW(P:ahb)(op:BinOp)(S:aha)(x y:ag8)(a b c e:Int):Option V1:=match op with
  | .eql=>match w9 P S with
    |true=>match a==c&&b==e with
      |true=>some ⟨.v (.bool true),aj x++aj y,[]⟩
      |false=>some ⟨.v (.bool false),aj x++aj y,[]⟩
    |false=>none
  |_=>none
def vH(P:ahb)[Inhabited (Tys P)](s:AS)(op:Op):Option V1:=match op with
  | .pick c x y=>match c9 s c with
    |some (.v (.bool b))=>match b with
      |true=>match c9 s x with
        |some (.v (.bool z))=>some ⟨.v (.bool z),aj c++(aj x++aj y),[]⟩
        |_=>none
      |false=>match c9 s y with
        |some (.v (.bool z))=>some ⟨.v (.bool z),aj c++(aj x++aj y),[]⟩
        |_=>none
    |_=>none
  | .binOp op S x (.const (.slice none 0 0)) _=>match LT op with
    |true=>match c9 s x with
      |some xv=>match BV xv with
        |some b=>match cg P S with
          |some ti=>match ti.k with
            | .slice _=>match op with
              | .eql=>some ⟨.v (.bool b),aj x,[]⟩
              |_=>match b with
                |true=>some ⟨.v (.bool false),aj x,[]⟩
                |false=>some ⟨.v (.bool true),aj x,[]⟩
            |_=>none
          |none=>none
        |none=>none
      |none=>none
    |false=>none
  | .binOp op S x y _=>match c9 s x with
    |some (.v vx)=>match c9 s y with
      |some (.v vy)=>AF P op S x y vx vy
      |_=>none
    |some (.agg [.v (.int .i64 a),.v (.int .i64 b)])=>match c9 s y with
      |some (.agg [.v (.int .i64 c),.v (.int .i64 e)])=>HW P op S x y a b c e
      |_=>none
    |some (.ptr _ _)=>Bc P op S x y
    |some (.agg cs)=>match c9 s y with
      |some (.agg cs')=>EB P op S x y cs cs'
      |_=>none
    |_=>none
  | .unOp .neg _ x=>match c9 s x with
    |some (.v (.int k n))=>wI (k.wrap (0-n)) fun z=>some ⟨.v (.int k z),aj x,[]⟩
    |_=>none
  | .convert S T x=>match c9 s x with
    |some (.v (.int _ n))=>match cg P S with
      |some _=>match cg P T with
        |some ti=>match ti.k with
          | .int k'=>wI (k'.wrap n) fun z=>some ⟨.v (.int k' z),aj x,[]⟩
          |_=>none
        |none=>none
      |none=>none
    |_=>none
  | .indexAddr T x ix=>match c9 s ix with
    |some (.v (.int _ (.ofNat i)))=>match c9 s x with
      |some (.lst sz es)=>match pF P T sz with
        |true=>match es[i]? with
          |some e=>some ⟨.iptr e.cells,aj x++aj ix,[]⟩
          |none=>none
        |false=>none
      |some (.ms k sz off len)=>match pF P T sz&&acm i len with
        |true=>wN (off+i) fun n=>some ⟨.eptr k sz n 0,aj x++aj ix,[]⟩
        |false=>none
      |some (.ptr k off)=>match cg P T with
        |some ti=>match ti.k with
          | .array n E=>match cg P E with
            |some te=>match acm i n with
              |true=>wN (off+i*te.size) fun m=>some ⟨.ptr k m,aj x++aj ix,[]⟩
              |false=>none
            |none=>none
          |_=>none
        |none=>none
      |_=>none
    |_=>none
  | .load T x=>match c9 s x with
    |some (.eptr k sz i off)=>match s.blk k with
      |some (.row sz' es)=>match ab3 sz sz' with
        |true=>match es[i]? with
          |some e=>match cg P T with
            |some ti=>match Nat.ble (off+ti.size) e.cells.length with
              |true=>match Bu ti (e.cells.drop off)with
                |some v=>some ⟨v,aj x,[k]⟩
                |none=>none
              |false=>none
            |none=>none
          |none=>none
        |false=>none
      |_=>none
    |some y=>match cg P T with
      |some ti=>match sJ P s ti x [] y with
        |some r=>some ⟨r.x,r.rt,r.rd⟩
        |none=>none
      |none=>none
    |none=>none
  | .index T x ix=>match c9 s ix with
    |some (.v (.int _ (.ofNat i)))=>match c9 s x with
      |some (.v (.string b))=>match cg P T with
        |some ti=>match ti.k with
          | .string=>match acm i b.size with
            |true=>wN (b.data.getD i 0).toNat fun n=>some ⟨.v (.int .u8 (Int.ofNat n)),aj x++aj ix,[]⟩
            |false=>none
          |_=>none
        |none=>none
      |_=>none
    |_=>none
  | .slice T x lo hi none=>match c9 s x with
    |some (.lst sz es)=>match oh s lo 0 with
      |some l=>match oh s hi es.length with
        |some h=>match pF P T sz&&Nat.ble l h&&Nat.ble h es.length with
          |true=>match g9 ((es.drop l).take (h-l))with
            |some r=>some ⟨.lst sz r,aj x++(jF lo++jF hi),[]⟩
            |none=>none
          |false=>none
        |none=>none
      |none=>none
    |some (.v (.slice none 0 0))=>match oh s lo 0 with
      |some 0=>match oh s hi 0 with
        |some 0=>match cg P T with
          |some ti=>match ti.k with
            | .slice E=>match cg P E with
              |some _=>some ⟨.v (.slice none 0 0),aj x++(jF lo++jF hi),[]⟩
              |none=>none
            |_=>none
          |none=>none
        |_=>none
      |_=>none
    |some (.ms k sz off len)=>match oh s lo 0 with
      |some l=>match oh s hi len with
        |some h=>match pF P T sz&&Nat.ble l h&&Nat.ble h len with
          |true=>wN (off+l) fun a=>wN (h-l) fun b=>some ⟨.ms k sz a b,aj x++(jF lo++jF hi),[]⟩
          |false=>none
        |none=>none
      |none=>none
    |_=>none
  | .call ⟨.builtin .len,args,ts⟩=>match args.toList with
    |[x]=>match ts.toList with
      |[T]=>match c9 s x with
        |some (.lst _ es)=>match cg P T with
          |some ti=>match ti.k with
            | .slice _=>wN es.length fun n=>some ⟨.v (.int .i64 (Int.ofNat n)),aj x,[]⟩
            |_=>none
          |none=>none
        |some y=>match rF P x T [] y with
          |some r=>some ⟨r.x,r.rt,r.rd⟩
          |none=>none
        |none=>none
      |_=>none
    |_=>none
  | .call ⟨.builtin .max,args,ts⟩=>match args.toList with
    |[x,y]=>match c9 s x with
      |some (.v (.int .i64 a))=>match c9 s y with
        |some (.v (.int .i64 b))=>wI (if b>a then b else a) fun z=>some ⟨.v (.int .i64 z),aj x++aj y,[]⟩
        |_=>none
      |_=>none
    |_=>none
  |op=>match uC P false True s op with
    |some r=>match r.ob with
      |[]=>some ⟨r.x,r.rt,r.rd⟩
      |_=>none
    |none=>none
omit [Inhabited (Tys P)] in
theorem QO{N d:Nat}{s:AS}{R:Array Oper}{x y:ag8}{a b:Int}{t:aha}{ts:Array aha}{pos:String}{after:Array Edge}(hx:Ev s x (.v (.int .i64 a)))(hy:Ev s y (.v (.int .i64 b)))(hN:acm d N=true) :
  Step P N R s ⟨some d,.call ⟨.builtin .max,#[x,y],ts⟩,t,pos,after,none⟩ ⟨some (.v (.int .i64 (if b>a then b else a))),[],aj x++aj y,[]⟩ :=
 cK rfl rfl hN fun s' hag C m ac w hr=>⟨.int .i64 (if b>a then b else a),by
  have h:=(hx.agree hag (fun _ h=>aft.2 (.inl h))).rep hr;have h':=(hy.agree hag (fun _ h=>aft.2 (.inr h))).rep hr;generalize hu:ac.eval x=u at h;generalize hv:ac.eval y=v at h';cases h;cases h'
  simp[execOp,resolve,hu,hv,invoke,builtin,Builtin.max_,Builtin.max2],.v _⟩
section
variable{s:AS}{R:Array Oper}{d:Nat}{t T:aha}{pos:String}{after:Array Edge}
theorem YJ{op:BinOp}{x y:ag8}{vx vy:ag9}{S:aha}{r:V1}(hx:Ev s x (.v vx))(hy:Ev s y (.v vy))(h:AF P op S x y vx vy=some r)(hN:acm d N=true) :
  Step P N R s ⟨some d,.binOp op S x y T,t,pos,after,none⟩ ⟨some r.x,[],r.rt,r.rd⟩:=by
 unfold AF at h;split at h
 ·split at h
  ·exact S4 hx hy h hN
  ·cases h
 ·split at h
  ·split at h
   ·rename_i c;have hc:c=.nilIface:=by cases hy; rfl
    subst hc;split at h
    ·rename_i he;split at h
     ·rename_i ti hti;split at h
      ·rename_i hk;split at h
       ·cases h;exact Jw hx (MQ he) (bX hti) hk hN
       ·cases h;exact Mi hx (MQ he) (bX hti) hk hN
       ·cases h
      ·cases h
     ·cases h
    ·cases h
   ·cases h
  ·split at h
   ·split at h
    ·have h9:=GQ (P:=P) (R:=R) (S:=S) (T:=T) (t:=t) (pos:=pos) (after:=after) hx hy hN;rw[BG]at h9;split at h
     ·rename_i hb;rw[hb]at h9;cases h;exact h9
     ·rename_i hb;rw[hb]at h9;cases h;exact h9
    ·have h9:=Lh (P:=P) (R:=R) (S:=S) (T:=T) (t:=t) (pos:=pos) (after:=after) hx hy hN;rw[BG]at h9;split at h
     ·rename_i hb;rw[hb]at h9;cases h;exact h9
     ·rename_i hb;rw[hb]at h9;cases h;exact h9
    ·cases h
   ·cases h
  ·split at h
   ·rename_i r' h1;split at h
    ·rename_i ho;cases h;exact I0 hx hy h1 (by rw[ho];exact .nil) hN
    ·cases h
   ·cases h
theorem Al{op:Op}{r:V1}(h:vH P s op=some r)(hN:acm d N=true):Step P N R s ⟨some d,op,t,pos,after,none⟩ ⟨some r.x,[],r.rt,r.rd⟩:=by
 unfold vH at h;split at h
 ·split at h
  ·rename_i hc;split at h
   ·split at h
    ·rename_i z hz;cases h
     exact DN (bz:=z) (bI hc) (fun _=>bI hz) (fun e=>by cases e) hN
    ·cases h
   ·split at h
    ·rename_i z hz;cases h
     exact DN (bx:=z) (bI hc) (fun e=>by cases e) (fun _=>bI hz) hN
    ·cases h
  ·cases h
 ·rename_i op S x T;split at h
  ·rename_i hop;have hop:op=.eql \/ op=.neq:=by cases op <;> first | exact .inl rfl | exact .inr rfl | cases hop
   split at h
   ·rename_i xv hx;split at h
    ·rename_i b hv;split at h
     ·rename_i ti hti;split at h
      ·rename_i hk;have h9:=R9 (P:=P) (R:=R) (T:=T) (t:=t) (pos:=pos) (after:=after) hop (bI hx) hv (bX hti) hk hN;rcases hop with rfl |rfl
       ·cases h;exact h9
       ·cases b <;> (cases h;exact h9)
      ·cases h
     ·cases h
    ·cases h
   ·cases h
  ·cases h
 ·rename_i T hne;split at h
  ·rename_i hx;split at h
   ·rename_i hy;exact YJ (bI hx) (bI hy) h hN
   ·cases h
  ·rename_i hx;split at h
   ·rename_i hy;unfold HW at h;split at h
    ·split at h
     ·rename_i he;have h9:=KQ (P:=P) (R:=R) (T:=T) (t:=t) (pos:=pos) (after:=after) (bI hx) (bI hy) he hN;split at h
      ·rename_i hb;rw[hb]at h9;cases h;exact h9
      ·rename_i hb;rw[hb]at h9;cases h;exact h9
     ·cases h
    ·cases h
   ·cases h
  ·rename_i hx;exact WP h (bI hx) hN
  ·rename_i hx;split at h
   ·rename_i hy;exact O2 h (bI hx) (bI hy) hN
   ·cases h
  ·cases h
 ·split at h
  ·rename_i hx;rw[mG]at h;cases h;exact yE (bI hx) hN
  ·cases h
 ·split at h
  ·rename_i hx;split at h
   ·rename_i hS;split at h
    ·rename_i hT;split at h
     ·rename_i hk;rw[mG]at h;cases h;exact M5 (bI hx) hN (bX hS) (bX hT) hk
     ·cases h
    ·cases h
   ·cases h
  ·cases h
 ·split at h
  ·rename_i i hi;split at h
   ·rename_i hx;split at h
    ·rename_i hs;obtain⟨ti,E,te,h1,h2,h3,h4⟩:=un hs;split at h
     ·rename_i e he;cases h
      exact Lc (i:=Int.ofNat i) (bI hx) (bI hi) h1 h2 h3 h4 (aeg _) he hN
     ·cases h
    ·cases h
   ·rename_i hx;split at h
    ·rename_i hs;simp only[afp,ab7]at hs;obtain⟨ti,E,te,h1,h2,h3,h4⟩:=un hs.1;rw[oL]at h;cases h
     exact m5 (i:=Int.ofNat i) (bI hx) (bI hi) h1 h2 h3 h4 (aeg _) (Int.ofNat_lt.2 hs.2) hN
    ·cases h
   ·rename_i hx;split at h
    ·rename_i hT;split at h
     ·rename_i hk;split at h
      ·rename_i hE;split at h
       ·rename_i hlt;rw[oL]at h;cases h
        exact R4 (i:=Int.ofNat i) (bI hx) (bI hi) (bX hT) hk (bX hE) rfl (aeg _) (Int.ofNat_lt.2 (by rw[ab7]at hlt;exact hlt)) hN
       ·cases h
      ·cases h
     ·cases h
    ·cases h
   ·cases h
  ·cases h
 ·split at h
  ·rename_i hx;split at h
   ·rename_i hk;split at h
    ·rename_i hs;split at h
     ·rename_i e he;split at h
      ·rename_i ti hT;split at h
       ·rename_i hle;split at h
        ·rename_i v hv;cases h;cases afo hs;obtain⟨h1,rfl⟩:=ZQ hv;exact cF (bI hx) hk he (bX hT) hle h1 hN
        ·cases h
       ·cases h
      ·cases h
     ·cases h
    ·cases h
   ·cases h
  ·rename_i hx;split at h
   ·rename_i ti hT;split at h
    ·rename_i h1;cases h;exact IW (bI hx) (bX hT) h1 hN
    ·cases h
   ·cases h
  ·cases h
 ·split at h
  ·rename_i i hi;split at h
   ·rename_i hx;split at h
    ·rename_i ti hT;split at h
     ·rename_i hk;split at h
      ·rename_i hb;rw[ab7]at hb;rw[oL]at h;cases h
       exact vo (i:=Int.ofNat i) (bI hx) (bI hi) (bX hT) hk (aeg _) (Int.ofNat_lt.2 hb) hN
      ·cases h
     ·cases h
    ·cases h
   ·cases h
  ·cases h
 ·split at h
  ·rename_i hx;split at h
   ·rename_i l hl;split at h
    ·rename_i hh hhi;split at h
     ·rename_i hs;simp only[afp,acl]at hs;obtain⟨ti,E,te,h1,h2,h3,h4⟩:=un hs.1.1;split at h
      ·rename_i hr;cases h;cases jn hr
       exact co (bI hx) (q8 hl) (q8 hhi) h1 h2 h3 h4 hs.1.2 hs.2 hN
      ·cases h
     ·cases h
    ·cases h
   ·cases h
  ·rename_i hx;split at h
   ·rename_i hl;split at h
    ·rename_i hh;split at h
     ·rename_i ti hT;split at h
      ·rename_i E hk;split at h
       ·rename_i te hE;cases h;exact Th (bI hx) (q8 hl) (q8 hh) (bX hT) hk (bX hE) hN
       ·cases h
      ·cases h
     ·cases h
    ·cases h
   ·cases h
  ·rename_i hx;split at h
   ·rename_i l hl;split at h
    ·rename_i hh hhi;split at h
     ·rename_i hs;simp only[afp,acl]at hs;obtain⟨ti,E,te,h1,h2,h3,h4⟩:=un hs.1.1;rw[oL,oL]at h;cases h
      exact vu (bI hx) (q8 hl) (q8 hhi) h1 h2 h3 h4 hs.1.2 hs.2 hN
     ·cases h
    ·cases h
   ·cases h
  ·cases h
 ·rename_i args ts;split at h
  ·rename_i x hx;split at h
   ·rename_i T hT;have e1:args=#[x]:=by apply ae9.1; simpa using hx
    have e2:ts=#[T]:=by apply ae9.1;simpa using hT
    subst e1;subst e2
    split at h
    ·rename_i h1;split at h
     ·rename_i ti hti;split at h
      ·rename_i hk;rw[oL]at h;cases h;exact G8 (bI h1) (bX hti) hk hN
      ·cases h
     ·cases h
    ·rename_i h1;split at h
     ·rename_i h2;cases h;exact Ft (bI h1) h2 hN
     ·cases h
    ·cases h
   ·cases h
  ·cases h
 ·rename_i args ts;split at h
  ·rename_i x y hx;split at h
   ·rename_i h1;split at h
    ·rename_i h2;have e1:args=#[x,y]:=by apply ae9.1; simpa using hx
     subst e1;rw[mG]at h;cases h;exact QO (bI h1) (bI h2) hN
    ·cases h
   ·cases h
  ·cases h
 ·split at h
  ·rename_i h1;split at h
   ·rename_i ho;cases h;exact wV h1 (by rw[ho];exact .nil) trivial hN
   ·cases h
  ·cases h
end
end Go.Lw
namespace Go.Lw
variable{P:ahb}{N:Nat}
def tr(a b k:Nat):Nat:=match ab3 k a with
  |true=>b
  |false=>match ab3 k b with
    |true=>a
    |false=>k
theorem aad(a b k:Nat):tr a b k=if k=a then b else if k=b then a else k:=by
 unfold tr;split
 ·rename_i h;rw[agz (afo h)]
 ·rename_i h;rw[agy (acw h)]
  split
  ·rename_i h;rw[agz (afo h)]
  ·rename_i h;rw[agy (acw h)]
theorem zw(a b k:Nat):tr a b (tr a b k)=k:=by
 simp only[aad]
 by_cases h1:k=a
 ·subst h1
  by_cases h2:b=k
  ·simp[h2]
  ·simp[h2]
 ·by_cases h2:k=b
  ·subst h2;simp[h1]
  ·simp[h1,h2]
theorem JV{σ:Nat->Nat}(hσ:∀k,σ (σ k)=k):∀H:Hp,fN σ (fN σ H)=H
 |[]=>rfl
 |(k,x)::l=>by
  simp only[fN,hσ,JV hσ l];cases x with
  |none=>rfl
  |some x=>simp only[Blk.pm_pm hσ]
def tA:List (Nat×Nat)->List AV->List AV
  |[],xs=>xs
  |p::L,xs=>tA L (xs.map (AV.pm (tr p.1 p.2)))
def tH:List (Nat×Nat)->Hp->Hp
  |[],H=>H
  |p::L,H=>tH L (fN (tr p.1 p.2) H)
def rB:List (Nat×Nat)->AV->AV
  |[],r=>r
  |p::L,r=>(rB L r).pm (tr p.1 p.2)
def hB:List (Nat×Nat)->Hp->Hp
  |[],H=>H
  |p::L,H=>fN (tr p.1 p.2) (hB L H)
theorem Hl{f:FuncId}:∀{L:List (Nat×Nat)}{xs:List AV}{H H':Hp}{r:AV},Con P f (tA L xs) (tH L H) r H'->Con P f xs H (rB L r) (hB L H')
 |[],xs,H,H',r,h=>h
 |p::L,xs,H,H',r,h=>by
  have h1:=(Hl (L:=L) h).pm (zw p.1 p.2);rw[JV (zw p.1 p.2),map_map]at h1;have e:(AV.pm (tr p.1 p.2) ∘ AV.pm (tr p.1 p.2))=id:=by funext x;exact AV.pm_pm (zw p.1 p.2) x
  rw[e,map_id]at h1;exact h1
def MP:Nat->List Nat->List (Nat×Nat)
  |_,[]=>[]
  |b,k::ks=>(k,b)::MP (b+1) ks
def jA(k:Nat):List Nat->Bool
  |[]=>false
  |x::l=>match ab3 k x with
    |true=>true
    |false=>jA k l
def q7(s:AS):Nat->List Nat->List Nat->List Nat
  |0,_,acc=>acc
  |n+1,ks,acc=>match ks with
    |[]=>acc
    |k::ks=>match jA k acc with
      |true=>q7 s n ks acc
      |false=>match s.blk k with
        |some z=>q7 s n (z.nm++ks) (acc++[k])
        |none=>q7 s n ks acc
def pv(s:AS):List Nat->Hp
  |[]=>[]
  |k::ks=>match s.blk k with
    |some z=>(k,some z)::pv s ks
    |none=>pv s ks
theorem vQ{s:AS}:∀{ks:List Nat}{k:Nat}{z:Blk},lk (pv s ks) k=some z->lk s.hp k=some z
 |[],k,z,h=>by cases h
 |k'::ks,k,z,h=>by
  unfold pv at h;split at h
  ·rename_i y hy;rw[aD]at h;split at h
   ·rename_i e;cases h;rw[e];exact hy
   ·exact vQ h
  ·exact vQ h
structure Ent(P:ahb) where
  f:FuncId
  xs:List AV
  r:AV
  H':Hp
  con:Con P f xs [] r H'
structure FE(P:ahb) where
  f:FuncId
  fn:Func
  c:Code
  rs:List ResultVar
  hf:P.funcs[f]?=some fn
  hb:fn.body=some c
  hn : (fn.name == "runtime.NumGoroutine") = false
  hrs:fn.results=rs.toArray
structure Env(P:ahb) where
  orc:FuncId->Option (List AV->Option (Ent P))
  fe:FuncId->Option (FE P)
  mt:FuncId->Bool
def eT:ag9->ag9->Bool
  | .int k a,.int k' b=>ab3 (en k) (en k')&&aa .eql a b
  | .bool a,.bool b=>a==b
  | .nilIface,.nilIface=>true
  | .string a,.string b=>mC a b
  | .slice none 0 0,.slice none 0 0=>true
  | .func (.func f) ⟨[]⟩ ⟨[]⟩,.func (.func g) ⟨[]⟩ ⟨[]⟩=>ab3 f g
  | .nilFunc,.nilFunc=>true
  | .pointer none,.pointer none=>true
  | .iface T v,.iface T' v'=>ab3 T T'&&eT v v'
  |_,_=>false
theorem SA{a b:ByteArray}(h:mC a b=true):a=b:=by
 unfold mC at h;rw[Ce]at h;have h:=eq_of_beq h;have e:∀c:ByteArray,c=⟨⟨c.data.toList⟩⟩:=fun c=>by cases c;rfl
 rw[e a,e b,h]
theorem wJ:∀(a b:ag9),eT a b=true->a=b
 | .iface T v,b,h=>by
  cases b with
  |iface T' v' =>
   simp only[eT,afp]at h;rw[afo h.1,wJ v v' h.2]
  |_=>simp[eT]at h
 | .int k a,b,h=>by
  cases b with
  |int k' b =>
   simp only[eT,afp]at h;rw[mW h.1,eq_of_beq (show(a==b)=true from h.2)]
  |_=>simp[eT]at h
 | .bool a,b,h=>by
  cases b with
  |bool b=>simp only[eT,beq_iff_eq]at h;rw[h]
  |_=>simp[eT]at h
 | .string a,b,h=>by
  cases b with
  |string b=>simp only[eT]at h;rw[SA h]
  |_=>simp[eT]at h
 | .nilIface,b,h=>by
  cases b <;> simp[eT]at h
  rfl
 | .slice x n c,b,h=>by
  unfold eT at h;split at h <;> simp_all
 | .float ..,b,h=>by simp[eT]at h
 | .complex ..,b,h=>by simp[eT]at h
 | .pointer p,b,h=>by
  unfold eT at h;split at h <;> simp_all
 | .map _,b,h=>by simp[eT]at h
 | .chan _,b,h=>by simp[eT]at h
 | .func f x y,b,h=>by
  unfold eT at h;split at h <;> first |(simp_all;done) |(simp_all;exact afo h)
 | .nilFunc,b,h=>by
  unfold eT at h;split at h <;> simp_all
 | .agg _,b,h=>by simp[eT]at h
 | .tuple _,b,h=>by simp[eT]at h
mutual
def eC:AV->AV->Bool
  | .v a,y=>match y with
    | .v b=>eT a b
    | .lst _ es=>match es with
      |[]=>match a with
        | .slice _ 0 _=>true
        |_=>false
      |_=>false
    |_=>false
  | .lst sz es,y=>match y with
    | .lst sz' es'=>ab3 sz sz'&&oY es es'
    |_=>false
  | .agg cs,y=>match y with
    | .agg cs'=>oT cs cs'
    |_=>false
  | .tup cs,y=>match y with
    | .tup cs'=>ri cs cs'
    |_=>false
  |_,_=>false
def oT:List AV->List AV->Bool
  |[],y=>match y with
    |[]=>true
    |_=>false
  |x::l,y=>match y with
    |x'::l'=>x'.one&&eC x x'&&oT l l'
    |[]=>false
def ri:List AV->List AV->Bool
  |[],y=>match y with
    |[]=>true
    |_=>false
  |x::l,y=>match y with
    |x'::l'=>eC x x'&&ri l l'
    |[]=>false
def oY:List AV->List AV->Bool
  |[],y=>match y with
    |[]=>true
    |_=>false
  |x::l,y=>match y with
    |x'::l'=>fU x x'&&oY l l'
    |[]=>false
def fU:AV->AV->Bool
  | .agg cs,y=>match y with
    | .agg cs'=>oT cs cs'
    |_=>false
  | .v a,y=>match y with
    | .v b=>eT a b&&b.oneCell'
    | .lst _ es=>match es with
      |[]=>match a with
        | .slice _ 0 _=>true
        |_=>false
      |_=>false
    |_=>false
  | .lst sz es,y=>match y with
    | .lst sz' es'=>ab3 sz sz'&&oY es es'
    |_=>false
  |_,_=>false
end
theorem HP{a:ag9}{y:AV}(h:eC (.v a) y=true):Sub (.v a) y:=by
 cases y with
 |v b=>simp only[eC]at h;rw[wJ _ _ h];exact .refl _
 |lst sz es =>
  cases es with
  |nil =>
   cases a with
   |slice x n c =>
    cases n with
    |zero=>exact .nil _ _ _
    |succ n=>simp[eC]at h
   |_=>simp[eC]at h
  |cons e es=>simp[eC]at h
 |_=>simp[eC]at h
mutual
theorem DO:∀(x y:AV),eC x y=true->Sub x y
 | .v a,y,h=>HP h
 | .lst sz es,y,h=>by
  cases y with
  |lst sz' es' =>
   simp only[eC,afp]at h;cases afo h.1;exact Sub.lst (vP es es' h.2).1 (vP es es' h.2).2
  |_=>simp[eC]at h
 | .agg cs,y,h=>by
  cases y with
  |agg cs' =>
   simp only[eC]at h;exact Sub.agg (xB cs cs' h).1 (xB cs cs' h).2
  |_=>simp[eC]at h
 | .tup cs,y,h=>by
  cases y with
  |tup cs' =>
   simp only[eC]at h;exact Sub.tup (Gj cs cs' h)
  |_=>simp[eC]at h
 | .iptr _,y,h=>by simp[eC]at h
 | .ms ..,y,h=>by simp[eC]at h
 | .ptr ..,y,h=>by simp[eC]at h
 | .eptr ..,y,h=>by simp[eC]at h
 | .fn ..,y,h=>by simp[eC]at h
 | .opt ..,y,h=>by simp[eC]at h
 | .yl ..,y,h=>by simp[eC]at h
 | .cl ..,y,h=>by simp[eC]at h
theorem xB:∀(l l':List AV),oT l l'=true->SubL l l'/\l'.all AV.one=true
 |[],[],h=>⟨.nil,rfl⟩
 |[],_::_,h=>by simp[oT]at h
 |_::_,[],h=>by simp[oT]at h
 |x::l,x'::l',h=>by
  simp only[oT,afp]at h;obtain⟨h1,h2⟩:=xB l l' h.2;exact⟨.cons (DO x x' h.1.2) h1,by simp only[List.all_cons,h.1.1,h2,Bool.and_self]⟩
theorem Gj:∀(l l':List AV),ri l l'=true->SubL l l'
 |[],[],h=>.nil
 |[],_::_,h=>by simp[ri]at h
 |_::_,[],h=>by simp[ri]at h
 |x::l,x'::l',h=>by
  simp only[ri,afp]at h;exact .cons (DO x x' h.1) (Gj l l' h.2)
theorem vP:∀(l l':List AV),oY l l'=true->l.length=l'.length/\∀(i:Nat)(e e':AV),l[i]?=some e->l'[i]?=some e'->kr e e'
 |[],[],h=>⟨rfl,fun i e e' h=>by simp at h⟩
 |[],_::_,h=>by simp[oY]at h
 |_::_,[],h=>by simp[oY]at h
 |x::l,x'::l',h=>by
  simp only[oY,afp]at h;obtain⟨h1,h2⟩:=vP l l' h.2;refine⟨by simp[h1],?_⟩;intro i e e' he he';cases i with
  |zero=>simp at he he';subst he;subst he';exact Ro x x' h.1
  |succ i=>exact h2 i e e' (by simpa using he) (by simpa using he')
theorem Ro:∀(x y:AV),fU x y=true->kr x y
 | .v a,y,h=>by
  have one:∀{z:AV},z.cells=[z]->z.one=true->Sub (.v a) z->kr (.v a) z:=by
   intro z h1 h2 h3;refine⟨by rw[h1];rfl,?_⟩;intro j x y hx hy;rw[h1]at hy;cases j with
   |zero=>simp[AV.cells]at hx hy;subst hx;subst hy;exact⟨h2,h3⟩
   |succ j=>simp at hy
  cases y with
  |v b =>
   simp only[fU,afp]at h;exact one rfl h.2 (by rw[wJ _ _ h.1];exact .refl _)
  |lst sz es =>
   refine one rfl rfl (HP ?_);cases es with
   |nil=>unfold fU at h;unfold eC;exact h
   |cons=>simp[fU]at h
  |_=>simp[fU]at h
 | .lst sz es,y,h=>by
  cases y with
  |lst sz' es' =>
   simp only[fU,afp]at h;cases afo h.1;refine⟨rfl,?_⟩;intro j x y hx hy;cases j with
   |zero =>
    simp[AV.cells]at hx hy;subst hx;subst hy
    exact⟨rfl,Sub.lst (vP es es' h.2).1 (vP es es' h.2).2⟩
   |succ j=>simp[AV.cells]at hy
  |_=>simp[fU]at h
 | .agg cs,y,h=>by
  cases y with
  |agg cs' =>
   simp only[fU]at h;obtain⟨h1,h2⟩:=xB cs cs' h;exact⟨h1.len,fun j x y hx hy=>⟨afy.1 h2 y (afl hy),h1.get j x y hx hy⟩⟩
  |_=>simp[fU]at h
 | .tup ..,y,h=>by simp[fU]at h
 | .iptr _,y,h=>by simp[fU]at h
 | .ms ..,y,h=>by simp[fU]at h
 | .ptr ..,y,h=>by simp[fU]at h
 | .eptr ..,y,h=>by simp[fU]at h
 | .fn ..,y,h=>by simp[fU]at h
 | .opt ..,y,h=>by simp[fU]at h
 | .yl ..,y,h=>by simp[fU]at h
 | .cl ..,y,h=>by simp[fU]at h
end
inductive OR where
  |ok (u:Out)
  |need (k:Nat)
  |no
inductive CR where
  |ok (H:Hp) (r:AV) (H':Hp)
  |need (k:Nat)
  |no
def oO:List AV->List AV->Bool
  |[],y=>match y with
    |[]=>true
    |_=>false
  |x::l,y=>match y with
    |x'::l'=>eC x x'&&oO l l'
    |[]=>false
theorem MZ:∀{l l':List AV},oO l l'=true->SubL l l'
 |[],[],h=>.nil
 |[],_::_,h=>by simp[oO]at h
 |_::_,[],h=>by simp[oO]at h
 |x::l,x'::l',h=>by
  simp only[oO,afp]at h;exact .cons (DO x x' h.1) (MZ h.2)
def mx:Nat->List Nat->Nat
  |m,[]=>m
  |m,k::l=>match acm m k&&acm k 1000 with
    |true=>mx k l
    |false=>mx m l
def CJ(s:AS):Nat->Nat->Nat
  |0,k=>k
  |n+1,k=>match s.freshB k with
    |true=>k
    |false=>CJ s n (k+1)
def nxt(s:AS)(av:List Nat):Nat:=CJ s 100 (mx (mx 299 (s.hp.map (·.1))) av+1)
mutual
theorem AV.pm_id(σ:Nat->Nat):∀x:AV,x.nm=[]->x.pm σ=x
 | .ms k sz off len,h=>by simp[AV.nm]at h
 | .ptr k off,h=>by simp[AV.nm]at h
 | .eptr k sz i off,h=>by simp[AV.nm]at h
 | .yl k,h=>by simp[AV.nm]at h
 | .agg cs,h=>by simp only[AV.pm];rw[AV.pms_id σ cs (by simpa only[AV.nm]using h)]
 | .tup cs,h=>by simp only[AV.pm];rw[AV.pms_id σ cs (by simpa only[AV.nm]using h)]
 | .fn f cs,h=>by simp only[AV.pm];rw[AV.pms_id σ cs (by simpa only[AV.nm]using h)]
 | .opt b x,h=>by simp only[AV.pm];rw[AV.pm_id σ x (by simpa only[AV.nm]using h)]
 | .v x,h=>rfl
 | .lst sz l,h=>rfl
 | .iptr l,h=>rfl
 | .cl f cs ds,h=>rfl
theorem AV.pms_id(σ:Nat->Nat):∀l:List AV,AV.nms l=[]->AV.pms σ l=l
 |[],h=>rfl
 |x::l,h=>by
  simp only[AV.nms,List.append_eq_nil_iff]at h;simp only[AV.pms];rw[AV.pm_id σ x h.1,AV.pms_id σ l h.2]
end
theorem X2{f:FuncId}{xs:List AV}{r:AV}{H':Hp}(h:Con P f xs [] r H')(hx:AV.nms xs=[])(k d:Nat):Con P f xs [] (r.pm (tr k d)) (fN (tr k d) H'):=by
 have h1:=h.pm (zw k d);rw[<- AV.pms_eq,AV.pms_id _ xs hx]at h1;exact h1
abbrev fY:=List Nat->FuncId->List AV->Hp->Option (AV×Hp)
def fY.Ok(P:ahb)(F:fY):Prop:=∀av f xs H r H',F av f xs H=some (r,H')->Con P f xs H r H'
def E0(s:AS):List Nat->Option Nat
  |[]=>none
  |k::ks=>match s.blk k with
    |some (.row _ _)=>some k
    |_=>E0 s ks
def xz(F:fY)(s:AS)(av:List Nat)(f:FuncId)(xs:List AV):CR :=
  match pv s (q7 s 300 (AV.nms xs) [])with
  |H=>match F (s.hp.map (·.1)++av) f xs H with
    |some (r,H')=>.ok H r H'
    |none=>.no
def tu(E:Env P)(F:fY)(s:AS)(av:List Nat)(f:FuncId)(xs:List AV):CR:=match E.mt f with
  |true=>xz F s av f xs
  |false=>match E0 s (AV.nms xs)with
    |some k=>.need k
    |none=>xz F s av f xs
def qj(E:Env P)(F:fY)(s:AS)(av:List Nat)(f:FuncId)(xs:List AV):CR:=match E.orc f with
  |some g=>match AV.nms xs with
    |k::_=>.need k
    |[]=>match g xs with
      |some e=>match ab3 e.f f&&oO xs e.xs with
        |true=>match e.H' with
          |(k,some z)::l=>.ok [] (e.r.pm (tr k (nxt s av))) (fN (tr k (nxt s av)) e.H')
          |_=>.ok [] e.r e.H'
        |false=>tu E F s av f xs
      |none=>tu E F s av f xs
  |none=>tu E F s av f xs
theorem Ml{F:fY}(hF:F.Ok P){s:AS}{av:List Nat}{f:FuncId}{xs:List AV}{H H':Hp}{r:AV}(h:xz F s av f xs=.ok H r H'):Con P f xs H r H'/\∀k z,lk H k=some z->s.blk k=some z:=by
 unfold xz at h;simp only at h;split at h
 ·rename_i h1;cases h;exact⟨hF _ _ _ _ _ _ h1,fun k z hz=>vQ hz⟩
 ·cases h
theorem El{E:Env P}{F:fY}(hF:F.Ok P){s:AS}{av:List Nat}{f:FuncId}{xs:List AV}{H H':Hp}{r:AV}(h:tu E F s av f xs=.ok H r H'):Con P f xs H r H'/\∀k z,lk H k=some z->s.blk k=some z:=by
 unfold tu at h;split at h
 ·exact Ml hF h
 ·split at h
  ·cases h
  ·exact Ml hF h
theorem tp{E:Env P}{F:fY}(hF:F.Ok P){s:AS}{av:List Nat}{f:FuncId}{xs:List AV}{H H':Hp}{r:AV}(h:qj E F s av f xs=.ok H r H'):Con P f xs H r H'/\∀k z,lk H k=some z->s.blk k=some z:=by
 unfold qj at h;split at h
 ·split at h
  ·cases h
  ·rename_i hn;split at h
   ·rename_i e he;split at h
    ·rename_i hc;simp only[afp]at hc;have hf:=afo hc.1;subst hf;have h9:=Con.sA (MZ hc.2) e.con;split at h
     ·rename_i k z l _;obtain⟨rfl,rfl,rfl⟩:=CR.ok.inj h;exact⟨X2 h9 hn _ _,fun k z hz=>by cases hz⟩
     ·obtain⟨rfl,rfl,rfl⟩:=CR.ok.inj h;exact⟨h9,fun k z hz=>by cases hz⟩
    ·exact El hF h
   ·exact El hF h
 ·exact El hF h
theorem P1{s:AS}{R:Array Oper}{d q sz cap0:Nat}{a0:Option Addr}{xs:List AV}{x y:ag8}{T E t:aha}{ti te:TI}{pos:String}{after:Array Edge}
  (hx:Ev s x (.v (.slice a0 0 0))) (hy:Ev s y (.lst sz xs)) (hT:au P T=some ti) (hkd:ti.k=.slice E) (hE:au P E=some te)
  (hsz:te.size=sz) (hz0:(ab3 te.zero.length te.size&&acm 0 te.size&&acm 0 te.bytes)=true) (hb:(0+xs.length)*te.bytes<=140737488355328) (hdk:ab3 d q=false)
  (hN:acm d N=true) :
  Step P N R s ⟨some d,.call ⟨.builtin .append,#[x,y],#[T,T]⟩,t,pos,after,none⟩
   ⟨some (.ms d sz 0 (0+xs.length)),[(d,some (.row sz ([]++xs))),(q,none)],aj x++aj y,[]⟩:=by
 refine⟨fun s' hag hnew C m a w Q next hC hr hnext=>?_⟩
 have hq:s'.Fresh q:=by
  rcases hnew q (by simp)with h |h
  ·cases h
  ·exact h
 have hd:s'.Fresh d:=by
  rcases hnew d (by simp)with h |h
  ·cases h
  ·exact h
 have hdq:=acw hdk;have hx':=hx.agree hag (fun _ h=>aft.2 (.inl h));have hy':=hy.agree hag (fun _ h=>aft.2 (.inr h))
 let s2:AS:=⟨s'.sl,(q,some (.row sz []))::s'.hp⟩
 have evs:∀{o:ag8}{z:AV},Ev s' o z->Ev s2 o z:=fun h=>by
  cases h with
  |tmp h=>exact .tmp h
  |opt h hb=>exact .opt h hb
  |const c=>exact .const c
  |func f=>exact .func f
 have st:=Hn (P:=P) (N:=N) (R:=R) (s:=s2) (d:=d) (k:=q) (t:=t) (pos:=pos) (after:=after) (es:=[]) (evs hx') (fun g S m v h=>Sub.nM a0 q sz g S m v h) (by simp[s2,AS.blk,aD]) rfl (evs hy') hT hkd hE hsz hz0 hb hdk hN;refine st.run s2 ⟨fun _ _=>rfl,fun _ _=>rfl⟩ ?_ C _ a w Q next hC (hr.virt sz hq) (fun m' a' w' hr'=>hnext m' a' w' ?_)
 ·intro k hk;simp only[agv,map_nil,agd,af8,or_false]at hk;rcases hk with rfl |rfl
  ·exact .inr (Fresh.row hd hdq (fun h=>h))
  ·exact .inl (by simp)
 ·refine RelM.congr ?_ ?_ hr'
  ·intro t;rfl
  ·intro k;simp only[AS.app,AS.blk,s2,cons_append,nil_append,aD];split
   ·rfl
   ·split <;> rfl
mutual
def jq:AV->AV->Bool
  | .v a,y=>match y with
    | .v b=>eT a b
    |_=>false
  | .lst sz es,y=>match y with
    | .lst sz' es'=>ab3 sz sz'&&jW es es'
    |_=>false
  | .agg cs,y=>match y with
    | .agg cs'=>jW cs cs'
    |_=>false
  | .tup cs,y=>match y with
    | .tup cs'=>jW cs cs'
    |_=>false
  | .iptr cs,y=>match y with
    | .iptr cs'=>jW cs cs'
    |_=>false
  | .ms k sz off len,y=>match y with
    | .ms k' sz' off' len'=>ab3 k k'&&(ab3 sz sz'&&(ab3 off off'&&ab3 len len'))
    |_=>false
  | .ptr k off,y=>match y with
    | .ptr k' off'=>ab3 k k'&&ab3 off off'
    |_=>false
  | .eptr k sz i off,y=>match y with
    | .eptr k' sz' i' off'=>ab3 k k'&&(ab3 sz sz'&&(ab3 i i'&&ab3 off off'))
    |_=>false
  | .fn f cs,y=>match y with
    | .fn f' cs'=>ab3 f f'&&jW cs cs'
    |_=>false
  | .opt _ _,_=>false
  | .yl _,_=>false
  | .cl _ _ _,_=>false
def jW:List AV->List AV->Bool
  |[],y=>match y with
    |[]=>true
    |_=>false
  |x::l,y=>match y with
    |x'::l'=>jq x x'&&jW l l'
    |[]=>false
end
mutual
theorem Tx:∀(x y:AV),jq x y=true->x=y
 | .v a,y,h=>by cases y <;> simp[jq]at h;rw[wJ _ _ h]
 | .lst sz es,y,h=>by
  cases y <;> simp only[jq,afp,aew]at h
  rw[afo h.1,oD _ _ h.2]
 | .agg cs,y,h=>by cases y <;> simp only[jq,aew]at h;rw[oD _ _ h]
 | .tup cs,y,h=>by cases y <;> simp only[jq,aew]at h;rw[oD _ _ h]
 | .iptr cs,y,h=>by cases y <;> simp only[jq,aew]at h;rw[oD _ _ h]
 | .ms k sz off len,y,h=>by
  cases y <;> simp only[jq,afp,aew]at h
  rw[afo h.1,afo h.2.1,afo h.2.2.1,afo h.2.2.2]
 | .ptr k off,y,h=>by
  cases y <;> simp only[jq,afp,aew]at h
  rw[afo h.1,afo h.2]
 | .eptr k sz i off,y,h=>by
  cases y <;> simp only[jq,afp,aew]at h
  rw[afo h.1,afo h.2.1,afo h.2.2.1,afo h.2.2.2]
 | .fn f cs,y,h=>by
  cases y <;> simp only[jq,afp,aew]at h
  rw[afo h.1,oD _ _ h.2]
 | .opt ..,y,h=>by simp[jq]at h
 | .yl ..,y,h=>by simp[jq]at h
 | .cl ..,y,h=>by simp[jq]at h
theorem oD:∀(l l':List AV),jW l l'=true->l=l'
 |[],[],h=>rfl
 |[],_::_,h=>by simp[jW]at h
 |_::_,[],h=>by simp[jW]at h
 |x::l,x'::l',h=>by
  simp only[jW,afp]at h;rw[Tx x x' h.1,oD l l' h.2]
end
def BU:Blk->Blk->Bool
  | .box cs,.box cs'=>jW cs cs'
  | .row sz es,.row sz' es'=>ab3 sz sz'&&jW es es'
  |_,_=>false
theorem Po{x y:Blk}(h:BU x y=true):x=y:=by
 cases x <;> cases y <;> simp only[BU,aew]at h
 ·rw[oD _ _ h]
 ·simp only[afp]at h;rw[afo h.1,oD _ _ h.2]
theorem mn{k:Nat}:∀{l:List Nat},jA k l=true↔k∈l
 |[]=>by simp[jA]
 |x::l=>by
  unfold jA;split
  ·rename_i h;simp[afo h]
  ·rename_i h;rw[mn (l:=l)];simp[acw h]
def fM(H:Hp):List Nat->Hp->Hp
  |_,[]=>[]
  |seen,(k,x)::l=>match jA k seen with
    |true=>fM H seen l
    |false=>match x with
      |some z=>match lk H k with
        |some y=>match BU y z with
          |true=>fM H (k::seen) l
          |false=>(k,some z)::fM H (k::seen) l
        |none=>(k,some z)::fM H (k::seen) l
      |none=>(k,none)::fM H (k::seen) l
theorem DV{H R:Hp}(hR:∀t y,lk H t=some y->lk R t=some y):∀{l:Hp}{seen:List Nat}{t:Nat},t∉seen->lk (fM H seen l++R) t=if t∈l.map (·.1)then lk l t else lk R t
 |[],seen,t,h=>by simp[fM]
 |(k,x)::l,seen,t,h=>by
  have rest:t≠k->lk (fM H (k::seen) l++R) t=if t∈((k,x)::l).map (·.1)then lk ((k,x)::l) t else lk R t:=by
   intro hne;rw[DV hR (fun hh=>by rcases agd.1 hh with e |e;exact hne e;exact h e)];simp only[agv,agd,hne,false_or];rw[aD,agy hne]
  have head:lk ((k,x)::(fM H (k::seen) l++R)) t=if t∈((k,x)::l).map (·.1)then lk ((k,x)::l) t else lk R t:=by
   rw[aD]
   by_cases e:t=k
   ·rw[agz e,aD,agz e];simp[e]
   ·rw[agy e,rest e]
  unfold fM;split
  ·rename_i hm;have hne:t≠k:=fun e=>h (by rw[e]; exact mn.1 hm)
   rw[DV hR h];simp only[agv,agd,hne,false_or];rw[aD,agy hne]
  ·split
   ·rename_i z;split
    ·rename_i y hy;split
     ·rename_i he
      by_cases e:t=k
      ·rw[chg_none (by rw[e];exact agt ..),e,hR k y hy,Po he];simp[aD]
      ·exact rest e
     ·exact head
    ·exact head
   ·exact head
where
 chg_none {H R:Hp}:∀{l:Hp}{seen:List Nat}{t:Nat},t∈seen->lk (fM H seen l++R) t=lk R t
  |[],seen,t,h=>rfl
  |(k,x)::l,seen,t,h=>by
   unfold fM;split
   ·exact chg_none h
   ·rename_i hm;have hne:t≠k:=fun e=>by rw[e] at h; rw[mn.2 h] at hm; cases hm
    have ih:=chg_none (H:=H) (R:=R) (l:=l) (agi k h);split
    ·split
     ·split
      ·exact ih
      ·show lk (_::(_++R)) t=_;rw[aD,agy hne];exact ih
     ·show lk (_::(_++R)) t=_;rw[aD,agy hne];exact ih
    ·show lk (_::(_++R)) t=_;rw[aD,agy hne];exact ih
theorem Ac{H:Hp}:∀{l:Hp}{seen:List Nat}{k:Nat},k∈l.map (·.1)->k∉seen->k∈(fM H seen l).map (·.1)\/∃y,lk H k=some y
 |[],seen,k,h,_=>by simp at h
 |(k',x)::l,seen,k,h,hs=>by
  unfold fM
  by_cases e:k=k'
  ·subst e
   have hm:jA k seen=false:=by
    cases hq:jA k seen with
    |true=>exact ag5 (mn.1 hq) hs
    |false=>rfl
   simp only[hm];split
   ·split
    ·rename_i y hy;split
     ·exact .inr ⟨y,hy⟩
     ·exact .inl (by simp)
    ·exact .inl (by simp)
   ·exact .inl (by simp)
  ·have h':k∈l.map (·.1):=by simpa[e] using h
   have hs':k∉k'::seen:=fun hh=>by rcases agd.1 hh with e' |e';exact e e';exact hs e'
   have ih1:=Ac (H:=H) h' hs;have ih2:=Ac (H:=H) h' hs';split
   ·exact ih1
   ·split
    ·split
     ·split
      ·exact ih2
      ·rcases ih2 with h |h
       ·exact .inl (agi _ h)
       ·exact .inr h
     ·rcases ih2 with h |h
      ·exact .inl (agi _ h)
      ·exact .inr h
    ·rcases ih2 with h |h
     ·exact .inl (agi _ h)
     ·exact .inr h
theorem uu{R:Array Oper}{s:AS}{o:Oper}{x:Option AV}{H U:Hp}{rt:List Nat}(hH:∀k z,lk H k=some z->s.blk k=some z)(h:Step P N R s o ⟨x,U,rt,H.map (·.1)⟩) :
  Step P N R s o ⟨x,fM H [] U,rt,H.map (·.1)⟩:=by
 refine⟨fun s' hag hnew C m a w Q next hC hr hnext=>?_⟩;have hH':∀k z,lk H k=some z->lk s'.hp k=some z:=fun k z hz=>(hag.2 k (jD hz)).trans (hH k z hz)
 refine h.run s' hag (fun k hk=>?_) C m a w Q next hC hr (fun m' a' w' hr'=>hnext m' a' w' ?_)
 ·rcases Ac (H:=H) hk (seen:=[]) (by simp) with h1 | ⟨y,hy⟩
  ·exact hnew k h1
  ·exact .inl (jD hy)
 ·refine RelM.congr (s:=s'.app o.dst ⟨x,U,rt,H.map (·.1)⟩) (fun t=>rfl) (fun k=>?_) hr';simp only[AS.blk,AS.app];rw[DV hH' (by simp),ke]
variable[Inhabited (Tys P)]
def Ey(P:ahb)[Inhabited (Tys P)](s:AS)(d:Nat)(x y:ag8)(T:aha):OR:=match c9 s y with
  |some (.lst sz xs)=>match cg P T with
    |some ti=>match ti.k with
      | .slice E=>match cg P E with
        |some te=>match ab3 te.size sz&&(ab3 te.zero.length te.size&&acm 0 te.size&&acm 0 te.bytes)with
          |true=>match c9 s x with
            |some (.ms k sz' off len)=>match s.blk k with
              |some (.row sz2 es)=>match ab3 sz' sz&&ab3 off 0&&ab3 sz2 sz&&ab3 len es.length&&Nat.ble ((len+xs.length)*te.bytes) 140737488355328 with
                |true=>match ab3 d k with
                  |true=>.no
                  |false=>match g9 (es++xs)with
                    |some l=>wN (len+xs.length) fun n=>.ok ⟨some (.ms d sz 0 n),[(d,some (.row sz l)),(k,none)],aj x++aj y,[k]⟩
                    |none=>.no
                |false=>.no
              |_=>.no
            |some (.v (.slice a0 0 0))=>match Nat.ble ((0+xs.length)*te.bytes) 140737488355328 with
              |true=>match ab3 d 299 with
                |true=>.no
                |false=>match g9 ([]++xs)with
                  |some l=>wN (0+xs.length) fun n=>.ok ⟨some (.ms d sz 0 n),[(d,some (.row sz l)),(299,none)],aj x++aj y,[]⟩
                  |none=>.no
              |false=>.no
            |_=>.no
          |false=>.no
        |none=>.no
      |_=>.no
    |none=>.no
  |some (.ms k _ _ _)=>.need k
  |_=>.no
theorem O5{s:AS}{R:Array Oper}{d:Nat}{x y:ag8}{T t:aha}{u:Out}{pos:String}{after:Array Edge}(h:Ey P s d x y T=.ok u)(hN:acm d N=true) :
  Step P N R s ⟨some d,.call ⟨.builtin .append,#[x,y],#[T,T]⟩,t,pos,after,none⟩ u:=by
 unfold Ey at h;split at h
 ·rename_i sz xs hy;split at h
  ·rename_i ti hT;split at h
   ·rename_i E hk;split at h
    ·rename_i te hE;split at h
     ·rename_i hc;simp only [afp] at hc;have hsz:=afo hc.1;have hz0:(ab3 te.zero.length te.size && acm 0 te.size && acm 0 te.bytes)=true:=by simp only [afp]; exact hc.2
      split at h
      ·rename_i k sz' off len hx;split at h
       ·rename_i sz2 es hb;split at h
        ·rename_i hg;simp only[afp,acl]at hg;obtain⟨⟨⟨⟨g1,g2⟩,g3⟩,g4⟩,g5⟩:=hg;cases afo g1;cases afo g2;cases afo g3;split at h
         ·cases h
         ·rename_i hdk;split at h
          ·rename_i l hl;cases jn hl;rw[oL]at h;cases h
           exact eg (bI hx) hb (afo g4) (bI hy) (bX hT) hk (bX hE) hsz hz0 g5 hdk hN
          ·cases h
        ·cases h
       ·cases h
      ·rename_i a0 hx;split at h
       ·rename_i g5;rw[acl]at g5;split at h
        ·cases h
        ·rename_i hdk;split at h
         ·rename_i l hl;cases jn hl;rw[oL]at h;cases h
          exact P1 (cap0:=0) (bI hx) (bI hy) (bX hT) hk (bX hE) hsz hz0 g5 hdk hN
         ·cases h
       ·cases h
      ·cases h
     ·cases h
    ·cases h
   ·cases h
  ·cases h
 ·cases h
 ·cases h
def AE(P:ahb)[Inhabited (Tys P)](s:AS)(T:aha)(x y:ag8):OR:=match c9 s x with
  |some (.eptr k sz i off)=>match c9 s y with
    |some v=>match v.nm with
      |k'::_=>.need k'
      |[]=>match s.blk k with
        |some (.row sz' es)=>match es[i]? with
          |some e=>match cg P T with
            |some ti=>match ab3 sz sz'&&v.ok&&ab3 v.cells.length ti.size&&Nat.ble (off+ti.size) e.cells.length with
              |true=>match e with
                | .agg cs=>match g9 (over cs off v.cells)with
                  |some l=>match g9 (es.set i (.agg l))with
                    |some es'=>.ok ⟨none,[(k,some (.row sz es'))],aj x++aj y,[k]⟩
                    |none=>.no
                  |none=>.no
                |e=>match ab3 off 0&&ab3 v.cells.length 1 with
                  |true=>match g9 (es.set i v)with
                    |some es'=>.ok ⟨none,[(k,some (.row sz es'))],aj x++aj y,[k]⟩
                    |none=>.no
                  |false=>.no
              |false=>.no
            |none=>.no
          |none=>.no
        |_=>.no
    |none=>.no
  |_=>.no
theorem WH{e:AV}(h:∀cs,e≠.agg cs):e.cells=[e]:=by
 cases e <;> first |rfl |exact ag5 rfl (h _)
theorem Vo{s:AS}{R:Array Oper}{x y:ag8}{T t:aha}{u:Out}{pos:String}{after:Array Edge}(h:AE P s T x y=.ok u) :
  Step P N R s ⟨none,.store T x y,t,pos,after,none⟩ u:=by
 unfold AE at h;split at h
 ·rename_i k sz i off hx;split at h
  ·rename_i v hy;split at h
   ·cases h
   ·rename_i hnm;split at h
    ·rename_i sz' es hb;split at h
     ·rename_i e he;split at h
      ·rename_i ti hT;split at h
       ·rename_i hc;simp only[afp]at hc;obtain⟨⟨⟨c1,c2⟩,c3⟩,c4⟩:=hc;cases afo c1;split at h
        ·rename_i cs;split at h
         ·rename_i l hl;split at h
          ·rename_i es' hes;cases h;cases jn hl;cases jn hes;exact DC (bI hx) hb he (bI hy) c2 hnm (bX hT) c3 c4 rfl
          ·cases h
         ·cases h
        ·rename_i hne;split at h
         ·rename_i hg;simp only[afp]at hg;split at h
          ·rename_i es' hes;cases h;cases jn hes;cases afo hg.1;refine DC (bI hx) hb he (bI hy) c2 hnm (bX hT) c3 c4 ?_;rw[WH hne];have:=afo hg.2;simp[over,this]
          ·cases h
         ·cases h
       ·cases h
      ·cases h
     ·cases h
    ·cases h
  ·cases h
 ·cases h
def AR(P:ahb)[Inhabited (Tys P)](d:Nat)(T:aha)(n:Int)(rt:List Nat):OR:=match cg P T with
  |some ti=>match ti.k with
    | .slice E=>match cg P E with
      |some te=>match te.zero.all Value.oneCell'&&(ab3 te.zero.length te.size&&acm 0 te.size&&acm 0 te.bytes&&(te.ag||ab3 te.size 1))with
        |true=>match n with
          | .ofNat n=>match Nat.ble (n*te.bytes) 281474976710656 with
            |true=>match g9 (ad7 n (jH te.ag (te.zero.map .v)))with
              |some l=>.ok ⟨some (.ms d te.size 0 n),[(d,some (.row te.size l))],rt,[]⟩
              |none=>.no
            |false=>.no
          | .negSucc _=>.no
        |false=>.no
      |none=>.no
    |_=>.no
  |none=>.no
theorem QZ{s:AS}{R:Array Oper}{d:Nat}{x:ag8}{T t:aha}{n:Int}{u:Out}{pos:String}{after:Array Edge}(hx:Ev s x (.v (.int .i64 n)))(h:AR P d T n (aj x)=.ok u)(hN:acm d N=true) :
  Step P N R s ⟨some d,.makeSlice T x x,t,pos,after,none⟩ u:=by
 unfold AR at h;split at h
 ·rename_i ti hT;split at h
  ·rename_i E hk;split at h
   ·rename_i te hE;split at h
    ·rename_i hc;rw[afp]at hc;split at h
     ·rename_i n;split at h
      ·rename_i hb;rw[acl]at hb;split at h
       ·rename_i l hl;cases h;cases jn hl;exact gX (n:=Int.ofNat n) hx (bX hT) hk (bX hE) hc.1 hc.2 (aeg _) (by simp only[aec];omega) hN
       ·cases h
      ·cases h
     ·cases h
    ·cases h
   ·cases h
  ·cases h
 ·cases h
theorem ZW{P:ahb}{N:Nat}{s:AS}{R:Array Oper}{d f:Nat}{g:ag8}{args:Array ag8}{ts:Array aha}{xs:List AV}{H H':Hp}{r:AV}{t:aha}{pos:String}{after:Array Edge}
  (hg:Ev s g (.v (.func (.func f) #[] #[]))) (hcon:Con P f xs H r H') (ha:EvL s args.toList xs) (hH:∀k z,lk H k=some z->s.blk k=some z) (hok:fA s H H' r=true) (hN:acm d N=true) :
  Step P N R s ⟨some d,.call ⟨.value g,args,ts⟩,t,pos,after,none⟩ ⟨some r,H'++cq H,aj g++cQ args.toList,H.map (·.1)⟩ :=
 uU rfl (fun d' h=>by cases h; exact ⟨hN,rfl⟩) hcon hH hok fun s' hag C m a w hr=>by
  have hag':fT s s' ⟨none,[],aj g++cQ args.toList,[]⟩:=⟨hag,fun k hk=>by cases hk⟩
  have ha':=ha.agree hag' (fun _ h=>aft.2 (.inr h));have hgr:=(hg.agree hag' (fun _ h=>aft.2 (.inl h))).rep hr;generalize hv:a.eval g=u at hgr;cases hgr;refine⟨args.map a.eval,LW (caps:=#[]) rfl hv hcon.ok (by simp),?_,?_⟩
  ·have:=ha'.length;simpa using this
  ·intro j v x hv hx;exact ha'.rep hr j v x (by simpa using hv) hx
def AP:ag8->ag8->Bool
  | .tmp a,.tmp b=>ab3 a b
  | .const (.int k a),.const (.int k' b)=>ab3 (en k) (en k')&&aa .eql a b
  |_,_=>false
theorem aas{x y:ag8}(h:AP x y=true):y=x:=by
 unfold AP at h;split at h
 ·rw[afo h]
 ·rename_i k a k' b;simp only[afp]at h;rw[mW h.1,eq_of_beq (show(a==b)=true from h.2)]
 ·cases h
def yy(E:Env P)(F:fY)(av:List Nat)(s:AS)(d:Nat)(op:Op):OR:=match op with
  | .call c=>match c with
    |⟨.value g,args,ts⟩=>match rx s args.toList with
      |some xs=>match g with
        | .func f=>match qj E F s av f xs with
          | .ok H r H'=>match fA s H H' r with
            |true=>.ok ⟨some r,fM H [] (H'++cq H),cQ args.toList,H.map (·.1)⟩
            |false=>.no
          | .need k=>.need k
          | .no=>.no
        |g=>match c9 s g with
          |some (.fn f caps)=>match qj E F s av f (xs++caps)with
            | .ok H r H'=>match fA s H H' r with
              |true=>.ok ⟨some r,fM H [] (H'++cq H),aj g++cQ args.toList,H.map (·.1)⟩
              |false=>.no
            | .need k=>.need k
            | .no=>.no
          |some (.v (.func (.func f) ⟨[]⟩ ⟨[]⟩))=>match qj E F s av f xs with
            | .ok H r H'=>match fA s H H' r with
              |true=>.ok ⟨some r,fM H [] (H'++cq H),aj g++cQ args.toList,H.map (·.1)⟩
              |false=>.no
            | .need k=>.need k
            | .no=>.no
          |some (.cl f pre caps)=>match qj E F s av f (pre++xs++caps)with
            | .ok H r H'=>match fA s H H' r with
              |true=>.ok ⟨some r,fM H [] (H'++cq H),aj g++cQ args.toList,H.map (·.1)⟩
              |false=>.no
            | .need k=>.need k
            | .no=>.no
          |_=>.no
      |none=>.no
    |⟨.builtin .append,args,ts⟩=>match args.toList with
      |[x,y]=>match ts.toList with
        |[T,T']=>match ab3 T T' with
          |true=>Ey P s d x y T
          |false=>.no
        |_=>.no
      |_=>.no
    |c=>match vH P s (.call c)with
      |some r=>.ok ⟨some r.x,[],r.rt,r.rd⟩
      |none=>.no
  | .makeSlice T x y=>match AP x y with
    |true=>match c9 s x with
      |some (.v (.int .i64 n))=>AR P d T n (aj x)
      |_=>.no
    |false=>.no
  | .slice T x none (some (.const (.int k1 (.ofNat 0)))) (some (.const (.int k2 (.ofNat 0))))=>match c9 s x with
    |some (.lst sz es)=>match pF P T sz with
      |true=>.ok ⟨some (.ms d sz 0 0),[(d,some (.row sz []))],aj x,[]⟩
      |false=>.no
    |_=>.no
  | .buildSlice T n parts=>match n with
    |0=>match parts.toList with
      |[]=>match cg P T with
        |some ti=>match ti.k with
          | .slice E=>match cg P E with
            |some te=>match te.zero.all Value.oneCell'&&ab3 te.zero.length te.size with
              |true=>.ok ⟨some (.ms d te.size 0 0),[(d,some (.row te.size []))],[],[]⟩
              |false=>.no
            |none=>.no
          |_=>.no
        |none=>.no
      |_=>.no
    |n+1=>match vH P s (.buildSlice T (n+1) parts)with
      |some r=>.ok ⟨some r.x,[],r.rt,r.rd⟩
      |none=>match rx s (parts.toList.map (·.2))with
        |some xs=>match AV.nms xs with
          |k::_=>.need k
          |[]=>.no
        |none=>.no
  |op=>match vH P s op with
    |some r=>.ok ⟨some r.x,[],r.rt,r.rd⟩
    |none=>match zg P s d op with
      |some r=>match r.2 with
        |[]=>.ok r.1
        |_=>.no
      |none=>.no
theorem F6{E:Env P}{F:fY}(hF:F.Ok P){av:List Nat}{s:AS}{R:Array Oper}{d:Nat}{op:Op}{u:Out}{t:aha}{pos:String}{after:Array Edge}(h:yy E F av s d op=.ok u)(hN:acm d N=true) :
  Step P N R s ⟨some d,op,t,pos,after,none⟩ u:=by
 unfold yy at h;split at h
 ·split at h
  ·rename_i g args ts;split at h
   ·rename_i xs hxs;split at h
    ·rename_i f;split at h
     ·rename_i H r H' hc;split at h
      ·rename_i hok;cases h;obtain⟨h1,h2⟩:=tp hF hc;exact uu h2 (aF h1 (qw hxs) h2 hok hN)
      ·cases h
     ·cases h
     ·cases h
    ·split at h
     ·rename_i f caps hg;split at h
      ·rename_i H r H' hc;split at h
       ·rename_i hok;cases h;obtain⟨h1,h2⟩:=tp hF hc;exact uu h2 (ur (bI hg) h1 (qw hxs) h2 hok hN)
       ·cases h
      ·cases h
      ·cases h
     ·rename_i f hg;split at h
      ·rename_i H r H' hc;split at h
       ·rename_i hok;cases h;obtain⟨h1,h2⟩:=tp hF hc;exact uu h2 (ZW (bI hg) h1 (qw hxs) h2 hok hN)
       ·cases h
      ·cases h
      ·cases h
     ·rename_i f pre caps hg;split at h
      ·rename_i H r H' hc;split at h
       ·rename_i hok;cases h;obtain⟨h1,h2⟩:=tp hF hc;exact uu h2 (IL (bI hg) h1 (qw hxs) h2 hok hN)
       ·cases h
      ·cases h
      ·cases h
     ·cases h
   ·cases h
  ·rename_i args ts;split at h
   ·rename_i x y hx;split at h
    ·rename_i T T' hT;split at h
     ·rename_i hTT;cases afo hTT;have e1:args=#[x,y]:=by apply ae9.1; simpa using hx
      have e2:ts=#[T,T]:=by apply ae9.1;simpa using hT
      subst e1;subst e2
      exact O5 h hN
     ·cases h
    ·cases h
   ·cases h
  ·split at h
   ·rename_i h1;cases h;exact Al h1 hN
   ·cases h
 ·split at h
  ·rename_i he;cases aas he;split at h
   ·rename_i hx;exact QZ (bI hx) h hN
   ·cases h
  ·cases h
 ·split at h
  ·rename_i hx;split at h
   ·rename_i hs;obtain⟨ti,E,te,h1,h2,h3,h4⟩:=un hs;cases h;exact Ud (bI hx) h1 h2 h3 h4 hN
   ·cases h
  ·cases h
 ·rename_i T n parts;split at h
  ·split at h
   ·rename_i hp;have:parts=#[]:=by apply ae9.1; simpa using hp
    subst this;split at h
    ·rename_i ti hT;split at h
     ·rename_i E hk;split at h
      ·rename_i te hE;split at h
       ·rename_i hc;rw[afp]at hc;cases h;exact j4 (bX hT) hk (bX hE) hc.1 hc.2 hN
       ·cases h
      ·cases h
     ·cases h
    ·cases h
   ·cases h
  ·split at h
   ·rename_i h1;cases h;exact Al h1 hN
   ·split at h
    ·split at h <;> cases h
    ·cases h
 ·split at h
  ·rename_i h1;cases h;exact Al h1 hN
  ·split at h
   ·rename_i h1;split at h
    ·rename_i ho;cases h;exact L5 h1 (by rw[ho];exact .nil) hN
    ·cases h
   ·cases h
def zP(E:Env P)(F:fY)(av:List Nat)(s:AS)(op:Op):OR:=match op with
  | .call c=>match c with
    |⟨.value (.func f),args,ts⟩=>match rx s args.toList with
      |some xs=>match qj E F s av f xs with
        | .ok H r H'=>match fA s H H' r with
          |true=>.ok ⟨none,fM H [] (H'++cq H),cQ args.toList,H.map (·.1)⟩
          |false=>.no
        | .need k=>.need k
        | .no=>.no
      |none=>.no
    |_=>.no
  | .store T x y=>match wA P s (.store T x y)with
    |some r=>match r.2 with
      |[]=>.ok r.1
      |_=>.no
    |none=>AE P s T x y
  |_=>.no
theorem Uv{E:Env P}{F:fY}(hF:F.Ok P){av:List Nat}{s:AS}{R:Array Oper}{op:Op}{u:Out}{t:aha}{pos:String}{after:Array Edge}(h:zP E F av s op=.ok u) :
  Step P N R s ⟨none,op,t,pos,after,none⟩ u:=by
 unfold zP at h;split at h
 ·split at h
  ·rename_i f args ts;split at h
   ·rename_i xs hxs;split at h
    ·rename_i H r H' hc;split at h
     ·rename_i hok;cases h;obtain⟨h1,h2⟩:=tp hF hc;exact uu h2 (aaf h1 (qw hxs) h2 hok)
     ·cases h
    ·cases h
    ·cases h
   ·cases h
  ·cases h
 ·split at h
  ·rename_i h1;split at h
   ·rename_i ho;cases h;exact IQ h1 (by rw[ho];exact .nil)
   ·cases h
  ·exact Vo h
 ·cases h
theorem Step.sub{P:ahb}{N:Nat}{R:Array Oper}{s:AS}{o:Oper}{x y:AV}{upd:Hp}{rt rd:List Nat}(h:Step P N R s o ⟨some x,upd,rt,rd⟩)(hs:Sub x y):Step P N R s o ⟨some y,upd,rt,rd⟩:=by
 refine⟨fun s' hag hnew C m a w Q next hC hr hnext=>h.run s' hag hnew C m a w Q next hC hr (fun m' a' w' hr'=>hnext m' a' w' ?_)⟩;refine hr'.weak (fun t z hz=>?_) (fun k z hz=>⟨z,hz,.refl _⟩);rw[gq]at hz;split at hz
 ·rename_i ht;cases hz;exact⟨x,by rw[gq,agz ht],hs⟩
 ·rename_i ht;exact⟨z,by rw[gq,agy ht];exact hz,.refl _⟩
theorem Sub.opt_true(x:AV):Sub (.opt true x) x:=fun g S m v h=>by cases h with |opt h _=>exact h rfl
theorem Cj(f:AV->AV)(k:Nat):∀l:Hp,(fk f k l).map (·.1)=l.map (·.1)
 |[]=>rfl
 |(k',x)::l=>by simp only[fk,agv,Cj f k l]
theorem N9{P:ahb}{N:Nat}{R:Array Oper}{s:AS}{o:Oper}{d:Nat}{x:AV}{upd:Hp}{rt rd:List Nat}{k sz:Nat}{es:List AV}(hd:o.dst=some d)(hk:lk upd k=some (.row sz es))(hrd:k∉rd)
  (h:Step P N R s o ⟨some x,upd,rt,rd⟩):Step P N R s o ⟨some (x.fz k sz es),fk (AV.fz k sz es) k upd,rt,rd⟩:=by
 refine⟨fun s' hag hnew C m a w Q next hC hr hnext=>?_⟩;have hnew':jt s' ⟨some x,upd,rt,rd⟩:=fun k' hk'=>hnew k' (by rw[Cj];exact hk')
 have hfr:s'.Fresh k:=by
  rcases hnew' k (jD hk)with h |h
  ·exact ag5 h hrd
  ·exact h
 refine h.run s' hag hnew' C m a w Q next hC hr (fun m' a' w' hr'=>?_);rw[hd]at hr'
 have hkk:(s'.app (some d) ⟨some x,upd,rt,rd⟩).blk k=some (.row sz es):=by
  show lk (upd++s'.hp) k=_;rw[ke,agz (jD hk),hk]
 obtain⟨m2,hr2⟩:=Wk.freeze hkk C m' a' w' hr';refine hnext m2 a' w' ?_;rw[hd];refine hr2.congr ?_ ?_
 ·intro t;simp only[AS.get,p7,AS.app,aD];split
  ·rfl
  ·cases hx:lk s'.sl t with
   |none=>rfl
   |some y=>simp only[afi];rw[AV.fz_id _ _ _ _ (hfr.2.2.1 t y hx)]
 ·intro k';simp only[AS.blk,AS.app];rw[lI,ke,ke,Cj,lI]
  by_cases h1:k'=k
  ·subst h1;rw[agz rfl,agz (jD hk),agz rfl]
  ·rw[agy h1,agy h1];split
   ·rfl
   ·cases hx:lk s'.hp k' with
    |none=>rfl
    |some y=>simp only[afi];rw[MH (hfr.2.2.2 k' y hx)]
def pV:List Nat->Out->Out
  |[],u=>u
  |k::ks,u=>match u.val with
    |some x=>match lk u.upd k with
      |some (.row sz es)=>match jA k u.rd with
        |false=>pV ks ⟨some (x.fz k sz es),fk (AV.fz k sz es) k u.upd,u.rt,u.rd⟩
        |true=>pV ks u
      |_=>pV ks u
    |none=>u
theorem wd{P:ahb}{N:Nat}{R:Array Oper}{s:AS}{o:Oper}{d:Nat}(hd:o.dst=some d):∀{ks:List Nat}{u:Out},Step P N R s o u->Step P N R s o (pV ks u)
 |[],u,h=>h
 |k::ks,u,h=>by
  unfold pV;split
  ·rename_i x hx;split
   ·rename_i sz es hk;split
    ·rename_i hm;refine wd hd ?_;obtain⟨val,upd,rt,rd⟩:=u;simp only at hx hk hm;subst hx;exact N9 hd hk (fun hh=>by rw[mn.2 hh]at hm;cases hm) h
    ·exact wd hd h
   ·exact wd hd h
  ·exact h
def Dl(E:Env P)(F:fY)(av fz:List Nat)(N:Nat)(R:List Oper)(s:AS)(o:Oper):OR:=match o.guard with
  |none=>match o.dst with
    |some d=>match acm d N with
      |true=>match yy E F av s d o.op with
        | .ok u=>.ok (pV fz u)
        |r=>r
      |false=>.no
    |none=>zP E F av s o.op
  |some (j,want)=>match R[j]? with
    |some og=>match og.dst with
      |some g=>match o.dst with
        |some d=>match acm d N with
          |true=>match s.get g with
            |some (.v (.bool b))=>match b==want with
              |true=>match yy E F av s d o.op with
                | .ok u=>match(pV fz u)with
                  |⟨some x,upd,rt,rd⟩=>.ok ⟨some x,upd,g::rt,rd⟩
                  |⟨none,_,_,_⟩=>.no
                |r=>r
              |false=>.ok ⟨some (.opt false (.v (.bool false))),[],[g],[]⟩
            |some (.opt false (.v (.bool b)))=>.ok ⟨some (.opt false (.v (.bool false))),[],[g],[]⟩
            |_=>.no
          |false=>.no
        |none=>.no
      |none=>.no
    |none=>.no
theorem Vg{E:Env P}{F:fY}(hF:F.Ok P){av fz:List Nat}{R:List Oper}{s:AS}{o:Oper}{u:Out}(h:Dl E F av fz N R s o=.ok u):Step P N R.toArray s o u:=by
 obtain⟨dst,op,ty,pos,after,guard⟩:=o;unfold Dl at h;simp only at h;split at h
 ·split at h
  ·split at h
   ·rename_i hN;split at h
    ·rename_i u' h1;cases h;exact wd rfl (F6 hF h1 hN)
    ·rename_i hno;exact ag5 h (hno u)
   ·cases h
  ·exact Uv hF h
 ·rename_i j want;split at h
  ·rename_i og hog;split at h
   ·rename_i g hg;split at h
    ·rename_i d;split at h
     ·rename_i hN;have hj:(R.toArray[j]?).bind (·.dst)=some g:=by simp[hog,hg]
      split at h
      ·rename_i b hb;split at h
       ·rename_i hw;split at h
        ·rename_i u' h1;have hs:=wd (ks:=fz) rfl (F6 (R:=R.toArray) (t:=ty) (pos:=pos) (after:=after) hF h1 hN);split at h
         ·rename_i x upd rt rd hx;cases h;rw[hx]at hs;have h2:=Gm (want:=want) hj hb hN (fun hne=>ag5 (eq_of_beq hw) hne) (fun _=>hs);rw[hw]at h2;exact h2.sub (.opt_true x)
         ·cases h
        ·rename_i hno;exact ag5 h (hno u)
       ·rename_i hw;cases h;have h2:=fc (P:=P) (op:=op) (t:=ty) (pos:=pos) (after:=after) (want:=want) (x:=.v (.bool false)) (rt:=[]) (rd:=[]) hj hb hN (fun e=>by rw[e]at hw;simp at hw);rw[hw]at h2;exact h2
      ·rename_i b hb;cases h;exact ph (P:=P) (op:=op) (t:=ty) (pos:=pos) (after:=after) (want:=want) (x:=.v (.bool false)) (rt:=[]) (rd:=[]) hj hb hN (fun e=>by cases e)
      ·cases h
     ·cases h
    ·cases h
   ·cases h
  ·cases h
end Go.Lw
namespace Go.Lw
variable{P:ahb}{N:Nat}[Inhabited (Tys P)]
theorem Wl{P:ahb}{N:Nat}{c:Code}{Q Q':Exit->AS->Prop}{s:AS}(h:br P N c Q s)(hq:∀e s,Q e s->∃s',Wk s s'/\Q' e s'):br P N c Q' s :=
 fun C m a w n hN hr=>wpIn_mono (h C m a w n hN hr) fun e _ _ ⟨s',m',hQ,hr'⟩=>by
  obtain⟨s2,hw,hQ'⟩:=hq e s' hQ;obtain⟨m2,hr2⟩:=hw C m' _ _ hr';exact⟨s2,m2,hQ',hr2⟩
def dd{α:Type}:List Nat->List (Nat×Option α)->List (Nat×Option α)
  |_,[]=>[]
  |seen,(t,x)::l=>match jA t seen with
    |true=>dd seen l
    |false=>match x with
      |some v=>(t,some v)::dd (t::seen) l
      |none=>dd (t::seen) l
theorem vC{α:Type}:∀{l:List (Nat×Option α)}{seen:List Nat}{t:Nat}{x:α},lk (dd seen l) t=some x->t∉seen/\lk l t=some x
 |[],seen,t,x,h=>by cases h
 |(t',y)::l,seen,t,x,h=>by
  unfold dd at h;rw[aD];split at h
  ·rename_i hm;obtain⟨h1,h2⟩:=vC h;refine⟨h1,?_⟩;rw[agy (fun(e:t=t')=>h1 (by rw[e];exact mn.1 hm))];exact h2
  ·rename_i hm;have hm':t' ∉ seen:=fun hh=>by rw[mn.2 hh] at hm; cases hm
   split at h
   ·rw[aD]at h;split at h
    ·rename_i e;cases h;subst e;exact⟨hm',by rw[agz rfl]⟩
    ·rename_i e;obtain⟨h1,h2⟩:=vC h;rw[agy e];exact⟨fun hh=>h1 (agi _ hh),h2⟩
   ·obtain⟨h1,h2⟩:=vC h;have hne:t≠t':=fun e=>h1 (by rw[e]; exact agt ..)
    rw[agy hne];exact⟨fun hh=>h1 (agi _ hh),h2⟩
theorem BK{s:AS}{sl:bE}{hp:Hp}(h1:∀t x,lk sl t=some x->lk s.sl t=some x)(h2:∀k x,lk hp k=some x->lk s.hp k=some x):Wk s ⟨sl,hp⟩ :=
 fun C m a w hr=>⟨m,hr.weak (fun t x hx=>⟨x,h1 t x hx,.refl _⟩) (fun k x hx=>⟨x,h2 k x hx,.refl _⟩)⟩
def KC(s:AS):AS:=⟨dd [] s.sl,dd [] s.hp⟩
theorem VN(s:AS):Wk s (KC s):=BK (fun t x h=>(vC h).2) (fun t x h=>(vC h).2)
def ox(k:Nat):List Nat->bE->bE
  |_,[]=>[]
  |seen,(t,x)::l=>match jA t seen with
    |true=>ox k seen l
    |false=>match x with
      |some v=>match jA k v.nm with
        |true=>ox k (t::seen) l
        |false=>(t,some v)::ox k (t::seen) l
      |none=>ox k (t::seen) l
theorem yU{k:Nat}:∀{l:bE}{seen:List Nat}{t:Nat}{x:AV},lk (ox k seen l) t=some x->t∉seen/\lk l t=some x
 |[],seen,t,x,h=>by cases h
 |(t',y)::l,seen,t,x,h=>by
  unfold ox at h;rw[aD]
  have rest:∀{l':bE},lk (ox k (t'::seen) l) t=some x->t∉seen/\(if t=t' then y else lk l t)=some x:=by
   intro _ h;obtain⟨h1,h2⟩:=yU h;rw[agy (fun(e:t=t')=>h1 (by rw[e];exact agt ..))];exact⟨fun hh=>h1 (agi _ hh),h2⟩
  split at h
  ·rename_i hm;obtain⟨h1,h2⟩:=yU h;refine⟨h1,?_⟩;rw[agy (fun(e:t=t')=>h1 (by rw[e];exact mn.1 hm))];exact h2
  ·rename_i hm;have hm':t' ∉ seen:=fun hh=>by rw[mn.2 hh] at hm; cases hm
   split at h
   ·split at h
    ·exact rest (l':=l) h
    ·rw[aD]at h;split at h
     ·rename_i e;cases h;subst e;exact⟨hm',by rw[agz rfl]⟩
     ·rename_i e;obtain⟨h1,h2⟩:=yU h;rw[agy e];exact⟨fun hh=>h1 (agi _ hh),h2⟩
   ·exact rest (l':=l) h
def KR(s:AS)(k d:Nat)(y:Blk):AS:=⟨iF (AV.rn k d) s.sl,mo k d y s.hp⟩
def DR(s:AS)(av:List Nat)(d:Nat):Option AS:=match s.freshB d with
  |true=>some s
  |false=>match s.blk d with
    |some y=>match s.freshB (nxt s av)with
      |true=>some (KR s d (nxt s av) y)
      |false=>none
    |none=>some ⟨ox d [] s.sl,s.hp⟩
theorem Sk{s s':AS}{av:List Nat}{d:Nat}(h:DR s av d=some s'):Wk s s':=by
 unfold DR at h;split at h
 ·cases h;exact .refl _
 ·split at h
  ·rename_i y hy;split at h
   ·rename_i hf;cases h;exact Wk.rk hy hf
   ·cases h
  ·cases h;exact BK (fun t x h=>(yU h).2) (fun _ _ h=>h)
def Ps(o:Oper):Option Nat:=match o.dst with
  |some d=>match o.op with
    | .alloc _=>some d
    | .box _ _=>some d
    | .makeSlice _ _ _=>some d
    | .buildSlice _ 0 _=>some d
    | .slice _ _ _ _ (some _)=>some d
    | .call ⟨.builtin .append,_,_⟩=>some d
    |_=>none
  |none=>none
def vD(av:List Nat):List Oper->AS->Option AS
  |[],s=>some s
  |o::os,s=>match Ps o with
    |some d=>match DR s av d with
      |some s'=>vD av os s'
      |none=>none
    |none=>vD av os s
theorem B8{av:List Nat}:∀{os:List Oper}{s s':AS},vD av os s=some s'->Wk s s'
 |[],s,s',h=>by cases h;exact .refl _
 |o::os,s,s',h=>by
  unfold vD at h;split at h
  ·split at h
   ·rename_i h1;exact(Sk h1).trans (B8 h)
   ·cases h
  ·exact B8 h
inductive RR where
  |ok (s:AS) (us:List Out)
  |need (k:Nat)
  |no
def nB{α:Type}:List α->Bool
  |[]=>true
  |_=>false
def wR(E:Env P)(F:fY)(av fz:List Nat)(N:Nat)(R:List Oper):List Oper->AS->List Out->RR
  |[],s,us=>.ok s us
  |o::os,s,us=>match Dl E F av fz N R s o with
    | .ok u=>match nB u.upd||Au s u with
      |true=>match s.app o.dst u with
        |⟨sl,hp⟩=>wR E F av fz N R os ⟨sl,hp⟩ (us++[u])
      |false=>.no
    | .need k=>.need k
    | .no=>.no
theorem Ks{E:Env P}{F:fY}(hF:F.Ok P){av fz:List Nat}{R:List Oper}:∀{os:List Oper}{s:AS}{us:List Out}{s':AS}{us':List Out},wR E F av fz N R os s us=.ok s' us' ->
  gB P N R.toArray os s us (fun s2 us2=>s2=s'/\us2=us')
 |[],s,us,s',us',h=>by cases h;exact⟨rfl,rfl⟩
 |o::os,s,us,s',us',h=>by
  unfold wR at h;split at h
  ·rename_i u hu;split at h
   ·rename_i hn;refine⟨u,Vg hF hu,?_,Ks hF h⟩;cases hu':nB u.upd with
    |true =>
     intro k hk;have:u.upd=[]:=by cases hq:u.upd with |nil=>rfl |cons a b=>rw[hq]at hu';cases hu'
     rw[this]at hk;cases hk
    |false=>rw[hu']at hn;exact ua hn
   ·cases h
  ·cases h
  ·cases h
structure Sys where
  code:Nat->Nat->List Nat->Code->AS->Option (Exit×AS)
  fn:Nat->List Nat->FuncId->List AV->Hp->Option (AV×Hp)
def Ee(S:Sys)(base:Nat):fY:=fun av f xs H=>match MP base (H.map (·.1))with
  |L=>match S.fn (base+100) av f (tA L xs) (tH L H)with
    |some (r,H')=>some (rB L r,hB L H')
    |none=>none
def K7(e:Exit):Bool:=match e with
  | .normal=>true
  |_=>false
def A4(s:AS)(k:Nat):Option AS:=match s.blk k with
  |some (.row sz es)=>some ⟨iF (AV.fz k sz es) s.sl,fk (AV.fz k sz es) k s.hp⟩
  |_=>none
theorem OF{s s':AS}{k:Nat}(h:A4 s k=some s'):Wk s s':=by
 unfold A4 at h;split at h
 ·rename_i hk;cases h;exact Wk.freeze hk
 ·cases h
def v5(E:Env P)(F:fY)(av:List Nat)(N:Nat)(A:List Oper)(d:Bool):Nat->List Nat->AS->Option AS
  |0,_,_=>none
  |n+1,fz,s0=>match wR E F av fz N A A s0 []with
    | .ok s' us=>match d with
      |false=>some s'
      |true=>match chk A us s0 with
        |true=>some s'
        |false=>none
    | .need k=>match A4 s0 k with
      |some ⟨sl,hp⟩=>v5 E F av N A d n fz ⟨sl,hp⟩
      |none=>match jA k fz with
        |true=>none
        |false=>v5 E F av N A d n (k::fz) s0
    | .no=>none
theorem Ej{E:Env P}{F:fY}(hF:F.Ok P){av:List Nat}{id:Nat}{A:Array Oper}{d:Bool}(hnd:A.toList.all nd=true):∀{n:Nat}{fz:List Nat}{s s1:AS},v5 E F av N A.toList d n fz s=some s1 ->
  br P N (.region id A d) (fun e' s'=>e'=.normal/\s'=s1) s
 |0,fz,s,s1,h=>by cases h
 |n+1,fz,s,s1,h=>by
  unfold v5 at h;split at h
  ·rename_i s' us h1;refine Fn (Q:=fun e' s'=>e'=.normal/\s'=s1) (k:=[]) hnd (fun _=>(default:Tys P).mix) (yD ?_ (Ks hF h1));rintro s2 us2 ⟨hs,hu⟩;rw[hs,hu];split at h
   ·obtain rfl:=Option.some.inj h;exact⟨(fun e=>by cases e),rfl,rfl⟩
   ·split at h
    ·rename_i hc;obtain rfl:=Option.some.inj h;exact⟨fun _=>hc,rfl,rfl⟩
    ·cases h
  ·split at h
   ·rename_i sl hp hf;exact pY (OF hf) (Ej hF hnd h)
   ·split at h
    ·cases h
    ·exact Ej hF hnd h
  ·cases h
def nV(E:Env P)(S:Sys)(N base:Nat)(av:List Nat)(c:Code)(s:AS):Option (Exit×AS):=match c with
  | .skip=>some (.normal,s)
  | .ret=>some (.ret,s)
  | .exit id=>some (.exit id,s)
  | .seq x y=>match S.code N base av x s with
    |some (e,s1)=>match K7 e with
      |true=>S.code N base av y s1
      |false=>some (e,s1)
    |none=>none
  | .block id c=>match S.code N base av c s with
    |some (e,s1)=>match e with
      | .exit id'=>match ab3 id' id with
        |true=>some (.normal,s1)
        |false=>some (.exit id',s1)
      |e=>some (e,s1)
    |none=>none
  | .cond c x y=>match c9 s c with
    |some (.v (.bool b))=>match b with
      |true=>S.code N base av x s
      |false=>S.code N base av y s
    |_=>none
  | .loop c=>match S.code N base av c s with
    |some (e,s1)=>match K7 e with
      |true=>match KC s1 with
        |⟨sl,hp⟩=>S.code N base av (.loop c) ⟨sl,hp⟩
      |false=>some (e,s1)
    |none=>none
  | .region id A d=>match tN A.toList with
    |true=>match vD av A.toList s with
      |some s0=>match v5 E (Ee S base) av N A.toList d 20 [] s0 with
        |some s'=>some (.normal,s')
        |none=>none
      |none=>none
    |false=>none
  |_=>none
def vc(st:Nat):List Nat->AS->Option AS
  |[],s=>some s
  |k::ks,s=>match s.blk k with
    |some y=>match CJ s 100 st with
      |d=>match s.freshB d with
        |true=>vc st ks (KR s k d y)
        |false=>none
    |none=>none
theorem Cm{st:Nat}:∀{ks:List Nat}{s s':AS},vc st ks s=some s'->Wk s s'
 |[],s,s',h=>by cases h;exact .refl _
 |k::ks,s,s',h=>by
  unfold vc at h;split at h
  ·rename_i y hy;simp only at h;split at h
   ·rename_i hf;exact(Wk.rk (s:=s) hy hf).trans (Cm h)
   ·cases h
  ·cases h
def KM:Nat->List Nat->List Nat
  |_,[]=>[]
  |n,_::l=>n::KM (n+1) l
def CE:List Nat->List Nat
  |[]=>[]
  |k::ks=>match acm k 1000 with
    |true=>k::CE ks
    |false=>CE ks
def tf(sl:bE):List Nat->bE
  |[]=>[]
  |t::ts=>match lk sl t with
    |some x=>(t,some x)::tf sl ts
    |none=>tf sl ts
theorem Cc{sl:bE}:∀{ts:List Nat}{t:Nat}{x:AV},lk (tf sl ts) t=some x->lk sl t=some x
 |[],t,x,h=>by cases h
 |t'::ts,t,x,h=>by
  unfold tf at h;split at h
  ·rename_i y hy;rw[aD]at h;split at h
   ·rename_i e;cases h;rw[e];exact hy
   ·exact Cc h
  ·exact Cc h
def C5:List ResultVar->List Nat
  |[]=>[]
  |r::rs=>(match r with
    | .tmp t=>t
    | .cell t _=>t)::C5 rs
def x9(P:ahb)[Inhabited (Tys P)](rs:List ResultVar)(Hk:List Nat)(s:AS):Option (AV×Hp):=match oM P s rs with
  |some ys=>some (dh ys,pv s (q7 s 300 (AV.nms ys++Hk) []))
  |none=>none
theorem Jd{rs:List ResultVar}{Hk:List Nat}{s:AS}{r:AV}{H':Hp}(h:x9 P rs Hk s=some (r,H')):∃xs,ResL P s rs xs/\aE s (dh xs) r H':=by
 unfold x9 at h;split at h
 ·rename_i ys hy;cases h;exact⟨ys,z5 hy,.keep (fun k z hz=>vQ hz)⟩
 ·cases h
def By(P:ahb)[Inhabited (Tys P)](av:List Nat)(rs:List ResultVar)(Hk:List Nat)(s:AS):Option (AV×Hp):=match q7 s 300 (AV.nms ((tf s.sl (C5 rs)).filterMap (·.2))++Hk) []with
  |K=>match CE K with
    |[]=>x9 P rs Hk s
    |k::ks=>match vc 700 (k::ks) ⟨tf s.sl (C5 rs),pv s K⟩with
      |some s2=>match vc (mx 299 av+1) (KM 700 (k::ks)) s2 with
        |some s3=>x9 P rs Hk s3
        |none=>none
      |none=>none
theorem Zn{av:List Nat}{rs:List ResultVar}{Hk:List Nat}{s:AS}{r:AV}{H':Hp}(h:By P av rs Hk s=some (r,H')):∃s2,Wk s s2/\∃xs,ResL P s2 rs xs/\aE s2 (dh xs) r H':=by
 unfold By at h;simp only at h;split at h
 ·exact⟨s,.refl _,Jd h⟩
 ·split at h
  ·rename_i s2 h2;split at h
   ·rename_i s3 h3;exact⟨s3,((BK (fun t x=>Cc) (fun k x=>vQ)).trans (Cm h2)).trans (Cm h3),Jd h⟩
   ·cases h
  ·cases h
def yJ:Hp->Bool
  |[]=>true
  |(k,_)::l=>Nat.ble 1000 k&&yJ l
theorem IM:∀{H:Hp}{k:Nat}{z:Blk},yJ H=true->lk H k=some z->1000<=k
 |[],k,z,_,h=>by cases h
 |(k',x)::l,k,z,h0,h=>by
  simp only[yJ,afp,acl]at h0;rw[aD]at h;split at h
  ·rename_i e;rw[e];exact h0.1
  ·exact IM h0.2 h
def CQ(E:Env P)(S:Sys)(base:Nat)(av:List Nat)(f:FuncId)(xs:List AV)(H:Hp):Option (AV×Hp):=match E.fe f with
  |some fe=>match ab3 fe.f f&&yJ H with
    |true=>match se 0 xs with
      |some sl=>match S.code fe.fn.ntmps base av fe.c ⟨sl,H⟩with
        |some (e,s1)=>match we e with
          |true=>By P av fe.rs (H.map (·.1)) s1
          |false=>none
        |none=>none
      |none=>none
    |false=>none
  |none=>none
def ev(E:Env P)(n:Nat):Sys:=Nat.rec ⟨fun _ _ _ _ _=>none,fun _ _ _ _ _=>none⟩ (fun _ S=>⟨nV E S,CQ E S⟩) n
structure SysOk(P:ahb)(S:Sys):Prop where
  code:∀N base av c s e s1,S.code N base av c s=some (e,s1)->br P N c (fun e' s'=>e'=e/\s'=s1) s
  fn:∀base av f xs H r H',S.fn base av f xs H=some (r,H')->Con P f xs H r H'
theorem ZV{P:ahb}{S:Sys}(h:SysOk P S)(base:Nat):(Ee S base).Ok P:=by
 intro av f xs H r H' h1;unfold Ee at h1;simp only at h1;split at h1
 ·rename_i h2;cases h1;exact Hl (h.fn _ _ _ _ _ _ _ h2)
 ·cases h1
theorem aav{E:Env P}{S:Sys}(h:SysOk P S){base:Nat}{av:List Nat}{f:FuncId}{xs:List AV}{H H':Hp}{r:AV}(h1:CQ E S base av f xs H=some (r,H')):Con P f xs H r H':=by
 unfold CQ at h1;split at h1
 ·rename_i fe hfe;split at h1
  ·rename_i hc;simp only[afp]at hc;have hf:=afo hc.1;subst hf;split at h1
   ·rename_i sl hsl;cases zI hsl;split at h1
    ·rename_i e s1 h2;split at h1
     ·rename_i he;refine DI fe.hf fe.hb fe.hn fe.hrs rfl (fun k z hz=>IM hc.2 hz) ?_;refine Wl (h.code _ _ _ _ _ _ _ h2) ?_;rintro e' s' ⟨he',hs'⟩;rw[he',hs'];obtain⟨s2,hw,hx⟩:=Zn h1;refine⟨s2,hw,?_⟩;cases e <;> first |exact hx |exact(nomatch he)
     ·cases h1
    ·cases h1
   ·cases h1
  ·cases h1
 ·cases h1
theorem wt(E:Env P):∀n m,m<=n->SysOk P (ev E m)
 |0,m,hm=>by
  have:m=0:=by omega
  subst this;exact { code:=(fun _ _ _ _ _ _ _ h=>by cases h),fn:=(fun _ _ _ _ _ _ _ h=>by cases h) }
 |n+1,m,hm=>by
  by_cases hmn:m<=n
  ·exact wt E n m hmn
  ·have:m=n+1:=by omega
   subst this;have ih:=wt E n n (afq _);refine⟨?_,fun base av f xs H r H' h=>aav ih h⟩;intro N base av c s e s1 h
   change nV E (ev E n) N base av c s=some (e,s1)at h
   cases c with
   |skip=>cases h;exact Jv ⟨rfl,rfl⟩
   |ret=>cases h;exact Kh ⟨rfl,rfl⟩
   |exit id=>cases h;exact HE ⟨rfl,rfl⟩
   |seq x y =>
    simp only[nV]at h;split at h
    ·rename_i e1 s2 h1;refine Fq fun K hK=>ig (ih.code _ _ _ _ _ _ _ h1) ?_
     rintro e' s' ⟨he,hs⟩;rw[he,hs];split at h
     ·rename_i hr;cases e1 <;> first |exact hK _ (ih.code _ _ _ _ _ _ _ h) |exact(nomatch hr)
     ·rename_i hr;obtain⟨rfl,rfl⟩:=Prod.mk.inj (Option.some.inj h);cases e1 <;> first |exact⟨rfl,rfl⟩ |exact(nomatch hr)
    ·cases h
   |block id c =>
    simp only[nV]at h;split at h
    ·rename_i e1 s2 h1;refine Mu (ig (ih.code _ _ _ _ _ _ _ h1) ?_);rintro e' s' ⟨he,hs⟩;rw[he,hs];split at h
     ·rename_i id';show match ab3 id' id with |true=>_ |false=>_
      split at h
      ·rename_i hb;obtain⟨rfl,rfl⟩:=Prod.mk.inj (Option.some.inj h);simp only[];exact⟨trivial,trivial⟩
      ·rename_i hb;obtain⟨rfl,rfl⟩:=Prod.mk.inj (Option.some.inj h);simp only[];exact⟨trivial,trivial⟩
     ·rename_i hne;obtain⟨rfl,rfl⟩:=Prod.mk.inj (Option.some.inj h);cases e1 <;> first |exact⟨rfl,rfl⟩ |exact ag5 rfl (hne _)
    ·cases h
   |cond c x y =>
    simp only[nV]at h;split at h
    ·rename_i b hb;split at h
     ·exact yr (bI hb) (fun _=>ih.code _ _ _ _ _ _ _ h) (fun e=>by cases e)
     ·exact yr (bI hb) (fun e=>by cases e) (fun _=>ih.code _ _ _ _ _ _ _ h)
    ·cases h
   |loop c =>
    refine pE (fun m s=>m<=n+1/\(ev E m).code N base av (.loop c) s=some (e,s1)) (n:=n+1) (.refl _) ⟨afq _,h⟩ ?_;rintro m s ⟨hm,hI⟩ K hK;cases m with
    |zero=>cases hI
    |succ m =>
     change nV E (ev E m) N base av (.loop c) s=some (e,s1)at hI
     have ihm:=wt E n m oz;simp only[nV]at hI;split at hI
     ·rename_i e1 s2 h1;refine ig (ihm.code _ _ _ _ _ _ _ h1) ?_;rintro e' s' ⟨he,hs⟩;rw[he,hs];split at hI
      ·rename_i hr;cases e1 <;> first |exact hK _ _ m (VN s2) ⟨by omega,hI⟩ oz |exact(nomatch hr)
      ·rename_i hr;obtain⟨rfl,rfl⟩:=Prod.mk.inj (Option.some.inj hI);cases e1 <;> first |exact⟨rfl,rfl⟩ |exact(nomatch hr)
     ·cases hI
   |region id A d =>
    simp only[nV]at h;split at h
    ·rename_i hnd;split at h
     ·rename_i s0 h0;refine pY (B8 h0) ?_;split at h
      ·rename_i s' h1;obtain⟨rfl,rfl⟩:=Prod.mk.inj (Option.some.inj h);exact Ej (ZV ih base) (BY hnd) h1
      ·cases h
     ·cases h
    ·cases h
   |_=>cases h
theorem du(E:Env P)(n:Nat){base:Nat}{av:List Nat}{f:FuncId}{xs:List AV}{H H':Hp}{r:AV}(h:(ev E n).fn base av f xs H=some (r,H')):Con P f xs H r H' :=
 (wt E n n (afq _)).fn _ _ _ _ _ _ _ h
end Go.Lw
namespace Go.Lw
open Go.Proofs
def d6(P:ahb)(n:Nat):Option (FE P):=match h:P.funcs[n]? with
  |none=>none
  |some fn=>match hb:fn.body with
    |none=>none
    | some c => match hn : (fn.name == "runtime.NumGoroutine") with
      |true=>none
      |false=>some ⟨n,fn,c,fn.results.toList,h,hb,hn,by simp⟩
def cP(q:Rat):Bool:=acm q.num.natAbs 18446744073709551616&&acm q.den 18446744073709551616
theorem DM{q:Rat}(h:cP q=true):Qb 64 q:=by
 simp only[cP,afp,ab7]at h;exact⟨h.1,h.2⟩
theorem jd{q:Rat}(h:cP q=true):Qs q:=(DM h).qs oz
def n0(q:Rat):AV:=nA (sh 0 (q:Rat))
def z0:AV:=aB []
theorem l2{q:Rat}(h:cP q=true):Nm ([]:LL).length 64 (sh 0 (q:Rat)):=Nm.ofQ (by decide) (Cb.one (DM h))
theorem lQ(q:Rat):ae ([]:LL).length (sh 0 (q:Rat))=q:=oi 0 q
theorem mv:Tw [] 1 where
 three:=by decide
 len:=fun j hj=>ag5 hj (Nat.not_lt_zero j)
 pos:=fun j hj=>ag5 hj (Nat.not_lt_zero j)
 rb:=⟨1,1,by omega,fun d hd=>ag5 hd af8,by decide,by decide⟩
 le:=by decide
theorem qI:lm ([]:LL).length=200000000000:=rfl
def dW:List AV->Nat
  |[]=>0
  |x::l=>match x with
    | .v (.int _ (.ofNat n))=>n+4294967296*dW l
    |_=>0
def yg:AV->Nat
  | .lst _ l=>dW l
  |_=>0
def dQ(x:AV):Rat:=match x with
  | .agg (.v (.bool s)::n::d::_)=>match s with
    |true=>mkRat (-(yg n:Int)) (yg d)
    |false=>mkRat (yg n:Int) (yg d)
  |_=>0
def dN(x:AV):Rat:=match x with
  | .lst _ (x::_)=>dQ x
  |_=>0
abbrev En:=Option (Ent prog)
def w2(f:FuncId)(g:Rat->Rat->AV)(h:∀p q,cP p=true->cP q=true->FP f [qA p,qA q] (g p q))(p q:Rat):En:=match hh:cP p&&cP q with
  |true=>some ⟨f,[qA p,qA q],g p q,[],h p q (by rw[afp]at hh;exact hh.1) (by rw[afp]at hh;exact hh.2)⟩
  |false=>none
def xQ(f:FuncId)(g:Rat->Rat->AV)(h:∀p q,cP p=true->cP q=true->FP f [qA p,qA q] (g p q))(xs:List AV):En:=match xs with
  |[a,b]=>w2 f g h (dQ a) (dQ b)
  |_=>none
def w1(f:FuncId)(a:Rat->AV)(g:Rat->AV)(h:∀p,cP p=true->FP f [a p] (g p))(p:Rat):En:=match hh:cP p with
  |true=>some ⟨f,[a p],g p,[],h p hh⟩
  |false=>none
def tv(f:FuncId)(g:Rat->AV)(h:∀p,cP p=true->FP f [qA p] (g p))(xs:List AV):En:=match xs with
  |[a]=>w1 f qA g h (dQ a)
  |_=>none
def w3(f:FuncId)(g:Rat->Rat->AV)(h:∀p q,cP p=true->cP q=true->FP f [z0,n0 p,n0 q] (g p q))(p q:Rat):En:=match hh:cP p&&cP q with
  |true=>some ⟨f,[z0,n0 p,n0 q],g p q,[],h p q (by rw[afp]at hh;exact hh.1) (by rw[afp]at hh;exact hh.2)⟩
  |false=>none
def ot(f:FuncId)(g:Rat->Rat->AV)(h:∀p q,cP p=true->cP q=true->FP f [z0,n0 p,n0 q] (g p q))(xs:List AV):En:=match xs with
  |[_,a,b]=>w3 f g h (dN a) (dN b)
  |_=>none
def w4(f:FuncId)(g:Rat->AV)(h:∀p,cP p=true->FP f [z0,n0 p] (g p))(p:Rat):En:=match hh:cP p with
  |true=>some ⟨f,[z0,n0 p],g p,[],h p hh⟩
  |false=>none
def yc(f:FuncId)(g:Rat->AV)(h:∀p,cP p=true->FP f [z0,n0 p] (g p))(xs:List AV):En:=match xs with
  |[_,a]=>w4 f g h (dN a)
  |_=>none
def oC(f:FuncId)(ys:List AV)(r:AV)(h:FP f ys r)(xs:List AV):En:=some ⟨f,ys,r,[],h⟩
def dI(x:AV):Int:=match x with
  | .v (.int _ z)=>z
  |_=>0
def oI(f:FuncId)(g:Int->AV)(h:∀z,(-9223372036854775808<=z/\z<=9223372036854775807)->FP f [i64 z] (g z))(xs:List AV):En:=match xs with
  |[a]=>match(ag7:Decidable (-9223372036854775808<=dI a/\dI a<=9223372036854775807))with
    | .isTrue hh=>some ⟨f,[i64 (dI a)],g (dI a),[],h (dI a) hh⟩
    | .isFalse _=>none
  |_=>none
theorem JD(p q:Rat)(hp:cP p=true)(hq:cP q=true):FP 250 [z0,n0 p,n0 q] (.tup [n0 (p+q),.v .nilIface]):=by
 have h:=tV mv (l2 hp) (l2 hq) (by rw[qI];omega);rw[lQ,lQ]at h;exact h
theorem No(p q:Rat)(hp:cP p=true)(hq:cP q=true):FP 209 [z0,n0 p,n0 q] (.tup [n0 (p+-q),.v .nilIface]):=by
 have h:=zn mv (l2 hp) (l2 hq) (by rw[qI];omega);rw[lQ,lQ]at h;exact h
theorem Jc(p q:Rat)(hp:cP p=true)(hq:cP q=true):FP 210 [z0,n0 p,n0 q] (.tup [n0 (p*q),.v .nilIface]):=by
 have h:=yo mv (l2 hp) (l2 hq) (by rw[qI];omega);rw[lQ,lQ]at h;exact h
theorem Gz(p:Rat)(hp:cP p=true):FP 87 [z0,n0 p] (.tup [i64 (bB p),.v .nilIface]):=by
 have h:=wF mv (l2 hp) (by rw[qI];omega);rw[lQ]at h;exact h
theorem H1(p:Rat)(hp:cP p=true):FP 128 [z0,n0 p] (.tup [n0 (-p),.v .nilIface]):=by
 have h:=zp mv (l2 hp) (by rw[qI];omega);rw[lQ]at h;exact h
theorem JJ(p q:Rat)(hp:cP p=true)(hq:cP q=true):FP 50 [z0,n0 p,n0 q] (bl (decide (bB (p+-q)=0))):=by
 have h:=km mv (l2 hp) (l2 hq) (by rw[qI];omega);rw[lQ,lQ]at h;exact h
def TG:FuncId->Option (List AV->En)
  |250=>some (ot 250 _ JD)
  |209=>some (ot 209 _ No)
  |210=>some (ot 210 _ Jc)
  |87=>some (yc 87 _ Gz)
  |128=>some (yc 128 _ H1)
  |138=>some (oC 138 [z0] (.v .nilIface) (xe mv))
  |115=>some (tv 115 n0 fun _ h=>mU (jd h))
  |50=>some (ot 50 _ JJ)
  |116=>some (oI 116 (fun z=>qA z) ng)
  |53=>some (oI 53 (fun z=>qA z) sE)
  |66=>some (tv 66 n0 fun _ h=>pW (jd h))
  |172=>some (xQ 172 (fun p q=>qA (p+q)) fun _ _ h h'=>wK (jd h) (jd h'))
  |330=>some (xQ 330 (fun p q=>qA (p-q)) fun _ _ h h'=>wg (jd h) (jd h'))
  |337=>some (xQ 337 (fun p q=>qA (p*q)) fun _ _ h h'=>sQ (jd h) (jd h'))
  |361=>some (xQ 361 (fun p q=>.tup [qA (p/q),cf (if q=0 then 8 else 0)]) fun _ _ h h'=>L0 (jd h) (jd h'))
  |79=>some (tv 79 (fun p=>qA (-p)) fun _ h=>Qy (jd h))
  |179=>some (tv 179 (fun p=>i64 (bB p)) fun _ h=>Yf (jd h))
  |_=>none
def La(x:AV):List Int:=match x with
  | .lst _ es=>es.map dI
  |_=>[]
def dG(x:AV):Gr:=match x with
  | .agg [k,b,j,d]=>⟨dI k,La b,La j,dI d⟩
  |_=>default
def AG(n:Nat)(l:List Int):Bool:=l.all fun z=>aa .leq 0 z&&aa .lss z n
theorem JL{n:Nat}{l:List Int}(h:AG n l=true):∀x∈l,0<=x/\x<n:=by
 intro x hx;have:=afy.1 h x hx;simp only[afp,aa,ag0]at this;exact this
def AW(l:Li)(g:Gr):Bool:=AG l.bo.length g.bo&&AG l.jo.length g.jo&&Nat.ble g.bo.length 2&&Nat.ble g.jo.length 3
theorem ZG{l:Li}{g:Gr}(h:AW l g=true):GrOk l g:=by
 simp only[AW,afp,acl]at h;exact⟨JL h.1.1.1,JL h.1.1.2,h.1.2,h.2⟩
def aap(l:Li)(hl:l.ok)(hli:ao l=0)(g:Gr):En:=match hh:AW l g with
  |true=>some ⟨195,[l.av,g.av],_,_,JN l hl hli g (ZG hh)⟩
  |false=>none
def RI(l:Li)(hl:l.ok)(hli:ao l=0)(xs:List AV):En:=match xs with
  |[_,g]=>aap l hl hli (dG g)
  |_=>none
theorem aao(l:Li)(hl:l.ok)(hli:ao l=0):FP 113 [l.av] (.tup [.lst 4 ((splitG l).map Gr.av),cf (splitE l)]):=by
 have h:=yn l hl;rw[agz hli,agz hli]at h;exact h
def dZ(l:Li)(hl:l.ok)(hli:ao l=0):FuncId->Option (List AV->En)
  |113=>some (oC 113 [l.av] _ (aao l hl hli))
  |195=>some (RI l hl hli)
  |178=>some (tv 178 (fun p=>bl (rt p).valid) fun _ h=>si _ (jd h).ok)
  |f=>TG f
def L1:List (Ent prog)->FuncId->Bool
  |[],_=>false
  |e::l,f=>match ab3 e.f f with
    |true=>true
    |false=>L1 l f
def Hj(xs:List AV)(f:FuncId):List (Ent prog)->En
  |[]=>none
  |e::l=>match ab3 e.f f&&oO xs e.xs with
    |true=>some e
    |false=>Hj xs f l
def dS(L:List (Ent prog))(o:FuncId->Option (List AV->En))(f:FuncId):Option (List AV->En):=match L1 L f with
  |true=>some fun xs=>match Hj xs f L with
    |some e=>some e
    |none=>match o f with
      |some g=>g xs
      |none=>none
  |false=>o f
def dY(n:FuncId):Bool:=ab3 n 196||(ab3 n 319||ab3 n 402)
def dL(x:AV):List Rat:=match x with
  | .lst _ es=>es.map dQ
  |_=>[]
def tR:Nat->Nat->Bool
  |0,l=>ab3 l 1
  |n+1,l=>ab3 l (2^(n+1))||tR n l
def eD(n:Nat)(l:List Rat):Bool:=l.all cP&&(ab3 l.length 0||tR n l.length)
theorem LJ:∀{n l:Nat},tR n l=true->∃j,j<=n/\l=2^j
 |0,l,h=>⟨0,afq _,by unfold tR at h;exact afo h⟩
 |n+1,l,h=>by
  unfold tR at h;rw[agp]at h;rcases h with h |h
  ·exact⟨n+1,afq _,afo h⟩
  ·obtain⟨j,h1,h2⟩:=LJ h;exact⟨j,by omega,h2⟩
theorem Di{n:Nat}(h5:n<=5){l:List Rat}(h:eD n l=true):Nm n 4000 l:=by
 unfold eD at h;rw[afp,agp,afy]at h;obtain⟨h1,h2⟩:=h
 have hl:Nl n l:=by
  rcases h2 with h2 |h2
  ·exact .inl (ac9 (afo h2))
  ·exact .inr (LJ h2)
 have h3:=hl.le;have h4:l.length<=32:=af2 h3 (bU (b:=5) h5);obtain⟨D,N,a1,a2,a3⟩:=u4 (e:=64) (l:=l) (fun q hq=>DM (h1 q hq));obtain⟨k,hk⟩:∃k,k=4000:=⟨_,rfl⟩
 rw[<- hk];exact⟨h5,hl,D,N,a1,af2 a2 (bU oz),af2 a3 (bU oz)⟩
structure TE where
  ts:LL
  R:Nat
  tw:Tw ts R
  kb:eB R ts.length<=300000
theorem TE.ct(t:TE):Ct t.ts 4000 300000:=⟨⟨t.R,t.tw,t.kb⟩,by omega,by omega,by omega,by omega⟩
def TE.A(t:TE):AV:=aB t.ts
abbrev TE.N(t:TE):Type:=Et t.ts
section
variable(t:TE)
def v2(f:FuncId)(g:t.N->t.N->AV)(h:∀a b,eD t.ts.length a=true->eD t.ts.length b=true->FP f [t.A,nA a,nA b] (g (dE t.ts a) (dE t.ts b)))(a b:List Rat):En :=
  match hh:eD t.ts.length a&&eD t.ts.length b with
  |true=>some ⟨f,[t.A,nA a,nA b],g (dE t.ts a) (dE t.ts b),[],h a b (by rw[afp]at hh;exact hh.1) (by rw[afp]at hh;exact hh.2)⟩
  |false=>none
def ry(f:FuncId)(g:t.N->t.N->AV)(h:∀a b,eD t.ts.length a=true->eD t.ts.length b=true->FP f [t.A,nA a,nA b] (g (dE t.ts a) (dE t.ts b)))(xs:List AV):En:=match xs with
  |[_,a,b]=>v2 t f g h (dL a) (dL b)
  |_=>none
def v1(f:FuncId)(g:t.N->AV)(h:∀a,eD t.ts.length a=true->FP f [t.A,nA a] (g (dE t.ts a)))(a:List Rat):En :=
  match hh:eD t.ts.length a with
  |true=>some ⟨f,[t.A,nA a],g (dE t.ts a),[],h a hh⟩
  |false=>none
def CV(f:FuncId)(g:t.N->AV)(h:∀a,eD t.ts.length a=true->FP f [t.A,nA a] (g (dE t.ts a)))(xs:List AV):En:=match xs with
  |[_,a]=>v1 t f g h (dL a)
  |_=>none
theorem TE.zl{a:List Rat}(h:eD t.ts.length a=true):Zl t.ts 4000 300000 a (dE t.ts a) 1 0:=Zl.at (Di t.tw.five h) (afq _)
theorem YN(a b:List Rat)(ha:eD t.ts.length a=true)(hb:eD t.ts.length b=true):FP 250 [t.A,nA a,nA b] (.tup [nA (sX (dE t.ts a+dE t.ts b)),.v .nilIface]):=by
 haveI:=t.ct;haveI:=t.zl ha;haveI:=t.zl hb;exact WT
theorem Td(a b:List Rat)(ha:eD t.ts.length a=true)(hb:eD t.ts.length b=true):FP 209 [t.A,nA a,nA b] (.tup [nA (sX (dE t.ts a-dE t.ts b)),.v .nilIface]):=by
 haveI:=t.ct;haveI:=t.zl ha;haveI:=t.zl hb;exact Zf
theorem Z1(a b:List Rat)(ha:eD t.ts.length a=true)(hb:eD t.ts.length b=true):FP 210 [t.A,nA a,nA b] (.tup [nA (sX (dE t.ts a*dE t.ts b)),.v .nilIface]):=by
 haveI:=t.ct;haveI:=t.zl ha;haveI:=t.zl hb;exact Zx
theorem Vu(a:List Rat)(ha:eD t.ts.length a=true):FP 128 [t.A,nA a] (.tup [nA (sX (-dE t.ts a)),.v .nilIface]):=by
 haveI:=t.ct;haveI:=t.zl ha;exact Y3
theorem SJ(a:List Rat)(ha:eD t.ts.length a=true):FP 87 [t.A,nA a] (.tup [i64 (aC (dE t.ts a)),.v .nilIface]):=by
 haveI:=t.ct;haveI:=t.zl ha;exact PI
theorem G6(a b:List Rat)(ha:eD t.ts.length a=true)(hb:eD t.ts.length b=true):FP 399 [t.A,nA a,nA b] (.tup [i64 (aC (dE t.ts a-dE t.ts b)),.v .nilIface]):=by
 have h1:=dl t.ts.length;exact yQ t.tw (Di t.tw.five ha) (Di t.tw.five hb) oz
theorem O1(a:List Rat)(ha:eD t.ts.length a=true):FP 33 [t.A,nA a] (i64 (aC (dE t.ts a))):=by
 haveI:=t.ct;haveI:=t.zl ha;exact P8
theorem VJ(a b:List Rat)(ha:eD t.ts.length a=true)(hb:eD t.ts.length b=true):FP 50 [t.A,nA a,nA b] (bl (Ag (dE t.ts a) (dE t.ts b))):=by
 haveI:=t.ct;haveI:=t.zl ha;haveI:=t.zl hb;exact Ob
end
def uz(l:List Rat):Bool:=l.all cP&&Nat.ble l.length 1000000
theorem r7{l:List Rat}(h:uz l=true):(∀q∈l,Qs q)/\l.length<=1000000:=by
 unfold uz at h;rw[afp,afy,acl]at h;exact⟨fun q hq=>jd (h.1 q hq),h.2⟩
def ZY(a:List Rat)(n:Nat):En:=match hh:Nat.ble a.length n&&Nat.ble n 1000000 with
  |true=>some ⟨414,[nA a,i64 n],nA (aP a n),[],AN a n (by rw[afp,acl]at hh;exact hh.1) (by rw[afp,acl,acl]at hh;omega)⟩
  |false=>none
def Ya(xs:List AV):En:=match xs with
  |[a,n]=>ZY (dL a) (dI n).toNat
  |_=>none
def W7(a b:List Rat):En:=match hh:uz a&&uz b with
  |true=>some ⟨334,[nA a,nA b],nA (bN a b),[],by
      rw[afp]at hh;exact oJ a b (r7 hh.1).1 (r7 hh.2).1 (by have:=(r7 hh.1).2;omega) (by have:=(r7 hh.2).2;omega)⟩
  |false=>none
def XY(xs:List AV):En:=match xs with
  |[a,b]=>W7 (dL a) (dL b)
  |_=>none
def Z3(a:List Rat):En:=match hh:uz a with
  |true=>some ⟨251,[nA a],nA (b8 a),[],rC a (r7 hh).1 (by have:=(r7 hh).2;omega)⟩
  |false=>none
def Zm(xs:List AV):En:=match xs with
  |[a]=>Z3 (dL a)
  |_=>none
def TS(a b:List Rat)(n:Nat):En:=match hh:Nat.ble a.length n&&Nat.ble b.length n&&Nat.ble n 1000000 with
  |true=>some ⟨362,[nA a,nA b,i64 n],nA (dj a b n),[],by
      rw[afp,afp,acl,acl,acl]at hh;exact xy a b n hh.1.1 hh.1.2 oz⟩
  |false=>none
def VH(xs:List AV):En:=match xs with
  |[a,b,n]=>TS (dL a) (dL b) (dI n).toNat
  |_=>none
def OD:List AV->Bool
  | .agg (.lst _ []::_)::_=>true
  | .agg (.v _::_)::_=>true
  |_=>false
def m9(o o':List AV->En)(xs:List AV):En:=match OD xs with
  |true=>o xs
  |false=>o' xs
def FR:TE:=⟨[],1,mv,by decide⟩
def d5(t:TE)(o:FuncId->Option (List AV->En)):FuncId->Option (List AV->En)
  |250=>some (m9 (ot 250 _ JD) (ry t 250 (fun x y=>.tup [nA (sX (x+y)),.v .nilIface]) (YN t)))
  |209=>some (m9 (ot 209 _ No) (ry t 209 (fun x y=>.tup [nA (sX (x-y)),.v .nilIface]) (Td t)))
  |210=>some (m9 (ot 210 _ Jc) (ry t 210 (fun x y=>.tup [nA (sX (x*y)),.v .nilIface]) (Z1 t)))
  |128=>some (m9 (yc 128 _ H1) (CV t 128 (fun x=>.tup [nA (sX (-x)),.v .nilIface]) (Vu t)))
  |87=>some (m9 (yc 87 _ Gz) (CV t 87 (fun x=>.tup [i64 (aC x),.v .nilIface]) (SJ t)))
  |138=>some (m9 (oC 138 [z0] (.v .nilIface) (xe mv)) (oC 138 [t.A] (.v .nilIface) (xe t.tw)))
  |33=>some (CV t 33 (fun x=>i64 (aC x)) (O1 t))
  |50=>some (m9 (ot 50 _ JJ) (ry t 50 (fun x y=>bl (Ag x y)) (VJ t)))
  |414=>some Ya
  |334=>some XY
  |251=>some Zm
  |362=>some VH
  |399=>some (m9 (ry FR 399 (fun x y=>.tup [i64 (aC (x-y)),.v .nilIface]) (G6 FR)) (ry t 399 (fun x y=>.tup [i64 (aC (x-y)),.v .nilIface]) (G6 t)))
  |f=>o f
theorem Yl:Tw [[(16:Rat)]] 10 where
 three:=by decide
 len:=fun j hj=>by
  obtain rfl:j=0:=by have:j<1:=hj;omega
  rfl
 pos:=fun j hj=>by
  obtain rfl:j=0:=by have:j<1:=hj;omega
  decide +kernel
 rb:=⟨1,16,by omega,fun d hd=>by
  rw[adc.1 hd];exact⟨by omega,fun q hq=>⟨16,by rw[adc.1 hq];decide +kernel,by decide⟩⟩,by decide,by decide⟩
 le:=by decide
def dP:TE:=⟨[[(16:Rat)]],10,Yl,by decide⟩
def ck:Li:=⟨⟨#[115,108,105,100,101,114]⟩,[kX ⟨#[102,114,97,109,101]⟩ 1,kX ⟨#[99,114,97,110,107]⟩ 3,kX ⟨#[114,111,100]⟩ 5],
  [⟨⟨#[111]⟩,0,1,0,0,0,0⟩,⟨⟨#[112]⟩,0,2,0,1,1,0⟩,⟨⟨#[115]⟩,1,2,1,0,0,1⟩],[⟨⟨#[100]⟩,1⟩]⟩
theorem dT:ao ck=0:=by
 have h1:iQ ck=0:=by
  unfold iQ fp eK gH ep;simp only[Dd];decide +kernel
 have h2:fa ck=0:=by
  unfold fa fp gz gH;simp only[Dd];decide +kernel
 have h3:ic ck=0:=by
  unfold ic fp el gH;simp only[Dd];decide +kernel
 unfold ao;rw[h1,h2,h3];decide +kernel
theorem Uw:ck.okw:=by
 refine⟨by decide,fun b hb=>?_,fun j hj=>?_,fun d hd=>?_,by decide,by decide,by decide⟩
 ·simp only[ck,agd,af8,or_false]at hb;rcases hb with rfl |rfl |rfl <;> exact Vd (by decide) oz
 ·simp only[ck,agd,af8,or_false]at hj;rcases hj with rfl |rfl |rfl <;> decide
 ·simp only[ck,agd,af8,or_false]at hd;rcases hd with rfl;decide
theorem dR:ck.ok:=BM (by decide +kernel) Uw
set_option maxRecDepth 20000
def C0:AV:=.agg [.v (.string ⟨⟨[97]⟩⟩),.v (.bool false),.lst 1 [],.lst 1 [],.v (.bool false),.v (.slice none 0 0),.v (.slice none 0 0)]
def Nc:AV:=.lst 3 [.agg [.v (.bool false),.lst 1 [],.lst 1 []],.agg [.v (.bool true),.lst 1 [.v (.int .u32 1)],.lst 1 [.v (.int .u32 1)]]]
def XG:AV:=.lst 3 [.agg [.v (.bool false),.lst 1 [],.lst 1 []],.agg [.v (.bool true),.lst 1 [.v (.int .u32 1)],.lst 1 [.v (.int .u32 5)]]]
def xG:AV:=.lst 3 [.agg [.v (.bool false),.lst 1 [],.lst 1 []],.agg [.v (.bool false),.lst 1 [.v (.int .u32 1)],.lst 1 [.v (.int .u32 1)]]]
def EC:AV:=.lst 3 [.agg [.v (.bool false),.lst 1 [],.lst 1 []],.agg [.v (.bool false),.lst 1 [.v (.int .u32 1)],.lst 1 [.v (.int .u32 5)]]]
def Wt:AV:=.agg [.v (.string ⟨⟨[111]⟩⟩),.v (.int .i64 0),.v (.int .i64 1),.v (.int .i64 0),.v (.int .i64 0),.v (.int .i64 0),.v (.int .i64 0)]
def ZN:AV:=.agg [.v (.string ⟨⟨[112]⟩⟩),.v (.int .i64 0),.v (.int .i64 2),.v (.int .i64 0),.v (.int .i64 1),.v (.int .i64 1),.v (.int .i64 0)]
def U8:AV:=.agg [.v (.string ⟨⟨[115]⟩⟩),.v (.int .i64 1),.v (.int .i64 2),.v (.int .i64 1),.v (.int .i64 0),.v (.int .i64 0),.v (.int .i64 1)]
def Jh:AV:=.agg [.v (.slice none 0 0),.lst 3 [.agg [.v (.bool false),.lst 1 [.v (.int .u32 1)],.lst 1 [.v (.int .u32 1)]]],.lst 3 [],.lst 3 []]
def QA:AV:=.agg [Nc,.lst 3 []]
def Yp:AV:=.agg [xG,.lst 3 []]
def DD:AV:=.agg [.lst 3 [.agg [.v (.bool false),.lst 1 [.v (.int .u32 1)],.lst 1 [.v (.int .u32 1)]]],.v (.slice none 0 0),.v (.slice none 0 0),.v (.slice none 0 0)]
def V2:AV:=.agg [.v (.slice none 0 0),.lst 3 [.agg [.v (.bool false),.lst 1 [.v (.int .u32 1)],.lst 1 [.v (.int .u32 1)]]],.v (.slice none 0 0),.v (.slice none 0 0)]
def W3:AV:=.agg [.v (.string ⟨⟨[98]⟩⟩),.v (.bool false),.lst 1 [.v (.int .u32 1)],.lst 1 [.v (.int .u32 1)],.v (.bool false),.v (.slice none 0 0),.v (.slice none 0 0)]
def XA:AV:=.agg [.v (.string ⟨⟨[98]⟩⟩),.v (.bool false),.lst 1 [.v (.int .u32 3)],.lst 1 [.v (.int .u32 1)],.v (.bool false),.v (.slice none 0 0),.v (.slice none 0 0)]
def S3:AV:=.agg [.v (.string ⟨⟨[98]⟩⟩),.v (.bool false),.lst 1 [.v (.int .u32 5)],.lst 1 [.v (.int .u32 1)],.v (.bool false),.v (.slice none 0 0),.v (.slice none 0 0)]
def PS:AV:=.lst 7 [C0,W3]
def Py:AV:=.lst 7 [C0,XA]
def Yu:AV:=.lst 7 [C0,S3]
def Kw:AV:=.lst 2 [Yp,QA]
def aam:AV:=.agg [XG,.lst 3 [.agg [.v (.bool true),.lst 1 [.v (.int .u32 3)],.lst 1 [.v (.int .u32 5)]]],.lst 3 [],.lst 3 [.agg [.v (.bool false),.lst 1 [.v (.int .u32 3)],.lst 1 [.v (.int .u32 1)]]]]
def V6:AV:=.agg [EC,.lst 3 [.agg [.v (.bool true),.lst 1 [.v (.int .u32 3)],.lst 1 [.v (.int .u32 5)]]],.lst 3 [],.lst 3 [.agg [.v (.bool false),.lst 1 [.v (.int .u32 3)],.lst 1 [.v (.int .u32 1)]]]]
def Q9:AV:=.lst 4 [aam]
def NN:AV:=.lst 4 [V6]
def YD:AV:=.agg [EC,.lst 3 [.agg [.v (.bool true),.lst 1 [.v (.int .u32 3)],.lst 1 [.v (.int .u32 5)]]],.v (.slice none 0 0),.lst 3 [.agg [.v (.bool false),.lst 1 [.v (.int .u32 3)],.lst 1 [.v (.int .u32 1)]]]]
def Nw:AV:=.agg [.v (.string ⟨⟨[114,111,100]⟩⟩),Yu]
def PO:AV:=.agg [.v (.string ⟨⟨[99,114,97,110,107]⟩⟩),Py]
def WS:AV:=.agg [.v (.string ⟨⟨[102,114,97,109,101]⟩⟩),PS]
def RW:AV:=.lst 7 [Wt,ZN,U8]
def FC:AV:=.agg [.lst 1 [.lst 3 [.agg [.v (.bool false),.lst 1 [.v (.int .u32 16)],.lst 1 [.v (.int .u32 1)]]]],NN,.v (.int .i64 1)]
def JC:AV:=.agg [.lst 1 [.lst 3 [.agg [.v (.bool false),.lst 1 [.v (.int .u32 16)],.lst 1 [.v (.int .u32 1)]]]],Q9,.v (.int .i64 (-1))]
def OT:AV:=.lst 4 [DD,V2,YD]
def pM:AV:=.agg [.lst 1 [.lst 3 [.agg [.v (.bool false),.lst 1 [.v (.int .u32 16)],.lst 1 [.v (.int .u32 1)]]]],OT,.lst 1 [.v (.int .i64 1),.v (.int .i64 1)]]
def Zd:AV:=.lst 2 [WS,PO,Nw]
def mL:AV:=.agg [.v (.string ⟨⟨[115,108,105,100,101,114]⟩⟩),Zd,RW,.lst 2 [.agg [.v (.string ⟨⟨[100]⟩⟩),.v (.int .i64 1)]]]
theorem UG:Con prog 110 [] [] (mL) []:=du ⟨dS [] ((d5 dP (dZ ck dR dT))),d6 prog,dY⟩ 6000 (base:=2000) (av:=[]) (by kernel_rfl)
def Hw:List (Ent prog):=⟨_,_,_,_,UG⟩::[]
theorem Uk:Con prog 350 [.agg [.v (.slice none 0 0)],.lst 3 [],.lst 3 [.agg [.v (.bool false),.lst 1 [.v (.int .u32 1)],.lst 1 [.v (.int .u32 1)]]]] [] (.tup [.v (.slice none 0 0),.v .nilIface]) []:=du ⟨dS Hw ((d5 dP (dZ ck dR dT))),d6 prog,dY⟩ 6000 (base:=2000) (av:=[]) (by kernel_rfl)
def F8:List (Ent prog):=⟨_,_,_,_,Uk⟩::Hw
theorem Ph:Con prog 350 [.agg [.v (.slice none 0 0)],.lst 3 [.agg [.v (.bool false),.lst 1 [.v (.int .u32 1)],.lst 1 [.v (.int .u32 1)]]],.lst 3 [.agg [.v (.bool false),.lst 1 [.v (.int .u32 1)],.lst 1 [.v (.int .u32 1)]]]] [] (.tup [.ms 300 3 0 1,.v .nilIface]) [pP 300 (.row 3 [.agg [.v (.bool false),.lst 1 [.v (.int .u32 1)],.lst 1 [.v (.int .u32 1)]]])]:=du ⟨dS F8 ((d5 dP (dZ ck dR dT))),d6 prog,dY⟩ 6000 (base:=2000) (av:=[]) (by kernel_rfl)
def Ig:List (Ent prog):=⟨_,_,_,_,Ph⟩::F8
theorem Nv:Con prog 153 [mL,.v (.int .i64 0),.agg [.v (.bool false),.lst 1 [.v (.int .u32 1)],.lst 1 [.v (.int .u32 1)],.v (.bool false)],.agg [.v (.slice none 0 0),.lst 4 [DD,.agg [.v (.slice none 0 0),.v (.slice none 0 0),.v (.slice none 0 0),.v (.slice none 0 0)],.agg [.v (.slice none 0 0),.v (.slice none 0 0),.v (.slice none 0 0),.v (.slice none 0 0)]],.v (.slice none 0 0)]] [] (.tup [.lst 3 [.agg [.v (.slice none 0 0),.lst 4 [Jh],.v (.int .i64 1)]],.v .nilIface]) []:=du ⟨dS Ig ((d5 dP (dZ ck dR dT))),d6 prog,dY⟩ 6000 (base:=2000) (av:=[]) (by kernel_rfl)
def Jk:List (Ent prog):=⟨_,_,_,_,Nv⟩::Ig
theorem NO:Con prog 350 [.agg [.lst 1 [.lst 3 [.agg [.v (.bool false),.lst 1 [.v (.int .u32 16)],.lst 1 [.v (.int .u32 1)]]]]],xG,.lst 3 [.agg [.v (.bool false),.lst 1 [.v (.int .u32 1)],.lst 1 [.v (.int .u32 1)]]]] [] (.tup [.ms 300 3 0 2,.v .nilIface]) [pP 300 (.row 3 [.agg [.v (.bool false),.lst 1 [],.lst 1 []],.agg [.v (.bool false),.lst 1 [.v (.int .u32 1)],.lst 1 [.v (.int .u32 1)]]])]:=du ⟨dS Jk ((d5 dP (dZ ck dR dT))),d6 prog,dY⟩ 6000 (base:=2000) (av:=[]) (by kernel_rfl)
def Gk:List (Ent prog):=⟨_,_,_,_,NO⟩::Jk
theorem UO:Con prog 350 [.agg [.lst 1 [.lst 3 [.agg [.v (.bool false),.lst 1 [.v (.int .u32 16)],.lst 1 [.v (.int .u32 1)]]]]],Nc,.lst 3 [.agg [.v (.bool false),.lst 1 [.v (.int .u32 1)],.lst 1 [.v (.int .u32 1)]]]] [] (.tup [.ms 300 3 0 2,.v .nilIface]) [pP 300 (.row 3 [.agg [.v (.bool false),.lst 1 [],.lst 1 []],.agg [.v (.bool true),.lst 1 [.v (.int .u32 1)],.lst 1 [.v (.int .u32 1)]]])]:=du ⟨dS Gk ((d5 dP (dZ ck dR dT))),d6 prog,dY⟩ 6000 (base:=2000) (av:=[]) (by kernel_rfl)
def M7:List (Ent prog):=⟨_,_,_,_,UO⟩::Gk
theorem Xn:Con prog 379 [.agg [.v (.slice none 0 0)],.agg [.lst 3 [],.lst 3 [.agg [.v (.bool false),.lst 1 [.v (.int .u32 3)],.lst 1 [.v (.int .u32 1)]]],.lst 3 [.agg [.v (.bool false),.lst 1 [.v (.int .u32 25)],.lst 1 [.v (.int .u32 1)]]]],.agg [.lst 3 [],.lst 3 []],.agg [.lst 3 [.agg [.v (.bool false),.lst 1 [.v (.int .u32 1)],.lst 1 [.v (.int .u32 1)]]],.lst 3 []]] [] (.tup [.agg [.ms 301 1 0 1,Kw],.v .nilIface]) [pP 301 (.row 1 [.lst 3 [.agg [.v (.bool false),.lst 1 [.v (.int .u32 16)],.lst 1 [.v (.int .u32 1)]]]])]:=du ⟨dS M7 ((d5 dP (dZ ck dR dT))),d6 prog,dY⟩ 6000 (base:=2000) (av:=[]) (by kernel_rfl)
def JZ:List (Ent prog):=⟨_,_,_,_,Xn⟩::M7
theorem SD:Con prog 350 [.agg [.lst 1 [.lst 3 [.agg [.v (.bool false),.lst 1 [.v (.int .u32 16)],.lst 1 [.v (.int .u32 1)]]]]],.lst 3 [.agg [.v (.bool false),.lst 1 [],.lst 1 []],.agg [.v (.bool false),.lst 1 [.v (.int .u32 5)],.lst 1 [.v (.int .u32 1)]]],.lst 3 [.agg [.v (.bool false),.lst 1 [.v (.int .u32 25)],.lst 1 [.v (.int .u32 1)]]]] [] (.tup [.ms 300 3 0 2,.v .nilIface]) [pP 300 (.row 3 [.agg [.v (.bool false),.lst 1 [],.lst 1 []],.agg [.v (.bool false),.lst 1 [.v (.int .u32 1)],.lst 1 [.v (.int .u32 5)]]])]:=du ⟨dS JZ ((d5 dP (dZ ck dR dT))),d6 prog,dY⟩ 6000 (base:=2000) (av:=[]) (by kernel_rfl)
def Il:List (Ent prog):=⟨_,_,_,_,SD⟩::JZ
theorem aae:Con prog 350 [.agg [.lst 1 [.lst 3 [.agg [.v (.bool false),.lst 1 [.v (.int .u32 16)],.lst 1 [.v (.int .u32 1)]]]]],.lst 3 [.agg [.v (.bool true),.lst 1 [.v (.int .u32 15)],.lst 1 [.v (.int .u32 1)]]],.lst 3 [.agg [.v (.bool false),.lst 1 [.v (.int .u32 25)],.lst 1 [.v (.int .u32 1)]]]] [] (.tup [.ms 300 3 0 1,.v .nilIface]) [pP 300 (.row 3 [.agg [.v (.bool true),.lst 1 [.v (.int .u32 3)],.lst 1 [.v (.int .u32 5)]]])]:=du ⟨dS Il ((d5 dP (dZ ck dR dT))),d6 prog,dY⟩ 6000 (base:=2000) (av:=[]) (by kernel_rfl)
def Jo:List (Ent prog):=⟨_,_,_,_,aae⟩::Il
theorem Xy:Con prog 350 [.agg [.lst 1 [.lst 3 [.agg [.v (.bool false),.lst 1 [.v (.int .u32 16)],.lst 1 [.v (.int .u32 1)]]]]],.lst 3 [.agg [.v (.bool false),.lst 1 [],.lst 1 []],.agg [.v (.bool true),.lst 1 [.v (.int .u32 5)],.lst 1 [.v (.int .u32 1)]]],.lst 3 [.agg [.v (.bool false),.lst 1 [.v (.int .u32 25)],.lst 1 [.v (.int .u32 1)]]]] [] (.tup [.ms 300 3 0 2,.v .nilIface]) [pP 300 (.row 3 [.agg [.v (.bool false),.lst 1 [],.lst 1 []],.agg [.v (.bool true),.lst 1 [.v (.int .u32 1)],.lst 1 [.v (.int .u32 5)]]])]:=du ⟨dS Jo ((d5 dP (dZ ck dR dT))),d6 prog,dY⟩ 6000 (base:=2000) (av:=[]) (by kernel_rfl)
def KZ:List (Ent prog):=⟨_,_,_,_,Xy⟩::Jo
theorem WU:Con prog 378 [.agg [.lst 1 [.lst 3 [.agg [.v (.bool false),.lst 1 [.v (.int .u32 16)],.lst 1 [.v (.int .u32 1)]]]],Kw],.lst 14 [.agg [.v (.bool false),.lst 1 [],.lst 1 [],.v (.bool false),.v (.slice none 0 0),.v (.slice none 0 0),.lst 3 [],.lst 3 [.agg [.v (.bool false),.lst 1 [.v (.int .u32 3)],.lst 1 [.v (.int .u32 1)]]],.v (.bool false),.lst 1 [.v (.int .u32 5)],.lst 1 [.v (.int .u32 1)],.v (.bool false),.v (.slice none 0 0),.v (.slice none 0 0)]]] [] (.tup [.ms 300 3 0 2,.v .nilIface]) [pP 300 (.row 3 [FC,JC])]:=du ⟨dS KZ ((d5 dP (dZ ck dR dT))),d6 prog,dY⟩ 6000 (base:=2000) (av:=[]) (by kernel_rfl)
def Ku:List (Ent prog):=⟨_,_,_,_,WU⟩::KZ
theorem QJ:Con prog 153 [mL,.v (.int .i64 1),.agg [.v (.bool false),.v (.slice none 0 0),.v (.slice none 0 0),.v (.bool false)],.agg [.v (.slice none 0 0),.lst 4 [DD,Jh,.agg [.v (.slice none 0 0),.v (.slice none 0 0),.v (.slice none 0 0),.v (.slice none 0 0)]],.lst 1 [.v (.int .i64 1)]]] [] (.tup [.ms 300 3 0 2,.v .nilIface]) [pP 300 (.row 3 [FC,JC])]:=du ⟨dS Ku ((d5 dP (dZ ck dR dT))),d6 prog,dY⟩ 6000 (base:=2000) (av:=[]) (by kernel_rfl)
def Hi:List (Ent prog):=⟨_,_,_,_,QJ⟩::Ku
theorem SK:Con prog 278 [.lst 3 [.agg [.v (.bool false),.lst 1 [.v (.int .u32 16)],.lst 1 [.v (.int .u32 1)]]]] [] (.ms 300 3 0 1) [pP 300 (.row 3 [.agg [.v (.bool false),.lst 1 [.v (.int .u32 16)],.lst 1 [.v (.int .u32 1)]]])]:=du ⟨dS Hi ((d5 dP (dZ ck dR dT))),d6 prog,dY⟩ 6000 (base:=2000) (av:=[]) (by kernel_rfl)
def Nn:List (Ent prog):=⟨_,_,_,_,SK⟩::Hi
theorem Yr:Con prog 278 [.lst 3 [.agg [.v (.bool false),.lst 1 [.v (.int .u32 1)],.lst 1 [.v (.int .u32 1)]]]] [] (.ms 300 3 0 1) [pP 300 (.row 3 [.agg [.v (.bool false),.lst 1 [.v (.int .u32 1)],.lst 1 [.v (.int .u32 1)]]])]:=du ⟨dS Nn ((d5 dP (dZ ck dR dT))),d6 prog,dY⟩ 6000 (base:=2000) (av:=[]) (by kernel_rfl)
def JM:List (Ent prog):=⟨_,_,_,_,Yr⟩::Nn
theorem Xd:Con prog 278 [.v (.slice none 0 0)] [] (.v (.slice none 0 0)) []:=du ⟨dS JM ((d5 dP (dZ ck dR dT))),d6 prog,dY⟩ 6000 (base:=2000) (av:=[]) (by kernel_rfl)
def GB:List (Ent prog):=⟨_,_,_,_,Xd⟩::JM
theorem PC:Con prog 278 [.lst 3 []] [] (.v (.slice none 0 0)) []:=du ⟨dS GB ((d5 dP (dZ ck dR dT))),d6 prog,dY⟩ 6000 (base:=2000) (av:=[]) (by kernel_rfl)
def GZ:List (Ent prog):=⟨_,_,_,_,PC⟩::GB
theorem S7:Con prog 278 [EC] [] (.ms 300 3 0 2) [pP 300 (.row 3 [.agg [.v (.bool false),.lst 1 [],.lst 1 []],.agg [.v (.bool false),.lst 1 [.v (.int .u32 1)],.lst 1 [.v (.int .u32 5)]]])]:=du ⟨dS GZ ((d5 dP (dZ ck dR dT))),d6 prog,dY⟩ 6000 (base:=2000) (av:=[]) (by kernel_rfl)
def Ly:List (Ent prog):=⟨_,_,_,_,S7⟩::GZ
theorem PZ:Con prog 278 [.lst 3 [.agg [.v (.bool true),.lst 1 [.v (.int .u32 3)],.lst 1 [.v (.int .u32 5)]]]] [] (.ms 300 3 0 1) [pP 300 (.row 3 [.agg [.v (.bool true),.lst 1 [.v (.int .u32 3)],.lst 1 [.v (.int .u32 5)]]])]:=du ⟨dS Ly ((d5 dP (dZ ck dR dT))),d6 prog,dY⟩ 6000 (base:=2000) (av:=[]) (by kernel_rfl)
def MT:List (Ent prog):=⟨_,_,_,_,PZ⟩::Ly
theorem Q5:Con prog 278 [.lst 3 [.agg [.v (.bool false),.lst 1 [.v (.int .u32 3)],.lst 1 [.v (.int .u32 1)]]]] [] (.ms 300 3 0 1) [pP 300 (.row 3 [.agg [.v (.bool false),.lst 1 [.v (.int .u32 3)],.lst 1 [.v (.int .u32 1)]]])]:=du ⟨dS MT ((d5 dP (dZ ck dR dT))),d6 prog,dY⟩ 6000 (base:=2000) (av:=[]) (by kernel_rfl)
def J7:List (Ent prog):=⟨_,_,_,_,Q5⟩::MT
theorem Xs:Con prog 69 [mL,.lst 4 [.agg [.v (.bool false),.lst 1 [.v (.int .u32 1)],.lst 1 [.v (.int .u32 1)],.v (.bool false)]],.lst 1 [.v (.int .i64 1),.v (.int .i64 1)]] [] (.tup [pM,.v .nilIface]) []:=du ⟨dS J7 ((d5 dP (dZ ck dR dT))),d6 prog,dY⟩ 6000 (base:=2000) (av:=[]) (by kernel_rfl)
def Lv:List (Ent prog):=⟨_,_,_,_,Xs⟩::J7
theorem We:Con prog 24 [mL,.lst 4 [.agg [.v (.bool false),.lst 1 [.v (.int .u32 1)],.lst 1 [.v (.int .u32 1)],.v (.bool false)]],pM] [] (.tup [.v (.bool true),.agg [.v (.int .i64 0),.v (.int .i64 0)],.v .nilIface]) []:=du ⟨dS Lv ((d5 dP (dZ ck dR dT))),d6 prog,dY⟩ 6000 (base:=2000) (av:=[]) (by kernel_rfl)
def Nf:List (Ent prog):=⟨_,_,_,_,We⟩::Lv
theorem abl:Con prog 86 [mL,.v (.int .i64 0),pM] [] (.tup [.lst 3 [.agg [.v (.bool false),.lst 1 [.v (.int .u32 1)],.lst 1 [.v (.int .u32 1)]]],.v .nilIface]) []:=du ⟨dS Nf ((d5 dP (dZ ck dR dT))),d6 prog,dY⟩ 6000 (base:=2000) (av:=[]) (by kernel_rfl)
def JO:List (Ent prog):=⟨_,_,_,_,abl⟩::Nf
theorem Wq:Con prog 86 [mL,.v (.int .i64 1),pM] [] (.tup [xG,.v .nilIface]) []:=du ⟨dS JO ((d5 dP (dZ ck dR dT))),d6 prog,dY⟩ 6000 (base:=2000) (av:=[]) (by kernel_rfl)
def Fx:List (Ent prog):=⟨_,_,_,_,Wq⟩::JO
theorem VA:Con prog 29 [mL,.lst 4 [.agg [.v (.bool false),.lst 1 [.v (.int .u32 1)],.lst 1 [.v (.int .u32 1)],.v (.bool false)]],pM] [] (.tup [.v (.slice none 0 0),.v .nilIface]) []:=du ⟨dS Fx ((d5 dP (dZ ck dR dT))),d6 prog,dY⟩ 6000 (base:=2000) (av:=[]) (by kernel_rfl)
def Lj:List (Ent prog):=⟨_,_,_,_,VA⟩::Fx
theorem ZC:Con prog 350 [.agg [.lst 1 [.lst 3 [.agg [.v (.bool false),.lst 1 [.v (.int .u32 16)],.lst 1 [.v (.int .u32 1)]]]]],.lst 3 [],xG] [] (.tup [.v (.slice none 0 0),.v .nilIface]) []:=du ⟨dS Lj ((d5 dP (dZ ck dR dT))),d6 prog,dY⟩ 6000 (base:=2000) (av:=[]) (by kernel_rfl)
def Hb:List (Ent prog):=⟨_,_,_,_,ZC⟩::Lj
theorem TF:Con prog 37 [mL,.lst 4 [.agg [.v (.bool false),.lst 1 [.v (.int .u32 1)],.lst 1 [.v (.int .u32 1)],.v (.bool false)]],pM,.v (.int .i64 0)] [] (.tup [.ms 300 3 0 3,.v .nilIface]) [pP 300 (.row 3 [.agg [.v (.slice none 0 0),.v (.slice none 0 0),.v (.slice none 0 0)],.agg [.lst 3 [.agg [.v (.bool false),.lst 1 [.v (.int .u32 1)],.lst 1 [.v (.int .u32 1)]]],.lst 3 [],.lst 3 []],.agg [.lst 3 [],.lst 3 [.agg [.v (.bool true),.lst 1 [.v (.int .u32 3)],.lst 1 [.v (.int .u32 1)]]],.lst 3 []]])]:=du ⟨dS Hb ((d5 dP (dZ ck dR dT))),d6 prog,dY⟩ 6000 (base:=2000) (av:=[]) (by kernel_rfl)
def Ka:List (Ent prog):=⟨_,_,_,_,TF⟩::Hb
theorem Qe:Con prog 111 [pM,.lst 3 [.agg [.v (.slice none 0 0),.v (.slice none 0 0),.v (.slice none 0 0)],.agg [.lst 3 [.agg [.v (.bool false),.lst 1 [.v (.int .u32 1)],.lst 1 [.v (.int .u32 1)]]],.lst 3 [],.lst 3 []],.agg [.lst 3 [],.lst 3 [.agg [.v (.bool true),.lst 1 [.v (.int .u32 3)],.lst 1 [.v (.int .u32 1)]]],.lst 3 []]],.v (.int .i64 2),.agg [.v (.bool false),.lst 1 [.v (.int .u32 5)],.lst 1 [.v (.int .u32 1)]],.agg [.v (.bool false),.v (.slice none 0 0),.v (.slice none 0 0)]] [] (.tup [.agg [.lst 3 [.agg [.v (.bool true),.lst 1 [.v (.int .u32 3)],.lst 1 [.v (.int .u32 1)]]],.lst 3 []],.v .nilIface]) []:=du ⟨dS Ka ((d5 dP (dZ ck dR dT))),d6 prog,dY⟩ 6000 (base:=2000) (av:=[]) (by kernel_rfl)
def Uo:List (Ent prog):=⟨_,_,_,_,Qe⟩::Ka
theorem Ic:FP 34 [] (bl true):=du ⟨dS Uo ((d5 dP (dZ ck dR dT))),d6 prog,dY⟩ 6000 (base:=2000) (av:=[]) (by kernel_rfl)
theorem S0{l:Li}{xs:List Tn}(h:ku l xs=true)(h1:ao l=0)(h2:splitE l=0):(splitG l).length<=4:=by
 unfold ku at h;simp only[afp,ag0]at h;have hR:=h.2.2.2;rw[agz h1]at hR;unfold zX at hR;rw[kj,kj,iz,agp,agp,afp]at hR;have hd2:=Xk h1;rcases hR with(hR |hR) |hR
 ·exact ag5 h2 (eF hR)
 ·have h9:=ag1 (p:=(((splitG l).length:Int)-l.dv.length)<=1) hR;omega
 ·have h9:=ag1 (p:=(((splitG l).length:Int)-l.dv.length)=2) hR.1;omega
theorem Su{a:As}{r:List Vr}(h:lD a r=true)(al:AL a)(hc:aZ a.rs=0):(llq a.rs).length<=2:=by
 unfold lD at h;simp only[afp,ag0]at h;have h5:=(bZ al.tr hc).1.five;rw[jR]at h5 ⊢;rcases h.2.2.2.2 with h9 |h9 <;> omega
theorem Fj{l:Li}{xs:List Tn}{a:As}{drv:Int}(h:d8 l xs a≠0):lh l xs a drv=d8 l xs a:=by
 unfold lh
 by_cases h1:ao l=0
 ·by_cases h2:splitE l=0
  ·by_cases h3:dm l xs=0
   ·have h4:(cA l xs a).1≠0:=fun h4=>h (zU h1 h2 h3 h4)
    rw[Ar h1 h2 h3 h4];exact FU h1 h2 h3 (by rw[ag4 h4,aeu])
   ·rw[Do h1 h2 h3];exact KT h1 h2 h3
  ·rw[ER h1 h2];exact Em (by rw[agz h1]) h2
 ·rw[BO h1];exact Em (by rw[agy h1]) h1
theorem HT{l:Li}{xs:List Tn}{a:As}{drv:Int}(h:d8 l xs a=0):lh l xs a drv=j7 l (aR a) drv:=by
 obtain⟨h1,h2,h3,h4⟩:=mY h;unfold lh gI j7;rw[agy oz,agy oz,agy oz,agy (by rw[h3,h4];decide)]
theorem Yh{l:Li}(hl:l.ok){xs:List Tn}{a:As}(al:AL a)(h2:d8 l xs a=0->(llq a.rs).length<=2)(hn:d8 l xs a=0->(splitG l).length<=4)(drv:Int) :
  ∃V W:List (Vt (aR a).ts),lK l (aR a) drv (lh l xs a drv)=V.map Vt.av/\(d8 l xs a=0->o8 l (aR a) drv=W.map Vt.av)/\(d8 l xs a≠0->W=[])/\V.length=W.length/\V.length<=100 /\
   ∀(i:Nat)(v w:Vt (aR a).ts),V[i]?=some v->W[i]?=some w->FP 41 [a5 a.rs,v.av,w.av] (bl true):=by
 by_cases hac:d8 l xs a=0
 ·obtain⟨h1,h3,h4,h5⟩:=mY hac;have hg:=wP hl h1 al h5;have two:=h2 hac;have hN:=hn hac;rw[HT hac]
  by_cases hr:j7 l (aR a) drv=0
  ·have hz:(cM l (aR a) (splitG l).length).length=0:=by
    unfold j7 at hr;split at hr
    ·cases hr
    ·split at hr
     ·cases hr
     ·rename_i h9;exact afk.1 h9
   have hp:fC (aR a).ts:=hg.tw.1.pos;have hJ:=Ao hg h5;have hd:∀g∈splitG l,g.kind≠0->aC (de l (aR a).ts (aR a).bs g)≠0:=CT hz;have A:=tT hg two;have hI:∀r,eB r (aR a).ts.length<=120006->iB r (aR a).ts.length (24*4000+18*120006+16085)<=49000000:=fun r hr=>Ay two hr
   have b1:=A0 A hI (fun g hgm=>MS hp hJ (i9 h1 hgm).1 (hd g hgm)) drv _ (afq _) (fun m hm=>rH oz);have b2:=BA A hI (fun g hgm=>Fz hp hJ (i9 h1 hgm).1 (hd g hgm)) drv _ (afq _) (fun m hm=>rH oz);rw[af1]at b1 b2;have key:=YA hp hJ h1 drv hd;have hlb:=(er h1).2.2.2
   have hb4:vB 4000 120006 49000000 (splitG l).length<=99000000000:=by
    match h9:(splitG l).length,hN with
    |0,_=>decide
    |1,_=>decide
    |2,_=>decide
    |3,_=>decide
    |4,_=>decide
   refine⟨qX l (aR a) drv,u9 l (aR a) drv,by unfold lK;rw[agz hr],fun _=>by unfold o8;rw[agz hr],fun h=>ag5 hac h,key.1,?_,fun i v w hv hw=>?_⟩
   ·have h9:(qX l (aR a) drv).length=l.bo.length:=b1.1;rw[h9];omega
   ·have bv:Bv 99000000000 v:=(b1.2 v (afl hv)).mono hb4;have bw:Bv 99000000000 w:=(b2.2 w (afl hw)).mono hb4
    have hq:VQ hp v w:=by
     have h9:=key.2 (i:Int);unfold cE at h9;rw[show((i:Int).toNat)=i from rfl,ax hv,ax hw]at h9;exact h9
    have hs:=Xg (ts:=(aR a).ts) hg.tw.1 two bv bw oz;have ht:a5 a.rs=aB (aR a).ts:=hg.tw.2.1;rw[Ts hq,<- ht]at hs;exact hs
  ·refine⟨[],[],by unfold lK;rw[agy hr];rfl,fun _=>by unfold o8;rw[agy hr];rfl,fun h=>ag5 hac h,rfl,afz _,fun i v w hv=>by cases hv⟩
 ·refine⟨[],[],by rw[Fj hac];unfold lK;rw[agy hac];rfl,fun h=>ag5 h hac,fun _=>rfl,rfl,afz _,fun i v w hv=>by cases hv⟩
theorem OV{p q:Bool}(h:cond (cond (!true) true (!p)) true (!q)=false):p=true/\q=true:=by cases p <;> cases q <;> simp_all
theorem Rs(l:Li)(hw:l.okw)(xs:List Tn)(hxl:xs.length<=281474976710656):FP 35 [l.av,.lst 4 (xs.map Tn.av)] (bl (ku l xs&&decide ((l.bo.length:Int)-l.dv.length<=5))):=by
 have hlb:=hw.lb;have hld:=hw.ld;refine ai func35 ?_;refine gc (Rl l hw xs hxl) ?_;refine bF ?_;refine bF ?_;refine nP (fun _=>(dp oz)) ?_;refine af ?_;rw[iz];rfl
abbrev Ff(a:As)(drv:Int):List AV:=[.lst 1 (a.rs.map nR),.lst 4 (a.bs.map Pl.av),.lst 1 (a.ms.map i64),i64 drv]
theorem Tm(l:Li)(hw:l.okw)(xs:List Tn)(hxw:∀x∈xs,x.t.wok)(hxl:xs.length<=281474976710656)(a:As)(ha:a.ok)(drv:Int):FP 6 [l.av,.lst 4 (xs.map Tn.av),.agg (Ff a drv)] (bl true):=by
 have hL0:FP 36 [a.av,nS] (bl (lD a [])):=Con.sA (.cons (.refl _) (.cons (Sub.nil _ none 0) .nil)) (SN a ha [] (fun x hx=>by cases hx) (afz _));refine ai func6 ?_;refine gc Ic ?_;refine bn (fun _=>(Rs l hw xs hxl)) ?_;refine bn (fun _=>hL0) ?_;refine gC (fun z=>?_) (fun z=>?_)
 ·refine gc Ic ?_;refine af ?_
  first |rfl |(simp;done)
 obtain⟨hF,hV⟩:=OV z;rw[afp]at hF;have h27:=hF.1;obtain⟨g1,hx20,hxt⟩:=aar h27;have hl:=BM g1 hw;have hx:∀x∈xs,x.t.ok/\Qb 1000 x.t.q:=fun x hx=>Ru (afy.1 hxt x hx) (hxw x hx)
 have al:=(ZE hV ha (fun x hx=>by cases hx)).al
 have h2:d8 l xs a=0->(llq a.rs).length<=2:=fun hac=>by
  obtain⟨h1,_,_,h5⟩:=mY hac;exact Su hV al (wP hl h1 al h5).ck
 have hn:d8 l xs a=0->(splitG l).length<=4:=fun hac=>by
  obtain⟨h1,h3,_,h5⟩:=mY hac;exact S0 h27 h1 h3
 obtain⟨V,W,eV,eW,eW0,hVW,hVl,hS⟩:=Yh hl (xs:=xs) al h2 hn drv;have c1:=OA hl xs hx hxl al h2 hn drv;rw[eV]at c1;have c2:=N2 l hl xs hx hxl a al;refine gc c1 ?_;refine gc c2 ?_;refine tb [5,7,8] [5] [pP 9 (i64 (lh l xs a drv)),pP 10 (.lst 3 (W.map Vt.av))] [] (True) ?_ ?_
 ·intro K1 J1;refine gC (fun z=>?_) (fun z=>?_)
  ·have hac:d8 l xs a=0:=by have h9:=cB z; omega
   have hg:=wP hl (mY hac).1 al (mY hac).2.2.2;have c3:=TC hg (h2 hac) (mY hac).2.1 (hn hac) (fun hz g hgm=>Fz (a:=aR a) hg.tw.1.pos (Ao hg (mY hac).2.2.2) (i9 (mY hac).1 hgm).1 (CT hz g hgm)) drv;rw[eW hac,<- HT (xs:=xs) hac]at c3;refine gc c3 ?_;exact jx J1 trivial
  have hac:d8 l xs a≠0:=fun h=>by have h9:=cU z;omega
  exact jx J1 trivial (hw:=Wk.of (.cons rfl (Sub.of (by rw[Fj hac])) (.cons rfl (by rw[eW0 hac];exact Sub.nil _ none 0) (.k (.k (.k .nil))))) (.k .nil))
 rintro -;refine gc (Ny (lh l xs a drv)) ?_;refine bF ?_;refine bF ?_;refine gC (fun z=>?_) (fun z=>?_) (st1:=(9,0));exact ag5 z (by rw[hVW];simp[aa]);refine gl ?_;refine aL [5,7,10,66] [5] (fun(i:Nat)=>[pP 67 (i64 i)]) (fun _=>[]) (fun i=>i<=V.length) (fun i=>V.length-i) 0 (afz _) ?_;rintro i hi K2 J2;refine gC (fun z=>?_) (fun z=>?_)
 ·have hin:i<V.length:=aY z;obtain⟨v,hv⟩:=ay hin;obtain⟨w,hw9⟩:=ay (l:=W) (i:=i) oz;refine gi (aq hv) ?_;refine gi (aq hw9) ?_;refine gc (hS i v w hv hw9) ?_;refine gD ?_;refine gf ?_;refine ga aK ?_;exact aH J2 (i+1) hin
 refine af ?_;rfl
open Go.Proofs Go.Proofs.YtokaoegjfpjjnaaGreat
open Go.ChangeShapes Go.WideShapes Go.ChangeAt Go.RowKit
theorem VV{W:ahc}{H:Type}{enc:aha×ag9->H}:cu prog W enc 79 (fun q:As×Int=>.agg (Ff q.1 q.2)) (fun q=>q.1.ok) :=
 (kU (n:=4) Tryz.underlying79 (by kernel_rfl)
  (.cons rfl (n:=3) (by kernel_rfl) W9 (fun _=>rfl) (.cons rfl (n:=1) (by kernel_rfl) ml (fun _=>rfl) (.nil _))) (fun _=>rfl)).map
  (fun z=>(z.1,z.2.1)) _ _ (fun z h=>⟨h.1,rfl⟩)
set_option maxRecDepth 100000 in
theorem Tt(os:Os)(started:os.Started)(H:Type)(enc:aha×ag9->H) :
  ReturnsInHanded {} Tryz.checked os 6 .any (Rows.velocityOfSpec.pre6 enc prog Tryz.f6 Rows.velocityOfRow.domain false) (Rows.velocityOfSpec.post enc prog Tryz.f6 false true false false):=by
 refine returnsInHanded_of_change_sized (C:=Tryz.checked) own started (by kernel_rfl) func6
  (ChangeSpec.witness6 (enc:=enc) (C:=Tryz.checked) false ⟨#[],#[.agg #[.string ⟨#[]⟩,.slice none 0 0,.slice none 0 0,.slice none 0 0],.slice none 0 0,.agg #[.slice none 0 0,.slice none 0 0,.slice none 0 0,.int .i64 0]],[]⟩ 8 (by kernel_rfl) (by kernel_rfl) (by kernel_rfl) (by kernel_rfl)) ?_
 intro W base args ds gs before hval0 hW hcnd hwt0 _;have hval:∀(j:Nat) t v,Tryz.f6.params[j]?=some t->args[j]?=some v->Value.okWide prog W .any base t v:=hval0;have hwt:(DataW.weightsEach prog (Tryz.f6.params.toList++Rows.velocityOfSpec.plain.varTypes prog) (ds++gs)).all (·<=reachBytes)=true:=hwt0;have hW':=hW;obtain⟨p,q,hA0,hV,rfl,hfz,hnd⟩:=hW;have hA:DataW.TrodAll enc prog W 0 (fun _=>true) true Tryz.f6.params.toList args.toList ds p:=hA0;rw[Tryz.params6]at hA hval hwt;obtain⟨v0,v1,v2,d0,d1,d2,p0,p1,p2,rfl,rfl,rfl,h0,h1,h2⟩:=trodAll_three hA;obtain⟨rfl,rfl⟩:=trodVars_none hV;clear hA0 hval0 hwt0;have hlt:∀x∈p0++p1++p2,x.block<W.heap.size:=fun x hx=>hW'.lt x (by simpa using hx)
 have hw0:∀n∈d0.weights prog 26,n<=reachBytes:=fun n hn=>by
  have:=afy.1 hwt n (DataW.weights_mem_each (j:=0) rfl rfl n hn);simpa using this
 have hw1:∀n∈d1.weights prog 38,n<=reachBytes:=fun n hn=>by
  have:=afy.1 hwt n (DataW.weights_mem_each (j:=1) rfl rfl n hn);simpa using this
 have hw2:∀n∈d2.weights prog 79,n<=reachBytes:=fun n hn=>by
  have:=afy.1 hwt n (DataW.weights_mem_each (j:=2) rfl rfl n hn);simpa using this
 obtain⟨x0,q0,r0⟩:=LE Tryz.underlying26 Ss (hval 0 26 v0 rfl rfl) h0 hw0;obtain⟨x1,q1,r1⟩:=NM aaz (fun _=>rfl) (Ry Tryz.underlying38 (hval 1 38 v1 rfl rfl)) h1 hw1;obtain⟨x2,q2,r2⟩:=LE Tryz.underlying79 VV (hval 2 79 v2 rfl rfl) h2 hw2
 have hc:=je.calls (W:=W) (vs:=#[v0,v1,v2]) (Tm x0 q0 x1 q1.1 q1.2 x2.1 q2 x2.2) rfl (fun j v x hv hx=>by
  match j,hv,hx with
  |0,hv,hx=>cases hv;cases hx;exact r0
  |1,hv,hx=>cases hv;cases hx;exact r1
  |2,hv,hx=>cases hv;cases hx;exact r2)
 refine hc.mono fun e W' ⟨he,hb⟩=>?_
 subst he;refine⟨_,rfl,Ti hW' rfl rfl (fun _ _ _=>trodAll_mk1 (shut_bool Tryz.underlying4 _)) (fun sp hsp=>?_) rfl hb (ok_one (by kernel_rfl) rfl (okWide_bool_mk Tryz.underlying4 _))⟩;rw[Tryz.params6];have hs:∀x∈p0++p1++p2,sp x.block=true:=fun x hx=>hsp x (by simpa using hx)
 have g0:=Dz (sp':=sp) (by kernel_rfl) (ag1 (by kernel_rfl)) h0 hb (fun x hx=>hlt x (by simp[hx])) (fun x hx=>hs x (by simp[hx]));have g1:=Dz (sp':=sp) (by kernel_rfl) (ag1 (by kernel_rfl)) h1 hb (fun x hx=>hlt x (by simp[hx])) (fun x hx=>hs x (by simp[hx]));have g2:=Dz (sp':=sp) (by kernel_rfl) (ag1 (by kernel_rfl)) h2 hb (fun x hx=>hlt x (by simp[hx])) (fun x hx=>hs x (by simp[hx]));have g:=trodAll_mk3 g0 g1 g2;rw[show p0++p1++p2++[]=p0++(p1++p2)from by simp];exact g
set_option maxRecDepth 100000 in
theorem R6:prog.closure 6=[6,34,53,141,271,371,142,140,267,365,423,366,268,269,367,424,428,426,385,425,369,270,368,427,370,110,219,69,63,113,222,75,168,294,389,390,440,169,178,307,300,304,396,393,397,442,443,411,444,445,441,446,447,302,228,227,308,299,303,170,295,296,391,173,298,395,171,344,417,455,463,457,466,467,465,418,456,464,459,458,419,223,345,84,179,151,162,65,116,174,175,301,392,394,115,172,297,226,316,347,348,64,152,277,278,154,153,90,138,263,193,317,335,415,337,362,414,334,251,79,195,318,401,196,320,412,319,402,408,454,403,449,404,450,451,405,452,453,462,406,407,409,410,128,192,279,314,400,330,448,361,421,315,197,203,191,139,264,256,265,333,210,413,331,209,336,250,205,266,204,374,201,329,102,207,332,211,93,383,350,257,99,208,97,100,375,280,92,198,202,376,430,460,431,95,377,199,321,342,322,87,200,324,206,323,326,325,328,327,432,433,434,461,435,436,437,381,438,439,378,384,281,96,190,379,282,103,212,98,104,101,380,382,155,283,37,24,85,181,182,309,310,399,183,180,185,186,311,312,313,338,184,188,189,187,29,89,105,194,86,91,114,224,346,225,343,230,349,231,229,117,118,232,233,235,234,119,236,111,220,221,33,109,217,107,215,339,177,305,306,398,285,216,340,416,156,284,341,218,364,158,286,386,260,157,261,288,55,66,54,50,136,35,11,57,19,71,164,291,290,292,72,165,73,166,167,293,160,74,59,146,273,147,274,372,275,373,429,276,62,150,36,112,143,56,38,120,81,121,32,108,237,247,255,360,254,359,124,60,17,238,351,253,358,130,252,357,149,245,246,67,161,159,287,387,68,39,122,239,352,240,353,354,355,356,420,123,242,241,243,244,135,259,363,422,40,41]:=by kernel_rfl
theorem WO:joinedFacts prog 6 Tryz.f6 Rows.velocityOfSpec Rows.velocityOfRow=true:=by
 unfold joinedFacts Program.recurses Program.inPlace Program.unfollowed Program.varsNamed;rw[R6,LK,Wa,SW,Z8,abe,Wm]
 kernel_rfl
theorem velocityOf_holds:Rows.VelocityOfSaid :=
 OpenClaim.holds_of_wide 6 Tryz.f6 rfl rfl rfl rfl rfl rfl rfl ⟨rfl,rfl,rfl,rfl,rfl⟩ rfl rfl rfl rfl rfl (by kernel_rfl) func6 WO
  (ag1 (by kernel_rfl)) (by unfold Func.isWrapper;first |(rw[agz (by decide +kernel)];kernel_rfl) |(rw[agy (by decide +kernel)];exact⟨rfl,rfl⟩))
  (fun os started H enc _=>Tt os started H enc)
end Go.Lw
namespace Go.Proofs.YtokaoegjfpjjnaaGreat
theorem velocityOf_proved:Rows.VelocityOfSaid:=Go.Lw.velocityOf_holds
end Go.Proofs.YtokaoegjfpjjnaaGreat
