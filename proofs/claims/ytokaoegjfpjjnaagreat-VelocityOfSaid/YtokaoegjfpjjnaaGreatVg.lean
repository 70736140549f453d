/- VelocityOf: for any linkage,any turns,any assembly and driver the law returns true and leaves its arguments as they were. No other condition. Part 7 of 8: what the later parts need -/
import Derived.Test.YtokaoegjfpjjnaaGreatVf
set_option linter.unusedVariables false
open List (nil_append map_map)
open List renaming mem_of_getElem? → afl, mem_append → aft, mem_cons → agd, length_cons → af9, length_append → agf, length_nil → agj, getD_eq_getElem?_getD → afn, getElem?_map → afu, map_append → agc, length_take → agu, take_length → af1, not_mem_nil → af8, length_map → afm, length_replicate → agl, map_replicate → agq, map_set → ags, length_set → agm, map_congr_left → ac3, mem_or_eq_of_mem_set → ac4, mem_range → ac5, mem_map → ac6, range_succ → ac7, eq_nil_of_length_eq_zero → ac9, getElem?_of_mem → ada, mem_singleton → adc, filter_cons → ade, mem_filter → adh, length_eq_one_iff → adi, filter_append → adj, length_eq_zero_iff → adp, getElem?_replicate → adq, append_nil → adt, getElem?_eq_some_iff → adw, mem_replicate → ad4, replicate → ad7
open Nat renaming eq_of_beq_eq_true → afo, le_refl → afq, lt_or_ge → afv, le_trans → af2, zero_le → afz, two_pow_pos → abw, beq → ab3, pow_succ → acq, pow_le_pow_right → acr
open Bool renaming and_eq_true → afp, true_and → aet, and_false → aeu, decide_or → aex, false_and → aey
open Int renaming toNat_natCast → ago
open Decidable renaming not_not → afk
open Go renaming Value → ag9, Program → ahb
open Go.Proofs.Tryz
namespace Go.Lw
open Go.Proofs
theorem aE.two{s:AS}{x:AV}{k k':Nat}{b c b' c':Blk}(h:lk s.hp k=some b)(h':lk s.hp k'=some c)(e:b=b')(e':c=c'):aE s x x [(k,some b'),(k',some c')]:=by
 subst e;subst e';exact aE.keep (f7 h h')
def v0{ts:LL}:Vt ts:=⟨0,0,0⟩
def cE{ts:LL}(V:List (Vt ts))(b:Int):Vt ts:=V.getD b.toNat v0
def ee(j:Jt)(b:Int):Int:=if j.a=b then j.b else j.a
def bm(l:Li)(a:Aq)(j:Jt):P2 a.ts:=bt l a.ts a.bs j.a j.point
def cI(l:Li)(a:Aq)(V:List (Vt a.ts))(j:Jt)(b:Int):P2 a.ts:=cR (cE V (ee j b)) (bm l a j)
def sf(l:Li)(a:Aq)(g:Gr):P2 a.ts:=ah (bm l a (an l g 2)) (bm l a (an l g 0))
def rN(l:Li)(a:Aq)(g:Gr):P2 a.ts:=ah (bm l a (an l g 2)) (bm l a (an l g 1))
def yX(l:Li)(a:Aq)(V:List (Vt a.ts))(g:Gr):P2 a.ts:=ah (cI l a V (an l g 1) (ba g 1)) (cI l a V (an l g 0) (ba g 0))
def ka(l:Li)(a:Aq)(g:Gr):Et a.ts:=a6 (sf l a g) (rN l a g)
def EH(l:Li)(a:Aq)(V:List (Vt a.ts))(g:Gr):Vt a.ts:=cW (aX (yX l a V g) (rN l a g)*iE (ka l a g)) (bm l a (an l g 0)) (cI l a V (an l g 0) (ba g 0))
def CG(l:Li)(a:Aq)(V:List (Vt a.ts))(g:Gr):Vt a.ts:=cW (aX (yX l a V g) (sf l a g)*iE (ka l a g)) (bm l a (an l g 1)) (cI l a V (an l g 1) (ba g 1))
def td(l:Li)(a:Aq)(V:List (Vt a.ts))(g:Gr):List (Vt a.ts):=(V.set (ba g 0).toNat (EH l a V g)).set (ba g 1).toNat (CG l a V g)
def fq(l:Li)(a:Aq)(g:Gr):P2 a.ts:=ah (bt l a.ts a.bs (an l g 1).b (an l g 1).to) (bt l a.ts a.bs (an l g 1).b (an l g 1).on)
def gK(l:Li)(a:Aq)(g:Gr):Et a.ts:=aX (fq l a g) (ah (bm l a (an l g 1)) (bm l a (an l g 0)))
def pK(l:Li)(a:Aq)(V:List (Vt a.ts))(g:Gr):Et a.ts :=
  if g.kind=2 then -(a6 (fq l a g) (ah (cI l a V (an l g 0) (ba g 0)) (cR (cE V (an l g 1).b) (bm l a (an l g 1))))*iE (gK l a g))
  else a6 (fq l a g) (ah (cR (cE V (an l g 1).a) (bm l a (an l g 1))) (cI l a V (an l g 0) (ba g 0)))*iE (gK l a g)
def wa(l:Li)(a:Aq)(V:List (Vt a.ts))(g:Gr):Vt a.ts:=cW (pK l a V g) (bm l a (an l g 0)) (cI l a V (an l g 0) (ba g 0))
def kL(l:Li)(a:Aq)(V:List (Vt a.ts))(g:Gr):List (Vt a.ts):=V.set (ba g 0).toNat (wa l a V g)
def vR(E K I R:Nat):Nat:=10*R+30*E+29*K+I+20112
section
variable{E K:Nat}{l:Li}{a:Aq}(A:AqV E K l a){V:List (Vt a.ts)}(hV:V.length=l.bo.length){R:Nat}(hR:∀v∈V,Bv R v)
include A hV hR
theorem ru{b:Int}(h:aT b l.bo.length=true):Bv R (cE V b):=by
 have _:=A;obtain⟨h1,h2⟩:=cV h;obtain⟨v,hv⟩:=ay (l:=V) (i:=b.toNat) oz;unfold cE;rw[ax hv];exact hR v (afl hv)
theorem eG{n:Nat}{j:Jt}(hj:l.jo[n]?=some j):Bp (3*E+2*K+2010) (bm l a j):=by
 have _:=hV;have _:=hR;obtain⟨i1,i2,i3,i4,_⟩:=bS A.li hj;exact A.pt i1 i3
theorem oS{n:Nat}{j:Jt}(hj:l.jo[n]?=some j)(b:Int):aT (ee j b) l.bo.length=true:=by
 have _:=hV;have _:=hR;obtain⟨i1,i2,i3,i4,_⟩:=bS A.li hj;unfold ee;split
 ·exact i2
 ·exact i1
theorem l9{n:Nat}{j:Jt}(hj:l.jo[n]?=some j)(b:Int):Bp (2*R+3*E+3*K+2011) (cI l a V j b):=by
 obtain⟨r,tw,hK⟩:=A.tw;have h:=(ru A hV hR (oS A hV hR hj b)).at tw hK (eG A hV hR hj);exact h.mono oz
theorem xw{b:Int}(hb:aT b l.bo.length=true){f:Nat}{p:P2 a.ts}(hp:Bp f p)(h:2*R+f+K+1<=200000000000) :
  Con prog 225 [.ptr 1000 0,i64 b,aw (sX p.1) (sX p.2)] (aU l a V) (aw (sX (cR (cE V b) p).1) (sX (cR (cE V b) p).2)) (aU l a V):=by
 obtain⟨r,tw,hK⟩:=A.tw;obtain⟨h1,h2⟩:=cV hb;have hlb:=A.hl.lb;obtain⟨n,rfl⟩:∃n:Nat,b=(n:Int):=⟨b.toNat,by omega⟩
 obtain⟨v,hv⟩:=ay (l:=V) (i:=n) oz;have e:cE V (n:Int)=v:=ax hv;rw[e];refine gF func225 (fun k z h=>fW oz h) ?_;refine gs (bi (n:=n) (.tmp rfl) (.tmp rfl) T81 rfl T90 rfl oz oz rfl) ?_;refine gs (cF (.tmp rfl) rfl (aq hv) T90 rfl rfl rfl) ?_;refine gt (bT (ND tw hK A.two (hR v (afl hv)) hp h) (aI rfl rfl rfl) rfl rfl rfl rfl rfl) ?_;refine gD ?_;refine gR ?_;exact aE.keep (f7 rfl rfl)
theorem Rx{n:Nat}{j:Jt}(hj:l.jo[n]?=some j)(h:2*R+8*E+8*K+8004<=200000000000) :
  Con prog 114 [.ptr 1000 0,i64 n,i64 j.a] (aU l a V) (.tup [aw (sX (bm l a j).1) (sX (bm l a j).2),aw (sX (cI l a V j j.a).1) (sX (cI l a V j j.a).2)]) (aU l a V):=by
 obtain⟨i1,i2,i3,i4,_⟩:=bS A.li hj;have hlj:=A.hl.lj;have e:ee j j.a=j.b:=agz rfl;have hp:=eG A hV hR hj;have hat:=xw A hV hR i2 hp oz;unfold cI;rw[e];refine gF func114 (fun k z h=>fW oz h) ?_;refine gi (aq hj) ?_;refine gt (bT (mQ A i1 i3 oz) (aI rfl rfl rfl) rfl rfl rfl rfl rfl) ?_;refine gC (fun y=>?_) (fun y=>?_) (st2:=(77777,0))
 ·refine gt (bT hat (aI rfl rfl rfl) rfl rfl rfl rfl rfl) ?_;refine gD ?_;refine gR ?_;exact aE.keep (f7 rfl rfl)
 exact ag5 rfl (cU y)
theorem Oz{n:Nat}{j:Jt}(hj:l.jo[n]?=some j){b:Int}(hb:j.a≠b)(h:2*R+8*E+8*K+8004<=200000000000) :
  Con prog 114 [.ptr 1000 0,i64 n,i64 b] (aU l a V) (.tup [aw (sX (bm l a j).1) (sX (bm l a j).2),aw (sX (cI l a V j b).1) (sX (cI l a V j b).2)]) (aU l a V):=by
 obtain⟨i1,i2,i3,i4,_⟩:=bS A.li hj;have hlj:=A.hl.lj;have e:ee j b=j.a:=agy hb;have hp:=eG A hV hR hj;have hat:=xw A hV hR i1 hp oz;unfold cI;rw[e];refine gF func114 (fun k z h=>fW oz h) ?_;refine gi (aq hj) ?_;refine gt (bT (mQ A i1 i3 oz) (aI rfl rfl rfl) rfl rfl rfl rfl rfl) ?_;refine gC (fun y=>?_) (fun y=>?_) (st1:=(5,0));exact ag5 (cB y) hb;refine gt (bT hat (aI rfl rfl rfl) rfl rfl rfl rfl rfl) ?_;refine gD ?_;refine gR ?_;exact aE.keep (f7 rfl rfl)
theorem tJ{z b:Int}(h0:0<=z){j:Jt}(hj:l.jo[z.toNat]?=some j)(h:2*R+8*E+8*K+8004<=200000000000) :
  Con prog 114 [.ptr 1000 0,i64 z,i64 b] (aU l a V) (.tup [aw (sX (bm l a j).1) (sX (bm l a j).2),aw (sX (cI l a V j b).1) (sX (cI l a V j b).2)]) (aU l a V):=by
 obtain⟨n,rfl⟩:∃n:Nat,z=(n:Int):=⟨z.toNat,by omega⟩
 rw[ago]at hj
 by_cases hb:j.a=b
 ·subst hb;exact Rx A hV hR hj h
 ·exact Oz A hV hR hj hb h
abbrev eP{ts:LL}(p:P2 ts):AV:=aw (sX p.1) (sX p.2)
theorem Qi{P Q C u v:P2 a.ts}(bP:Bp (3*E+2*K+2010) P)(bQ:Bp (3*E+2*K+2010) Q)(bC:Bp (3*E+2*K+2010) C)(bu:Bp (2*R+3*E+3*K+2011) u)(bv:Bp (2*R+3*E+3*K+2011) v){I:Nat}(hI:∀r,eB r a.ts.length<=K->iB r a.ts.length (24*E+18*K+16085)<=I)(h0:aC (a6 (ah C P) (ah C Q))≠0)(h:30*R+30*E+30*K+I<=199999970000)(V V':List (Vt a.ts)) :
  (Con prog 232 [.ptr 1000 0,eP C,eP P] (aU l a V) (eP (ah C P)) (aU l a V)) /\
  (Con prog 232 [.ptr 1000 0,eP C,eP Q] (aU l a V) (eP (ah C Q)) (aU l a V)) /\
  (Con prog 232 [.ptr 1000 0,eP v,eP u] (aU l a V) (eP (ah v u)) (aU l a V)) /\
  (Con prog 233 [.ptr 1000 0,eP (ah C P),eP (ah C Q)] (aU l a V) (nA (sX (a6 (ah C P) (ah C Q)))) (aU l a V)) /\
  (Con prog 235 [.ptr 1000 0,eP (ah v u),eP (ah C Q)] (aU l a V) (nA (sX (aX (ah v u) (ah C Q)))) (aU l a V)) /\
  (Con prog 234 [.ptr 1000 0,nA (sX (aX (ah v u) (ah C Q))),nA (sX (a6 (ah C P) (ah C Q)))] (aU l a V) (nA (sX (aX (ah v u) (ah C Q)*iE (a6 (ah C P) (ah C Q))))) (aU l a V)) /\
  (Con prog 117 [.ptr 1000 0,nA (sX (aX (ah v u) (ah C Q)*iE (a6 (ah C P) (ah C Q)))),eP P,eP u] (aU l a V) ((cW (aX (ah v u) (ah C Q)*iE (a6 (ah C P) (ah C Q))) P u).av) (aU l a V)) /\
  (Con prog 235 [.ptr 1000 0,eP (ah v u),eP (ah C P)] (aU l a V') (nA (sX (aX (ah v u) (ah C P)))) (aU l a V')) /\
  (Con prog 234 [.ptr 1000 0,nA (sX (aX (ah v u) (ah C P))),nA (sX (a6 (ah C P) (ah C Q)))] (aU l a V') (nA (sX (aX (ah v u) (ah C P)*iE (a6 (ah C P) (ah C Q))))) (aU l a V')) /\
  (Con prog 117 [.ptr 1000 0,nA (sX (aX (ah v u) (ah C P)*iE (a6 (ah C P) (ah C Q)))),eP Q,eP v] (aU l a V') ((cW (aX (ah v u) (ah C P)*iE (a6 (ah C P) (ah C Q))) Q v).av) (aU l a V')):=by
 have _:=hV;have _:=hR;obtain⟨r,tw,hK⟩:=A.tw;have dA:=(bC.sb bP).mono (show 3*E+2*K+2010+(3*E+2*K+2010)+1<=6*E+4*K+4021 by omega);have dB:=(bC.sb bQ).mono (show 3*E+2*K+2010+(3*E+2*K+2010)+1<=6*E+4*K+4021 by omega);have dE:=(bv.sb bu).mono (show 2*R+3*E+3*K+2011+(2*R+3*E+3*K+2011)+1<=4*R+6*E+6*K+4023 by omega);have dD:=Bz.mono (f:=24*E+18*K+16085) (dA.crs tw hK A.two dB) oz;have mA:=dA.mono (show 6*E+4*K+4021<=4*R+6*E+6*K+4023 by omega);have mB:=dB.mono (show 6*E+4*K+4021<=4*R+6*E+6*K+4023 by omega);have f0:=pL (x:=aX (ah v u) (ah C Q)) tw hK A.two (dE.dot tw hK A.two dB) dD h0 (hI r hK) oz;have f1:=pL (x:=aX (ah v u) (ah C P)) tw hK A.two (dE.dot tw hK A.two dA) dD h0 (hI r hK) oz
 exact⟨pI l a V (pO tw hK A.two bC bP oz),pI l a V (pO tw hK A.two bC bQ oz),pI l a V (pO tw hK A.two bv bu oz),He l a V (FK tw hK A.two dA dB oz),
  AA l a V (BT tw hK A.two dE mB oz),CO l a V f0.1,uv tw hK A.two f0.2 bP bu oz,AA l a V' (BT tw hK A.two dE mA oz),CO l a V' f1.1,uv tw hK A.two f1.2 bQ bv oz⟩
theorem Sy{b0 b1 z0 z1 z2 d:Int}{j0 j1 j2:Jt}(p0:0<=z0)(h0:l.jo[z0.toNat]?=some j0)(p1:0<=z1)(h1:l.jo[z1.toNat]?=some j1)(p2:0<=z2)(h2:l.jo[z2.toNat]?=some j2)
  (q0:0<=b0/\b0<l.bo.length) (q1:0<=b1/\b1<l.bo.length) {I:Nat} (hI:∀r,eB r a.ts.length<=K->iB r a.ts.length (24*E+18*K+16085)<=I) (hD:aC (ka l a ⟨1,[b0,b1],[z0,z1,z2],d⟩)≠0)
  (h:30*R+30*E+30*K+I<=199999970000) :
  Con prog 118 [.ptr 1000 0,(⟨1,[b0,b1],[z0,z1,z2],d⟩:Gr).av] (aU l a V) (.tup []) (aU l a (td l a V ⟨1,[b0,b1],[z0,z1,z2],d⟩)):=by
 have hlj:=A.hl.lj;have hlb:=A.hl.lb;obtain⟨n0,rfl⟩:∃n:Nat,b0=(n:Int):=⟨b0.toNat,by omega⟩
 obtain⟨n1,rfl⟩:∃n:Nat,b1=(n:Int):=⟨b1.toNat,by omega⟩
 have e0:an l ⟨1,[(n0:Int),(n1:Int)],[z0,z1,z2],d⟩ 0=j0:=ax h0;have e1:an l ⟨1,[(n0:Int),(n1:Int)],[z0,z1,z2],d⟩ 1=j1:=ax h1;have e2:an l ⟨1,[(n0:Int),(n1:Int)],[z0,z1,z2],d⟩ 2=j2:=ax h2;obtain⟨i1,i2,i3,i4,_⟩:=bS A.li h2
 have hpr:∃t0 t1,td l a V ⟨1,[(n0:Int),(n1:Int)],[z0,z1,z2],d⟩=(V.set n0 t0).set n1 t1/\t0=cW (aX (ah (cI l a V j1 (n1:Int)) (cI l a V j0 (n0:Int))) (ah (bm l a j2) (bm l a j1))*iE (a6 (ah (bm l a j2) (bm l a j0)) (ah (bm l a j2) (bm l a j1)))) (bm l a j0) (cI l a V j0 (n0:Int)) /\
   t1=cW (aX (ah (cI l a V j1 (n1:Int)) (cI l a V j0 (n0:Int))) (ah (bm l a j2) (bm l a j0))*iE (a6 (ah (bm l a j2) (bm l a j0)) (ah (bm l a j2) (bm l a j1)))) (bm l a j1) (cI l a V j1 (n1:Int)):=by
  refine⟨_,_,?_,rfl,rfl⟩;unfold td EH CG yX ka sf rN;rw[e0,e1,e2];rfl
 obtain⟨t0,t1,hpr,ht0,ht1⟩:=hpr;unfold ka sf rN at hD;rw[e0,e1,e2]at hD;obtain⟨s0,s1,s2,s3,s4,s5,s6,s7,s8,s9⟩:=Qi A hV hR (eG A hV hR h0) (eG A hV hR h1) (eG A hV hR h2) (l9 A hV hR h0 (n0:Int)) (l9 A hV hR h1 (n1:Int)) hI hD h V (V.set n0 t0);rw[<- ht0]at s6;rw[<- ht1]at s9;have k0:=tJ A hV hR (b:=(n0:Int)) p0 h0 oz;have k1:=tJ A hV hR (b:=(n1:Int)) p1 h1 oz;have k2:=mQ A (V:=V) i1 i3 oz;obtain⟨w0,hw0⟩:=ay (l:=V) (i:=n0) oz;obtain⟨w1,hw1⟩:=ay (l:=V.set n0 t0) (i:=n1) (by rw[agm];omega);rw[hpr];clear hD ht0 ht1 hpr;refine gF func118 (fun k z h=>fW oz h) ?_;refine gi (rfl) ?_;refine gi (rfl) ?_;refine gD ?_;refine gi (rfl) ?_;refine gt (bT k0 (aI rfl rfl rfl) rfl rfl rfl rfl rfl) ?_;refine gi (rfl) ?_;refine gt (bT k1 (aI rfl rfl rfl) rfl rfl rfl rfl rfl) ?_;refine gi (rfl) ?_;refine gi (bY (n:=z2.toNat) oz h2) ?_;refine gD ?_;refine gt (bT k2 (aI rfl rfl rfl) rfl rfl rfl rfl rfl) ?_;refine gt (bT s0 (aI rfl rfl rfl) rfl rfl rfl rfl rfl) ?_;refine gt (bT s1 (aI rfl rfl rfl) rfl rfl rfl rfl rfl) ?_;refine gt (bT s2 (aI rfl rfl rfl) rfl rfl rfl rfl rfl) ?_;refine gD ?_;refine gt (bT s3 (aI rfl rfl rfl) rfl rfl rfl rfl rfl) ?_;refine gD ?_;refine gt (bT s4 (aI rfl rfl rfl) rfl rfl rfl rfl rfl) ?_;refine gt (bT s5 (aI rfl rfl rfl) rfl rfl rfl rfl rfl) ?_;refine gt (bT s6 (.cons (.tmp rfl) (.cons (.tmp rfl) (.cons (.tmp rfl) (.cons (.tmp rfl) .nil)))) rfl rfl rfl rfl rfl) ?_;refine gs (bi (n:=n0) (.tmp rfl) (.tmp rfl) T81 rfl T90 rfl oz oz rfl) ?_;refine gs (cw (.tmp rfl) rfl (aq hw0) rfl (.tmp rfl) rfl rfl T90 rfl rfl) ?_;refine gD ?_ (9,0);refine gW (Wk.of (sl:=[pP 0 (.ptr 1000 0),pP 4 (i64 n0),pP 5 (i64 n1),pP 6 (.ptr 6 0),pP 7 (.ptr 7 0),pP 8 (.ptr 8 0),pP 9 (.ptr 9 0),pP 12 (.ptr 12 0),pP 14 (.ptr 14 0),pP 15 (nA (sX (a6 (ah (bm l a j2) (bm l a j0)) (ah (bm l a j2) (bm l a j1)))))]) (hp:=[pP 8 (.box [nA (sX (bm l a j1).1),nA (sX (bm l a j1).2)]),pP 9 (.box [nA (sX (cI l a V j1 (n1:Int)).1),nA (sX (cI l a V j1 (n1:Int)).2)]),pP 12 (.box [nA (sX (ah (bm l a j2) (bm l a j0)).1),nA (sX (ah (bm l a j2) (bm l a j0)).2)]),pP 14 (.box [nA (sX (ah (cI l a V j1 (n1:Int)) (cI l a V j0 (n0:Int))).1),nA (sX (ah (cI l a V j1 (n1:Int)) (cI l a V j0 (n0:Int))).2)]),pP 1000 (.box (Jl l a)),pP 1001 (.row 3 ((V.set n0 t0).map Vt.av))]) bj (.k (.k (.k (.k (.k (.cons rfl (BlkSub.of (by rw[ags])) .nil))))))) ?_
 refine gt (bT s7 (aI rfl rfl rfl) rfl rfl rfl rfl rfl) ?_;refine gt (bT s8 (aI rfl rfl rfl) rfl rfl rfl rfl rfl) ?_;refine gt (bT s9 (.cons (.tmp rfl) (.cons (.tmp rfl) (.cons (.tmp rfl) (.cons (.tmp rfl) .nil)))) rfl rfl rfl rfl rfl) ?_;refine gs (bi (n:=n1) (.tmp rfl) (.tmp rfl) T81 rfl T90 rfl oz oz rfl) ?_;refine gs (cw (.tmp rfl) rfl (aq hw1) rfl (.tmp rfl) rfl rfl T90 rfl rfl) ?_;refine gD ?_;refine gR ?_;exact aE.two rfl rfl rfl (by rw[ags (l:=V.set _ _)])
theorem IX{P C v f u:P2 a.ts}(bv:Bp (6*E+4*K+4021) v)(bP:Bp (3*E+2*K+2010) P)(bC:Bp (3*E+2*K+2010) C)(bf:Bp (2*R+3*E+3*K+2011) f)(bu:Bp (2*R+3*E+3*K+2011) u){I:Nat}(hI:∀r,eB r a.ts.length<=K->iB r a.ts.length (24*E+18*K+16085)<=I)(h0:aC (aX v (ah C P))≠0)(h:30*R+30*E+30*K+I<=199999970000)(V:List (Vt a.ts)) :
  (Con prog 232 [.ptr 1000 0,eP C,eP P] (aU l a V) (eP (ah C P)) (aU l a V)) /\
  (Con prog 235 [.ptr 1000 0,eP v,eP (ah C P)] (aU l a V) (nA (sX (aX v (ah C P)))) (aU l a V)) /\
  (Con prog 232 [.ptr 1000 0,eP f,eP u] (aU l a V) (eP (ah f u)) (aU l a V)) /\
  (Con prog 233 [.ptr 1000 0,eP v,eP (ah f u)] (aU l a V) (nA (sX (a6 v (ah f u)))) (aU l a V)) /\
  (Con prog 234 [.ptr 1000 0,nA (sX (a6 v (ah f u))),nA (sX (aX v (ah C P)))] (aU l a V) (nA (sX (a6 v (ah f u)*iE (aX v (ah C P))))) (aU l a V)) /\
  (Con prog 236 [.ptr 1000 0,nA (sX (a6 v (ah f u)*iE (aX v (ah C P))))] (aU l a V) (nA (sX (-(a6 v (ah f u)*iE (aX v (ah C P)))))) (aU l a V)) /\
  Bz (8*R+24*E+23*K+16089+I) (a6 v (ah f u)*iE (aX v (ah C P))):=by
 have _:=hV;have _:=hR;obtain⟨r,tw,hK⟩:=A.tw;have dC:=(bC.sb bP).mono (show 3*E+2*K+2010+(3*E+2*K+2010)+1<=6*E+4*K+4021 by omega);have dU:=(bf.sb bu).mono (show 2*R+3*E+3*K+2011+(2*R+3*E+3*K+2011)+1<=4*R+6*E+6*K+4023 by omega);have dD:=Bz.mono (f:=24*E+18*K+16085) (bv.dot tw hK A.two dC) oz;have mV:=bv.mono (show 6*E+4*K+4021<=4*R+6*E+6*K+4023 by omega);have f0:=pL (x:=a6 v (ah f u)) tw hK A.two (bv.crs tw hK A.two dU) dD h0 (hI r hK) oz;exact⟨pI l a V (pO tw hK A.two bC bP oz),AA l a V (BT tw hK A.two bv dC oz),pI l a V (pO tw hK A.two bf bu oz),He l a V (FK tw hK A.two mV dU oz),CO l a V f0.1,WC l a V (Sh tw A.two f0.2 oz),f0.2.mono oz⟩
theorem OH{b0 z0 z1 d:Int}{j0 j1:Jt}(p0:0<=z0)(h0:l.jo[z0.toNat]?=some j0)(p1:0<=z1)(h1:l.jo[z1.toNat]?=some j1)(hk:j1.kind≠0)
  (q0:0<=b0/\b0<l.bo.length) {I:Nat} (hI:∀r,eB r a.ts.length<=K->iB r a.ts.length (24*E+18*K+16085)<=I) (hD:aC (gK l a ⟨2,[b0],[z0,z1],d⟩)≠0)
  (h:30*R+30*E+30*K+I<=199999970000) :
  Con prog 119 [.ptr 1000 0,(⟨2,[b0],[z0,z1],d⟩:Gr).av] (aU l a V) (.tup []) (aU l a (kL l a V ⟨2,[b0],[z0,z1],d⟩)):=by
 obtain⟨r,tw,hK⟩:=A.tw;have hlj:=A.hl.lj;have hlb:=A.hl.lb;obtain⟨n0,rfl⟩:∃n:Nat,b0=(n:Int):=⟨b0.toNat,by omega⟩
 have e0:an l ⟨2,[(n0:Int)],[z0,z1],d⟩ 0=j0:=ax h0;have e1:an l ⟨2,[(n0:Int)],[z0,z1],d⟩ 1=j1:=ax h1;obtain⟨i1,i2,i3,i4,i5⟩:=bS A.li h1;have i5:=i5 hk
 have hpr:∃t0 w0,kL l a V ⟨2,[(n0:Int)],[z0,z1],d⟩=V.set n0 t0/\t0=cW w0 (bm l a j0) (cI l a V j0 (n0:Int))/\w0=-(a6 (ah (bt l a.ts a.bs j1.b j1.to) (bt l a.ts a.bs j1.b j1.on)) (ah (cI l a V j0 (n0:Int)) (cR (cE V j1.b) (bm l a j1)))*iE (aX (ah (bt l a.ts a.bs j1.b j1.to) (bt l a.ts a.bs j1.b j1.on)) (ah (bm l a j1) (bm l a j0)))):=by
  refine⟨_,_,?_,rfl,rfl⟩;unfold kL wa pK gK fq;rw[agz rfl,e0,e1];rfl
 obtain⟨t0,w0,hpr,ht0,hw0⟩:=hpr;unfold gK fq at hD;rw[e0,e1]at hD;have bf:=((ru A hV hR i2).at tw hK (eG A hV hR h1)).mono (show 2*R+(3*E+2*K+2010)+K+1<=2*R+3*E+3*K+2011 by omega);have bv:=((A.pt i2 i5).sb (A.pt i2 i4)).mono (show 3*E+2*K+2010+(3*E+2*K+2010)+1<=6*E+4*K+4021 by omega);have bu:=l9 A hV hR h0 (n0:Int);have bP:=eG A hV hR h0;obtain⟨s1,s2,s3,s4,s5,s6,s7⟩:=IX A hV hR bv bP (eG A hV hR h1) bu bf hI hD h V;have sv:=pI l a V (pO tw hK A.two (A.pt i2 i5) (A.pt i2 i4) oz);have bw:Bz (8*R+24*E+23*K+16089+I) w0:=by rw[hw0];exact s7.neg
 have sr:=uv tw hK A.two (l:=l) (V:=V) bw bP bu oz;rw[<- ht0]at sr;rw[<- hw0]at s6;have k0:=tJ A hV hR (b:=(n0:Int)) p0 h0 oz;have k1:=mQ A (V:=V) i1 i3 oz;have k2:=mQ A (V:=V) i2 i5 oz;have k3:=mQ A (V:=V) i2 i4 oz;have k4:=xw A hV hR i2 (eG A hV hR h1) oz;obtain⟨x0,hx0⟩:=ay (l:=V) (i:=n0) oz;rw[hpr];clear hD ht0 hw0 hpr;refine gF func119 (fun k z h=>fW oz h) ?_;refine gi (rfl) ?_;refine gi (rfl) ?_;refine gt (bT k0 (aI rfl rfl rfl) rfl rfl rfl rfl rfl) ?_;refine gi (rfl) ?_;refine gi (bY (n:=z1.toNat) oz h1) ?_;refine gD ?_;refine gt (bT k1 (aI rfl rfl rfl) rfl rfl rfl rfl rfl) ?_;refine gt (bT k2 (aI rfl rfl rfl) rfl rfl rfl rfl rfl) ?_;refine gt (bT k3 (aI rfl rfl rfl) rfl rfl rfl rfl rfl) ?_;refine gt (bT sv (aI rfl rfl rfl) rfl rfl rfl rfl rfl) ?_;refine gD ?_;refine gt (bT s1 (aI rfl rfl rfl) rfl rfl rfl rfl rfl) ?_;refine gt (bT s2 (aI rfl rfl rfl) rfl rfl rfl rfl rfl) ?_;refine gD ?_;refine gC (fun y=>?_) (fun y=>?_) (st2:=(10,0))
 ·refine gt (bT k4 (aI rfl rfl rfl) rfl rfl rfl rfl rfl) ?_;refine gt (bT s3 (aI rfl rfl rfl) rfl rfl rfl rfl rfl) ?_;refine gt (bT s4 (aI rfl rfl rfl) rfl rfl rfl rfl rfl) ?_;refine gt (bT s5 (aI rfl rfl rfl) rfl rfl rfl rfl rfl) ?_;refine gt (bT s6 (ce rfl rfl) rfl rfl rfl rfl rfl) ?_;refine gD ?_;refine gt (bT sr (.cons (.tmp rfl) (.cons (.tmp rfl) (.cons (.tmp rfl) (.cons (.tmp rfl) .nil)))) rfl rfl rfl rfl rfl) ?_;refine gs (bi (n:=n0) (.tmp rfl) (.tmp rfl) T81 rfl T90 rfl oz oz rfl) ?_;refine gs (cw (.tmp rfl) rfl (aq hx0) rfl (.tmp rfl) rfl rfl T90 rfl rfl) ?_;refine gD ?_;refine gR ?_;exact aE.two rfl rfl rfl (by rw[ags])
 cases y
theorem SS{b0 z0 z1 d:Int}{j0 j1:Jt}(p0:0<=z0)(h0:l.jo[z0.toNat]?=some j0)(p1:0<=z1)(h1:l.jo[z1.toNat]?=some j1)(hk:j1.kind≠0)
  (q0:0<=b0/\b0<l.bo.length) {I:Nat} (hI:∀r,eB r a.ts.length<=K->iB r a.ts.length (24*E+18*K+16085)<=I) (hD:aC (gK l a ⟨3,[b0],[z0,z1],d⟩)≠0)
  (h:30*R+30*E+30*K+I<=199999970000) :
  Con prog 119 [.ptr 1000 0,(⟨3,[b0],[z0,z1],d⟩:Gr).av] (aU l a V) (.tup []) (aU l a (kL l a V ⟨3,[b0],[z0,z1],d⟩)):=by
 obtain⟨r,tw,hK⟩:=A.tw;have hlj:=A.hl.lj;have hlb:=A.hl.lb;obtain⟨n0,rfl⟩:∃n:Nat,b0=(n:Int):=⟨b0.toNat,by omega⟩
 have e0:an l ⟨3,[(n0:Int)],[z0,z1],d⟩ 0=j0:=ax h0;have e1:an l ⟨3,[(n0:Int)],[z0,z1],d⟩ 1=j1:=ax h1;obtain⟨i1,i2,i3,i4,i5⟩:=bS A.li h1;have i5:=i5 hk
 have hpr:∃t0 w0,kL l a V ⟨3,[(n0:Int)],[z0,z1],d⟩=V.set n0 t0/\t0=cW w0 (bm l a j0) (cI l a V j0 (n0:Int))/\w0=a6 (ah (bt l a.ts a.bs j1.b j1.to) (bt l a.ts a.bs j1.b j1.on)) (ah (cR (cE V j1.a) (bm l a j1)) (cI l a V j0 (n0:Int)))*iE (aX (ah (bt l a.ts a.bs j1.b j1.to) (bt l a.ts a.bs j1.b j1.on)) (ah (bm l a j1) (bm l a j0))):=by
  refine⟨_,_,?_,rfl,rfl⟩;unfold kL wa pK gK fq;rw[agy (show ¬(3:Int)=2 by decide),e0,e1];rfl
 obtain⟨t0,w0,hpr,ht0,hw0⟩:=hpr;unfold gK fq at hD;rw[e0,e1]at hD;have bf:=((ru A hV hR i1).at tw hK (eG A hV hR h1)).mono (show 2*R+(3*E+2*K+2010)+K+1<=2*R+3*E+3*K+2011 by omega);have bv:=((A.pt i2 i5).sb (A.pt i2 i4)).mono (show 3*E+2*K+2010+(3*E+2*K+2010)+1<=6*E+4*K+4021 by omega);have bu:=l9 A hV hR h0 (n0:Int);have bP:=eG A hV hR h0;obtain⟨s1,s2,s3,s4,s5,s6,s7⟩:=IX A hV hR bv bP (eG A hV hR h1) bf bu hI hD h V;have sv:=pI l a V (pO tw hK A.two (A.pt i2 i5) (A.pt i2 i4) oz);have bw:Bz (8*R+24*E+23*K+16089+I) w0:=by rw[hw0];exact s7
 have sr:=uv tw hK A.two (l:=l) (V:=V) bw bP bu oz;rw[<- ht0]at sr;rw[<- hw0]at s5;have k0:=tJ A hV hR (b:=(n0:Int)) p0 h0 oz;have k1:=mQ A (V:=V) i1 i3 oz;have k2:=mQ A (V:=V) i2 i5 oz;have k3:=mQ A (V:=V) i2 i4 oz;have k4:=xw A hV hR i1 (eG A hV hR h1) oz;obtain⟨x0,hx0⟩:=ay (l:=V) (i:=n0) oz;rw[hpr];clear hD ht0 hw0 hpr;refine gF func119 (fun k z h=>fW oz h) ?_;refine gi (rfl) ?_;refine gi (rfl) ?_;refine gt (bT k0 (aI rfl rfl rfl) rfl rfl rfl rfl rfl) ?_;refine gi (rfl) ?_;refine gi (bY (n:=z1.toNat) oz h1) ?_;refine gD ?_;refine gt (bT k1 (aI rfl rfl rfl) rfl rfl rfl rfl rfl) ?_;refine gt (bT k2 (aI rfl rfl rfl) rfl rfl rfl rfl rfl) ?_;refine gt (bT k3 (aI rfl rfl rfl) rfl rfl rfl rfl rfl) ?_;refine gt (bT sv (aI rfl rfl rfl) rfl rfl rfl rfl rfl) ?_;refine gD ?_;refine gt (bT s1 (aI rfl rfl rfl) rfl rfl rfl rfl rfl) ?_;refine gt (bT s2 (aI rfl rfl rfl) rfl rfl rfl rfl rfl) ?_;refine gD ?_;refine gf ?_;refine gt (bT k4 (aI rfl rfl rfl) rfl rfl rfl rfl rfl) ?_;refine gt (bT s3 (aI rfl rfl rfl) rfl rfl rfl rfl rfl) ?_;refine gt (bT s4 (aI rfl rfl rfl) rfl rfl rfl rfl rfl) ?_;refine gt (bT s5 (aI rfl rfl rfl) rfl rfl rfl rfl rfl) ?_;refine gD ?_;refine gt (bT sr (.cons (.tmp rfl) (.cons (.tmp rfl) (.cons (.tmp rfl) (.cons (.tmp rfl) .nil)))) rfl rfl rfl rfl rfl) ?_;refine gs (bi (n:=n0) (.tmp rfl) (.tmp rfl) T81 rfl T90 rfl oz oz rfl) ?_;refine gs (cw (.tmp rfl) rfl (aq hx0) rfl (.tmp rfl) rfl rfl T90 rfl rfl) ?_;refine gD ?_;refine gR ?_;exact aE.two rfl rfl rfl (by rw[ags])
end
open Lean.Grind (CommRing)
section
variable{R:Type}[CommRing R]
end
section
variable{T:LL}(hp:fC T){p:Pq}
include hp
end
section
variable{l:Li}{T:LL}{bs:List Pq}{g:Gr}
end
section
variable{l:Li}{T:LL}(hp:fC T){bs:List Pq}
include hp
end
variable{P:ahb}{N:Nat}{R:Array Oper}{s:AS}{pos:String}{after:Array Edge}
end Go.Lw
namespace Go.Lw
open Go.Proofs
theorem sW(i:Int)(n:Nat):FP 166 [i64 i,i64 n] (bl (aT i n)):=by
 refine ai func166 ?_;refine af ?_;exact ag6 bl (FJ i n)
theorem Sp(p q:Mk)(hp:p.ok)(hq:q.ok):FP 167 [p.av,q.av] (bl (decide (p.x.q=q.x.q/\p.y.q=q.y.q))):=by
 refine ai func167 ?_;refine gc (Ja p.x q.x hp.x hq.x ((hp.qx.sub hq.qx).qs oz)) ?_;refine bn (fun _=>(Ja p.y q.y hp.y hq.y ((hp.qy.sub hq.qy).qs oz))) ?_;refine af ?_;exact ag6 bl P3
theorem Ox(b:Bd)(hbo:b.ok):FP 165 [b.av] (i64 (if 8<b.pts.length then 4 else fp b.pts.length (ep b.pts):Nat)):=by
 have hll:=hbo.ll;refine ai func165 ?_;refine gl ?_;refine gC (fun z=>?_) (fun z=>?_)
 ·have h0:8<b.pts.length:=ja z;refine af ?_;rw[agz h0];rfl
 have h0:b.pts.length<=8:=iP z;have e0:(if 8<b.pts.length then 4 else fp b.pts.length (ep b.pts):Nat)=fp b.pts.length (ep b.pts):=agy oz;refine aL [1] [1] (fun(p:Nat)=>[pP 3 (i64 p)]) (fun _=>[]) (fun p=>p<=b.pts.length/\∀j,j<p->ep b.pts j=0) (fun p=>b.pts.length-p) 0 ⟨afz _,fun j h=>by omega⟩ ?_;rintro p ⟨hp,hpj⟩ K1 J1;refine gl ?_;refine gC (fun z=>?_) (fun z=>?_)
 ·have hpn:=aY z;obtain⟨m,hm⟩:=ay hpn;have hmd:b.pts.getD p default=m:=ax hm;have hmm:=afl hm;have hmdup:=n5 Mk.name hm;have hmo:=hbo.pts m hmm;refine gi (aq hm) ?_;refine gc (vS m.name (hbo.names m hmm)) ?_;refine gC (fun z=>?_) (fun z=>?_)
  ·have h4:=cm z;have e2:ep b.pts p=5:=by unfold ep; rw[hmd,agz h4]
   refine af ?_;rw[e0,et hpn hpj (by rw[e2];decide),e2];rfl
  have h4:=ci z;refine aL [1,3,4] [1,4] (fun(q:Nat)=>[pP 5 (i64 q)]) (fun _=>[]) (fun q=>q<=p/\(b.pts.take q).any (fun y=>d7 y.name m.name)=false) (fun q=>p-q) 0 ⟨afz _,rfl⟩ ?_;rintro q ⟨hq,hqd⟩ K2 J2;refine gC (fun z=>?_) (fun z=>?_)
  ·have hqn:=aY z;obtain⟨y,hy⟩:∃y,b.pts[q]?=some y:=ay oz;refine gi (aq hy) ?_;refine gD ?_;refine gC (fun z=>?_) (fun z=>?_)
   ·have h5:d7 y.name m.name=true:=z;have e2:ep b.pts p=6:=by unfold ep; rw[hmd,agy (by rw[h4]; decide),agz (by rw[hmdup]; exact lA hy hqn h5)]
    refine af ?_;rw[e0,et hpn hpj (by rw[e2];decide),e2];rfl
   have h5:d7 y.name m.name=false:=z;refine ga aK ?_;exact aH J2 (q+1) ⟨hqn,kO hy hqd h5⟩
  have hqn:=a7 hq z;subst hqn;have hmnd:¬gH (b.pts.map Mk.name) q=true:=by rw[hmdup,hqd];decide
  refine gc (uw m.x hmo.x) ?_;refine bn (fun _=>(uw m.y hmo.y)) ?_;refine gC (fun z=>?_) (fun z=>?_)
  ·have h6:=nk z;have e2:ep b.pts q=3:=by unfold ep; rw[hmd,agy (by rw[h4]; decide),agy hmnd,agy (by rintro ⟨g1,g2⟩; rcases h6 with g | g; (rw[g1] at g; cases g); (rw[g2] at g; cases g))]
   refine af ?_;rw[e0,et hpn hpj (by rw[e2];decide),e2];rfl
  have h6:=nQ z;have e2:ep b.pts q=0:=by unfold ep;rw[hmd,agy (by rw[h4];decide),agy hmnd,agz h6]
  refine ga aK ?_;exact aH J1 (q+1) ⟨hpn,fun j h9=>by rcases afv j q with g |g;exact hpj j g;(have:j=q:=by omega);subst this;exact e2⟩
 have hpn:=a7 hp z;subst hpn;refine af ?_;rw[e0,oN hpj];rfl
theorem RC(l:Li)(hl:l.ok):FP 72 [l.av] (i64 (iQ l)):=by
 have hlb:=hl.lb;have e0:iQ l=fp l.bo.length (eK l.bo):=rfl;refine ai func72 ?_;refine aL [1] [1] (fun(i:Nat)=>[pP 3 (i64 i)]) (fun _=>[]) (fun i=>i<=l.bo.length/\∀j,j<i->eK l.bo j=0) (fun i=>l.bo.length-i) 0 ⟨afz _,fun j h=>by omega⟩ ?_;rintro i ⟨hi,hj⟩ K1 J1;refine gl ?_;refine gC (fun z=>?_) (fun z=>?_)
 ·have hin:=aY z;obtain⟨b,hb⟩:=ay hin;have hbd:l.bo.getD i default=b:=ax hb;have hbo:=hl.bo b (afl hb);have hbdup:=n5 Bd.name hb;refine gi (aq hb) ?_;refine gc (vS b.name hbo.name) ?_;refine gC (fun z=>?_) (fun z=>?_)
  ·have h1:=cm z;have e1:eK l.bo i=5:=by unfold eK; rw[hbd,agz h1]
   refine af ?_;rw[e0,et hin hj (by rw[e1];decide),e1];rfl
  have h1:=ci z;refine aL [1,3] [1] (fun(k:Nat)=>[pP 4 (i64 k)]) (fun _=>[]) (fun k=>k<=i/\(l.bo.take k).any (fun y=>d7 y.name b.name)=false) (fun k=>i-k) 0 ⟨afz _,rfl⟩ ?_;rintro k ⟨hk,hd⟩ K2 J2;refine gC (fun z=>?_) (fun z=>?_)
  ·have hkn:=aY z;obtain⟨y,hy⟩:∃y,l.bo[k]?=some y:=ay oz;refine gi (aq hy) ?_;refine gi (aq hb) ?_;refine gD ?_;refine gC (fun z=>?_) (fun z=>?_)
   ·have h2:d7 y.name b.name=true:=z;have e1:eK l.bo i=6:=by unfold eK; rw[hbd,agy (by rw[h1]; decide),agz (by rw[hbdup]; exact lA hy hkn h2)]
    refine af ?_;rw[e0,et hin hj (by rw[e1];decide),e1];rfl
   have h2:d7 y.name b.name=false:=z;refine ga aK ?_;exact aH J2 (k+1) ⟨hkn,kO hy hd h2⟩
  have hkn:=a7 hk z;subst hkn;have hnd:¬gH (l.bo.map Bd.name) k=true:=by rw[hbdup,hd];decide
  have e1:eK l.bo k=if 8<b.pts.length then 4 else fp b.pts.length (ep b.pts):=by unfold eK;rw[hbd,agy (by rw[h1];decide),agy hnd]
  refine gi (aq hb) ?_;refine gc (Ox b hbo) ?_;refine gC (fun z=>?_) (fun z=>?_)
  ·have h3:=eF z;refine af ?_;rw[e0,et hin hj (by rw[e1];exact h3),e1]
  have h3:=eR z;refine ga aK ?_;exact aH J1 (k+1) ⟨hin,fun j h9=>by rcases afv j k with g |g;exact hj j g;(have:j=k:=by omega);subst this;exact e1.trans h3⟩
 have hin:=a7 hi z;subst hin;refine af ?_;rw[e0,oN hj];rfl
theorem NG(l:Li)(hl:l.ok)(i:Nat)(hi:i<l.jo.length)(h16:l.jo.length<=16):FP 73 [l.av,i64 i] (i64 (gz l i)):=by
 obtain⟨j,hjj⟩:=ay hi;have hbd:l.jo.getD i default=j:=ax hjj;have hbdup:=n5 Jt.name hjj;refine ai func73 ?_;refine gi (aq hjj) ?_;refine gc (vS j.name (hl.jnames j (afl hjj))) ?_;refine gC (fun z=>?_) (fun z=>?_)
 ·have h0:=cm z;refine af ?_;unfold gz;rw[hbd,agz h0];rfl
 have h0:=ci z;refine aL [1,2,5] [2,5] (fun(k:Nat)=>[pP 6 (i64 k)]) (fun _=>[]) (fun k=>k<=i/\(l.jo.take k).any (fun y=>d7 y.name j.name)=false) (fun k=>i-k) 0 ⟨afz _,rfl⟩ ?_;rintro k ⟨hk,hd⟩ K1 J1;refine gC (fun z=>?_) (fun z=>?_)
 ·have hkn:=aY z;obtain⟨y,hy⟩:∃y,l.jo[k]?=some y:=ay oz;refine gi (aq hy) ?_;refine gD ?_;refine gC (fun z=>?_) (fun z=>?_)
  ·have h2:d7 y.name j.name=true:=z;refine af ?_;unfold gz;rw[hbd,agy (by rw[h0];decide),agz (by rw[hbdup];exact lA hy hkn h2)];rfl
  have h2:d7 y.name j.name=false:=z;refine ga aK ?_;exact aH J1 (k+1) ⟨hkn,kO hy hd h2⟩
 have hkn:=a7 hk z;subst hkn;have hnd:¬gH (l.jo.map Jt.name) k=true:=by rw[hbdup,hd];decide
 have e1:gz l k=eJ l j:=by unfold gz;rw[hbd,agy (by rw[h0];decide),agy hnd]
 refine gC (fun z=>?_) (fun z=>?_)
 ·have h1:=IT z;refine af ?_;rw[e1];unfold eJ;rw[agz h1];rfl
 have h1:=K9 z;refine gl ?_;refine gc (sW j.a l.bo.length) ?_;refine bF ?_;refine bn (fun _=>(sW j.b l.bo.length)) ?_;refine gC (fun z=>?_) (fun z=>?_)
 ·have h2:=nk z;refine af ?_;rw[e1];unfold eJ;rw[agy h1,agz h2];rfl
 have h2:=nQ z;have h2n:¬(aT j.a l.bo.length=false\/aT j.b l.bo.length=false):=by rw[h2.1,h2.2];simp
 obtain⟨A,hA,pA,mA,zA0⟩:=pb h2.1;obtain⟨B,hB,pB,mB,zB0⟩:=pb h2.2;refine gC (fun z=>?_) (fun z=>?_)
 ·have h3:=cB z;refine af ?_;rw[e1];unfold eJ;rw[agy h1,agy h2n,agz h3];rfl
 have h3:=cU z;refine gi (aq hA) ?_;refine gi (aq hB) ?_;refine gD ?_;refine gl ?_;refine gc (sW j.point A.pts.length) ?_;refine bF ?_;refine bn (fun _=>(sW j.on B.pts.length)) ?_;refine gC (fun z=>?_) (fun z=>?_)
 ·have h4:=nk z;refine af ?_;rw[e1];unfold eJ;rw[agy h1,agy h2n,agy h3,pA,pB,agz h4];rfl
 have h4:=nQ z;have h4n:¬(aT j.point A.pts.length=false\/aT j.on B.pts.length=false):=by rw[h4.1,h4.2];simp
 refine gC (fun z=>?_) (fun z=>?_)
 ·have h5:=cB z;refine gC (fun z=>?_) (fun z=>?_)
  ·have h6:=m8 z;refine af ?_;rw[e1];unfold eJ;rw[agy h1,agy h2n,agy h3,pA,pB,agy h4n,agz h5,agz h6];rfl
  have h6:=ss z;refine af ?_;rw[e1];unfold eJ;rw[agy h1,agy h2n,agy h3,pA,pB,agy h4n,agz h5,agy (by rw[h6];simp)];rfl
 have h5:=cU z;refine gl ?_;refine gc (sW j.to B.pts.length) ?_;refine gC (fun z=>?_) (fun z=>?_)
 ·have h6:=cm z;refine af ?_;rw[e1];unfold eJ;rw[agy h1,agy h2n,agy h3,pA,pB,agy h4n,agy h5,agz h6];rfl
 have h6:=ci z;obtain⟨m1,g1,d1,mm1,z1⟩:=qH h4.2;obtain⟨m2,g2,d2,mm2,z2⟩:=qH h6;have mo1:=(hl.bo B mB).pts m1 mm1;have mo2:=(hl.bo B mB).pts m2 mm2;refine gi (aq g1) ?_;refine gi (aq g2) ?_;refine gc (Sp m1 m2 mo1 mo2) ?_;refine gD ?_;refine gC (fun z=>?_) (fun z=>?_)
 ·have h7:=ag1 z;refine af ?_;rw[e1];unfold eJ;rw[agy h1,agy h2n,agy h3,pA,pB,agy h4n,agy h5,agy (by rw[h6];decide),d1,d2,agz h7];rfl
 have h7:=ag2 z;refine af ?_;rw[e1];unfold eJ;rw[agy h1,agy h2n,agy h3,pA,pB,agy h4n,agy h5,agy (by rw[h6];decide),d1,d2,agy h7];rfl
theorem VW(l:Li)(hl:l.ok)(i:Nat)(hi:i<l.dv.length)(h2l:l.dv.length<=2):FP 74 [l.av,i64 i] (i64 (el l i)):=by
 obtain⟨b,hb⟩:=ay hi;have hbd:l.dv.getD i default=b:=ax hb;have hbdup:=n5 Dr.name hb;refine ai func74 ?_;refine gi (aq hb) ?_;refine gc (vS b.name (hl.dnames b (afl hb))) ?_;refine gC (fun z=>?_) (fun z=>?_)
 ·have h1:=cm z;refine af ?_;unfold el;rw[hbd,agz h1];rfl
 have h1:=ci z;refine aL [1,2,5] [2,5] (fun(k:Nat)=>[pP 6 (i64 k)]) (fun _=>[]) (fun k=>k<=i/\(l.dv.take k).any (fun y=>d7 y.name b.name)=false) (fun k=>i-k) 0 ⟨afz _,rfl⟩ ?_;rintro k ⟨hk,hd⟩ K1 J1;refine gC (fun z=>?_) (fun z=>?_)
 ·have hkn:=aY z;obtain⟨y,hy⟩:∃y,l.dv[k]?=some y:=ay oz;refine gi (aq hy) ?_;refine gD ?_;refine gC (fun z=>?_) (fun z=>?_)
  ·have h2:d7 y.name b.name=true:=z;refine af ?_;unfold el;rw[hbd,agy (by rw[h1];decide),agz (by rw[hbdup];exact lA hy hkn h2)];rfl
  have h2:d7 y.name b.name=false:=z;refine ga aK ?_;exact aH J1 (k+1) ⟨hkn,kO hy hd h2⟩
 have hkn:=a7 hk z;subst hkn;have hnd:¬gH (l.dv.map Dr.name) k=true:=by rw[hbdup,hd];decide
 refine gl ?_;refine gc (sW b.body l.bo.length) ?_;refine gC (fun z=>?_) (fun z=>?_)
 ·have h3:=cm z;refine af ?_;unfold el;rw[hbd,agy (by rw[h1];decide),agy hnd,agz h3];rfl
 have h3:=ci z;refine gC (fun z=>?_) (fun z=>?_)
 ·have h4:=cB z;refine af ?_;unfold el;rw[hbd,agy (by rw[h1];decide),agy hnd,agy (by rw[h3];decide),agz h4];rfl
 have h4:=cU z;have e1:el l k=if(l.dv.take k).any (fun d=>decide (d.body=b.body))=true then 6 else 0:=by unfold el;rw[hbd,agy (by rw[h1];decide),agy hnd,agy (by rw[h3];decide),agy h4]
 refine aL [1,2,5] [2,5] (fun(q:Nat)=>[pP 7 (i64 q)]) (fun _=>[]) (fun q=>q<=k/\(l.dv.take q).any (fun d=>decide (d.body=b.body))=false) (fun q=>k-q) 0 ⟨afz _,rfl⟩ ?_;rintro q ⟨hq,hqd⟩ K2 J2;refine gC (fun z=>?_) (fun z=>?_)
 ·have hqn:=aY z;obtain⟨y,hy⟩:∃y,l.dv[q]?=some y:=ay oz;refine gi (aq hy) ?_;refine gD ?_;refine gC (fun z=>?_) (fun z=>?_)
  ·have h5:decide (y.body=b.body)=true:=ag3 (cB z);refine af ?_;rw[e1,agz (lA hy hqn h5)];rfl
  have h5:decide (y.body=b.body)=false:=ag4 (cU z);refine ga aK ?_;exact aH J2 (q+1) ⟨hqn,kO hy hqd h5⟩
 have hqn:=a7 hq z;subst hqn;refine af ?_;rw[e1,hqd];rfl
theorem BL(l:Li)(hl:l.ok):FP 19 [l.av] (i64 (ao l)):=by
 have hlb:=hl.lb;refine ai func19 ?_;refine gc (vS l.name hl.name) ?_;refine gC (fun z=>?_) (fun z=>?_)
 ·have h1:=cm z;refine af ?_;unfold ao;rw[agz h1];rfl
 have h1:=ci z;refine gl ?_;refine gC (fun z=>?_) (fun z=>?_)
 ·have h2:=KK z;refine af ?_;unfold ao;rw[agy (by rw[h1];decide),agz h2];rfl
 have h2:=Ir z;refine gl ?_;refine gC (fun z=>?_) (fun z=>?_)
 ·have h3:8<l.bo.length:=ja z;refine af ?_;unfold ao;rw[agy (by rw[h1];decide),agy h2,agz h3];rfl
 have h3:l.bo.length<=8:=iP z;have e0:ao l=if iQ l≠0 then iQ l else if fa l≠0 then fa l else ic l:=by unfold ao;rw[agy (by rw[h1];decide),agy h2,agy oz]
 refine gc (RC l hl) ?_;refine gC (fun z=>?_) (fun z=>?_)
 ·have h4:iQ l≠0:=eF z;refine af ?_;rw[e0,agz h4]
 have h4:iQ l=0:=eR z;refine gl ?_;refine gC (fun z=>?_) (fun z=>?_)
 ·have h5:16<l.jo.length:=ja z;have ej:fa l=4:=by unfold fa; rw[agz h5]
  refine af ?_;rw[e0,agy (by rw[h4];simp),agz (by rw[ej];decide),ej];rfl
 have h5:l.jo.length<=16:=iP z;have ej:fa l=fp l.jo.length (gz l):=by unfold fa;rw[agy oz]
 refine aL [1] [1] (fun(i:Nat)=>[pP 4 (i64 i)]) (fun _=>[]) (fun i=>i<=l.jo.length/\∀j,j<i->gz l j=0) (fun i=>l.jo.length-i) 0 ⟨afz _,fun j h=>by omega⟩ ?_;rintro i ⟨hi,hj⟩ K1 J1;refine gl ?_;refine gC (fun z=>?_) (fun z=>?_)
 ·have hin:=aY z;refine gc (NG l hl i hin h5) ?_;refine gC (fun z=>?_) (fun z=>?_)
  ·have h6:=eF z;refine af ?_;rw[e0,agy (by rw[h4];simp),agz (by rw[ej,et hin hj h6];exact h6),ej,et hin hj h6]
  have h6:=eR z;refine ga aK ?_;exact aH J1 (i+1) ⟨hin,fun j h9=>by rcases afv j i with g |g;exact hj j g;(have:j=i:=by omega);subst this;exact h6⟩
 have hin:=a7 hi z;subst hin;have ejz:fa l=0:=ej.trans (oN hj);have e0':ao l=ic l:=by rw[e0,agy (by rw[h4];simp),agy (by rw[ejz];simp)]
 refine gl ?_;refine gC (fun z=>?_) (fun z=>?_)
 ·have h6:2<l.dv.length:=ja z;refine af ?_;rw[e0'];unfold ic;rw[agz h6];rfl
 have h6:l.dv.length<=2:=iP z;have ed:ic l=fp l.dv.length (el l):=by unfold ic;rw[agy oz]
 refine aL [1] [1] (fun(k:Nat)=>[pP 6 (i64 k)]) (fun _=>[]) (fun k=>k<=l.dv.length/\∀j,j<k->el l j=0) (fun k=>l.dv.length-k) 0 ⟨afz _,fun j h=>by omega⟩ ?_;rintro k ⟨hk,hkj⟩ K2 J2;refine gl ?_;refine gC (fun z=>?_) (fun z=>?_)
 ·have hkn:=aY z;refine gc (VW l hl k hkn h6) ?_;refine gC (fun z=>?_) (fun z=>?_)
  ·have h7:=eF z;refine af ?_;rw[e0',ed,et hkn hkj h7]
  have h7:=eR z;refine ga aK ?_;exact aH J2 (k+1) ⟨hkn,fun j h9=>by rcases afv j k with g |g;exact hkj j g;(have:j=k:=by omega);subst this;exact h7⟩
 have hkn:=a7 hk z;subst hkn;refine af ?_;rw[e0',ed,oN hkj];rfl
theorem ww(rs xs:List (List Rt))(w m:Nat)(hrs:dH rs)(hxs:dH xs)(hrl:rs.length<=100)(hxl:xs.length<=100):FP 143 [a5 rs,i64 w,i64 m,.lst 1 (xs.map nR)] (bl (k9 w m (rs++xs))):=by
 obtain⟨l,hl⟩:∃l,l=rs++xs:=⟨_,rfl⟩
 have hlo:dH l:=by rw[hl];exact hrs.app hxs
 have hll:l.length<=200:=by rw[hl,agf];omega
 have hml:rs.map nR++xs.map nR=l.map nR:=by rw[hl,agc]
 rw[<- hl];refine ai func143 ?_;refine gs (j4 T42 rfl T53 rfl rfl rfl) ?_;refine gs (eg (.tmp rfl) rfl rfl (.tmp rfl) T42 rfl T53 rfl rfl (by simp only[afm];omega) rfl rfl) ?_;refine gs (n8 (.tmp rfl) rfl (by simp) (.tmp rfl) T42 rfl T53 rfl rfl (by simp only[afm];omega) rfl rfl) ?_;refine ge rfl ?_;refine aL [1,2] [] (fun(i:Nat)=>[pP 18 (.lst 1 (l.map nR)),pP 19 (i64 l.length),pP 20 (i64 i)]) (fun _=>[]) (fun i=>i<=l.length/\(l.take i).all (mf w m)=true) (fun i=>l.length-i) 0 ⟨afz _,rfl⟩ ?_ (h1:=(.cons rfl (Sub.of (ag6 (AV.lst 1) hml)) (.cons rfl (Sub.int (by rw[nil_append,hml,afm])) (.k .nil))));rintro i ⟨hi,hj⟩ K1 J1;refine gC (fun z=>?_) (fun z=>?_)
 ·have hin:=aY z;obtain⟨x,hx⟩:=ay hin;have hxo:=hlo x (afl hx);have hxl:=hxo.2;refine gi (aq hx) ?_;refine gl ?_;refine gC (fun z=>?_) (fun z=>?_)
  ·have h1:=ja z;refine af ?_;rw[k9,iN hx (by unfold mf;rw[ag4 oz];rfl)];rfl
  have h1:x.length<=m:=iP z;refine gl ?_;refine aL [1,2,18,19,20,28,29] [] (fun(k:Nat)=>[pP 30 (i64 k)]) (fun _=>[]) (fun k=>k<=x.length/\(x.take k).all (fun r=>decide (r.num.length<=w/\r.den.length<=w))=true) (fun k=>x.length-k) 0 ⟨afz _,rfl⟩ ?_;rintro k ⟨hk,hkj⟩ K2 J2;refine gC (fun z=>?_) (fun z=>?_)
  ·have hkn:=aY z;obtain⟨r,hr⟩:=ay hkn;refine gi (aq hr) ?_;refine gl ?_;refine bF ?_;refine gC (fun z=>?_) (fun z=>?_)
   ·have h2:¬(r.num.length<=w/\r.den.length<=w):=PG z;refine af ?_;rw[k9,iN hx (by unfold mf;rw[iN hr (ag4 h2),aeu])];rfl
   have h2:r.num.length<=w/\r.den.length<=w:=Rj z;refine ga aK ?_;exact aH J2 (k+1) ⟨hkn,jN hkj hr (ag3 h2)⟩
  have hkn:=a7 hk z;refine ga aK ?_;exact aH J1 (i+1) ⟨hin,jN hj hx (by unfold mf;rw[ag3 h1,jE hkn hkj];rfl)⟩
 have hin:=a7 hi z;refine af ?_;rw[k9,jE hin hj];rfl
theorem PY(rs xs:List (List Rt))(hrs:dH rs)(hxs:dH xs)(hrl:rs.length<=281474976710656)(hxl:xs.length<=100):FP 56 [a5 rs,.lst 1 (xs.map nR)] (bl (nc rs xs)):=by
 refine ai func56 ?_;refine gl ?_;refine gC (fun z=>?_) (fun z=>?_)
 ·have h1:rs.length<=1\/(5<rs.length/\rs.length<=8):=Vy z;refine gc (ww rs xs 3 40 hrs hxs oz hxl) ?_;refine af ?_;unfold nc;rw[agz h1]
 have h1:¬(rs.length<=1\/(5<rs.length/\rs.length<=8)):=SU z;refine gC (fun z=>?_) (fun z=>?_)
 ·have h2:rs.length=2:=by have:=cB z; omega
  refine gc (ww rs xs 1 40 hrs hxs oz hxl) ?_;refine af ?_;unfold nc;rw[agy h1,agz h2]
 have h2:¬rs.length=2:=by have:=cU z;omega
 refine gC (fun z=>?_) (fun z=>?_)
 ·have h3:rs.length=3:=by have:=cB z; omega
  refine gc (ww rs xs 1 4 hrs hxs oz hxl) ?_;refine af ?_;unfold nc;rw[agy h1,agy h2,agz h3]
 have h3:¬rs.length=3:=by have:=cU z;omega
 refine af ?_;unfold nc;rw[agy h1,agy h2,agy h3];rfl
theorem AK(rs xs:List (List Rt))(hrs:dH rs)(hxs:dH xs)(hrl:rs.length<=281474976710656)(hxl:xs.length<=100):FP 112 [a5 rs,.lst 1 (xs.map nR)] (bl (iy rs xs)):=by
 refine ai func112 ?_;refine gl ?_;refine gC (fun z=>?_) (fun z=>?_)
 ·have h2:rs.length=2:=by have:=cB z; omega
  refine gc (ww rs xs 2 40 hrs hxs oz hxl) ?_;refine af ?_;unfold iy;rw[agz h2]
 have h2:¬rs.length=2:=by have:=cU z;omega
 refine gc (PY rs xs hrs hxs hrl hxl) ?_;refine af ?_;unfold iy;rw[agy h2]
theorem UJ(l:Li)(hl:l.okw):FP 57 [l.av] (bl (iS l)):=by
 have hbl:=hl.lb;refine ai func57 ?_;refine gl ?_;refine aL [1,8,9] [1] (fun(i:Nat)=>[pP 10 (i64 i)]) (fun _=>[]) (fun i=>i<=l.bo.length/\(l.bo.take i).all pX=true) (fun i=>l.bo.length-i) 0 ⟨afz _,rfl⟩ ?_;rintro i ⟨hi,hj⟩ K1 J1;refine gC (fun z=>?_) (fun z=>?_)
 ·have hin:=aY z;obtain⟨b,hb⟩:=ay hin;refine gi (aq hb) ?_;refine gl ?_;refine gC (fun z=>?_) (fun z=>?_)
  ·have h1:30<b.pts.length:=ja z;refine af ?_;unfold iS;rw[iN hb (by unfold pX;rw[ag4 oz];rfl)];rfl
  have h1:b.pts.length<=30:=iP z;refine gl ?_;refine aL [1,8,9,10,19,20] [1] (fun(k:Nat)=>[pP 21 (i64 k)]) (fun _=>[]) (fun k=>k<=b.pts.length/\(b.pts.take k).all lB=true) (fun k=>b.pts.length-k) 0 ⟨afz _,rfl⟩ ?_;rintro k ⟨hk,hkj⟩ K2 J2;refine gC (fun z=>?_) (fun z=>?_)
  ·have hkn:=aY z;obtain⟨p,hp⟩:=ay hkn;refine gi (aq hp) ?_;refine gl ?_;refine bF ?_;refine bF ?_;refine bF ?_;refine gC (fun z=>?_) (fun z=>?_)
   ·have h2:lB p=false:=P4 z;refine af ?_;unfold iS;rw[iN hb (by unfold pX;rw[iN hp h2,aeu])];rfl
   have h2:lB p=true:=Ub z;refine ga aK ?_;exact aH J2 (k+1) ⟨hkn,jN hkj hp h2⟩
  have hkn:=a7 hk z;refine ga aK ?_;exact aH J1 (i+1) ⟨hin,jN hj hb (by unfold pX;rw[ag3 h1,jE hkn hkj];rfl)⟩
 have hin:=a7 hi z;refine gl ?_;refine bF ?_;refine bF ?_;refine af ?_;exact ag6 bl (OE (jE hin hj))
def ov(r:Rt):Bool:=!(cond (cond (cond (aa .gtr (r.num.length:Int) 1) true (aa .gtr (r.den.length:Int) 1)) true (cond (aa .eql (r.num.length:Int) 1) (aa .gtr (ak r.num 0:Int) 400) false)) true
  (cond (aa .eql (r.den.length:Int) 1) (aa .gtr (ak r.den 0:Int) 20) false))
theorem EW(rs:List Rt)(hl:rs.length<=1000):FP 150 [.lst 3 (rs.map Rt.av)] (bl (rs.all ov)):=by
 refine ai func150 ?_;refine gl ?_;refine aL [5,6] [] (fun(i:Nat)=>[pP 7 (i64 i)]) (fun _=>[]) (fun i=>i<=rs.length/\(rs.take i).all ov=true) (fun i=>rs.length-i) 0 ⟨afz _,rfl⟩ ?_;rintro i ⟨hi,hj⟩ K1 J1;refine gC (fun z=>?_) (fun z=>?_)
 ·have hin:=aY z;obtain⟨r,hr⟩:=ay hin;refine gi (aq hr) ?_;refine gl ?_;refine bF ?_;refine bF ?_;refine nw (fun ⟨h,h2⟩=>(b9 (by have:=cB h2; have e:Int.toNat 0=0:=rfl; omega))) ?_;refine bF ?_;refine nw (fun ⟨h,h2⟩=>(b9 (by have:=cB h2; have e:Int.toNat 0=0:=rfl; omega))) ?_;refine gC (fun z=>?_) (fun z=>?_)
  ·have h1:ov r=false:=ag6 Bool.not z;refine af ?_;rw[iN hr h1];rfl
  have h1:ov r=true:=ag6 Bool.not z;refine ga aK ?_;exact aH J1 (i+1) ⟨hin,jN hj hr h1⟩
 have hin:=a7 hi z;refine af ?_;rw[jE hin hj];rfl
def lr(x:Tn):Bool:=decide (x.t.num.length<=1/\x.t.den.length<=1)
def mc(m:Mk):Bool:=decide (m.x.num.length<=1/\m.x.den.length<=1/\m.y.num.length<=1/\m.y.den.length<=1)
def xM(xs:List Tn):Bool:=xs.all (fun x=>[x.t].all ov)
def wM(ps:List Mk):Bool:=ps.all (fun p=>[p.x,p.y].all ov)
def zH(l:Li):Bool:=l.bo.all (fun b=>wM b.pts)
theorem Si(l:Li)(hl:l.ok)(xs:List Tn)(hxl:xs.length<=281474976710656):FP 62 [l.av,.lst 4 (xs.map Tn.av)] (bl (xM xs&&zH l)):=by
 have hlb:=hl.lb;refine ai func62 ?_;refine gl ?_;refine aL [2,11,12] [2] (fun(i:Nat)=>[pP 13 (i64 i)]) (fun _=>[]) (fun i=>i<=xs.length/\(xs.take i).all (fun x=>[x.t].all ov)=true) (fun i=>xs.length-i) 0 ⟨afz _,rfl⟩ ?_;rintro i ⟨hi,hj⟩ K1 J1;refine gC (fun z=>?_) (fun z=>?_)
 ·have hin:=aY z;obtain⟨x,hx⟩:=ay hin;refine gi (aq hx) ?_;refine gc (EW [x.t] (by show 1<=_; omega)) ?_;refine gC (fun z=>?_) (fun z=>?_)
  ·have h1:=cm z;refine af ?_;unfold xM;rw[iN hx h1];rfl
  have h1:=ci z;refine ga aK ?_;exact aH J1 (i+1) ⟨hin,jN hj hx h1⟩
 have hT:xM xs=true:=jE (a7 hi z) hj;refine gl ?_;refine aL [2,24,25] [2] (fun(i:Nat)=>[pP 26 (i64 i)]) (fun _=>[]) (fun i=>i<=l.bo.length/\(l.bo.take i).all (fun b=>wM b.pts)=true) (fun i=>l.bo.length-i) 0 ⟨afz _,rfl⟩ ?_;rintro i ⟨hi2,hj2⟩ K2 J2;refine gC (fun z=>?_) (fun z=>?_)
 ·have hin:=aY z;obtain⟨b,hb⟩:=ay hin;have hbl:=(hl.bo b (afl hb)).ll;refine gi (aq hb) ?_;refine gl ?_;refine aL [2,24,25,26,31,32] [2] (fun(k:Nat)=>[pP 33 (i64 k)]) (fun _=>[]) (fun k=>k<=b.pts.length/\(b.pts.take k).all (fun p=>[p.x,p.y].all ov)=true) (fun k=>b.pts.length-k) 0 ⟨afz _,rfl⟩ ?_;rintro k ⟨hk,hkj⟩ K3 J3;refine gC (fun z=>?_) (fun z=>?_)
  ·have hkn:=aY z;obtain⟨p,hp⟩:=ay hkn;refine gi (aq hp) ?_;refine gc (EW [p.x,p.y] (by show 2<=_; omega)) ?_;refine gC (fun z=>?_) (fun z=>?_)
   ·have h1:=cm z;refine af ?_;rw[hT];unfold zH;rw[iN hb (by unfold wM;exact iN hp h1)];rfl
   have h1:=ci z;refine ga aK ?_;exact aH J3 (k+1) ⟨hkn,jN hkj hp h1⟩
  have hP:wM b.pts=true:=jE (a7 hk z) hkj;refine ga aK ?_;exact aH J2 (i+1) ⟨hin,jN hj2 hb hP⟩
 have hL:zH l=true:=jE (a7 hi2 z) hj2;refine af ?_;rw[hT,hL];rfl
def zX(l:Li)(xs:List Tn):Bool :=
  cond (cond (aa .neq (splitE l:Int) 0) true (aa .leq (((splitG l).length:Int)-l.dv.length) 1)) true (cond (aa .eql (((splitG l).length:Int)-l.dv.length) 2) (xM xs&&zH l) false)
def ku(l:Li)(xs:List Tn):Bool :=
  (iS l&&decide (xs.length<=20))&&(xs.all lr&&(l.bo.all (fun b=>b.pts.all mc)&&(if ao l=0 then zX l xs else true)))
theorem ZF{l:Li}{n:Nat}(h:cond (!iS l) true (aa .gtr (n:Int) 20)=true):(iS l&&decide (n<=20))=false:=by
 cases hb:iS l
 ·rfl
 ·rw[hb]at h;have h1:20<n:=ja (b:=20) h;rw[ag4 oz];rfl
theorem UC{l:Li}{n:Nat}(h:cond (!iS l) true (aa .gtr (n:Int) 20)=false):iS l=true/\n<=20:=by
 cases hb:iS l
 ·rw[hb]at h;cases h
 ·rw[hb]at h;exact⟨rfl,iP (b:=20) h⟩
theorem GH{x:Tn}:cond (aa .gtr (x.t.num.length:Int) 1) true (aa .gtr (x.t.den.length:Int) 1)=!lr x:=by
 unfold lr;have e1:=ky (n:=x.t.num.length) (k:=1);have e2:=ky (n:=x.t.den.length) (k:=1);rw[kj];refine(congr (ag6 _ e1) e2).trans ?_;rw[<- aex,<- decide_not];exact decide_eq_decide.2 oz
theorem HR{m:Mk}:cond (cond (cond (aa .gtr (m.x.num.length:Int) 1) true (aa .gtr (m.x.den.length:Int) 1)) true (aa .gtr (m.y.num.length:Int) 1)) true (aa .gtr (m.y.den.length:Int) 1)=!mc m:=by
 unfold mc;have e1:=ky (n:=m.x.num.length) (k:=1);have e2:=ky (n:=m.x.den.length) (k:=1);have e3:=ky (n:=m.y.num.length) (k:=1);have e4:=ky (n:=m.y.den.length) (k:=1);rw[kj,kj,kj];refine(congr (ag6 _ (congr (ag6 _ (congr (ag6 _ e1) e2)) e3)) e4).trans ?_;rw[<- aex,<- aex,<- aex,<- decide_not];exact decide_eq_decide.2 oz
theorem m6{l:Li}(hl:ao l=0):(splitG l).length<=8:=by
 unfold splitG;split
 ·exact(qF hl).2
 ·exact afz _
theorem Rl(l:Li)(hw:l.okw)(xs:List Tn)(hxl:xs.length<=281474976710656):FP 11 [l.av,.lst 4 (xs.map Tn.av)] (bl (ku l xs)):=by
 refine ai func11 ?_;refine gc (UJ l hw) ?_;refine bF ?_;refine gC (fun z=>?_) (fun z=>?_)
 ·have h1:=ZF z;refine af ?_;unfold ku;rw[h1];rfl
 obtain⟨g1,g2⟩:=UC z;have hl:=BM g1 hw;have hlb:=hl.lb;refine gl ?_;refine aL [1,2,22,23] [2] (fun(i:Nat)=>[pP 24 (i64 i)]) (fun _=>[]) (fun i=>i<=xs.length/\(xs.take i).all lr=true) (fun i=>xs.length-i) 0 ⟨afz _,rfl⟩ ?_;rintro i ⟨hi,hj⟩ K1 J1;refine gC (fun z=>?_) (fun z=>?_)
 ·have hin:=aY z;obtain⟨x,hx⟩:=ay hin;refine gi (aq hx) ?_;refine gl ?_;refine bF ?_;refine gC (fun z=>?_) (fun z=>?_)
  ·have h1:lr x=false:=by rw[GH] at z; exact cm z
   refine af ?_;unfold ku;rw[g1,ag3 g2,iN hx h1];rfl
  have h1:lr x=true:=by rw[GH]at z;exact ci z
  refine ga aK ?_;exact aH J1 (i+1) ⟨hin,jN hj hx h1⟩
 have hT:xs.all lr=true:=jE (a7 hi z) hj;refine gl ?_;refine aL [1,2,42,43] [2] (fun(i:Nat)=>[pP 44 (i64 i)]) (fun _=>[]) (fun i=>i<=l.bo.length/\(l.bo.take i).all (fun b=>b.pts.all mc)=true) (fun i=>l.bo.length-i) 0 ⟨afz _,rfl⟩ ?_;rintro i ⟨hi2,hj2⟩ K2 J2;refine gC (fun z=>?_) (fun z=>?_)
 ·have hin:=aY z;obtain⟨b,hb⟩:=ay hin;have hbl:=(hl.bo b (afl hb)).ll;refine gi (aq hb) ?_;refine gl ?_;refine aL [1,2,42,43,44,49,50] [2] (fun(k:Nat)=>[pP 51 (i64 k)]) (fun _=>[]) (fun k=>k<=b.pts.length/\(b.pts.take k).all mc=true) (fun k=>b.pts.length-k) 0 ⟨afz _,rfl⟩ ?_;rintro k ⟨hk,hkj⟩ K3 J3;refine gC (fun z=>?_) (fun z=>?_)
  ·have hkn:=aY z;obtain⟨p,hp⟩:=ay hkn;refine gi (aq hp) ?_;refine gl ?_;refine bF ?_;refine bF ?_;refine bF ?_;refine gC (fun z=>?_) (fun z=>?_)
   ·have h1:mc p=false:=by rw[HR] at z; exact cm z
    refine af ?_;unfold ku;rw[g1,ag3 g2,hT,iN hb (iN hp h1)];rfl
   have h1:mc p=true:=by rw[HR]at z;exact ci z
   refine ga aK ?_;exact aH J3 (k+1) ⟨hkn,jN hkj hp h1⟩
  have hP:b.pts.all mc=true:=jE (a7 hk z) hkj;refine ga aK ?_;exact aH J2 (i+1) ⟨hin,jN hj2 hb hP⟩
 have hL:l.bo.all (fun b=>b.pts.all mc)=true:=jE (a7 hi2 z) hj2;refine gc (BL l hl) ?_;refine gC (fun z=>?_) (fun z=>?_)
 ·have h1:=eF z;refine af ?_;unfold ku;rw[g1,ag3 g2,hT,hL,agy h1];rfl
 have h1:=eR z;have hsl:=m6 h1;have hld:=hl.ld;refine gc (jU l hl h1) ?_;refine gl ?_;refine gl ?_;refine ga (dp oz) ?_;refine bn (fun _=>(Si l hl xs hxl)) ?_;refine af ?_;unfold ku zX;rw[g1,ag3 g2,hT,hL,agz h1];rfl
section
variable{l:Li}{xs:List Tn}{s g:Nat}(W:WkC l xs s g){k:Nat}{gr:Gr}(hg:(splitG l)[k]?=some gr){j r E:Nat}{a:Aq}(Q:QInv l j r E a){n y:Nat}(ok:jc s g (n+1) y j r E=true)(hy:gr.kind≠0->0<y)
include W hg Q ok hy
end
def xc(k:Nat):Nat:=bif ab3 k 1000 then 902 else bif ab3 k 902 then 1000 else Iy k
theorem xN{a b:Nat}(h:¬a=b):ab3 a b=false:=by
 cases h1:ab3 a b
 ·rfl
 ·exact ag5 (afo h1) h
theorem xE(k:Nat):xc (xc k)=k:=by
 by_cases h1:k=1000
 ·subst h1;rfl
 by_cases h2:k=902
 ·subst h2;rfl
 by_cases h3:k=1001
 ·subst h3;rfl
 by_cases h4:k=901
 ·subst h4;rfl
 have e:xc k=k:=by simp only[xc,Iy,xN h1,xN h2,xN h3,xN h4,cond_false]
 rw[e,e]
structure SameJ(l' l:Li):Prop where
  j:l'.jo=l.jo
  d:l'.dv=l.dv
  b:l'.bo.length=l.bo.length
section
variable{l' l:Li}(h:SameJ l' l)
include h
theorem SameJ.jointI(kind body:Int)(oth:List Bool):jointI l' kind body oth=jointI l kind body oth:=by unfold Lw.jointI;rw[h.j]
theorem SameJ.freeB(k:List Bool)(i:Int):freeB l' k i=freeB l k i:=by unfold Lw.freeB o9;rw[h.d]
theorem SameJ.drHit(k:List Bool)(i:Nat):drHit l' k i=drHit l k i:=by unfold Lw.drHit;simp only[h.d,h.jointI]
theorem SameJ.driverG(k:List Bool):driverG l' k=driverG l k:=by unfold Lw.driverG;simp only[h.d,h.jointI,h.drHit]
theorem SameJ.prHit(k:List Bool)(i j:Nat):prHit l' k i j=prHit l k i j:=by unfold Lw.prHit;simp only[h.freeB,h.jointI,h.b]
theorem SameJ.prAt(k:List Bool)(i:Nat):prAt l' k i=prAt l k i:=by unfold Lw.prAt;simp only[h.prHit,h.b]
theorem SameJ.prG(k:List Bool)(i j:Nat):prG l' k i j=prG l k i j:=by unfold Lw.prG;simp only[h.jointI,h.b]
theorem SameJ.pairG(k:List Bool):pairG l' k=pairG l k:=by unfold Lw.pairG;simp only[h.prAt,h.prG,h.b]
theorem SameJ.sgHit(k:List Bool)(i:Nat):sgHit l' k i=sgHit l k i:=by unfold Lw.sgHit;simp only[h.freeB,h.jointI]
theorem SameJ.sgG(k:List Bool)(i:Nat):sgG l' k i=sgG l k i:=by unfold Lw.sgG;simp only[h.jointI,h.j]
theorem SameJ.singleG(k:List Bool):singleG l' k=singleG l k:=by
 unfold Lw.singleG;have e:Lw.sgG l' k=Lw.sgG l k:=funext (h.sgG k);simp only[h.sgHit,h.b,e]
theorem SameJ.nextG(k:List Bool):nextG l' k=nextG l k:=by unfold Lw.nextG;rw[h.driverG,h.pairG,h.singleG]
theorem SameJ.findFrom:∀(n:Nat)(k:List Bool)(out:List Gr),findFrom l' n k out=findFrom l n k out
 |0,k,out=>rfl
 |n+1,k,out=>by
  unfold Lw.findFrom;rw[h.nextG];cases Lw.nextG l k with
  |none=>rfl
  |some g=>exact SameJ.findFrom n _ _
theorem SameJ.findG:findG l'=findG l:=by unfold Lw.findG;rw[h.b,h.findFrom]
theorem SameJ.splitE:splitE l'=splitE l:=by unfold Lw.splitE cG fm;rw[h.findG,h.b,h.j]
theorem SameJ.splitG:splitG l'=splitG l:=by unfold Lw.splitG;rw[h.splitE,h.findG]
end
def Jt.vs(j:Jt):List ag9:=[.string j.name,.int .i64 j.kind,.int .i64 j.a,.int .i64 j.point,.int .i64 j.b,.int .i64 j.on,.int .i64 j.to]
def Dr.vs(d:Dr):List ag9:=[.string d.name,.int .i64 d.body]
structure Gr.sm(g:Gr):Prop where
  b:g.bo.length<=100
  j:g.jo.length<=100
theorem nD{l:Li}(hl:ao l=0):(∀g∈splitG l,g.sm)/\(splitG l).length<=100:=by
 refine⟨fun g hg=>?_,?_⟩
 ·obtain⟨_,ho⟩:=i9 hl hg;have:=ho.lb;have:=ho.lj
  exact⟨by omega,by omega⟩
 ·unfold splitG;split
  ·have:=(qF hl).2;omega
  ·exact afz _
theorem yP{β:Type}{g:β->AV}{l:List β}{i:Nat}(h:i<=l.length):((l.take i).map g).length=i:=by rw[afm,agu];omega
theorem WB:FP 40 [.v .nilIface] (i64 0):=by
 refine ai func40 ?_;refine gC (fun z=>?_) (fun z=>?_) (st2:=(77777,0))
 ·refine af ?_
  first |rfl |(simp;done)
 cases z
theorem Ul(n:Int):FP 40 [.v (.iface 41 (.int .i64 n))] (i64 n):=by
 refine ai func40 ?_;refine gf ?_;refine gs (UD (.tmp rfl) T41 rfl rfl) ?_;refine gf ?_;refine af ?_;rfl
theorem Ny(e:Nat):FP 40 [cf e] (i64 e):=by
 cases e with
 |zero=>exact WB
 |succ e=>exact Ul _
open Lean.Grind (CommRing)
theorem yC{n e:Nat}{a:List Rat}(h:Nm n e a):a.length<=2^n:=h.nl.le
theorem Pq.ok.nq{n e:Nat}{p:Pq}(h:Pq.ok n e p):Nq n p:=⟨yC h.c,yC h.s,yC h.x,yC h.y⟩
section
variable{l:Li}{xs:List Tn}{s g:Nat}(W:WkC l xs s g){gr:Gr}{a:Aq}(hg:(splitG l)[a.ms.length]?=some gr)
variable{j r E:Nat}(Q:QInv l j r E a)
include W hg Q
end
structure AqFin(l:Li)(xs:List Tn)(a:Aq):Prop where
  li:ao l=0
  lx:xs.length=l.dv.length
  xo:∀x∈xs,x.err=0/\Qb 1000 x.t.q/\x.t.ok
  tw:∃r,r<=400000000/\Tw a.ts r
  two:a.ts.length<=2
  bs:∀p∈a.bs,Pq.ok a.ts.length 3200000000 p
  ln:a.bs.length=l.bo.length
  lm:a.ms.length<=100
  js:∀j∈l.jo,JH l a.ts a.bs j
  cs:∀i,i<l.bo.length->CH a.ts (a.bs.getD i fZ)
  dr:∀i d,l.dv[i]?=some d->dE a.ts (a.bs.getD d.body.toNat fZ).c=qE (jS (xs.getD i mJ).half (xs.getD i mJ).t.q)/\dE a.ts (a.bs.getD d.body.toNat fZ).s=qE (jO (xs.getD i mJ).half (xs.getD i mJ).t.q)
  fr:a.bs.getD 0 fZ=W8
open Lean.Grind (CommRing)
section
variable{ts T:LL}(L:Lf ts T)
include L
end
section
variable{l:Li}{a:As}{r:Nat}(tw:Tw (llq a.rs) r)(hN:∀p∈dJ a,Nq (llq a.rs).length p)
include tw hN
end
section
variable{l:Li}{xs:List Tn}{s g:Nat}(W:WkC l xs s g){gr:Gr}{a:Aq}(hg:(splitG l)[a.ms.length]?=some gr)
variable{j r E:Nat}(Q:QInv l j r E a)
include W hg Q
end
section
variable{R:Type}[CommRing R]
end
section
variable{T:LL}(hp:fC T)
include hp
variable{hp} in
end
section
variable{l:Li}{T:LL}(hp:fC T){bs ds:List Pq}
include hp
end
def PQ{ts:LL}(hp:fC ts)(p q:P2 ts):Prop:=aA hp p.1=aA hp q.1/\aA hp p.2=aA hp q.2
def VQ{ts:LL}(hp:fC ts)(v w:Vt ts):Prop:=aA hp v.w=aA hp w.w/\aA hp v.x=aA hp w.x/\aA hp v.y=aA hp w.y
section
variable{ts:LL}{hp:fC ts}
theorem PQ.rf(p:P2 ts):PQ hp p p:=⟨rfl,rfl⟩
theorem PQ.sy{p q:P2 ts}(h:PQ hp p q):PQ hp q p:=⟨h.1.symm,h.2.symm⟩
theorem PQ.sb{p q p' q':P2 ts}(h:PQ hp p p')(g:PQ hp q q'):PQ hp (ah p q) (ah p' q'):=by
 unfold ah;refine⟨?_,?_⟩
 ·show aA hp (p.1-q.1)=aA hp (p'.1-q'.1);rw[kt,kt,h.1,g.1]
 ·show aA hp (p.2-q.2)=aA hp (p'.2-q'.2);rw[kt,kt,h.2,g.2]
theorem PQ.crs{p q p' q':P2 ts}(h:PQ hp p p')(g:PQ hp q q'):aA hp (a6 p q)=aA hp (a6 p' q'):=by
 show aA hp (p.1*q.2-p.2*q.1)=aA hp (p'.1*q'.2-p'.2*q'.1);rw[kt,kt,ft,ft,ft,ft,h.1,h.2,g.1,g.2]
theorem PQ.dot{p q p' q':P2 ts}(h:PQ hp p p')(g:PQ hp q q'):aA hp (aX p q)=aA hp (aX p' q'):=by
 show aA hp (p.1*q.1+p.2*q.2)=aA hp (p'.1*q'.1+p'.2*q'.2);rw[md,md,ft,ft,ft,ft,h.1,h.2,g.1,g.2]
theorem PQ.at{v v':Vt ts}{p p':P2 ts}(h:VQ hp v v')(g:PQ hp p p'):PQ hp (cR v p) (cR v' p'):=by
 refine⟨?_,?_⟩
 ·show aA hp (v.x-v.w*p.2)=aA hp (v'.x-v'.w*p'.2);rw[kt,kt,ft,ft,h.1,h.2.1,g.2]
 ·show aA hp (v.y+v.w*p.1)=aA hp (v'.y+v'.w*p'.1);rw[md,md,ft,ft,h.1,h.2.2,g.1]
theorem VQ.rt{w w':Et ts}{p p' u u':P2 ts}(h:aA hp w=aA hp w')(g:PQ hp p p')(k:PQ hp u u'):VQ hp (cW w p u) (cW w' p' u'):=by
 refine⟨h,?_,?_⟩
 ·show aA hp (u.1+w*p.2)=aA hp (u'.1+w'*p'.2);rw[md,md,ft,ft,h,g.2,k.1]
 ·show aA hp (u.2-w*p.1)=aA hp (u'.2-w'*p'.1);rw[kt,kt,ft,ft,h,g.1,k.2]
theorem KA{x:Et ts}(h:aC x≠0):aA hp (iE x)*aA hp x=1:=Sb hp h
theorem zM{x y x' y':Et ts}(h:aA hp x=aA hp x')(g:aA hp y=aA hp y')(h0:aC y≠0):aA hp (x*iE y)=aA hp (x'*iE y'):=by
 have h1:aC y'≠0:=by rw[<- mS hp g];exact h0
 have e1:=KA (hp:=hp) h0;have e2:=KA (hp:=hp) h1;rw[<- g]at e2;rw[ft,ft,h];have e:aA hp (iE y)=aA hp (iE y'):=by grind
 rw[e]
theorem VQ.rf(v:Vt ts):VQ hp v v:=⟨rfl,rfl,rfl⟩
end
def VE{ts:LL}(hp:fC ts)(V V':List (Vt ts)):Prop:=V.length=V'.length/\∀b,VQ hp (cE V b) (cE V' b)
theorem VE.rf{ts:LL}{hp:fC ts}(V:List (Vt ts)):VE hp V V:=⟨rfl,fun b=>VQ.rf _⟩
theorem VE.set{ts:LL}{hp:fC ts}{V V':List (Vt ts)}(h:VE hp V V'){v v':Vt ts}(g:VQ hp v v')(n:Nat):VE hp (V.set n v) (V'.set n v'):=by
 refine⟨by rw[agm,agm];exact h.1,fun b=>?_⟩;have hb:=h.2 b;unfold cE at hb ⊢;rw[afn,afn,List.getElem?_set,List.getElem?_set,<- h.1]
 by_cases e:n=b.toNat
 ·rw[agz e,agz e];split
  ·exact g
  ·exact VQ.rf _
 ·rw[agy e,agy e];rw[afn,afn]at hb;exact hb
def jQ(l:Li)(a:Aq)(V:List (Vt a.ts))(j:Jt)(b:Int):P2 a.ts:=cR (cE V (ee j b)) (pinP l a.ts a.bs j b)
def pR(l:Li)(a:Aq)(g:Gr):P2 a.ts:=iJ a.ts (a.bs.getD (ba g 0).toNat fZ) (aO l (an l g 2) (ba g 0))
def rY(l:Li)(a:Aq)(g:Gr):P2 a.ts:=ah (pR l a g) (pinP l a.ts a.bs (an l g 0) (ba g 0))
def rL(l:Li)(a:Aq)(g:Gr):P2 a.ts:=ah (pR l a g) (pinP l a.ts a.bs (an l g 1) (ba g 1))
def xg(l:Li)(a:Aq)(V:List (Vt a.ts))(g:Gr):P2 a.ts:=ah (jQ l a V (an l g 1) (ba g 1)) (jQ l a V (an l g 0) (ba g 0))
def lP(l:Li)(a:Aq)(g:Gr):Et a.ts:=a6 (rY l a g) (rL l a g)
def DG(l:Li)(a:Aq)(V:List (Vt a.ts))(g:Gr):Vt a.ts:=cW (aX (xg l a V g) (rL l a g)*iE (lP l a g)) (pinP l a.ts a.bs (an l g 0) (ba g 0)) (jQ l a V (an l g 0) (ba g 0))
def Av(l:Li)(a:Aq)(V:List (Vt a.ts))(g:Gr):Vt a.ts:=cW (aX (xg l a V g) (rY l a g)*iE (lP l a g)) (pinP l a.ts a.bs (an l g 1) (ba g 1)) (jQ l a V (an l g 1) (ba g 1))
def sK(l:Li)(a:Aq)(V:List (Vt a.ts))(g:Gr):List (Vt a.ts):=(V.set (ba g 0).toNat (DG l a V g)).set (ba g 1).toNat (Av l a V g)
def i7(l:Li)(a:Aq)(g:Gr):P2 a.ts:=if g.kind=2 then iJ a.ts (a.bs.getD (ba g 0).toNat fZ) (aJ l (ba g 0) (an l g 1).point)else bt l a.ts a.bs (an l g 1).a (an l g 1).point
def qT(l:Li)(a:Aq)(V:List (Vt a.ts))(g:Gr):P2 a.ts:=cR (cE V (if g.kind=2 then(an l g 1).b else(an l g 1).a)) (i7 l a g)
def iU(l:Li)(a:Aq)(g:Gr):Et a.ts:=aX (fq l a g) (ah (i7 l a g) (pinP l a.ts a.bs (an l g 0) (ba g 0)))
def qg(l:Li)(a:Aq)(V:List (Vt a.ts))(g:Gr):Et a.ts:=a6 (fq l a g) (ah (qT l a V g) (jQ l a V (an l g 0) (ba g 0)))*iE (iU l a g)
def ud(l:Li)(a:Aq)(V:List (Vt a.ts))(g:Gr):Vt a.ts:=cW (qg l a V g) (pinP l a.ts a.bs (an l g 0) (ba g 0)) (jQ l a V (an l g 0) (ba g 0))
def lR(l:Li)(a:Aq)(V:List (Vt a.ts))(g:Gr):List (Vt a.ts):=V.set (ba g 0).toNat (ud l a V g)
def wD{ts:LL}(g:Gr)(drv:Int):Et ts:=if g.driver=drv then qE ((1:Int):Rat)else 0
def AZ(l:Li)(a:Aq)(drv:Int)(V:List (Vt a.ts))(g:Gr):List (Vt a.ts):=V.set (ba g 0).toNat (cW (wD g drv) (bm l a (an l g 0)) (cI l a V (an l g 0) (ba g 0)))
def sN(l:Li)(a:Aq)(drv:Int)(V:List (Vt a.ts))(g:Gr):List (Vt a.ts):=V.set (ba g 0).toNat (cW (wD g drv) (pinP l a.ts a.bs (an l g 0) (ba g 0)) (jQ l a V (an l g 0) (ba g 0)))
def fX(l:Li)(a:Aq)(drv:Int)(V:List (Vt a.ts))(g:Gr):List (Vt a.ts):=if g.kind=0 then AZ l a drv V g else if g.kind=1 then td l a V g else kL l a V g
def fK(l:Li)(a:Aq)(drv:Int)(V:List (Vt a.ts))(g:Gr):List (Vt a.ts):=if g.kind=0 then sN l a drv V g else if g.kind=1 then sK l a V g else lR l a V g
section
variable{l:Li}{a:Aq}(hp:fC a.ts)(hJ:∀j∈l.jo,JH l a.ts a.bs j)
include hJ
theorem Fy{n:Nat}{j:Jt}(hj:l.jo[n]?=some j)(hk:j.kind=0):PQ hp (bt l a.ts a.bs j.a j.point) (bt l a.ts a.bs j.b j.on):=by
 have h:=hJ j (afl hj);unfold JH at h;rw[agz hk]at h;exact⟨(kR hp).2 h.1,(kR hp).2 h.2⟩
theorem m7{n:Nat}{j:Jt}(hj:l.jo[n]?=some j)(hk:j.kind=0)(b:Int):PQ hp (bm l a j) (pinP l a.ts a.bs j b):=by
 unfold bm pinP;split
 ·exact Fy hp hJ hj hk
 ·exact PQ.rf _
theorem M0{n:Nat}{j:Jt}(hj:l.jo[n]?=some j)(hk:j.kind=0){b:Int}(ht:j.a=b\/j.b=b):PQ hp (bm l a j) (iJ a.ts (a.bs.getD b.toNat fZ) (aO l j b)):=by
 unfold bm aO
 by_cases e:j.a=b
 ·rw[agz e,<- e];exact PQ.rf _
 ·rw[agy e];rcases ht with h |h
  ·exact ag5 h e
  ·rw[<- h];exact Fy hp hJ hj hk
theorem qB{V V':List (Vt a.ts)}(hV:VE hp V V'){n:Nat}{j:Jt}(hj:l.jo[n]?=some j)(hk:j.kind=0)(b:Int):PQ hp (cI l a V j b) (jQ l a V' j b) :=
 PQ.at (hV.2 _) (m7 hp hJ hj hk b)
theorem EL{g:Gr}(h1:g.kind=1){n0 n1 n2:Nat}(j0:l.jo[n0]?=some (an l g 0))(k0:(an l g 0).kind=0)(j1:l.jo[n1]?=some (an l g 1))(k1:(an l g 1).kind=0)(j2:l.jo[n2]?=some (an l g 2))(k2:(an l g 2).kind=0)
  (ht:(an l g 2).a=ba g 0\/(an l g 2).b=ba g 0):aA hp (ka l a g)=aA hp (lP l a g)/\aA hp (ka l a g)=aA hp (de l a.ts a.bs g):=by
 have p0:=m7 hp hJ j0 k0 (ba g 0);have p1:=m7 hp hJ j1 k1 (ba g 1);have p2:=M0 hp hJ j2 k2 ht;have e:aA hp (ka l a g)=aA hp (lP l a g):=PQ.crs (PQ.sb p2 p0) (PQ.sb p2 p1);refine⟨e,?_⟩;rw[e];unfold de;rw[agy oz,agz h1];congr 1;show(_-_:Et a.ts)*(_-_)-(_-_)*(_-_)=(_-_)*(_-_)-(_-_)*(_-_);unfold pR;grind
theorem vm{g:Gr}(h0:g.kind≠0)(h1:g.kind≠1){n0 n1:Nat}(j0:l.jo[n0]?=some (an l g 0))(k0:(an l g 0).kind=0)(ha:g.kind=2->(an l g 1).a=ba g 0) :
  PQ hp (bm l a (an l g 1)) (i7 l a g)/\aA hp (gK l a g)=aA hp (iU l a g)/\aA hp (gK l a g)=aA hp (de l a.ts a.bs g):=by
 have p0:=m7 hp hJ j0 k0 (ba g 0)
 have pc:PQ hp (bm l a (an l g 1)) (i7 l a g):=by
  unfold i7 bm;split
  ·rename_i h2;rw[<- ha h2];exact PQ.rf _
  ·exact PQ.rf _
 have e:aA hp (gK l a g)=aA hp (iU l a g):=PQ.dot (PQ.rf _) (PQ.sb pc p0);refine⟨pc,e,?_⟩;rw[e];unfold de iU i7 fq;rw[agy h0,agy h1];split
 ·rfl
 ·rfl
end
section
variable{l:Li}{a:Aq}(hp:fC a.ts)(hJ:∀j∈l.jo,JH l a.ts a.bs j)
include hJ
theorem M3{V V':List (Vt a.ts)}(hV:VE hp V V'){g:Gr}(h0:g.kind≠0)(h1:g.kind≠1){n0 n1:Nat}(j0:l.jo[n0]?=some (an l g 0))(k0:(an l g 0).kind=0)(ha:g.kind=2->(an l g 1).a=ba g 0)(hd:aC (de l a.ts a.bs g)≠0) :
  aA hp (pK l a V g)=aA hp (qg l a V' g):=by
 obtain⟨pc,e1,e2⟩:=vm hp hJ (n1:=n1) h0 h1 j0 k0 ha;have u0:=qB hp hJ hV j0 k0 (ba g 0);have hD:aC (gK l a g)≠0:=by rw[mS hp e2];exact hd
 have sw:∀(v p q:P2 a.ts)(i:Et a.ts),-(a6 v (ah p q)*i)=a6 v (ah q p)*i:=fun v p q i=>by
  show -((v.1*(p.2-q.2)-v.2*(p.1-q.1))*i)=(v.1*(q.2-p.2)-v.2*(q.1-p.1))*i;grind
 unfold pK qg qT
 by_cases h2:g.kind=2
 ·rw[agz h2,agz h2,sw];exact zM (PQ.crs (PQ.rf _) (PQ.sb (PQ.at (hV.2 _) pc) u0)) e1 hD
 ·rw[agy h2,agy h2];exact zM (PQ.crs (PQ.rf _) (PQ.sb (PQ.at (hV.2 _) pc) u0)) e1 hD
theorem YF{V V':List (Vt a.ts)}(hV:VE hp V V'){g:Gr}(D:DyK l g)(drv:Int)(hd:g.kind≠0->aC (de l a.ts a.bs g)≠0):VE hp (fX l a drv V g) (fK l a drv V' g):=by
 cases D with
 | @drv b z d j x t d0 hx hb =>
  have e0:an l ⟨0,[b],[z],d⟩ 0=j:=ax t.hj;have j0:l.jo[z.toNat]?=some (an l ⟨0,[b],[z],d⟩ 0):=by rw[e0];exact t.hj
  have k0:(an l ⟨0,[b],[z],d⟩ 0).kind=0:=by rw[e0];exact t.kd
  unfold fX fK;rw[agz rfl,agz rfl];exact hV.set (VQ.rt rfl (m7 hp hJ j0 k0 _) (qB hp hJ hV j0 k0 _)) _
 | @rrr i k z0 z1 z2 a0 a1 a2 ne t0 t1 p2 h2 kd tie =>
  have hd:=hd (by show(1:Int)≠0;decide);have e0:an l ⟨1,[i,k],[z0,z1,z2],0⟩ 0=a0:=ax t0.hj;have e1:an l ⟨1,[i,k],[z0,z1,z2],0⟩ 1=a1:=ax t1.hj;have e2:an l ⟨1,[i,k],[z0,z1,z2],0⟩ 2=a2:=ax h2;have j0:l.jo[z0.toNat]?=some (an l ⟨1,[i,k],[z0,z1,z2],0⟩ 0):=by rw[e0];exact t0.hj
  have j1:l.jo[z1.toNat]?=some (an l ⟨1,[i,k],[z0,z1,z2],0⟩ 1):=by rw[e1];exact t1.hj
  have j2:l.jo[z2.toNat]?=some (an l ⟨1,[i,k],[z0,z1,z2],0⟩ 2):=by rw[e2];exact h2
  have k0:(an l ⟨1,[i,k],[z0,z1,z2],0⟩ 0).kind=0:=by rw[e0];exact t0.kd
  have k1:(an l ⟨1,[i,k],[z0,z1,z2],0⟩ 1).kind=0:=by rw[e1];exact t1.kd
  have k2:(an l ⟨1,[i,k],[z0,z1,z2],0⟩ 2).kind=0:=by rw[e2];exact kd
  have ht:(an l ⟨1,[i,k],[z0,z1,z2],0⟩ 2).a=i\/(an l ⟨1,[i,k],[z0,z1,z2],0⟩ 2).b=i:=by
   rw[e2];rcases tie with h |h;exact .inl h.1;exact .inr h.1
  obtain⟨q1,q2⟩:=EL hp hJ (g:=⟨1,[i,k],[z0,z1,z2],0⟩) rfl j0 k0 j1 k1 j2 k2 ht;have hD:aC (ka l a ⟨1,[i,k],[z0,z1,z2],0⟩)≠0:=by rw[mS hp q2];exact hd
  have p0:=m7 hp hJ j0 k0 i;have p1:=m7 hp hJ j1 k1 k;have p2:=M0 hp hJ j2 k2 ht;have u0:=qB hp hJ hV j0 k0 i;have u1:=qB hp hJ hV j1 k1 k;unfold fX fK;rw[agy (show ¬(1:Int)=0 by decide),agy (show ¬(1:Int)=0 by decide),agz rfl,agz rfl];exact(hV.set (VQ.rt (zM (PQ.dot (PQ.sb u1 u0) (PQ.sb p2 p1)) q1 hD) p0 u0) _).set (VQ.rt (zM (PQ.dot (PQ.sb u1 u0) (PQ.sb p2 p0)) q1 hD) p1 u1) _
 | @pr i z0 z1 a0 a1 t0 t1 ha =>
  have hd:=hd (by show(2:Int)≠0;decide);have e0:an l ⟨2,[i],[z0,z1],0⟩ 0=a0:=ax t0.hj;have e1:an l ⟨2,[i],[z0,z1],0⟩ 1=a1:=ax t1.hj;have j0:l.jo[z0.toNat]?=some (an l ⟨2,[i],[z0,z1],0⟩ 0):=by rw[e0];exact t0.hj
  have k0:(an l ⟨2,[i],[z0,z1],0⟩ 0).kind=0:=by rw[e0];exact t0.kd
  have hW:=M3 hp hJ (n1:=0) hV (g:=⟨2,[i],[z0,z1],0⟩) (by show(2:Int)≠0;decide) (by show(2:Int)≠1;decide) j0 k0 (fun _=>by rw[e1];exact ha) hd;unfold fX fK;rw[agy (show ¬(2:Int)=0 by decide),agy (show ¬(2:Int)=0 by decide),agy (show ¬(2:Int)=1 by decide),agy (show ¬(2:Int)=1 by decide)];exact hV.set (VQ.rt hW (m7 hp hJ j0 k0 _) (qB hp hJ hV j0 k0 _)) _
 | @rp i z0 z1 a0 a1 t0 t1 ha =>
  have hd:=hd (by show(3:Int)≠0;decide);have e0:an l ⟨3,[i],[z0,z1],0⟩ 0=a0:=ax t0.hj;have j0:l.jo[z0.toNat]?=some (an l ⟨3,[i],[z0,z1],0⟩ 0):=by rw[e0];exact t0.hj
  have k0:(an l ⟨3,[i],[z0,z1],0⟩ 0).kind=0:=by rw[e0];exact t0.kd
  have hW:=M3 hp hJ (n1:=0) hV (g:=⟨3,[i],[z0,z1],0⟩) (by show(3:Int)≠0;decide) (by show(3:Int)≠1;decide) j0 k0 (fun h=>ag5 h (by show ¬(3:Int)=2;decide)) hd;unfold fX fK;rw[agy (show ¬(3:Int)=0 by decide),agy (show ¬(3:Int)=0 by decide),agy (show ¬(3:Int)=1 by decide),agy (show ¬(3:Int)=1 by decide)];exact hV.set (VQ.rt hW (m7 hp hJ j0 k0 _) (qB hp hJ hV j0 k0 _)) _
end
def kX(s:ByteArray)(n:Int):Bd:=⟨s,[⟨⟨#[97]⟩,rt ((0:Int):Rat),rt ((0:Int):Rat)⟩,⟨⟨#[98]⟩,rt (n:Rat),rt ((0:Int):Rat)⟩]⟩
def fb:Li:=⟨⟨#[102,111,117,114,98,97,114]⟩,[kX ⟨#[102,114,97,109,101]⟩ 4,kX ⟨#[99,114,97,110,107]⟩ 3,kX ⟨#[99,111,117,112,108,101,114]⟩ 5,kX ⟨#[114,111,99,107,101,114]⟩ 6],
  [⟨⟨#[111]⟩,0,1,0,0,0,0⟩,⟨⟨#[112]⟩,0,2,0,1,1,0⟩,⟨⟨#[113]⟩,0,3,0,0,1,0⟩,⟨⟨#[114]⟩,0,2,1,3,1,0⟩],[⟨⟨#[100]⟩,1⟩]⟩
def t0:Tn:=⟨⟨false,[],[]⟩,false⟩
theorem Dd(a b:ByteArray):d7 a b=(a.data.toList==b.data.toList):=by
 unfold d7;rw[Go.ByteArray.toList_eq,Go.ByteArray.toList_eq]
theorem Vd{s:ByteArray}(hs:s.size<=281474976710656){n:Int}(hn:-9223372036854775808<=n/\n<=9223372036854775807) :
  (kX s n).name.size<=281474976710656/\(kX s n).pts.length<=281474976710656/\∀m∈(kX s n).pts,m.name.size<=281474976710656/\m.x.wok/\m.y.wok:=by
 have h0:(rt ((0:Int):Rat)).ok:=(sG oz).ok;have h1:(rt (n:Rat)).ok:=(sG hn).ok;refine⟨hs,by show 2<=_;omega,fun m hm=>?_⟩;simp only[kX,agd,af8,or_false]at hm;rcases hm with rfl |rfl
 ·exact⟨by show 1<=_;omega,h0.wok,h0.wok⟩
 ·exact⟨by show 1<=_;omega,h1.wok,h0.wok⟩
deriving instance DecidableEq for Pq
deriving instance DecidableEq for Aq
theorem DH{ts:LL}(h2:ts.length<=2):lm ts.length=200000000000:=by unfold lm;rw[agz h2]
section
variable{l:Li}{xs:List Tn}{a:Aq}(F:AqFin l xs a)
include F
end
structure AqS(l:Li)(a:Aq):Prop where
  li:ao l=0
  tw:∃r,r<=400000000/\Tw a.ts r
  two:a.ts.length<=2
  bs:∀p∈a.bs,Pq.ok a.ts.length 3200000000 p
  ln:a.bs.length=l.bo.length
theorem AqFin.s{l:Li}{xs:List Tn}{a:Aq}(F:AqFin l xs a):AqS l a:=⟨F.li,F.tw,F.two,F.bs,F.ln⟩
def Pq.l(p:Pq):LL:=[p.c,p.s,p.x,p.y]
theorem Pq.ok.mem{n e:Nat}{p:Pq}(h:Pq.ok n e p):∀x∈p.l,Nm n e x:=by
 intro x hx;simp only[Pq.l,agd,af8,or_false]at hx;rcases hx with rfl |rfl |rfl |rfl
 ·exact h.c
 ·exact h.s
 ·exact h.x
 ·exact h.y
theorem dK{ts:LL}{e f:Nat}{x y:Et ts}(h1:Bz e x)(h2:Bz f y):Nm ts.length (e+f+1) (sX (x-y)):=Bz.sub h1 h2
section
variable{ts:LL}{r e f:Nat}(tw:Tw ts r){x y x2 y2:Et ts}
include tw
theorem qU(h1:Nm ts.length e (sX x))(h2:Nm ts.length e (sX y))(h3:Nm ts.length e (sX x2))(h4:Nm ts.length e (sX y2))(he:2*e<=lm ts.length) :
  FP 98 [aB ts,aw (sX x) (sX y),aw (sX x2) (sX y2)] (.tup [aw (sX (x-x2)) (sX (y-y2)),.v .nilIface]):=by
 have h:=Mh tw h1 h2 h3 h4 he;have ew:∀z:Et ts,ae ts.length (sX z)=z:=fun z=>bK _ _
 rw[ew,ew,ew,ew]at h;exact h
theorem Un(h1:Nm ts.length e (sX x))(h2:Nm ts.length e (sX y))(h3:Nm ts.length e (sX x2))(h4:Nm ts.length e (sX y2))(he:2*(e+e+kB r ts.length)<=lm ts.length) :
  FP 99 [aB ts,aw (sX x) (sX y),aw (sX x2) (sX y2)] (.tup [nA (sX (crsE x y x2 y2)),.v .nilIface]):=by
 have h:=HJ tw h1 h2 h3 h4 he;have ew:∀z:Et ts,ae ts.length (sX z)=z:=fun z=>bK _ _
 rw[ew,ew,ew,ew]at h;exact h
theorem BP(h1:Nm ts.length e (sX x))(h2:Nm ts.length e (sX y))(h3:Nm ts.length e (sX x2))(h4:Nm ts.length e (sX y2))(he:2*(e+e+kB r ts.length)<=lm ts.length) :
  FP 102 [aB ts,aw (sX x) (sX y),aw (sX x2) (sX y2)] (.tup [nA (sX (dotE x y x2 y2)),.v .nilIface]):=by
 have h:=DB tw h1 h2 h3 h4 he;have ew:∀z:Et ts,ae ts.length (sX z)=z:=fun z=>bK _ _
 rw[ew,ew,ew,ew]at h;exact h
theorem Ur(h1:Bz e x)(h2:Bz e y)(h3:Bz f x2)(h4:Bz f y2):Nm ts.length (2*(e+f+kB r ts.length)+1) (sX (crsE x y x2 y2)) :=
 ((h1.mul tw (afq _) h4).sub (h2.mul tw (afq _) h3)).mono (by show e+f+kB r ts.length+(e+f+kB r ts.length)+1<=_;omega)
theorem Kj(h1:Bz e x)(h2:Bz e y)(h3:Bz f x2)(h4:Bz f y2):Nm ts.length (2*(e+f+kB r ts.length)+1) (sX (dotE x y x2 y2)) :=
 ((h1.mul tw (afq _) h3).add (h2.mul tw (afq _) h4)).mono (by show e+f+kB r ts.length+(e+f+kB r ts.length)+1<=_;omega)
end
def kQ(l:Li)(a:As)(g:Gr):List Rat:=if g.kind=0 then sh 0 ((1:Int):Rat)else sX (eU l a g)
section
variable{E:Nat}{l:Li}{a:As}(D:DyW l a)(h3:(llq a.rs).length<=2)
include D h3
theorem j6{body pt:Int}(h1:aT body l.bo.length=true)(h2:aT pt (bW l body).length=true)(hb:Pd E a body) :
  Nm (llq a.rs).length (3*E+2400002022) (sX (bb l a body pt).1)/\Nm (llq a.rs).length (3*E+2400002022) (sX (bb l a body pt).2):=by
 obtain⟨n,k,bd,m,b,hp⟩:=uq D.hl D.li D.al D.hc h1 h2 hb;obtain⟨tw,_⟩:=bZ D.al.tr D.hc;have kb:=rO h3;have c1:Qb 1000 m.x.q:=by rw[hp.mp.ex,bq];exact hp.mp.sm.x
 have c2:Qb 1000 m.y.q:=by rw[hp.mp.ey,bq];exact hp.mp.sm.y
 have h:=AX tw hp.ok c1 c2;unfold bb;rw[hp.eq];exact⟨h.1.mono oz,h.2.mono oz⟩
theorem nH{i:Nat}{j:Jt}(hj:l.jo[i]?=some j){b:Int}(h:PinP E l a j b) :
  Nm (llq a.rs).length (3*E+2400002022) (sX (aN l a j b).1)/\Nm (llq a.rs).length (3*E+2400002022) (sX (aN l a j b).2):=by
 obtain⟨i1,i2,i3,i4,_⟩:=bS D.li hj;unfold aN;rcases h.tie with⟨e,hb⟩ |⟨e,e2,hb⟩
 ·rw[agz e];exact j6 D h3 i2 i4 hb
 ·rw[agy e];exact j6 D h3 i1 i3 hb
theorem yZ{b:Int}(hb:Pd E a b){q:Rat×Rat}(hq:Sm 1000 q):Nm (llq a.rs).length (3*E+2400002022) (sX (bD a b q).1)/\Nm (llq a.rs).length (3*E+2400002022) (sX (bD a b q).2):=by
 obtain⟨p,hp,hn,hbn⟩:=hb;obtain⟨tw,_⟩:=bZ D.al.tr D.hc;have h5:a.rs.length<=5:=by have:=tw.five;rwa [jR]at this
 have h9:=(mM hn hbn h5).2;rw[<- jR a.rs]at h9;have kb:=rO h3;have h:=DX tw h9 hq;unfold bD;rw[ax hp];exact⟨h.1.mono oz,h.2.mono oz⟩
theorem FN(hE:E<=3200000000){b:Int}{p:Pl}(hp:a.bs[b.toNat]?=some p)(hn:aQ a.rs p.l=0)(hbn:∀x∈p.l,NR x E){q:Rat×Rat}(hq:Sm 1000 q) :
  FP 139 [.agg [.lst 1 (a.rs.map nR)],p.av,qA q.1,qA q.2] (.tup [aw (sX (bD a b q).1) (sX (bD a b q).2),.v .nilIface]):=by
 obtain⟨tw,hta⟩:=bZ D.al.tr D.hc;have h5:a.rs.length<=5:=by have:=tw.five;rwa [jR]at this
 obtain⟨e1,ok⟩:=mM hn hbn h5;rw[<- jR a.rs]at ok;have kb:=rO h3;have hlm:=DH h3;have h:=xa tw (ok.c.mono (f:=E+1000) oz) (ok.s.mono oz) (ok.x.mono oz) (ok.y.mono oz) (hq.x.mono (f:=E+1000) oz) (hq.y.mono (f:=E+1000) oz) oz;rw[e1,<- wj D.al.tr D.hc];unfold bD;rw[ax hp];exact h
end
theorem QE{E:Nat}{l:Li}{a:As}(D:DyW l a)(h3:(llq a.rs).length<=2){k:Int}{n:Nat}{g:Gr}(ok:DyOk E l k a true n g):Nm (llq a.rs).length (24*E+21600016203) (kQ l a g):=by
 obtain⟨tw,hta⟩:=bZ D.al.tr D.hc;have kb:=rO h3;unfold kQ
 by_cases h0:g.kind=0
 ·rw[agz h0];exact(Nm.ofQ tw.five (Cb.int (z:=1) (e:=1) (by decide))).mono oz
 ·rw[agy h0]
  by_cases h1:g.kind=1
  ·obtain⟨i,k2,z0,z1,z2,j0,j1,j2,P⟩:=ok.rrr h1;obtain⟨y1,y2⟩:=nH D h3 P.h0 P.p0;obtain⟨y3,y4⟩:=nH D h3 P.h1 P.p1;obtain⟨y5,y6⟩:=yZ D h3 (ok.own (b:=i) (by rw[P.eq];simp)) (k8 D.hl D.li P.h2 P.t1);obtain⟨e0,e1,e2,b0,b1,_⟩:=P.at;unfold eU;rw[agy h0,agz h1,e0,e1,e2,b0,b1];exact(Ur tw (dK y3 y1) (dK y4 y2) (dK y5 y1) (dK y6 y2)).mono oz
  ·by_cases h2:g.kind=2
   ·obtain⟨i,z0,z1,j0,j,P,ha,hb⟩:=ok.pr h2;obtain⟨i1,i2,i3,i4,i5⟩:=bS D.li P.h1;have q2:Sm 1000 (aJ l i j.point):=by rw[<- ha]; exact iT D.hl D.li i1 i3
    obtain⟨y1,y2⟩:=nH D h3 P.h0 P.p0;obtain⟨y3,y4⟩:=j6 D h3 i2 (i5 P.hk) hb;obtain⟨y7,y8⟩:=j6 D h3 i2 i4 hb;obtain⟨y5,y6⟩:=yZ D h3 (ok.own (b:=i) (by rw[P.eq];simp)) q2;obtain⟨e0,e1,b0,_⟩:=P.at;unfold eU;rw[agy h0,agy h1,agz h2,e0,e1,b0];exact(Kj tw (dK y3 y7) (dK y4 y8) (dK y5 y1) (dK y6 y2)).mono oz
   ·obtain⟨i,z0,z1,j0,j,P,_,hj,hb⟩:=ok.rp h0 h1 h2;obtain⟨i1,i2,i3,i4,i5⟩:=bS D.li P.h1;have hpi:Pd E a j.b:=by rw[hj]; exact ok.own (b:=i) (by rw[P.eq]; simp)
    obtain⟨y1,y2⟩:=nH D h3 P.h0 P.p0;obtain⟨y3,y4⟩:=j6 D h3 i1 i3 hb;obtain⟨y5,y6⟩:=j6 D h3 i2 i4 hpi;obtain⟨y7,y8⟩:=j6 D h3 i2 (i5 P.hk) hpi;obtain⟨e0,e1,b0,_⟩:=P.at;unfold eU;rw[agy h0,agy h1,agy h2,e0,e1,b0];exact(Kj tw (dK y7 y5) (dK y8 y6) (dK y3 y1) (dK y4 y2)).mono oz
theorem OB{E:Nat}(hE:E<=3200000000){l:Li}{k:Int}{a:As}{n:Nat}{g:Gr}(hop:Con prog 90 [l.av,i64 k,a.av,bl true] [] (.tup [.ptr 900 0,.v .nilIface]) [pP 900 (fF l g a)])(D:DyW l a)(h3:(llq a.rs).length<=2)(ok:DyOk E l k a true n g) :
  FP 86 [l.av,i64 k,a.av] (.tup [nA (kQ l a g),.v .nilIface]):=by
 obtain⟨tw,hta⟩:=bZ D.al.tr D.hc;have kb:=rO h3;have hlm:=DH h3;have hgo:=ok.ok;have hbl:=D.al.bl;refine ai func86 ?_;refine gt (aF hop (.cons (.tmp rfl) (.cons (.tmp rfl) (.cons (.tmp rfl) (.cons (.const _) .nil)))) aG rfl rfl) ?_ (2,0);refine gW (Wk.o (sl:=[pP 5 (.ptr 5 0),pP 8 (.ptr 900 0),pP 9 (.v .nilIface)]) (hp:=[pP 5 (.box a.av.cells),pP 900 (fF l g a)])) ?_;refine gf ?_ (5,0);refine gW (Wk.o (sl:=[pP 5 (.ptr 5 0),pP 8 (.ptr 900 0),pP 10 (.ptr 35 0)]) (hp:=[pP 5 (.box a.av.cells),pP 900 (fF l g a),pP 35 (qk a.rs)])) ?_ (10,0);refine tb [8,10] [900,35] [pP 11 (nA (sX (eU l a g)))] [] (g.kind≠0) ?_ ?_ 2
 ·intro K1 J1;refine gC (fun y=>?_) (fun y=>?_)
  ·have hk:g.kind=0:=cB y;have hd:kQ l a g=sh 0 ((1:Int):Rat):=agz hk;rw[hd];refine gc (YM) ?_;refine gR ?_;exact n7 rfl
  have hk0:g.kind≠0:=cU y;refine gC (fun y=>?_) (fun y=>?_)
  ·have hk:g.kind=1:=cB y;obtain⟨i,k2,z0,z1,z2,j0,j1,j2,P⟩:=ok.rrr hk;obtain⟨e0,e1,e2,b0,b1,_⟩:=P.at;have hE9:eU l a g=a6 (ah (aN l a j1 k2) (aN l a j0 i)) (ah (bD a i (aO l j2 i)) (aN l a j0 i)):=by unfold eU; rw[agy hk0,agz hk,e0,e1,e2,b0,b1]
   obtain rfl:=P.eq;have hi0:=(hgo.b i (by simp)).1;obtain⟨p,hp,hn,hbn⟩:=ok.own (b:=i) (by simp);have hil:=(adw.1 hp).1;have hq:=k8 D.hl D.li P.h2 P.t1;obtain⟨y1,y2⟩:=nH D h3 P.h0 P.p0;obtain⟨y3,y4⟩:=nH D h3 P.h1 P.p1;obtain⟨y5,y6⟩:=yZ D h3 (ok.own (b:=i) (by simp)) hq;have s1:=qU tw y3 y4 y1 y2 oz;have s2:=qU tw y5 y6 y1 y2 oz;have s3:=Un tw (dK y3 y1) (dK y4 y2) (dK y5 y1) (dK y6 y2) oz;rw[wj D.al.tr D.hc]at s1 s2 s3;refine gt (aF (Con.rekeyB 900 rfl rfl rfl rfl (Vp D.hl D.li D.al D.hc h3 hgo P.h0 P.h1 P.h2 P.p0 P.p1 P.t1 P.t2)) (fo rfl) aG rfl rfl) ?_;refine gi (rfl) ?_;refine gi (bY (n:=i.toNat) oz hp) ?_;refine gc (FN D h3 hE (b:=i) hp hn hbn hq) ?_;refine gt (iL (Con.rekeyB 35 rfl rfl rfl rfl (oq _ _ _)) (aI rfl rfl rfl) rfl rfl rfl) ?_;refine gD ?_;refine gc s1 ?_;refine gt (iL (Con.rekeyB 35 rfl rfl rfl rfl (oq _ _ _)) (aI rfl rfl rfl) rfl rfl rfl) ?_;refine gc s2 ?_;refine gt (iL (Con.rekeyB 35 rfl rfl rfl rfl (oq _ _ _)) (aI rfl rfl rfl) rfl rfl rfl) ?_;refine gc s3 ?_;refine gt (iL (Con.rekeyB 35 rfl rfl rfl rfl (yH _ _)) (aI rfl rfl rfl) rfl rfl rfl) ?_;refine gD ?_;exact jx J1 hk0 (hw:=Wk.of (.cons rfl (Sub.of (ag6 (fun z=>nA (sX z)) hE9.symm)) (.k (.k .nil))) (.k (.k .nil)))
  have hk1:g.kind≠1:=cU y;refine gC (fun y=>?_) (fun y=>?_)
  ·have hk:g.kind=2:=cB y;obtain⟨i,z0,z1,j0,j,P,ha,hb⟩:=ok.pr hk;obtain⟨e0,e1,b0,_⟩:=P.at;have hE9:eU l a g=aX (ah (bb l a j.b j.to) (bb l a j.b j.on)) (ah (bD a i (aJ l i j.point)) (aN l a j0 i)):=by unfold eU; rw[agy hk0,agy hk1,agz hk,e0,e1,b0]
   obtain rfl:=P.eq;obtain⟨i1,i2,i3,i4,i5⟩:=bS D.li P.h1;have hi0:=(hgo.b i (by simp)).1;obtain⟨p,hp,hn,hbn⟩:=ok.own (b:=i) (by simp);have hil:=(adw.1 hp).1;have hq:Sm 1000 (aJ l i j.point):=by rw[<- ha];exact iT D.hl D.li i1 i3
   obtain⟨y1,y2⟩:=nH D h3 P.h0 P.p0;obtain⟨y3,y4⟩:=j6 D h3 i2 (i5 P.hk) hb;obtain⟨y7,y8⟩:=j6 D h3 i2 i4 hb;obtain⟨y5,y6⟩:=yZ D h3 (ok.own (b:=i) (by simp)) hq;have s1:=qU tw y3 y4 y7 y8 oz;have s2:=qU tw y5 y6 y1 y2 oz;have s3:=BP tw (dK y3 y7) (dK y4 y8) (dK y5 y1) (dK y6 y2) oz;rw[wj D.al.tr D.hc]at s1 s2 s3;refine gt (aF (Con.rekeyB 900 rfl rfl rfl rfl (VD D.hl D.li D.al D.hc h3 hgo P.h0 P.h1 P.p0 ha P.hk hb)) (fo rfl) aG rfl rfl) ?_;refine gi (rfl) ?_;refine gi (bY (n:=i.toNat) oz hp) ?_;refine gc (FN D h3 hE (b:=i) hp hn hbn hq) ?_;refine gt (iL (Con.rekeyB 35 rfl rfl rfl rfl (oq _ _ _)) (aI rfl rfl rfl) rfl rfl rfl) ?_;refine gD ?_;refine gc s1 ?_;refine gt (iL (Con.rekeyB 35 rfl rfl rfl rfl (oq _ _ _)) (aI rfl rfl rfl) rfl rfl rfl) ?_;refine gc s2 ?_;refine gt (iL (Con.rekeyB 35 rfl rfl rfl rfl (oq _ _ _)) (aI rfl rfl rfl) rfl rfl rfl) ?_;refine gc s3 ?_;refine gt (iL (Con.rekeyB 35 rfl rfl rfl rfl (yH _ _)) (aI rfl rfl rfl) rfl rfl rfl) ?_;refine gD ?_;exact jx J1 hk0 (hw:=Wk.of (.cons rfl (Sub.of (ag6 (fun z=>nA (sX z)) hE9.symm)) (.k (.k .nil))) (.k (.k .nil)))
  have hk2:g.kind≠2:=cU y;obtain⟨i,z0,z1,j0,j,P,ha,hj,hb⟩:=ok.rp hk0 hk1 hk2;obtain⟨e0,e1,b0,_⟩:=P.at;have hE9:eU l a g=aX (ah (bb l a j.b j.to) (bb l a j.b j.on)) (it l a i j0 j):=by unfold eU;rw[agy hk0,agy hk1,agy hk2,e0,e1,b0]
  obtain rfl:=P.eq;obtain⟨i1,i2,i3,i4,i5⟩:=bS D.li P.h1;have hpi:Pd E a j.b:=by rw[hj];exact ok.own (b:=i) (by simp)
  obtain⟨y1,y2⟩:=nH D h3 P.h0 P.p0;obtain⟨y5,y6⟩:=j6 D h3 i1 i3 hb;obtain⟨y3,y4⟩:=j6 D h3 i2 (i5 P.hk) hpi;obtain⟨y7,y8⟩:=j6 D h3 i2 i4 hpi;have s0:=qU tw y5 y6 y1 y2 oz;have sd:=BP tw (dK y5 y1) (dK y6 y2) (dK y5 y1) (dK y6 y2) oz;have s1:=qU tw y3 y4 y7 y8 oz;have s3:=BP tw (dK y3 y7) (dK y4 y8) (dK y5 y1) (dK y6 y2) oz;rw[wj D.al.tr D.hc]at s0 sd s1 s3;refine gt (iL (Con.rekeyB 900 rfl rfl rfl rfl (Dj D.hl _ hgo a rfl P.h1)) (fo rfl) rfl rfl rfl) ?_;refine gt (aF (Con.rekeyBB 900 35 (by decide) (by decide) rfl rfl rfl rfl rfl rfl (aa8 (E:=E) oz D h3 hgo P.h0 P.h1 P.p0 hj P.hk hb s0 sd)) (ce rfl rfl) aG rfl rfl) ?_;refine gt (aF (Con.rekeyB 900 rfl rfl rfl rfl (pp (E:=E) D.hl D.li _ D.al D.hc i2 (i5 P.hk) oz h3 hpi)) (aI rfl rfl rfl) aG rfl rfl) ?_;refine gt (aF (Con.rekeyB 900 rfl rfl rfl rfl (pp (E:=E) D.hl D.li _ D.al D.hc i2 i4 oz h3 hpi)) (aI rfl rfl rfl) aG rfl rfl) ?_;refine gc s1 ?_;refine gt (iL (Con.rekeyB 35 rfl rfl rfl rfl (oq _ _ _)) (aI rfl rfl rfl) rfl rfl rfl) ?_;refine gD ?_;refine gc s3 ?_;refine gt (iL (Con.rekeyB 35 rfl rfl rfl rfl (yH _ _)) (aI rfl rfl rfl) rfl rfl rfl) ?_;refine gD ?_;exact jx J1 hk0 (hw:=Wk.of (.cons rfl (Sub.of (ag6 (fun z=>nA (sX z)) hE9.symm)) (.k (.k .nil))) (.k (.k .nil)))
 rintro hk9;rw[show kQ l a g=sX (eU l a g)from agy hk9];refine gC (fun y=>?_) (fun y=>?_) (st2:=(77777,0))
 ·refine gf ?_;refine gR ?_;exact n7 rfl
 cases y
def j9(l:Li)(a:Aq)(g:Gr):List Rat:=if g.kind=0 then sh 0 ((1:Int):Rat)else sX (de l a.ts a.bs g)
theorem Jm(l:Li)(a:Aq)(g:Gr):kQ l a.as g=j9 l a g:=by
 unfold kQ j9;split
 ·rfl
 ·rw[M4]
  have:∀(T:LL)(bs:List Pq),T=a.ts->bs=a.bs->(sX (de l T bs g):List Rat)=sX (de l a.ts a.bs g):=by
   rintro _ _ rfl rfl;rfl
  exact this _ _ a.llq (PR a)
theorem Nd{l:Li}{a:Aq}{g:Gr}:T.sgn (am a.ts) a.ts.length (ae a.ts.length (j9 l a g))=aC (de l a.ts a.bs g):=by
 unfold j9;split
 ·rename_i h;rw[oi];have e:de l a.ts a.bs g=qE 1:=by unfold de; rw[agz h]
  rw[e];rfl
 ·have e:ae a.ts.length (sX (de l a.ts a.bs g))=de l a.ts a.bs g:=bK _ _;rw[e];rfl
structure AqE(E:Nat)(l:Li)(a:Aq):Prop where
  s:AqS l a
  be:∀p∈a.bs,Pq.ok a.ts.length E p
  le:E<=3200000000
theorem AqS.e{l:Li}{a:Aq}(F:AqS l a):AqE 3200000000 l a:=⟨F,F.bs,afq _⟩
section
variable{E:Nat}{l:Li}(hl:l.ok){a:Aq}(F:AqE E l a)(hs:splitE l=0){k:Nat}{g:Gr}(hg:(splitG l)[k]?=some g)
include hl F hs hg
theorem Fa(own:Bool):DyW l a.as/\DyOk E l k a.as own k g/\(Lw.llq a.as.rs).length<=2/\gM l k a.as own=0:=by
 obtain⟨r,hr,tw⟩:=F.s.tw;have hE:=F.le;have Q:QInv l 2 r E a:=⟨tw,F.s.two,F.be,F.s.ln⟩
 have D:DyW l a.as:=⟨hl,F.s.li,Q.ab F.s.li oz hr,Q.chk⟩
 have h0:=Q.dy0 F.s.li hs hg own;obtain⟨i,g',h⟩:=CA (Q.sma oz (afq _) k own) h0;have e:i=k:=by have:=h.hk;omega
 subst e;have h2:=h.hg;rw[hg]at h2;cases h2;exact⟨D,h,by rw[a.llq];exact F.s.two,h0⟩
theorem ZM:Nm a.ts.length (24*E+21600016203) (j9 l a g):=by
 obtain⟨D,ok,h3,_⟩:=Fa hl F hs hg true;have h:=QE D h3 ok;rw[Jm,a.llq]at h;exact h
theorem Yv:FP 86 [l.av,i64 k,a.av] (.tup [nA (j9 l a g),.v .nilIface]):=by
 obtain⟨D,ok,h3,h0⟩:=Fa hl F hs hg true;have hop:=QY l hl k a.as D.al true;have hgA:mr l (k:Nat)=g:=ax hg;rw[h0,hgA]at hop;have h:=OB F.le hop D h3 ok;rw[Aq.as_av,Jm]at h;exact h
end
section
variable{l:Li}(hl:l.ok){a:Aq}(F:AqS l a)(hs:splitE l=0){k:Nat}{g:Gr}(hg:(splitG l)[k]?=some g)
include hl F hs hg
theorem Gx:Nm a.ts.length 99300000000 (j9 l a g):=(ZM hl F.e hs hg).mono oz
theorem TP:FP 86 [l.av,i64 k,a.av] (.tup [nA (j9 l a g),.v .nilIface]):=Yv hl F.e hs hg
theorem SP:FP 87 [aB a.ts,nA (j9 l a g)] (.tup [i64 (aC (de l a.ts a.bs g)),.v .nilIface]):=by
 obtain⟨r,hr,tw⟩:=F.tw;have hlm:=DH F.two;have h:=wF tw (Gx hl F hs hg) oz;rw[Nd]at h;exact h
end
section
variable{l:Li}{xs:List Tn}{s g:Nat}(W:WkC l xs s g)
include W
end
section
variable{l:Li}{xs:List Tn}{s g:Nat}(W:WkC l xs s g)
include W
end
theorem Xu{l:Li}(hl:l.ok)(h1:ao l=0)(h2:splitE l=0):FP 113 [l.av] (.tup [.lst 4 ((splitG l).map Gr.av),cf 0]):=by
 have h:=yn l hl;rw[agz h1,agz h1,h2]at h;exact h
abbrev A8(l:Li)(xs:List Tn)(a:Aq)(fw:Nat×Nat):Prop:=FP 24 [l.av,.lst 4 (xs.map Tn.av),a.av] (.tup [bl true,vd fw,cf 0])
theorem Zh{l:Li}(hl:l.ok){xs:List Tn}{a:Aq}(F:AqS l a)(hs:splitE l=0){fw:Nat×Nat}(hv:A8 l xs a fw) :
  FP 105 [l.av,.lst 4 (xs.map Tn.av),a.av] (.tup [.lst 4 ((splitG l).map Gr.av),.v .nilIface]):=by
 have z0:e8 (iA 0)=true:=rfl;refine ai func105 ?_;refine gc (Xu hl F.li hs) ?_;refine gf ?_;refine gc hv ?_;refine gf ?_;refine gf ?_;refine bg ?_;rfl
def iI(l:Li)(a:Aq)(g:Gr):AV:=nA (j9 l a g)
theorem XS{l:Li}(hl:l.ok){a:Aq}(F:AqS l a)(hs:splitE l=0) :
  FP 194 [l.av,i64 (splitG l).length,a.av] (.tup [.lst 1 ((splitG l).map (iI l a)),.v .nilIface]):=by
 have hgl:=nD F.li;refine ai func194 ?_;refine gW (Wk.virt 900 1 rfl) ?_;refine aL [3,5,12] [3,5] (fun(i:Nat)=>[pP 8 (.ms 900 1 0 i),pP 13 (i64 i)]) (fun i=>[pP 900 (.row 1 (((splitG l).take i).map (iI l a)))]) (fun i=>i<=(splitG l).length) (fun i=>(splitG l).length-i) 0 (afz _) ?_;rintro i hi K1 J1;refine gC (fun z=>?_) (fun z=>?_) (st2:=(10,0))
 ·have hin:i<(splitG l).length:=aY z;obtain⟨g,hg⟩:=ay hin;refine gc (TP hl F hs hg) ?_;refine gf ?_;refine gs (eg (.tmp rfl) rfl (yP oz).symm (.tmp rfl) T42 rfl T53 rfl rfl (by simp only[af9,agj];omega) rfl rfl) ?_ (9,0);refine gW (Wk.of (sl:=[pP 3 (.ptr 3 0),pP 5 (.ptr 5 0),pP 8 (.ms 29 1 0 (i+1)),pP 12 (i64 (splitG l).length),pP 13 (i64 i)]) (hp:=[pP 3 (.box l.av.cells),pP 5 (.box a.cs),pP 29 (.row 1 (((splitG l).take (i+1)).map (iI l a)))]) bj (.k (.k (.cons rfl (BlkSub.of (by rw[eH hg,agc];rfl)) .nil)))) ?_ (9,0);refine gW (Wk.rk (k:=29) (d:=900) rfl rfl) ?_;refine ga aK ?_;exact aH J1 (i+1) hin
 have hin:=a7 hi z;subst hin;refine gW ((Wk.freeze (k:=900) rfl).trans<|Wk.of (sl:=[pP 8 (.lst 1 ((splitG l).map (iI l a)))]) (hp:=[]) (.cons rfl (Sub.of (by rw[cz (yP (afq _)).symm,af1])) .nil) .nil) ?_;refine bg ?_
 first |rfl |(simp;done)
theorem Yg{l:Li}(hl:l.ok){xs:List Tn}{a:Aq}(F:AqS l a)(hs:splitE l=0){fw:Nat×Nat}(hv:A8 l xs a fw) :
  FP 89 [l.av,.lst 4 (xs.map Tn.av),a.av] (.tup [.lst 1 ((splitG l).map (iI l a)),.v .nilIface]):=by
 have hgl:=nD F.li;refine ai func89 ?_;refine gc (Zh hl F hs hv) ?_;refine gf ?_;refine gl ?_;refine gc (XS hl F hs) ?_;refine bg ?_
 first |rfl |(simp;done)
def cM(l:Li)(a:Aq)(n:Nat):List Int:=((List.range n).filter fun k=>decide (aC (de l a.ts a.bs ((splitG l).getD k default))=0)).map Int.ofNat
theorem yA{l:Li}{a:Aq}{n:Nat}{g:Gr}(hg:(splitG l)[n]?=some g)(h:aC (de l a.ts a.bs g)=0):cM l a (n+1)=cM l a n++[(n:Int)]:=by
 unfold cM;rw[ac7,adj,agc]
 congr 1;rw[ade,agz (ag3 (by rw[ax hg];exact h))];rfl
theorem zx{l:Li}{a:Aq}{n:Nat}{g:Gr}(hg:(splitG l)[n]?=some g)(h:aC (de l a.ts a.bs g)≠0):cM l a (n+1)=cM l a n:=by
 unfold cM;rw[ac7,adj,agc]
 have e:List.filter (fun k=>decide (aC (de l a.ts a.bs ((splitG l).getD k default))=0)) [n]=[]:=by rw[ade,agy (by rw[ag4 (by rw[ax hg];exact h)];decide)];rfl
 rw[e];exact adt _
theorem xL(l:Li)(a:Aq)(n:Nat):(cM l a n).length<=n:=by
 unfold cM;rw[afm];exact af2 (List.length_filter_le _ _) (by simp)
theorem Xx{l:Li}(hl:l.ok){xs:List Tn}{a:Aq}(F:AqS l a)(hs:splitE l=0){fw:Nat×Nat}(hv:A8 l xs a fw) :
  FP 29 [l.av,.lst 4 (xs.map Tn.av),a.av] (.tup [.lst 1 ((cM l a (splitG l).length).map i64),.v .nilIface]):=by
 have hgl:=nD F.li;refine ai func29 ?_;refine gc (Yg hl F hs hv) ?_;refine gf ?_;refine gl ?_;refine gW (Wk.virt 900 1 rfl) ?_;refine aL [5,25,26] [5] (fun(i:Nat)=>[pP 10 (.ms 900 1 0 (cM l a i).length),pP 27 (i64 i)]) (fun i=>[pP 900 (.row 1 ((cM l a i).map i64))]) (fun i=>i<=(splitG l).length) (fun i=>(splitG l).length-i) 0 (afz _) ?_;rintro i hi K1 J1;refine gC (fun z=>?_) (fun z=>?_) (st2:=(14,0))
 ·have hin:i<(splitG l).length:=aY z;obtain⟨g,hg⟩:=ay hin;have hsl:=xL l a i;have hsn:=SP hl F hs hg;refine gi (aq hg) ?_;refine gc hsn ?_;refine gf ?_;refine gC (fun z=>?_) (fun z=>?_) (st2:=(77777,0))
  ·have hz:aC (de l a.ts a.bs g)=0:=ag1 z;refine gs (eg (.tmp rfl) rfl (by simp) (.tmp rfl) T46 rfl T3 rfl rfl (by simp only [af9,agj]; omega) rfl rfl) ?_ (13,0);refine gW (Wk.of (sl:=[pP 5 (.ptr 5 0),pP 10 (.ms 47 1 0 (cM l a (i+1)).length),pP 25 (.lst 1 ((splitG l).map (iI l a))),pP 26 (i64 (splitG l).length),pP 27 (i64 i)]) (hp:=[pP 5 (.box a.cs),pP 47 (.row 1 ((cM l a (i+1)).map i64))]) (.k (.cons rfl (Sub.of (by rw[yA hg hz]; simp)) (.k (.k (.k .nil))))) (.k (.cons rfl (BlkSub.of (by rw[yA hg hz]; simp)) .nil))) ?_ (13,0)
   refine gW (Wk.rk (k:=47) (d:=900) rfl rfl) ?_;refine ga aK ?_;exact aH J1 (i+1) hin
  have hz:aC (de l a.ts a.bs g)≠0:=ag2 z;refine gW (Wk.of (sl:=[pP 5 (.ptr 5 0),pP 10 (.ms 900 1 0 (cM l a (i+1)).length),pP 25 (.lst 1 ((splitG l).map (iI l a))),pP 26 (i64 (splitG l).length),pP 27 (i64 i)]) (hp:=[pP 5 (.box a.cs),pP 900 (.row 1 ((cM l a (i+1)).map i64))]) (.k (.cons rfl (Sub.of (by rw[zx hg hz])) (.k (.k (.k .nil))))) (.k (.cons rfl (BlkSub.of (by rw[zx hg hz])) .nil))) ?_;refine ga aK ?_;exact aH J1 (i+1) hin
 have hin:=a7 hi z;subst hin;refine gW ((Wk.freeze (k:=900) rfl).trans<|Wk.of (sl:=[pP 10 (.lst 1 ((cM l a (splitG l).length).map i64))]) (hp:=[]) (.cons rfl (Sub.of (by rw[cz (by simp)])) .nil) .nil) ?_;refine bg ?_
 first |rfl |(simp;done)
theorem yp{ts:LL}(h5:ts.length<=5)(g:Gr)(drv:Int):Bz 2 (wD g drv:Et ts):=by
 unfold wD;split
 ·exact Bz.q h5 (Cb.mono (Cb.int (z:=1) (e:=1) (by decide)) oz)
 ·show Nm _ _ (sX (0:Et ts));rw[uX];exact DK _ _ h5
theorem lX{ts:LL}{V:List (Vt ts)}{R R':Nat}(hR:∀v∈V,Bv R v)(hRR:R<=R'){v:Vt ts}(hv:Bv R' v)(n:Nat):∀x∈V.set n v,Bv R' x:=by
 intro x hx;rcases ac4 hx with h |h
 ·exact(hR x h).mono hRR
 ·rw[h];exact hv
theorem VX{ts:LL}(v p q:P2 ts)(i:Et ts):-(a6 v (ah p q)*i)=a6 v (ah q p)*i:=by
 show -((v.1*(p.2-q.2)-v.2*(p.1-q.1))*i)=(v.1*(q.2-p.2)-v.2*(q.1-p.1))*i;grind
section
variable{E K:Nat}{l:Li}{a:Aq}(A:AqV E K l a){V:List (Vt a.ts)}(hV:V.length=l.bo.length){R:Nat}(hR:∀v∈V,Bv R v){I:Nat}(hI:∀r,eB r a.ts.length<=K->iB r a.ts.length (24*E+18*K+16085)<=I)
include A hV hR hI
theorem IU{P Q C u v:P2 a.ts}(bP:Bp (3*E+2*K+2010) P)(bQ:Bp (3*E+2*K+2010) Q)(bC:Bp (3*E+2*K+2010) C)(bu:Bp (2*R+3*E+3*K+2011) u)(bv:Bp (2*R+3*E+3*K+2011) v)(h0:aC (a6 (ah C P) (ah C Q))≠0)(h:30*R+30*E+30*K+I<=199999970000) :
  Bv (vR E K I R) (cW (aX (ah v u) (ah C Q)*iE (a6 (ah C P) (ah C Q))) P u)/\Bv (vR E K I R) (cW (aX (ah v u) (ah C P)*iE (a6 (ah C P) (ah C Q))) Q v):=by
 have _:=hV;have _:=hR;obtain⟨r,tw,hK⟩:=A.tw;have dA:=(bC.sb bP).mono (show 3*E+2*K+2010+(3*E+2*K+2010)+1<=6*E+4*K+4021 by omega);have dB:=(bC.sb bQ).mono (show 3*E+2*K+2010+(3*E+2*K+2010)+1<=6*E+4*K+4021 by omega);have dE:=(bv.sb bu).mono (show 2*R+3*E+3*K+2011+(2*R+3*E+3*K+2011)+1<=4*R+6*E+6*K+4023 by omega);have dD:=(dA.crs tw hK A.two dB).mono (show _<=24*E+18*K+16085 by omega);have f0:=pL (x:=aX (ah v u) (ah C Q)) tw hK A.two (dE.dot tw hK A.two dB) dD h0 (hI r hK) oz;have f1:=pL (x:=aX (ah v u) (ah C P)) tw hK A.two (dE.dot tw hK A.two dA) dD h0 (hI r hK) oz;exact⟨(ul tw hK f0.2 bP bu).mono (by unfold vR;omega),(ul tw hK f1.2 bQ bv).mono (by unfold vR;omega)⟩
theorem ya{v P C f u:P2 a.ts}(bv:Bp (6*E+4*K+4021) v)(bP:Bp (3*E+2*K+2010) P)(bC:Bp (3*E+2*K+2010) C)(bf:Bp (2*R+3*E+3*K+2011) f)(bu:Bp (2*R+3*E+3*K+2011) u)(h0:aC (aX v (ah C P))≠0)(h:30*R+30*E+30*K+I<=199999970000) :
  Bz (8*R+24*E+23*K+16089+I) (a6 v (ah f u)*iE (aX v (ah C P)))/\Bv (vR E K I R) (cW (a6 v (ah f u)*iE (aX v (ah C P))) P u):=by
 have _:=hV;have _:=hR;obtain⟨r,tw,hK⟩:=A.tw;have dC:=(bC.sb bP).mono (show 3*E+2*K+2010+(3*E+2*K+2010)+1<=6*E+4*K+4021 by omega);have dU:=(bf.sb bu).mono (show 2*R+3*E+3*K+2011+(2*R+3*E+3*K+2011)+1<=4*R+6*E+6*K+4023 by omega);have dD:=(bv.dot tw hK A.two dC).mono (show _<=24*E+18*K+16085 by omega);have f0:=pL (x:=a6 v (ah f u)) tw hK A.two (bv.crs tw hK A.two dU) dD h0 (hI r hK) oz;have b0:=f0.2.mono (show _<=8*R+24*E+23*K+16089+I by omega);exact⟨b0,(ul tw hK b0 bP bu).mono (by unfold vR;omega)⟩
end
def V0(l:Li)(ts:LL):List (Vt ts):=ad7 l.bo.length v0
def kl(l:Li)(a:Aq)(drv:Int)(gs:List Gr)(V:List (Vt a.ts)):List (Vt a.ts):=gs.foldl (fX l a drv) V
def qX(l:Li)(a:Aq)(drv:Int):List (Vt a.ts):=kl l a drv (splitG l) (V0 l a.ts)
def vB(E K I:Nat):Nat->Nat
  |0=>2
  |n+1=>vR E K I (vB E K I n)
theorem Mq{l:Li}{a:Aq}{drv:Int}{gs:List Gr}{V:List (Vt a.ts)}{i:Nat}{g:Gr}(h:gs[i]?=some g):kl l a drv (gs.take (i+1)) V=fX l a drv (kl l a drv (gs.take i) V) g:=by
 unfold kl;rw[eH h,List.foldl_append];rfl
theorem MM{ts:LL}(h5:ts.length<=5):Bv 2 (v0:Vt ts):=by
 have h:Bz 2 (0:Et ts):=by
  show Nm _ _ (sX (0:Et ts));rw[uX];exact DK _ _ h5
 exact⟨h,h,h⟩
def Dt(l:Li)(a:Aq)(g:Gr):Prop:=(g.kind=1->aC (ka l a g)≠0)/\(g.kind≠0->g.kind≠1->aC (gK l a g)≠0)
theorem MS{l:Li}{a:Aq}(hp:fC a.ts)(hJ:∀j∈l.jo,JH l a.ts a.bs j){g:Gr}(D:DyK l g)(hd:g.kind≠0->aC (de l a.ts a.bs g)≠0):Dt l a g:=by
 cases D with
 | @drv b z d j x t d0 hx hb=>exact⟨fun h=>ag5 h (by show ¬(0:Int)=1;decide),fun h=>ag5 rfl h⟩
 | @rrr i k z0 z1 z2 a0 a1 a2 ne t0 t1 p2 h2 kd tie =>
  have e0:an l ⟨1,[i,k],[z0,z1,z2],0⟩ 0=a0:=ax t0.hj;have e1:an l ⟨1,[i,k],[z0,z1,z2],0⟩ 1=a1:=ax t1.hj;have e2:an l ⟨1,[i,k],[z0,z1,z2],0⟩ 2=a2:=ax h2;obtain⟨q1,q2⟩:=EL hp hJ (g:=⟨1,[i,k],[z0,z1,z2],0⟩) rfl (n0:=z0.toNat) (n1:=z1.toNat) (n2:=z2.toNat) (by rw[e0];exact t0.hj) (by rw[e0];exact t0.kd) (by rw[e1];exact t1.hj) (by rw[e1];exact t1.kd) (by rw[e2];exact h2) (by rw[e2];exact kd) (by rw[e2];rcases tie with h |h;exact .inl h.1;exact .inr h.1);exact⟨fun _=>by rw[mS hp q2];exact hd (by show(1:Int)≠0;decide),fun _ h=>ag5 rfl h⟩
 | @pr i z0 z1 a0 a1 t0 t1 ha =>
  have e0:an l ⟨2,[i],[z0,z1],0⟩ 0=a0:=ax t0.hj;have e1:an l ⟨2,[i],[z0,z1],0⟩ 1=a1:=ax t1.hj;obtain⟨q0,q1,q2⟩:=vm hp hJ (g:=⟨2,[i],[z0,z1],0⟩) (n0:=z0.toNat) (n1:=0) (by show(2:Int)≠0;decide) (by show(2:Int)≠1;decide) (by rw[e0];exact t0.hj) (by rw[e0];exact t0.kd) (fun _=>by rw[e1];exact ha);exact⟨fun h=>ag5 h (by show ¬(2:Int)=1;decide),fun _ _=>by rw[mS hp q2];exact hd (by show(2:Int)≠0;decide)⟩
 | @rp i z0 z1 a0 a1 t0 t1 ha =>
  have e0:an l ⟨3,[i],[z0,z1],0⟩ 0=a0:=ax t0.hj;obtain⟨q0,q1,q2⟩:=vm hp hJ (g:=⟨3,[i],[z0,z1],0⟩) (n0:=z0.toNat) (n1:=0) (by show(3:Int)≠0;decide) (by show(3:Int)≠1;decide) (by rw[e0];exact t0.hj) (by rw[e0];exact t0.kd) (fun h=>ag5 h (by show ¬(3:Int)=2;decide));exact⟨fun h=>ag5 h (by show ¬(3:Int)=1;decide),fun _ _=>by rw[mS hp q2];exact hd (by show(3:Int)≠0;decide)⟩
section
variable{E K:Nat}{l:Li}{a:Aq}(A:AqV E K l a){V:List (Vt a.ts)}(hV:V.length=l.bo.length){R:Nat}(hR:∀v∈V,Bv R v){I:Nat}(hI:∀r,eB r a.ts.length<=K->iB r a.ts.length (24*E+18*K+16085)<=I)
include A hV hR hI
theorem ZT{g:Gr}(D:DyK l g)(hd:Dt l a g)(drv:Int)(h:30*R+30*E+30*K+I<=199999970000):(fX l a drv V g).length=l.bo.length/\∀v∈fX l a drv V g,Bv (vR E K I R) v:=by
 obtain⟨r,tw,hK⟩:=A.tw;have hRR:R<=vR E K I R:=by unfold vR;omega
 cases D with
 | @drv b z d j x t d0 hx hb =>
  have e0:an l ⟨0,[b],[z],d⟩ 0=j:=ax t.hj;unfold fX;rw[agz rfl];unfold AZ;rw[e0];exact⟨by rw[agm];exact hV,lX hR hRR ((ul tw hK (yp tw.five _ drv) (eG A hV hR t.hj) (l9 A hV hR t.hj b)).mono (by unfold vR;omega)) _⟩
 | @rrr i k z0 z1 z2 a0 a1 a2 ne t0 t1 p2 h2 kd tie =>
  have e0:an l ⟨1,[i,k],[z0,z1,z2],0⟩ 0=a0:=ax t0.hj;have e1:an l ⟨1,[i,k],[z0,z1,z2],0⟩ 1=a1:=ax t1.hj;have e2:an l ⟨1,[i,k],[z0,z1,z2],0⟩ 2=a2:=ax h2;have hd:=hd.1 rfl;unfold ka sf rN at hd;rw[e0,e1,e2]at hd;have hb:=IU A hV hR hI (eG A hV hR t0.hj) (eG A hV hR t1.hj) (eG A hV hR h2) (l9 A hV hR t0.hj i) (l9 A hV hR t1.hj k) hd h;unfold fX;rw[agy (show ¬(1:Int)=0 by decide),agz rfl];unfold td EH CG yX ka sf rN;rw[e0,e1,e2];refine⟨by rw[agm,agm];exact hV,lX (lX hR hRR hb.1 _) (afq _) hb.2 _⟩
 | @pr i z0 z1 a0 a1 t0 t1 ha =>
  have e0:an l ⟨2,[i],[z0,z1],0⟩ 0=a0:=ax t0.hj;have e1:an l ⟨2,[i],[z0,z1],0⟩ 1=a1:=ax t1.hj;obtain⟨i1,i2,i3,i4,i5⟩:=bS A.li t1.hj;have i5:=i5 (by rw[t1.kd];decide);have hd:=hd.2 (by show(2:Int)≠0;decide) (by show(2:Int)≠1;decide);unfold gK fq at hd;rw[e0,e1]at hd;have bf:=((ru A hV hR i2).at tw hK (eG A hV hR t1.hj)).mono (show _<=2*R+3*E+3*K+2011 by omega);have hb:=ya A hV hR hI (((A.pt i2 i5).sb (A.pt i2 i4)).mono (show _<=6*E+4*K+4021 by omega)) (eG A hV hR t0.hj) (eG A hV hR t1.hj) bf (l9 A hV hR t0.hj i) hd h;unfold fX;rw[agy (show ¬(2:Int)=0 by decide),agy (show ¬(2:Int)=1 by decide)];unfold kL wa pK gK fq;rw[agz rfl,VX,e0,e1];exact⟨by rw[agm];exact hV,lX hR hRR hb.2 _⟩
 | @rp i z0 z1 a0 a1 t0 t1 ha =>
  have e0:an l ⟨3,[i],[z0,z1],0⟩ 0=a0:=ax t0.hj;have e1:an l ⟨3,[i],[z0,z1],0⟩ 1=a1:=ax t1.hj;obtain⟨i1,i2,i3,i4,i5⟩:=bS A.li t1.hj;have i5:=i5 (by rw[t1.kd];decide);have hd:=hd.2 (by show(3:Int)≠0;decide) (by show(3:Int)≠1;decide);unfold gK fq at hd;rw[e0,e1]at hd;have bf:=((ru A hV hR i1).at tw hK (eG A hV hR t1.hj)).mono (show _<=2*R+3*E+3*K+2011 by omega);have hb:=ya A hV hR hI (((A.pt i2 i5).sb (A.pt i2 i4)).mono (show _<=6*E+4*K+4021 by omega)) (eG A hV hR t0.hj) (eG A hV hR t1.hj) bf (l9 A hV hR t0.hj i) hd h;unfold fX;rw[agy (show ¬(3:Int)=0 by decide),agy (show ¬(3:Int)=1 by decide)];unfold kL wa pK gK fq;rw[agy (show ¬(3:Int)=2 by decide),e0,e1];exact⟨by rw[agm];exact hV,lX hR hRR hb.2 _⟩
end
theorem A0{E K I:Nat}{l:Li}{a:Aq}(A:AqV E K l a)(hI:∀r,eB r a.ts.length<=K->iB r a.ts.length (24*E+18*K+16085)<=I)(hd:∀g∈splitG l,Dt l a g)(drv:Int):∀n,n<=(splitG l).length->(∀m,m<n->30*vB E K I m+30*E+30*K+I<=199999970000) ->
  (kl l a drv ((splitG l).take n) (V0 l a.ts)).length=l.bo.length/\∀v∈kl l a drv ((splitG l).take n) (V0 l a.ts),Bv (vB E K I n) v
 |0,_,_=>by
  obtain⟨r,tw,hK⟩:=A.tw;rw[List.take_zero];refine⟨agl,fun v hv=>?_⟩;have hv:v∈V0 l a.ts:=hv;rw[(ad4.1 hv).2];exact MM tw.five
 |n+1,hn,hm=>by
  obtain⟨g,hg⟩:=ay (l:=splitG l) (i:=n) oz;have hgm:=afl hg;obtain⟨h1,h2⟩:=A0 A hI hd drv n oz (fun m h=>hm m oz);rw[Mq hg];exact ZT A h1 h2 hI (i9 A.li hgm).1 (hd g hgm) drv (hm n oz)
def gI(l:Li)(e2:Nat)(ok:Bool)(drv:Int)(zs:List Int):Nat :=
  if ao l≠0 then ao l else if splitE l≠0 then splitE l else if e2≠0 then e2 else if ok=false then 14 else if drv<0\/(l.dv.length:Int)<=drv then 9 else if zs.length≠0 then 8 else 0
section
variable{l:Li}{e2:Nat}{ok:Bool}{drv:Int}{zs:List Int}
theorem Em{e:Nat}(he:(if ao l=0 then splitE l else ao l)=e)(h:e≠0):gI l e2 ok drv zs=e:=by
 unfold gI
 by_cases h1:ao l=0
 ·rw[agz h1]at he;rw[agy oz,agz oz,he]
 ·rw[agy h1]at he;rw[agz h1,he]
theorem KT(h1:ao l=0)(h3:splitE l=0)(h:e2≠0):gI l e2 ok drv zs=e2:=by unfold gI;rw[agy oz,agy oz,agz h]
theorem FU(h1:ao l=0)(h3:splitE l=0)(h4:e2=0)(h:ok=false):gI l e2 ok drv zs=14:=by unfold gI;rw[agy oz,agy oz,agy oz,agz h]
theorem U0(h1:ao l=0)(h3:splitE l=0)(h4:e2=0)(h5:ok=true)(h:drv<0\/(l.dv.length:Int)<=drv):gI l e2 ok drv zs=9:=by unfold gI;rw[agy oz,agy oz,agy oz,agy (by rw[h5];decide),agz h]
theorem YP(h1:ao l=0)(h3:splitE l=0)(h4:e2=0)(h5:ok=true)(h6:¬(drv<0\/(l.dv.length:Int)<=drv))(h:zs.length≠0):gI l e2 ok drv zs=8:=by unfold gI;rw[agy oz,agy oz,agy oz,agy (by rw[h5];decide),agy h6,agz h]
theorem Oy(h1:ao l=0)(h3:splitE l=0)(h4:e2=0)(h5:ok=true)(h6:¬(drv<0\/(l.dv.length:Int)<=drv))(h:zs.length=0):gI l e2 ok drv zs=0:=by unfold gI;rw[agy oz,agy oz,agy oz,agy (by rw[h5];decide),agy h6,agy oz]
end
def lK(l:Li)(B:Aq)(drv:Int)(e:Nat):List AV:=if e=0 then(qX l B drv).map Vt.av else[]
theorem vt{l:Li}{B:Aq}{drv:Int}{e e':Nat}(he:e'=e)(h:e≠0):Sub (nS) (.lst 3 (lK l B drv e')):=by unfold lK;rw[agy oz];exact Sub.nil _ _ _
theorem Jf(n:Nat)(ts:LL):BlkSub (.row 3 (ad7 n (.agg [nS,nS,nS]))) (.row 3 ((ad7 n (v0:Vt ts)).map Vt.av)):=by
 have hz:(v0:Vt ts).av=.agg [nA [],nA [],nA []]:=by
  show AV.agg [nA (sX (0:Et ts)),nA (sX (0:Et ts)),nA (sX (0:Et ts))]=_;rw[uX]
 refine .row (by simp) ?_;intro i e e' he he';rw[agq,adq]at he';rw[adq]at he;split at he
 ·rename_i h;rw[agz h]at he';cases he;cases he'
  rw[hz];refine⟨rfl,?_⟩;intro j x y hx hy
  match j,hx,hy with
  |0,hx,hy=>cases hx;cases hy;exact⟨rfl,.nil _ _ _⟩
  |1,hx,hy=>cases hx;cases hy;exact⟨rfl,.nil _ _ _⟩
  |2,hx,hy=>cases hx;cases hy;exact⟨rfl,.nil _ _ _⟩
 ·cases he
abbrev sF(l:Li)(a:Aq){ts:LL}(V:List (Vt ts)):Hp:=[pP 902 (.box (pg l a (.ms 901 3 0 l.bo.length))),pP 901 (.row 3 (V.map Vt.av))]
section
variable{l:Li}{a:Aq}{V V':List (Vt a.ts)}
theorem Zc{z b:Int}{x y u v:List Rat}(h:Con prog 114 [.ptr 1000 0,i64 z,i64 b] (aU l a V) (.tup [aw x y,aw u v]) (aU l a V)) :
  Con prog 114 [.ptr 902 0,i64 z,i64 b] (sF l a V) (.tup [aw x y,aw u v]) (sF l a V):=Con.pm xE h
theorem abi{w x y u v:List Rat}{t:Vt a.ts}(h:Con prog 117 [.ptr 1000 0,nA w,aw x y,aw u v] (aU l a V) t.av (aU l a V)) :
  Con prog 117 [.ptr 902 0,nA w,aw x y,aw u v] (sF l a V) t.av (sF l a V):=Con.pm xE h
theorem JW{f:FuncId}{g:Gr}(h:Con prog f [.ptr 1000 0,g.av] (aU l a V) (.tup []) (aU l a V')):Con prog f [.ptr 902 0,g.av] (sF l a V) (.tup []) (sF l a V'):=Con.pm xE h
end
theorem Tj{l:Li}{g:Gr}(D:DyK l g)(hk:g.kind=0):∃b z d j,g=⟨0,[b],[z],d⟩/\TieO l 0 [b] z b j:=by
 cases D with
 | @drv b z d j x t d0 hx hb=>exact⟨b,z,d,j,rfl,t⟩
 |rrr=>exact ag5 hk (by simp)
 |pr=>exact ag5 hk (by simp)
 |rp=>exact ag5 hk (by simp)
theorem Zz{l:Li}{g:Gr}(D:DyK l g)(hk:g.kind=1):∃i k z0 z1 z2 j0 j1 j2,g=⟨1,[i,k],[z0,z1,z2],0⟩/\TieO l 0 [i,k] z0 i j0/\TieO l 0 [i,k] z1 k j1/\0<=z2/\l.jo[z2.toNat]?=some j2:=by
 cases D with
 |drv=>exact ag5 hk (by simp)
 | @rrr i k z0 z1 z2 a0 a1 a2 ne t0 t1 p2 h2 kd tie=>exact⟨i,k,z0,z1,z2,a0,a1,a2,rfl,t0,t1,p2,h2⟩
 |pr=>exact ag5 hk (by simp)
 |rp=>exact ag5 hk (by simp)
theorem Sj{E K:Nat}{l:Li}{a:Aq}(A:AqV E K l a){V:List (Vt a.ts)}(hV:V.length=l.bo.length){R:Nat}(hR:∀v∈V,Bv R v){g:Gr}(D:DyK l g)(hk0:g.kind≠0)(hk1:g.kind≠1)(hgb:∀x∈g.bo,0<=x/\x<(l.bo.length:Int)){I:Nat}(hI:∀r,eB r a.ts.length<=K->iB r a.ts.length (24*E+18*K+16085)<=I)(hd:Dt l a g)
  (h:30*R+30*E+30*K+I<=199999970000):Con prog 119 [.ptr 1000 0,g.av] (aU l a V) (.tup []) (aU l a (kL l a V g)):=by
 have hd:=hd.2 hk0 hk1;cases D with
 |drv=>exact ag5 rfl hk0
 |rrr=>exact ag5 rfl hk1
 | @pr i z0 z1 a0 a1 t0 t1 ha=>exact OH A hV hR t0.hz t0.hj t1.hz t1.hj (by rw[t1.kd];decide) (hgb i (by simp)) hI hd h
 | @rp i z0 z1 a0 a1 t0 t1 ha=>exact SS A hV hR t0.hz t0.hj t1.hz t1.hj (by rw[t1.kd];decide) (hgb i (by simp)) hI hd h
theorem aat{l:Li}(hl:l.ok)(xs:List Tn)(a:As)(drv:Int){e2:Nat}{ok:Bool}{F:Nat×Nat}{zs:List Int}
  (hv:ao l=0->splitE l=0->FP 24 [l.av,.lst 4 (xs.map Tn.av),a.av] (.tup [bl ok,vd F,cf e2]))
  (hs:ao l=0->splitE l=0->e2=0->ok=true->FP 29 [l.av,.lst 4 (xs.map Tn.av),a.av] (.tup [.lst 1 (zs.map i64),.v .nilIface]))
  (hzl:ao l=0->zs.length<=1000) {B:Aq} {E K I:Nat}
  (hA:ao l=0->splitE l=0->e2=0->ok=true->zs.length=0->a.av=B.av/\AqV E K l B/\∀g∈splitG l,Dt l B g)
  (hI:B.ts.length<=2->∀r,eB r B.ts.length<=K->iB r B.ts.length (24*E+18*K+16085)<=I)
  (hvc:∀m,m<4->30*vB E K I m+30*E+30*K+I<=199999970000) (hn:ao l=0->splitE l=0->e2=0->ok=true->(splitG l).length<=4) :
  FP 37 [l.av,.lst 4 (xs.map Tn.av),a.av,i64 drv] (.tup [.lst 3 (lK l B drv (gI l e2 ok drv zs)),cf (gI l e2 ok drv zs)]):=by
 refine ai func37 ?_;refine gc (yn l hl) ?_;refine gC (fun y=>?_) (fun y=>?_)
 ·have h1:=eQ y;have he:=Em (e2:=e2) (ok:=ok) (drv:=drv) (zs:=zs) rfl h1;refine gR ?_;exact n6 (vt he h1) (Sub.of (by rw[he]))
 have h1:=fd y
 obtain⟨h1,h3⟩:ao l=0/\splitE l=0:=by
  by_cases h2:ao l=0
  ·rw[agz h2]at h1;exact⟨h2,h1⟩
  ·rw[agy h2]at h1;exact ag5 h1 h2
 rw[show(if ao l=0 then splitG l else[])=splitG l from agz h1];have hv:=hv h1 h3;refine gc hv ?_;refine gC (fun y=>?_) (fun y=>?_)
 ·have h4:=eQ y;have he:=KT (ok:=ok) (drv:=drv) (zs:=zs) h1 h3 h4;refine gR ?_;exact n6 (vt he h4) (Sub.of (by rw[he]))
 have h4:=fd y;refine gC (fun y=>?_) (fun y=>?_)
 ·have h5:ok=false:=cm y;have he:=FU (drv:=drv) (zs:=zs) h1 h3 h4 h5;refine gR ?_;exact n6 (vt he (by decide)) (Sub.of (by rw[he];rfl))
 have h5:ok=true:=ci y;have hld:=hl.ld;refine bF ?_;refine gC (fun y=>?_) (fun y=>?_)
 ·have h6:=Ah y;have he:=U0 (zs:=zs) h1 h3 h4 h5 h6;refine gR ?_;exact n6 (vt he (by decide)) (Sub.of (by rw[he];rfl))
 have h6:¬(drv<0\/(l.dv.length:Int)<=drv):=Cq y;have hat:=hs h1 h3 h4 h5;have hzl:=hzl h1;have hgl:=nD h1;refine gc hat ?_;refine gf ?_;refine gl ?_;refine gC (fun t68=>?_) (fun t68=>?_)
 ·have h7:zs.length≠0:=by
   intro h7;rw[h7]at t68;cases t68
  have he:=YP h1 h3 h4 h5 h6 h7;refine gR ?_;exact n6 (vt he (by decide)) (Sub.of (by rw[he];rfl))
 have h7:zs.length=0:=by
  have:=iP (b:=0) t68;omega
 have he:=Oy h1 h3 h4 h5 h6 h7;have hN:=hn h1 h3 h4 h5;obtain⟨hav,A,hdt⟩:=hA h1 h3 h4 h5 h7;have hcs:[AV.lst 1 (a.rs.map nR),.lst 4 (a.bs.map Pl.av),.lst 1 (a.ms.map i64)]=B.cs:=AV.agg.inj hav;have hc1:AV.lst 1 (a.rs.map nR)=.lst 1 (B.ts.map nA):=(List.cons.inj hcs).1;have hc2:AV.lst 4 (a.bs.map Pl.av)=.lst 4 (B.bs.map Pq.av):=(List.cons.inj (List.cons.inj hcs).2).1;have hc3:AV.lst 1 (a.ms.map i64)=.lst 1 (B.ms.map i64):=(List.cons.inj (List.cons.inj (List.cons.inj hcs).2).2).1;have hlb:=(er h1).2.2.2;have hL:lK l B drv (gI l e2 ok drv zs)=(qX l B drv).map Vt.av:=by unfold lK;rw[agz he]
 rw[hL,he];have hI:=hI A.two;have hvb:=A0 A hI hdt drv;refine gl ?_;refine gs (gX (.tmp rfl) T81 rfl T90 rfl rfl oz (by dsimp only;omega) rfl) ?_;refine gD ?_ (17,0);refine gW (Wk.of (sl:=[pP 3 (i64 drv),pP 10 (.lst 4 ((splitG l).map Gr.av)),pP 15 (.ptr 80 0)]) (hp:=[pP 80 (.box (pg l B (.ms 78 3 0 l.bo.length))),pP 78 (.row 3 ((V0 l B.ts).map Vt.av))]) bj (.cons rfl (BlkSub.of (by rw[hc1,hc2,hc3];rfl)) (.cons rfl (Jf _ _) .nil))) ?_ (17,0);refine gW (Wk.rk (k:=80) (d:=902) rfl rfl) ?_ (17,0);refine gW (Wk.rk (k:=78) (d:=901) rfl rfl) ?_;refine gl ?_;refine aL [3,15,81,82] [902] (fun(i:Nat)=>[pP 83 (i64 i)]) (fun i=>[pP 901 (.row 3 ((kl l B drv ((splitG l).take i) (V0 l B.ts)).map Vt.av))]) (fun i=>i<=(splitG l).length) (fun i=>(splitG l).length-i) 0 (afz _) ?_;rintro i hi K1 J1;refine gC (fun y=>?_) (fun y=>?_) (st2:=(31,0))
 ·have hin:=aY y;obtain⟨g,hgi⟩:=ay hin;have hgm:=afl hgi;obtain⟨hD,hO⟩:=i9 h1 hgm;have hdg:=hdt g hgm;have hvs:=Mq (l:=l) (a:=B) (drv:=drv) (V:=V0 l B.ts) hgi;obtain⟨hVl,hVb⟩:=hvb i hi (fun m hm=>hvc _ oz);have hRc:=hvc i oz;obtain⟨V,hVe⟩:∃V,V=kl l B drv ((splitG l).take i) (V0 l B.ts):=⟨_,rfl⟩
  rw[<- hVe]at hVl hVb hvs;rw[<- hVe];refine gi (aq hgi) ?_;refine gC (fun y=>?_) (fun y=>?_)
  ·obtain⟨b,z,d,j,rfl,tj⟩:=Tj hD (cB y);have hb:=hO.b b (by simp);obtain⟨n,rfl⟩:∃ n:Nat,b=(n:Int):=⟨b.toNat,by omega⟩
   obtain⟨r,tw,hK⟩:=A.tw;obtain⟨w0,hw0⟩:=ay (l:=V) (i:=n) oz;have e0:an l ⟨0,[(n:Int)],[z],d⟩ 0=j:=ax tj.hj;have c1:=uv tw hK A.two (l:=l) (V:=V) (yp tw.five ⟨0,[(n:Int)],[z],d⟩ drv) (eG A hVl hVb tj.hj) (l9 A hVl hVb tj.hj (n:Int)) oz
   have hst:fX l B drv V ⟨0,[(n:Int)],[z],d⟩=V.set n (cW (wD ⟨0,[(n:Int)],[z],d⟩ drv) (bm l B j) (cI l B V j (n:Int))):=by
    unfold fX;rw[agz rfl];unfold AZ;rw[e0];rfl
   refine gi (rfl) ?_;refine gi (rfl) ?_;refine gt (bT (Zc (tJ A hVl hVb tj.hz tj.hj oz)) (aI rfl rfl rfl) rfl rfl rfl rfl rfl) ?_;refine gD ?_;refine tb [3,15,17,18,19,81,82,83] [17,18,19,902,901] [pP 20 (nA (sX (wD ⟨0,[(n:Int)],[z],d⟩ drv:Et B.ts)))] [] (True) ?_ ?_
   ·intro K2 J2;refine gC (fun y=>?_) (fun y=>?_)
    ·have hw:(wD ⟨0,[(n:Int)],[z],d⟩ drv:Et B.ts)=qE ((1:Int):Rat):=agz (cB y);refine gc (ng 1 oz) ?_;refine gc (mU (sG oz)) ?_;exact jx J2 trivial (hw:=Wk.of (.cons rfl (Sub.of (by rw[hw,yj])) (.k (.k (.k (.k (.k (.k (.k (.k .nil))))))))) (.k (.k (.k (.k (.k .nil))))))
    have hw:(wD ⟨0,[(n:Int)],[z],d⟩ drv:Et B.ts)=0:=agy (cU y);exact jx J2 trivial (hw:=Wk.of (.cons rfl (by rw[hw,uX];exact Sub.nil _ none 0) (.k (.k (.k (.k (.k (.k (.k (.k .nil))))))))) (.k (.k (.k (.k (.k .nil))))))
   rintro -;refine gi (rfl) ?_;refine gt (bT (abi c1) (.cons (.tmp rfl) (.cons (.tmp rfl) (.cons (.tmp rfl) (.cons (.tmp rfl) .nil)))) rfl rfl rfl rfl rfl) ?_;refine gs (bi (n:=n) (.tmp rfl) (.tmp rfl) T81 rfl T90 rfl oz oz rfl) ?_;refine gs (cw (.tmp rfl) rfl (aq hw0) rfl (.tmp rfl) rfl rfl T90 rfl rfl) ?_;refine gD ?_ (30,0);refine gW (Wk.of (sl:=[pP 3 (i64 drv),pP 15 (.ptr 902 0),pP 81 (.lst 4 ((splitG l).map Gr.av)),pP 82 (i64 (splitG l).length),pP 83 (i64 i)]) (hp:=[pP 902 (.box (pg l B (.ms 901 3 0 l.bo.length))),pP 901 (.row 3 ((kl l B drv ((splitG l).take (i+1)) (V0 l B.ts)).map Vt.av))]) bj (.k (.cons rfl (BlkSub.of (by rw[hvs,hst,ags])) .nil))) ?_;refine ga aK ?_;exact aH J1 (i+1) hin
  have hk0:g.kind≠0:=cU y;refine gC (fun y=>?_) (fun y=>?_)
  ·have hk1:g.kind=1:=cB y;obtain⟨b0,b1,z0,z1,z2,j0,j1,j2,rfl,t0,t1,p2,q2⟩:=Zz hD hk1
   have hst:fX l B drv V ⟨1,[b0,b1],[z0,z1,z2],0⟩=td l B V ⟨1,[b0,b1],[z0,z1,z2],0⟩:=by
    unfold fX;rw[agy (show ¬(1:Int)=0 by decide),agz rfl]
   refine gt (aF (JW (Sy A hVl hVb t0.hz t0.hj t1.hz t1.hj p2 q2 (hO.b b0 (by simp)) (hO.b b1 (by simp)) hI (hdg.1 rfl) hRc)) (ce rfl rfl) aG rfl rfl) ?_ (30,0);refine gW (Wk.of (sl:=[pP 3 (i64 drv),pP 15 (.ptr 902 0),pP 81 (.lst 4 ((splitG l).map Gr.av)),pP 82 (i64 (splitG l).length),pP 83 (i64 i)]) (hp:=[pP 902 (.box (pg l B (.ms 901 3 0 l.bo.length))),pP 901 (.row 3 ((kl l B drv ((splitG l).take (i+1)) (V0 l B.ts)).map Vt.av))]) bj (.k (.cons rfl (BlkSub.of (by rw[hvs,hst])) .nil))) ?_;refine ga aK ?_;exact aH J1 (i+1) hin
  have hk1:g.kind≠1:=cU y
  have hst:fX l B drv V g=kL l B V g:=by
   unfold fX;rw[agy hk0,agy hk1]
  refine gt (aF (JW (Sj A hVl hVb hD hk0 hk1 hO.b hI hdg hRc)) (ce rfl rfl) aG rfl rfl) ?_ (30,0);refine gW (Wk.of (sl:=[pP 3 (i64 drv),pP 15 (.ptr 902 0),pP 81 (.lst 4 ((splitG l).map Gr.av)),pP 82 (i64 (splitG l).length),pP 83 (i64 i)]) (hp:=[pP 902 (.box (pg l B (.ms 901 3 0 l.bo.length))),pP 901 (.row 3 ((kl l B drv ((splitG l).take (i+1)) (V0 l B.ts)).map Vt.av))]) bj (.k (.cons rfl (BlkSub.of (by rw[hvs,hst])) .nil))) ?_;refine ga aK ?_;exact aH J1 (i+1) hin
 have hin:=a7 hi y;subst hin;rw[af1];refine gW ((Wk.freeze (k:=901) rfl).trans<|Wk.of (sl:=[pP 15 (.ptr 902 0)]) (hp:=[pP 902 (.box (pg l B (.lst 3 ((qX l B drv).map Vt.av))))]) bj (.cons rfl (BlkSub.boxL (.cons (.refl _) (.cons (.refl _) (.cons (.refl _) (.cons (.refl _) (.cons (.refl _) (.cons (.refl _) (.cons (.refl _) (.cons (.refl _) (.cons (.refl _) (.cons (Sub.of (cz (by have h9:=(hvb _ (afq _) (fun m hm=>hvc _ oz)).1;rw[af1]at h9;rw[afm];exact h9.symm))) .nil)))))))))) rfl) .nil)) ?_
 refine gf ?_;refine bg ?_;rfl
def d8(l:Li)(xs:List Tn)(a:As):Nat :=
  if ao l≠0 then ao l else if splitE l≠0 then splitE l else if dm l xs≠0 then dm l xs else if(cA l xs a).1≠0 then 14 else 0
section
variable{l:Li}{xs:List Tn}{a:As}
theorem BO(h:ao l≠0):d8 l xs a=ao l:=by unfold d8;rw[agz h]
theorem ER(h1:ao l=0)(h:splitE l≠0):d8 l xs a=splitE l:=by unfold d8;rw[agy oz,agz h]
theorem Do(h1:ao l=0)(h2:splitE l=0)(h:dm l xs≠0):d8 l xs a=dm l xs:=by unfold d8;rw[agy oz,agy oz,agz h]
theorem Ar(h1:ao l=0)(h2:splitE l=0)(h3:dm l xs=0)(h:(cA l xs a).1≠0):d8 l xs a=14:=by unfold d8;rw[agy oz,agy oz,agy oz,agz h]
theorem zU(h1:ao l=0)(h2:splitE l=0)(h3:dm l xs=0)(h:(cA l xs a).1=0):d8 l xs a=0:=by unfold d8;rw[agy oz,agy oz,agy oz,agy oz]
theorem mY(h:d8 l xs a=0):ao l=0/\splitE l=0/\dm l xs=0/\(cA l xs a).1=0:=by
 by_cases h1:ao l=0
 ·by_cases h2:splitE l=0
  ·by_cases h3:dm l xs=0
   ·by_cases h4:(cA l xs a).1=0
    ·exact⟨h1,h2,h3,h4⟩
    ·rw[Ar h1 h2 h3 h4]at h;cases h
   ·rw[Do h1 h2 h3]at h;exact ag5 h h3
  ·rw[ER h1 h2]at h;exact ag5 h h2
 ·rw[BO h1]at h;exact ag5 h h1
theorem wP(hl:l.ok)(hli:ao l=0)(ha:AL a)(h:(cA l xs a).1=0):Good l a:=by
 unfold cA at h;split at h
 ·cases h
 ·rename_i h1
  have h2:aZ a.rs=0/\a.bs.length=l.bo.length:=by
   constructor
   ·exact Decidable.byContradiction fun h3=>h1 (.inl h3)
   ·exact Decidable.byContradiction fun h3=>h1 (.inr h3)
  split at h
  ·cases h
  ·rename_i h3;exact EO hl hli ha h2.1 h2.2 (wX h3)
theorem YU(hg:Good l a)(hs:splitE l=0){k:Nat}(hk:k<(splitG l).length)(own:Bool):gM l k a own=0:=by
 obtain⟨g,hgk⟩:=ay hk;have e:mr l k=g:=ax hgk;obtain⟨d1,d2⟩:=i9 hg.li (afl hgk);rw[qi hg.li];unfold jI;rw[agy oz,agy oz,agy (by have:=hg.ln;omega),agy (by have:=hg.ck;omega),e];refine ug fun b hb=>?_
 have hb2:b∈cH l g own:=zc.1 hb;have h1:=yM hg.li d2 b hb2;unfold gw
 by_cases h0:b<0
 ·rw[agz h0]
 ·obtain⟨p,hp⟩:=ay (l:=a.bs) (i:=b.toNat) (by have:=hg.ln;omega);rw[agy h0,ax hp];exact hg.cb p (afl hp)
end
theorem zk{ts:LL}{r e f:Nat}(tw:Tw ts r){x:List Rat}(hx:Nm ts.length e x){v:Rat}(hv:Qb f v)(he:e+2*f<=900000000) :
  FP 310 [aB ts,nA x,qA v] (bl (dX ts (ae ts.length x) (ae ts.length (sh 0 (v:Rat))))):=by
 have hlm:=dl ts.length;refine ai func310 ?_;refine gc (mU (hv.qs oz)) ?_;refine gc (yQ tw hx (qW tw.five hv) oz) ?_;refine gD ?_;refine af ?_;exact ag6 bl (An _)
theorem NA{rs:List (List Rt)}{r e f:Nat}(h0:TR rs r)(h1:aZ rs=0){x:List Rt}(hx:NR x e)(hn:bH rs.length x≠0){v:Rat}(hv:Qb f v)(he:e+2*f<=900000000) :
  FP 310 [a5 rs,nR x,qA v] (bl false):=by
 have hlm:=dl rs.length;have hlm2:=dl 0;have hf:=(qW (n:=0) oz hv).rt oz;have hc:=FZ rs r h0 x ((sh 0 (v:Rat)).map rt) e (f+f) hx hf oz;rw[cT]at hc;have h2:aQ rs [x,(sh 0 (v:Rat)).map rt]≠0:=fun h=>hn ((gL h).2 x (by simp))
 refine ai func310 ?_;refine gc (mU (hv.qs oz)) ?_;refine gc hc ?_;refine gD ?_;refine af ?_;rw[yq,ag4 h2];rfl
def mT(rs:List (List Rt))(x:List Rt)(v:Rat):Bool:=decide (bH rs.length x=0)&&dX (llq rs) (dw (llq rs) x) (ae (llq rs).length (sh 0 (v:Rat)))
theorem G9{rs:List (List Rt)}{r e f:Nat}(h0:TR rs r)(h1:aZ rs=0){x:List Rt}(hx:NR x e){v:Rat}(hv:Qb f v)(he:e+2*f<=900000000) :
  FP 310 [a5 rs,nR x,qA v] (bl (mT rs x v)):=by
 unfold mT
 by_cases hn:bH rs.length x=0
 ·rw[ag3 hn,aet];obtain⟨tw,hta⟩:=bZ h0 h1;obtain⟨e1,e2⟩:=hx.num hn;have hl:(llq rs).length=rs.length:=afm _;rw[hta,e1];exact zk tw ⟨tw.five,by rw[hl];exact e2,hx.cb⟩ hv he
 ·rw[ag4 hn,aey];exact NA h0 h1 hx hn hv he
def yu(rs:List (List Rt))(b:Pl):Bool:=mT rs b.c 1&&mT rs b.s 0&&mT rs b.x 0&&mT rs b.y 0
theorem QG{rs:List (List Rt)}{r:Nat}(h0:TR rs r)(h1:aZ rs=0){b:Pl}(hb:∀x∈b.l,NR x 4000):FP 183 [a5 rs,b.av] (bl (yu rs b)):=by
 have hq:∀x∈b.l,FP 310 [a5 rs,nR x,.agg [.v (.bool false),nS,nS]] (bl (mT rs x 0)):=fun x hx =>
  Con.sA (.cons (.refl _) (.cons (.refl _) (.cons jV .nil))) (G9 h0 h1 (hb x hx) Qb.zero oz)
 refine ai func183 ?_;refine gc (ng 1 oz) ?_;refine gc (show FP 310 [a5 rs,nR b.c,qA ((1:Int):Rat)] (bl (mT rs b.c 1))from G9 h0 h1 (hb b.c (by simp[Pl.l])) Qb.one oz) ?_;refine bn (fun _=>(hq b.s (by simp[Pl.l]))) ?_;refine bn (fun _=>(hq b.x (by simp[Pl.l]))) ?_;refine bn (fun _=>(hq b.y (by simp[Pl.l]))) ?_;refine gD ?_;refine af ?_;exact ag6 bl (GR _ _ _ _)
theorem TD{rs:List (List Rt)}(h0:TR rs 40000)(h1:aZ rs=0){b:Pl}(hb:∀x∈b.l,NR x 4000):FP 182 [a5 rs,b.av] (bl (decide (aQ rs b.l=0)&&qD (llq rs) b)):=by
 obtain⟨tw,hta⟩:=bZ h0 h1;have kb:=p4 tw.three;have hlm:=dl rs.length;have hlm2:=dl (llq rs).length;have h5:rs.length<=5:=by have:=tw.five;rwa [afm]at this
 have hll:(llq rs).length=rs.length:=afm _;refine ai func182 ?_;refine ge rfl ?_;refine aL [2,3,18,19] [2,3] (fun(k:Nat)=>[pP 20 (i64 k)]) (fun _=>[]) (fun k=>k<=4/\∀x∈b.l.take k,bH rs.length x=0) (fun k=>4-k) 0 ⟨afz _,fun x hx=>by simp at hx⟩ ?_;rintro k ⟨hk,hkj⟩ K1 J1;refine gC (fun z=>?_) (fun z=>?_) (st2:=(7,0))
 ·have hkn:k<4:=aY (b:=4) z;obtain⟨x,hx⟩:∃x,b.l[k]?=some x:=ay (l:=b.l) hkn;have hxn:=hb x (afl hx);have hone:aQ rs [x]=bH rs.length x:=BD h1;refine gi (aq hx) ?_;refine gc (PJ rs 40000 h0 x 4000 hxn) ?_;refine gC (fun z=>?_) (fun z=>?_)
  ·have h4:=ag2 (cm z);rw[hone]at h4;refine af ?_;rw[uR h1 hx hkj h4,ag4 h4];rfl
  have h4:=ag1 (ci z);rw[hone]at h4;refine ga aK ?_;exact aH J1 (k+1) ⟨hkn,fun y hy=>by rw[eH hx]at hy;rcases aft.1 hy with h9 |h9;exact hkj y h9;(rw[adc.1 h9];exact h4)⟩
 have hkn:k=4:=a7 (b:=4) hk z;subst hkn;have h4:aQ rs b.l=0:=nZ h1 hkj;obtain⟨hba,hbo⟩:=mM h4 hb h5;rw[<- hll]at hbo;have hdn:=zZ tw hbo.c hbo.s hbo.c hbo.s;have hdot:=DB tw hbo.c hbo.s hbo.c hbo.s oz;have heq:=zk tw hdn Qb.one oz;rw[bK]at heq;refine gW (Wk.of (sl:=[pP 2 (.ptr 2 0),pP 3 (.ptr 3 0)]) (hp:=[pP 2 (.box (aB (llq rs)).cells),pP 3 (.box (Pq.av ⟨lq b.c,lq b.s,lq b.x,lq b.y⟩).cells)]) bj (.cons rfl (BlkSub.of (ag6 (fun v=>Blk.box (AV.cells v)) hta)) (.cons rfl (BlkSub.of (ag6 (fun v=>Blk.box (AV.cells v)) hba)) .nil))) ?_;refine gc hdot ?_;refine bn (fun _=>(ng 1 oz)) ?_;refine bn (fun _=>heq) ?_;refine gD ?_;refine af ?_;rw[h4];rfl
theorem Qv{ts:LL}(tw:Tw ts 40000){b:Pl}(hb:Pq.ok ts.length 4000 ⟨lq b.c,lq b.s,lq b.x,lq b.y⟩){x:Tn}(hx:x.t.ok)(he:x.err=0)(hq:Qb 1000 x.t.q) :
  FP 189 [aB ts,Pq.av ⟨lq b.c,lq b.s,lq b.x,lq b.y⟩,x.av] (bl (q9 ts b x)):=by
 have hc:=OU x hx hq oz;rw[agz he,he]at hc;have hs:=ZB x hx hq oz;rw[agz he,he]at hs;refine ai func189 ?_;refine gc hc ?_;refine gf ?_;refine gc hs ?_;refine bn (fun _=>(zk tw hb.c (Ez hq) oz)) ?_;refine bn (fun _=>(zk tw hb.s (EK hq) oz)) ?_;refine af ?_;exact ag6 bl (iz _ _)
theorem Af{l:Li}{a:As}(hg:Good l a){body pt:Int}(h1:aT body l.bo.length=true)(h2:aT pt (bW l body).length=true) :
  FP 311 [l.av,a.av,i64 body,i64 pt] (.tup [aw (sh (llq a.rs).length (ez l a body pt).1) (sh (llq a.rs).length (ez l a body pt).2),.v .nilIface]):=by
 obtain⟨n,k,bd,m,b,hp⟩:=hg.at h1 h2;obtain⟨tw,hta,h5,hll⟩:=hg.tw;have kb:=p4 tw.three;have hlm:=dl a.rs.length;have hlm2:=dl (llq a.rs).length;obtain⟨hba,hbo⟩:=hg.pl hp.gb;have hlb:=hg.lo.lb;have hn:=hp.hn;have hk:=hp.hk;rw[hp.eq];subst hn;subst hk
 have hat:FP 139 [a5 a.rs,b.av,m.x.av,m.y.av] (.tup [aw (sh (llq a.rs).length (gU (llq a.rs) b m).1) (sh (llq a.rs).length (gU (llq a.rs) b m).2),.v .nilIface]):=by
  rw[hta,hba,hp.mx,hp.my];exact xa tw hbo.c hbo.s hbo.x hbo.y hp.qx hp.qy oz
 refine ai func311 ?_;refine gi (aq hp.gbd) ?_;refine gi (aq hp.gm) ?_;refine gi (aq hp.gb) ?_;refine gc hat ?_;refine gD ?_;refine bg ?_
 first |rfl |(simp;done)
theorem Dc{l:Li}{a:As}(hg:Good l a){body pt:Int}(h1:aT body l.bo.length=true)(h2:aT pt (bW l body).length=true) :
  FP 351 [l.av,a.av,i64 body,i64 pt] (aw (sh (llq a.rs).length (ez l a body pt).1) (sh (llq a.rs).length (ez l a body pt).2)):=by
 obtain⟨n,k,bd,m,b,hp⟩:=hg.at h1 h2;obtain⟨tw,hta,h5,hll⟩:=hg.tw;have kb:=p4 tw.three;have hlm:=dl a.rs.length;have hlm2:=dl (llq a.rs).length;obtain⟨hba,hbo⟩:=hg.pl hp.gb;have hlb:=hg.lo.lb;have hn:=hp.hn;have hk:=hp.hk;rw[hp.eq];subst hn;subst hk
 have hat:FP 253 [a5 a.rs,b.av,m.x.av,m.y.av] (aw (sh (llq a.rs).length (gU (llq a.rs) b m).1) (sh (llq a.rs).length (gU (llq a.rs) b m).2)):=by
  rw[hta,hba,hp.mx,hp.my];exact Jj tw hbo.c hbo.s hbo.x hbo.y hp.qx hp.qy oz
 refine ai func351 ?_;refine gi (aq hp.gbd) ?_;refine gi (aq hp.gm) ?_;refine gi (aq hp.gb) ?_;refine gc hat ?_;refine gD ?_;refine af ?_
 first |rfl |(simp;done)
theorem r4{l:Li}{a:As}(hg:Good l a){body pt:Int}(h1:aT body l.bo.length=true)(h2:aT pt (bW l body).length=true) :
  Nm (llq a.rs).length 6000000 (sh (llq a.rs).length (ez l a body pt).1)/\Nm (llq a.rs).length 6000000 (sh (llq a.rs).length (ez l a body pt).2):=by
 obtain⟨n,k,bd,m,b,hp⟩:=hg.at h1 h2;obtain⟨tw,hta,h5,hll⟩:=hg.tw;have kb:=p4 tw.three;have hlm:=dl a.rs.length;have hlm2:=dl (llq a.rs).length;rw[hp.eq];have h:=WF tw (hg.pl hp.gb).2 hp.qx hp.qy;exact⟨h.1.mono oz,h.2.mono oz⟩
theorem Vl{l:Li}{a:As}(hg:Good l a){i:Nat}{j:Jt}(hj:l.jo[i]?=some j):FP 186 [l.av,a.av,j.av] (bl (iH l a j)):=by
 obtain⟨tw,hta,h5,hll⟩:=hg.tw;have kb:=p4 tw.three;have hlm:=dl a.rs.length;have hlm2:=dl (llq a.rs).length;obtain⟨i1,i2,i3,i4,i5⟩:=bS hg.li hj;have np:=r4 hg i1 i3;have nq:=r4 hg i2 i4;have hsame:=NE tw np.1 np.2 nq.1 nq.2 oz;simp only[bK]at hsame;rw[<- hta]at hsame;refine ai func186 ?_;refine gc (Af hg i1 i3) ?_;refine gf ?_;refine gc (Af hg i2 i4) ?_;refine gf ?_;refine gC (fun z=>?_) (fun z=>?_)
 ·have hk:j.kind=0:=cB z;refine gc hsame ?_;refine af ?_;unfold iH;rw[agz hk];exact ag6 bl (Bool.decide_and _ _)
 have hk:j.kind≠0:=cU z;have nr:=r4 hg i2 (i5 hk);have hor:=SV tw nq.1 nq.2 nr.1 nr.2 np.1 np.2 oz;simp only[bK]at hor;rw[<- hta]at hor;refine gc (Af hg i2 (i5 hk)) ?_;refine gf ?_;refine gc hor ?_;refine af ?_;unfold iH;rw[agy hk];exact ag6 bl (An _)
theorem N5{l:Li}{a:As}(hg:Good l a){i:Nat}{j:Jt}(hj:l.jo[i]?=some j):FP 238 [l.av,a.av,j.av] (bl (iH l a j)):=by
 obtain⟨tw,hta,h5,hll⟩:=hg.tw;have kb:=p4 tw.three;have hlm:=dl a.rs.length;have hlm2:=dl (llq a.rs).length;obtain⟨i1,i2,i3,i4,i5⟩:=bS hg.li hj;have np:=r4 hg i1 i3;have nq:=r4 hg i2 i4;have hsame:=Xo tw np.1 np.2 nq.1 nq.2 oz;simp only[bK]at hsame;rw[<- hta]at hsame;refine ai func238 ?_;refine gc (Dc hg i1 i3) ?_;refine gc (Dc hg i2 i4) ?_;refine gD ?_;refine gC (fun z=>?_) (fun z=>?_)
 ·have hk:j.kind=0:=cB z;refine gc hsame ?_;refine af ?_;unfold iH;rw[agz hk]
 have hk:j.kind≠0:=cU z;have nr:=r4 hg i2 (i5 hk);have hor:=Qd tw nq.1 nq.2 nr.1 nr.2 np.1 np.2 oz;simp only[bK]at hor;rw[<- hta]at hor;refine gc (Dc hg i2 (i5 hk)) ?_;refine gc hor ?_;refine gD ?_;refine af ?_;unfold iH;rw[agy hk];exact ag6 bl ql
theorem Qu{a:As}(ha:AL a)(h1:aZ a.rs=0){i:Nat}{b:Pl}(hb:a.bs[i]?=some b):FP 237 [a.av,i64 i] (bl (iu a.rs i b)):=by
 have hbl:=ha.bl;have hi:=(adw.1 hb).1;obtain⟨tw,hta⟩:=bZ ha.tr h1;have kb:=p4 tw.three;have hlm:=dl a.rs.length;have hlm2:=dl (llq a.rs).length;have h5:a.rs.length<=5:=by have:=tw.five;rwa [afm]at this
 have hll:(llq a.rs).length=a.rs.length:=afm _;have hbn:=ha.nr b (afl hb);refine ai func237 ?_;refine gi (aq hb) ?_;refine gc (LP a.rs 40000 4000 ha.tr b.l hbn oz (by show 4<=_;omega)) ?_;refine gC (fun z=>?_) (fun z=>?_) (st2:=(77777,0))
 ·have h4:=eF z;refine af ?_;unfold iu;rw[ag4 h4];rfl
 have h4:=eR z;obtain⟨hba,hbo⟩:=mM h4 hbn h5;rw[<- hll]at hbo;have hdn:=zZ tw hbo.c hbo.s hbo.c hbo.s;have hdot:=CI tw hbo.c hbo.s hbo.c hbo.s oz;rw[<- hta]at hdot;have heq:=km tw hdn (qW (q:=((1:Int):Rat)) tw.five Qb.one) oz;rw[bK,<- hta]at heq;have hfq:vq.ok (llq a.rs).length 4000:=Y4 tw.five;have hsp:=ZX tw hbo.c hbo.s hbo.x hbo.y hfq.c hfq.s hfq.x hfq.y oz;rw[<- hta]at hsp;refine gW (Wk.of (sl:=[pP 1 (i64 i),pP 2 (.ptr 2 0),pP 5 (.ptr 5 0)]) (hp:=[pP 2 (.box a.av.cells),pP 5 (.box (Pq.av ⟨lq b.c,lq b.s,lq b.x,lq b.y⟩).cells)]) bj (.k (.cons rfl (BlkSub.of (ag6 (fun v=>Blk.box (AV.cells v)) hba)) .nil))) ?_;refine gc hdot ?_;refine gc (Bh 1 oz) ?_;refine gc heq ?_;refine gD ?_;refine gC (fun z=>?_) (fun z=>?_)
 ·have h6:=cm z;refine af ?_;unfold iu;rw[show qD (llq a.rs) b=false from h6,aey,aeu];rfl
 have h6:=ci z;refine bn (fun _=>Zr) ?_;refine bn (fun _=>hsp) ?_;refine gD ?_;refine af ?_;unfold iu;rw[h4,show qD (llq a.rs) b=true from h6];exact ag6 bl VS
theorem aaa(l:Li)(hl:l.ok)(xs:List Tn)(hx:∀x∈xs,x.t.ok)(hxl:xs.length<=281474976710656):FP 120 [l.av,.lst 4 (xs.map Tn.av)] (i64 (dm l xs)):=by
 have hld:=hl.ld;refine ai func120 ?_;refine gc (BL l hl) ?_;refine gC (fun z=>?_) (fun z=>?_)
 ·have h1:=eF z;refine af ?_;rw[B3 h1]
 have h1:=eR z;refine gl ?_;refine gl ?_;refine gC (fun z=>?_) (fun z=>?_)
 ·have h2:xs.length≠l.dv.length:=by have:=m8 z; omega
  refine af ?_;rw[CU h1 h2];rfl
 have h2:xs.length=l.dv.length:=by have:=ss z;omega
 refine gl ?_;refine aL [20,21] [] (fun(i:Nat)=>[pP 22 (i64 i)]) (fun _=>[]) (fun i=>i<=xs.length/\∀x∈xs.take i,x.err=0) (fun i=>xs.length-i) 0 ⟨afz _,fun x hx=>by simp at hx⟩ ?_;rintro i ⟨hi,hj⟩ K1 J1;refine gC (fun z=>?_) (fun z=>?_)
 ·have hin:=aY z;obtain⟨x,hxx⟩:=ay hin;refine gi (aq hxx) ?_;refine gc (P0 x (hx x (afl hxx))) ?_;refine gC (fun z=>?_) (fun z=>?_)
  ·have h3:=eF z;refine af ?_;rw[Ax h1 h2 hxx hj h3]
  have h3:=eR z;refine ga aK ?_;exact aH J1 (i+1) ⟨hin,fun y hy=>by rw[eH hxx]at hy;rcases aft.1 hy with h9 |h9;exact hj y h9;(rw[adc.1 h9];exact h3)⟩
 have hin:=a7 hi z;subst hin;rw[af1]at hj;refine af ?_;rw[JT h1 h2 hj];rfl
theorem RU{l:Li}(hl:l.ok)(hli:ao l=0)(xs:List Tn)(hx:∀x∈xs,x.t.ok/\x.err=0/\Qb 1000 x.t.q)(hxl:xs.length=l.dv.length){a:As}(ha:AL a):FP 121 [l.av,.lst 4 (xs.map Tn.av),a.av] (vd (cA l xs a)):=by
 have hbl:=ha.bl;have hlm:=dl a.rs.length;have hlm2:=dl (llq a.rs).length;have hlj:=hl.lj;have hld:=hl.ld;refine ai func121 ?_;refine gc (Con.sA (.cons (.refl _) (.cons (Sub.nil 1 none 0) .nil)) (LP a.rs 40000 4000 ha.tr [] (fun x hx=>by cases hx) oz (by show 0<=_;omega))) ?_;refine bF ?_;refine bF ?_;refine gC (fun z=>?_) (fun z=>?_)
 ·have h1:aZ a.rs≠0\/a.bs.length≠l.bo.length:=ZA z;refine af ?_;rw[Mv h1];rfl
 have h1:¬(aZ a.rs≠0\/a.bs.length≠l.bo.length):=Vk z;have hc:aZ a.rs=0:=afk.1 (fun h=>h1 (.inl h));have hln:a.bs.length=l.bo.length:=afk.1 (fun h=>h1 (.inr h));refine gl ?_;refine aL [1,3,5,6,29] [3,5,6] (fun(i:Nat)=>[pP 30 (i64 i)]) (fun _=>[]) (fun i=>i<=a.bs.length/\∀j,j<i->iu a.rs j (a.bs.getD j default)=true) (fun i=>a.bs.length-i) 0 ⟨afz _,fun j h=>by omega⟩ ?_;rintro i ⟨hi,hj⟩ K1 J1;refine gC (fun z=>?_) (fun z=>?_)
 ·have hin:=aY z;obtain⟨b,hb⟩:=ay hin;have hbd:a.bs.getD i default=b:=ax hb;refine gc (Qu ha hc hb) ?_;refine gC (fun z=>?_) (fun z=>?_)
  ·have h2:=cm z;refine af ?_;rw[KN h1 (fS hin hj (by rw[hbd];exact h2))];rfl
  have h2:=ci z;refine ga aK ?_;exact aH J1 (i+1) ⟨hin,fun j h9=>by rcases afv j i with g |g;exact hj j g;(have:j=i:=by omega);subst this;rw[hbd];exact h2⟩
 have hin:=a7 hi z;subst hin;have f1:=gn hj;have hg:=EO hl hli ha hc hln hj;refine gl ?_;refine aL [1,3,5,6,41,42] [3,5,6] (fun(i:Nat)=>[pP 43 (i64 i)]) (fun _=>[]) (fun i=>i<=l.jo.length/\∀j,j<i->iH l a (l.jo.getD j default)=true) (fun i=>l.jo.length-i) 0 ⟨afz _,fun j h=>by omega⟩ ?_;rintro i ⟨hi2,hj2⟩ K2 J2;refine gC (fun z=>?_) (fun z=>?_)
 ·have hin:=aY z;obtain⟨j,hjt⟩:=ay hin;have hjd:l.jo.getD i default=j:=ax hjt;refine gi (aq hjt) ?_;refine gc (N5 hg hjt) ?_;refine gC (fun z=>?_) (fun z=>?_)
  ·have h2:=cm z;refine af ?_;rw[GP h1 f1 (fS hin hj2 (by rw[hjd];exact h2))];rfl
  have h2:=ci z;refine ga aK ?_;exact aH J2 (i+1) ⟨hin,fun j h9=>by rcases afv j i with g |g;exact hj2 j g;(have:j=i:=by omega);subst this;rw[hjd];exact h2⟩
 have hin:=a7 hi2 z;subst hin;have f2:=gn hj2;obtain⟨tw,hta,h5,hll⟩:=hg.tw;refine gl ?_;refine aL [1,3,5,6,57,58] [3,5,6] (fun(i:Nat)=>[pP 59 (i64 i)]) (fun _=>[]) (fun i=>i<=l.dv.length/\∀j,j<i->lF l xs a j=true) (fun i=>l.dv.length-i) 0 ⟨afz _,fun j h=>by omega⟩ ?_;rintro i ⟨hi3,hj3⟩ K3 J3;refine gC (fun z=>?_) (fun z=>?_)
 ·have hin:=aY z;obtain⟨d,hd⟩:=ay hin;obtain⟨n,b,x,hq⟩:=hg.dr hx hxl hd;obtain⟨dname,dbody⟩:=d;have hqn:dbody=n:=hq.hn;subst hqn;have hqb:({ name:=dname,body:=(n:Int) }:Dr).body=(n:Int):=rfl;have hxo:=hx x (afl hq.gx);have hc1:FP 67 [x.av] (qA (jS x.half x.t.q)):=by have h:=VF x.half hxo.2.2 oz; rw[<- Rt.eq_rt hxo.1 (Tn.ok_valid hxo.2.1)] at h; exact h
  have hs1:FP 68 [x.av] (qA (jO x.half x.t.q)):=by have h:=Yj x.half hxo.2.2 oz;rw[<- Rt.eq_rt hxo.1 (Tn.ok_valid hxo.2.1)]at h;exact h
  have ec:FP 50 [a5 a.rs,nR b.c,nA (sh 0 (jS x.half x.t.q:Rat))] (bl (dX (llq a.rs) (dw (llq a.rs) b.c) (ae (llq a.rs).length (sh 0 (jS x.half x.t.q:Rat))))):=by rw[hta,hq.ec];exact km tw hq.po.c (qW tw.five (Ez hxo.2.2)) oz
  have es:FP 50 [a5 a.rs,nR b.s,nA (sh 0 (jO x.half x.t.q:Rat))] (bl (dX (llq a.rs) (dw (llq a.rs) b.s) (ae (llq a.rs).length (sh 0 (jO x.half x.t.q:Rat))))):=by rw[hta,hq.es];exact km tw hq.po.s (qW tw.five (EK hxo.2.2)) oz
  refine gi (aq hd) ?_;refine gi (aq hq.gb) ?_;refine gi (aq hq.gx) ?_;refine gc hc1 ?_;refine gc (pW ((Ez hxo.2.2).qs oz)) ?_;refine gc ec ?_;refine nw (fun _=>(aq hq.gx)) ?_;refine bn (fun _=>hs1) ?_;refine bn (fun _=>(pW ((EK hxo.2.2).qs oz))) ?_;refine bn (fun _=>es) ?_;refine gD ?_;refine gC (fun z=>?_) (fun z=>?_)
  ·have h2:lF l xs a i=false:=by rw[hq.eq]; unfold q9; rcases nk z with g | g; (rw[g]; rfl); (rw[g,aeu])
   refine af ?_;rw[HZ h1 f1 f2 (fS hin hj3 h2)];rfl
  have h2:lF l xs a i=true:=by rw[hq.eq];unfold q9;have g:=nQ z;rw[g.1,g.2];rfl
  refine ga aK ?_;exact aH J3 (i+1) ⟨hin,fun j h9=>by rcases afv j i with g |g;exact hj3 j g;(have:j=i:=by omega);subst this;exact h2⟩
 have hin:=a7 hi3 z;subst hin;have f3:=gn hj3;refine af ?_;rw[Mr h1 f1 f2 f3];rfl
theorem U3(bs:List Pl)(hl:bs.length<=281474976710656)(f:FuncId)(c:List AV)(ok:Nat->Bool)
  (hf:∀(i:Nat)(b:Pl),bs[i]?=some b->(∀j,j<i->ok j=true)->FP f ([i64 i,b.av]++[.iptr c]) (bl (!ok i))) :
  FP 180 [.lst 4 (bs.map Pl.av),.fn f [.iptr c]] (i64 (kG (bJ bs.length ok))):=by
 refine ai func180 ?_;refine gl ?_;refine aL [1,7,8] [] (fun(i:Nat)=>[pP 9 (i64 i)]) (fun _=>[]) (fun i=>i<=bs.length/\∀j,j<i->ok j=true) (fun i=>bs.length-i) 0 ⟨afz _,fun j h=>by omega⟩ ?_;rintro i ⟨hi,hj⟩ K1 J1;refine gC (fun z=>?_) (fun z=>?_)
 ·have hin:=aY z;obtain⟨b,hb⟩:=ay hin;refine gi (aq hb) ?_;refine gs (ur (.tmp rfl) (hf i b hb hj) (ce rfl rfl) aG rfl rfl) ?_;refine gC (fun z=>?_) (fun z=>?_)
  ·have h2:=cm z;refine af ?_;rw[fS hin hj h2];rfl
  have h2:=ci z;refine ga aK ?_;exact aH J1 (i+1) ⟨hin,fun j h9=>by rcases afv j i with g |g;exact hj j g;(have:j=i:=by omega);subst this;exact h2⟩
 have hin:=a7 hi z;subst hin;refine af ?_;rw[gn hj];rfl
theorem XQ(bs:List Jt)(hl:bs.length<=281474976710656)(f:FuncId)(c d:List AV)(ok:Nat->Bool)
  (hf:∀(i:Nat)(b:Jt),bs[i]?=some b->(∀j,j<i->ok j=true)->FP f ([i64 i,b.av]++[.iptr c,.iptr d]) (bl (!ok i))) :
  FP 184 [.lst 7 (bs.map Jt.av),.fn f [.iptr c,.iptr d]] (i64 (kG (bJ bs.length ok))):=by
 refine ai func184 ?_;refine gl ?_;refine aL [1,7,8] [] (fun(i:Nat)=>[pP 9 (i64 i)]) (fun _=>[]) (fun i=>i<=bs.length/\∀j,j<i->ok j=true) (fun i=>bs.length-i) 0 ⟨afz _,fun j h=>by omega⟩ ?_;rintro i ⟨hi,hj⟩ K1 J1;refine gC (fun z=>?_) (fun z=>?_)
 ·have hin:=aY z;obtain⟨b,hb⟩:=ay hin;refine gi (aq hb) ?_;refine gs (ur (.tmp rfl) (hf i b hb hj) (ce rfl rfl) aG rfl rfl) ?_;refine gC (fun z=>?_) (fun z=>?_)
  ·have h2:=cm z;refine af ?_;rw[fS hin hj h2];rfl
  have h2:=ci z;refine ga aK ?_;exact aH J1 (i+1) ⟨hin,fun j h9=>by rcases afv j i with g |g;exact hj j g;(have:j=i:=by omega);subst this;exact h2⟩
 have hin:=a7 hi z;subst hin;refine af ?_;rw[gn hj];rfl
theorem aal(bs:List Dr)(hl:bs.length<=281474976710656)(f:FuncId)(c d:List AV)(ok:Nat->Bool)
  (hf:∀(i:Nat)(b:Dr),bs[i]?=some b->(∀j,j<i->ok j=true)->FP f ([i64 i,b.av]++[.iptr c,.iptr d]) (bl (!ok i))) :
  FP 187 [.lst 2 (bs.map Dr.av),.fn f [.iptr c,.iptr d]] (i64 (kG (bJ bs.length ok))):=by
 refine ai func187 ?_;refine gl ?_;refine aL [1,7,8] [] (fun(i:Nat)=>[pP 9 (i64 i)]) (fun _=>[]) (fun i=>i<=bs.length/\∀j,j<i->ok j=true) (fun i=>bs.length-i) 0 ⟨afz _,fun j h=>by omega⟩ ?_;rintro i ⟨hi,hj⟩ K1 J1;refine gC (fun z=>?_) (fun z=>?_)
 ·have hin:=aY z;obtain⟨b,hb⟩:=ay hin;refine gi (aq hb) ?_;refine gs (ur (.tmp rfl) (hf i b hb hj) (ce rfl rfl) aG rfl rfl) ?_;refine gC (fun z=>?_) (fun z=>?_)
  ·have h2:=cm z;refine af ?_;rw[fS hin hj h2];rfl
  have h2:=ci z;refine ga aK ?_;exact aH J1 (i+1) ⟨hin,fun j h9=>by rcases afv j i with g |g;exact hj j g;(have:j=i:=by omega);subst this;exact h2⟩
 have hin:=a7 hi z;subst hin;refine af ?_;rw[gn hj];rfl
theorem QB{a:As}(ha:AL a)(h1:aZ a.rs=0){i:Nat}{b:Pl}(hbn:∀x∈b.l,NR x 4000) :
  cond (!(decide (aQ a.rs b.l=0)&&qD (llq a.rs) b)) true (cond (aa .eql (i:Int) 0) (!yu a.rs b) false)=!iu a.rs i b:=by
 unfold iu
 by_cases h:aQ a.rs b.l=0
 ·have hs:yu a.rs b=vA (llq a.rs) b vq:=by
   have h2:=(gL h).2;unfold yu mT vA;rw[h2 b.c (by simp[Pl.l]),h2 b.s (by simp[Pl.l]),h2 b.x (by simp[Pl.l]),h2 b.y (by simp[Pl.l])];rfl
  rw[hs,ag3 h,aet,aet]
  have e:aa .eql (i:Int) 0=!decide (0<i):=by
   rw[ql,<- decide_not];exact decide_eq_decide.2 oz
  rw[e];cases qD (llq a.rs) b <;> cases decide (0<i) <;> cases vA (llq a.rs) b vq <;> rfl
 ·rw[ag4 h];rfl
theorem abp{a:As}(ha:AL a)(h1:aZ a.rs=0){i:Nat}{b:Pl}(hb:a.bs[i]?=some b):FP 181 [i64 i,b.av,.iptr a.av.cells] (bl (!iu a.rs i b)):=by
 have hbn:=ha.nr b (afl hb);refine ai func181 ?_;refine gc (TD ha.tr h1 hbn) ?_;refine bn (fun _=>(QG ha.tr h1 hbn)) ?_;refine af ?_;exact ag6 bl (QB ha h1 hbn)
theorem aaj{l:Li}{a:As}(hg:Good l a){i:Nat}{j:Jt}(hj:l.jo[i]?=some j):FP 185 [i64 i,j.av,.iptr l.av.cells,.iptr a.av.cells] (bl (!iH l a j)):=by
 refine ai func185 ?_;refine gc (Vl hg hj) ?_;refine af ?_;rfl
theorem WX{l:Li}{a:As}(hg:Good l a){xs:List Tn}(hx:∀x∈xs,x.t.ok/\x.err=0/\Qb 1000 x.t.q)(hxl:xs.length=l.dv.length){i:Nat}{d:Dr}(hd:l.dv[i]?=some d) :
  FP 188 [i64 i,d.av,.iptr a.av.cells,.iptr [.lst 4 (xs.map Tn.av)]] (bl (!lF l xs a i)):=by
 have hld:=hg.lo.ld;have hin:=(adw.1 hd).1;obtain⟨tw,hta,h5,hll⟩:=hg.tw;have hbl:=hg.al.bl;obtain⟨n,b,x,hq⟩:=hg.dr hx hxl hd;obtain⟨dname,dbody⟩:=d;have hqn:dbody=n:=hq.hn;subst hqn;have hqb:({ name:=dname,body:=(n:Int) }:Dr).body=(n:Int):=rfl;have hnl:=(adw.1 hq.gb).1;have hxo:=hx x (afl hq.gx);have ht:FP 189 [a5 a.rs,b.av,x.av] (bl (q9 (llq a.rs) b x)):=by rw[hta,hq.av];exact Qv tw hq.po hxo.1 hxo.2.1 hxo.2.2
 refine ai func188 ?_;refine gi (aq hq.gb) ?_;refine gi (aq hq.gx) ?_;refine gc ht ?_;refine gD ?_;refine af ?_;rw[hq.eq];rfl
theorem Ua{l:Li}(hl:l.ok)(hli:ao l=0)(xs:List Tn)(hx:∀x∈xs,x.t.ok/\x.err=0/\Qb 1000 x.t.q)(hxl:xs.length=l.dv.length){a:As}(ha:AL a):FP 85 [l.av,.lst 4 (xs.map Tn.av),a.av] (vd (cA l xs a)):=by
 have hbl:=ha.bl;refine ai func85 ?_ (1,0);refine gW ((Wk.freezeB (k:=3) rfl rfl).trans<|(Wk.freezeB (k:=4) rfl rfl).trans<|(Wk.freezeB (k:=5) rfl rfl).trans<|Wk.o (sl:=[pP 3 (.iptr l.av.cells),pP 4 (.iptr [.lst 4 (xs.map Tn.av)]),pP 5 (.iptr a.av.cells),pP 6 (.ptr 6 0)]) (hp:=[pP 6 (.box [i64 0,i64 0])])) ?_;refine gc (zG a.rs 40000 ha.tr) ?_;refine bF ?_;refine bF ?_;refine gC (fun z=>?_) (fun z=>?_)
 ·have h1:aZ a.rs≠0\/a.bs.length≠l.bo.length:=Tb z;refine af ?_;rw[Mv h1];rfl
 have h1:¬(aZ a.rs≠0\/a.bs.length≠l.bo.length):=Wb z;have hc:aZ a.rs=0:=afk.1 (fun h=>h1 (.inl h));have hln:a.bs.length=l.bo.length:=afk.1 (fun h=>h1 (.inr h));refine gc (U3 a.bs oz 181 a.av.cells (fun i=>iu a.rs i (a.bs.getD i default)) (fun i b hb _=>by have h:=abp ha hc hb;rw[<- ax (d:=default) hb]at h ⊢;exact h)) ?_;refine gC (fun z=>?_) (fun z=>?_)
 ·obtain⟨i,hi⟩:=Dh z;refine af ?_;rw[KN h1 hi,hi];rfl
 have f1:=Eu z;have hg:=EO hl hli ha hc hln (wX f1);refine gc (XQ l.jo hl.lj 185 l.av.cells a.av.cells (fun i=>iH l a (l.jo.getD i default)) (fun i j hj _=>by have h:=aaj hg hj;rw[<- ax (d:=default) hj]at h ⊢;exact h)) ?_;refine gC (fun z=>?_) (fun z=>?_)
 ·obtain⟨i,hi⟩:=Dh z;refine af ?_;rw[GP h1 f1 hi,hi];rfl
 have f2:=Eu z;refine gc (aal l.dv hl.ld 188 a.av.cells [.lst 4 (xs.map Tn.av)] (lF l xs a) (fun i d hd _=>WX hg hx hxl hd)) ?_;refine gC (fun z=>?_) (fun z=>?_)
 ·obtain⟨i,hi⟩:=Dh z;refine af ?_;rw[HZ h1 f1 f2 hi,hi];rfl
 have f3:=Eu z;refine af ?_;rw[Mr h1 f1 f2 f3];rfl
theorem S1{l:Li}(hl:l.ok)(xs:List Tn)(hx:∀x∈xs,x.t.ok/\Qb 1000 x.t.q)(hxl:xs.length<=281474976710656){a:As}(ha:AL a) :
  FP 24 [l.av,.lst 4 (xs.map Tn.av),a.av] (.tup [bl (decide (dm l xs=0)&&decide ((cA l xs a).1=0)),vd (if dm l xs=0 then cA l xs a else(0,0)),cf (dm l xs)]):=by
 have hld:=hl.ld;refine ai func24 ?_;refine gc (Bi l hl) ?_;refine gC (fun z=>?_) (fun z=>?_)
 ·have h1:=eQ z;have hb:dm l xs≠0:=by rw[B3 h1]; exact h1
  refine rj ?_;rw[agy hb,ag4 hb,B3 h1];rfl
 have h1:=fd z;refine gl ?_;refine gl ?_;refine gC (fun z=>?_) (fun z=>?_)
 ·have h2:xs.length≠l.dv.length:=by have:=m8 z; omega
  have hb:dm l xs≠0:=by rw[CU h1 h2];decide
  refine rj ?_;rw[agy hb,ag4 hb,CU h1 h2];rfl
 have h2:xs.length=l.dv.length:=by have:=ss z;omega
 refine gl ?_;refine aL [1,3,5,7,28,29] [3,5,7] (fun(i:Nat)=>[pP 30 (i64 i)]) (fun _=>[]) (fun i=>i<=xs.length/\∀x∈xs.take i,x.err=0) (fun i=>xs.length-i) 0 ⟨afz _,fun x hx=>by simp at hx⟩ ?_;rintro i ⟨hi,hj⟩ K1 J1;refine gC (fun z=>?_) (fun z=>?_)
 ·have hin:=aY z;obtain⟨x,hxx⟩:=ay hin;refine gi (aq hxx) ?_;refine gc (zT x (hx x (afl hxx)).1) ?_;refine gC (fun z=>?_) (fun z=>?_)
  ·have h3:=eQ z;have hb:dm l xs≠0:=by rw[Ax h1 h2 hxx hj h3]; exact h3
   refine rj ?_;rw[agy hb,ag4 hb,Ax h1 h2 hxx hj h3];rfl
  have h3:=fd z;refine ga aK ?_;exact aH J1 (i+1) ⟨hin,fun y hy=>by rw[eH hxx]at hy;rcases aft.1 hy with h9 |h9;exact hj y h9;(rw[adc.1 h9];exact h3)⟩
 have hin:=a7 hi z;subst hin;rw[af1]at hj;have hb:=JT h1 h2 hj;refine gc (Ua hl h1 xs (fun x h9=>⟨(hx x h9).1,hj x h9,(hx x h9).2⟩) h2 ha) ?_;refine gs (KQ (.tmp rfl) (.tmp rfl) (by kernel_rfl) rfl) ?_;refine gD ?_;refine rj ?_;rw[hb,agz rfl,Pf];rfl
def aR(a:As):Aq:=⟨llq a.rs,dJ a,a.ms⟩
theorem Tr{l:Li}{a:As}(hg:Good l a):[AV.lst 1 (a.rs.map nR),.lst 4 (a.bs.map Pl.av),.lst 1 (a.ms.map i64)]=(aR a).cs:=by
 have h1:=hg.tw.2.1;unfold a5 aB at h1;have h2:=AV.agg.inj h1
 injection h2 with h3
 have h4:a.bs.map Pl.av=(dJ a).map Pq.av:=by
  unfold dJ;rw[map_map];refine ac3 fun b hb=>?_
  obtain⟨n,hn⟩:=ada hb;exact(hg.pl hn).1
 show _=[AV.lst 1 ((llq a.rs).map nA),.lst 4 ((dJ a).map Pq.av),.lst 1 (a.ms.map i64)];rw[h3,h4]
theorem tT{l:Li}{a:As}(hg:Good l a)(h2:(llq a.rs).length<=2):AqV 4000 120006 l (aR a):=by
 refine⟨hg.lo,hg.li,⟨40000,hg.tw.1,?_⟩,h2,?_,?_⟩
 ·have h:=jX 40000 h2;have h3:eB 40000 2=120006:=by decide
  show eB 40000 (llq a.rs).length<=_;omega
 ·show(dJ a).length=_;unfold dJ;rw[afm];exact hg.ln
 ·intro p hp;have hp:p∈dJ a:=hp;unfold dJ at hp;obtain⟨b,hb,rfl⟩:=ac6.1 hp;obtain⟨n,hn⟩:=ada hb;exact(hg.pl hn).2
theorem Ao{l:Li}{xs:List Tn}{a:As}(hg:Good l a)(h:(cA l xs a).1=0):∀j∈l.jo,JH l (aR a).ts (aR a).bs j:=by
 intro j hj
 have hB:iH l a j=true:=by
  unfold cA at h;split at h
  ·cases h
  ·split at h
   ·cases h
   ·split at h
    ·cases h
    ·rename_i h3;obtain⟨i,hi⟩:=ada hj;have h9:=wX h3 i (adw.1 hi).1
     rwa [ax hi]at h9
 have e:∀b pt,ez l a b pt=bt l (llq a.rs) (dJ a) b pt:=fun b pt=>gS l a b pt
 unfold iH at hB;unfold JH;rw[e,e]at hB;show if j.kind=0 then aC ((bt l (llq a.rs) (dJ a) j.a j.point).1-(bt l (llq a.rs) (dJ a) j.b j.on).1)=0/\aC ((bt l (llq a.rs) (dJ a) j.a j.point).2-(bt l (llq a.rs) (dJ a) j.b j.on).2)=0 else _;split
 ·rename_i hk;rw[agz hk,afp]at hB;exact⟨ag1 hB.1,ag1 hB.2⟩
 ·rename_i hk;rw[agy hk,e]at hB;exact ag1 hB
theorem Ay{r n:Nat}(h2:n<=2)(hr:eB r n<=120006):iB r n (24*4000+18*120006+16085)<=49000000:=by
 match n,h2,hr with
 |0,_,_=>simp only[iB];omega
 |1,_,hr=>simp only[iB,eB]at hr ⊢;omega
 |2,_,hr=>simp only[iB,eB]at hr ⊢;omega
theorem rH{m:Nat}(h:m<4):30*vB 4000 120006 49000000 m+30*4000+30*120006+49000000<=199999970000:=by
 match m,h with
 |0,_=>decide
 |1,_=>decide
 |2,_=>decide
 |3,_=>decide
theorem CT{l:Li}{a:Aq}(hs:(cM l a (splitG l).length).length=0):∀g∈splitG l,g.kind≠0->aC (de l a.ts a.bs g)≠0:=by
 intro g hgm _ h0;obtain⟨k,hk2⟩:=ada hgm;have hkl:=(adw.1 hk2).1
 have h1:(k:Int)∈cM l a (splitG l).length:=by
  unfold cM;exact ac6.2 ⟨k,adh.2 ⟨ac5.2 hkl,ag3 (by rw[ax hk2];exact h0)⟩,rfl⟩
 rw[ac9 hs]at h1;cases h1
theorem XN{l:Li}{a:Aq}(hp:fC a.ts)(hJ:∀j∈l.jo,JH l a.ts a.bs j)(hli:ao l=0)(hs:(cM l a (splitG l).length).length=0):∀g∈splitG l,Dt l a g :=
 fun g hgm=>MS hp hJ (i9 hli hgm).1 (CT hs g hgm)
theorem Iw{l:Li}{a:As}(hg:Good l a)(h2:(llq a.rs).length<=2):AqS l (aR a) :=
 ⟨hg.li,⟨40000,by omega,hg.tw.1⟩,h2,fun p hp=>((tT hg h2).bs p hp).up (afq _) hg.tw.1.five oz,(tT hg h2).ln⟩
theorem BB{l:Li}{a:As}(hg:Good l a):a.av=(aR a).av:=ag6 AV.agg (Tr hg)
def lh(l:Li)(xs:List Tn)(a:As)(drv:Int):Nat:=gI l (dm l xs) (decide (dm l xs=0)&&decide ((cA l xs a).1=0)) drv (cM l (aR a) (splitG l).length)
theorem OA{l:Li}(hl:l.ok)(xs:List Tn)(hx:∀x∈xs,x.t.ok/\Qb 1000 x.t.q)(hxl:xs.length<=281474976710656){a:As}(ha:AL a)(h2:d8 l xs a=0->(llq a.rs).length<=2)(hn:d8 l xs a=0->(splitG l).length<=4)(drv:Int) :
  FP 37 [l.av,.lst 4 (xs.map Tn.av),a.av,i64 drv] (.tup [.lst 3 (lK l (aR a) drv (lh l xs a drv)),cf (lh l xs a drv)]):=by
 have hcv:=S1 hl xs hx hxl ha
 have key:ao l=0->splitE l=0->dm l xs=0->(decide (dm l xs=0)&&decide ((cA l xs a).1=0))=true->d8 l xs a=0/\Good l a/\(cA l xs a).1=0:=by
  intro h1 h3 h4 h5;rw[afp]at h5;have h6:=ag1 h5.2;exact⟨zU h1 h3 h4 h6,wP hl h1 ha h6,h6⟩
 unfold lh;refine aat hl xs a drv (E:=4000) (K:=120006) (I:=49000000) (fun _ _=>hcv) (fun h1 h3 h4 h5=>?_) ?_ (fun h1 h3 h4 h5 h7=>?_) (fun h9 r hr=>Ay h9 hr) (fun m hm=>rH hm) (fun h1 h3 h4 h5=>hn (key h1 h3 h4 h5).1)
 ·obtain⟨h6,hg,h8⟩:=key h1 h3 h4 h5;rw[h5,h4,BB hg]at hcv;rw[BB hg];exact Xx hl (Iw hg (h2 h6)) h3 hcv
 ·intro h;have h1:=xL l (aR a) (splitG l).length;have:=(nD h).2;omega
 ·obtain⟨h6,hg,h8⟩:=key h1 h3 h4 h5;exact⟨BB hg,tT hg (h2 h6),XN hg.tw.1.pos (Ao hg h8) h1 h7⟩
abbrev qN(p:Rat×Rat):AV:=aw (sh 0 (p.1:Rat)) (sh 0 (p.2:Rat))
abbrev eN{ts:LL}(p:Et ts×Et ts):AV:=aw (sX p.1) (sX p.2)
theorem pi{l:Li}(hl:l.ok)(hli:ao l=0){body pt:Int}(h1:aT body l.bo.length=true)(h2:aT pt (bW l body).length=true):FP 355 [l.av,i64 body,i64 pt] (qN (aJ l body pt)):=by
 obtain⟨n,k,bd,m,mp⟩:=oV hl hli h1 h2;have hn:=mp.hn;have hk:=mp.hk;have hlb:=hl.lb;have ho:=Hx (mp.sm.x.qs oz) (mp.sm.y.qs oz);have ho:FP 55 [m.x.av,m.y.av] (qN (aJ l body pt)):=by rw[mp.ex,mp.ey];exact ho
 refine ai func355 ?_;refine gi (bY (n:=n) hn mp.gbd) ?_;refine gi (bY (n:=k) hk mp.gm) ?_;refine gc ho ?_;refine af ?_;rfl
theorem B9{E:Nat}(hE:E<=20000000000){l:Li}{a:As}(D:DyW l a)(h3:(llq a.rs).length<=2){body pt:Int}(h1:aT body l.bo.length=true)(h2:aT pt (bW l body).length=true)(hb:Pd E a body) :
  FP 354 [l.av,a.av,i64 body,i64 pt] (eN (bb l a body pt)):=by
 obtain⟨n,k,bd,m,b,hp⟩:=uq D.hl D.li D.al D.hc h1 h2 hb;obtain⟨tw,hta⟩:=bZ D.al.tr D.hc;have kb:=rO h3;have hlm:lm (llq a.rs).length=200000000000:=by unfold lm;rw[agz h3]
 have hlb:=D.hl.lb;have hbl:=D.al.bl;show FP _ _ (aw (sh (llq a.rs).length (ez l a body pt).1) (sh (llq a.rs).length (ez l a body pt).2));rw[hp.eq];have hn:=hp.mp.hn;have hk:=hp.mp.hk
 have hat:FP 253 [a5 a.rs,b.av,m.x.av,m.y.av] (aw (sh (llq a.rs).length (gU (llq a.rs) b m).1) (sh (llq a.rs).length (gU (llq a.rs) b m).2)):=by
  rw[hta,hp.av,hp.mp.ex,hp.mp.ey];have h9:=Jj tw (hp.ok.c.mono hE) (hp.ok.s.mono hE) (hp.ok.x.mono hE) (hp.ok.y.mono hE) (hp.mp.sm.x.mono (f:=20000000000) oz) (hp.mp.sm.y.mono (f:=20000000000) oz) (by rw[hlm];omega);unfold gU;rw[hp.mp.ex,hp.mp.ey,bq,bq];exact h9
 refine ai func354 ?_;refine gi (bY (n:=n) hn hp.mp.gbd) ?_;refine gi (bY (n:=k) hk hp.mp.gm) ?_;refine gi (bY (n:=n) hn hp.gb) ?_;refine gc hat ?_;refine gD ?_;refine af ?_;rfl
theorem Bl{l:Li}{a:As}(D:DyR l a){body pt:Int}(h1:aT body l.bo.length=true)(h2:aT pt (bW l body).length=true)(hb:Pd 3900000 a body) :
  FP 354 [l.av,a.av,i64 body,i64 pt] (eN (bb l a body pt)):=B9 oz D.toDyW D.two h1 h2 hb
theorem re(j:Jt)(b:Int):FP 353 [j.av,i64 b] (.tup [i64 (tY j b),i64 (rX j b),i64 (ou j b)]):=by
 refine ai func353 ?_;refine gC (fun z=>?_) (fun z=>?_)
 ·have e:j.a=b:=cB z;refine gD ?_;refine rj ?_;unfold tY rX ou;rw[agz e,agz e,agz e]
 have e:j.a≠b:=cU z;refine gD ?_;refine rj ?_;unfold tY rX ou;rw[agy e,agy e,agy e]
theorem I6{E:Nat}(hE:E<=20000000000){l:Li}{a:As}(D:DyW l a)(h3:(llq a.rs).length<=2){n:Nat}{j:Jt}(hj:l.jo[n]?=some j){b:Int}(h:PinP E l a j b):FP 354 [l.av,a.av,i64 (rX j b),i64 (ou j b)] (eN (aN l a j b)):=by
 obtain⟨i1,i2,i3,i4,_⟩:=bS D.li hj;unfold aN rX ou;rcases h.tie with⟨e,hb⟩ |⟨e,e2,hb⟩
 ·rw[agz e,agz e,agz e];exact B9 hE D h3 i2 i4 hb
 ·rw[agy e,agy e,agy e];exact B9 hE D h3 i1 i3 hb
theorem xr{l:Li}{a:As}(D:DyR l a){n:Nat}{j:Jt}(hj:l.jo[n]?=some j){b:Int}(h:PinP 3900000 l a j b):FP 354 [l.av,a.av,i64 (rX j b),i64 (ou j b)] (eN (aN l a j b)):=I6 oz D.toDyW D.two hj h
theorem sT{l:Li}(hl:l.ok)(hli:ao l=0){n:Nat}{j:Jt}(hj:l.jo[n]?=some j){b:Int}(h:j.a=b\/j.b=b):FP 355 [l.av,i64 b,i64 (tY j b)] (qN (aO l j b)):=by
 obtain⟨i1,i2,i3,i4,_⟩:=bS hli hj;unfold aO tY
 by_cases e:j.a=b
 ·rw[agz e,agz e];subst e;exact pi hl hli i1 i3
 ·rw[agy e,agy e];rcases h with h |h
  ·exact ag5 h e
  ·subst h;exact pi hl hli i2 i4
theorem Vv{l:Li}(hl:l.ok)(hli:ao l=0){n:Nat}{j:Jt}(hj:l.jo[n]?=some j){i k:Int}(ne:i≠k)(t1:j.a=i\/j.b=i)(t2:j.a=k\/j.b=k):FP 355 [l.av,i64 k,i64 (ou j i)] (qN (aO l j k)):=by
 obtain⟨i1,i2,i3,i4,_⟩:=bS hli hj;unfold aO ou
 by_cases e:j.a=i
 ·rw[agz e,agy oz];obtain rfl:j.b=k:=by omega
  exact pi hl hli i2 i4
 ·rw[agy e,agz oz];obtain rfl:j.a=k:=by omega
  exact pi hl hli i1 i3
abbrev nl:AV:=nS
abbrev iD:List AV:=[nl,nl]
abbrev lS(p:Rat×Rat):List AV:=[nA (sh 0 (p.1:Rat)),nA (sh 0 (p.2:Rat))]
abbrev lT{ts:LL}(p:Et ts×Et ts):List AV:=[nA (sX p.1),nA (sX p.2)]
abbrev Of(l:Li)(a:As)(i k:Int)(j0 j1 j2:Jt):List AV :=
  [i64 1,i64 i,i64 k]++(lT (aN l a j0 i)++(lT (aN l a j1 k)++(lS (aO l j0 i)++(lS (aO l j1 k)++(lS (aO l j2 i)++(lS (aO l j2 k)++(iD++(iD ++
    ([nA (sX (fE (qv (aO l j2 i)) (qv (aO l j0 i)):Et (llq a.rs))),nA (sX (fE (qv (aO l j2 k)) (qv (aO l j1 k)):Et (llq a.rs)))]++(iD++[nl,nl,nA (sX (fE (aN l a j1 k) (aN l a j0 i)))]))))))))))
abbrev QW(l:Li)(a:As)(i:Int)(j0 j:Jt):List AV :=
  [i64 2,i64 i,i64 0]++(lT (aN l a j0 i)++(iD++(lS (aO l j0 i)++(iD++(lS (aJ l i j.point)++(iD++(lT (bb l a j.b j.on)++(lT (bb l a j.b j.to) ++
    ([nA (sX (fE (qv (aJ l i j.point)) (qv (aO l j0 i)):Et (llq a.rs))),nl]++(lT (ah (bb l a j.b j.to) (bb l a j.b j.on))++[nl,nl,nl]))))))))))
abbrev OX(l:Li)(a:As)(i:Int)(j0 j:Jt):List AV :=
  [i64 3,i64 i,i64 0]++(lT (aN l a j0 i)++(lT (bb l a j.a j.point)++(lS (aO l j0 i)++(iD++(iD++(iD++(lS (aJ l i j.on)++(lS (aJ l i j.to) ++
    ([nl,nl]++(lT (ah (qv (aJ l i j.to)) (qv (aJ l i j.on)):Et (llq a.rs)×Et (llq a.rs)) ++
      [nA (sX (a6 (ah (qv (aJ l i j.to)) (qv (aJ l i j.on))) (ah (qv (aJ l i j.on)) (qv (aO l j0 i))):Et (llq a.rs))),nA (sX (aX (ah (qv (aJ l i j.to)) (qv (aJ l i j.on))) (ah (qv (aJ l i j.to)) (qv (aJ l i j.on))):Et (llq a.rs))),nA (sX (fE (bb l a j.a j.point) (aN l a j0 i)))]))))))))))
abbrev GI(l:Li)(a:As)(i:Int)(j0:Jt):List AV :=
  [i64 0,i64 i,i64 0]++(lT (aN l a j0 i)++(iD++(lS (aO l j0 i)++(iD++(iD++(iD++(iD++(iD++([nl,nl]++(iD++[nl,nl,nl]))))))))))
section
variable{ts:LL}{a b a2 b2:List Rat}{x y x2 y2:Et ts}
theorem EU {u k w v w' v' w2 v2 w3 v3:Nat} [c:Ct ts u k] [ha:Zl ts u k a x w v] [hb:Zl ts u k b y w' v'] [ha2:Zl ts u k a2 x2 w2 v2] [hb2:Zl ts u k b2 y2 w3 v3] (h:2*(w+v+(w'+v')+(w2+v2+(w3+v3)))+4<=2500:=by decide) :
  FP 356 [aB ts,aw a b,aw a2 b2] (nA (sX (fE (x,y) (x2,y2)))):=by
 haveI:=ha.zu;haveI:=hb.zu;haveI:=ha2.zu;haveI:=hb2.zu;have h1:=rh (ts:=ts) (a:=a) (b:=b) (a2:=a2) (b2:=b2) oz;have h2:=BH (ts:=ts) (a:=sX (x-x2)) (b:=sX (y-y2)) (a2:=sX (x-x2)) (b2:=sX (y-y2)) oz;refine ai func356 ?_;refine gc h1 ?_;refine gc h2 ?_;refine af ?_;rfl
end
theorem tW{ts:LL}(c:Ct ts 310000 132100){p:Rat×Rat}(hp:Sm 1000 p):Zl ts 310000 132100 (sh 0 (p.1:Rat)) (qE p.1) 1 0/\Zl ts 310000 132100 (sh 0 (p.2:Rat)) (qE p.2) 1 0:=by
 haveI:=c;haveI:=JR (w:=1) (hp.x) oz;haveI:=JR (w:=1) (hp.y) oz;exact⟨ag7,ag7⟩
theorem Bb{a:As}{l:Li}(D:DyR l a){p q:Rat×Rat}(hp:Sm 1000 p)(hq:Sm 1000 q):FP 356 [a5 a.rs,qN p,qN q] (nA (sX (fE (qv p) (qv q):Et (llq a.rs)))):=by
 haveI c:=D.s.ct D.hc;obtain⟨z1,z2⟩:=tW c hp;obtain⟨z3,z4⟩:=tW c hq;have h:=EU (ts:=llq a.rs) (u:=310000) (k:=132100) (a:=sh 0 (p.1:Rat)) (b:=sh 0 (p.2:Rat)) (a2:=sh 0 (q.1:Rat)) (b2:=sh 0 (q.2:Rat)) (by decide);rw[<- (bZ D.s.tr D.hc).2]at h;exact h
theorem GO{a:As}{l:Li}(D:DyR l a){p q:Et (llq a.rs)×Et (llq a.rs)}(h1:Zu 310000 132100 p.1 40 40)(h2:Zu 310000 132100 p.2 40 40)(h3:Zu 310000 132100 q.1 40 40)(h4:Zu 310000 132100 q.2 40 40) :
  FP 356 [a5 a.rs,eN p,eN q] (nA (sX (fE p q))):=by
 haveI c:=D.s.ct D.hc;haveI:=h1;haveI:=h2;haveI:=h3;haveI:=h4
 have h:=EU (ts:=llq a.rs) (u:=310000) (k:=132100) (a:=sX p.1) (b:=sX p.2) (a2:=sX q.1) (b2:=sX q.2) (by decide);rw[<- (bZ D.s.tr D.hc).2]at h;exact h
theorem nT{l:Li}{a:As}{j:Jt}{b:Int}(p0:PinP 3900000 l a j b):j.a=b\/j.b=b:=by rcases p0.tie with h9 |h9;exact .inl h9.1;exact .inr h9.2.1
theorem LH{l:Li}{a:As}(D:DyR l a){n:Nat}{i k z0 z1 z2:Int}{j0 j1 j2:Jt}(hG:(splitG l)[n]?=some ⟨1,[i,k],[z0,z1,z2],0⟩)(hgo:GrOk l ⟨1,[i,k],[z0,z1,z2],0⟩)(P:RrrP 3900000 l a ⟨1,[i,k],[z0,z1,z2],0⟩ i k z0 z1 z2 j0 j1 j2)(ne:i≠k) :
  FP 240 [l.av,i64 n,a.av] (.agg (Of l a i k j0 j1 j2)):=by
 have hsl:=m6 D.li;have hlj:=D.hl.lj;have hj0:=(hgo.j z0 (by simp)).1;have hj1:=(hgo.j z1 (by simp)).1;have hj2:=(hgo.j z2 (by simp)).1;have q0:=k8 D.hl D.li P.h0 (nT P.p0);have q1:=k8 D.hl D.li P.h1 (nT P.p1);have q2:=k8 D.hl D.li P.h2 P.t1;have q3:=k8 D.hl D.li P.h2 P.t2;obtain⟨y1,y2⟩:=oQ D.hl D.li D.al D.s D.hc P.h0 P.p0;obtain⟨y3,y4⟩:=oQ D.hl D.li D.al D.s D.hc P.h1 P.p1;refine ai func240 ?_;refine gc (jU l D.hl D.li) ?_;refine gi (aq hG) ?_;refine gi (rfl) ?_;refine gD ?_;refine gi (rfl) ?_;refine gi (bY (n:=z0.toNat) oz P.h0) ?_;refine gc (re j0 i) ?_;refine gD ?_;refine gc (xr D P.h0 P.p0) ?_;refine gc (sT D.hl D.li P.h0 (nT P.p0)) ?_;refine gD ?_;refine gC (fun z=>?_) (fun z=>?_) (st2:=(16,0))
 ·refine gi (rfl) ?_;refine gi (rfl) ?_;refine gi (bY (n:=z1.toNat) oz P.h1) ?_;refine gc (re j1 k) ?_;refine gD ?_;refine gc (xr D P.h1 P.p1) ?_;refine gc (sT D.hl D.li P.h1 (nT P.p1)) ?_;refine gD ?_;refine gi (rfl) ?_;refine gi (bY (n:=z2.toNat) oz P.h2) ?_;refine gc (re j2 i) ?_;refine gD ?_;refine gc (sT D.hl D.li P.h2 P.t1) ?_;refine gc (Vv D.hl D.li P.h2 ne P.t1 P.t2) ?_;refine gD ?_;refine gc (Bb D q2 q0) ?_;refine gc (Bb D q3 q1) ?_;refine gD ?_;refine gc (GO D y3 y4 y1 y2) ?_;refine af ?_;rfl
 cases z
theorem I4{l:Li}{a:As}(D:DyR l a){n:Nat}{i z0 z1:Int}{j0 j:Jt}(hG:(splitG l)[n]?=some ⟨2,[i],[z0,z1],0⟩)(hgo:GrOk l ⟨2,[i],[z0,z1],0⟩)(P:SlP 3900000 l a ⟨2,[i],[z0,z1],0⟩ 2 i z0 z1 j0 j)(ha:j.a=i)(hb:Pd 3900000 a j.b) :
  FP 240 [l.av,i64 n,a.av] (.agg (QW l a i j0 j)):=by
 have hsl:=m6 D.li;have hlj:=D.hl.lj;have hj0:=(hgo.j z0 (by simp)).1;have hj1:=(hgo.j z1 (by simp)).1;have q0:=k8 D.hl D.li P.h0 (nT P.p0);obtain⟨i1,i2,i3,i4,i5⟩:=bS D.li P.h1;have hown:FP 355 [l.av,i64 i,i64 j.point] (qN (aJ l i j.point)):=by rw[<- ha];exact pi D.hl D.li i1 i3
 have q2:Sm 1000 (aJ l i j.point):=by rw[<- ha];exact iT D.hl D.li i1 i3
 obtain⟨y3,y4⟩:=oE D.hl D.li D.al D.s D.hc i2 (i5 P.hk) hb;obtain⟨y7,y8⟩:=oE D.hl D.li D.al D.s D.hc i2 i4 hb;haveI c:=D.s.ct D.hc;haveI:=y3;haveI:=y4;haveI:=y7;haveI:=y8
 have hs:=rh (ts:=llq a.rs) (u:=310000) (k:=132100) (a:=sX (bb l a j.b j.to).1) (b:=sX (bb l a j.b j.to).2) (a2:=sX (bb l a j.b j.on).1) (b2:=sX (bb l a j.b j.on).2);rw[<- (bZ D.s.tr D.hc).2]at hs;refine ai func240 ?_;refine gc (jU l D.hl D.li) ?_;refine gi (aq hG) ?_;refine gi (rfl) ?_;refine gD ?_;refine gi (rfl) ?_;refine gi (bY (n:=z0.toNat) oz P.h0) ?_;refine gc (re j0 i) ?_;refine gD ?_;refine gc (xr D P.h0 P.p0) ?_;refine gc (sT D.hl D.li P.h0 (nT P.p0)) ?_;refine gD ?_;refine gf ?_;refine gC (fun z=>?_) (fun z=>?_) (st2:=(21,0))
 ·refine gi (rfl) ?_;refine gi (bY (n:=z1.toNat) oz P.h1) ?_;refine gD ?_;refine gc (Bl D i2 i4 hb) ?_;refine gc (Bl D i2 (i5 P.hk) hb) ?_;refine gc hown ?_;refine gD ?_;refine gc (Bb D q2 q0) ?_;refine gc hs ?_;refine af ?_;rfl
 cases z
theorem Ht{l:Li}{a:As}(D:DyR l a){n:Nat}{i z0 z1:Int}{j0 j:Jt}(hG:(splitG l)[n]?=some ⟨3,[i],[z0,z1],0⟩)(hgo:GrOk l ⟨3,[i],[z0,z1],0⟩)(P:SlP 3900000 l a ⟨3,[i],[z0,z1],0⟩ 3 i z0 z1 j0 j)(hj:j.b=i)(hb:Pd 3900000 a j.a) :
  FP 240 [l.av,i64 n,a.av] (.agg (OX l a i j0 j)):=by
 have hsl:=m6 D.li;have hlj:=D.hl.lj;have hj0:=(hgo.j z0 (by simp)).1;have hj1:=(hgo.j z1 (by simp)).1;have q0:=k8 D.hl D.li P.h0 (nT P.p0);obtain⟨i1,i2,i3,i4,i5⟩:=bS D.li P.h1;have ho1:FP 355 [l.av,i64 i,i64 j.on] (qN (aJ l i j.on)):=by rw[<- hj];exact pi D.hl D.li i2 i4
 have ho2:FP 355 [l.av,i64 i,i64 j.to] (qN (aJ l i j.to)):=by rw[<- hj];exact pi D.hl D.li i2 (i5 P.hk)
 have q1:Sm 1000 (aJ l i j.on):=by rw[<- hj];exact iT D.hl D.li i2 i4
 have q2:Sm 1000 (aJ l i j.to):=by rw[<- hj];exact iT D.hl D.li i2 (i5 P.hk)
 obtain⟨y1,y2⟩:=oQ D.hl D.li D.al D.s D.hc P.h0 P.p0;obtain⟨y3,y4⟩:=oE D.hl D.li D.al D.s D.hc i1 i3 hb;haveI c:=D.s.ct D.hc;obtain⟨x1,x2⟩:=tW c q0;obtain⟨x3,x4⟩:=tW c q1;obtain⟨x5,x6⟩:=tW c q2;haveI:=x1.zu;haveI:=x2.zu;haveI:=x3.zu;haveI:=x4.zu;haveI:=x5.zu;haveI:=x6.zu
 have s1:=rh (ts:=llq a.rs) (u:=310000) (k:=132100) (a:=sh 0 ((aJ l i j.to).1:Rat)) (b:=sh 0 ((aJ l i j.to).2:Rat)) (a2:=sh 0 ((aJ l i j.on).1:Rat)) (b2:=sh 0 ((aJ l i j.on).2:Rat));have s2:=BH (ts:=llq a.rs) (u:=310000) (k:=132100) (a:=sX (qE (aJ l i j.to).1-qE (aJ l i j.on).1:Et (llq a.rs))) (b:=sX (qE (aJ l i j.to).2-qE (aJ l i j.on).2:Et (llq a.rs))) (a2:=sX (qE (aJ l i j.to).1-qE (aJ l i j.on).1:Et (llq a.rs))) (b2:=sX (qE (aJ l i j.to).2-qE (aJ l i j.on).2:Et (llq a.rs)));have s3:=rh (ts:=llq a.rs) (u:=310000) (k:=132100) (a:=sh 0 ((aJ l i j.on).1:Rat)) (b:=sh 0 ((aJ l i j.on).2:Rat)) (a2:=sh 0 ((aO l j0 i).1:Rat)) (b2:=sh 0 ((aO l j0 i).2:Rat));have s4:=Mx (ts:=llq a.rs) (u:=310000) (k:=132100) (a:=sX (qE (aJ l i j.to).1-qE (aJ l i j.on).1:Et (llq a.rs))) (b:=sX (qE (aJ l i j.to).2-qE (aJ l i j.on).2:Et (llq a.rs))) (a2:=sX (qE (aJ l i j.on).1-qE (aO l j0 i).1:Et (llq a.rs))) (b2:=sX (qE (aJ l i j.on).2-qE (aO l j0 i).2:Et (llq a.rs)));rw[<- (bZ D.s.tr D.hc).2]at s1 s2 s3 s4;refine ai func240 ?_;refine gc (jU l D.hl D.li) ?_;refine gi (aq hG) ?_;refine gi (rfl) ?_;refine gD ?_;refine gi (rfl) ?_;refine gi (bY (n:=z0.toNat) oz P.h0) ?_;refine gc (re j0 i) ?_;refine gD ?_;refine gc (xr D P.h0 P.p0) ?_;refine gc (sT D.hl D.li P.h0 (nT P.p0)) ?_;refine gD ?_;refine gf ?_;refine gf ?_;refine gC (fun z=>?_) (fun z=>?_) (st2:=(77777,0))
 ·refine gi (rfl) ?_;refine gi (bY (n:=z1.toNat) oz P.h1) ?_;refine gD ?_;refine gc (Bl D i1 i3 hb) ?_;refine gc ho1 ?_;refine gc ho2 ?_;refine gD ?_;refine gc s1 ?_;refine gc s2 ?_;refine gc s3 ?_;refine gc s4 ?_;refine gD ?_;refine gc (GO D y3 y4 y1 y2) ?_;refine af ?_;rfl
 cases z
theorem RQ{E:Nat}(hE:E<=20000000000){l:Li}{a:As}(D:DyW l a)(h3:(llq a.rs).length<=2){n:Nat}{i z0 d:Int}{j0:Jt}(hG:(splitG l)[n]?=some ⟨0,[i],[z0],d⟩)(hgo:GrOk l ⟨0,[i],[z0],d⟩)(h0:l.jo[z0.toNat]?=some j0)(p0:PinP E l a j0 i) :
  FP 240 [l.av,i64 n,a.av] (.agg (GI l a i j0)):=by
 have hsl:=m6 D.li;have hlj:=D.hl.lj;have hj0:=(hgo.j z0 (by simp)).1;refine ai func240 ?_;refine gc (jU l D.hl D.li) ?_;refine gi (aq hG) ?_;refine gi (rfl) ?_;refine gD ?_;refine gi (rfl) ?_;refine gi (bY (n:=z0.toNat) oz h0) ?_;refine gc (re j0 i) ?_;refine gD ?_;refine gc (I6 hE D h3 h0 p0) ?_;refine gc (sT D.hl D.li h0 p0.or) ?_;refine gD ?_;refine gf ?_;refine gf ?_;refine gf ?_;refine af ?_;rfl
theorem I7{l:Li}{a:As}(D:DyR l a){n:Nat}{i z0 d:Int}{j0:Jt}(hG:(splitG l)[n]?=some ⟨0,[i],[z0],d⟩)(hgo:GrOk l ⟨0,[i],[z0],d⟩)(h0:l.jo[z0.toNat]?=some j0)(p0:PinP 3900000 l a j0 i) :
  FP 240 [l.av,i64 n,a.av] (.agg (GI l a i j0)):=RQ oz D.toDyW D.two hG hgo h0 p0
section
variable{ts:LL}{a b c a2 b2 c2:List Rat}{x y z x2 y2 z2:Et ts}
end
theorem DyOk.drv{l:Li}{k:Int}{a:As}{own:Bool}{n:Nat}{g:Gr}(h:DyOk 3900000 l k a own n g)(hk:g.kind=0):∃i z0 d j0,g=⟨0,[i],[z0],d⟩/\l.jo[z0.toNat]?=some j0/\PinP 3900000 l a j0 i:=by
 have hd:=h.dy;cases hd with
 |rrr _ _ _ _ _ _ _=>exact ag5 hk (by simp)
 |pr _ _ _=>exact ag5 hk (by simp)
 |rp _ _ _=>exact ag5 hk (by simp)
 | @drv b z d j x t d0 hd hb=>exact⟨b,z,d,j,rfl,t.hj,h.pin rfl t (by simp) (by simp)⟩
theorem xV{l:Li}{a:As}(D:DyR l a){b:Int}{p:Pl}(hp:a.bs[b.toNat]?=some p)(hn:aQ a.rs p.l=0/\∀x∈p.l,NR x 3900000){q:Rat×Rat}(hq:Sm 1000 q) :
  FP 420 [a5 a.rs,p.av,qN q] (eN (bD a b q)):=by
 have hta:=(bZ D.s.tr D.hc).2;obtain⟨R,tw,kb⟩:=(D.s.ct D.hc).ex;have kb:kB R (llq a.rs).length<=132100:=kb;have h5:a.rs.length<=5:=by have:=tw.five;rwa [jR]at this
 have h9:=mM hn.1 hn.2 h5;have hlm:=dl (llq a.rs).length;obtain⟨e1,ok⟩:=h9;rw[<- jR a.rs]at ok;have nx:=Nm.ofQ ok.c.five (Cb.one (hq.x.mono (f:=4000) oz));have ny:=Nm.ofQ ok.c.five (Cb.one (hq.y.mono (f:=4000) oz));have nX:=oW tw ok.c ok.s nx ny;have nY:=pH tw ok.c ok.s nx ny;obtain⟨K,hK⟩:∃K,kB R (llq a.rs).length=K:=⟨_,rfl⟩
 rw[hK]at nX nY kb;have hadd:=DA (e:=2*(3900000+4000+K)+1) tw nX nY (ok.x.mono oz) (ok.y.mono oz) oz;have htn:=Cl tw ok.c ok.s (nx.mono oz) (ny.mono oz) (by rw[hK];omega);rw[pC,oR]at hadd;rw[<- hta]at hadd htn;unfold bD;rw[ax hp,e1];refine ai func420 ?_;refine gc htn ?_;refine gc hadd ?_;refine gD ?_;refine af ?_;rfl
theorem Ew{ts:LL}(c:Ct ts 310000 132100){p q m n:Et ts×Et ts}(y1:Zu 310000 132100 p.1 40 40)(y2:Zu 310000 132100 p.2 40 40)(y3:Zu 310000 132100 q.1 40 40)(y4:Zu 310000 132100 q.2 40 40)
  (y5:Zu 310000 132100 m.1 40 40) (y6:Zu 310000 132100 m.2 40 40) (y7:Zu 310000 132100 n.1 40 40) (y8:Zu 310000 132100 n.2 40 40) :
  FP 245 [aB ts,eN p,eN q] (eN (ah p q))/\FP 245 [aB ts,eN m,eN n] (eN (ah m n)) /\
  FP 246 [aB ts,eN (ah p q),eN (ah m n)] (nA (sX (a6 (ah p q) (ah m n))))/\FP 247 [aB ts,eN (ah p q),eN (ah m n)] (nA (sX (aX (ah p q) (ah m n)))):=by
 haveI:=c;haveI:=y1;haveI:=y2;haveI:=y3;haveI:=y4;haveI:=y5;haveI:=y6;haveI:=y7;haveI:=y8
 have s1:=rh (ts:=ts) (u:=310000) (k:=132100) (a:=sX p.1) (b:=sX p.2) (a2:=sX q.1) (b2:=sX q.2);have s2:=rh (ts:=ts) (u:=310000) (k:=132100) (a:=sX m.1) (b:=sX m.2) (a2:=sX n.1) (b2:=sX n.2);have s3:=Mx (ts:=ts) (u:=310000) (k:=132100) (a:=sX (p.1-q.1)) (b:=sX (p.2-q.2)) (a2:=sX (m.1-n.1)) (b2:=sX (m.2-n.2));have s4:=BH (ts:=ts) (u:=310000) (k:=132100) (a:=sX (p.1-q.1)) (b:=sX (p.2-q.2)) (a2:=sX (m.1-n.1)) (b2:=sX (m.2-n.2));exact⟨s1,s2,s3,s4⟩
theorem Y8{l:Li}{a:As}(D:DyR l a){kk:Int}{n:Nat}{i k z0 z1 z2:Int}{j0 j1 j2:Jt}(ok:DyOk 3900000 l kk a true n ⟨1,[i,k],[z0,z1,z2],0⟩)(P:RrrP 3900000 l a ⟨1,[i,k],[z0,z1,z2],0⟩ i k z0 z1 z2 j0 j1 j2) :
  FP 352 [l.av,i64 n,a.av] (nA (sX (eU l a ⟨1,[i,k],[z0,z1,z2],0⟩))):=by
 have hbl:=D.al.bl;have hi0:=(ok.ok.b i (by simp)).1;obtain⟨p,hp,hn⟩:=ok.own (b:=i) (by simp);have hil:=(adw.1 hp).1;have q2:=k8 D.hl D.li P.h2 P.t1;obtain⟨y1,y2⟩:=oQ D.hl D.li D.al D.s D.hc P.h0 P.p0;obtain⟨y3,y4⟩:=oQ D.hl D.li D.al D.s D.hc P.h1 P.p1;obtain⟨y5,y6⟩:=zq D.al D.s D.hc (ok.own (b:=i) (by simp)) q2;have c:=D.s.ct D.hc;obtain⟨s1,s2,s3,_⟩:=Ew c y3 y4 y1 y2 y5 y6 y1 y2;rw[<- (bZ D.s.tr D.hc).2]at s1 s2 s3;rw[ON P];refine ai func352 ?_;refine gc (LH D ok.hg ok.ok P ok.ne) ?_;refine gD ?_;refine gi (bY (n:=i.toNat) oz hp) ?_;refine gC (fun z=>?_) (fun z=>?_) (st2:=(6,0))
 ·refine gc s1 ?_;refine gc (xV D hp hn q2) ?_;refine gc s2 ?_;refine gc s3 ?_;refine gD ?_;refine af ?_;rfl
 cases z
theorem aan{l:Li}{a:As}(D:DyR l a){kk:Int}{n:Nat}{i z0 z1:Int}{j0 j:Jt}(ok:DyOk 3900000 l kk a true n ⟨2,[i],[z0,z1],0⟩)(P:SlP 3900000 l a ⟨2,[i],[z0,z1],0⟩ 2 i z0 z1 j0 j)(ha:j.a=i)(hb:Pd 3900000 a j.b) :
  FP 352 [l.av,i64 n,a.av] (nA (sX (eU l a ⟨2,[i],[z0,z1],0⟩))):=by
 have hbl:=D.al.bl;have hi0:=(ok.ok.b i (by simp)).1;obtain⟨p,hp,hn⟩:=ok.own (b:=i) (by simp);have hil:=(adw.1 hp).1;obtain⟨i1,i2,i3,i4,i5⟩:=bS D.li P.h1;have q2:Sm 1000 (aJ l i j.point):=by rw[<- ha];exact iT D.hl D.li i1 i3
 obtain⟨y1,y2⟩:=oQ D.hl D.li D.al D.s D.hc P.h0 P.p0;obtain⟨y3,y4⟩:=oE D.hl D.li D.al D.s D.hc i2 (i5 P.hk) hb;obtain⟨y7,y8⟩:=oE D.hl D.li D.al D.s D.hc i2 i4 hb;obtain⟨y5,y6⟩:=zq D.al D.s D.hc (ok.own (b:=i) (by simp)) q2;have c:=D.s.ct D.hc;obtain⟨s1,s2,_,s4⟩:=Ew c y3 y4 y7 y8 y5 y6 y1 y2;rw[<- (bZ D.s.tr D.hc).2]at s1 s2 s4;rw[Qf P];refine ai func352 ?_;refine gc (I4 D ok.hg ok.ok P ha hb) ?_;refine gD ?_;refine gi (bY (n:=i.toNat) oz hp) ?_;refine gf ?_;refine gC (fun z=>?_) (fun z=>?_) (st2:=(8,0))
 ·refine gc (xV D hp hn q2) ?_;refine gc s2 ?_;refine gc s4 ?_;refine gD ?_;refine af ?_;rfl
 cases z
theorem YI{l:Li}{a:As}(D:DyR l a){kk:Int}{n:Nat}{i z0 z1:Int}{j0 j:Jt}(ok:DyOk 3900000 l kk a true n ⟨3,[i],[z0,z1],0⟩)(P:SlP 3900000 l a ⟨3,[i],[z0,z1],0⟩ 3 i z0 z1 j0 j)(hj:j.b=i)(hb:Pd 3900000 a j.a) :
  FP 352 [l.av,i64 n,a.av] (nA (sX (eU l a ⟨3,[i],[z0,z1],0⟩))):=by
 have hbl:=D.al.bl;have hi0:=(ok.ok.b i (by simp)).1;obtain⟨p,hp,hn⟩:=ok.own (b:=i) (by simp);have hil:=(adw.1 hp).1;obtain⟨i1,i2,i3,i4,i5⟩:=bS D.li P.h1;have q1:Sm 1000 (aJ l i j.on):=by rw[<- hj];exact iT D.hl D.li i2 i4
 have q2:Sm 1000 (aJ l i j.to):=by rw[<- hj];exact iT D.hl D.li i2 (i5 P.hk)
 obtain⟨y1,y2⟩:=oQ D.hl D.li D.al D.s D.hc P.h0 P.p0;obtain⟨y3,y4⟩:=oE D.hl D.li D.al D.s D.hc i1 i3 hb;obtain⟨y5,y6⟩:=zq D.al D.s D.hc (ok.own (b:=i) (by simp)) q1;obtain⟨y7,y8⟩:=zq D.al D.s D.hc (ok.own (b:=i) (by simp)) q2;have c:=D.s.ct D.hc;obtain⟨s1,s2,_,s4⟩:=Ew c y7 y8 y5 y6 y3 y4 y1 y2;rw[<- (bZ D.s.tr D.hc).2]at s1 s2 s4;rw[Wv P hj];refine ai func352 ?_;refine gc (Ht D ok.hg ok.ok P hj hb) ?_;refine gD ?_;refine gi (bY (n:=i.toNat) oz hp) ?_;refine gf ?_;refine gf ?_;refine gC (fun z=>?_) (fun z=>?_) (st2:=(77777,0))
 ·refine gc (xV D hp hn q2) ?_;refine gc (xV D hp hn q1) ?_;refine gc s1 ?_;refine gc s2 ?_;refine gc s4 ?_;refine gD ?_;refine af ?_;rfl
 cases z
theorem Sd{l:Li}{a:As}(D:DyR l a){kk:Int}{n:Nat}{i z0 d:Int}{j0:Jt}(ok:DyOk 3900000 l kk a true n ⟨0,[i],[z0],d⟩)(h0:l.jo[z0.toNat]?=some j0)(p0:PinP 3900000 l a j0 i) :
  FP 352 [l.av,i64 n,a.av] (nA (sh 0 ((1:Int):Rat))):=by
 have hbl:=D.al.bl;have hi0:=(ok.ok.b i (by simp)).1;obtain⟨p,hp,hn⟩:=ok.own (b:=i) (by simp);have hil:=(adw.1 hp).1;refine ai func352 ?_;refine gc (I7 D ok.hg ok.ok h0 p0) ?_;refine gD ?_;refine gi (bY (n:=i.toNat) oz hp) ?_;refine gf ?_;refine gf ?_;refine gf ?_;refine gc (Bh 1 oz) ?_;refine af ?_;rfl
theorem Rg{l:Li}{a:As}(D:DyR l a){k:Int}{n:Nat}{g:Gr}(ok:DyOk 3900000 l k a true n g):FP 352 [l.av,i64 n,a.av] (nA (kQ l a g)):=by
 unfold kQ
 by_cases h0:g.kind=0
 ·obtain⟨i,z0,d,j0,rfl,hj,hp⟩:=ok.drv h0;rw[agz rfl];exact Sd D ok hj hp
 ·rw[agy h0]
  by_cases h1:g.kind=1
  ·obtain⟨i,k2,z0,z1,z2,j0,j1,j2,P⟩:=ok.rrr h1;obtain rfl:=P.eq;exact Y8 D ok P
  ·by_cases h2:g.kind=2
   ·obtain⟨i,z0,z1,j0,j,P,ha,hb⟩:=ok.pr h2;obtain rfl:=P.eq;exact aan D ok P ha hb
   ·obtain⟨i,z0,z1,j0,j,P,_,hj,hb⟩:=ok.rp h0 h1 h2;obtain rfl:=P.eq;exact YI D ok P hj hb
theorem Xl{a b:List Rat}{n:Nat}(ha:a.length=n)(hb:b.length=n):a++b=dj a b n:=by
 unfold dj aP;rw[ha,hb,Nat.sub_self];simp
theorem Oa{ts:LL}{j e:Nat}{a:List Rat}{q:Rat}(h5:j<=5)(ha:Nl j a)(ca:Cb e a)(he:e<4398046511104)(hs:sh j (ae j a)=[q])(hq:q≠0) :
  FP 422 [aB ts,nA a] (nA [1/q]):=by
 have cs:=ca.sh ha;rw[hs]at cs;have qq:Qs q:=cs.qs he (by simp);have hsh:=kz a h5 ha;rw[hs]at hsh;have hdv:=IC (rt 1) (rt q) (Qb.one.qs oz).ok qq.ok;rw[bq,bq,agy hq]at hdv;refine ai func422 ?_;refine gc hsh ?_;refine gl ?_;refine gC (fun z=>?_) (fun z=>?_) (st2:=(77777,0))
 ·refine gc (sE 1 oz) ?_;refine gi rfl ?_;refine gc hdv ?_;refine gD ?_;refine af ?_;rfl
 cases z
theorem OG{ts:LL}{m r:Nat}(ht:f8 ts m r)(hp:eA (am ts) m)(hm:m<=5)(hml:m<=ts.length){j e i:Nat}{a s L:List Rat}(h5:j<=5)(ha:Nl j a)(ca:Cb e a)(he:4*e+3*eB r i+r+1<4398046511104)(hs:sh j (ae j a)=s)(hi:i+1<=m)
  (hsl:s.length=2^(i+1)) (hb:sB r i (4*e+3*eB r i+r+1)<4398046511104) (h0:T.sgn (am ts) i (ae i (kP ts i s))=0)
  (hL:FP 422 [aB ts,nA (bN (s.take (2^i)) (s.take (2^i)))] (nA L)):FP 422 [aB ts,nA a] (nA L):=by
 have cs:=ca.sh ha;have hsh:=kz a h5 ha;rw[hs]at cs hsh;have hp2:=abw i;have hpi:2^i<=32:=bU (b:=5) oz;have hps:2^(i+1)=2*2^i:=by rw[acq];omega
 obtain⟨nn,dn,cn⟩:=yw hm ht oz hsl cs;have hR:∀z,z<m->(ts.map nA)[z]?=some (nA (ts.getD z [])):=fun z hz=>lW oz
 have k4:=rJ ts m r ht hm hp (ts.map nA) hR i _ _ oz nn cn hb;have qs:∀q∈s.take (2^i),Qs q:=fun q hq=>cs.take.qs oz hq
 refine ai func422 ?_;refine gc hsh ?_;refine gl ?_;refine gC (fun y=>?_) (fun y=>?_) (st1:=(4,0));exact ag5 y (by simp only[aa,beq_iff_eq];omega);refine gs (eh (.tmp rfl) (.const _) oz (show _=((2^i:Nat):Int) by rw[fi oz,hsl,eI]) rfl) ?_;refine gs (co (.tmp rfl) (.none _) (.some _ (.tmp rfl) oz) T53 rfl T106 rfl oz (by simp only[afm];omega) rfl) ?_;refine gs (eh (.tmp rfl) (.const _) oz (show _=((2^i:Nat):Int) by rw[fi oz,hsl,eI]) rfl) ?_;refine gs (co (.tmp rfl) (.some _ (.tmp rfl) oz) (.none _) T53 rfl T106 rfl (by simp only[afm];omega) oz rfl) ?_;refine gD ?_ (7,0);refine gW (Wk.of (sl:=[pP 1 (nA s),pP 2 (.ptr 2 0),pP 5 (i64 s.length),pP 8 (nA (s.take (2^i))),pP 9 (nA (s.drop (2^i)))]) (hp:=[pP 2 (.box [.lst 1 (ts.map nA)])]) (.k (.k (.k (.cons rfl (Sub.of (kg s (2^i))) (.cons rfl (Sub.of (kT s (2^i))) .nil))))) (.k .nil)) ?_;refine gc (zO ts m r ht hm (ts.map nA) hR i s.length s e oz hsl hsl cs oz) ?_;refine gc k4 ?_;refine gC (fun y=>?_) (fun y=>?_) (st2:=(77777,0))
 ·refine gc (p6 _ _ qs qs (by simp;omega) (by simp;omega)) ?_;refine gc hL ?_;refine gD ?_;refine af ?_;rfl
 exact ag5 y (by rw[h0];decide)
theorem Vh{ts:LL}{m r:Nat}(ht:f8 ts m r)(hp:eA (am ts) m)(hm:m<=5)(hml:m<=ts.length){j e f i:Nat}{a s L:List Rat}(h5:j<=5)(ha:Nl j a)(ca:Cb e a)(he:4*e+3*eB r i+r+1<4398046511104)(hs:sh j (ae j a)=s)(hi:i+1<=m)
  (hsl:s.length=2^(i+1)) (hb:sB r i (4*e+3*eB r i+r+1)<4398046511104) (h0:T.sgn (am ts) i (ae i (kP ts i s))≠0)
  (hL:FP 422 [aB ts,nA (kP ts i s)] (nA L)) (nL:Nl i L) (cL:Cb f L) (hf:e+f+eB r (i+1)<4398046511104) :
  FP 422 [aB ts,nA a] (nA (rT ts (i+1) (dj (s.take (2^i)) (b8 (s.drop (2^i))) (2^i)) L)):=by
 have cs:=ca.sh ha;have hsh:=kz a h5 ha;rw[hs]at cs hsh;have hp2:=abw i;have hpi:2^i<=32:=bU (b:=5) oz;have hps:2^(i+1)=2*2^i:=by rw[acq];omega
 obtain⟨nn,dn,cn⟩:=yw hm ht oz hsl cs;have hR:∀z,z<m->(ts.map nA)[z]?=some (nA (ts.getD z [])):=fun z hz=>lW oz
 have k4:=rJ ts m r ht hm hp (ts.map nA) hR i _ _ oz nn cn hb;have qy:∀q∈s.drop (2^i),Qs q:=fun q hq=>cs.drop.qs oz hq
 have lx:(s.take (2^i)).length=2^i:=fB hsl;have ly:(s.drop (2^i)).length=2^i:=fJ hsl;have nj:Nl (i+1) (dj (s.take (2^i)) (b8 (s.drop (2^i))) (2^i)):=.inr ⟨i+1,afq _,by rw[mD oz (by rw[fO];omega)];omega⟩;have cj:Cb e (dj (s.take (2^i)) (b8 (s.drop (2^i))) (2^i)):=zd cs;have hti:=ra ts m r ht hm (ts.map nA) hR (i+1) (i+1) _ _ e f hi (afq _) nj (nL.mono oz) cj cL hf;rw[<- Xl lx (by rw[fO];exact ly)]at hti ⊢;refine ai func422 ?_;refine gc hsh ?_;refine gl ?_;refine gC (fun y=>?_) (fun y=>?_) (st1:=(4,0));exact ag5 y (by simp only[aa,beq_iff_eq];omega);refine gs (eh (.tmp rfl) (.const _) oz (show _=((2^i:Nat):Int) by rw[fi oz,hsl,eI]) rfl) ?_;refine gs (co (.tmp rfl) (.none _) (.some _ (.tmp rfl) oz) T53 rfl T106 rfl oz (by simp only[afm];omega) rfl) ?_;refine gs (eh (.tmp rfl) (.const _) oz (show _=((2^i:Nat):Int) by rw[fi oz,hsl,eI]) rfl) ?_;refine gs (co (.tmp rfl) (.some _ (.tmp rfl) oz) (.none _) T53 rfl T106 rfl (by simp only[afm];omega) oz rfl) ?_;refine gD ?_ (7,0);refine gW (Wk.of (sl:=[pP 1 (nA s),pP 2 (.ptr 2 0),pP 5 (i64 s.length),pP 8 (nA (s.take (2^i))),pP 9 (nA (s.drop (2^i)))]) (hp:=[pP 2 (.box [.lst 1 (ts.map nA)])]) (.k (.k (.k (.cons rfl (Sub.of (kg s (2^i))) (.cons rfl (Sub.of (kT s (2^i))) .nil))))) (.k .nil)) ?_;refine gc (zO ts m r ht hm (ts.map nA) hR i s.length s e oz hsl hsl cs oz) ?_;refine gc k4 ?_;refine gC (fun y=>?_) (fun y=>?_) (st1:=(9,0));exact ag5 y (by simp only[aa,beq_iff_eq];omega);refine gs (j4 T53 rfl T106 rfl rfl rfl) ?_;refine gs (eg (.tmp rfl) rfl rfl (.tmp rfl) T53 rfl T106 rfl rfl (by dsimp only;rw[afm];omega) rfl rfl) ?_;refine gc (wH _ qy oz) ?_;refine gs (n8 (.tmp rfl) rfl (by simp) (.tmp rfl) T53 rfl T106 rfl rfl (by dsimp only;rw[afm,afm,fO];omega) rfl rfl) ?_;refine gc hL ?_;refine gc (by have h9:=hti;unfold nA at h9;rw[agc]at h9;exact h9) ?_;refine gD ?_;refine af ?_;rfl
theorem UM{ts:LL}{m r:Nat}(ht:f8 ts m r)(hp:eA (am ts) m)(hm:m<=5)(hml:m<=ts.length)(j:Nat):∀(a:List Rat)(e:Nat),j<=m->Nl j a->Cb e a->T.sgn (am ts) j (ae j a)≠0 ->
  sB r j e<4398046511104->iB r j e<4398046511104->∃L,FP 422 [aB ts,nA a] (nA L)/\Nl j L/\Cb (iB r j e) L/\ae j L=T.inv (am ts) j (ae j a):=by
 induction j using Nat.strongRecOn
 rename_i j ih;intro a e hj ha ca h0 hs hi;have hse:=mI r j e;have cs:=ca.sh ha;have hsn:=eS j (ae j a);have hsd:=bK j (ae j a);have hle:=nG r j e;obtain⟨s,hsa⟩:∃s,sh j (ae j a)=s:=⟨_,rfl⟩
 rcases nE hsn with h |h |⟨i,hij,h⟩
 ·exfalso;have h1:=adp.1 h;rw[h1,iX]at hsd;rw[<- hsd,T.sgn_zero]at h0;exact h0 rfl
 ·obtain⟨q,hq⟩:=adi.1 h;rw[hq,lU] at hsd;rw[<- hsd,T.sgn_ofQ] at h0;have q0:q≠0:=by rintro rfl; exact h0 rfl
  refine⟨[1/q],Oa oz ha ca oz hq q0,.inr ⟨0,by omega,rfl⟩,(Cb.inv1 (hq▸cs) q0).mono hle,?_⟩;rw[<- hsd,<- lU j q];exact om (am ts) (i:=0) (s:=[q]) (L:=[1/q]) (by simp) (by simp) rfl oz
 ·have hz:=CK h hij;rw[hsa] at h cs hsd hsn hz;obtain⟨nn,dn,cn⟩:=yw hm ht oz h cs;have hsl:s.length<=2 ^ (i+1):=by omega
  have b1:sB r i (4*e+3*eB r i+r+1)<=sB r j e:=rz r e hij;have b2:=mI r i (4*e+3*eB r i+r+1);have b3:iB r (i+1) e<=iB r j e:=zf r e hij;have b4:iB r (i+1) e=e+iB r i (4*e+3*eB r i+r+1)+eB r (i+1):=rfl;have lx:(s.take (2^i)).length=2^i:=fB h;have ly:(s.drop (2^i)).length=2^i:=fJ h;have hpi:2^i<=2^(i+1):=acr oz oz;rw[<- hsd]at h0 ⊢
  by_cases hN:T.sgn (am ts) i (ae i (kP ts i s))=0
  ·have hS:=kc (am ts) i (fun k hk=>hp k oz)
   have hx:T.sgn (am ts) i (ae i (bN (s.take (2^i)) (s.take (2^i))))≠0:=by
    rw[gj];rw[pN (am ts) hsl hij]at h0;rw[dn]at hN;exact AI hS (hp i oz) (x:=ae i (s.take (2^i))) (y:=ae i (s.drop (2^i))) h0 hN
   have np:Nl i (bN (s.take (2^i)) (s.take (2^i))):=.inr ⟨i,afq _,by rw[d9];omega⟩;have b5:=nf r i (e:=e+e+1) (f:=4*e+3*eB r i+r+1) oz;have b6:=vX r i (e:=e+e+1) (f:=4*e+3*eB r i+r+1) oz;obtain⟨L,k1,k2,k3,k4⟩:=ih i oz _ _ oz np (cs.take.plus cs.take) hx oz oz;refine⟨L,OG ht hp hm hml oz ha ca oz hsa oz h oz hN k1,k2.mono oz,k3.mono oz,?_⟩;refine om (am ts) (i:=i+1) hsl (af2 k2.le hpi) ?_ hij;rw[A7 (am ts) hz (by rw[<- dn];exact hN),gN k2.le,k4,gj];rfl
  ·obtain⟨L,k1,k2,k3,k4⟩:=ih i oz _ _ oz nn cn hN oz oz;have nj:Nl (i+1) (dj (s.take (2^i)) (b8 (s.drop (2^i))) (2^i)):=.inr ⟨i+1,afq _,by rw[mD oz (by rw[fO];omega),acq];omega⟩;have s1:=iZ hm ht (k:=i+1) (show i+1<=m by omega) (afq _) nj (k2.mono oz) (zd cs) k3;refine⟨_,Vh ht hp hm hml oz ha ca oz hsa oz h oz hN k1 k2 k3 oz,s1.1.mono hij,s1.2.2.mono oz,?_⟩;refine om (am ts) (i:=i+1) hsl s1.1.le ?_ hij;rw[Bt (am ts) hz (by rw[<- dn];exact hN),s1.2.1,vL oz,gN k2.le,mul_low,kK,k4,dn];rfl
theorem Jq{ts:LL}{r f j:Nat}(tw:Tw ts r){b:List Rat}(hb:Nm ts.length f b)(hj:j<=ts.length)(nb:Nl j b)(h0:T.sgn (am ts) ts.length (ae ts.length b)≠0)(hf:f<=lm ts.length)(hi:iB r j f<4398046511104) :
  ∃L,FP 422 [aB ts,nA b] (nA L)/\Nl ts.length L/\Cb (iB r j f) L/\ae ts.length L=T.inv (am ts) ts.length (ae ts.length b):=by
 rw[pN (am ts) nb.le hj]at h0;obtain⟨L,k1,k2,k3,k4⟩:=UM tw.ok tw.pos tw.five (afq _) j b f hj nb hb.cb h0 (l0 hj tw.three tw.le hf) hi;exact⟨L,k1,k2.mono hj,k3,om (am ts) nb.le k2.le k4 hj⟩
theorem XM{ts:LL}{r e f:Nat}(tw:Tw ts r){a b:List Rat}(ha:Nm ts.length e a)(hb:Nm ts.length f b)(he:e<=4398046511103)(hf:f<=4398046511103):FP 217 [aB ts,.lst 1 [nA a,nA b]] (i64 0):=by
 have hck:=nN (ts.map (List.map rt)) r tw.tr [a.map rt,b.map rt] (lL (sP ha he) (sP hb hf)) (by simp);have hc0:aQ (ts.map (List.map rt)) [a.map rt,b.map rt]=0:=lE tw ha hb;rw[hc0,iG]at hck;rw[show[nA a,nA b]=[a.map rt,b.map rt].map nR by simp[cT]];exact hck
theorem XR{ts:LL}{r e:Nat}(tw:Tw ts r){a:List Rat}(ha:Nm ts.length e a)(he:e<=4398046511103):FP 217 [aB ts,.lst 1 [nA a]] (i64 0):=by
 have hck:=nN (ts.map (List.map rt)) r tw.tr [a.map rt] (fun x hx=>by rw[adc.1 hx];exact⟨(sP ha he).ok,(sP ha he).len⟩) (by simp);have hc0:aQ (ts.map (List.map rt)) [a.map rt]=0:=wE tw ha;rw[hc0,iG]at hck;rw[show[nA a]=[a.map rt].map nR by simp[cT]];exact hck
theorem Q3{ts:LL}{r f j:Nat}(tw:Tw ts r){b:List Rat}(hb:Nm ts.length f b)(hj:j<=ts.length)(nb:Nl j b)(h0:T.sgn (am ts) ts.length (ae ts.length b)≠0)(hf:f<=lm ts.length)(hi:iB r j f<=200000000000) :
  FP 363 [aB ts,nA b] (.tup [nA (sh ts.length (T.inv (am ts) ts.length (ae ts.length b))),i64 0]):=by
 have hlm:=gd ts.length;have h5:=tw.five;have hfe:=nG r j f;have hR:∀z,z<ts.length->(ts.map nA)[z]?=some (nA (ts.getD z [])):=fun z hz=>lW oz
 have hsB:=l0 (afq ts.length) tw.three tw.le hf;have hsg:=rJ ts ts.length r tw.ok h5 tw.pos (ts.map nA) hR ts.length _ _ (afq _) hb.nl hb.cb hsB;obtain⟨L,k1,k2,k3,k4⟩:=Jq tw hb hj nb h0 hf oz;have hsh:=kz L h5 k2;rw[k4]at hsh;refine ai func363 ?_;refine gc (XR tw hb oz) ?_;refine gf ?_;refine gc hsg ?_;refine gC (fun y=>?_) (fun y=>?_) (st1:=(5,0));exact ag5 y (by simp only[aa,beq_iff_eq];omega);refine gc k1 ?_;refine gc hsh ?_;refine bg ?_;rfl
theorem Q8{ts:LL}{r f j:Nat}(tw:Tw ts r){b:List Rat}(hb:Nm ts.length f b)(hj:j<=ts.length)(nb:Nl j b)(h0:T.sgn (am ts) ts.length (ae ts.length b)≠0)(hf:f<=lm ts.length)(hi:iB r j f<=200000000000) :
  Nm ts.length (iB r j f) (sh ts.length (T.inv (am ts) ts.length (ae ts.length b))):=by
 obtain⟨L,k1,k2,k3,k4⟩:=Jq tw hb hj nb h0 hf oz;refine⟨tw.five,eS _ _,?_⟩;rw[<- k4];exact k3.sh k2
theorem OK{ts:LL}{r e f j:Nat}(tw:Tw ts r){a b:List Rat}(ha:Nm ts.length e a)(hb:Nm ts.length f b)(hj:j<=ts.length)(nb:Nl j b)(h0:T.sgn (am ts) ts.length (ae ts.length b)≠0)(hf:f<=lm ts.length)(he:e+iB r j f+eB r ts.length<=200000000000) :
  FP 259 [aB ts,nA a,nA b] (.tup [nA (sh ts.length (T.mul (am ts) ts.length (ae ts.length a) (T.inv (am ts) ts.length (ae ts.length b)))),i64 0]):=by
 have hlm:=gd ts.length;have h5:=tw.five;have hfe:=nG r j f;have hR:∀z,z<ts.length->(ts.map nA)[z]?=some (nA (ts.getD z [])):=fun z hz=>lW oz
 have k:=Q8 tw hb hj nb h0 hf oz;have hti:=ra ts ts.length r tw.ok h5 (ts.map nA) hR ts.length ts.length _ _ _ _ (afq _) (afq _) ha.nl k.nl ha.cb k.cb oz;have s1:=iZ h5 tw.ok (k:=ts.length) (afq ts.length) (afq _) ha.nl k.nl ha.cb k.cb;have hsh:=kz _ h5 s1.1;rw[s1.2.1,bK]at hsh;refine ai func259 ?_;refine gc (XM tw ha hb oz oz) ?_;refine gf ?_;refine gc (Q3 tw hb hj nb h0 hf oz) ?_;refine gf ?_;refine gc hti ?_;refine gc hsh ?_;refine bg ?_;rfl
theorem Y2{ts:LL}{r e f j:Nat}(tw:Tw ts r){a b:List Rat}(ha:Nm ts.length e a)(hb:Nm ts.length f b)(hj:j<=ts.length)(nb:Nl j b)(h0:T.sgn (am ts) ts.length (ae ts.length b)≠0)(hf:f<=lm ts.length)(he:e+iB r j f+eB r ts.length<=200000000000) :
  FP 135 [aB ts,nA a,nA b] (nA (sh ts.length (T.mul (am ts) ts.length (ae ts.length a) (T.inv (am ts) ts.length (ae ts.length b))))):=by
 refine ai func135 ?_;refine gc (OK tw ha hb hj nb h0 hf he) ?_;refine af ?_;rfl
section
variable{ts:LL}{r K e f g:Nat}(tw:Tw ts r)(hK:eB r ts.length<=K)(h2:ts.length<=2){x y:Et ts}{p q:P2 ts}
include tw h2
theorem GU(hx:Bz e x)(hy:Bz f y)(h:e+f<=200000000000):FP 254 [aB ts,nA (sX x),nA (sX y)] (nA (sX (x+y))):=by
 have h1:=vj tw hx hy (by rw[fP h2];exact h);rw[bR,bR]at h1;exact h1
theorem GF(hx:Bz e x)(hy:Bz f y)(h:e+f<=200000000000):FP 130 [aB ts,nA (sX x),nA (sX y)] (nA (sX (x-y))):=by
 have h1:=vE tw hx hy (by rw[fP h2];exact h);rw[bR,bR]at h1;exact h1
theorem zB(hx:Bz e x)(hy:Bz f y)(h:e+f<=200000000000):FP 255 [aB ts,nA (sX x),nA (sX y)] (nA (sX (x*y))):=by
 have h1:=mH tw hx hy (by rw[fP h2];exact h);rw[bR,bR]at h1;exact h1
theorem rc(hp:Bp e p)(hq:Bp e q)(h:2*e<=200000000000):FP 245 [aB ts,eP p,eP q] (eP (ah p q)):=by
 have h1:=wU tw hp.x hp.y hq.x hq.y (by rw[fP h2];exact h);rw[bR,bR,bR,bR]at h1;exact h1
include hK
theorem B7(hp:Bp e p)(hq:Bp e q)(h:2*(e+e+K)<=200000000000):FP 247 [aB ts,eP p,eP q] (nA (sX (aX p q))):=by
 have hk:kB r ts.length<=K:=hK;have h1:=CI tw hp.x hp.y hq.x hq.y (by rw[fP h2];omega);rw[bR,bR,bR,bR]at h1;exact h1
theorem Fl(hp:Bp e p)(hq:Bp e q)(h:2*(e+e+K)<=200000000000):FP 246 [aB ts,eP p,eP q] (nA (sX (a6 p q))):=by
 have hk:kB r ts.length<=K:=hK;have h1:=CZ tw hp.x hp.y hq.x hq.y (by rw[fP h2];omega);rw[bR,bR,bR,bR]at h1;exact h1
theorem C6{I:Nat}(hx:Bz e x)(hy:Bz f y)(h0:aC y≠0)(hI:iB r ts.length f<=I)(h:e+I+K<=200000000000):FP 135 [aB ts,nA (sX x),nA (sX y)] (nA (sX (x*iE y)))/\Bz (e+I+K) (x*iE y):=by
 have hf:=nG r ts.length f;have e0:T.sgn (am ts) ts.length (ae ts.length (sX y))≠0:=by rw[bR];exact h0
 have h1:=Y2 tw hx hy (afq _) hy.nl e0 (by rw[fP h2];omega) oz;rw[bR,bR]at h1;exact⟨h1,(pL tw hK h2 hx hy h0 hI h).2⟩
theorem O7{v:Vt ts}(hv:Bv e v)(hp:Bp f p)(h:2*e+f+K+1<=200000000000):FP 241 [aB ts,v.av,eP p] (eP (cR v p)):=by
 refine ai func241 ?_;refine gc (zB tw h2 hv.w hp.y oz) ?_;refine gc (GF tw h2 hv.x (hv.w.mul tw hK hp.y) oz) ?_;refine gc (zB tw h2 hv.w hp.x oz) ?_;refine gc (GU tw h2 hv.y (hv.w.mul tw hK hp.x) oz) ?_;refine gD ?_;refine af ?_;rfl
theorem wn{w:Et ts}{u:P2 ts}(hw:Bz e w)(hp:Bp f p)(hu:Bp g u)(h:g+e+f+K+2<=200000000000):FP 243 [aB ts,nA (sX w),eP p,eP u] (cW w p u).av:=by
 refine ai func243 ?_;refine gc (zB tw h2 hw hp.y oz) ?_;refine gc (GU tw h2 hu.x (hw.mul tw hK hp.y) oz) ?_;refine gc (zB tw h2 hw hp.x oz) ?_;refine gc (GF tw h2 hu.y (hw.mul tw hK hp.x) oz) ?_;refine gD ?_;refine af ?_;rfl
end
def wk{ts:LL}(v w:Vt ts):Bool:=dX ts v.w w.w&&dX ts v.x w.x&&dX ts v.y w.y
theorem Ts{ts:LL}{hp:fC ts}{v w:Vt ts}(h:VQ hp v w):wk v w=true:=by
 have e:∀{a b:Et ts},aA hp a=aA hp b->dX ts a b=true:=fun h=>ag3 ((kR hp).1 h)
 unfold wk;rw[afp,afp];exact⟨⟨e h.1,e h.2.1⟩,e h.2.2⟩
theorem Xg{ts:LL}{r e:Nat}(tw:Tw ts r)(h2:ts.length<=2){v w:Vt ts}(hv:Bv e v)(hw:Bv e w)(h:2*e+1<=200000000000):FP 41 [aB ts,v.av,w.av] (bl (wk v w)):=by
 have q:∀{x y:Et ts},Bz e x->Bz e y->FP 50 [aB ts,nA (sX x),nA (sX y)] (bl (dX ts x y)):=by
  intro x y hx hy;have h1:=km tw hx hy (by rw[fP h2];omega);rw[bR,bR]at h1;exact h1
 refine ai func41 ?_;refine gc (q hv.w hw.w) ?_;refine bn (fun _=>(q hv.x hw.x)) ?_;refine bn (fun _=>(q hv.y hw.y)) ?_;refine af ?_;unfold wk;cases dX ts v.w w.w <;> cases dX ts v.x w.x <;> cases dX ts v.y w.y <;> rfl
theorem vN(j:Jt)(b:Int):FP 242 [j.av,i64 b] (i64 (ee j b)):=by
 refine ai func242 ?_;refine gC (fun z=>?_) (fun z=>?_)
 ·have h1:j.a=b:=cB z;refine af ?_;unfold ee;rw[agz h1]
 have h1:j.a≠b:=cU z;refine af ?_;unfold ee;rw[agy h1]
theorem PV{l:List Pl}{n:Nat}{p:Pl}{x:AV}(e:p.av=x)(h:l[n]?=some p):(l.map Pl.av)[n]?=some x:=by rw[afu,h,<- e];rfl
theorem yG{l:Li}{a:As}(D:DyR l a){n:Nat}{p:Pl}(hp:a.bs[n]?=some p)(hn:aQ a.rs p.l=0/\∀x∈p.l,NR x 3900000){q:Rat×Rat}(hq:Sm 1000 q) :
  FP 244 [a.av,i64 n,qN q] (eN (bD a n q)):=by
 have hbl:=D.al.bl;have hta:=(bZ D.s.tr D.hc).2;obtain⟨R,tw,kb⟩:=(D.s.ct D.hc).ex;have kb:kB R (llq a.rs).length<=132100:=kb;have h5:a.rs.length<=5:=by have:=tw.five;rwa [jR]at this
 have h9:=mM hn.1 hn.2 h5;have hlm:=dl (llq a.rs).length;obtain⟨e1,ok⟩:=h9;rw[<- jR a.rs]at ok;have nx:=Nm.ofQ ok.c.five (Cb.one (hq.x.mono (f:=4000) oz));have ny:=Nm.ofQ ok.c.five (Cb.one (hq.y.mono (f:=4000) oz));have nX:=oW tw ok.c ok.s nx ny;have nY:=pH tw ok.c ok.s nx ny;obtain⟨K,hK⟩:∃K,kB R (llq a.rs).length=K:=⟨_,rfl⟩
 rw[hK]at nX nY kb;have hadd:=DA (e:=2*(3900000+4000+K)+1) tw nX nY (ok.x.mono oz) (ok.y.mono oz) oz;have htn:=Cl tw ok.c ok.s (nx.mono oz) (ny.mono oz) (by rw[hK];omega);rw[pC,oR]at hadd;rw[<- hta]at hadd htn;unfold bD;rw[show((n:Int).toNat)=n from rfl,ax hp];refine ai func244 ?_;refine gi (PV e1 hp) ?_;refine gc htn ?_;refine gc hadd ?_;refine gD ?_;refine af ?_;rfl
end Go.Lw
