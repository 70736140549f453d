/- LimitsDyads: for any linkage and any turn the law returns true and leaves its arguments as they were. No other condition. Part 7 of 9: what the later parts need -/
import Derived.Test.YtmencaoblogmeaaGreatZf
set_option linter.unusedVariables false
open List (cons_append nil_append map_nil map_take all_append)
open List renaming mem_of_getElem? → ar1, mem_append → ar9, map_cons → atb, mem_cons → asj, length_cons → asi, length_append → asx, length_nil → asu, getD_eq_getElem?_getD → ar2, getElem?_append_left → asq, getElem?_eq_none → asg, all_eq_true → asd, getElem?_drop → as3, getElem?_map → asa, append_assoc → atc, getElem?_append_right → asm, getElem?_eq_getElem → ar7, getElem?_replicate → ast, map_append → asz, length_take → aso, take_of_length_le → asn, drop_zero → as8, take_length → asK, not_mem_nil → asf, length_map → ar3, length_replicate → asr, map_replicate → as5, map_set → as7, length_set → as9, replicate → apf, map_drop → aph, size_toArray → apr, mem_range → apt, length_eq_zero_iff → apv, length_drop → apx, mem_filter → apy, eq_of_mem_replicate → apz, getElem?_toArray → ap2, append_nil → ap4, mem_iff_getElem → ap5, getElem?_tail → ap6, getElem?_eq_some_iff → ap9, length_pos_iff → aqb, mem_map → aqd, mem_singleton → aqf, length_tail → aqg, range_succ → aqi
open Nat renaming le_refl → ar8, lt_of_lt_of_le → asp, lt_or_ge → asb, le_trans → asv, mul_le_mul_right → asl, zero_le → ase, add_mul → an5, mul_assoc → an8, div_add_mod → aoa, blt → aob, mul_comm → aog, blt_eq → aoh, pow_pos → aoi, zero_add → aoj, pow_le_pow_right → aok, min_eq_left → aon, div_lt_iff_lt_mul → aos, mod_lt → aou, eq_zero_or_pos → aov, add_zero → aoy, add_assoc → ao0, beq → ao6, beq_refl → apc
open Option renaming map_eq_some_iff → ar6
open Bool renaming and_eq_true → ar5, eq_iff_iff → aq8, not_eq_false' → arb, and_false → arc, false_and → ard, true_and → are, not_eq_true' → arf
open Array renaming getElem?_toList → arn, getElem?_eq_getElem → aro, getElem?_extract → arp
open Int renaming toNat_natCast → as4
open Rat renaming mul_nonneg → aqz
open Go renaming Operand → atn, Value → ato, TypeId → atp, Program → atq, World → atr
open Go.Proofs.Tryz
namespace Go.Lw
open Go.Proofs
theorem UY{l:Li}(hl:l.ok)(ae:ax l=0){j:Jt}{b pt:Int}(h1:aZ b l.bo.length=true)(h2:aZ pt (bT l b).length=true)(h3:b≠0->Sm 1000 (aH l j b)/\Sm 1000 (az l 0 (aR j b))):Vn 4100 (cI l j b pt):=by
 have h4:=bJ hl ae h1 h2;unfold cI
 by_cases h0:b=0
 ·rw[ate h0];subst h0;exact(Iu h4).mono oz
 ·rw [atd h0];obtain ⟨h5,h6⟩:=h3 h0;have e:az l b (dc j b) = aH l j b:=by unfold aH dc; split <;> rfl
  rw[e];have h7:=Iu h6;have h8:=LX (h4.sub h5);have h9:Qb 1 (((1:Int):Rat)):=Qb.one;exact⟨(h7.x.add h8.1 h9).mono oz oz,(h7.y.add h8.2 h9).mono oz oz⟩
structure Pj(l:Li)(G:List Gr)(j:Jt)(dv:Int):Prop where
  ex:∃(g0:Gr)(z:Int),G[0]?=some g0/\g0.jo[0]?=some z/\0<=z/\z<l.jo.length/\l.jo[z.toNat]?=some j
  t:j.a=dv\/j.b=dv
  o:br j dv=0
theorem Pj.in{l:Li}{G:List Gr}{j:Jt}{dv:Int}(h:Pj l G j dv)(ae:ax l=0):aZ dv l.bo.length=true/\aZ (dc j dv) (bT l dv).length=true/\aZ (0:Int) l.bo.length=true/\aZ (aR j dv) (bT l 0).length=true:=by
 obtain⟨g0,z,_,_,_,_,hj⟩:=h.ex;obtain⟨i1,i2,i3,i4,_⟩:=cJ ae hj;have ho:=h.o;unfold br at ho;unfold dc aR
 by_cases e:j.a=dv
 ·rw[ate e]at ho ⊢;rw[ate e];rw[e]at i1 i3;rw[ho]at i2 i4;exact⟨i1,i3,i2,i4⟩
 ·rw [atd e] at ho ⊢;rw [atd e];have e2:j.b = dv:=by rcases h.t with h9 | h9; exact atk h9 e; exact h9
  rw[e2]at i2 i4;rw[ho]at i1 i3;exact⟨i2,i4,i1,i3⟩
theorem Pj.sm{l:Li}{G:List Gr}{j:Jt}{dv:Int}(h:Pj l G j dv)(hl:l.ok)(ae:ax l=0):Sm 1000 (aH l j dv)/\Sm 1000 (az l 0 (aR j dv)):=by
 obtain⟨h1,h2,h3,h4⟩:=h.in ae;obtain⟨g0,z,_,_,_,_,hj⟩:=h.ex;exact⟨ki hl ae hj h.t,bJ hl ae h3 h4⟩
structure Fd(l:Li)(dv b pt:Int):Prop where
  hb:aZ b l.bo.length=true
  hp:aZ pt (bT l b).length=true
  hd:b=0\/b=dv
theorem Fd.n{l:Li}{G:List Gr}{j:Jt}{dv b pt:Int}(h:Fd l dv b pt)(hp:Pj l G j dv)(hl:l.ok)(ae:ax l=0):Vn 4100 (cI l j b pt) :=
 UY hl ae h.hb h.hp (fun h0=>by rcases h.hd with h9 |h9;exact atk h9 h0;rw[h9];exact hp.sm hl ae)
theorem xF:Qb 2 (((2:Int):Rat)):=⟨by decide,by decide⟩
section
variable(l:Li)(G:List Gr)
theorem lM(e:Nat)(hl:l.ok)(ae:ax l=0){body pt:Int}(h1:aZ body l.bo.length=true)(h2:aZ pt (bT l body).length=true) :
  Con prog 178 [.ptr 1000 0,i64 body,i64 pt] (de l G e) (n8 (az l body pt)) (de l G e):=by
 obtain⟨n,k,bd,m,mp⟩:=tN hl ae h1 h2;have hqe:n8 (az l body pt)=.agg [bl m.x.neg,ws m.x.num,ws m.x.den,bl m.y.neg,ws m.y.num,ws m.y.den]:=by rw[mp.ex,mp.ey];rfl
 rw[hqe];have hn:=mp.hn;have hk:=mp.hk;have eY:=hl.lb;subst hn;subst hk;refine gF func178 (fun k z h=>bD h) ?_;refine gi (aw mp.gbd) ?_;refine gi (aw mp.gm) ?_;refine gR ?_;exact aD.keep (bt rfl)
theorem KP(e:Nat){k:Nat}{p:Rat×Rat}(hp:Sm k p)(hk:k<=1000000) :
  Con prog 283 [.ptr 1000 0,n8 p] (de l G e) (jq (lN p)) (de l G e):=by
 have s1:=tq l G e (tZ (rx.po oz) hp.x oz);have s2:=tq l G e (tZ (rx.po oz) hp.y oz);refine gF func283 (fun k z h=>bD h) ?_;refine gc Dv ?_;refine gt (aX s1 (aB rfl rfl rfl) rfl rfl rfl) ?_;refine gc Dv ?_;refine gt (aX s2 (aB rfl rfl rfl) rfl rfl rfl) ?_;refine gD ?_;refine gR ?_;exact aD.keep (bt rfl)
theorem BK(e:Nat){f h:Nat}{a b:List Rat×List Rat}(ha:Vn f a)(hb:Vn h b)(hf:f<=10000000)(hh:h<=10000000) :
  Con prog 180 [.ptr 1000 0,jq a,jq b] (de l G e) (jq (jp a b)) (de l G e):=by
 have s1:=vn l G e (wU (ha.x.po oz) (hb.x.po oz) oz);have s2:=vn l G e (wU (ha.y.po oz) (hb.y.po oz) oz);refine gF func180 (fun k z h=>bD h) ?_;refine gt (aX s1 (aB rfl rfl rfl) rfl rfl rfl) ?_;refine gt (aX s2 (aB rfl rfl rfl) rfl rfl rfl) ?_;refine gD ?_;refine gR ?_;exact aD.keep (bt rfl)
theorem OV(e:Nat){f h:Nat}{a b:List Rat×List Rat}(ha:Vn f a)(hb:Vn h b)(hf:f<=1000000)(hh:h<=1000000)(h0:gX (nK a b)=[]) :
  Con prog 184 [.ptr 1000 0,jq a,jq b] (de l G e) (nA (dvQ (nK a b))) (de l G e):=by
 have m1:=ha.x.mul hb.x;have m2:=ha.y.mul hb.y;have s1:=q7 l G e (rA (ha.x.po oz) (hb.x.po oz) oz);have s2:=q7 l G e (rA (ha.y.po oz) (hb.y.po oz) oz);have s3:=D7 l G e (BG (m1.po oz) (m2.po oz) oz);have hn:=(nP ha hb).1;have s4:=Rs l G e (O1 (hn.po oz) (by have:=hn.len;omega) oz) h0;refine gF func184 (fun k z h=>bD h) ?_;refine gt (aX s1 (aB rfl rfl rfl) rfl rfl rfl) ?_;refine gt (aX s2 (aB rfl rfl rfl) rfl rfl rfl) ?_;refine gt (aX s3 (aB rfl rfl rfl) rfl rfl rfl) ?_;refine gt (aX s4 (b9 rfl rfl) rfl rfl rfl) ?_;refine gD ?_;refine gR ?_;exact aD.keep (bt rfl)
theorem YG(e:Nat){f h:Nat}{a b:List Rat×List Rat}(ha:Vn f a)(hb:Vn h b)(hf:f<=1000000)(hh:h<=1000000)(h0:gX (pM a b)=[]) :
  Con prog 189 [.ptr 1000 0,jq a,jq b] (de l G e) (nA (dvQ (pM a b))) (de l G e):=by
 have m1:=ha.x.mul hb.y;have m2:=ha.y.mul hb.x;have s1:=q7 l G e (rA (ha.x.po oz) (hb.y.po oz) oz);have s2:=q7 l G e (rA (ha.y.po oz) (hb.x.po oz) oz);have s3:=vn l G e (wU (m1.po oz) (m2.po oz) oz);have hn:=(nP ha hb).2;have s4:=Rs l G e (O1 (hn.po oz) (by have:=hn.len;omega) oz) h0;refine gF func189 (fun k z h=>bD h) ?_;refine gt (aX s1 (aB rfl rfl rfl) rfl rfl rfl) ?_;refine gt (aX s2 (aB rfl rfl rfl) rfl rfl rfl) ?_;refine gt (aX s3 (aB rfl rfl rfl) rfl rfl rfl) ?_;refine gt (aX s4 (b9 rfl rfl) rfl rfl rfl) ?_;refine gD ?_;refine gR ?_;exact aD.keep (bt rfl)
theorem yY(e:Nat)(hl:l.ok)(ae:ax l=0){j:Jt}{dv b pt:Int}(hp:Pj l G j dv)(hF:Fd l dv b pt) :
  Con prog 177 [.ptr 1000 0,i64 b,i64 pt] (de l G e) (jq (cI l j b pt)) (de l G e):=by
 obtain⟨d1,d2,d3,d4⟩:=hp.in ae;have s5:=bJ hl ae hF.hb hF.hp;refine gF func177 (fun k z h=>bD h) ?_;refine gC (fun y=>?_) (fun y=>?_)
 ·have hb:b = 0:=dJ y;have s6:=KP l G e s5 oz;have e9:cI l j b pt = lN (az l b pt):=by unfold cI; rw [ate hb,hb]
  rw[e9];refine gt (aX (lM l G e hl ae hF.hb hF.hp) (aB rfl rfl rfl) rfl rfl rfl) ?_;refine gt (aX s6 (b9 rfl rfl) rfl rfl rfl) ?_;refine gR ?_;exact aD.keep (bt rfl)
 have hb:b≠0:=du y;obtain rfl:b=dv:=by rcases hF.hd with h9 |h9;exact atk h9 hb;exact h9
 obtain⟨g0,z,qH,hz,bb,df,hj⟩:=hp.ex;have md:=hl.lj;have e9:az l b (dc j b)=aH l j b:=by unfold aH dc;split <;> rfl
 obtain⟨s6,s7⟩:=hp.sm hl ae;have s8:=s5.sub s6;rw[<- e9]at s8;have r1:=LX s8;have f1:=Iu s7;obtain⟨d,hd⟩:∃d,d=a7 (az l b pt) (az l b (dc j b)):=⟨_,rfl⟩
 have ev:cI l j b pt=(padd (lN (az l 0 (aR j b))).1 (ptr (qX d)) 1,padd (lN (az l 0 (aR j b))).2 (ptr (rY d)) 1):=by rw[hd];unfold cI;rw[atd hb]
 rw[ev];have JW:=QT (p:=az l b pt) (q:=az l b (dc j b)) (s5.x.qs oz) (s5.y.qs oz) (by rw[e9];exact s6.x.qs oz) (by rw[e9];exact s6.y.qs oz);rw[<- hd]at JW s8 r1;have a1:=D7 l G e (BG (f1.x.po oz) (r1.1.po oz) oz);have a2:=D7 l G e (BG (f1.y.po oz) (r1.2.po oz) oz);have q1:=s8.x.qs oz;have q2:=s8.y.qs oz;have m1:=(xF.mul s8.y).qs oz;have m2:=(xF.mul s8.x).qs oz;have n1:=HT (qX d) (fun c hc=>by simp only[qX,asj,asf,or_false]at hc;rcases hc with rfl |rfl |rfl;exact q1;exact(xF.mul s8.y).neg.qs oz;exact s8.x.neg.qs oz) (by show 3<=1000;omega);have n2:=HT (rY d) (fun c hc=>by simp only[rY,asj,asf,or_false]at hc;rcases hc with rfl |rfl |rfl;exact q2;exact m2;exact s8.y.neg.qs oz) (by show 3<=1000;omega);refine gi (aw qH) ?_;refine gi (aw hz) ?_;refine gi (eI (n:=z.toNat) oz hj) ?_;refine gc (CZ j b) ?_;refine gD ?_;refine gt (aX (lM l G e hl ae hF.hb hF.hp) (aB rfl rfl rfl) rfl rfl rfl) ?_;refine gt (aX (lM l G e hl ae d1 d2) (aB rfl rfl rfl) rfl rfl rfl) ?_;refine gc JW ?_;refine gt (aX (lM l G e hl ae d3 d4) (.cons (.tmp rfl) (.cons (.const _) (eJ rfl))) rfl rfl rfl) ?_;refine gt (aX (KP l G e s7 oz) (b9 rfl rfl) rfl rfl rfl) ?_;refine gc (kW 2 oz) ?_;refine gc (iG (xF.qs oz) q2) ?_;refine gc (yy m1) ?_;refine gc (yy q1) ?_;refine gc n1 ?_;refine gD ?_;refine gc (iG (xF.qs oz) q1) ?_;refine gc (yy q2) ?_;refine gc n2 ?_;refine gD ?_;refine gt (aX a1 (aB rfl rfl rfl) rfl rfl rfl) ?_;refine gt (aX a2 (aB rfl rfl rfl) rfl rfl rfl) ?_;refine gD ?_;refine gR ?_;exact aD.keep (bt rfl)
end
def Sh(v:List Rat×List Rat)(F R:Rat×Rat):Prop:=∀t,aq v.1 t=F.1*(1+t*t)+(R.1*(1-t*t)-2*t*R.2)/\aq v.2 t=F.2*(1+t*t)+(R.2*(1-t*t)+2*t*R.1)
theorem BU(p:Rat×Rat)(t:Rat):aq (lN p).1 t=p.1*(1+t*t)/\aq (lN p).2 t=p.2*(1+t*t):=by
 unfold lN;refine⟨?_,?_⟩ <;> (rw[eC,q5];show(0:Rat)+_=_;grind)
theorem ajg(p:Rat×Rat):Sh (lN p) p (0,0):=fun t=>by
 obtain⟨h1,h2⟩:=BU p t;rw[h1,h2];exact⟨by show _=_+((0:Rat)*_-_*0);grind,by show _=_+((0:Rat)*_+_*0);grind⟩
theorem GU(d:Rat×Rat)(t:Rat):aq (ptr (qX d)) t=d.1*(1-t*t)-2*t*d.2:=by
 rw[jm];show d.1+t*(-(((2:Int):Rat)*d.2)+t*(-d.1+t*0))=_;have:((2:Int):Rat)=2:=rfl;rw[this];grind
theorem Iy(d:Rat×Rat)(t:Rat):aq (ptr (rY d)) t=d.2*(1-t*t)+2*t*d.1:=by
 rw[jm];show d.2+t*((((2:Int):Rat)*d.1)+t*(-d.2+t*0))=_;have:((2:Int):Rat)=2:=rfl;rw[this];grind
theorem mQ(l:Li)(j:Jt)(b pt:Int):∃F R,Sh (cI l j b pt) F R:=by
 unfold cI
 by_cases h:b=0
 ·rw[ate h];exact⟨_,_,ajg _⟩
 ·rw[atd h];refine⟨az l 0 (aR j b),a7 (az l b pt) (az l b (dc j b)),fun t=>?_⟩;obtain⟨h1,h2⟩:=BU (az l 0 (aR j b)) t;dsimp only;rw[eC,eC,h1,h2,GU,Iy];exact⟨by grind,by grind⟩
theorem tg{a b:List Rat×List Rat}{F R F' R':Rat×Rat}(ha:Sh a F R)(hb:Sh b F' R'):Sh (jp a b) (F.1-F'.1,F.2-F'.2) (R.1-R'.1,R.2-R'.2):=fun t=>by
 obtain⟨h1,h2⟩:=ha t;obtain⟨h3,h4⟩:=hb t;unfold jp;dsimp only;have h5:(((-1:Int)):Rat)=-1:=rfl;rw[eC,eC,h1,h2,h3,h4];exact⟨by grind,by grind⟩
theorem KB(a b c t:Rat):aq [a,b,c] t=a+b*t+c*t*t:=by
 show a+t*(b+t*(c+t*0))=_;grind
theorem Fx{a b:List Rat×List Rat}{F R F' R':Rat×Rat}(ha:Sh a F R)(hb:Sh b F' R'):gX (nK a b)=[]:=by
 refine(LE (K:=[(F.1*F'.1+F.2*F'.2+R.1*R'.1+R.2*R'.2)+(F.1*R'.1+F.2*R'.2+F'.1*R.1+F'.2*R.2),2*(F.2*R'.1-F.1*R'.2+F'.2*R.1-F'.1*R.2),(F.1*F'.1+F.2*F'.2+R.1*R'.1+R.2*R'.2)-(F.1*R'.1+F.2*R'.2+F'.1*R.1+F'.2*R.2)]) (fun t=>?_)).2;obtain⟨h1,h2⟩:=ha t;obtain⟨h3,h4⟩:=hb t;unfold nK;rw[eC,kM,kM,h1,h2,h3,h4,KB];grind
theorem Pi{a b:List Rat×List Rat}{F R F' R':Rat×Rat}(ha:Sh a F R)(hb:Sh b F' R'):gX (pM a b)=[]:=by
 refine(LE (K:=[(F.1*F'.2-F.2*F'.1+R.1*R'.2-R.2*R'.1)+(F.1*R'.2-F.2*R'.1+R.1*F'.2-R.2*F'.1),2*(F.1*R'.1+F.2*R'.2-R.1*F'.1-R.2*F'.2),(F.1*F'.2-F.2*F'.1+R.1*R'.2-R.2*R'.1)-(F.1*R'.2-F.2*R'.1+R.1*F'.2-R.2*F'.1)]) (fun t=>?_)).2;obtain⟨h1,h2⟩:=ha t;obtain⟨h3,h4⟩:=hb t;unfold pM;have h5:(((-1:Int)):Rat)=-1:=rfl;rw[eC,kM,kM,h1,h2,h3,h4,KB];grind
def dl(p:Rat×Rat):Rat:=p.1*p.1+p.2*p.2
def HX(l:Li)(j:Jt)(i k:Int)(j0 j1:Jt):List Rat×List Rat:=jp (cI l j (br j1 k) (aR j1 k)) (cI l j (br j0 i) (aR j0 i))
def mf(l:Li)(i:Int)(j0 j2:Jt):Rat:=dl (a7 (az l i (dc j2 i)) (az l i (dc j0 i)))
def mO(l:Li)(i k:Int)(j1 j2:Jt):Rat:=dl (a7 (az l k (aR j2 i)) (az l k (dc j1 k)))
def M2(g:List Rat)(r s:Rat):List Rat:=padd (padd [] (gz g pW) (((4:Int):Rat)*r)) (gz (padd (padd [] pW (r-s)) g 1) (padd (padd [] pW (r-s)) g 1)) (-1)
def Dh(l:Li)(j:Jt)(i k:Int)(j0 j1 j2:Jt):List Rat:=M2 (dvQ (nK (HX l j i k j0 j1) (HX l j i k j0 j1))) (mf l i j0 j2) (mO l i k j1 j2)
def o9(l:Li)(i:Int)(j0 j1:Jt):Rat:=dl (a7 (az l i j1.point) (az l i (dc j0 i)))
def pC(l:Li)(j1:Jt):Rat:=dl (a7 (az l j1.b j1.to) (az l j1.b j1.on))
def FY(l:Li)(j:Jt)(i:Int)(j0 j1:Jt):List Rat:=dvQ (pM (jp (cI l j j1.b j1.to) (cI l j j1.b j1.on)) (jp (cI l j (br j0 i) (aR j0 i)) (cI l j j1.b j1.on)))
def AR(l:Li)(j:Jt)(i:Int)(j0 j1:Jt):List Rat:=padd (padd [] (gz pW pW) (pC l j1*o9 l i j0 j1)) (gz (FY l j i j0 j1) (FY l j i j0 j1)) (-1)
def j8(l:Li)(i:Int)(j1:Jt):Rat×Rat:=a7 (az l i j1.to) (az l i j1.on)
def zj(l:Li)(i:Int)(j0 j1:Jt):Rat×Rat:=a7 (az l i j1.on) (az l i (dc j0 i))
def FR(l:Li)(j:Jt)(i:Int)(j0 j1:Jt):List Rat×List Rat:=jp (cI l j j1.a j1.point) (cI l j (br j0 i) (aR j0 i))
def tU(l:Li)(i:Int)(j0 j1:Jt):Rat:=od (j8 l i j1) (zj l i j0 j1)
def AO(l:Li)(j:Jt)(i:Int)(j0 j1:Jt):List Rat:=padd (padd [] (dvQ (nK (FR l j i j0 j1) (FR l j i j0 j1))) (dl (j8 l i j1))) (padd [] pW (tU l i j0 j1*tU l i j0 j1)) (-1)
def pb(x:Gr)(n:Nat):Int:=x.bo.getD n 0
def jB(l:Li)(x:Gr)(n:Nat):Jt:=l.jo.getD (x.jo.getD n 0).toNat default
def eT(l:Li)(j:Jt)(x:Gr):List Rat :=
  if x.kind=1 then Dh l j (pb x 0) (pb x 1) (jB l x 0) (jB l x 1) (jB l x 2)
  else if x.kind=2 then AR l j (pb x 0) (jB l x 0) (jB l x 1)else AO l j (pb x 0) (jB l x 0) (jB l x 1)
def i7(l:Li)(x:Gr):List Rat :=
  if x.kind=1 then[mf l (pb x 0) (jB l x 0) (jB l x 2),mO l (pb x 0) (pb x 1) (jB l x 1) (jB l x 2)]
  else if x.kind=2 then[o9 l (pb x 0) (jB l x 0) (jB l x 1),pC l (jB l x 1)]else[dl (j8 l (pb x 0) (jB l x 1))]
def iJ(x:Gr):Int:=if x.kind=1 then 4 else if x.kind=2 then 4 else 2
structure Lg(l:Li)(dv:Int)(x:Gr):Prop where
  dy:DyK l x
  ok:GrOk l x
  nd:x.kind≠0
  an:∀z∈x.jo,∀jt,l.jo[z.toNat]?=some jt->(jt.a∉x.bo->jt.a=0\/jt.a=dv)/\(jt.b∉x.bo->jt.b=0\/jt.b=dv)
theorem qe(l:Li)(j:Jt)(b:Int):az l b (dc j b)=aH l j b:=by unfold aH dc;split <;> rfl
theorem rC{l:Li}{dv kd:Int}{x:Gr}(h:Lg l dv x)(ae:ax l=0){z b:Int}{bs:List Int}{j:Jt}(j4:x.bo=bs)(t:TieO l kd bs z b j)(hz:z∈x.jo):Fd l dv (br j b) (aR j b):=by
 subst j4;obtain⟨i1,i2,i3,i4,_⟩:=cJ ae t.hj;obtain⟨a1,a2⟩:=h.an z hz j t.hj;unfold br aR
 by_cases e:j.a=b
 ·rw[ate e,ate e];refine⟨i2,i4,?_⟩;rcases t.tie with⟨_,hn⟩ |⟨e2,hn⟩
  ·exact a2 hn
  ·exact a2 (by rw[e2,<- e];exact hn)
 ·rw[atd e,atd e];refine⟨i1,i3,?_⟩;rcases t.tie with⟨e2,hn⟩ |⟨_,hn⟩
  ·exact atk e2 e
  ·exact a1 hn
theorem qk{l:Li}{kd z b:Int}{bs:List Int}{j:Jt}(t:TieO l kd bs z b j):j.a=b\/j.b=b:=by
 rcases t.tie with h |h
 ·exact .inl h.1
 ·exact .inr h.1
theorem mw{l:Li}(ae:ax l=0){i:Nat}{j:Jt}(hj:l.jo[i]?=some j){b:Int}(h:j.a=b\/j.b=b):aZ b l.bo.length=true/\aZ (dc j b) (bT l b).length=true:=by
 obtain⟨i1,i2,i3,i4,_⟩:=cJ ae hj;unfold dc
 by_cases e:j.a=b
 ·rw[ate e];subst e;exact⟨i1,i3⟩
 ·rw[atd e];rcases h with h |h
  ·exact atk h e
  ·subst h;exact⟨i2,i4⟩
theorem ru:Qb 3 (((4:Int):Rat)):=⟨by decide,by decide⟩
theorem gH{e:Nat}{p:Rat×Rat}(h:Sm e p):Qb (4*e+1) (dl p):=((h.x.mul h.x).add (h.y.mul h.y)).mono oz
theorem vo{p q:Rat×Rat}(hp:Sm 1000 p)(hq:Sm 1000 q):FP 182 [n8 p,n8 q] (n8 (a7 p q)):=QT (hp.x.qs oz) (hp.y.qs oz) (hq.x.qs oz) (hq.y.qs oz)
theorem wO{p:Rat×Rat}(hp:Sm 2001 p):FP 181 [n8 p] (qA (dl p)):=ahb (hp.x.qs oz) (hp.y.qs oz) ((hp.x.mul hp.x).qs oz) ((hp.y.mul hp.y).qs oz)
theorem DS{l:Li}{x:Gr}(h:DyK l x)(nd:x.kind≠0):∃i z0 j0,x.bo[0]?=some i/\x.jo[0]?=some z0/\TieO l 0 x.bo z0 i j0:=by
 cases h with
 |drv t d0 hd hb=>exact atk rfl nd
 |rrr ne t0 t1 h0 h2 kd tie=>exact⟨_,_,_,rfl,rfl,t0⟩
 |pr t0 t1 ha=>exact⟨_,_,_,rfl,rfl,t0⟩
 |rp t0 t1 ha=>exact⟨_,_,_,rfl,rfl,t0⟩
theorem uS{x:Gr}{n:Nat}{i:Int}(h:x.bo[n]?=some i):pb x n=i:=aS h
theorem kO{l:Li}{x:Gr}{n:Nat}{z:Int}{j:Jt}(h:x.jo[n]?=some z)(hj:l.jo[z.toNat]?=some j):jB l x n=j:=by
 unfold jB;rw[aS h];exact aS hj
theorem akq{l:Li}{x:Gr}{i k z0 z1 z2:Int}{j0 j1 j2:Jt}(hk:x.kind=1)(b0:x.bo[0]?=some i)(b1:x.bo[1]?=some k)(y0:x.jo[0]?=some z0)(h0:l.jo[z0.toNat]?=some j0)(y1:x.jo[1]?=some z1)(h1:l.jo[z1.toNat]?=some j1)(y2:x.jo[2]?=some z2)(h2:l.jo[z2.toNat]?=some j2) :
  (∀j,eT l j x=Dh l j i k j0 j1 j2)/\i7 l x=[mf l i j0 j2,mO l i k j1 j2]/\iJ x=4:=by
 refine⟨fun j=>?_,?_,ate hk⟩
 ·unfold eT;rw[ate hk,uS b0,uS b1,kO y0 h0,kO y1 h1,kO y2 h2]
 ·unfold i7;rw[ate hk,uS b0,uS b1,kO y0 h0,kO y1 h1,kO y2 h2]
theorem afi{l:Li}{x:Gr}{i z0 z1:Int}{j0 j1:Jt}(hn:¬x.kind=1)(m9:¬x.kind=2)(b0:x.bo[0]?=some i)(y0:x.jo[0]?=some z0)(h0:l.jo[z0.toNat]?=some j0)(y1:x.jo[1]?=some z1)(h1:l.jo[z1.toNat]?=some j1) :
  (∀j,eT l j x=AO l j i j0 j1)/\i7 l x=[dl (j8 l i j1)]/\iJ x=2:=by
 refine⟨fun j=>?_,?_,?_⟩
 ·unfold eT;rw[atd hn,atd m9,uS b0,kO y0 h0,kO y1 h1]
 ·unfold i7;rw[atd hn,atd m9,uS b0,kO y1 h1]
 ·unfold iJ;rw[atd hn,atd m9]
structure LrP(l:Li)(x:Gr)(i k z1 z2:Int)(j0 j1 j2:Jt):Prop where
  b1:x.bo[1]?=some k
  y1:x.jo[1]?=some z1
  y2:x.jo[2]?=some z2
  t1:TieO l 0 x.bo z1 k j1
  h0:0<=z2
  h2:l.jo[z2.toNat]?=some j2
  ti:(j2.a=i/\j2.b=k)\/(j2.b=i/\j2.a=k)
  ne:i≠k
  eE:∀j,eT l j x=Dh l j i k j0 j1 j2
  eX:i7 l x=[mf l i j0 j2,mO l i k j1 j2]
  eN:iJ x=4
theorem D0{l:Li}{x:Gr}{i z0:Int}{j0:Jt}(h:DyK l x)(hk:x.kind=1)(hi:x.bo[0]?=some i)(hz:x.jo[0]?=some z0)(hj:l.jo[z0.toNat]?=some j0):∃k z1 z2 j1 j2,LrP l x i k z1 z2 j0 j1 j2:=by
 cases h with
 |drv t d0 hd hb=>cases hk
 | @rrr i' k z0' z1 z2 j0' j1 j2 ne t0 t1 h0 h2 kd tie =>
  have lh:i'=i:=Option.some.inj hi;have UL:z0'=z0:=Option.some.inj hz;obtain⟨q1,q2,q3⟩:=akq (l:=l) (x:=⟨1,[i',k],[z0',z1,z2],0⟩) rfl hi rfl hz hj rfl t1.hj rfl h2;exact⟨k,z1,z2,j1,j2,rfl,rfl,rfl,t1,h0,h2,lh▸tie,lh▸ne,q1,q2,q3⟩
 |pr t0 t1 ha=>cases hk
 |rp t0 t1 ha=>cases hk
structure LsP(l:Li)(x:Gr)(i z1:Int)(j0 j1:Jt):Prop where
  y1:x.jo[1]?=some z1
  t1:TieO l 1 x.bo z1 i j1
theorem CK{l:Li}{x:Gr}{i z0:Int}{j0:Jt}(h:DyK l x)(hk:x.kind=2)(hi:x.bo[0]?=some i)(hz:x.jo[0]?=some z0)(hj:l.jo[z0.toNat]?=some j0) :
  ∃z1 j1,LsP l x i z1 j0 j1/\j1.a=i/\(∀j,eT l j x=AR l j i j0 j1)/\i7 l x=[o9 l i j0 j1,pC l j1]/\iJ x=4:=by
 cases h with
 |drv t d0 hd hb=>cases hk
 |rrr ne t0 t1 h0 h2 kd tie=>cases hk
 | @pr i' z0' z1 j0' j1 t0 t1 ha =>
  have lh:i'=i:=Option.some.inj hi;have UL:z0'=z0:=Option.some.inj hz;have e0:l.jo.getD z0'.toNat default=j0:=by rw[UL];exact aS hj
  have e1:l.jo.getD z1.toNat default=j1:=aS t1.hj;refine⟨z1,j1,⟨rfl,lh▸t1⟩,lh▸ha,fun j=>?_,?_,rfl⟩
  ·show AR l j i' (l.jo.getD z0'.toNat default) (l.jo.getD z1.toNat default)=_;rw[e0,e1,lh]
  ·show[o9 l i' (l.jo.getD z0'.toNat default) (l.jo.getD z1.toNat default),pC l (l.jo.getD z1.toNat default)]=_;rw[e0,e1,lh]
 |rp t0 t1 ha=>cases hk
theorem BA{l:Li}{x:Gr}{i z0:Int}{j0:Jt}(h:DyK l x)(h0:x.kind≠0)(h1:x.kind≠1)(h2:x.kind≠2)(hi:x.bo[0]?=some i)(hz:x.jo[0]?=some z0)(hj:l.jo[z0.toNat]?=some j0) :
  ∃z1 j1,LsP l x i z1 j0 j1/\j1.a≠i/\(∀j,eT l j x=AO l j i j0 j1)/\i7 l x=[dl (j8 l i j1)]/\iJ x=2:=by
 cases h with
 |drv t d0 hd hb=>exact atk rfl h0
 |rrr ne t0 t1 h0 h2 kd tie=>exact atk rfl h1
 |pr t0 t1 ha=>exact atk rfl h2
 | @rp i' z0' z1 j0' j1 t0 t1 ha =>
  have lh:i'=i:=Option.some.inj hi;obtain⟨q1,q2,q3⟩:=afi (l:=l) (x:=⟨3,[i'],[z0',z1],0⟩) (by show ¬(3:Int)=1;decide) (by show ¬(3:Int)=2;decide) hi hz hj rfl t1.hj;exact⟨z1,j1,⟨rfl,lh▸t1⟩,lh▸ha,q1,q2,q3⟩
section
variable(l:Li)(G:List Gr)
theorem YN(hl:l.ok)(ae:ax l=0){j:Jt}{dv:Int}(hp:Pj l G j dv){x:Gr}(hx:Lg l dv x) :
  Con prog 84 [.ptr 1000 0,x.av] (de l G 0) (.tup [nA (eT l j x),i64 (iJ x)]) (de l G (dP 0 (i7 l x))):=by
 have hd:=hx.dy;obtain⟨i,z0,j0,hi,bb,t0⟩:=DS hx.dy hx.nd;have md:=hl.lj;have anm:=t0.hz;have F0:=rC hx ae rfl t0 (ar1 bb);have n0:=F0.n hp hl ae;obtain⟨o1,o2⟩:=mw ae t0.hj (qk t0);have m0:=bJ hl ae o1 o2;have hW:=rx;refine gF func84 (fun k z h=>bD h) ?_;refine gi (aw hi) ?_;refine gi (aw bb) ?_;refine gi (eI (n:=z0.toNat) oz t0.hj) ?_;refine gc (CZ j0 i) ?_;refine gD ?_;refine gt (aX (yY l G 0 hl ae hp F0) (aB rfl rfl rfl) rfl rfl rfl) ?_;refine gt (aX (lM l G 0 hl ae o1 o2) (aB rfl rfl rfl) rfl rfl rfl) ?_;refine gc Dv ?_;refine gC (fun u=>?_) (fun u=>?_)
 ·have hk:x.kind = 1:=dJ u;obtain ⟨k,z1,z2,j1,j2,P⟩:=D0 hx.dy hk hi bb t0.hj;rw [P.eE,P.eX,P.eN];have df:=P.t1.hz;have l8:=P.h0;have F1:=rC hx ae rfl P.t1 (ar1 P.y1);have n1:=F1.n hp hl ae;obtain ⟨o3,o4⟩:=mw ae P.t1.hj (qk P.t1);have m1:=bJ hl ae o3 o4;obtain ⟨o5,o6⟩:=mw ae P.h2 (b:=i) (by rcases P.ti with h9 | h9; exact .inl h9.1; exact .inr h9.1);have m2:=bJ hl ae o5 o6
  have o7:aZ (aR j2 i) (bT l k).length=true:=by
   obtain⟨i1,i2,i3,i4,_⟩:=cJ ae P.h2;have aO:=P.ne;unfold aR;rcases P.ti with⟨h8,h9⟩ |⟨h8,h9⟩
   ·rw[ate h8,<- h9];exact i4
   ·rw[atd (fun h=>aO (h.symm.trans h9)),<- h9];exact i3
  have m3:=bJ hl ae o3 o7;have vr:=m2.sub m0;have vs:=m3.sub m1;have qr:=gH vr;have qs:=gH vs;have nd:=mI n1 n0;obtain⟨A1,B1,sh0⟩:=mQ l j (br j0 i) (aR j0 i);obtain⟨A2,B2,sh1⟩:=mQ l j (br j1 k) (aR j1 k);have shd:=tg sh1 sh0;have dz:=Fx shd shd;have ng:=(nP nd nd).1.dvQ;obtain⟨e1,AA⟩:∃e1,e1=dP 0 [mf l i j0 j2,mO l i k j1 j2]:=⟨_,rfl⟩
  have iy:=HK l G 0 [mf l i j0 j2,mO l i k j1 j2] (fun y hy=>by simp only[asj,asf,or_false]at hy;rcases hy with rfl |rfl;exact qr.qs oz;exact qs.qs oz) (by show 2<=100;omega);rw[<- AA]at iy ⊢;have b1:=(f9 3).add hW (qr.sub qs);have s1:=tq l G e1 (tZ (hW.po oz) (qr.sub qs) oz);have s2:=D7 l G e1 (BG (b1.po oz) (ng.po oz) oz);have h1:Qb 1 (((1:Int):Rat)):=Qb.one;have nr:=(b1.add ng h1).mono (m:=5) (f:=600000) oz oz;have s3:=q7 l G e1 (rA (ng.po oz) (hW.po oz) oz);have nm:=(ng.mul hW).mono (m:=7) (f:=3000000) oz oz;have s4:=tq l G e1 (tZ (nm.po oz) (ru.mul qr) oz);have nf:=((f9 7).add nm (ru.mul qr)).mono (m:=7) (f:=3100000) oz oz;have s5:=q7 l G e1 (rA (nr.po oz) (nr.po oz) oz);have nq:=(nr.mul nr).mono (m:=9) (f:=6100000) oz oz;have s6:=vn l G e1 (wU (nf.po oz) (nq.po oz) oz);refine gi (aw P.b1) ?_;refine gi (aw P.y1) ?_;refine gi (eI (n:=z1.toNat) oz P.t1.hj) ?_;refine gc (CZ j1 k) ?_;refine gD ?_;refine gt (aX (yY l G 0 hl ae hp F1) (aB rfl rfl rfl) rfl rfl rfl) ?_;refine gt (aX (BK l G 0 n1 n0 oz oz) (aB rfl rfl rfl) rfl rfl rfl) ?_;refine gD ?_;refine gt (aX (lM l G 0 hl ae o3 o4) (aB rfl rfl rfl) rfl rfl rfl) ?_;refine gi (aw P.y2) ?_;refine gi (eI (n:=z2.toNat) oz P.h2) ?_;refine gc (CZ j2 i) ?_;refine gD ?_;refine gt (aX (lM l G 0 hl ae o5 o6) (aB rfl rfl rfl) rfl rfl rfl) ?_;refine gc (vo m2 m0) ?_;refine gc (wO vr) ?_;refine gt (aX (lM l G 0 hl ae o3 o7) (aB rfl rfl rfl) rfl rfl rfl) ?_;refine gc (vo m3 m1) ?_;refine gc (wO vs) ?_;refine gD ?_;refine gt (aG iy (b9 rfl rfl) aK rfl rfl) ?_;refine gt (aX (OV l G e1 nd nd oz oz dz) (aB rfl rfl rfl) rfl rfl rfl) ?_;refine gc (oW (qr.qs oz) (qs.qs oz)) ?_;refine gt (aX s1 (aB rfl rfl rfl) rfl rfl rfl) ?_;refine gt (aX s2 (aB rfl rfl rfl) rfl rfl rfl) ?_;refine gc (kW 4 oz) ?_;refine gc (iG (ru.qs oz) (qr.qs oz)) ?_;refine gt (aX s3 (aB rfl rfl rfl) rfl rfl rfl) ?_;refine gt (aX s4 (aB rfl rfl rfl) rfl rfl rfl) ?_;refine gD ?_;refine gt (aX s5 (aB rfl rfl rfl) rfl rfl rfl) ?_;refine gt (aX s6 (aB rfl rfl rfl) rfl rfl rfl) ?_;refine gR ?_;exact aD.keep (bt rfl)
 have iA:x.kind≠1:=du u;refine gC (fun u=>?_) (fun u=>?_)
 ·have hk:x.kind = 2:=dJ u;obtain ⟨z1,j1,P,ha,eE,eX,eN⟩:=CK hx.dy hk hi bb t0.hj;rw [eE,eX,eN];have df:=P.t1.hz;obtain ⟨i1,i2,i3,i4,i5⟩:=cJ ae P.t1.hj;have i5:=i5 (by rw [P.t1.kd]; decide);have pz:=(hx.an z1 (ar1 P.y1) j1 P.t1.hj).2;have F1:Fd l dv j1.b j1.on:=⟨i2,i4,pz (by rcases P.t1.tie with h9 | h9; exact h9.2; exact atk (ha ▸ ar1 hi) h9.2)⟩
  have F2:Fd l dv j1.b j1.to:=⟨i2,i5,F1.hd⟩
  have n1:=F1.n hp hl ae;have n2:=F2.n hp hl ae;have m1:=bJ hl ae i2 i4;have m2:=bJ hl ae i2 i5;rw[ha]at i1 i3;have m3:=bJ hl ae i1 i3;have vm:=m2.sub m1;have vr:=m3.sub m0;have qm:=gH vm;have qr:=gH vr;have na:=mI n2 n1;have nb:=mI n0 n1;obtain⟨A1,B1,sh0⟩:=mQ l j (br j0 i) (aR j0 i);obtain⟨A2,B2,sh1⟩:=mQ l j j1.b j1.on;obtain⟨A3,B3,sh2⟩:=mQ l j j1.b j1.to;have dz:=Pi (tg sh2 sh1) (tg sh0 sh1);have ng:=(nP na nb).2.dvQ;obtain⟨e1,AA⟩:∃e1,e1=dP 0 [o9 l i j0 j1,pC l j1]:=⟨_,rfl⟩
  have iy:=HK l G 0 [o9 l i j0 j1,pC l j1] (fun y hy=>by simp only[asj,asf,or_false]at hy;rcases hy with rfl |rfl;exact qr.qs oz;exact qm.qs oz) (by show 2<=100;omega);rw[<- AA]at iy ⊢;have s1:=q7 l G e1 (rA (hW.po oz) (hW.po oz) oz);have nw:=hW.mul hW;have s2:=tq l G e1 (tZ (nw.po oz) (qm.mul qr) oz);have nf:=(f9 5).add nw (qm.mul qr);have s3:=q7 l G e1 (rA (ng.po oz) (ng.po oz) oz);have nq:=ng.mul ng;have s4:=vn l G e1 (wU (nf.po oz) (nq.po oz) oz);refine gi (aw P.y1) ?_;refine gi (eI (n:=z1.toNat) oz P.t1.hj) ?_;refine gD ?_;refine gt (aX (lM l G 0 hl ae i2 i5) (aB rfl rfl rfl) rfl rfl rfl) ?_;refine gt (aX (lM l G 0 hl ae i2 i4) (aB rfl rfl rfl) rfl rfl rfl) ?_;refine gc (vo m2 m1) ?_;refine gc (wO vm) ?_;refine gt (aX (lM l G 0 hl ae i1 i3) (aB rfl rfl rfl) rfl rfl rfl) ?_;refine gc (vo m3 m0) ?_;refine gc (wO vr) ?_;refine gD ?_;refine gt (aG iy (b9 rfl rfl) aK rfl rfl) ?_;refine gt (aX (yY l G e1 hl ae hp F1) (aB rfl rfl rfl) rfl rfl rfl) ?_;refine gt (aX (yY l G e1 hl ae hp F2) (aB rfl rfl rfl) rfl rfl rfl) ?_;refine gt (aX (BK l G e1 n2 n1 oz oz) (aB rfl rfl rfl) rfl rfl rfl) ?_;refine gt (aX (BK l G e1 n0 n1 oz oz) (aB rfl rfl rfl) rfl rfl rfl) ?_;refine gt (aX (YG l G e1 na nb oz oz dz) (aB rfl rfl rfl) rfl rfl rfl) ?_;refine gD ?_;refine gc (iG (qm.qs oz) (qr.qs oz)) ?_;refine gt (aX s1 (aB rfl rfl rfl) rfl rfl rfl) ?_;refine gt (aX s2 (aB rfl rfl rfl) rfl rfl rfl) ?_;refine gt (aX s3 (aB rfl rfl rfl) rfl rfl rfl) ?_;refine gt (aX s4 (aB rfl rfl rfl) rfl rfl rfl) ?_;refine gR ?_;exact aD.keep (bt rfl)
 have cg:x.kind≠2:=du u;obtain⟨z1,j1,P,ha,eE,eX,eN⟩:=BA hx.dy hx.nd iA cg hi bb t0.hj;rw[eE,eX,eN];have df:=P.t1.hz;obtain⟨i1,i2,i3,i4,i5⟩:=cJ ae P.t1.hj;have i5:=i5 (by rw[P.t1.kd];decide);have sN:=(hx.an z1 (ar1 P.y1) j1 P.t1.hj).1;have hb:j1.b=i:=by rcases P.t1.tie with h9 |h9;exact atk h9.1 ha;exact h9.1
 have F1:Fd l dv j1.a j1.point:=⟨i1,i3,sN (by rcases P.t1.tie with h9 |h9;exact atk h9.1 ha;exact h9.2)⟩
 have n1:=F1.n hp hl ae;rw[hb]at i2 i4 i5;have m1:=bJ hl ae i2 i4;have m2:=bJ hl ae i2 i5;have vv:Sm 2001 (j8 l i j1):=m2.sub m1;have vu:Sm 2001 (zj l i j0 j1):=m1.sub m0;have qv:=gH vv;have qh:=vv.cross vu;have nd:=mI n1 n0;obtain⟨A1,B1,sh0⟩:=mQ l j (br j0 i) (aR j0 i);obtain⟨A2,B2,sh1⟩:=mQ l j j1.a j1.point;have shd:=tg sh1 sh0;have dz:=Fx shd shd;have ng:=(nP nd nd).1.dvQ;obtain⟨e1,AA⟩:∃e1,e1=dP 0 [dl (j8 l i j1)]:=⟨_,rfl⟩
 have iy:=HK l G 0 [dl (j8 l i j1)] (fun y hy=>by simp only[asj,asf,or_false]at hy;rcases hy with rfl;exact qv.qs oz) (by show 1<=100;omega);rw[<- AA]at iy ⊢;have s1:=tq l G e1 (tZ (ng.po oz) qv oz);have na:=(f9 5).add ng qv;have s2:=tq l G e1 (tZ (hW.po oz) (qh.mul qh) oz);have nb:=(f9 3).add hW (qh.mul qh);have s3:=vn l G e1 (wU (na.po oz) (nb.po oz) oz);refine gi (aw P.y1) ?_;refine gi (eI (n:=z1.toNat) oz P.t1.hj) ?_;refine gD ?_;refine gt (aX (lM l G 0 hl ae i2 i4) (aB rfl rfl rfl) rfl rfl rfl) ?_;refine gt (aX (lM l G 0 hl ae i2 i5) (aB rfl rfl rfl) rfl rfl rfl) ?_;refine gc (vo m2 m1) ?_;refine gc (vo m1 m0) ?_;refine gD ?_;refine gc (iG (vv.x.qs oz) (vu.y.qs oz)) ?_;refine gc (iG (vv.y.qs oz) (vu.x.qs oz)) ?_;refine gc (oW ((vv.x.mul vu.y).qs oz) ((vv.y.mul vu.x).qs oz)) ?_;refine gD ?_;refine gc (wO vv) ?_;refine gt (aG iy (b9 rfl rfl) aK rfl rfl) ?_;refine gt (aX (yY l G e1 hl ae hp F1) (aB rfl rfl rfl) rfl rfl rfl) ?_;refine gt (aX (BK l G e1 n1 n0 oz oz) (aB rfl rfl rfl) rfl rfl rfl) ?_;refine gD ?_;refine gc (wO vv) ?_;refine gt (aX (OV l G e1 nd nd oz oz dz) (aB rfl rfl rfl) rfl rfl rfl) ?_;refine gt (aX s1 (aB rfl rfl rfl) rfl rfl rfl) ?_;refine gc (iG (qh.qs oz) (qh.qs oz)) ?_;refine gt (aX s2 (aB rfl rfl rfl) rfl rfl rfl) ?_;refine gt (aX s3 (aB rfl rfl rfl) rfl rfl rfl) ?_;refine gD ?_;refine gR ?_;exact aD.keep (bt rfl)
end
open Lean.Grind (CommRing)
structure Nxt(l:Li)(kw:List Bool)(g:Gr):Prop where
  b:∀x∈g.bo,kn kw x=false
  j:∀z∈g.jo,∀j,l.jo[z.toNat]?=some j->(j.a∈g.bo\/kn kw j.a=true)/\(j.b∈g.bo\/kn kw j.b=true)
theorem xx{l:Li}{kind b:Int}{kw:List Bool}{bs:List Int}(hb:b∈bs)(h:0<=cc l kind b kw){j:Jt}(hj:l.jo[(cc l kind b kw).toNat]?=some j) :
  (j.a∈bs\/kn kw j.a=true)/\(j.b∈bs\/kn kw j.b=true):=by
 obtain⟨i,j',e,h1,_,h2⟩:=DP h;rw[e,as4,h1]at hj;cases hj;rcases h2 with⟨e1,e2⟩ |⟨e1,e2⟩
 ·exact⟨.inl (e1▸hb),.inr e2⟩
 ·exact⟨.inr e2,.inl (e1▸hb)⟩
theorem abx{l:Li}(hl:ax l=0){kw:List Bool}{g:Gr}(h:cM l kw=some g):Nxt l kw g:=by
 unfold cM at h;cases h1:eF l kw with
 |some g' =>
  rw[h1]at h;cases h;unfold eF at h1;rw[ar6]at h1;obtain⟨i,hi,rfl⟩:=h1;obtain⟨h1,h2⟩:=gL hi;unfold iD at h2;simp only[arb,ar5,atf,arf]at h2;refine⟨DL h2.1,fun z hz j hj=>?_⟩;rw[aqf.1 hz]at hj;exact xx (by simp) h2.2 hj
 |none =>
  rw[h1]at h;cases h2:dK l kw with
  |some g' =>
   rw[h2]at h;cases h;have hf:=WF h2;unfold dK at h2;rw[ar6]at h2;obtain⟨i,hi,h3⟩:=h2;obtain⟨_,h4⟩:=gL hi;split at h3
   ·rename_i k hk;subst h3;unfold jw at hk;rw [ar6] at hk;obtain ⟨k',hk',rfl⟩:=hk;obtain ⟨h5,h6⟩:=gL hk';rw [show i + 1 + k' = k' + (i + 1) by omega] at h6;unfold d9 at h6;simp only [arb,ar5,atf] at h6;obtain ⟨_,⟨j1,j2⟩,j3⟩:=h6;refine ⟨fun x hx=>vF (hf x hx),fun z hz j hj=>?_⟩;simp only [jz,asj,asf,or_false] at hz;rcases hz with rfl | rfl | rfl
    ·exact xx (by simp[jz]) j1 hj
    ·exact xx (by simp[jz]) j2 hj
    ·obtain⟨n,a2,e,sO,jG,ht⟩:=DP j3;rw[e,as4,sO]at hj;cases hj;obtain⟨i1,i2,_⟩:=cJ hl sO;have i1:=(fd i1).1;have i2:=(fd i2).1;rcases ht with⟨e1,e2⟩ |⟨e1,e2⟩
     ·rw[vI i2 oz oz]at e2;have e2:=atg e2;exact⟨.inl (by simp[jz,e1]),.inl (by simp[jz,e2])⟩
     ·rw[vI i1 oz oz]at e2;have e2:=atg e2;exact⟨.inl (by simp[jz,e2]),.inl (by simp[jz,e1])⟩
   ·rename_i hk;rw[hk]at h4;cases h4
  |none =>
   rw[h2]at h;have hf:=ah9 (show fw l kw=some g from h);have h3:fw l kw=some g:=h;unfold fw at h3;rw[ar6]at h3;obtain⟨i,hi,rfl⟩:=h3;obtain⟨_,h4⟩:=gL hi;unfold ip at h4;simp only[arb,ar5,atf]at h4;obtain⟨_,j1,j2⟩:=h4;refine⟨fun x hx=>vF (hf x hx),fun z hz j hj=>?_⟩;simp only[jR,asj,asf,or_false]at hz;rcases hz with rfl |rfl
   ·exact xx (by simp[jR]) j1 hj
   ·exact xx (by simp[jR]) j2 hj
def E9(l:Li):List Bool->List Gr->Prop
  |_,[]=>True
  |kw,g::gs=>Nxt l kw g/\E9 l (bw kw g.bo) gs
theorem Mb{l:Li}(hl:ax l=0):∀(n:Nat)(kw:List Bool)(out:List Gr),∃gs,(dj l n kw out).2=out++gs/\E9 l kw gs
 |0,kw,out=>⟨[],(ap4 _).symm,trivial⟩
 |n+1,kw,out=>by
  unfold dj;cases hg:cM l kw with
  |none=>exact⟨[],(ap4 _).symm,trivial⟩
  |some g =>
   obtain⟨gs,e,h⟩:=Mb hl n (bw kw g.bo) (out++[g]);refine⟨g::gs,?_,abx hl hg,h⟩;show(dj l n (bw kw g.bo) (out++[g])).2=_;rw[e,atc];rfl
def nN(l:Li)(gs:List Gr)(m:Nat):List Bool:=(gs.take m).foldl (fun k g=>bw k g.bo) (dA l.bo.length 0)
theorem Pc{l:Li}:∀(gs:List Gr)(kw:List Bool),E9 l kw gs->∀(m:Nat)(g:Gr),gs[m]?=some g->Nxt l ((gs.take m).foldl (fun k g=>bw k g.bo) kw) g
 |[],kw,h,m,g,hg=>by simp at hg
 |g0::gs,kw,h,0,g,hg=>by
  rw[List.getElem?_cons_zero]at hg;cases hg;exact h.1
 |g0::gs,kw,h,m+1,g,hg=>by
  rw[List.getElem?_cons_succ]at hg;exact Pc gs _ h.2 m g hg
theorem akl(l:Li)(gs:List Gr)(m:Nat):(nN l gs m).length=l.bo.length:=by
 have:∀(gs:List Gr)(k:List Bool),(gs.foldl (fun k g=>bw k g.bo) k).length=k.length:=by
  intro gs
  induction gs with
  |nil=>intro k;rfl
  |cons g gs ih=>intro k;rw[List.foldl_cons,ih,nC]
 unfold nN;rw[this,kp]
theorem Xi{l:Li}{gs:List Gr}{m:Nat}{g:Gr}(hg:gs[m]?=some g):nN l gs (m+1)=bw (nN l gs m) g.bo:=by
 unfold nN;rw[List.take_add_one,hg,List.foldl_append];rfl
theorem Tu{l:Li}{gs:List Gr}{m:Nat}{g:Gr}(hg:gs[m]?=some g)(ok:GrOk l g){b:Int}(h0:0<=b):kn (nN l gs (m+1)) b=(g.bo.any (fun x=>decide (x=b))||kn (nN l gs m) b):=by
 rw[Xi hg,IT h0 (fun x hx=>by rw[akl];exact ok.b x hx)]
theorem XU{l:Li}(hl:ax l=0)(hs:bS l=0){m:Nat}{g:Gr}(hg:(ay l)[m]?=some g):Nxt l (nN l (ay l) m) g:=by
 obtain⟨gs,e,h⟩:=Mb hl l.bo.length (dA l.bo.length 0) []
 have e2:ay l=gs:=by
  unfold ay cP;rw[ate hs,e];rfl
 rw[e2]at hg ⊢;exact Pc gs _ h m g hg
theorem Bm{n e:Nat}{a:List Rat}(h:Nm n e a):a.length<=2^n:=h.nl.le
theorem Pq.ok.nq{n e:Nat}{p:Pq}(h:Pq.ok n e p):Nq n p:=⟨Bm h.c,Bm h.s,Bm h.x,Bm h.y⟩
section
variable{l:Li}{xs:List Tn}{s g:Nat}(W:WkC l xs s g){gr:Gr}{a:Aq}(hg:(ay l)[a.ms.length]?=some gr)
variable{j r E:Nat}(Q:QInv l j r E a)
include W hg Q
end
end Go.Lw
namespace Go.Lw
open Go.Proofs
theorem oa{α:Type}{l:List α}{i:Nat}{d:α}(h:i<l.length):l[i]?=some (l.getD i d):=by
 rw[ar2,ar7 h];rfl
def j9(dv:Int)(k:Nat)(b:Int):Bool:=!(decide (0<b)&&(decide (k=0)||!decide (b=dv)))
def tW(l:Li)(dv:Int)(k:Nat)(g:Gr):Bool:=(b7 l g).all (j9 dv k)
def cf(l:Li)(G:List Gr):Int:=(G.getD 0 default).bo.getD 0 0
def kf(l:Li)(G:List Gr)(n:Nat):Bool:=(List.range n).all fun k=>tW l (cf l G) k (G.getD k default)
def fN(l:Li)(G:List Gr):Bool:=decide (G.length≠0/\(G.getD 0 default).kind=0)&&kf l G G.length
theorem ae9(l:Li)(G:List Gr):kf l G 0=true:=rfl
theorem Ed(l:Li)(G:List Gr)(n:Nat):kf l G (n+1)=(kf l G n&&tW l (cf l G) n (G.getD n default)):=by
 unfold kf;rw[aqi,all_append];simp
theorem IW{l:Li}{G:List Gr}{n m:Nat}(h:kf l G n=true)(hm:m<=n):kf l G m=true:=by
 unfold kf at h ⊢;rw[asd]at h ⊢;exact fun k hk=>h k (apt.2 (by have:=apt.1 hk;omega))
theorem X5{l:Li}{G:List Gr}{n m:Nat}(h:kf l G m=false)(hm:m<=n):kf l G n=false:=by
 cases h1:kf l G n
 ·rfl
 ·rw[IW h1 hm]at h;cases h
theorem Ld{dv:Int}{k:Nat}{b:Int}:cond (aa .gtr b 0) (cond (aa .eql (k:Int) 0) true (aa .neq b dv)) false=!j9 dv k b:=by
 have e1:aa .gtr b 0=decide (0<b):=rfl
 have e2:aa .eql (k:Int) 0=decide (k=0):=by
  show decide ((k:Int)=0)=_;exact decide_eq_decide.2 oz
 have e3:aa .neq b dv=!decide (b=dv):=by by_cases h9:b=dv <;> simp[aa,h9]
 unfold j9;rw[e1,e2,e3];cases decide (0<b) <;> cases decide (k=0) <;> cases decide (b=dv) <;> rfl
theorem LQ{α:Type}{p:α->Bool}{l:List α}{i:Nat}{x:α}(h:l[i]?=some x)(hp:p x=false):l.all p=false:=by
 cases h1:l.all p
 ·rfl
 ·rw[asd]at h1;rw[h1 x (ar1 h)]at hp;cases hp
theorem Zw{n:Nat}{k:Int}(h:cond (aa .eql (n:Int) 0) true (aa .neq k 0)=true):¬(n≠0/\k=0):=by
 cases h1:aa .eql (n:Int) 0
 ·rw[h1]at h
  have h2:k≠0:=by
   intro h9;rw[h9]at h;cases h
  exact fun h9=>h2 h9.2
 ·have:=dJ h1;exact fun h9=>h9.1 oz
theorem agl{n:Nat}{k:Int}(h:cond (aa .eql (n:Int) 0) true (aa .neq k 0)=false):n≠0/\k=0:=by
 cases h1:aa .eql (n:Int) 0
 ·rw[h1]at h;have h2:=du h1;refine⟨by omega,?_⟩;have h3:aa .neq k 0=false:=h;simpa[aa]using h3
 ·rw[h1]at h;cases h
theorem act(l:Li)(hl:l.ok)(ae:ax l=0)(G:List Gr)(hG:∀g∈G,GrOk l g)(UM:0<G.length->(G.getD 0 default).bo[0]?=some (cf l G))(AC:G.length<=100) :
  FP 83 [l.av,.lst 4 (G.map Gr.av)] (.tup [bl (fN l G),.v .nilIface]):=by
 refine am func83 ?_;refine gl ?_;refine nJ (fun h=>(aw (oa (l:=G) (i:=0) (d:=default) (by have:=du h;omega)))) ?_;refine gC (fun z=>?_) (fun z=>?_)
 ·have h1:=Zw z;refine bu ?_;unfold fN;rw[atj h1,ard];rfl
 obtain⟨h1,h2⟩:=agl z;obtain⟨dv,ni⟩:∃dv,dv=cf l G:=⟨_,rfl⟩
 rw[<- ni]at UM;have hs:fN l G=kf l G G.length:=by unfold fN;rw[ati ⟨h1,h2⟩,are]
 rw[hs];refine gi (aw (oa (l:=G) (i:=0) (d:=default) oz)) ?_;refine gi (aw (UM oz)) ?_;refine gl ?_;refine aP [2,6,29,30] [2] (fun(k:Nat)=>[pP 31 (i64 k)]) (fun _=>[]) (fun k=>k<=G.length/\kf l G k=true) (fun k=>G.length-k) 0 ⟨ase _,rfl⟩ ?_;rintro k ⟨hk,AD⟩ K1 J1;refine gC (fun z=>?_) (fun z=>?_)
 ·have af:=aT z;have hg:=oa (l:=G) (i:=k) (d:=default) af;obtain⟨g,eg⟩:∃g,g=G.getD k default:=⟨_,rfl⟩
  rw[<- eg]at hg;have dM:=hG g (ar1 hg);have uG:=dM.lj;refine gi (aw hg) ?_;refine gt (aG (Fq l hl ae g dM) (b9 rfl rfl) aK rfl rfl) ?_;refine gf ?_ (77777,0);refine gW ((Wk.freeze (k:=900) rfl).trans<|Wk.of (sl:=[pP 2 (.ptr 2 0),pP 6 (i64 dv),pP 7 (i64 k),pP 9 (.lst 1 ((b7 l g).map i64)),pP 29 (.lst 4 (G.map Gr.av)),pP 30 (i64 G.length),pP 31 (i64 k)]) (hp:=[pP 2 (.box l.av.cells)]) (.k (.k (.k (.cons rfl (.of (cq (by rw[ar3,lV]))) (.k (.k (.k .nil))))))) (.k .nil)) ?_;refine gl ?_;refine aP [2,6,7,29,30,31,45,46] [2] (fun(q:Nat)=>[pP 47 (i64 q)]) (fun _=>[]) (fun q=>q<=(b7 l g).length/\((b7 l g).take q).all (j9 dv k)=true) (fun q=>(b7 l g).length-q) 0 ⟨ase _,rfl⟩ ?_;rintro q ⟨hq,qN⟩ K2 J2;refine gC (fun z=>?_) (fun z=>?_)
  ·have bH:=aT z;obtain⟨b,hb⟩:=aJ bH;refine gi (aw hb) ?_;refine gC (fun z=>?_) (fun z=>?_)
   ·have h3 : j9 dv k b = false := by rw [Ld] at z; simpa using z
    have h4:kf l G (k+1)=false:=by rw[Ed,<- eg,<- ni];unfold tW;rw[LQ hb h3,arc]
    refine bu ?_;rw[X5 h4 af];rfl
   have h3:j9 dv k b=true:=by rw[Ld]at z;simpa using z
   refine ga (AI (by unfold aF;have:=lV l g;omega)) ?_;exact aM J2 (q+1) ⟨bH,wL qN hb h3⟩
  have bH:=bc hq z;refine ga aL ?_;exact aM J1 (k+1) ⟨af,by rw[Ed,AD,<- eg,<- ni,are];exact u4 bH qN⟩
 have af:=bc hk z;subst af;refine bu ?_;rw[AD];rfl
def gU(l:Li)(G:List Gr):Jt:=l.jo.getD ((G.getD 0 default).jo.getD 0 0).toNat default
def iS(l:Li)(j:Jt)(x:Gr):Nat:=if dP 0 (i7 l x)=0/\eT l j x≠[]then 0 else 15
def dR(l:Li):Nat :=
  if ax l≠0 then ax l else if bS l≠0 then bS l else if l.drivers.length≠1 then 7 else if fN l (ay l)=false then 15
  else if ∀x∈(ay l).tail,iS l (gU l (ay l)) x=0 then 0 else 15
def dH(l:Li):LL:=if dR l=0 then(ay l).tail.map (eT l (gU l (ay l)))else[]
def fu(l:Li):List Int:=if dR l=0 then(ay l).tail.map iJ else[]
theorem Vb(xs:List Rat):dP 0 xs=0\/dP 0 xs=15:=by unfold dP;rw[atd (by decide)];split;exact .inl rfl;exact .inr rfl
theorem YH{l:Li}{x:Gr}(h:DyK l x){z:Int}(hz:z∈x.jo){j:Jt}(hj:l.jo[z.toNat]?=some j):j.a∈x.bo\/j.b∈x.bo:=by
 have key:∀{kd z b:Int}{bs:List Int}{j j':Jt},TieO l kd bs z b j'->l.jo[z.toNat]?=some j->b∈bs->j.a∈bs\/j.b∈bs:=by
  intro kd z b bs j j' t hj hb;have e:j'=j:=Option.some.inj (t.hj.symm.trans hj);rw[<- e];rcases t.tie with h9 |h9
  ·exact .inl (h9.1▸hb)
  ·exact .inr (h9.1▸hb)
 cases h with
 |drv t d0 hd hb =>
  rw[aqf.1 hz]at hj;exact key t hj (by simp)
 |rrr ne t0 t1 h0 h2 kd tie =>
  simp only[asj,asf,or_false]at hz;rcases hz with rfl |rfl |rfl
  ·exact key t0 hj (by simp)
  ·exact key t1 hj (by simp)
  ·cases h2.symm.trans hj;rcases tie with h9 |h9
   ·exact .inl (by rw[h9.1];simp)
   ·exact .inr (by rw[h9.1];simp)
 |pr t0 t1 ha =>
  simp only[asj,asf,or_false]at hz;rcases hz with rfl |rfl
  ·exact key t0 hj (by simp)
  ·exact key t1 hj (by simp)
 |rp t0 t1 ha =>
  simp only[asj,asf,or_false]at hz;rcases hz with rfl |rfl
  ·exact key t0 hj (by simp)
  ·exact key t1 hj (by simp)
structure Sg0(l:Li):Prop where
  pj:Pj l (ay l) (gU l (ay l)) (cf l (ay l))
  ne:0<(ay l).length
  b0:(((ay l).getD 0 default).bo)[0]?=some (cf l (ay l))
  dr:∃x,l.drivers[0]?=some x/\x.body=cf l (ay l)
theorem ais{dv b:Int}(h:j9 dv 0 b=true):b<=0:=by
 unfold j9 at h;simp at h;exact h
theorem ajx{dv b:Int}{k:Nat}(h:j9 dv (k+1) b=true):b<=0\/b=dv:=by
 unfold j9 at h;simp at h;exact h
theorem C3{l:Li}{g:Gr}(h:DyK l g)(hk:g.kind=0):∃b z d j x,g=⟨0,[b],[z],d⟩/\TieO l 0 [b] z b j/\0<=d/\l.drivers[d.toNat]?=some x/\x.body=b:=by
 cases h with
 |drv t d0 hd hb=>exact⟨_,_,_,_,_,rfl,t,d0,hd,hb⟩
 |rrr ne t0 t1 h0 h2 kd tie=>cases hk
 |pr t0 t1 ha=>cases hk
 |rp t0 t1 ha=>cases hk
theorem yp{l:Li}(ae:ax l=0)(hd:l.drivers.length=1)(hs:fN l (ay l)=true):Sg0 l:=by
 unfold fN at hs;simp only[ar5,atf]at hs;obtain⟨⟨h1,h2⟩,h3⟩:=hs;have hg:=oa (l:=ay l) (i:=0) (d:=default) oz;obtain⟨g,eg⟩:∃g,g=(ay l).getD 0 default:=⟨_,rfl⟩
 rw[<- eg]at hg h2;obtain⟨oA,bm⟩:=kF ae (ar1 hg);obtain⟨b,z,d,j,x,rfl,t,d0,gn,hb⟩:=C3 oA h2;have e1:cf l (ay l)=b:=by unfold cf;rw[<- eg];rfl
 have e2:gU l (ay l)=j:=by unfold gU;rw[<- eg];exact aS t.hj
 have h4:=IW h3 (show 1<=_ by omega);rw[Ed,ae9,are,<- eg,e1]at h4;unfold tW at h4;rw[asd]at h4;have hz:=bm.j z (by simp);obtain⟨i1,i2,_⟩:=cJ ae t.hj;have i1:=fd i1;have i2:=fd i2
 have aO:j.a≠j.b:=by
  intro h9;rcases t.tie with⟨a1,a2⟩ |⟨a1,a2⟩
  ·exact a2 (by rw[<- h9,a1];simp)
  ·exact a2 (by rw[h9,a1];simp)
 have ha:b7 l ⟨0,[b],[z],d⟩=[fQ ⟨0,[b],[z],d⟩ j]:=by show[fQ _ (l.jo.getD z.toNat default)]=_;rw[aS t.hj]
 have h5:=ais (h4 _ (by rw[ha];exact aqf.2 rfl))
 have h6:br j b=0:=by
  unfold br;unfold fQ at h5;rcases t.tie with⟨a1,a2⟩ |⟨a1,a2⟩
  ·rw[ate a1];rw[ate (Cq (by rw[a1];simp)),atd (by rw[r7 a2];simp)]at h5;omega
  ·have a3:¬j.a=b:=fun h9=>aO (h9.trans a1.symm)
   rw[atd a3];rw[atd (by rw[r7 a2];simp)]at h5;omega
 refine⟨?_,by omega,by rw[<- eg,e1];rfl,?_⟩
 ·rw[e1,e2];exact⟨⟨_,z,hg,rfl,hz.1,hz.2,t.hj⟩,qk t,h6⟩
 ·have qM:=(ap9.1 gn).1;rw[show d.toNat=0 by omega]at gn;exact⟨x,gn,by rw[e1];exact hb⟩
theorem aeo{l:Li}(ae:ax l=0){b:Int}(h0:0<=b):∀{n m:Nat},n<=m->m<=(ay l).length->kn (nN l (ay l) n) b=true->kn (nN l (ay l) m) b=true:=by
 intro n m
 induction m with
 |zero=>intro h _ hk;rwa [show n=0 by omega]at hk
 |succ m ih =>
  intro h hm hk
  by_cases e:n=m+1
  ·rwa [e]at hk
  ·obtain⟨g,hg⟩:=aJ (l:=ay l) (i:=m) oz;rw[Tu hg (kF ae (ar1 hg)).2 h0,ih oz oz hk,Bool.or_true]
theorem DY{l:Li}(ae:ax l=0)(fp:bS l=0)(hd:l.drivers.length=1)(hs:fN l (ay l)=true){k:Nat}{x:Gr}(hx:(ay l)[k+1]?=some x):Lg l (cf l (ay l)) x:=by
 have h0:=yp ae hd hs;obtain⟨oA,bm⟩:=kF ae (ar1 hx);have hl:=(ap9.1 hx).1;refine⟨oA,bm,fun hk=>?_,fun z hz jt hj=>?_⟩
 ·obtain ⟨b, z, d, j, y, rfl, t, d0, gn, hb⟩:=C3 oA hk;have qM:=(ap9.1 gn).1;rw [show d.toNat = 0 by omega] at gn;obtain ⟨y',h1,h2⟩:=h0.dr;have h3:y = y':=Option.some.inj (gn.symm.trans h1);have h4:b = cf l (ay l):=by rw [<- hb,h3,h2]
  have hn:=(XU ae fp hx).b b (by simp);have qH:=oa (l:=ay l) (i:=0) (d:=default) h0.ne;have UN:=(kF ae (ar1 qH)).2;have pv:=ar1 h0.b0;have iP:=(UN.b _ pv).1
  have h5:kn (nN l (ay l) 1) (cf l (ay l))=true:=by
   rw[Tu qH UN iP];rw[show((ay l).getD 0 default).bo.any (fun x=>decide (x=cf l (ay l)))=true from List.any_eq_true.2 ⟨_,pv,ati rfl⟩];rfl
  rw[h4,aeo ae iP (show 1<=k+1 by omega) oz h5]at hn;cases hn
 ·unfold fN at hs;simp only [ar5,atf] at hs;have h4:=IW hs.2 (show k + 2 <= _ by omega);rw [Ed,aS hx,ar5] at h4;have h5:=h4.2;unfold tW at h5;rw [asd] at h5
  have h6:j9 (cf l (ay l)) (k+1) (fQ x jt)=true:=h5 _ (by
   unfold b7;exact aqd.2 ⟨z,hz,by rw[aS hj]⟩)
  obtain⟨i1,i2,_⟩:=cJ ae hj;have i1:=fd i1;have i2:=fd i2;have h7:=ajx h6;have h8:=YH oA hz hj;unfold fQ at h7;refine⟨fun ha=>?_,fun hb=>?_⟩
  ·rw [atd (by rw [r7 ha]; simp)] at h7;rcases h7 with h7 | h7
   ·exact .inl oz
   ·exact .inr h7
  ·have ha:jt.a∈x.bo:=by
    rcases h8 with h9 |h9
    ·exact h9
    ·exact atk h9 hb
   rw[ate (Cq ha),atd (by rw[r7 hb];simp)]at h7;rcases h7 with h7 |h7
   ·exact .inl oz
   ·exact .inr h7
theorem Mo{l:Li}(h:ax l≠0):dR l=ax l:=by unfold dR;rw[ate h]
theorem NT{l:Li}(h1:ax l=0)(h:bS l≠0):dR l=bS l:=by unfold dR;rw[atd oz,ate h]
theorem LI{l:Li}(h1:ax l=0)(h2:bS l=0)(h:l.drivers.length≠1):dR l=7:=by unfold dR;rw[atd oz,atd oz,ate h]
theorem MF{l:Li}(h1:ax l=0)(h2:bS l=0)(h3:l.drivers.length=1)(h:fN l (ay l)=false):dR l=15:=by unfold dR;rw[atd oz,atd oz,atd oz,ate h]
theorem HR{l:Li}(h1:ax l=0)(h2:bS l=0)(h3:l.drivers.length=1)(h4:fN l (ay l)=true){x:Gr}(hx:x∈(ay l).tail)(h:iS l (gU l (ay l)) x≠0):dR l=15:=by
 unfold dR;rw[atd oz,atd oz,atd oz,atd (by rw[h4];decide),atd (fun h9=>h (h9 x hx))]
theorem Og{l:Li}(h1:ax l=0)(h2:bS l=0)(h3:l.drivers.length=1)(h4:fN l (ay l)=true)(h:∀x∈(ay l).tail,iS l (gU l (ay l)) x=0):dR l=0:=by
 unfold dR;rw[atd oz,atd oz,atd oz,atd (by rw[h4];decide),ate h]
structure ExP(l:Li):Prop where
  li:ax l=0
  sp:bS l=0
  dr:l.drivers.length=1
  si:fN l (ay l)=true
  al:∀x∈(ay l).tail,iS l (gU l (ay l)) x=0
theorem Iz{l:Li}(h:dR l=0):ExP l:=by
 have h1:ax l=0:=Decidable.byContradiction fun h1=>by rw[Mo h1]at h;omega
 have h2:bS l=0:=Decidable.byContradiction fun h2=>by rw[NT h1 h2]at h;omega
 have h3:l.drivers.length=1:=Decidable.byContradiction fun h3=>by rw[LI h1 h2 h3]at h;omega
 have h4:fN l (ay l)=true:=by
  cases h4:fN l (ay l)
  ·rw[MF h1 h2 h3 h4]at h;omega
  ·rfl
 refine⟨h1,h2,h3,h4,fun x hx=>Decidable.byContradiction fun h5=>?_⟩;rw[HR h1 h2 h3 h4 hx h5]at h;omega
theorem yz{x k:Int}(h:aa .neq x k=true):x≠k:=by simpa[aa]using h
theorem yq{x k:Int}(h:aa .neq x k=false):x=k:=by simpa[aa]using h
theorem WK{e n:Nat}(h:cond (fc (ja e)) (aa .eql (n:Int) 0) false=true):e=0/\n=0:=by
 cases h1:fc (ja e)
 ·rw[h1]at h;cases h
 ·rw[h1]at h;exact⟨Mi h1,by have:=dJ (x:=(n:Int)) (y:=0) h;omega⟩
theorem afw{e n:Nat}(h:cond (fc (ja e)) (aa .eql (n:Int) 0) false=false):e≠0\/n≠0:=by
 cases h1:fc (ja e)
 ·exact .inl (Zr h1)
 ·rw[h1]at h;exact .inr (by have:=du (x:=(n:Int)) (y:=0) h;omega)
theorem Yv{l:Li}{j:Jt}{x:Gr}(h:dP 0 (i7 l x)=0/\(eT l j x).length=0):iS l j x=15:=by
 unfold iS;rw[atd (fun h9=>h9.2 (apv.1 h.2))]
theorem ad2{l:Li}{j:Jt}{x:Gr}(h:dP 0 (i7 l x)≠0\/(eT l j x).length≠0):iS l j x=dP 0 (i7 l x):=by
 unfold iS;rcases Vb (i7 l x)with h1 |h1
 ·rw[ate ⟨h1,fun h9=>by rw[h9]at h;rcases h with h |h;exact h h1;exact h rfl⟩,h1]
 ·rw[atd (fun h9=>by rw[h1]at h9;exact atk h9.1 (by decide)),h1]
theorem DW{α β:Type}(f:α->β){L:List α}{i:Nat}{x:α}(h:L[i]?=some x):(L.take (i+1)).map f=(L.take i).map f++[f x]:=by rw[fO h,asz];rfl
theorem I2(l:Li)(hl:l.ok):FP 33 [l.av] (.tup [.lst 1 ((dH l).map nA),.lst 1 ((fu l).map i64),bQ (dR l)]):=by
 refine am func33 ?_;refine gc (Ch l hl) ?_;refine gC (fun z=>?_) (fun z=>?_)
 ·have h9:=gQ z
  have he:dR l=(if ax l=0 then bS l else ax l):=by
   by_cases h1:ax l=0
   ·rw[ate h1]at h9 ⊢;exact NT h1 h9
   ·rw[atd h1];exact Mo h1
  have hn:dR l≠0:=by rw[he];exact h9
  refine gR ?_;exact ft (by unfold dH fu;rw[atd hn,atd hn,he];exact Sub.tup (.cons (.nil _ _ _) (.cons (.nil _ _ _) (.cons (.refl _) .nil))))
 have h9:=gV z;have ae:ax l=0:=Decidable.byContradiction fun h1=>by rw[atd h1]at h9;exact h1 h9
 have fp:bS l=0:=by rw[ate ae]at h9;exact h9
 rw[ate ae,ate ae];have xj:=hl.ld;refine gl ?_;refine gC (fun z=>?_) (fun z=>?_)
 ·have h3 : l.drivers.length ≠ 1 := by have := yz z; omega
  have he:=LI ae fp h3;refine gR ?_;exact ft (by unfold dH fu;rw[he];exact Sub.tup (.cons (.nil _ _ _) (.cons (.nil _ _ _) (.cons (.refl _) .nil))))
 have h3:l.drivers.length=1:=by have:=yq z;omega
 obtain⟨G,hG⟩:∃G,G=ay l:=⟨_,rfl⟩
 have AC:G.length<=100:=by have:=Dj ae;rw[hG];omega
 have ann:=act l hl ae G (fun g hg=>(kF ae (hG▸hg)).2) (fun h0=>by
  have hg:=oa (l:=G) (i:=0) (d:=default) h0;have hm:G.getD 0 default∈ay l:=by have h9:=ar1 hg;rw[hG]at h9 ⊢;exact h9
  have oA:=(kF ae hm).1
  have key:∀x,DyK l x->x.bo[0]?=some (x.bo.getD 0 0):=by
   intro x hx;cases hx <;> rfl
  exact key _ oA) AC
 rw[<- hG];refine gc ann ?_;refine gf ?_;refine gC (fun z=>?_) (fun z=>?_) (st2:=(77777,0))
 ·have h4 : fN l (ay l) = false := by rw [<- hG]; simpa using z
  have he:=MF ae fp h3 h4;refine gR ?_;exact ft (by unfold dH fu;rw[he];exact Sub.tup (.cons (.nil _ _ _) (.cons (.nil _ _ _) (.cons (.refl _) .nil))))
 have h4:fN l (ay l)=true:=by rw[<- hG];simpa using z
 have hS:=yp ae h3 h4;have aO:0<G.length:=by rw[hG];exact hS.ne
 obtain⟨T,hT⟩:∃T,T=G.tail:=⟨_,rfl⟩
 have hTl:T.length<=100:=by rw[hT,aqg];omega
 obtain⟨j,hj⟩:∃j,j=gU l G:=⟨_,rfl⟩
 have j7:Pj l G j (cf l G):=by rw[hj,hG];exact hS.pj
 have Km:∀(i:Nat)(x:Gr),T[i]?=some x->Lg l (cf l G) x:=fun i x hx=>by
  rw[hG];refine DY ae fp h3 h4 (k:=i) ?_;rw[<- hG];rw[hT,ap6]at hx;exact hx
 refine gW (Wk.o (sl:=[pP 1 (.ptr 1 0),pP 5 (.lst 4 (G.map Gr.av))]) (hp:=[pP 1 (.box l.av.cells)])) ?_ (14,2);refine gs ((fC (l:=1) (es:=G.map Gr.av) (.tmp rfl) (.some _ (.const _) oz) (.none _) T53 rfl T104 rfl (by rw[ar3];omega) (ar8 _) rfl)) ?_;refine ge rfl ?_;refine gW (Wk.of (sl:=[pP 8 (.ptr 8 0),pP 9 (nS),pP 10 (nS),pP 44 (.lst 4 (T.map Gr.av)),pP 45 (i64 T.length),pP 46 (i64 0)]) (hp:=[pP 8 (.box (wS l G 0))]) (.k (.k (.k (.cons rfl (.of (by rw[hT,<- List.drop_one,aph,asn (by rw[apx];omega)])) (.cons rfl (Sub.int (by have h8:T.length=G.length-1:=(by rw[hT,aqg]);rw[h8,aso,apx,ar3,Nat.min_self])) (.k .nil)))))) (.k .nil)) ?_ (99999,0)
 refine gW (Wk.virt 900 1 rfl) ?_ (99999,0);refine gW (Wk.virt 901 1 rfl) ?_;refine aP [8,44,45] [8] (fun(i:Nat)=>[pP 9 (.ms 900 1 0 i),pP 10 (.ms 901 1 0 i),pP 46 (i64 i)]) (fun i=>[pP 900 (.row 1 (((T.take i).map (eT l j)).map nA)),pP 901 (.row 1 (((T.take i).map iJ).map i64))]) (fun i=>i<=T.length/\∀x∈T.take i,iS l j x=0) (fun i=>T.length-i) 0 ⟨ase _,fun x hx=>by simp at hx⟩ ?_ (h1:=(.cons rfl (Sub.nM _ _ _) (.cons rfl (Sub.nM _ _ _) (.k .nil))))
 rintro i ⟨hi,bm⟩ K1 J1;refine gC (fun z=>?_) (fun z=>?_) (st2:=(24,0))
 ·have af:=aT z;obtain ⟨x,hx⟩:=aJ af;have Kn:x ∈ (ay l).tail:=by rw [<- hG,<- hT]; exact ar1 hx
  refine gi (aw hx) ?_;refine gt (aG (Con.rekeyB 8 rfl rfl rfl rfl (YN l G hl ae j7 (Km i x hx))) (b9 rfl rfl) aK rfl rfl) ?_;refine cG ?_;refine v7 [8,13,14,44,45,46] [900,901] [pP 9 (.ms 900 1 0 i),pP 10 (.ms 901 1 0 i)] [pP 8 (.box (wS l G (iS l j x)))] (True) ?_ ?_
  ·intro K2 J2;refine gC (fun z=>?_) (fun z=>?_)
   ·have h5:=WK z;exact k8 J2 trivial (hw:=Wk.of a6 (.cons rfl (.of (by rw[Yv h5];rfl)) (.k (.k .nil))))
   have h5:=afw z;exact k8 J2 trivial (hw:=Wk.of a6 (.cons rfl (.of (by rw[ad2 h5])) (.k (.k .nil))))
  rintro -;refine gC (fun z=>?_) (fun z=>?_)
  ·have h5:=gQ z;have he:=HR ae fp h3 h4 Kn (by rw [<- hG,<- hj]; exact h5);have h6:iS l j x = 15:=by unfold iS at h5 ⊢; split at h5; exact atk rfl h5; rw [atd (by assumption)]
   refine gD ?_;refine gR ?_;exact ft (by unfold dH fu;rw[he,h6];exact Sub.tup (.cons (.nil _ _ _) (.cons (.nil _ _ _) (.cons (.refl _) .nil))))
  have h5:=gV z;refine gs (eQ (.tmp rfl) rfl (by rw[ar3,ar3,aso];omega) (.tmp rfl) T29 rfl T41 rfl rfl (by simp only[asi,asu];omega) rfl rfl) ?_;refine gs (eQ (.tmp rfl) rfl (by rw[ar3,ar3,aso];omega) (.tmp rfl) T30 rfl T3 rfl rfl (by simp only[asi,asu];omega) rfl rfl) ?_ (23,0);refine gW (Wk.of (sl:=[pP 8 (.ptr 8 0),pP 9 (.ms 73 1 0 (i+1)),pP 10 (.ms 77 1 0 (i+1)),pP 44 (.lst 4 (T.map Gr.av)),pP 45 (i64 T.length),pP 46 (i64 i)]) (hp:=[pP 8 (.box (wS l G 0)),pP 73 (.row 1 (((T.take (i+1)).map (eT l j)).map nA)),pP 77 (.row 1 (((T.take (i+1)).map iJ).map i64))]) a6 (.cons rfl (.of (by rw[h5])) (.cons rfl (.of (by rw[DW _ hx,asz];rfl)) (.cons rfl (.of (by rw[DW _ hx,asz];rfl)) .nil)))) ?_ (23,0)
  refine gW (Wk.rk (k:=73) (d:=900) rfl rfl) ?_ (23,0);refine gW (Wk.rk (k:=77) (d:=901) rfl rfl) ?_;refine ga aL ?_;exact aM J1 (i+1) ⟨af,fun y hy=>by rw[fO hx]at hy;rcases ar9.1 hy with h9 |h9;exact bm y h9;rw[aqf.1 h9];exact h5⟩
 have af:=bc hi z;subst af;have he:=Og ae fp h3 h4 (by rw[<- hG,<- hT,<- hj,<- asK (l:=T)];exact bm);have eP:dH l=T.map (eT l j):=by unfold dH;rw[ate he,<- hG,<- hT,<- hj]
 have eN:fu l=T.map iJ:=by unfold fu;rw[ate he,<- hG,<- hT]
 refine gW ((Wk.freeze (k:=900) rfl).trans<|(Wk.freeze (k:=901) rfl).trans<|Wk.of (sl:=[pP 9 (.lst 1 ((T.map (eT l j)).map nA)),pP 10 (.lst 1 ((T.map iJ).map i64))]) (hp:=[]) (.cons rfl (.of (by rw[cq (by rw[ar3,ar3,aso];omega),asK];rfl)) (.cons rfl (.of (by show AV.fz 901 1 _ (.ms 901 1 0 T.length)=_;rw[cq (by rw[ar3,ar3,aso];omega),asK])) .nil)) .nil) ?_;refine oc ?_;rw[eP,eN,he];rfl
theorem adc(l:Li)(hl:l.ok):FP 8 [l.av] (.tup [.lst 1 ((dH l).map nA),.lst 1 ((fu l).map i64),bQ (dR l)]):=by
 refine am func8 ?_;refine gc (I2 l hl) ?_;refine oc ?_
 first |rfl |(simp;done)
variable{P:atq}{N:Nat}{R:Array Oper}{s:AS}{pos:String}{after:Array Edge}
theorem Lt{ρ:atn->ato}{d:Option Tmp}{x y:atn}{T T2 t:atp}{w w':atr}{v:ato}
  (h:(Builtin.copy_ #[T,T2] t #[ρ x,ρ y]).run P w=.ok v w') :
  (execOp ρ ⟨d,.call ⟨.builtin .copy,#[x,y],#[T,T2]⟩,t,pos,after,none⟩).run P w=.ok (.value v) w':=by
 simp[execOp,resolve,invoke,builtin,h]
set_option maxHeartbeats 1000000 in
theorem alb{d k sz len:Nat}{es xs:List AV}{x y:atn}{T T2 E t:atp}{ti te:TI}
  (hx:Ev s x (.ms k sz 0 len)) (hk:s.blk k=some (.row sz es)) (cm:len=es.length) (hy:Ev s y (.lst sz xs)) (hT:au P T=some ti) (jG:ti.k=.slice E) (hE:au P E=some te)
  (a5:te.size=sz) (df:aob 0 te.size=true) (hb:xs.length<=len) (hN:aob d N=true) :
  Step P N R s ⟨some d,.call ⟨.builtin .copy,#[x,y],#[T,T2]⟩,t,pos,after,none⟩
   ⟨some (.v (.int .i64 xs.length)),[(k,some (.row sz (xs++es.drop xs.length)))],aj x++aj y,[k]⟩:=by
 refine zE rfl ?_;intro s' ao bP C m a w next hC hr hnext;subst a5;subst cm
 rw[aoh]at hN df;have dg:lk s'.hp k=some (.row te.size es):=(ao.2 k (by simp)).trans hk;have hd:d<C.nt:=by omega
 have et:=(hx.agree ao (fun _ h=>ar9.2 (.inl h))).rep hr;have mW:=(hy.agree ao (fun _ h=>ar9.2 (.inr h))).rep hr;obtain⟨dd2,h3,h4,-,hu⟩:=dX hT w;obtain rfl:=i9 (h4.trans jG);obtain⟨ll,iM⟩:∃ll,ll=es.length:=⟨_,rfl⟩
 rw[<- iM]at et
 have z9:∀(w':atr),RelM C ⟨s'.sl,(k,some (.row te.size (xs++es.drop xs.length)))::s'.hp⟩ m a w'->next (a.put (some d) (goInt xs.length)) w':=by
  intro w' hr';refine hnext m _ _ ?_;have:=hr'.put d (.int .i64 xs.length) (some (.v (.int .i64 xs.length))) (fun z hz=>by cases hz;exact⟨asp hd hr'.nt,.v _⟩);simpa[AS.app,Act.put,goInt]using this
 have Aa:∀(b1 a1:Option Addr)(c1 c2 l1:Nat),a.eval x=.slice b1 l1 c1->a.eval y=.slice a1 0 c2->xs=[] ->
   (⟨some d,.call ⟨.builtin .copy,#[x,y],#[T,T2]⟩,t,pos,after,none⟩:Oper).upon P a next (fun _ _ _=>False) ((execOp a.eval ⟨some d,.call ⟨.builtin .copy,#[x,y],#[T,T2]⟩,t,pos,after,none⟩).run P w):=by
  intro b1 a1 c1 c2 l1 e1 e2 e3;subst e3
  have jX:(Builtin.firstCells te.size 0 (.slice a1 0 c2)).run P w=.ok #[] w:=by
   cases a1 with
   |none=>rfl
   |some a1=>exact run_firstCells_some w _ _ a1 _ _ [] (by simp) (by simp)
  have eW:(Builtin.copy_ #[T,T2] t #[.slice b1 l1 c1,.slice a1 0 c2]).run P w=.ok (goInt 0) w:=by
   have e0:Nat.min 0 l1=0:=Nat.zero_min _;cases b1 with
   |none=>simp[Builtin.copy_,h3,gd hE,Builtin.lenOf,e0,jX]
   |some b1=>simp[Builtin.copy_,h3,gd hE,Builtin.lenOf,e0,jX,storeCells]
  rw[Lt (ρ:=a.eval) (by rw[e1,e2];exact eW)];refine z9 w ?_;refine RelM.congr (s:=s') (fun t=>rfl) ?_ hr;intro k';simp only[AS.blk,aE];split
  ·subst_vars;rw[dg];rfl
  ·rfl
 rcases I6 mW df with⟨rfl,a1,cap1,iN⟩ |⟨b1,off1,cap1,cs,iN,mZ,dD,TF,sr,fL,iO,a8⟩
 ·generalize d8:a.eval x=u at et;cases et with
  |ms0 a0=>exact Aa _ _ _ _ _ d8 iN rfl
  |ms hm hc hS=>exact Aa _ _ _ _ _ d8 iN rfl
 ·obtain ⟨TG, TH, t1, f1, lw⟩:=dD;have cT:(cs.extract off1 (off1 + xs.length * te.size)).toList.length = xs.length * te.size:=by simp; omega
  have pp:∀(j:Nat) v,(cs.extract off1 (off1+xs.length*te.size)).toList[j]?=some v->w.cell? ((⟨b1,off1,none⟩:Addr).add j)=some v:=by
   intro j v hj;rw[kg,tR lw];rw[arn,arp]at hj;split at hj
   ·exact hj
   ·cases hj
  have jY:∀u∈(cs.extract off1 (off1+xs.length*te.size)).toList,u.oneCell'=true:=by
   intro u hu;obtain⟨p,hp,rfl⟩:=ap5.1 hu;rw[cT]at hp;have hi':p/te.size<xs.length:=by rw[aos df];exact hp
   have he:=ar7 hi';have oi:=fL _ _ he;have mY:p%te.size<te.size:=aou _ df;have lr:=ar7 (show p%te.size<(xs[p/te.size]).cells.length by omega);have ph:p/te.size*te.size+p%te.size=p:=by rw[aog];exact aoa _ _
   have m7:cs[off1+p/te.size*te.size+p%te.size]?=some ((cs.extract off1 (off1+xs.length*te.size)).toList[p]'oz):=by
    rw[ao0,ph];simp only[Array.getElem_toList,Array.getElem_extract];exact aro oz
   exact(a8 _ _ _ _ _ he lr m7).one (iO _ _ _ _ he lr)
  generalize d8:a.eval x=u at et;cases et with
  |ms0 a0=>omega
  | @ms _ _ _ _ _ cap b hm hc hS =>
   subst iM;obtain⟨c,t2,hw,hn,hl,gO,ss,ku⟩:=vU hr.heap dg hm;have Eu:xs.length*te.size<=es.length*te.size:=asl _ hb;have jX:=run_firstCells_some (P:=P) w te.size xs.length ⟨b1,off1,none⟩ xs.length cap1 _ cT pp;have cR:=A9 (P:=P) (cs.extract off1 (off1+xs.length*te.size)).toList c w 0 0 hw (by rw[cT];omega) jY;simp only[aoy]at cR;have JI:Nat.min xs.length es.length=xs.length:=aon hb
   have eW:(Builtin.copy_ #[T,T2] t #[.slice (some ⟨b,0*te.size,none⟩) es.length cap,.slice (some ⟨b1,off1,none⟩) xs.length cap1]).run P w =
     .ok (goInt xs.length) { w with heap:=w.heap.setIfInBounds b (.cells (over c.toList 0 (cs.extract off1 (off1+xs.length*te.size)).toList).toArray t2 (0,0)) }:=by
    rw[Nat.zero_mul];generalize(cs.extract off1 (off1+xs.length*te.size)).toList=news at jX cR ⊢;simp[Builtin.copy_,h3,gd hE,Builtin.lenOf,JI,jX,cR]
   rw[Lt (ρ:=a.eval) (by rw[d8,iN];exact eW)];refine z9 _ ?_
   have bU:(over c.toList 0 (cs.extract off1 (off1+xs.length*te.size)).toList).toArray.size=c.size:=by
    simp only[apr];rw[vD _ _ _ (by rw[cT];simp;omega)];simp
   refine hr.write (x':=.row te.size (xs++es.drop xs.length)) dg hm hw bU rfl (fun g S hg hS hw'=>?_)
   have qF:∀(i:Nat)(e:AV),(xs++es.drop xs.length)[i]?=some e->(i<xs.length/\xs[i]?=some e)\/(xs.length<=i/\es[i]?=some e):=by
    intro i e he;rcases asb i xs.length with h |h
    ·rw[asq h]at he;exact .inl ⟨h,he⟩
    ·rw[asm h,as3,show xs.length+(i-xs.length)=i by omega]at he;exact .inr ⟨h,he⟩
   refine .row hw' ?_ (by simp;omega) ?_ ?_ ?_
   ·rw [bU];have:(xs ++ es.drop xs.length).length = es.length:=by simp; omega
    rw[this];exact hn
   ·intro i e he;rcases qF i e he with⟨_,h⟩ |⟨_,h⟩
    ·exact fL i e h
    ·exact gO i e h
   ·intro i j e z he hz;rcases qF i e he with⟨_,h⟩ |⟨_,h⟩
    ·exact iO i j e z h hz
    ·exact ss i j e z h hz
   ·intro i j e u z he hz hu;refine Rep.mono hg hS ?_ (fun _ _ _ h=>h);rw [ap2,kZ _ _ _ (by rw [cT]; simp; omega),atd oz,cT] at hu;rcases qF i e he with ⟨hi,h⟩ | ⟨hi,h⟩
    ·have hj:j<te.size:=by
      rw[<- fL i e h];rcases asb j e.cells.length with h |h
      ·exact h
      ·rw[asg h]at hz;cases hz
     have:=oJ (sz:=te.size) hi;rw[ate oz,arn,arp,ate oz]at hu;exact a8 i j e z u h hz (by rw[<- hu];congr 1;omega)
    ·have h9:xs.length*te.size<=i*te.size:=asl _ hi;rw[atd oz,arn]at hu;exact ku i j e u z h hz hu
end Go.Lw
namespace Go.Lw
open Go.Proofs
section
theorem PU{p q:Rat}(hp:Qs p)(hq:Qs q):FP 193 [qA p,qA q] (qA (p+q)):=by
 have h:=GJ (rt p) (rt q) hp.ok hq.ok;rw[bE,bE]at h;exact h
theorem pg{p q:Rat}(hp:Qs p)(hq:Qs q):FP 96 [qA p,qA q] (qA (p-q)):=by
 have h:=QF (rt p) (rt q) hp.ok hq.ok;rw[bE,bE]at h;exact h
theorem rq{p q:Rat}(hp:Qs p)(hq:Qs q):FP 99 [qA p,qA q] (qA (p*q)):=by
 have h:=Xw (rt p) (rt q) hp.ok hq.ok;rw[bE,bE]at h;exact h
theorem UX{p q:Rat}(hp:Qs p)(hq:Qs q):FP 371 [qA p,qA q] (.tup [qA (p/q),i64 (if q=0 then 8 else 0)]):=by
 have h:=alc (rt p) (rt q) hp.ok hq.ok;rw[bE,bE]at h;exact h
theorem Vx{p:Rat}(hp:Qs p):FP 197 [qA p] (qA (-p)):=by
 have h:=OW (rt p) hp.ok;rw[bE]at h;exact h
theorem IJ{p:Rat}(hp:Qs p):FP 107 [qA p] (i64 (a9 p)):=by
 have h:=HU (rt p) hp.ok;rw[bE]at h;exact h
end
def lO(s:Nat)(q:List Rat):List Rat:=apf s 0++q
theorem KI(t:Rat)(q:List Rat):∀s,aq (lO s q) t=t^s*aq q t
 |0=>by show aq q t=t^0*aq q t;rw[Rat.pow_zero];grind
 |s+1=>by
  have ih:=KI t q s;show 0+t*aq (lO s q) t=t^(s+1)*aq q t;rw[ih,Rat.pow_succ];grind
theorem NA(t:Rat)(n:Nat):∀p:List Rat,aq (p++apf n 0) t=aq p t
 |[]=>Jc n t
 |c::p=>by show c+t*aq (p++apf n 0) t=c+t*aq p t;rw[NA t n p]
theorem NJ(p:List Rat)(n j:Nat):(p++apf n 0).getD j 0=p.getD j 0:=by
 rw[ar2,ar2,List.getElem?_append];split
 ·rfl
 ·rename_i h;rw[ast,asg oz];split <;> rfl
theorem PR(k:Nat)(e:Nat):e+4<=4^k*(e+4):=Nat.le_mul_of_pos_left _ (aoi oz)
def mK(p q:List Rat)(c:Rat)(s:Nat):List Rat:=padd p (lO s q) c
theorem DJ(p q:List Rat)(c t:Rat)(s:Nat):aq (mK p q c s) t=aq p t+c*t^s*aq q t:=by unfold mK;rw[eC,KI];grind
theorem qg{e:Nat}{p:List Rat}(hp:Po e p)(he:e<=1000000000000):FP 298 [nA p] (i64 0):=by
 have jZ:=hp.len;have Ex:=Gn hp.td;refine am func298 ?_;refine gl ?_;refine gC (fun y=>?_) (fun y=>?_) (st1:=(2,0));exact atk (ee (b:=65) y) oz;refine gl ?_;refine aP [0,8,9] [] (fun(i:Nat)=>[pP 10 (i64 i)]) (fun _=>[]) (fun i=>i<=p.length) (fun i=>p.length-i) 0 (ase _) ?_;rintro i hi K1 J1;refine gC (fun y=>?_) (fun y=>?_)
 ·have af:=aT y;obtain⟨q,hq⟩:=aJ af;have hv:=zn (rt q) (hp.qs he (ar1 hq)).ok;rw[Bo]at hv;refine gi (aw hq) ?_;refine gc hv ?_;refine gf ?_;refine ga aL ?_;exact aM J1 (i+1) af
 obtain⟨z,hz⟩:∃z,0<p.length->p[p.length-1]?=some z/\z≠0:=by
  by_cases h:0<p.length
  ·obtain⟨z,h1⟩:=Ex h;exact⟨z,fun _=>h1⟩
  ·exact⟨0,fun h1=>atk h1 h⟩
 refine gl ?_;refine cG ?_;refine kG (fun h=>(gG (by have:=ee (b:=0) h;omega) (by unfold aF;omega))) ?_;refine nJ (fun h=>(aw (hz (ee (b:=0) h)).1)) ?_;refine bV (fun h=>(IJ (hp.qs he (ar1 (hz (ee (b:=0) h)).1)))) ?_;refine gC (fun y=>?_) (fun y=>?_) (st1:=(10,0));exact(KO (fun h=>(hz h).2) y).elim;refine ah ?_
 first |rfl |(simp;done)
theorem Dg{p q:List Rat}(hp:FP 298 [nA p] (i64 0))(hq:FP 298 [nA q] (i64 0)):FP 295 [nA p,nA q] (i64 0):=by
 refine am func295 ?_;refine gc hp ?_;refine gf ?_;refine gc hq ?_;refine ah ?_
 first |rfl |(simp;done)
theorem adr(d:Nat)(hd:aob d 1000=true)(p:List Rat)(hq:∀c∈p,Qs c)(hl:p.length<=1000) :
  Con prog 293 [nA p] [] (.ms d 3 0 (ptr p).length) [(d,some (.row 3 (p.map qA)))]:=by
 refine gF func293 (fun k z h=>by cases h) ?_;refine gl ?_;refine gW (Wk.virt 900 3 rfl) ?_;refine aP [6,7] [] (fun(j:Nat)=>[pP 3 (.ms 900 3 0 j),pP 8 (i64 j)]) (fun j=>[pP 900 (.row 3 ((p.take j).map qA))]) (fun j=>j<=p.length) (fun j=>p.length-j) 0 (ase _) ?_ (h1:=(.cons rfl (Sub.nM _ _ _) (.k .nil)));rintro j hj K1 J1;refine gC (fun y=>?_) (fun y=>?_)
 ·have fa:=aT y;obtain⟨q,lE⟩:=aJ fa;have jI:=GJ (rt q) (rt 0) (hq q (ar1 lE)).ok Qs.zero.ok;rw[Dq,bE]at jI;refine gi (aw lE) ?_;refine gc (Con.sA (.cons (.refl _) (.cons l6 .nil)) jI) ?_;refine gs (eQ (.tmp rfl) rfl (by rw[ar3,aso];omega) (.tmp rfl) T41 rfl T44 rfl rfl (by simp only[asi,asu];omega) rfl rfl) ?_ (6,0);refine gW (Wk.of (sl:=[pP 6 (nA p),pP 7 (i64 p.length),pP 8 (i64 j),pP 3 (.ms 17 3 0 (j+1))]) (hp:=[pP 17 (.row 3 ((p.take (j+1)).map qA))]) a6 (.cons rfl (.of (by rw[fO lE,asz];rfl)) .nil)) ?_ (6,0);refine gW (Wk.rk (k:=17) (d:=900) rfl rfl) ?_;refine ga aL ?_;exact aM J1 (j+1) fa
 have fa:=bc hj y;subst fa;refine gW (Wk.of (sl:=[pP 3 (.ms 900 3 0 p.length)]) (hp:=[pP 900 (.row 3 (p.map qA))]) a6 (.cons rfl (.of (by rw[asK])) .nil)) ?_;refine aP [] [900] (fun(n:Nat)=>[pP 3 (.ms 900 3 0 n)]) (fun _=>[]) (fun n=>n<=p.length/\ptr (p.take n)=ptr p) (fun n=>n) p.length ⟨ar8 _,by rw[asK]⟩ ?_;rintro n ⟨hn,hv⟩ K2 J2;refine kG (fun h=>(gG (ee (b:=0) h) (by unfold aF;omega))) ?_;refine gs (fM rfl rfl rfl (fun h=>bI (n:=n-1) (.opt rfl (o1 h)) (.opt rfl (o1 h)) T41 rfl T44 rfl oz (by have:=ee (b:=0) h;omega) rfl)) ?_;refine gs (fM rfl rfl rfl (fun h=>dt (.opt rfl (o1 h)) rfl (aw (iU (l:=p) (i:=n-1) (by have:=ee (b:=0) h;omega))) T44 rfl rfl rfl)) ?_;refine bV (fun h=>(IJ (hq _ (ar1 (iU (l:=p) (i:=n-1) (by have:=ee (b:=0) h;omega)))))) ?_;refine gC (fun t31=>?_) (fun t31=>?_)
 ·obtain ⟨h1, h2⟩:=HB t31;have h3:p[n - 1]? = some 0:=by rw [iU (l:=p) (i:=n - 1) oz,h2]
  refine ga (gG oz (by unfold aF;omega)) ?_;refine gs (ua (.tmp rfl) (.none _) (.some _ (.tmp rfl) oz) T41 rfl T44 rfl oz oz rfl) ?_;exact aM J2 (n-1) ⟨by omega,HG (by rw[show n-1+1=n by omega];exact hv) h3⟩ (hw:=Wk.of (.cons rfl (.of (by congr 1)) .nil) (.k .nil))
 have jY:n=(ptr p).length:=by
  rcases aov n with h |h
  ·subst h;rw[List.take_zero]at hv;rw[<- hv];rfl
  ·exact Mq hv ⟨_,iU (l:=p) (i:=n-1) oz,Pk t31 h⟩ hn h
 subst jY;refine gR ?_;exact aD.own1 rfl hd rfl
theorem F8(p:List Rat)(hq:∀c∈p,Qs c)(hl:p.length<=1000):FP 293 [nA p] (nA (ptr p)):=by
 have h:=Con.freeze (by rw[ar3,aoj];exact ka p) (adr 0 rfl p hq hl)
 rwa [as8,<- map_take,<- tE]at h
theorem vE{e f k:Nat}{p q:List Rat}{c:Rat}(hp:Pb e p)(hq:Pb f q)(hc:Qb k c)(s:Nat)(h:e+k+f+5<=1000000000000)(lp:p.length<=60)(lq:q.length+s<=60):FP 297 [nA p,nA q,qA c,i64 s] (nA (mK p q c s)):=by
 obtain⟨n,hn⟩:∃n,n=max p.length (q.length+s):=⟨_,rfl⟩
 have oy:Qs c:=hc.qs oz;refine am func297 ?_;refine gl ?_;refine gl ?_;refine ga (gy (by unfold aF;omega) (by unfold aF;omega)) ?_;refine gs (tG (.tmp rfl) (.tmp rfl) rfl) ?_;refine gs (it (.tmp rfl) T40 rfl T44 rfl rfl oz (by dsimp only;omega) rfl) ?_ (2,0);refine gW (Wk.of (sl:=[pP 0 (nA p),pP 1 (nA q),pP 3 (i64 s),pP 6 (.ptr 6 0),pP 9 (.ms 19 3 0 n)]) (hp:=[pP 6 (.box (qA c).cells),pP 19 (.row 3 ((apf n (0:Rat)).map qA))]) (.k (.k (.k (.k (.cons rfl (.of (by rw[hn];congr 1;omega)) .nil))))) (.k (.cons rfl (Df (by rw[hn];congr 1;omega)) .nil))) ?_ (2,3);refine gs ((alb (k:=19) (len:=n) (es:=(apf n (0:Rat)).map qA) (xs:=p.map qA) (.tmp rfl) rfl (by rw[ar3,asr]) (.tmp rfl) T40 rfl T44 rfl rfl (by rw[ar3];omega) rfl)) ?_ (3,0);refine gW (Wk.of (sl:=[pP 0 (nA p),pP 1 (nA q),pP 3 (i64 s),pP 6 (.ptr 6 0),pP 9 (.ms 19 3 0 n)]) (hp:=[pP 6 (.box (qA c).cells),pP 19 (.row 3 ((p++apf (n-p.length) (0:Rat)).map qA))]) a6 (.k (.cons rfl (.of (by rw[asz,ar3,<- aph,List.drop_replicate])) .nil))) ?_ (3,0);refine gW (Wk.rk (k:=19) (d:=900) rfl rfl) ?_;refine gl ?_;refine fT [0,1,3,6,23,24] [6] (fun(i:Nat)(M:List Rat)=>[pP 9 (.ms 900 3 0 n),pP 25 (i64 i)]) (fun _ M=>[pP 900 (.row 3 (M.map qA))]) (fun i M=>i<=q.length/\M.length=n/\(∀t,aq M t=aq p t+c*t^s*aq (q.take i) t)/\(∀j,Qb (e+k+f+4) (M.getD j 0))/\∀j,i+s<=j->M.getD j 0=p.getD j 0) (fun i _=>q.length-i) 0 (p++apf (n-p.length) 0) ⟨ase _,by rw[asx,asr];omega,fun t=>by rw[NA];show _=_+c*t^s*0;grind,fun j=>by rw[NJ];exact(zM hp j).mono oz,fun j _=>NJ p _ j⟩ ?_
 rintro i M ⟨hi,hM,dC,hb,heq⟩ K1 J1;refine gC (fun z=>?_) (fun z=>?_) (st2:=(8,0))
 ·have af:=aT z;obtain ⟨x,hx⟩:=aJ af;have ox:=hq x (ar1 hx);have lF:i + s < M.length:=by omega
  have dB:=iU lF;have Ay:=heq (i+s) (ar8 _);have Az:=hc.mul ox
  have bP:Qb (e+k+f+4) (M.getD (i+s) 0+c*x):=by
   rw[Ay];exact((zM hp _).add Az).mono oz
  refine gi (aw hx) ?_;refine ga (gy (by unfold aF;omega) (by unfold aF;omega)) ?_;refine ga (gy (by unfold aF;omega) (by unfold aF;omega)) ?_;refine gs (bI (n:=i+s) (.tmp rfl) (.tmp rfl) T40 rfl T44 rfl oz oz rfl) ?_;refine gs (dt (.tmp rfl) rfl (aw dB) T44 rfl rfl rfl) ?_;refine gc (rq oy (ox.qs oz)) ?_;refine gc (PU (by rw[Ay];exact Gb hp oz _) (Az.qs oz)) ?_;refine gs (bI (n:=i+s) (.tmp rfl) (.tmp rfl) T40 rfl T44 rfl oz oz rfl) ?_;refine gs (dS (.tmp rfl) rfl (aw dB) rfl (.tmp rfl) rfl rfl T44 rfl rfl) ?_;refine gD ?_ (7,0);refine gW (Wk.of (sl:=[pP 0 (nA p),pP 1 (nA q),pP 3 (i64 s),pP 6 (.ptr 6 0),pP 9 (.ms 900 3 0 n),pP 23 (nA q),pP 24 (i64 q.length),pP 25 (i64 i)]) (hp:=[pP 6 (.box (qA c).cells),pP 900 (.row 3 ((M.set (i+s) (M.getD (i+s) 0+c*x)).map qA))]) a6 (.k (.cons rfl (.of (by rw[as7])) .nil))) ?_;refine ga aL ?_;exact f7 J1 (i+1) (M.set (i+s) (M.getD (i+s) 0+c*x)) ⟨af,by rw[as9];exact hM,fun t=>by rw[zI _ _ _ _ lF,dC,wA t hx,BM];grind,fun j=>by rw[pI _ _ _ _ lF];split;exact bP;exact hb j,fun j hj=>by rw[pI _ _ _ _ lF,atd oz];exact heq j oz⟩
 have af:=bc hi z;subst af;have hr:ptr M=mK p q c s:=pH (eH _) (eH _) (fun t=>by rw[jm,dC,asK,DJ]);refine gW ((Wk.freeze (k:=900) rfl).trans<|Wk.of (sl:=[pP 9 (nA M)]) (hp:=[]) (.cons rfl (.of (by rw[cq (by rw[ar3];exact hM.symm)];rfl)) .nil) .nil) ?_;refine gc (F8 M (fun x hx=>((Bf hb) x hx).qs oz) oz) ?_;refine ah ?_;rw[hr]
theorem Yz{e f:Nat}{p q:List Rat}(hp:Pb e p)(hq:Pb f q)(lp:p.length<=30)(lq:q.length<=30)(h:31*(e+f+4)+f<=900000000000):FP 300 [nA p,nA q] (nA (gz p q)):=by
 refine am func300 ?_;refine gl ?_;refine fT [1,8,9] [] (fun(i:Nat)(R:List Rat)=>[pP 5 (nA R),pP 10 (i64 i)]) (fun _ _=>[]) (fun i R=>i<=p.length/\dV R/\R.length<=i+q.length/\(∀t,aq R t=aq (p.take i) t*aq q t)/\Pb (i*(e+f+4)+1) R) (fun i _=>p.length-i) 0 ([]) ⟨ase _,rfl,ase _,fun t=>by show(0:Rat)=0*aq q t;grind,fun c hc=>by cases hc⟩ ?_ (h1:=(.cons rfl (Sub.nil _ _ _) (.k .nil)));rintro i R ⟨hi,hR,hl,dC,hb⟩ K1 J1;refine gC (fun z=>?_) (fun z=>?_)
 ·have af:=aT z;obtain⟨x,hx⟩:=aJ af;have ox:=hp x (ar1 hx);have ank:i*(e+f+4)<=30*(e+f+4):=asl _ oz
  have hlS:(mK R q x i).length<=i+1+q.length:=by
   refine asv (GM _ _ _) ?_;unfold lO;rw[asx,asr];omega
  have hbS:Pb ((i+1)*(e+f+4)+1) (mK R q x i):=by
   have hs:Pb (f+1) (lO i q):=fun c hc=>by
    unfold lO at hc;rcases ar9.1 hc with h9 |h9
    ·rw[apz h9];exact Qb.zero.mono oz
    ·exact(hq c h9).mono oz
   exact(hb.add ox hs).mono (by rw[an5];omega)
  refine gi (aw hx) ?_;refine gc (vE hb hq ox i oz oz oz) ?_;refine ga aL ?_;exact f7 J1 (i+1) (mK R q x i) ⟨af,eH _,hlS,fun t=>by rw[DJ,dC,wA t hx];grind,hbS⟩
 have af:=bc hi z;subst af;have hr:R=gz p q:=pH hR (eH _) (fun t=>by rw[dC,asK,kM]);refine ah ?_;rw[hr]
theorem abp(p:List Rat)(h:p.length<=65):FP 299 [nA p] (.tup [nA p,i64 0]):=by
 refine am func299 ?_;refine gl ?_;refine gC (fun z=>?_) (fun z=>?_) (st1:=(2,0));exact atk (ee (b:=65) z) oz;refine bu ?_
 first |rfl |(simp;done)
theorem yw{e f:Nat}{p q:List Rat}(hp:Po e p)(hq:Po f q)(h:e+f+6<=1000000000000):FP 195 [nA p,nA q] (.tup [nA (padd p q 1),i64 0]):=by
 have l1:=hp.len;have l2:=hq.len;have h1:Qb 1 (((1:Int):Rat)):=Qb.one;have mX:=vE hp.b hq.b h1 0 oz oz oz;refine am func195 ?_;refine gc (Dg (qg hp oz) (qg hq oz)) ?_;refine gf ?_;refine gc (ww 1 oz) ?_;refine gc mX ?_;refine bu ?_
 first |rfl |(simp;done)
theorem sS{e f:Nat}{p q:List Rat}(hp:Po e p)(hq:Po f q)(h:e+f+6<=1000000000000):FP 198 [nA p,nA q] (.tup [nA (padd p q (-1)),i64 0]):=by
 have l1:=hp.len;have l2:=hq.len;have h1:Qb 1 (((-1:Int):Rat)):=⟨by decide,by decide⟩
 have mX:=vE hp.b hq.b h1 0 oz oz oz;refine am func198 ?_;refine gc (Dg (qg hp oz) (qg hq oz)) ?_;refine gf ?_;refine gc (ww (-1) oz) ?_;refine gc mX ?_;refine bu ?_
 first |rfl |(simp;done)
theorem rO{e f:Nat}{p q:List Rat}(hp:Po e p)(hq:Po f q)(h:31*(e+f+4)+f<=900000000000):FP 199 [nA p,nA q] (.tup [nA (gz p q),i64 0]):=by
 have l1:=hp.len;have l2:=hq.len;have l3:=Ro p q;refine am func199 ?_;refine gc (Dg (qg hp oz) (qg hq oz)) ?_;refine gf ?_;refine gc (Yz hp.b hq.b l1 l2 h) ?_;refine gc (abp _ oz) ?_;refine bu ?_
 first |rfl |(simp;done)
theorem lY{e k:Nat}{p:List Rat}{c:Rat}(hp:Po e p)(hc:Qb k c)(h:k+e+8<=1000000000000):FP 196 [nA p,qA c] (.tup [nA (padd [] p c),i64 0]):=by
 have l1:=hp.len;have mX:FP 297 [nS,nA p,qA c,i64 0] (nA (padd [] p c)):=Con.sA (.cons (Sub.nil 3 none 0) (.cons (.refl _) (.cons (.refl _) (.cons (.refl _) .nil)))) (vE (p:=[]) (e:=1) (fun x hx=>by cases hx) hp.b hc 0 oz (by simp) oz);refine am func196 ?_;refine gc (qg hp oz) ?_;refine gf ?_;refine gc mX ?_;refine bu ?_
 first |rfl |(simp;done)
theorem al7{e:Nat}{p:List Rat}(hp:Pb e p)(lp:p.length<=12)(h:1048576*(e+4)<=900000000000):FP 296 [nA p,nA pW] (.tup [nA (dvQ p),nA (gX p)]):=by
 have Ki:Qs (1:Rat):=Qb.one.qs oz;have UO:Pb 1 pW:=fun c hc=>by simp only[pW,asj,asf,or_false]at hc;rcases hc with rfl |rfl |rfl;exact Qb.one;exact Qb.zero;exact Qb.one
 refine am func296 ?_;refine gc (F8 p (fun c hc=>(hp c hc).qs oz) oz) ?_;refine fT [1] [] (fun(Q R:List Rat)=>[pP 6 (nA Q),pP 7 (nA R)]) (fun _ _=>[]) (fun Q R=>dV Q/\dV R/\R.length<=p.length/\Q.length<=12/\(∀t,aq p t=aq Q t*(1+t*t)+aq R t)/\Pb (4^(p.length-R.length)*(e+4)) R/\Pb (4^(p.length-R.length)*(e+4)) Q) (fun _ R=>R.length) ([]) (ptr p) ⟨rfl,eH _,ka p,by simp,fun t=>by rw[jm];show _=(0:Rat)*_+_;grind,hp.tr.mono (by have:=PR (p.length-(ptr p).length) e;omega),fun c hc=>by cases hc⟩ ?_ (h1:=(.cons rfl (Sub.nil _ _ _) (.k .nil)))
 rintro Q R ⟨hQ,hR,hRl,UH,dC,EZ,xn⟩ K1 J1;refine gl ?_;refine gl ?_;refine gC (fun z=>?_) (fun z=>?_)
 ·have uC : 3 <= R.length := by have h9 := atg (p := (R.length : Int) >= 3) z; omega
  obtain⟨c,hc⟩:∃c,c=R.getD (R.length-1) 0:=⟨_,rfl⟩
  have UP:R[R.length-1]?=some c:=by rw[hc];exact iU oz
  obtain⟨B,hB⟩:∃B,B=4^(p.length-R.length)*(e+4):=⟨_,rfl⟩
  have hB9:B<=4^9*(e+4):=by rw[hB];exact asl _ (aok oz oz)
  have hp9:(4:Nat)^9=262144:=by decide
  rw[<- hB]at EZ xn;have hBe:e+4<=B:=by rw[hB];exact PR _ e
  have ma:Qb B c:=EZ c (ar1 UP);have oy:Qs c:=ma.qs oz;have fS:c/1=c:=by grind
  have UQ:=UX oy Ki;rw[fS]at UQ;have jk:=Vx oy;have UR:Qb 1 (((1:Int):Rat)):=Qb.one;have hs9:R.length-3+1<=12:=by omega
  have ano:=vE (q:=[c]) xn (fun x hx=>by rw[aqf.1 hx];exact ma) UR (R.length-3) oz oz (by simp only[asi,asu];omega);have anp:=vE EZ UO ma.neg (R.length-3) oz oz (by show 3+_<=60;omega)
  have hRn:(mK R pW (-c) (R.length-3)).length<R.length:=by
   unfold mK padd;refine LS (by rw[qf];unfold lO;rw[asx,asr];show max _ (_+3)=_;omega) oz ?_;rw[HP,<- hc];unfold lO;rw[ar2,asm (by rw[asr];omega),asr,show R.length-1-(R.length-3)=2 by omega];show c+-c*1=0;grind
  have Jz:4*B<=4^(p.length-(mK R pW (-c) (R.length-3)).length)*(e+4):=by
   rw[hB,<- an8,<- Nat.pow_succ'];exact asl _ (aok oz oz)
  have hsW:Pb 1 (lO (R.length-3) pW):=fun x hx=>by
   unfold lO at hx;rcases ar9.1 hx with h9 |h9
   ·rw[apz h9];exact Qb.zero
   ·exact UO x h9
  have hsC:Pb B (lO (R.length-3) [c]):=fun x hx=>by
   unfold lO at hx;rcases ar9.1 hx with h9 |h9
   ·rw[apz h9];exact Qb.zero.mono oz
   ·rw[aqf.1 h9];exact ma
  refine gl ?_;refine ga (gG oz (by unfold aF;omega)) ?_;refine gi (aw UP) ?_;refine gl ?_;refine ga (show _=(2:Int)from rfl) ?_;refine gi (rfl) ?_;refine gc UQ ?_;refine gD ?_;refine gl ?_;refine gl ?_;refine ga (show _=((R.length-3:Nat):Int)from NE (by show 3<=R.length;omega) (by unfold aF;omega)) ?_;refine gc (ww 1 oz) ?_;refine gc ano ?_;refine gD ?_;refine gc jk ?_;refine gc anp ?_;exact f7 J1 (mK Q [c] 1 (R.length-3)) (mK R pW (-c) (R.length-3)) ⟨eH _,eH _,by omega,by refine asv (GM _ _ _) ?_;unfold lO;rw[asx,asr];simp only[asi,asu];omega,fun t=>by rw[DJ,DJ,q5,dC t];show _=(_+1*t^(R.length-3)*(c+t*0))*_+_;grind,(EZ.add ma.neg hsW).mono oz,(xn.add UR hsC).mono oz⟩
 have uC:R.length<=2:=by have h9:=ath (p:=(R.length:Int)>=3) z;omega
 obtain⟨r1,r2⟩:=HJ (p:=p) hQ hR uC dC;refine bu ?_;rw[r1,r2]
theorem ahr{e:Nat}{p:List Rat}(hp:Po e p)(lp:p.length<=12)(h:1048576*(e+4)<=900000000000):FP 194 [nA p,nA pW] (.tup [nA (dvQ p),nA (gX p),i64 0]):=by
 have hW:Po 1 pW:=⟨rfl,by decide,fun c hc=>by simp only[pW,asj,asf,or_false]at hc;rcases hc with rfl |rfl |rfl;exact Qb.one;exact Qb.zero;exact Qb.one⟩
 refine am func194 ?_;refine gc (Dg (qg hp oz) (qg hW oz)) ?_;refine gf ?_;refine gl ?_;refine gf ?_;refine gc (al7 hp.b lp h) ?_;refine oc ?_
 first |rfl |(simp;done)
def mC(xs:List Int):List Rat:=xs.map fun z:Int=>(z:Rat)
def re:List Rat:=[1,0,-1]
def rW:List Rat:=[0,2]
theorem BL:Plm 3 2 re:=⟨rfl,by decide,fun c hc=>by simp only[re,asj,asf,or_false]at hc;rcases hc with rfl |rfl |rfl;exact Qb.one.mono oz;exact Qb.zero.mono oz;exact⟨by decide,by decide⟩⟩
theorem CH:Plm 2 2 rW:=⟨rfl,by decide,fun c hc=>by simp only[rW,asj,asf,or_false]at hc;rcases hc with rfl |rfl;exact Qb.zero.mono oz;exact⟨by decide,by decide⟩⟩
theorem Nj(t:Rat):aq re t=1-t*t:=by show(1:Rat)+t*(0+t*(-1+t*0))=_;grind
theorem L2(t:Rat):aq rW t=2*t:=by show(0:Rat)+t*(2+t*0)=_;grind
theorem Hc(xs:List Int)(hx:∀z∈xs,z.natAbs<1000)(hl:xs.length<=100):FP 192 [.lst 1 (xs.map i64)] (nA (ptr (mC xs))):=by
 have hq:∀c∈mC xs,Qs c:=fun c hc=>by
  unfold mC at hc;obtain⟨z,hz,rfl⟩:=aqd.1 hc;have:=hx z hz;exact zw oz
 refine am func192 ?_;refine gl ?_;refine gW (Wk.virt 900 3 rfl) ?_;refine aP [6,7] [] (fun(i:Nat)=>[pP 3 (.ms 900 3 0 i),pP 8 (i64 i)]) (fun i=>[pP 900 (.row 3 (((mC xs).take i).map qA))]) (fun i=>i<=xs.length) (fun i=>xs.length-i) 0 (ase _) ?_ (h1:=(.cons rfl (Sub.nM _ _ _) (.k .nil)));rintro i hi K1 J1;refine gC (fun y=>?_) (fun y=>?_) (st2:=(7,0))
 ·have af:=aT y;obtain ⟨z,hz⟩:=aJ af;have uI:=hx z (ar1 hz);have hzq:(mC xs)[i]? = some (z:Rat):=by unfold mC; rw [asa,hz]; rfl
  refine gi (aw hz) ?_;refine gc (ww z oz) ?_;refine gs (eQ (.tmp rfl) rfl (by rw[ar3,aso];unfold mC;rw[ar3];omega) (.tmp rfl) T40 rfl T44 rfl rfl (by simp only[asi,asu];omega) rfl rfl) ?_ (6,0);refine gW (Wk.of (sl:=[pP 6 (.lst 1 (xs.map i64)),pP 7 (i64 xs.length),pP 8 (i64 i),pP 3 (.ms 16 3 0 (i+1))]) (hp:=[pP 16 (.row 3 (((mC xs).take (i+1)).map qA))]) a6 (.cons rfl (.of (by rw[fO hzq,asz];rfl)) .nil)) ?_ (6,0);refine gW (Wk.rk (k:=16) (d:=900) rfl rfl) ?_;refine ga aL ?_;exact aM J1 (i+1) af
 have af:=bc hi y;subst af;have iM:(mC xs).length=xs.length:=by unfold mC;rw[ar3]
 refine gW ((Wk.freeze (k:=900) rfl).trans<|Wk.of (sl:=[pP 3 (nA (mC xs))]) (hp:=[]) (.cons rfl (.of (by rw[cq (by rw[ar3,aso];omega),<- iM,asK];rfl)) .nil) .nil) ?_;refine gc (F8 (mC xs) hq oz) ?_;refine ah ?_
 first |rfl |(simp;done)
theorem oE:FP 95 [] (nA pW):=by
 have h:FP 192 [.lst 1 [i64 1,i64 0,i64 1]] (nA pW):=Hc [1,0,1] (by decide) (by decide);refine am func95 ?_;refine gc h ?_;refine ah ?_
 first |rfl |(simp;done)
theorem xH{p q r:List Rat}(h:FP 195 [nA p,nA q] (.tup [nA r,i64 0])):FP 93 [nA p,nA q] (nA r):=by
 refine am func93 ?_;refine gc h ?_;refine ah ?_
 first |rfl |(simp;done)
theorem tD{p q r:List Rat}(h:FP 198 [nA p,nA q] (.tup [nA r,i64 0])):FP 97 [nA p,nA q] (nA r):=by
 refine am func97 ?_;refine gc h ?_;refine ah ?_
 first |rfl |(simp;done)
theorem q8{p q r:List Rat}(h:FP 199 [nA p,nA q] (.tup [nA r,i64 0])):FP 98 [nA p,nA q] (nA r):=by
 refine am func98 ?_;refine gc h ?_;refine ah ?_
 first |rfl |(simp;done)
theorem l7{p r:List Rat}{c:Rat}(h:FP 196 [nA p,qA c] (.tup [nA r,i64 0])):FP 94 [nA p,qA c] (nA r):=by
 refine am func94 ?_;refine gc h ?_;refine ah ?_
 first |rfl |(simp;done)
theorem H0{e:Nat}{p:List Rat}(hp:Po e p)(lp:p.length<=12)(he:e<=800000):FP 91 [nA p] (nA (dvQ p)):=by
 refine am func91 ?_;refine gc oE ?_;refine gc (ahr hp lp oz) ?_;refine ah ?_
 first |rfl |(simp;done)
theorem AT{f h:Nat}{a b:List Rat×List Rat}(ha:Vn f a)(hb:Vn h b)(hf:f<=10000000)(hh:h<=10000000):FP 90 [jq a,jq b] (jq (jp a b)):=by
 refine am func90 ?_;refine gc (tD (sS (ha.x.po oz) (hb.x.po oz) oz)) ?_;refine gc (tD (sS (ha.y.po oz) (hb.y.po oz) oz)) ?_;refine gD ?_;refine ah ?_
 first |rfl |(simp;done)
theorem MD{f h:Nat}{a b:List Rat×List Rat}(ha:Vn f a)(hb:Vn h b)(hf:f<=1000000)(hh:h<=1000000):FP 92 [jq a,jq b] (nA (nK a b)):=by
 have m1:=ha.x.mul hb.x;have m2:=ha.y.mul hb.y;refine am func92 ?_;refine gc (q8 (rO (ha.x.po oz) (hb.x.po oz) oz)) ?_;refine gc (q8 (rO (ha.y.po oz) (hb.y.po oz) oz)) ?_;refine gc (xH (yw (m1.po oz) (m2.po oz) oz)) ?_;refine gD ?_;refine ah ?_
 first |rfl |(simp;done)
theorem Z2{f h:Nat}{a b:List Rat×List Rat}(ha:Vn f a)(hb:Vn h b)(hf:f<=1000000)(hh:h<=1000000):FP 101 [jq a,jq b] (nA (pM a b)):=by
 have m1:=ha.x.mul hb.y;have m2:=ha.y.mul hb.x;refine am func101 ?_;refine gc (q8 (rO (ha.x.po oz) (hb.y.po oz) oz)) ?_;refine gc (q8 (rO (ha.y.po oz) (hb.x.po oz) oz)) ?_;refine gc (tD (sS (m1.po oz) (m2.po oz) oz)) ?_;refine gD ?_;refine ah ?_
 first |rfl |(simp;done)
theorem CV(j:Jt)(b:Int):FP 87 [j.av,i64 b] (.tup [i64 (dc j b),i64 (br j b),i64 (aR j b)]):=by
 refine am func87 ?_;refine gC (fun z=>?_) (fun z=>?_)
 ·have h1:j.a=b:=dJ z;refine gD ?_;refine oc ?_;unfold dc br aR;rw[ate h1,ate h1,ate h1]
 have h1:j.a≠b:=du z;refine gD ?_;refine oc ?_;unfold dc br aR;rw[atd h1,atd h1,atd h1]
theorem rK(l:Li)(hl:l.ok)(ae:ax l=0){body pt:Int}(h1:aZ body l.bo.length=true)(h2:aZ pt (bT l body).length=true) :
  FP 102 [l.av,i64 body,i64 pt] (.tup [qA (az l body pt).1,qA (az l body pt).2]):=by
 obtain⟨n,k,bd,m,mp⟩:=tN hl ae h1 h2;have e1:qA (az l body pt).1=m.x.av:=by rw[mp.ex];rfl
 have e2:qA (az l body pt).2=m.y.av:=by rw[mp.ey];rfl
 rw[e1,e2];have hn:=mp.hn;have hk:=mp.hk;have eY:=hl.lb;subst hn;subst hk;refine am func102 ?_;refine gi (aw mp.gbd) ?_;refine gi (aw mp.gm) ?_;refine gD ?_;refine bu ?_
 first |rfl |(simp;done)
theorem Nx(t:Rat):aq [] t=0:=rfl
theorem acq{f:Rat}{d:Rat×Rat}:padd (padd [] pW f) (padd (padd [] re d.1) (padd [] rW d.2) (-1)) 1=padd (padd [] pW f) (ptr (qX d)) 1 :=
 pH (eH _) (eH _) (fun t=>by
  simp only[eC,GU,Nj,L2,q5,Nx];grind)
theorem aje{f:Rat}{d:Rat×Rat}:padd (padd [] pW f) (padd (padd [] rW d.1) (padd [] re d.2) 1) 1=padd (padd [] pW f) (ptr (rY d)) 1 :=
 pH (eH _) (eH _) (fun t=>by
  simp only[eC,Iy,Nj,L2,q5,Nx];grind)
theorem ai9{p q:Rat×Rat}(hp:Sm 1000 p)(hq:Sm 1000 q):Qs ((a7 p q).1)/\Qs ((a7 p q).2)/\Qs ((a7 p q).1*(a7 p q).1)/\Qs ((a7 p q).2*(a7 p q).2):=by
 have h:=hp.sub hq;exact⟨h.x.qs oz,h.y.qs oz,(h.x.mul h.x).qs oz,(h.y.mul h.y).qs oz⟩
theorem zF(l:Li)(hl:l.ok)(ae:ax l=0){body p q:Int}(h1:aZ body l.bo.length=true)(h2:aZ p (bT l body).length=true)(h3:aZ q (bT l body).length=true) :
  FP 89 [l.av,i64 body,i64 p,i64 q] (qA (dl (a7 (az l body p) (az l body q)))):=by
 have s1:=bJ hl ae h1 h2;have s2:=bJ hl ae h1 h3;obtain⟨k1,k2,k3,k4⟩:=ai9 s1 s2;refine am func89 ?_;refine gc (rK l hl ae h1 h2) ?_;refine gc (rK l hl ae h1 h3) ?_;refine gc (pg (s1.x.qs oz) (s2.x.qs oz)) ?_;refine gc (pg (s1.y.qs oz) (s2.y.qs oz)) ?_;refine gD ?_;refine gc (rq k1 k1) ?_;refine gc (rq k2 k2) ?_;refine gc (PU k3 k4) ?_;refine gD ?_;refine ah ?_
 first |rfl |(simp;done)
theorem xU{x:Rat}(hx:Qs x):FP 100 [qA x] (bl (decide (x=0))):=by
 refine am func100 ?_;refine gc (IJ hx) ?_;refine ah ?_;rw[IQ];rfl
theorem zO(l:Li)(hl:l.ok)(ae:ax l=0){G:List Gr}{j:Jt}{dv b pt:Int}(hp:Pj l G j dv)(hF:Fd l dv b pt) :
  FP 88 [l.av,j.av,i64 b,i64 pt] (jq (cI l j b pt)):=by
 obtain⟨d1,d2,d3,d4⟩:=hp.in ae;have s5:=bJ hl ae hF.hb hF.hp;have hW:=rx;refine am func88 ?_;refine gc (rK l hl ae hF.hb hF.hp) ?_;refine gC (fun z=>?_) (fun z=>?_)
 ·have hb:b = 0:=dJ z;have e9:cI l j b pt = lN (az l b pt):=by unfold cI; rw [ate hb,hb]
  rw[e9];refine gc oE ?_;refine gc (l7 (lY (hW.po oz) s5.x oz)) ?_;refine gc oE ?_;refine gc (l7 (lY (hW.po oz) s5.y oz)) ?_;refine gD ?_;refine ah ?_
  first |rfl |(simp;done)
 have hb:b≠0:=du z;obtain rfl:b=dv:=by rcases hF.hd with h9 |h9;exact atk h9 hb;exact h9
 obtain⟨s6,s7⟩:=hp.sm hl ae;rw[<- qe]at s6;have s8:=s5.sub s6;obtain⟨d,hd⟩:∃d,d=a7 (az l b pt) (az l b (dc j b)):=⟨_,rfl⟩
 have ev:cI l j b pt=(padd (padd [] pW (az l 0 (aR j b)).1) (padd (padd [] re d.1) (padd [] rW d.2) (-1)) 1,padd (padd [] pW (az l 0 (aR j b)).2) (padd (padd [] rW d.1) (padd [] re d.2) 1) 1):=by
  rw[acq,aje,hd];unfold cI;rw[atd hb];rfl
 rw[ev];have ho:=hp.o;rw[<- hd]at s8;have h1:Qb 1 (((1:Int):Rat)):=Qb.one;have h2:Qb 1 (((-1:Int):Rat)):=⟨by decide,by decide⟩
 have f1:=(f9 3).add hW s7.x;have f2:=(f9 3).add hW s7.y;have c1:=(f9 3).add BL s8.x;have c2:=(f9 3).add BL s8.y;have n1:=(f9 2).add CH s8.y;have n2:=(f9 2).add CH s8.x;have a1:=c1.add n1 h2;have a2:=n2.add c2 h1;have hC:FP 192 [.lst 1 [i64 1,i64 0,i64 (-1)]] (nA re):=Hc [1,0,-1] (by decide) (by decide);have hS:FP 192 [.lst 1 [i64 0,i64 2]] (nA rW):=Hc [0,2] (by decide) (by decide);have hx:=pg (s5.x.qs oz) (s6.x.qs oz);have hy:=pg (s5.y.qs oz) (s6.y.qs oz);have ex:(az l b pt).1-(az l b (dc j b)).1=d.1:=by rw[hd];rfl
 have ey:(az l b pt).2-(az l b (dc j b)).2=d.2:=by rw[hd];rfl
 rw[ex]at hx;rw[ey]at hy;have hpf:FP 102 [l.av,i64 (br j b),i64 (aR j b)] (.tup [qA (az l 0 (aR j b)).1,qA (az l 0 (aR j b)).2]):=by rw[ho];exact rK l hl ae d3 d4
 refine gc (CV j b) ?_;refine gc (rK l hl ae d1 d2) ?_;refine gc hpf ?_;refine gc hx ?_;refine gc hy ?_;refine gD ?_;refine gc hC ?_;refine gc hS ?_;refine gc oE ?_;refine gc (l7 (lY (hW.po oz) s7.x oz)) ?_;refine gc (l7 (lY (BL.po oz) s8.x oz)) ?_;refine gc (l7 (lY (CH.po oz) s8.y oz)) ?_;refine gc (tD (sS (c1.po oz) (n1.po oz) oz)) ?_;refine gc (xH (yw (f1.po oz) (a1.po oz) oz)) ?_;refine gc oE ?_;refine gc (l7 (lY (hW.po oz) s7.y oz)) ?_;refine gc (l7 (lY (CH.po oz) s8.x oz)) ?_;refine gc (l7 (lY (BL.po oz) s8.y oz)) ?_;refine gc (xH (yw (n2.po oz) (c2.po oz) oz)) ?_;refine gc (xH (yw (f2.po oz) (a2.po oz) oz)) ?_;refine gD ?_;refine ah ?_
 first |rfl |(simp;done)
def tJ(xs:List Rat):Bool:=xs.all fun y=>!decide (y=0)
theorem E8(p:Rat×Rat):0<=dl p:=by
 have h:∀x:Rat,0<=x*x:=fun x=>by
  rcases Rat.le_total (a:=0) (b:=x)with h |h
  ·exact aqz h h
  ·have := aqz (show 0 <= -x by grind) (show 0 <= -x by grind);grind
 have h1:=h p.1;have h2:=h p.2;unfold dl;grind
theorem NX(p q:Rat×Rat):dl (a7 p q)=dl (a7 q p):=by unfold dl a7;dsimp only;grind
theorem Xr{xs:List Rat}(h:∀y∈xs,0<=y):decide (dP 0 xs=0)=tJ xs:=by
 have e:xs.all (fun x=>decide (0<x))=tJ xs:=by
  unfold tJ;rw[aq8,asd,asd];constructor
  ·intro h1 y hy;have:=atg (h1 y hy);simp only[arf,decide_eq_false_iff_not];grind
  ·intro h1 y hy;have h2:=h1 y hy;simp only[arf,decide_eq_false_iff_not]at h2;have:=h y hy;exact ati (by grind)
 unfold dP;rw[atd (by decide),e];cases tJ xs <;> rfl
theorem U4(l:Li)(x:Gr):∀y∈i7 l x,0<=y:=by
 intro y hy;unfold i7 at hy;split at hy
 ·simp only[asj,asf,or_false]at hy;rcases hy with rfl |rfl <;> exact E8 _
 ·split at hy
  ·simp only[asj,asf,or_false]at hy;rcases hy with rfl |rfl <;> exact E8 _
  ·rw[aqf.1 hy];exact E8 _
theorem aeu{l:Li}{j:Jt}{x:Gr}:cond (tJ (i7 l x)) (aa .gtr ((eT l j x).length:Int) 0) false=decide (iS l j x=0):=by
 rw[<- Xr (U4 l x)];unfold iS
 by_cases h1:dP 0 (i7 l x)=0
 ·rw[ati h1]
  by_cases h2:eT l j x=[]
  ·rw[atd (fun h=>h.2 h2),h2];rfl
  ·rw[ate ⟨h1,h2⟩];have:=aqb.2 h2;exact ati oz
 ·rw[atj h1,atd (fun h=>h1 h.1)];rfl
theorem Pv(a b:Rat):cond (!decide (a=0)) (!decide (b=0)) false=tJ [a,b]:=by
 show _=(!decide (a=0)&&(!decide (b=0)&&true));cases decide (a=0) <;> cases decide (b=0) <;> rfl
theorem af0{l:Li}{x:Gr}(h:DyK l x)(nd:x.kind≠0):∃z1 j1,x.jo[1]?=some z1/\0<=z1/\l.jo[z1.toNat]?=some j1:=by
 cases h with
 |drv t d0 hd hb=>exact atk rfl nd
 |rrr ne t0 t1 h0 h2 kd tie=>exact⟨_,_,rfl,t1.hz,t1.hj⟩
 |pr t0 t1 ha=>exact⟨_,_,rfl,t1.hz,t1.hj⟩
 |rp t0 t1 ha=>exact⟨_,_,rfl,t1.hz,t1.hj⟩
theorem U1{l:Li}{x:Gr}(h:DyK l x)(nd:x.kind≠0)(n1:x.kind≠1)(n2:x.kind≠2):x.kind=3:=by
 cases h with
 |drv t d0 hd hb=>exact atk rfl nd
 |rrr ne t0 t1 h0 h2 kd tie=>exact atk rfl n1
 |pr t0 t1 ha=>exact atk rfl n2
 |rp t0 t1 ha=>rfl
theorem ahm(l:Li)(hl:l.ok)(ae:ax l=0){G:List Gr}{j:Jt}{dv:Int}(hp:Pj l G j dv){x:Gr}(hx:Lg l dv x) :
  FP 35 [l.av,j.av,x.av] (.tup [nA (eT l j x),i64 (iJ x),bl (decide (iS l j x=0))]):=by
 have hd:=hx.dy;obtain⟨i,z0,j0,hi,bb,t0⟩:=DS hx.dy hx.nd;obtain⟨z1,j1,df,an1,xd⟩:=af0 hx.dy hx.nd;have md:=hl.lj;have anm:=t0.hz;have F0:=rC hx ae rfl t0 (ar1 bb);have n0:=F0.n hp hl ae;obtain⟨o1,o2⟩:=mw ae t0.hj (qk t0);have m0:=bJ hl ae o1 o2;have hW:=rx;refine am func35 ?_;refine gi (aw hi) ?_;refine gi (aw bb) ?_;refine gi (eI (n:=z0.toNat) oz t0.hj) ?_;refine gD ?_;refine gc (CV j0 i) ?_;refine gc (zO l hl ae hp F0) ?_;refine gi (aw df) ?_;refine gi (eI (n:=z1.toNat) oz xd) ?_;refine gD ?_ (9,0);refine v7 [] [] [pP 16 (nA (eT l j x)),pP 17 (i64 (iJ x)),pP 18 (bl (tJ (i7 l x)))] [] (True) ?_ ?_ 2
 ·intro K1 J1;refine gC (fun z=>?_) (fun z=>?_)
  ·have hk:x.kind = 1:=dJ z;obtain ⟨k,z1',z2,j1',j2,P⟩:=D0 hx.dy hk hi bb t0.hj;obtain rfl:z1' = z1:=Option.some.inj (P.y1.symm.trans df);obtain rfl:j1' = j1:=Option.some.inj (P.t1.hj.symm.trans xd);have l8:=P.h0;have F1:=rC hx ae rfl P.t1 (ar1 P.y1);have n1:=F1.n hp hl ae;obtain ⟨o3,o4⟩:=mw ae P.t1.hj (qk P.t1);have m1:=bJ hl ae o3 o4;obtain ⟨o5,o6⟩:=mw ae P.h2 (b:=i) (by rcases P.ti with h9 | h9; exact .inl h9.1; exact .inr h9.1);have m2:=bJ hl ae o5 o6
   have o7:aZ (aR j2 i) (bT l k).length=true:=by
    obtain⟨i1,i2,i3,i4,_⟩:=cJ ae P.h2;have aO:=P.ne;unfold aR;rcases P.ti with⟨h8,h9⟩ |⟨h8,h9⟩
    ·rw[ate h8,<- h9];exact i4
    ·rw[atd (fun h=>aO (h.symm.trans h9)),<- h9];exact i3
   have m3:=bJ hl ae o3 o7;have qr:=gH (m2.sub m0);have qs:=gH (m3.sub m1);have nd:=mI n1 n0;have nw:=(nP nd nd).1;have ng:=nw.dvQ;have b1:=(f9 3).add hW (qr.sub qs);have h1:Qb 1 (((1:Int):Rat)):=Qb.one;have nr:=(b1.add ng h1).mono (m:=5) (f:=600000) oz oz;have nm:=(ng.mul hW).mono (m:=7) (f:=3000000) oz oz;have nf:=((f9 7).add nm (ru.mul qr)).mono (m:=7) (f:=3100000) oz oz;have nq:=(nr.mul nr).mono (m:=9) (f:=6100000) oz oz;refine gi (aw P.b1) ?_;refine gc (CV j1' k) ?_;refine gc (zO l hl ae hp F1) ?_;refine gi (aw P.y2) ?_;refine gi (eI (n:=z2.toNat) oz P.h2) ?_;refine gc (CV j2 i) ?_;refine gD ?_;refine gc (zF l hl ae o5 o6 o2) ?_;refine gc (zF l hl ae o3 o7 o4) ?_;refine gD ?_;refine gc (AT n1 n0 oz oz) ?_;refine gc (MD nd nd oz oz) ?_;refine gc (H0 (nw.po oz) (by have:=nw.len;omega) oz) ?_;refine gc oE ?_;refine gc (pg (qr.qs oz) (qs.qs oz)) ?_;refine gc (l7 (lY (hW.po oz) (qr.sub qs) oz)) ?_;refine gc (xH (yw (b1.po oz) (ng.po oz) oz)) ?_;refine gD ?_;refine gc oE ?_;refine gc (q8 (rO (ng.po oz) (hW.po oz) oz)) ?_;refine gc (ww 4 oz) ?_;refine gc (rq (ru.qs oz) (qr.qs oz)) ?_;refine gc (l7 (lY (nm.po oz) (ru.mul qr) oz)) ?_;refine gc (q8 (rO (nr.po oz) (nr.po oz) oz)) ?_;refine gc (tD (sS (nf.po oz) (nq.po oz) oz)) ?_;refine gD ?_;refine gc (xU (qr.qs oz)) ?_;refine bV (fun _=>(xU (qs.qs oz))) ?_;exact k8 J1 trivial (hw:=Wk.of (.cons rfl (.of (by rw[P.eE];rfl)) (.cons rfl (.of (by rw[P.eN];rfl)) (.cons rfl (.of (by rw[P.eX,<- Pv];rfl)) .nil))) .nil)
  have iA:x.kind≠1:=du z;refine gC (fun z=>?_) (fun z=>?_)
  ·have hk:x.kind = 2:=dJ z;obtain ⟨z1',j1',P,ha,eE,eX,eN⟩:=CK hx.dy hk hi bb t0.hj;obtain rfl:z1' = z1:=Option.some.inj (P.y1.symm.trans df);obtain rfl:j1' = j1:=Option.some.inj (P.t1.hj.symm.trans xd);obtain ⟨i1,i2,i3,i4,i5⟩:=cJ ae P.t1.hj;have i5:=i5 (by rw [P.t1.kd]; decide);have pz:=(hx.an z1' (ar1 P.y1) j1' P.t1.hj).2;have F1:Fd l dv j1'.b j1'.on:=⟨i2,i4,pz (by rcases P.t1.tie with h9 | h9; exact h9.2; exact atk (ha ▸ ar1 hi) h9.2)⟩
   have F2:Fd l dv j1'.b j1'.to:=⟨i2,i5,F1.hd⟩
   have n1:=F1.n hp hl ae;have n2:=F2.n hp hl ae;have m1:=bJ hl ae i2 i4;have m2:=bJ hl ae i2 i5;rw[ha]at i1 i3;have m3:=bJ hl ae i1 i3;have E0:=zF l hl ae i2 i4 i5;rw[NX]at E0;have qm:=gH (m2.sub m1);have qr:=gH (m3.sub m0);have na:=mI n2 n1;have nb:=mI n0 n1;have nw:=(nP na nb).2;have ng:=nw.dvQ;have nx:=hW.mul hW;have nf:=(f9 5).add nx (qm.mul qr);have nq:=(ng.mul ng).mono (m:=9) (f:=6100000) oz oz;refine gc (zO l hl ae hp F1) ?_;refine gc (zO l hl ae hp F2) ?_;refine gD ?_;refine gc (zF l hl ae i1 i3 o2) ?_;refine gc E0 ?_;refine gD ?_;refine gc (AT n2 n1 oz oz) ?_;refine gc (AT n0 n1 oz oz) ?_;refine gc (Z2 na nb oz oz) ?_;refine gc (H0 (nw.po oz) (by have:=nw.len;omega) oz) ?_;refine gD ?_;refine gc oE ?_;refine gc oE ?_;refine gc (q8 (rO (hW.po oz) (hW.po oz) oz)) ?_;refine gc (rq (qm.qs oz) (qr.qs oz)) ?_;refine gc (l7 (lY (nx.po oz) (qm.mul qr) oz)) ?_;refine gc (q8 (rO (ng.po oz) (ng.po oz) oz)) ?_;refine gc (tD (sS (nf.po oz) (nq.po oz) oz)) ?_;refine gD ?_;refine gc (xU (qr.qs oz)) ?_;refine bV (fun _=>(xU (qm.qs oz))) ?_;exact k8 J1 trivial (hw:=Wk.of (.cons rfl (.of (by rw[eE];rfl)) (.cons rfl (.of (by rw[eN];rfl)) (.cons rfl (.of (by rw[eX,<- Pv];rfl)) .nil))) .nil)
  have cg:x.kind≠2:=du z;have pw:=U1 hx.dy hx.nd iA cg;refine gC (fun z=>?_) (fun z=>?_) (st2:=(77777,0))
  ·obtain ⟨z1', j1', P, ha, eE, eX, eN⟩:=BA hx.dy hx.nd iA cg hi bb t0.hj;obtain rfl:z1' = z1:=Option.some.inj (P.y1.symm.trans df);obtain rfl:j1' = j1:=Option.some.inj (P.t1.hj.symm.trans xd);obtain ⟨i1,i2,i3,i4,i5⟩:=cJ ae P.t1.hj;have i5:=i5 (by rw [P.t1.kd]; decide);have sN:=(hx.an z1' (ar1 P.y1) j1' P.t1.hj).1;have hb:j1'.b = i:=by rcases P.t1.tie with h9 | h9; exact atk h9.1 ha; exact h9.1
   have F1:Fd l dv j1'.a j1'.point:=⟨i1,i3,sN (by rcases P.t1.tie with h9 |h9;exact atk h9.1 ha;exact h9.2)⟩
   have n1:=F1.n hp hl ae;rw[hb]at i2 i4 i5;have m1:=bJ hl ae i2 i4;have m2:=bJ hl ae i2 i5;have vv:Sm 2001 (j8 l i j1'):=m2.sub m1;have vu:Sm 2001 (zj l i j0 j1'):=m1.sub m0
   have E0:FP 89 [l.av,i64 i,i64 j1'.on,i64 j1'.to] (qA (dl (j8 l i j1'))):=by
    have h9:=zF l hl ae i2 i4 i5;rw[NX]at h9;exact h9
   have qv:=gH vv;have qh:=vv.cross vu;have nd:=mI n1 n0;have nw:=(nP nd nd).1;have ng:=nw.dvQ;have na:=(f9 5).add ng qv;have nb:=(f9 3).add hW (qh.mul qh);refine gc (zO l hl ae hp F1) ?_;refine gc (AT n1 n0 oz oz) ?_;refine gc (MD nd nd oz oz) ?_;refine gc (H0 (nw.po oz) (by have:=nw.len;omega) oz) ?_;refine gc E0 ?_;refine gc (rK l hl ae i2 i4) ?_;refine gc (rK l hl ae i2 i5) ?_;refine gc (rK l hl ae o1 o2) ?_;refine gc (pg (m2.x.qs oz) (m1.x.qs oz)) ?_;refine gc (pg (m2.y.qs oz) (m1.y.qs oz)) ?_;refine gD ?_;refine gc (pg (m1.y.qs oz) (m0.y.qs oz)) ?_;refine gc (rq (vv.x.qs oz) (vu.y.qs oz)) ?_;refine gc (pg (m1.x.qs oz) (m0.x.qs oz)) ?_;refine gc (rq (vv.y.qs oz) (vu.x.qs oz)) ?_;refine gc (pg ((vv.x.mul vu.y).qs oz) ((vv.y.mul vu.x).qs oz)) ?_;refine gD ?_;refine gc (l7 (lY (ng.po oz) qv oz)) ?_;refine gc oE ?_;refine gc (rq (qh.qs oz) (qh.qs oz)) ?_;refine gc (l7 (lY (hW.po oz) (qh.mul qh) oz)) ?_;refine gc (tD (sS (na.po oz) (nb.po oz) oz)) ?_;refine gD ?_;refine gc (xU (qv.qs oz)) ?_;exact k8 J1 trivial (hw:=Wk.of (.cons rfl (.of (by rw[eE];rfl)) (.cons rfl (.of (by rw[eN];rfl)) (.cons rfl (.of (by rw[eX];show bl (!decide (_=0))=bl (!decide (_=0)&&true);rw[Bool.and_true])) .nil))) .nil)
  exact atk pw (du z)
 rintro -;refine cG ?_;refine oc ?_;rw[aeu];rfl
def oH(dv:Int)(b:Int):Bool:=!(decide (0<b)&&!decide (b=dv))
def qW(l:Li)(dv:Int)(k:Nat)(g:Gr):Bool:=!(decide (k=0)&&!decide (g.kind=0))&&(b7 l g).all (oH dv)
def jQ(l:Li)(dv:Int)(G:List Gr)(n:Nat):Bool:=(List.range n).all fun k=>qW l dv k (G.getD k default)
theorem CU(l:Li)(dv:Int)(G:List Gr)(n:Nat):jQ l dv G (n+1)=(jQ l dv G n&&qW l dv n (G.getD n default)):=by
 unfold jQ;rw[aqi,all_append];simp
theorem ac6{l:Li}{dv:Int}{G:List Gr}{n m:Nat}(h:jQ l dv G n=true)(hm:m<=n):jQ l dv G m=true:=by
 unfold jQ at h ⊢;rw[asd]at h ⊢;exact fun k hk=>h k (apt.2 (by have:=apt.1 hk;omega))
theorem F5{l:Li}{dv:Int}{G:List Gr}{n m:Nat}(h:jQ l dv G m=false)(hm:m<=n):jQ l dv G n=false:=by
 cases h1:jQ l dv G n
 ·rfl
 ·rw[ac6 h1 hm]at h;cases h
theorem Ky{dv b:Int}:cond (aa .gtr b 0) (aa .neq b dv) false=!oH dv b:=by
 have e1:aa .gtr b 0=decide (0<b):=rfl;have e3:aa .neq b dv=!decide (b=dv):=by by_cases h9:b=dv <;> simp[aa,h9]
 unfold oH;rw[e1,e3];cases decide (0<b) <;> cases decide (b=dv) <;> rfl
theorem Q5{k:Nat}{z:Int}:cond (aa .eql (k:Int) 0) (aa .neq z 0) false=(decide (k=0)&&!decide (z=0)):=by
 have e2:aa .eql (k:Int) 0=decide (k=0):=by
  show decide ((k:Int)=0)=_;exact decide_eq_decide.2 oz
 have e3:aa .neq z 0=!decide (z=0):=by by_cases h9:z=0 <;> simp[aa,h9]
 rw[e2,e3];cases decide (k=0) <;> rfl
theorem ahz{l:Li}(hs:bS l=0):(f6 (cH l)).length=0/\ay l=cP l:=by
 have h9:(f6 (cH l)).length+(f6 (gq l)).length=0:=by
  unfold bS at hs;split at hs
  ·assumption
  ·cases hs
 exact⟨by omega,by unfold ay;rw[ate hs]⟩
theorem acx{l:Li}(h:ax l=0){i:Nat}{d:Dr}(hd:l.drivers[i]?=some d):d.body≠0:=by
 have h1:=(f8 h).2.2.1;unfold iW at h1;split at h1
 ·cases h1
 ·have h2:=zt h1 i (ap9.1 hd).1;unfold eL at h2;rw[aS hd]at h2;split at h2
  ·cases h2
  ·split at h2
   ·cases h2
   ·split at h2
    ·cases h2
    ·split at h2
     ·cases h2
     ·assumption
theorem XK{l:Li}(ae:ax l=0)(fp:bS l=0)(hd:l.drivers.length=1):0<(ay l).length:=by
 refine Nat.pos_of_ne_zero fun h0=>?_
 obtain⟨h1,h3⟩:=ahz fp;have hf:cP l=[]:=by rw[<- h3];exact apv.1 h0
 have hr:cH l=dA l.bo.length 0:=by unfold cH;rw[hf];rfl
 have hg:=oa (l:=l.drivers) (i:=0) (d:=default) oz;have hb:=fd (uk ae hg);have hnz:=acx ae hg
 have hk:kn (cH l) (l.drivers.getD 0 default).body=true:=by
  unfold kn;cases h9:(cH l).getD (l.drivers.getD 0 default).body.toNat false
  ·exfalso
   have hm:(((l.drivers.getD 0 default).body.toNat:Nat):Int)∈f6 (cH l):=by
    unfold f6;refine aqd.2 ⟨_,apy.2 ⟨apt.2 ?_,by rw[h9];rfl⟩,rfl⟩;rw[hr,kp];omega
   rw[apv.1 h1]at hm;cases hm
  ·rfl
 rw[hr,vI hb.1 oz oz]at hk;exact hnz (atg hk)
theorem abk{l:Li}(ae:ax l=0)(fp:bS l=0)(hd:l.drivers.length=1):jQ l (l.drivers.getD 0 default).body (ay l) (ay l).length=fN l (ay l):=by
 have aO:=XK ae fp hd;have hg:=oa (l:=ay l) (i:=0) (d:=default) aO;obtain⟨g,eg⟩:∃g,g=(ay l).getD 0 default:=⟨_,rfl⟩
 rw[<- eg]at hg;obtain⟨oA,bm⟩:=kF ae (ar1 hg)
 by_cases hk:g.kind=0
 ·obtain⟨b,z,d,j,x,rfl,t,d0,gn,hb⟩:=C3 oA hk;have qM:=(ap9.1 gn).1
  have e0:(l.drivers.getD 0 default).body=b:=by
   rw[show d.toNat=0 by omega]at gn;rw[aS gn,hb]
  have e1:cf l (ay l)=b:=by unfold cf;rw[<- eg];rfl
  rw[e0];unfold fN;rw[ati (show(ay l).length≠0/\((ay l).getD 0 default).kind=0 from⟨by omega,by rw[<- eg]⟩),are];unfold jQ kf;rw[aq8,asd,asd]
  have key:∀k∈List.range (ay l).length,qW l b k ((ay l).getD k default)=tW l (cf l (ay l)) k ((ay l).getD k default):=by
   intro k sM;rw[e1];unfold qW tW
   by_cases k0:k=0
   ·subst k0;rw [<- eg];show (!(true && !decide ((0:Int) = 0)) && _) = _;rw [ati rfl];have ha:b7 l ⟨0,[b],[z],d⟩ = [fQ ⟨0,[b],[z],d⟩ j]:=by show [fQ _ (l.jo.getD z.toNat default)] = _; rw [aS t.hj]
    have uw:fQ ⟨0,[b],[z],d⟩ j≠b:=by
     unfold fQ;rcases t.tie with⟨a1,a2⟩ |⟨a1,a2⟩
     ·rw[ate (Cq (by rw[a1];simp)),atd (by rw[r7 a2];simp)];intro h9;exact a2 (by rw[h9];simp)
     ·rw[atd (by rw[r7 a2];simp)];intro h9;exact a2 (by rw[h9];simp)
    rw[ha];show(true&&(oH b _&&true))=(j9 b 0 _&&true);unfold oH j9;rw[atj uw,ati rfl];simp
   ·rw[atj k0];show(true&&_)=_;rw[are]
    have e9:oH b=j9 b k:=by
     funext y;unfold oH j9;rw[atj k0,Bool.false_or]
    rw[e9]
  constructor
  ·intro h k sM;rw[<- key k sM];exact h k sM
  ·intro h k sM;rw[key k sM];exact h k sM
 ·have h1:fN l (ay l)=false:=by
   unfold fN;rw[atj (fun h=>hk (by rw[eg];exact h.2)),ard]
  rw[h1];refine F5 (m:=1) ?_ aO;rw[CU,<- eg];unfold qW;rw[ati (rfl:0=0),atj hk];simp
def ia(l:Li):Nat:=if ax l≠0 then ax l else if bS l≠0 then bS l else if l.drivers.length≠1 then 7 else if fN l (ay l)=false then 15 else 0
def qY(l:Li):List Gr:=if ia l=0 then ay l else[]
def tI(l:Li):Int:=if ia l=0 then(l.drivers.getD 0 default).body else 0
theorem akc(l:Li)(hl:l.ok):FP 34 [l.av] (.tup [.lst 4 ((qY l).map Gr.av),i64 (tI l),i64 (ia l)]):=by
 refine am func34 ?_;refine gc (Ie l hl) ?_;refine gC (fun z=>?_) (fun z=>?_)
 ·have h1 : ax l ≠ 0 := by have := yz z; omega
  have he:ia l=ax l:=by unfold ia;rw[ate h1]
  refine gR ?_;exact ft (by unfold qY tI;rw[atd oz,atd oz,he];exact Sub.tup (.cons (.nil _ _ _) (.cons (.refl _) (.cons (.refl _) .nil))))
 have ae:ax l=0:=by have:=yq z;omega
 refine gc (ag2 l hl ae) ?_;refine gC (fun z=>?_) (fun z=>?_)
 ·have h1 : bS l ≠ 0 := by have := yz z; omega
  have he:ia l=bS l:=by unfold ia;rw[atd oz,ate h1]
  refine gR ?_;exact ft (by unfold qY tI;rw[atd oz,atd oz,he];exact Sub.tup (.cons (.nil _ _ _) (.cons (.refl _) (.cons (.refl _) .nil))))
 have fp:bS l=0:=by have:=yq z;omega
 have xj:=hl.ld;refine gl ?_;refine gC (fun z=>?_) (fun z=>?_)
 ·have h3 : l.drivers.length ≠ 1 := by have := yz z; omega
  have he:ia l=7:=by unfold ia;rw[atd oz,atd oz,ate h3]
  refine gR ?_;exact ft (by unfold qY tI;rw[atd oz,atd oz,he];exact Sub.tup (.cons (.nil _ _ _) (.cons (.refl _) (.cons (.refl _) .nil))))
 have h3:l.drivers.length=1:=by have:=yq z;omega
 have hrs:=abk ae fp h3;have J6:=Dj ae
 have E1:jQ l (l.drivers.getD 0 default).body (ay l) (ay l).length=false->ia l=15:=fun h=>by
  unfold ia;rw[atd oz,atd oz,atd oz,ate (by rw[<- hrs];exact h)]
 have Ko:jQ l (l.drivers.getD 0 default).body (ay l) (ay l).length=true->ia l=0:=fun h=>by
  unfold ia;rw[atd oz,atd oz,atd oz,atd (by rw[<- hrs,h];decide)]
 obtain⟨dv,ni⟩:∃dv,dv=(l.drivers.getD 0 default).body:=⟨_,rfl⟩
 rw[<- ni]at E1 Ko;obtain⟨G,hG⟩:∃G,G=ay l:=⟨_,rfl⟩
 have hGo:∀g∈G,GrOk l g:=fun g hg=>(kF ae (hG▸hg)).2
 rw[<- hG]at E1 Ko J6 ⊢;refine gi (aw (oa (l:=l.drivers) (i:=0) (d:=default) oz)) ?_ (10,0);refine gW (Wk.of (sl:=[pP 1 (.ptr 1 0),pP 6 (.lst 4 (G.map Gr.av)),pP 8 (i64 dv)]) (hp:=[pP 1 (.box l.av.cells)]) (.k (.k (.cons rfl (.of (by rw[ni])) .nil))) (.k .nil)) ?_;refine gl ?_;refine aP [1,6,8,37,38] [1] (fun(k:Nat)=>[pP 39 (i64 k)]) (fun _=>[]) (fun k=>k<=G.length/\jQ l dv G k=true) (fun k=>G.length-k) 0 ⟨ase _,rfl⟩ ?_;rintro k ⟨hk,AD⟩ K1 J1;refine gC (fun z=>?_) (fun z=>?_)
 ·have af:=aT z;have hg:=oa (l:=G) (i:=k) (d:=default) af;obtain⟨g,eg⟩:∃g,g=G.getD k default:=⟨_,rfl⟩
  rw[<- eg]at hg;have dM:=hGo g (ar1 hg);have uG:=dM.lj;refine gi (aw hg) ?_;refine gC (fun z=>?_) (fun z=>?_)
  ·have h5 : (decide (k = 0) && !decide (g.kind = 0)) = true := by rw [<- Q5]; exact z
   have h6:jQ l dv G (k+1)=false:=by rw[CU,<- eg];unfold qW;rw[h5];simp
   have he:=E1 (F5 h6 af);refine gR ?_;exact ft (by unfold qY tI;rw[atd oz,atd oz,he];exact Sub.tup (.cons (.nil _ _ _) (.cons (.refl _) (.cons (.refl _) .nil))))
  have h5:(decide (k=0)&&!decide (g.kind=0))=false:=by rw[<- Q5];exact z
  refine gc (VE l hl g dM) ?_;refine gl ?_;refine aP [1,6,8,37,38,39,57,58] [1] (fun(q:Nat)=>[pP 59 (i64 q)]) (fun _=>[]) (fun q=>q<=(b7 l g).length/\((b7 l g).take q).all (oH dv)=true) (fun q=>(b7 l g).length-q) 0 ⟨ase _,rfl⟩ ?_;rintro q ⟨hq,qN⟩ K2 J2;refine gC (fun z=>?_) (fun z=>?_)
  ·have bH:=aT z;obtain⟨b,hb⟩:=aJ bH;refine gi (aw hb) ?_;refine gC (fun z=>?_) (fun z=>?_)
   ·have h7 : oH dv b = false := by rw [Ky] at z; simpa using z
    have h6:jQ l dv G (k+1)=false:=by rw[CU,<- eg];unfold qW;rw[LQ hb h7,arc,arc]
    have he:=E1 (F5 h6 af);refine gR ?_;exact ft (by unfold qY tI;rw[atd oz,atd oz,he];exact Sub.tup (.cons (.nil _ _ _) (.cons (.refl _) (.cons (.refl _) .nil))))
   have h7:oH dv b=true:=by rw[Ky]at z;simpa using z
   refine ga (AI (by unfold aF;have:=lV l g;omega)) ?_;exact aM J2 (q+1) ⟨bH,wL qN hb h7⟩
  have bH:=bc hq z;refine ga aL ?_;exact aM J1 (k+1) ⟨af,by rw[CU,AD,<- eg,are];unfold qW;rw[h5,u4 bH qN];rfl⟩
 have af:=bc hk z;subst af;have he:=Ko AD;refine oc ?_;unfold qY tI;rw[ate he,ate he,he,<- hG,<- ni];rfl
theorem aim{l:Li}(h:ia l≠0):dR l=ia l:=by
 unfold ia at h ⊢;unfold dR;split
 ·rfl
 ·split
  ·rfl
  ·split
   ·rfl
   ·split
    ·rfl
    ·rename_i h1 h2 h3 h4;rw[atd h1,atd h2,atd h3,atd h4]at h;exact atk rfl h
structure SmP(l:Li):Prop where
  li:ax l=0
  sp:bS l=0
  dr:l.drivers.length=1
  si:fN l (ay l)=true
theorem V5{l:Li}(h:ia l=0):SmP l:=by
 unfold ia at h;split at h
 ·omega
 ·split at h
  ·omega
  ·split at h
   ·omega
   ·split at h
    ·omega
    ·rename_i h1 h2 h3 h4;exact⟨by omega,by omega,by omega,by simpa using h4⟩
theorem LH(l:Li)(hl:l.ok):FP 9 [l.av] (.tup [.lst 1 ((dH l).map nA),.lst 1 ((fu l).map i64),i64 (dR l)]):=by
 refine am func9 ?_;refine gc (akc l hl) ?_;refine gC (fun u=>?_) (fun u=>?_)
 ·have h1 : ia l ≠ 0 := by have := yz u; omega
  have he:=aim h1;refine gR ?_;exact ft (by unfold dH fu;rw[atd oz,atd oz,he];exact Sub.tup (.cons (.nil _ _ _) (.cons (.nil _ _ _) (.cons (.refl _) .nil))))
 have h1:ia l=0:=by have:=yq u;omega
 obtain⟨ae,fp,h3,h4⟩:=V5 h1;have eG:qY l=ay l:=ate h1;rw[eG];obtain⟨G,hG⟩:∃G,G=ay l:=⟨_,rfl⟩
 have AC:G.length<=100:=by have:=Dj ae;rw[hG];omega
 rw[<- hG];have hS:=yp ae h3 h4;have aO:0<G.length:=by rw[hG];exact hS.ne
 obtain⟨T,hT⟩:∃T,T=G.tail:=⟨_,rfl⟩
 have hTl:T.length<=100:=by rw[hT,aqg];omega
 obtain⟨j,hj⟩:∃j,j=gU l G:=⟨_,rfl⟩
 have j7:Pj l G j (cf l G):=by rw[hj,hG];exact hS.pj
 have Km:∀(i:Nat)(x:Gr),T[i]?=some x->Lg l (cf l G) x:=fun i x hx=>by
  rw[hG];refine DY ae fp h3 h4 (k:=i) ?_;rw[<- hG];rw[hT,ap6]at hx;exact hx
 obtain⟨g0,z,qH,hz,bb,df,qS⟩:=j7.ex;have md:=hl.lj;refine gi (aw qH) ?_;refine gi (aw hz) ?_;refine gi (eI (n:=z.toNat) oz qS) ?_;refine gD ?_ (7,2);refine gs ((fC (l:=1) (es:=G.map Gr.av) (.tmp rfl) (.some _ (.const _) oz) (.none _) T53 rfl T104 rfl (by rw[ar3];omega) (ar8 _) rfl)) ?_;refine ge rfl ?_;refine gW (Wk.of (sl:=[pP 1 (.ptr 1 0),pP 8 (.ptr 8 0),pP 9 (nS),pP 10 (nS),pP 36 (.lst 4 (T.map Gr.av)),pP 37 (i64 T.length),pP 38 (i64 0)]) (hp:=[pP 1 (.box l.av.cells),pP 8 (.box j.av.cells)]) (.k (.k (.k (.k (.cons rfl (.of (by rw[hT,<- List.drop_one,aph,asn (by rw[apx];omega)])) (.cons rfl (Sub.int (by have h8:T.length=G.length-1:=(by rw[hT,aqg]);rw[h8,aso,apx,ar3,Nat.min_self])) (.k .nil))))))) (.k (.k .nil))) ?_ (99999,0)
 refine gW (Wk.virt 900 1 rfl) ?_ (99999,0);refine gW (Wk.virt 901 1 rfl) ?_;refine aP [1,8,36,37] [1,8] (fun(i:Nat)=>[pP 9 (.ms 900 1 0 i),pP 10 (.ms 901 1 0 i),pP 38 (i64 i)]) (fun i=>[pP 900 (.row 1 (((T.take i).map (eT l j)).map nA)),pP 901 (.row 1 (((T.take i).map iJ).map i64))]) (fun i=>i<=T.length/\∀x∈T.take i,iS l j x=0) (fun i=>T.length-i) 0 ⟨ase _,fun x hx=>by simp at hx⟩ ?_ (h1:=(.cons rfl (Sub.nM _ _ _) (.cons rfl (Sub.nM _ _ _) (.k .nil))))
 rintro i ⟨hi,bm⟩ K1 J1;refine gC (fun u=>?_) (fun u=>?_) (st2:=(15,0))
 ·have af:=aT u;obtain ⟨x,hx⟩:=aJ af;have Kn:x ∈ (ay l).tail:=by rw [<- hG,<- hT]; exact ar1 hx
  refine gi (aw hx) ?_;refine gc (ahm l hl ae j7 (Km i x hx)) ?_;refine gC (fun u=>?_) (fun u=>?_)
  ·have h5 : iS l j x ≠ 0 := by simpa using u
   have he:=HR ae fp h3 h4 Kn (by rw[<- hG,<- hj];exact h5);refine gR ?_;exact ft (by unfold dH fu;rw[he];exact Sub.tup (.cons (.nil _ _ _) (.cons (.nil _ _ _) (.cons (.refl _) .nil))))
  have h5:iS l j x=0:=by simpa using u
  refine gs (eQ (.tmp rfl) rfl (by rw[ar3,ar3,aso];omega) (.tmp rfl) T29 rfl T41 rfl rfl (by simp only[asi,asu];omega) rfl rfl) ?_;refine gs (eQ (.tmp rfl) rfl (by rw[ar3,ar3,aso];omega) (.tmp rfl) T30 rfl T3 rfl rfl (by simp only[asi,asu];omega) rfl rfl) ?_ (14,0);refine gW (Wk.of (sl:=[pP 1 (.ptr 1 0),pP 8 (.ptr 8 0),pP 9 (.ms 55 1 0 (i+1)),pP 10 (.ms 59 1 0 (i+1)),pP 36 (.lst 4 (T.map Gr.av)),pP 37 (i64 T.length),pP 38 (i64 i)]) (hp:=[pP 1 (.box l.av.cells),pP 8 (.box j.av.cells),pP 55 (.row 1 (((T.take (i+1)).map (eT l j)).map nA)),pP 59 (.row 1 (((T.take (i+1)).map iJ).map i64))]) a6 (.k (.k (.cons rfl (.of (by rw[DW _ hx,asz];rfl)) (.cons rfl (.of (by rw[DW _ hx,asz];rfl)) .nil))))) ?_ (14,0)
  refine gW (Wk.rk (k:=55) (d:=900) rfl rfl) ?_ (14,0);refine gW (Wk.rk (k:=59) (d:=901) rfl rfl) ?_;refine ga aL ?_;exact aM J1 (i+1) ⟨af,fun y hy=>by rw[fO hx]at hy;rcases ar9.1 hy with h9 |h9;exact bm y h9;rw[aqf.1 h9];exact h5⟩
 have af:=bc hi u;subst af;have he:=Og ae fp h3 h4 (by rw[<- hG,<- hT,<- hj,<- asK (l:=T)];exact bm);have eP:dH l=T.map (eT l j):=by unfold dH;rw[ate he,<- hG,<- hT,<- hj]
 have eN:fu l=T.map iJ:=by unfold fu;rw[ate he,<- hG,<- hT]
 refine gW ((Wk.freeze (k:=900) rfl).trans<|(Wk.freeze (k:=901) rfl).trans<|Wk.of (sl:=[pP 9 (.lst 1 ((T.map (eT l j)).map nA)),pP 10 (.lst 1 ((T.map iJ).map i64))]) (hp:=[]) (.cons rfl (.of (by rw[cq (by rw[ar3,ar3,aso];omega),asK];rfl)) (.cons rfl (.of (by show AV.fz 901 1 _ (.ms 901 1 0 T.length)=_;rw[cq (by rw[ar3,ar3,aso];omega),asK])) .nil)) .nil) ?_;refine oc ?_;rw[eP,eN,he];rfl
def qi(r:Rt)(n d:Nat):Bool :=
  cond (cond (cond (aa .lss (r.num.length:Int) 2) (aa .lss (r.den.length:Int) 2) false) (cond (aa .eql (r.num.length:Int) 0) true (aa .leq (ak r.num 0:Int) (n:Int))) false)
    (cond (aa .eql (r.den.length:Int) 0) true (aa .leq (ak r.den 0:Int) (d:Int))) false
theorem NP{r:Rt}{n d:Nat}(h:qi r n d=true):r.num.length<=1/\r.den.length<=1:=by
 unfold qi at h;cases h1:aa .lss (r.num.length:Int) 2
 ·rw[h1]at h;cases h
 ·cases h2:aa .lss (r.den.length:Int) 2
  ·rw[h1,h2]at h;cases h
  ·have a:=aT (b:=2) h1;have b:=aT (b:=2) h2;exact⟨by omega,by omega⟩
theorem Dn(r:Rt)(n d:Nat)(hn:n<4294967296)(hd:d<4294967296):FP 25 [r.av,u32 n,u32 d] (bl (qi r n d)):=by
 refine am func25 ?_;refine gl ?_;refine cG ?_;refine cG ?_;refine nJ (fun⟨h,h2⟩=>(cB (by have:=du h2;have e:Int.toNat 0=0:=rfl;omega))) ?_;refine cG ?_;refine nJ (fun⟨h,h2⟩=>(cB (by have:=du h2;have e:Int.toNat 0=0:=rfl;omega))) ?_;refine ah ?_
 first |rfl |(simp;done)
def wD(m:Mk):Bool:=!(cond (!qi m.x 60 5) true (!qi m.y 60 5))
def Bp(l:Li):Bool:=l.bo.all (fun b=>b.pts.all wD)
def uW(m:Mk):Bool:=!(cond (cond (aa .gtr (m.name.size:Int) 100) true (!qi m.x 200 13)) true (!qi m.y 200 13))
def CO(b:Bd):Bool:=cond (aa .gtr (b.pts.length:Int) 10) true (aa .gtr (b.name.size:Int) 100)
def n6(b:Bd):Bool:=!CO b&&b.pts.all uW
def wi(l:Li):Bool:=cond (cond (aa .gtr (l.bo.length:Int) 6) true (aa .gtr (l.jo.length:Int) 9)) true (aa .gtr (l.drivers.length:Int) 4)
def vC(xs:List Int):Nat->Int
  |0=>0
  |n+1=>vC xs n+xs.getD n 0
def KJ(l:Li):Bool:=cond (cond (aa .neq (dR l:Int) 0) true (aa .lss ((dH l).length:Int) 2)) true (cond (cond (aa .eql ((dH l).length:Int) 2) (aa .leq (vC (fu l) (fu l).length) 6) false) (Bp l) false)
def ir(l:Li):Bool:=!wi l&&(l.bo.all n6&&(if ax l=0 then KJ l else true))
theorem Th{m:Mk}(h:uW m=true):m.x.num.length<=1/\m.x.den.length<=1/\m.y.num.length<=1/\m.y.den.length<=1:=by
 unfold uW at h;have h:=el h;cases h1:qi m.x 200 13
 ·rw[h1]at h;revert h;cases aa .gtr (m.name.size:Int) 100 <;> exact fun h=>by cases h
 ·cases h2:qi m.y 200 13
  ·rw[h1,h2]at h;revert h;cases aa .gtr (m.name.size:Int) 100 <;> exact fun h=>by cases h
  ·have a:=NP h1;have b:=NP h2;exact⟨a.1,a.2,b.1,b.2⟩
theorem P3{l:Li}(hw:l.okw)(h1:wi l=false)(h2:l.bo.all n6=true):l.ok:=by
 refine Jd ?_ hw;unfold GG;unfold wi at h1;rw[asd]at h2
 have hb:l.bo.all Bx=true:=by
  rw[asd];intro b hb;have h3:=h2 b hb;unfold n6 at h3;rw[ar5]at h3;have h4:=el h3.1;unfold CO at h4
  have h5:b.pts.length<=10:=by
   cases h9:aa .gtr (b.pts.length:Int) 10
   ·exact kl (b:=10) h9
   ·rw[h9]at h4;cases h4
  unfold Bx;rw[ati oz,are,asd];intro m hm;have h6:=Th (asd.1 h3.2 m hm);unfold DO;exact ati ⟨by omega,by omega,by omega,by omega⟩
 rw[hb,are];cases h3:aa .gtr (l.bo.length:Int) 6
 ·cases h4:aa .gtr (l.jo.length:Int) 9
  ·cases h5:aa .gtr (l.drivers.length:Int) 4
   ·have a:=kl (b:=6) h3;have b:=kl (b:=9) h4;have c:=kl (b:=4) h5;exact ati ⟨by omega,by omega,by omega⟩
   ·rw[h3,h4,h5]at h1;cases h1
  ·rw[h3,h4]at h1;cases h1
 ·rw[h3]at h1;cases h1
theorem Wb{l:Li}:∀x∈fu l,0<=x/\x<=4:=by
 intro x hx;unfold fu at hx;split at hx
 ·obtain⟨g,_,rfl⟩:=aqd.1 hx;unfold iJ;split
  ·omega
  ·split <;> omega
 ·cases hx
theorem MS(l:Li):(dH l).length<=8/\(fu l).length=(dH l).length:=by
 unfold dH fu;split
 ·rename_i h;have h1:=Dj (Iz h).li;rw[ar3,ar3,aqg];exact⟨by omega,rfl⟩
 ·exact⟨ase _,rfl⟩
theorem abc{xs:List Int}{i:Nat}{x:Int}(h:xs[i]?=some x):vC xs (i+1)=vC xs i+x:=by
 show vC xs i+xs.getD i 0=_;rw[aS h]
theorem ZU(l:Li)(hl:l.ok):FP 27 [l.av] (bl (Bp l)):=by
 have eY:=hl.lb;refine am func27 ?_;refine gl ?_;refine aP [1,8,9] [1] (fun(i:Nat)=>[pP 10 (i64 i)]) (fun _=>[]) (fun i=>i<=l.bo.length/\(l.bo.take i).all (fun b=>b.pts.all wD)=true) (fun i=>l.bo.length-i) 0 ⟨ase _,rfl⟩ ?_;rintro i ⟨Ax,sO⟩ K1 J1;refine gC (fun z=>?_) (fun z=>?_)
 ·have af:=aT z;obtain⟨b,hb⟩:=aJ af;have qJ:=(hl.bo b (ar1 hb)).ll;refine gi (aw hb) ?_;refine gl ?_;refine aP [1,8,9,10,15,16] [1] (fun(k:Nat)=>[pP 17 (i64 k)]) (fun _=>[]) (fun k=>k<=b.pts.length/\(b.pts.take k).all wD=true) (fun k=>b.pts.length-k) 0 ⟨ase _,rfl⟩ ?_;rintro k ⟨hk,jl⟩ K2 J2;refine gC (fun z=>?_) (fun z=>?_)
  ·have bh:=aT z;obtain⟨p,hp⟩:=aJ bh;refine gi (aw hp) ?_;refine gc (Dn p.x 60 5 oz oz) ?_;refine bV (fun _=>(Dn p.y 60 5 oz oz)) ?_;refine gC (fun z=>?_) (fun z=>?_)
   ·have h1:wD p=false:=atl Bool.not z;refine ah ?_;unfold Bp;rw[ym hb (ym hp h1)];rfl
   have h1:wD p=true:=atl Bool.not z;refine ga aL ?_;exact aM J2 (k+1) ⟨bh,wL jl hp h1⟩
  have hP:b.pts.all wD=true:=u4 (bc hk z) jl;refine ga aL ?_;exact aM J1 (i+1) ⟨af,wL sO hb hP⟩
 have hL:Bp l=true:=u4 (bc Ax z) sO;refine ah ?_;rw[hL];rfl
theorem XS(l:Li)(hw:l.okw):FP 6 [l.av] (bl (ir l)):=by
 refine am func6 ?_;refine gl ?_;refine cG ?_;refine cG ?_;refine gC (fun z=>?_) (fun z=>?_)
 ·have h1:wi l=true:=z;refine ah ?_;unfold ir;rw[h1];rfl
 have h1:wi l=false:=z;have eY:=hw.lb;refine gl ?_;refine aP [1,30,31] [1] (fun(i:Nat)=>[pP 32 (i64 i)]) (fun _=>[]) (fun i=>i<=l.bo.length/\(l.bo.take i).all n6=true) (fun i=>l.bo.length-i) 0 ⟨ase _,rfl⟩ ?_;rintro i ⟨Ax,sO⟩ K1 J1;refine gC (fun z=>?_) (fun z=>?_)
 ·have af:=aT z;obtain⟨b,hb⟩:=aJ af;have qJ:=(hw.pts b (ar1 hb)).2.1;refine gi (aw hb) ?_;refine gl ?_;refine gC (fun z=>?_) (fun z=>?_)
  ·have h2 : n6 b = false := by unfold n6; rw [show CO b = true from z]; rfl
   refine ah ?_;unfold ir;rw[ym hb h2,ard,arc];rfl
  have h2:CO b=false:=z;refine gl ?_;refine aP [1,30,31,32,47,48] [1] (fun(k:Nat)=>[pP 49 (i64 k)]) (fun _=>[]) (fun k=>k<=b.pts.length/\(b.pts.take k).all uW=true) (fun k=>b.pts.length-k) 0 ⟨ase _,rfl⟩ ?_;rintro k ⟨hk,jl⟩ K2 J2;refine gC (fun z=>?_) (fun z=>?_)
  ·have bh:=aT z;obtain⟨p,hp⟩:=aJ bh;refine gi (aw hp) ?_;refine bV (fun _=>(Dn p.x 200 13 oz oz)) ?_;refine bV (fun _=>(Dn p.y 200 13 oz oz)) ?_;refine gC (fun z=>?_) (fun z=>?_)
   ·have h3:uW p=false:=atl Bool.not z;refine ah ?_;unfold ir;rw[ym hb (by unfold n6;rw[ym hp h3,arc]),ard,arc];rfl
   have h3:uW p=true:=atl Bool.not z;refine ga aL ?_;exact aM J2 (k+1) ⟨bh,wL jl hp h3⟩
  have hP:n6 b=true:=by unfold n6;rw[h2,u4 (bc hk z) jl];rfl
  refine ga aL ?_;exact aM J1 (i+1) ⟨af,wL sO hb hP⟩
 have hL:l.bo.all n6=true:=u4 (bc Ax z) sO;have hl:=P3 hw h1 hL;refine gc (Ie l hl) ?_;refine gC (fun z=>?_) (fun z=>?_)
 ·have h4:=yP z;refine ah ?_;unfold ir;rw[h1,hL,atd h4];rfl
 have h4:=wK z;obtain⟨e1,e2⟩:=MS l;refine gc (LH l hl) ?_;refine gl ?_;refine fT [1,7,9,80,81] [1] (fun(i:Nat)(s:Int)=>[pP 10 (i64 s),pP 82 (i64 i)]) (fun _ _=>[]) (fun i s=>i<=(fu l).length/\s=vC (fu l) i/\0<=s/\s<=4*i) (fun i _=>(fu l).length-i) 0 0 ⟨ase _,rfl,by omega,by omega⟩ ?_;rintro i s ⟨hi,hs,gO,hs4⟩ K3 J3;refine gC (fun z=>?_) (fun z=>?_)
 ·have af:=aT z;obtain⟨x,hx⟩:=aJ af;have hx4:=Wb x (ar1 hx);refine gi (aw hx) ?_;refine ga (dx oz) ?_;refine ga aL ?_;exact f7 J3 (i+1) (s+x) ⟨af,by rw[abc hx,hs],by omega,by omega⟩
 have af:=bc hi z;subst af;refine cG ?_;refine cG ?_;refine bV (fun _=>(ZU l hl)) ?_;refine ah ?_;unfold ir KJ;rw[h1,hL,ate h4,hs];rfl
theorem Qb.m1:Qb 1 (-1:Rat):=⟨by decide,by decide⟩
theorem amd{l:Li}{G:List Gr}(hl:l.ok)(ae:ax l=0){j:Jt}{dv:Int}(hp:Pj l G j dv){x:Gr}(hx:Lg l dv x):Plm 9 20000000 (eT l j x):=by
 obtain⟨i,z0,j0,hi,bb,t0⟩:=DS hx.dy hx.nd;have F0:=rC hx ae rfl t0 (ar1 bb);have n0:=F0.n hp hl ae;obtain⟨o1,o2⟩:=mw ae t0.hj (qk t0);have m0:=bJ hl ae o1 o2;have hW:=rx;have h1:Qb 1 (((1:Int):Rat)):=Qb.one
 by_cases hk:x.kind=1
 ·obtain ⟨k, z1, z2, j1, j2, P⟩:=D0 hx.dy hk hi bb t0.hj;rw [P.eE];have F1:=rC hx ae rfl P.t1 (ar1 P.y1);have n1:=F1.n hp hl ae;obtain ⟨o3,o4⟩:=mw ae P.t1.hj (qk P.t1);have m1:=bJ hl ae o3 o4;obtain ⟨o5,o6⟩:=mw ae P.h2 (b:=i) (by rcases P.ti with h9 | h9; exact .inl h9.1; exact .inr h9.1);have m2:=bJ hl ae o5 o6
  have o7:aZ (aR j2 i) (bT l k).length=true:=by
   obtain⟨i1,i2,i3,i4,_⟩:=cJ ae P.h2;have aO:=P.ne;unfold aR;rcases P.ti with⟨h8,h9⟩ |⟨h8,h9⟩
   ·rw[ate h8,<- h9];exact i4
   ·rw[atd (fun h=>aO (h.symm.trans h9)),<- h9];exact i3
  have m3:=bJ hl ae o3 o7;have qr:=gH (m2.sub m0);have qs:=gH (m3.sub m1);have nd:=mI n1 n0;have ng:=(nP nd nd).1.dvQ;have b1:=(f9 3).add hW (qr.sub qs);have nr:=(b1.add ng h1).mono (m:=5) (f:=600000) oz oz;have nm:=(ng.mul hW).mono (m:=7) (f:=3000000) oz oz;have nf:=((f9 7).add nm (ru.mul qr)).mono (m:=7) (f:=3100000) oz oz;have nq:=(nr.mul nr).mono (m:=9) (f:=6100000) oz oz;exact(nf.add nq Qb.m1).mono oz oz
 ·by_cases cg:x.kind=2
  ·obtain ⟨z1, j1, P, ha, eE, eX, eN⟩:=CK hx.dy cg hi bb t0.hj;rw [eE];obtain ⟨i1,i2,i3,i4,i5⟩:=cJ ae P.t1.hj;have i5:=i5 (by rw [P.t1.kd]; decide);have pz:=(hx.an z1 (ar1 P.y1) j1 P.t1.hj).2;have F1:Fd l dv j1.b j1.on:=⟨i2,i4,pz (by rcases P.t1.tie with h9 | h9; exact h9.2; exact atk (ha ▸ ar1 hi) h9.2)⟩
   have F2:Fd l dv j1.b j1.to:=⟨i2,i5,F1.hd⟩
   have n1:=F1.n hp hl ae;have n2:=F2.n hp hl ae;have m1:=bJ hl ae i2 i4;have m2:=bJ hl ae i2 i5;rw[ha]at i1 i3;have m3:=bJ hl ae i1 i3;have qm:=gH (m2.sub m1);have qr:=gH (m3.sub m0);have na:=mI n2 n1;have nb:=mI n0 n1;have ng:=(nP na nb).2.dvQ;have nf:=(f9 5).add (hW.mul hW) (qm.mul qr);exact(nf.add (ng.mul ng) Qb.m1).mono oz oz
  ·obtain ⟨z1, j1, P, ha, eE, eX, eN⟩:=BA hx.dy hx.nd hk cg hi bb t0.hj;rw [eE];obtain ⟨i1,i2,i3,i4,i5⟩:=cJ ae P.t1.hj;have i5:=i5 (by rw [P.t1.kd]; decide);have sN:=(hx.an z1 (ar1 P.y1) j1 P.t1.hj).1;have hb:j1.b = i:=by rcases P.t1.tie with h9 | h9; exact atk h9.1 ha; exact h9.1
   have F1:Fd l dv j1.a j1.point:=⟨i1,i3,sN (by rcases P.t1.tie with h9 |h9;exact atk h9.1 ha;exact h9.2)⟩
   have n1:=F1.n hp hl ae;rw[hb]at i2 i4 i5;have m1:=bJ hl ae i2 i4;have m2:=bJ hl ae i2 i5;have vv:Sm 2001 (j8 l i j1):=m2.sub m1;have vu:Sm 2001 (zj l i j0 j1):=m1.sub m0;have qv:=gH vv;have qh:=vv.cross vu;have nd:=mI n1 n0;have ng:=(nP nd nd).1.dvQ;have na:=(f9 5).add ng qv;have nb:=(f9 3).add hW (qh.mul qh);exact(na.add nb Qb.m1).mono oz oz
theorem ab1{l:Li}(hl:l.ok){p:List Rat}(h:p∈dH l):Po 20000000 p:=by
 unfold dH at h;split at h
 ·rename_i he;have e:=Iz he;obtain⟨g,hg,rfl⟩:=aqd.1 h;obtain⟨k,hk⟩:=List.mem_iff_getElem?.1 hg;rw[ap6]at hk;exact(amd hl e.li (yp e.li e.dr e.si).pj (DY e.li e.sp e.dr e.si hk)).po oz
 ·cases h
theorem LF{l:Li}(hw:l.okw)(h:ir l=true):l.ok:=by
 unfold ir at h;rw[ar5,ar5]at h;exact P3 hw (el h.1) h.2.1
theorem ac2{x:Tn}(ho:x.t.ok)(he:x.err=0):x=⟨rt x.t.q,x.half⟩:=by
 have h:=Rt.eq_rt ho (Tn.ok_valid he);cases x;dsimp only at h ⊢;rw[<- h]
def mP(x:Tn):Bool:=cond (aa .lss (x.t.num.length:Int) 2) (aa .lss (x.t.den.length:Int) 2) false
theorem On{x:Tn}(h:mP x=true):x.t.num.length<=1/\x.t.den.length<=1:=by
 unfold mP at h;cases h1:aa .lss (x.t.num.length:Int) 2
 ·rw[h1]at h;cases h
 ·rw[h1]at h;have a:=aT (b:=2) h1;have b:=aT (b:=2) h;exact⟨by omega,by omega⟩
theorem Vp(x:Tn):FP 13 [x.av] (bl (mP x)):=by
 refine am func13 ?_;refine gl ?_;refine cG ?_;refine ah ?_
 first |rfl |(simp;done)
def yr(l:Li)(x:Tn):Bool:=cond (cond (cond (!ir l) true (!mP x)) true (aa .neq (ax l:Int) 0)) true (aa .neq (x.err:Int) 0)
def xp(l:Li)(x:Tn):Bool:=!yr l x&&aa .eql (dR l:Int) 0
theorem OC{l:Li}{x:Tn}(hw:l.okw)(h:cond (!ir l) true (!mP x)=false):l.ok:=by
 refine LF hw ?_;cases h9:ir l
 ·rw[h9]at h;cases h
 ·rfl
theorem Wg{l:Li}{x:Tn}(hx:x.t.wok){b:Bool}(h:cond (cond (!ir l) true (!mP x)) true b=false):x.t.ok/\Qb 64 x.t.q:=by
 have hh:mP x=true:=by
  cases h9:mP x
  ·rw[h9]at h;cases h8:ir l <;> rw[h8]at h <;> cases h
  ·rfl
 obtain⟨a,b⟩:=On hh;have AE:x.t.ok:=hx.ok a b oz;exact⟨AE,(Rt.qb AE (k:=1) oz a b).mono oz⟩
theorem XB(l:Li)(hw:l.okw)(x:Tn)(hx:x.t.wok):FP 16 [l.av,x.av] (bl (xp l x)):=by
 refine am func16 ?_;refine gc (XS l hw) ?_;refine bV (fun _=>(Vp x)) ?_;refine bV (fun h=>(Ie l (OC hw h))) ?_;refine bV (fun h=>(aam x (Wg hx h).1)) ?_;refine gC (fun z=>?_) (fun z=>?_)
 ·have h1:yr l x=true:=z;refine ah ?_;unfold xp;rw[h1];rfl
 have h1:yr l x=false:=z;have hl:=OC (x:=x) hw (by unfold yr at h1;revert h1;cases cond (!ir l) true (!mP x) <;> intro h1;rfl;cases h1);refine gc (LH l hl) ?_;refine ah ?_;unfold xp;rw[h1];rfl
def x8(q:Rat)(R:Rat×Rat):Rat×Rat:=(ce false q*R.1-b8 false q*R.2,b8 false q*R.1+ce false q*R.2)
def bn(l:Li)(j:Jt)(q:Rat)(b pt:Int):Rat×Rat :=
  if b=0 then az l 0 pt else((az l 0 (aR j b)).1+(x8 q (a7 (az l b pt) (az l b (dc j b)))).1,(az l 0 (aR j b)).2+(x8 q (a7 (az l b pt) (az l b (dc j b)))).2)
theorem xu(q:Rat):0<1+q*q:=by have:=yQ q;grind
theorem Lv(q:Rat):ce false q*(1+q*q)=1-q*q:=by
 show(1-q*q)/(1+q*q)*(1+q*q)=_;exact Rat.div_mul_cancel (by have:=xu q;grind)
theorem L4(q:Rat):b8 false q*(1+q*q)=2*q:=by
 show(q+q)/(1+q*q)*(1+q*q)=_;rw[Rat.div_mul_cancel (by have:=xu q;grind)];grind
theorem ad6(q:Rat):ce false q*ce false q+b8 false q*b8 false q=1:=by
 have h1:=Lv q;have h2:=L4 q;have h3:=xu q;have h4:(ce false q*ce false q+b8 false q*b8 false q)*((1+q*q)*(1+q*q))=1*((1+q*q)*(1+q*q)):=by grind
 have h5:(1+q*q)*(1+q*q)≠0:=by
  intro h9;rcases Rat.mul_eq_zero.1 h9 with h8 |h8 <;> grind
 calc ce false q*ce false q+b8 false q*b8 false q
   = (ce false q*ce false q+b8 false q*b8 false q)*((1+q*q)*(1+q*q))/((1+q*q)*(1+q*q)):=(Rat.mul_div_cancel h5).symm
  _=1*((1+q*q)*(1+q*q))/((1+q*q)*(1+q*q)):=by rw[h4]
  _=1:=Rat.mul_div_cancel h5
theorem MX(l:Li)(j:Jt)(q:Rat)(b pt:Int):aq (cI l j b pt).1 q=(1+q*q)*(bn l j q b pt).1/\aq (cI l j b pt).2 q=(1+q*q)*(bn l j q b pt).2:=by
 unfold cI bn
 by_cases h:b=0
 ·rw[ate h,ate h];obtain⟨h1,h2⟩:=BU (az l 0 pt) q;rw[h1,h2];exact⟨by grind,by grind⟩
 ·rw[atd h,atd h];obtain⟨h1,h2⟩:=BU (az l 0 (aR j b)) q;have c:=Lv q;have s:=L4 q;dsimp only;rw[eC,eC,h1,h2,GU,Iy];unfold x8;dsimp only;generalize a7 (az l b pt) (az l b (dc j b))=R;generalize az l 0 (aR j b)=F;constructor
  ·have e : (1 + q * q) * (F.1 + (ce false q * R.1 - b8 false q * R.2)) = (1 + q * q) * F.1 + (ce false q * (1 + q * q)) * R.1 - (b8 false q * (1 + q * q)) * R.2 := by grind
   rw[e,c,s];grind
  ·have e : (1 + q * q) * (F.2 + (b8 false q * R.1 + ce false q * R.2)) = (1 + q * q) * F.2 + (b8 false q * (1 + q * q)) * R.1 + (ce false q * (1 + q * q)) * R.2 := by grind
   rw[e,c,s];grind
theorem Gh(l:Li)(j:Jt)(q:Rat)(b pt b' pt':Int):aq (jp (cI l j b pt) (cI l j b' pt')).1 q=(1+q*q)*(a7 (bn l j q b pt) (bn l j q b' pt')).1/\aq (jp (cI l j b pt) (cI l j b' pt')).2 q=(1+q*q)*(a7 (bn l j q b pt) (bn l j q b' pt')).2:=by
 obtain⟨h1,h2⟩:=MX l j q b pt;obtain⟨h3,h4⟩:=MX l j q b' pt';unfold jp a7;dsimp only;rw[eC,eC,h1,h2,h3,h4];exact⟨by grind,by grind⟩
theorem QC{p:List Rat}(h:gX p=[]){q z:Rat}(hp:aq p q=(1+q*q)*(1+q*q)*z):aq (dvQ p) q=(1+q*q)*z:=by
 have h1:=I3 p q;rw[h]at h1;have h2:aq ([]:List Rat) q=0:=rfl;rw[h2,hp]at h1;have hw:=xu q;have h3:(1+q*q)*(aq (dvQ p) q-(1+q*q)*z)=0:=by grind
 rcases Rat.mul_eq_zero.1 h3 with h4 |h4 <;> grind
theorem Mm(l:Li)(j:Jt)(q:Rat)(b pt b' pt':Int){v:List Rat×List Rat}(hv:v=jp (cI l j b pt) (cI l j b' pt')):aq (dvQ (nK v v)) q=(1+q*q)*dl (a7 (bn l j q b pt) (bn l j q b' pt')):=by
 obtain⟨A1,B1,sh0⟩:=mQ l j b' pt';obtain⟨A2,B2,sh1⟩:=mQ l j b pt;have shd:=tg sh1 sh0;rw[<- hv]at shd;refine QC (Fx shd shd) ?_;obtain⟨h1,h2⟩:=Gh l j q b pt b' pt';rw[<- hv]at h1 h2;unfold nK;rw[eC,kM,kM,h1,h2];unfold dl;grind
theorem aao(l:Li)(j:Jt)(q:Rat)(b pt b' pt' c ct:Int):aq (dvQ (pM (jp (cI l j b pt) (cI l j b' pt')) (jp (cI l j c ct) (cI l j b' pt')))) q=(1+q*q)*od (a7 (bn l j q b pt) (bn l j q b' pt')) (a7 (bn l j q c ct) (bn l j q b' pt')):=by
 obtain⟨A1,B1,sh0⟩:=mQ l j b' pt';obtain⟨A2,B2,sh1⟩:=mQ l j b pt;obtain⟨A3,B3,sh2⟩:=mQ l j c ct;refine QC (Pi (tg sh1 sh0) (tg sh2 sh0)) ?_;obtain⟨h1,h2⟩:=Gh l j q b pt b' pt';obtain⟨h3,h4⟩:=Gh l j q c ct b' pt';unfold pM;rw[eC,kM,kM,h1,h2,h3,h4];unfold od;grind
theorem NB{l:Li}{a:As}{b:Int}{C S X Y:Rat}(hc:jC (llq a.rs) (a.bs.getD b.toNat default).c=(qE C:Et (llq a.rs)))(hs:jC (llq a.rs) (a.bs.getD b.toNat default).s=(qE S:Et (llq a.rs)))
  (hx:jC (llq a.rs) (a.bs.getD b.toNat default).x=(qE X:Et (llq a.rs))) (hy:jC (llq a.rs) (a.bs.getD b.toNat default).y=(qE Y:Et (llq a.rs))) (pt:Int) :
  aC l a b pt=qv (C*(az l b pt).1-S*(az l b pt).2+X,S*(az l b pt).1+C*(az l b pt).2+Y):=by
 rw[ah3];unfold SY;rw[hc,hs,hx,hy];unfold qv;rw[pa,mv,fJ,fJ,pa,pa,fJ,fJ];rfl
theorem Fm{l:Li}{a:As}(h:a.bs.getD 0 default=nZ.pl)(pt:Int):aC l a 0 pt=qv (az l 0 pt):=by
 have h0:a.bs.getD (0:Int).toNat default=nZ.pl:=h
 have e1:jC (llq a.rs) nZ.pl.c=(qE 1:Et (llq a.rs)):=by
  show ai _ (lq ([1].map rt))=_;rw[kQ,show([1]:List Rat)=sh 0 ((1:Rat):Rat) by decide +kernel];exact nF _ _
 have e2:ai (llq a.rs).length (lq (([]:List Rat).map rt))=(qE 0:Et (llq a.rs)):=by
  rw[kQ,show([]:List Rat)=sh 0 ((0:Rat):Rat) by decide +kernel];exact nF _ _
 rw[NB (C:=1) (S:=0) (X:=0) (Y:=0) (by rw[h0];exact e1) (by rw[h0];exact e2) (by rw[h0];exact e2) (by rw[h0];exact e2)];generalize az l 0 pt=m;rw[show(1*m.1-0*m.2+0:Rat)=m.1 by grind,show(0*m.1+1*m.2+0:Rat)=m.2 by grind]
theorem Y5{ts:LL}(C S:Rat)(p O:Rat×Rat):gS (((1:Int):Rat),0) ((qE C,qE S):P2 ts)=qE C/\gP (((1:Int):Rat),0) ((qE C,qE S):P2 ts)=qE S /\
  sR (((1:Int):Rat),0) ((qE C,qE S):P2 ts) p (qv O)=qE (O.1-(C*p.1-S*p.2))/\ug (((1:Int):Rat),0) ((qE C,qE S):P2 ts) p (qv O)=qE (O.2-(S*p.1+C*p.2)):=by
 have hi:(iE (Dt (((1:Int):Rat),0)):Et ts)=qE 1:=by
  show iE (qE (dm (((1:Int):Rat),0) (((1:Int):Rat),0)))=_;rw[show dm (((1:Int):Rat),0) (((1:Int):Rat),0)=1 by decide +kernel];exact PB
 have h1:gS (((1:Int):Rat),0) ((qE C,qE S):P2 ts)=qE C:=by
  unfold gS;rw[hi];dsimp only;rw[<- fJ,<- fJ,<- pa,<- fJ];exact atl qE (by show((1:Rat)*C+0*S)*1=C;grind)
 have h2:gP (((1:Int):Rat),0) ((qE C,qE S):P2 ts)=qE S:=by
  unfold gP;rw[hi];dsimp only;rw[<- fJ,<- fJ,<- mv,<- fJ];exact atl qE (by show((1:Rat)*S-0*C)*1=S;grind)
 refine⟨h1,h2,?_,?_⟩
 ·unfold sR;rw[h1,h2,<- fJ,<- fJ,<- mv];show qE O.1-_=_;rw[<- mv]
 ·unfold ug;rw[h1,h2,<- fJ,<- fJ,<- pa];show qE O.2-_=_;rw[<- mv]
theorem LA{l:Li}(h0:0<l.bo.length):(bi l).as.bs.getD 0 default=nZ.pl:=by
 show(((apf l.bo.length ke).set 0 nZ).map Pq.pl).getD 0 default=_;obtain⟨n,hn⟩:∃n,l.bo.length=n+1:=⟨l.bo.length-1,by omega⟩
 rw[hn];rfl
theorem aah{l:Li}(h0:0<l.bo.length){j:Jt}{dv:Int}(hd:br j dv=0):aN l (bi l).as j dv=qv (az l 0 (aR j dv)):=by
 have h:=LA h0;unfold aN;unfold br at hd;unfold aR
 by_cases e:j.a=dv
 ·rw[ate e]at hd ⊢;rw[ate e,hd];exact Fm h _
 ·rw[atd e]at hd ⊢;rw[atd e,hd];exact Fm h _
theorem acb{l:Li}(h0:0<l.bo.length){j:Jt}{dv:Int}(hd:br j dv=0)(ni:dv≠0){x:Tn}(hf:x.half=false){bs:List Pl}{ms:List Int}(hb:bs.getD dv.toNat default=(tk l (bi l).as dv j x).pl)(pt:Int) :
  aC l ⟨[],bs,ms⟩ dv pt=qv (bn l j x.t.q dv pt):=by
 obtain⟨o1,o2,o3,o4⟩:=Y5 (ts:=[]) (ce false x.t.q) (b8 false x.t.q) (aH l j dv) (az l 0 (aR j dv))
 have hq:tk l (bi l).as dv j x=⟨sX (qE (ce false x.t.q):Et []),sX (qE (b8 false x.t.q):Et []),sX (qE ((az l 0 (aR j dv)).1-(ce false x.t.q*(aH l j dv).1-b8 false x.t.q*(aH l j dv).2)):Et []),sX (qE ((az l 0 (aR j dv)).2-(b8 false x.t.q*(aH l j dv).1+ce false x.t.q*(aH l j dv).2)):Et [])⟩:=by
  unfold tk;rw[aah h0 hd,hf];show(⟨sX (gS (((1:Int):Rat),0) ((qE (ce false x.t.q),qE (b8 false x.t.q)):P2 [])),sX (gP (((1:Int):Rat),0) ((qE (ce false x.t.q),qE (b8 false x.t.q)):P2 [])),sX (sR (((1:Int):Rat),0) ((qE (ce false x.t.q),qE (b8 false x.t.q)):P2 []) (aH l j dv) (qv (az l 0 (aR j dv)))),sX (ug (((1:Int):Rat),0) ((qE (ce false x.t.q),qE (b8 false x.t.q)):P2 []) (aH l j dv) (qv (az l 0 (aR j dv))))⟩:Pq)=_;rw[o1,o2,o3,o4]
 have key:∀q:Rat,ai (llq (As.mk [] bs ms).rs).length (lq ((sX (qE q:Et [])).map rt))=(qE q:Et (llq (As.mk [] bs ms).rs)):=fun q=>by rw[kQ];exact di 0 _
 rw[hq]at hb;rw[NB (C:=ce false x.t.q) (S:=b8 false x.t.q) (by rw[hb];exact key _) (by rw[hb];exact key _) (by rw[hb];exact key _) (by rw[hb];exact key _)];unfold bn x8 a7;rw[atd ni,<- qe];dsimp only;generalize az l dv pt=m;generalize az l dv (dc j dv)=p;generalize az l 0 (aR j dv)=F;generalize ce false x.t.q=C;generalize b8 false x.t.q=S;congr 2 <;> grind
theorem xL{W v:Rat}(h:0<W):a9 (W*v)=a9 v:=by rw[PN,BY h,Int.one_mul]
theorem NW(l:Li)(a:As)(j:Jt)(b:Int):aN l a j b=aC l a (br j b) (aR j b):=by unfold aN br aR;split <;> rfl
theorem ae3{ts:LL}(p q:Rat×Rat):rj (qv p:Et ts×Et ts) (qv q)=qE (od p q):=by
 unfold rj crsE qv od;rw[mv,fJ,fJ]
theorem alm(l:Li)(j:Jt)(q:Rat)(b p p':Int):dm (a7 (bn l j q b p) (bn l j q b p')) (a7 (bn l j q b p) (bn l j q b p'))=dl (a7 (az l b p) (az l b p')):=by
 unfold bn
 by_cases h:b=0
 ·rw[ate h,ate h,h];rfl
 ·rw [atd h, atd h];have h1:=ad6 q;unfold x8 a7 dm dl;dsimp only;generalize az l b p = a;generalize az l b p' = c;generalize az l b (dc j b) = e;generalize az l 0 (aR j b) = f;generalize ce false q = C at h1 ⊢;generalize b8 false q = S at h1 ⊢;have e1:∀ u v:Rat,(C * u - S * v) * (C * u - S * v) + (S * u + C * v) * (S * u + C * v) = (C * C + S * S) * (u * u + v * v):=fun u v=>by grind
  have e2:=e1 (a.1-c.1) (a.2-c.2);rw[h1]at e2;grind
theorem xy{l:Li}(hl:l.ok)(ae:ax l=0){G:List Gr}{j:Jt}{dv:Int}(hp:Pj l G j dv){q:Rat}(hc:Qb 1000 (ce false q))(hs:Qb 1000 (b8 false q)){b pt:Int}(hF:Fd l dv b pt):Sm 9100 (bn l j q b pt):=by
 have m:=bJ hl ae hF.hb hF.hp;unfold bn
 by_cases h:b=0
 ·rw[ate h];rw[h]at m;exact⟨m.x.mono oz,m.y.mono oz⟩
 ·rw [atd h];have e:b = dv:=by rcases hF.hd with h9 | h9; exact atk h9 h; exact h9
  subst e;obtain⟨p1,p2⟩:=hp.sm hl ae;rw[qe];have v:=m.sub p1;exact⟨(p2.x.add ((hc.mul v.x).sub (hs.mul v.y))).mono oz,(p2.y.add ((hs.mul v.x).add (hc.mul v.y))).mono oz⟩
section
variable{l:Li}{dv:Int}{j:Jt}{q:Rat}{a:As}(hG:∀b pt:Int,b=0\/b=dv->aC l a b pt=qv (bn l j q b pt))
include hG
theorem Y7(hl:l.ok)(ae:ax l=0){G:List Gr}(hp:Pj l G j dv)(hc:Qb 1000 (ce false q))(hs:Qb 1000 (b8 false q)){x:Gr}(hx:Lg l dv x):∃v,jS l a x=qE v/\Qb 500000 v/\a9 v=a9 (aq (eT l j x) q):=by
 obtain⟨i,z0,j0,hi,bb,t0⟩:=DS hx.dy hx.nd;have F0:=rC hx ae rfl t0 (ar1 bb);have n0:=xy hl ae hp hc hs F0;obtain⟨o1,o2⟩:=mw ae t0.hj (qk t0);have m0:=bJ hl ae o1 o2;have hw:=xu q;have P0:aN l a j0 i=qv (bn l j q (br j0 i) (aR j0 i)):=by rw[NW];exact hG _ _ F0.hd
 have eB0:cK x 0=i:=aS hi;have eJ0:ba l x 0=j0:=kO bb t0.hj
 by_cases hk:x.kind=1
 ·obtain ⟨k, z1, z2, j1, j2, P⟩:=D0 hx.dy hk hi bb t0.hj;have F1:=rC hx ae rfl P.t1 (ar1 P.y1);have n1:=xy hl ae hp hc hs F1;obtain ⟨o3,o4⟩:=mw ae P.t1.hj (qk P.t1);have m1:=bJ hl ae o3 o4;obtain ⟨o5,o6⟩:=mw ae P.h2 (b:=i) (by rcases P.ti with h9 | h9; exact .inl h9.1; exact .inr h9.1);have m2:=bJ hl ae o5 o6
  have o7:aZ (aR j2 i) (bT l k).length=true:=by
   obtain⟨i1,i2,i3,i4,_⟩:=cJ ae P.h2;have aO:=P.ne;unfold aR;rcases P.ti with⟨h8,h9⟩ |⟨h8,h9⟩
   ·rw[ate h8,<- h9];exact i4
   ·rw[atd (fun h=>aO (h.symm.trans h9)),<- h9];exact i3
  have m3:=bJ hl ae o3 o7;have qr:Qb _ (mf l i j0 j2):=gH (m2.sub m0);have qs:Qb _ (mO l i k j1 j2):=gH (m3.sub m1);have P1:aN l a j1 k=qv (bn l j q (br j1 k) (aR j1 k)):=by rw[NW];exact hG _ _ F1.hd
  have eB1:cK x 1=k:=aS P.b1;have eJ1:ba l x 1=j1:=kO P.y1 P.t1.hj;have eJ2:ba l x 2=j2:=kO P.y2 P.h2;have er:da (aH l j2 i) (aH l j0 i)=mf l i j0 j2:=by rw[<- qe,<- qe];rfl
  have es:da (aH l j2 k) (aH l j1 k)=mO l i k j1 j2:=by
   have e:aR j2 i=dc j2 k:=by
    have aO:=P.ne;unfold aR dc;rcases P.ti with⟨h8,h9⟩ |⟨h8,h9⟩
    ·rw[ate h8,atd (fun h=>aO (h8.symm.trans h))]
    ·rw[atd (fun h=>aO (h.symm.trans h9)),ate h9]
   rw[<- qe,<- qe];unfold mO;rw[e];rfl
  have hg:=Mm l j q (br j1 k) (aR j1 k) (br j0 i) (aR j0 i) rfl
  have ed:dm (a7 (bn l j q (br j0 i) (aR j0 i)) (bn l j q (br j1 k) (aR j1 k))) (a7 (bn l j q (br j0 i) (aR j0 i)) (bn l j q (br j1 k) (aR j1 k)))=dl (a7 (bn l j q (br j1 k) (aR j1 k)) (bn l j q (br j0 i) (aR j0 i))):=by
   unfold dm dl a7;dsimp only;grind
  have qd:=gH (n1.sub n0)
  have hE:jS l a x=qE (4*(mf l i j0 j2*dl (a7 (bn l j q (br j1 k) (aR j1 k)) (bn l j q (br j0 i) (aR j0 i))))-(mf l i j0 j2+dl (a7 (bn l j q (br j1 k) (aR j1 k)) (bn l j q (br j0 i) (aR j0 i)))-mO l i k j1 j2)*(mf l i j0 j2+dl (a7 (bn l j q (br j1 k) (aR j1 k)) (bn l j q (br j0 i) (aR j0 i)))-mO l i k j1 j2)):=by
   unfold jS;rw[atd oz,ate hk,eB0,eB1,eJ0,eJ1,eJ2,er,es,P0,P1,yE,DX,ed];rw[<- fJ,<- fJ,<- pa,<- mv,<- fJ,<- mv]
  refine⟨_,hE,?_,?_⟩
  ·have q4:Qb 3 (4:Rat):=ru;have w:=(qr.add qd).sub qs;exact((q4.mul (qr.mul qd)).sub (w.mul w)).mono oz
  ·rw [P.eE];unfold Dh HX;generalize mf l i j0 j2 = r;generalize mO l i k j1 j2 = s;generalize dl (a7 (bn l j q (br j1 k) (aR j1 k)) (bn l j q (br j0 i) (aR j0 i))) = d at hg ⊢;generalize dvQ (nK (jp (cI l j (br j1 k) (aR j1 k)) (cI l j (br j0 i) (aR j0 i))) (jp (cI l j (br j1 k) (aR j1 k)) (cI l j (br j0 i) (aR j0 i)))) = g at hg ⊢;unfold M2;rw [eC,eC,kM,kM,eC,eC,q5,hg];have e0:aq ([]:List Rat) q = 0:=rfl;have e4:((4:Int):Rat) = 4:=rfl;rw [e0,e4];have e9:0 + 4 * r * ((1 + q * q) * d * (1 + q * q)) + -1 * ((0 + (r - s) * (1 + q * q) + 1 * ((1 + q * q) * d)) * (0 + (r - s) * (1 + q * q) + 1 * ((1 + q * q) * d))) = (1 + q * q) * ((1 + q * q) * (4 * (r * d) - (r + d - s) * (r + d - s))):=by grind
   rw[e9,xL hw,xL hw]
 ·by_cases cg:x.kind=2
  ·obtain ⟨z1, j1, P, ha, eE, eX, eN⟩:=CK hx.dy cg hi bb t0.hj;obtain ⟨i1,i2,i3,i4,i5⟩:=cJ ae P.t1.hj;have i5:=i5 (by rw [P.t1.kd]; decide);have pz:=(hx.an z1 (ar1 P.y1) j1 P.t1.hj).2 (by rcases P.t1.tie with h9 | h9; exact h9.2; exact atk (ha ▸ ar1 hi) h9.2);have F1:Fd l dv j1.b j1.on:=⟨i2,i4,pz⟩
   have F2:Fd l dv j1.b j1.to:=⟨i2,i5,pz⟩
   have n1:=xy hl ae hp hc hs F1;have n2:=xy hl ae hp hc hs F2;have m1:=bJ hl ae i2 i4;have m2:=bJ hl ae i2 i5;rw[ha]at i1 i3;have m3:=bJ hl ae i1 i3;have qm:Qb _ (pC l j1):=gH (m2.sub m1);have qr:Qb _ (o9 l i j0 j1):=gH (m3.sub m0);have qc:=(n2.sub n1).cross (n0.sub n1);have Q1:=hG j1.b j1.on pz;have Q2:=hG j1.b j1.to pz;have eJ1:ba l x 1=j1:=kO P.y1 P.t1.hj;have er:da (az l i j1.point) (aH l j0 i)=o9 l i j0 j1:=by rw[<- qe];rfl
   have hg:=aao l j q j1.b j1.to j1.b j1.on (br j0 i) (aR j0 i)
   have hE:jS l a x=qE (pC l j1*o9 l i j0 j1-od (a7 (bn l j q j1.b j1.to) (bn l j q j1.b j1.on)) (a7 (bn l j q (br j0 i) (aR j0 i)) (bn l j q j1.b j1.on))*od (a7 (bn l j q j1.b j1.to) (bn l j q j1.b j1.on)) (a7 (bn l j q (br j0 i) (aR j0 i)) (bn l j q j1.b j1.on))):=by
    unfold jS;rw[atd oz,atd hk,ate cg,eB0,eJ0,eJ1,P0,Q1,Q2,yE,yE,DX,ae3,alm,er,<- fJ,<- fJ,<- mv];rfl
   refine⟨_,hE,((qm.mul qr).sub (qc.mul qc)).mono oz,?_⟩;rw[eE];unfold AR;rw[eC,eC,kM,kM,q5];unfold FY;rw[hg];generalize pC l j1=m;generalize o9 l i j0 j1=r;generalize od (a7 (bn l j q j1.b j1.to) (bn l j q j1.b j1.on)) (a7 (bn l j q (br j0 i) (aR j0 i)) (bn l j q j1.b j1.on))=c;have e0:aq ([]:List Rat) q=0:=rfl;rw[e0];have e9:0+m*r*((1+q*q)*(1+q*q))+-1*((1+q*q)*c*((1+q*q)*c))=(1+q*q)*((1+q*q)*(m*r-c*c)):=by grind
   rw[e9,xL hw,xL hw]
  ·obtain ⟨z1, j1, P, ha, eE, eX, eN⟩:=BA hx.dy hx.nd hk cg hi bb t0.hj;obtain ⟨i1,i2,i3,i4,i5⟩:=cJ ae P.t1.hj;have i5:=i5 (by rw [P.t1.kd]; decide);have sN:=(hx.an z1 (ar1 P.y1) j1 P.t1.hj).1 (by rcases P.t1.tie with h9 | h9; exact atk h9.1 ha; exact h9.2);have hb:j1.b = i:=by rcases P.t1.tie with h9 | h9; exact atk h9.1 ha; exact h9.1
   have F1:Fd l dv j1.a j1.point:=⟨i1,i3,sN⟩
   have n1:=xy hl ae hp hc hs F1;rw[hb]at i2 i4 i5;have m1:=bJ hl ae i2 i4;have m2:=bJ hl ae i2 i5;have vv:Sm 2001 (j8 l i j1):=m2.sub m1;have vu:Sm 2001 (zj l i j0 j1):=m1.sub m0;have qv9:=gH vv;have qh:Qb _ (tU l i j0 j1):=vv.cross vu;have qd:=gH (n1.sub n0);have Q1:=hG j1.a j1.point sN;have eJ1:ba l x 1=j1:=kO P.y1 P.t1.hj;have en:kL l i j1=dl (j8 l i j1):=rfl;have eh:ep l i j0 j1=tU l i j0 j1:=by unfold ep;rw[<- qe];rfl
   have hg:=Mm l j q j1.a j1.point (br j0 i) (aR j0 i) rfl;have ed:dm (a7 (bn l j q j1.a j1.point) (bn l j q (br j0 i) (aR j0 i))) (a7 (bn l j q j1.a j1.point) (bn l j q (br j0 i) (aR j0 i)))=dl (a7 (bn l j q j1.a j1.point) (bn l j q (br j0 i) (aR j0 i))):=rfl
   have hE:jS l a x=qE (dl (j8 l i j1)*dl (a7 (bn l j q j1.a j1.point) (bn l j q (br j0 i) (aR j0 i)))-tU l i j0 j1*tU l i j0 j1):=by
    unfold jS;rw[atd hx.nd,atd hk,atd cg,eB0,eJ0,eJ1];unfold fU d6;rw[P0,Q1,yE,DX,en,eh,ed,<- fJ,<- fJ,<- mv]
   refine⟨_,hE,((qv9.mul qd).sub (qh.mul qh)).mono oz,?_⟩;rw[eE];unfold AO FR;rw[eC,eC,eC,hg,q5];generalize dl (a7 (bn l j q j1.a j1.point) (bn l j q (br j0 i) (aR j0 i)))=d;generalize dl (j8 l i j1)=n;generalize tU l i j0 j1=h;have e0:aq ([]:List Rat) q=0:=rfl;rw[e0];have e9:0+n*((1+q*q)*d)+-1*(0+h*h*(1+q*q))=(1+q*q)*(n*d-h*h):=by grind
   rw[e9,xL hw]
end
def rG(l:Li)(x:Tn):Pq:=tk l (bi l).as (cf l (ay l)) (gU l (ay l)) x
def mi(l:Li)(x:Tn):Aq:=⟨[],(bi l).bs.set (cf l (ay l)).toNat (rG l x),[]⟩
structure Vd(l:Li)(x:Tn):Prop where
  hl:l.ok
  e:dR l=0
  cs:Cs 32 l
  xo:x.t.ok
  xe:x.err=0
  xq:Qb 32 x.t.q
  xf:x.half=false
  bl:l.bo.length<=6
theorem aal{l:Li}(h:ir l=true):l.bo.length<=6:=by
 unfold ir at h;rw[ar5]at h;have h1:=el h.1;unfold wi at h1;cases h3:aa .gtr (l.bo.length:Int) 6
 ·exact kl (b:=6) h3
 ·rw[h3]at h1;cases h1
theorem afp{l:Li}{x:Tn}(hw:l.okw)(hx:x.t.wok)(hv:xp l x=true)(hf:x.half=false):Vd l x:=by
 unfold xp at hv;rw[ar5]at hv;have h1:=el hv.1;have he:dR l=0:=by have:=dJ hv.2;omega
 unfold yr at h1
 have xc:x.err=0:=by
  cases h9:aa .neq (x.err:Int) 0
  ·exact wK h9
  ·rw[h9]at h1
   revert h1
   cases cond (cond (!ir l) true (!mP x)) true (aa .neq (ax l:Int) 0) <;> intro h1 <;> cases h1
 have hs:ir l=true:=by
  cases h9:ir l
  ·rw[h9]at h1;cases h1
  ·rfl
 have hh:mP x=true:=by
  cases h9:mP x
  ·rw[h9,hs]at h1;cases h1
  ·rfl
 obtain⟨a,b⟩:=On hh;have AE:x.t.ok:=hx.ok a b oz;have hl:=LF hw hs;refine⟨hl,he,fun bd hb m hm=>?_,AE,xc,(Rt.qb AE (k:=1) oz a b).mono oz,hf,aal hs⟩;unfold ir at hs;rw[ar5,ar5,asd]at hs;have h3:=hs.2.1 bd hb;unfold n6 at h3;rw[ar5,asd]at h3;obtain⟨c1,c2,c3,c4⟩:=Th (h3.2 m hm);have ho:=(hl.bo bd hb).pts m hm;exact⟨(Rt.qb ho.x (k:=1) oz c1 c2).mono oz,(Rt.qb ho.y (k:=1) oz c3 c4).mono oz⟩
theorem VS{l:Li}{j r E:Nat}{a b:Aq}(h:QInv l j r E a)(h1:b.ts=a.ts)(h2:b.bs=a.bs):QInv l j r E b:=by
 cases a;cases b
 cases h1;cases h2
 exact⟨h.tw,h.lv,h.bs,h.ln⟩
section
variable{l:Li}{x:Tn}(V:Vd l x)
include V
theorem Vd.p:ExP l:=Iz V.e
theorem Vd.s0:Sg0 l:=yp V.p.li V.p.dr V.p.si
theorem Vd.wk:WkC l [x] 32 134:=by
 refine⟨V.hl,V.p.li,V.p.sp,V.cs,by rw[V.p.dr];rfl,fun y hy=>?_⟩;rw[aqf.1 hy];exact⟨V.xo,V.xe,V.xq.mono oz,Cb.one (Ck V.xq),Cb.one (Bn V.xq)⟩
theorem Vd.g0:∃z d,(ay l)[0]?=some ⟨0,[cf l (ay l)],[z],d⟩/\TieO l 0 [cf l (ay l)] z (cf l (ay l)) (gU l (ay l))/\d=0/\GrOk l ⟨0,[cf l (ay l)],[z],d⟩:=by
 have P:=V.p;have hs:=P.si;unfold fN at hs;simp only[ar5,atf]at hs;obtain⟨⟨h1,h2⟩,h3⟩:=hs;have hg:=oa (l:=ay l) (i:=0) (d:=default) oz;obtain⟨g,eg⟩:∃g,g=(ay l).getD 0 default:=⟨_,rfl⟩
 rw[<- eg]at hg h2;obtain⟨oA,bm⟩:=kF P.li (ar1 hg);obtain⟨b,z,d,j,y,rfl,t,d0,gn,hb⟩:=C3 oA h2;have e1:cf l (ay l)=b:=by unfold cf;rw[<- eg];rfl
 have e2:gU l (ay l)=j:=by unfold gU;rw[<- eg];exact aS t.hj
 rw[e1,e2];refine⟨z,d,hg,t,?_,bm⟩;have qM:=(ap9.1 gn).1;have:=P.dr;omega
theorem Vd.dv:0<cf l (ay l)/\(cf l (ay l)).toNat<l.bo.length/\br (gU l (ay l)) (cf l (ay l))=0:=by
 obtain⟨z,d,hg,t,hd,ok⟩:=V.g0;have hb:=ok.b (cf l (ay l)) (by simp);have j6:=V.s0.pj.o
 have h9:cf l (ay l)≠0:=by
  intro h0;unfold br at j6;rcases t.tie with⟨a1,a2⟩ |⟨a1,a2⟩
  ·rw[ate a1]at j6;exact a2 (by rw[j6,h0];simp)
  ·by_cases e:(gU l (ay l)).a=cf l (ay l)
   ·exact a2 (by rw[e];simp)
   ·rw[atd e]at j6;exact e (by rw[j6,h0])
 exact⟨by omega,by omega,j6⟩
theorem Vd.a1:QInv l 0 0 (p8 32 134 0 0 2) (mi l x):=by
 obtain⟨z,d,hg,t,hd,ok⟩:=V.g0
 have h:=QInv.drv V.wk hg (Jj l) Qw rfl ⟨[],[rG l x],1⟩ (by
  unfold w6;rw[ate rfl];have ex:pZ ⟨0,[cf l (ay l)],[z],d⟩ [x]=x:=by unfold pZ;rw[ate rfl,hd];rfl
  have ej:ba l ⟨0,[cf l (ay l)],[z],d⟩ 0=gU l (ay l):=aS t.hj;rw[ex,ej];unfold Bu;rw[atd (by rw[V.xe];decide)];exact aqf.2 rfl)
 exact VS h rfl (by show(bi l).bs.set _ _=Bi (bi l).bs [cf l (ay l)] [rG l x];rfl)
theorem Vd.pl(b pt:Int)(hb:b=0\/b=cf l (ay l)):aC l (mi l x).as b pt=qv (bn l (gU l (ay l)) x.t.q b pt):=by
 obtain⟨d1,d2,d3⟩:=V.dv;have cm:0<l.bo.length:=by omega
 have j4:∀n,(mi l x).as.bs.getD n default=((((bi l).bs.set (cf l (ay l)).toNat (rG l x))[n]?).map Pq.pl).getD default:=fun n=>by
  show(List.map Pq.pl _).getD n default=_;rw[ar2,asa];rfl
 rcases hb with rfl |rfl
 ·have h:(mi l x).as.bs.getD 0 default=nZ.pl:=by
   rw[j4,List.getElem?_set_ne oz];have h9:=LA cm;rw[ar2]at h9;show((((bi l).bs)[0]?).map Pq.pl).getD default=_;rw[<- asa];exact h9
  rw[Fm h];unfold bn;rw[ate rfl]
 ·have hl9:(cf l (ay l)).toNat<(bi l).bs.length:=by
   show _<((apf l.bo.length ke).set 0 nZ).length;rw[as9,asr];exact d2
  have h:(mi l x).as.bs.getD (cf l (ay l)).toNat default=(rG l x).pl:=by
   rw[j4,List.getElem?_set_self hl9];rfl
  exact acb cm d3 oz V.xf (bs:=(mi l x).as.bs) (ms:=[]) h pt
theorem Vd.rad{k:Nat}{g:Gr}(hg:(ay l)[k+1]?=some g):∃v:Rat,FP 21 [l.av,i64 ((k:Int)+1),(mi l x).av] (.tup [nA (sh 0 (v:Rat)),.v .nilIface])/\Qb 500000 v/\a9 v=a9 (aq (eT l (gU l (ay l)) g) x.t.q):=by
 have P:=V.p;have W:=V.wk;have Q:=V.a1;have hx:=DY P.li P.sp P.dr P.si hg;obtain⟨⟨hE,hr,hj⟩,ok1⟩:=O0 Qw;obtain⟨⟨_,hE1,_,_,_⟩,_⟩:=PX ok1;have hc:Qb 1000 (ce false x.t.q):=(Ck V.xq).mono oz;have hs:Qb 1000 (b8 false x.t.q):=(Bn V.xq).mono oz;obtain⟨v,hv,hb,sH⟩:=Y7 (fun b pt h=>V.pl b pt h) V.hl P.li V.s0.pj hc hs hx;refine⟨v,?_,hb,sH⟩;have sL:nD l ((k+1:Nat):Int)=g:=aS hg;have h:=ad9 l V.hl ((k+1:Nat):Int) (mi l x).as (Q.ab P.li oz oz) (QInv.dyS W hg Q oz oz).toDyS (Q.sma oz hE1 _ false);rw[Q.dy0 P.li P.sp hg false,ate rfl,sL,(mi l x).as_av]at h;unfold u7 at h;rw[atd hx.nd,hv,vQ]at h;exact h
end
theorem ah5:Tw [] 1 where
 three:=by decide
 len:=fun j hj=>atk hj (Nat.not_lt_zero j)
 pos:=fun j hj=>atk hj (Nat.not_lt_zero j)
 rb:=⟨1,1,by omega,fun d hd=>atk hd asf,by decide,by decide⟩
 le:=by decide
theorem Xd{v:Rat}(hb:Qb 500000 v):FP 22 [.agg [.lst 1 []],nA (sh 0 (v:Rat))] (.tup [i64 (a9 v),.v .nilIface]):=by
 have h:=Sy ah5 (a:=sh 0 (v:Rat)) (e:=500000) (Nm.ofQ (by decide) (Cb.one hb)) (by show 500000<=200000000000;omega);have e:ai ([]:LL).length (sh 0 (v:Rat))=v:=nF 0 v;rw[e]at h;exact h
theorem XV:jN (.agg [nS,nS,nS,nS]) ke.av:=by
 refine⟨rfl,?_⟩;intro j x y hx hy
 match j,hx,hy with
 |0,hx,hy=>cases hx;cases hy;exact⟨rfl,.nil _ _ _⟩
 |1,hx,hy=>cases hx;cases hy;exact⟨rfl,.nil _ _ _⟩
 |2,hx,hy=>cases hx;cases hy;exact⟨rfl,.nil _ _ _⟩
 |3,hx,hy=>cases hx;cases hy;exact⟨rfl,.nil _ _ _⟩
theorem Wo(n:Nat):BlkSub (.row 4 (apf n (.agg [nS,nS,nS,nS]))) (.row 4 ((apf n ke).map Pq.av)):=by
 refine .row (by simp) ?_;intro i e e' he he';rw[as5,ast]at he';rw[ast]at he;split at he
 ·rename_i h;rw[ate h]at he';cases he;cases he'
  exact XV
 ·cases he
theorem Zv:nZ.av=.agg [nA (sh 0 (((1:Int):Rat):Rat)),nA [],nA [],nA []]:=by
 have h:sh 0 (((1:Int):Rat):Rat)=[1]:=by decide +kernel
 rw[h];rfl
abbrev R4(l:Li):Hp:=[pP 900 (.row 4 ((bi l).bs.map Pq.av))]
abbrev Vg(n:Nat):AV:=.agg [.lst 1 [],.ms 900 4 0 n,.lst 1 []]
theorem RU(l:Li):(bi l).bs.length=l.bo.length:=by
 show((apf l.bo.length ke).set 0 nZ).length=_;rw[as9,asr]
theorem ad1{l:Li}{x:Tn}{b:Int}(h:b=cf l (ay l)):AV.fz 900 4 (((bi l).bs.map Pq.av).set (0+b.toNat) (rG l x).av) (.ms 900 4 0 l.bo.length)=.lst 4 ((mi l x).bs.map Pq.av):=by
 rw[cq (by rw[as9,ar3,RU]),aoj,h];unfold mi;rw[as7]
theorem al1{e k:Nat}{p:List Rat}{q:Rat}(hp:Po e p)(hq:Qb k q)(h:31*(e+k+4)<=1000000000000):Qs (aq p q) :=
 ((Mw hp.b hq 0 (ase _)).mono (f:=31*(e+k+4)) (by have h9:=hp.len;have h8:=asl (e+k+4) h9;rw[Nat.sub_zero];omega)).qs oz
theorem aaj{a b:Bool}(h:cond (cond (!a) true b) true (!true)=false):a=true/\b=false:=by cases a <;> cases b <;> simp_all
theorem ahn{l:Li}(he:dR l=0){i:Nat}{p:List Rat}(h:(dH l)[i]?=some p):∃g,(ay l)[i+1]?=some g/\p=eT l (gU l (ay l)) g:=by
 unfold dH at h;rw[ate he,asa]at h;cases h1:(ay l).tail[i]? with
 |none=>rw[h1]at h;cases h
 |some g=>rw[h1]at h;cases h;rw[ap6]at h1;exact⟨g,h1,rfl⟩
theorem aek{l:Li}(he:dR l=0)(h0:0<(ay l).length):(ay l).length=(dH l).length+1:=by
 unfold dH;rw[ate he,ar3,aqg];omega
theorem ac5(anq:∀(l:Li)(x:Tn),Vd l x->Con prog 20 [l.av,i64 0,x.av,Vg l.bo.length] (R4 l) (.tup [.lst 3 [(Sv.mk [] [rG l x] 1).av],bQ 0]) (R4 l))(E2:FP 7 [] (bl true))(l:Li)(hw:l.okw)(x:Tn)(hx:x.t.wok):FP 5 [l.av,x.av] (bl true):=by
 refine am func5 ?_;refine gc (XB l hw x hx) ?_;refine bV (fun _=>E2) ?_;refine gC (fun z=>?_) (fun z=>?_)
 ·refine gc E2 ?_;refine ah ?_
  first |rfl |(simp;done)
 obtain⟨hv,hf⟩:=aaj z;have V:=afp hw hx hv hf;have P:=V.p;have hR:=adc l V.hl;rw[V.e]at hR;have AF:=Ch l V.hl;rw[ate P.li,ate P.li,P.sp]at AF;have hb6:=V.bl;obtain⟨d1,d2,d3⟩:=V.dv;have AC:=aek V.e V.s0.ne;obtain⟨e1,e2⟩:=MS l;obtain⟨y,hy,US⟩:=V.s0.dr;have hc:=ac2 V.xo V.xe;refine gc hR ?_;refine gc AF ?_;refine gl ?_;refine gs (it (.tmp rfl) T56 rfl T66 rfl rfl oz (by dsimp only;omega) rfl) ?_ (6,0);refine gW (Wk.of (sl:=[pP 2 (.ptr 2 0),pP 3 (.ptr 3 0),pP 5 (.lst 1 ((dH l).map nA)),pP 7 (.v .nilIface),pP 8 (.lst 4 ((ay l).map Gr.av)),pP 9 (.v .nilIface),pP 10 (.ptr 10 0)]) (hp:=[pP 2 (.box l.av.cells),pP 3 (.box x.av.cells),pP 10 (.box [nS,.ms 48 4 0 l.bo.length,nS]),pP 48 (.row 4 ((apf l.bo.length ke).map Pq.av))]) a6 (.k (.k (.k (.cons rfl (Wo _) .nil))))) ?_
 refine gc (kW 1 oz) ?_;refine gc (sT (q:=((1:Int):Rat)) (Qb.one.qs oz)) ?_;refine gs (bI (n:=0) (.tmp rfl) (.const _) T56 rfl T66 rfl oz oz rfl) ?_ (6,7);refine gs (El (e:=ke.av) (e':=.agg [nA (sh 0 (((1:Int):Rat):Rat)),nA [],nA [],nA []]) (.tmp rfl) rfl (by rw[asa,ast,ate oz];rfl) (.tmp rfl) rfl rfl T62 rfl rfl rfl) ?_;refine gD ?_ (7,0);refine gW (Wk.of (sl:=[pP 2 (.ptr 2 0),pP 3 (.ptr 3 0),pP 5 (.lst 1 ((dH l).map nA)),pP 7 (.v .nilIface),pP 8 (.lst 4 ((ay l).map Gr.av)),pP 9 (.v .nilIface),pP 10 (.ptr 10 0)]) (hp:=[pP 2 (.box l.av.cells),pP 3 (.box x.av.cells),pP 10 (.box [.lst 1 [],.ms 48 4 0 l.bo.length,.lst 1 []]),pP 48 (.row 4 ((bi l).bs.map Pq.av))]) a6 (.k (.k (.cons rfl (BlkSub.bL (.cons (Sub.nil _ _ _) (.cons (.refl _) (.cons (Sub.nil _ _ _) .nil))) rfl) (.cons rfl (.of (by unfold bi;rw[as7,Zv])) .nil))))) ?_ (7,0)
 refine gW (Wk.rk (k:=48) (d:=900) rfl rfl) ?_;refine gt (aX (anq l x V) (.cons (.tmp rfl) (.cons (.const _) (b9 rfl rfl))) rfl rfl rfl) ?_;refine geG (fun _=>rfl) ?_;refine nJ (fun _=>rfl) ?_;refine cG ?_;refine cG ?_;refine cG ?_;refine kG (fun _=>aL) ?_;refine gC (fun z=>?_) (fun z=>?_) (st1:=(9,0))
 ·revert z;rw[AC];simp[aa,show fc (ja 0)=true from rfl,show fc Value.nilIface=true from rfl]
 skip
 obtain⟨o,ho⟩:=aJ (l:=(bi l).bs) (i:=(cf l (ay l)).toNat) (by rw[RU];exact d2);refine gi (aw hy) ?_;refine gi rfl ?_;refine gi rfl ?_;refine gs (mL (.tmp rfl) (.tmp rfl) T56 rfl T66 rfl oz oz rfl) ?_;refine gs (dS (.tmp rfl) rfl (by rw[aoj,US,asa,ho];rfl) rfl (.tmp rfl) rfl rfl T66 rfl rfl) ?_;refine gD ?_ (11,0);refine gW ((Wk.freeze (k:=900) rfl).trans<|Wk.of (sl:=[pP 2 (.ptr 2 0),pP 3 (.ptr 3 0),pP 5 (.lst 1 ((dH l).map nA)),pP 10 (.ptr 10 0)]) (hp:=[pP 2 (.box l.av.cells),pP 3 (.box x.av.cells),pP 10 (.box (mi l x).cs)]) a6 (.k (.k (.cons rfl (BlkSub.bL (.cons (.refl _) (.cons (.of (ad1 US)) (.cons (.refl _) .nil))) rfl) .nil)))) ?_;refine gl ?_;refine aP [2,3,10,108,109] [2,3,10] (fun(i:Nat)=>[pP 110 (i64 i)]) (fun _=>[]) (fun i=>i<=(dH l).length) (fun i=>(dH l).length-i) 0 (ase _) ?_;rintro i hi K1 J1;refine gC (fun z=>?_) (fun z=>?_)
 ·have af:=aT z;obtain ⟨p,hp⟩:=aJ af;obtain ⟨g,hg,hpg⟩:=ahn V.e hp;obtain ⟨v,hvr,EP,cV⟩:=V.rad hg;rw [<- hpg] at cV;have uJ:=ab1 V.hl (ar1 hp);have dC:=aex uJ V.xq oz;have ph:=al1 uJ V.xq oz;have exq:qA x.t.q = x.t.av:=by have h9:x.t = rt x.t.q:=atl Tn.t hc; exact (atl Rt.av h9).symm
  rw[exq]at dC;refine gi (aw hp) ?_;refine ga (show _=(i:Int)+1 from dx oz) ?_;refine gc hvr ?_;refine gf ?_;refine gc (Xd EP) ?_;refine gc dC ?_;refine bV (fun _=>(wR ph)) ?_;refine gC (fun z=>?_) (fun z=>?_) (st1:=(20,0))
  ·revert z;rw[cV];simp[aa,show fc Value.nilIface=true from rfl]
  refine ga aL ?_;exact aM J1 (i+1) af
 refine ah ?_
 first |rfl |(simp;done)
section
variable{P:atq}{N:Nat}{R:Array Oper}{s:AS}{pos:String}{after:Array Edge}
theorem tj{d f k k2:Nat}{bx bx2:Blk}{args:Array atn}{ts:Array atp}{xs:List AV}{r:AV}{t:atp}
  (dh:Con P f xs [(k,some bx),(k2,some bx2)] r [(k,some bx),(k2,some bx2)]) (ha:EvL s args.toList xs) (aO:ao6 k2 k=false) (hk:s.blk k=some bx) (cg:s.blk k2=some bx2)
  (bm:g9 s [(k,some bx),(k2,some bx2)] [(k,some bx),(k2,some bx2)] r=true) (hN:aob d N=true) :
  Step P N R s ⟨some d,.call ⟨.value (.func f),args,ts⟩,t,pos,after,none⟩ ⟨some r,[],dk args.toList,[k,k2]⟩:=by
 have an2:k2≠k:=fun e=>by rw[e,apc]at aO;cases aO
 refine Step.weaken (aG (d:=d) dh ha (fun k' z h=>by
  rcases qV h with⟨rfl,h9⟩ |⟨_,rfl,h9⟩
  ·cases h9;exact hk
  ·cases h9;exact cg) bm hN) (fun s' h=>h) (fun s' h k' hk'=>?_) (fun s' h=>?_)
 ·left;simp only[asz,cU,atb,map_nil,ar9,asj,asf,or_false]at hk' ⊢;rcases hk' with h9 |h9 <;> exact h9
 ·intro C m a w hr;refine ⟨m,hr.weak (fun t x hx=>⟨x,hx,.refl _⟩) (fun k' x hx=>⟨x,?_,.refl _⟩)⟩;have hb:lk s'.hp k = some bx:=(h.2 k (by simp)).trans hk;have bg:lk s'.hp k2 = some bx2:=(h.2 k2 (by simp)).trans cg;show lk ([(k,some bx),(k2,some bx2)] ++ cU [(k,some bx),(k2,some bx2)] ++ s'.hp) k' = some x;have hx':lk s'.hp k' = some x:=hx;simp only [cU,atb,map_nil,cons_append,nil_append,aE]
  by_cases e:k'=k
  ·rw[ate e];rw[e,hb]at hx';exact hx'
  ·rw[atd e]
   by_cases e2:k'=k2
   ·rw[ate e2];rw[e2,bg]at hx';exact hx'
   ·rw[atd e2,atd e,atd e2];exact hx'
end
theorem AL{k k0:Nat}{x y:Option Blk}{z:Blk}(h0:1000<=k0)(h:lk [(1000,x),(k0,y)] k=some z):1000<=k:=by
 rw[aE]at h;split at h
 ·omega
 ·rw[aE]at h;split at h
  ·omega
  ·cases h
abbrev xX(l:Li)(g:Gr):Blk:=.box [.v (.string l.name),.lst 2 (l.bo.map Bd.av),.lst 7 (l.jo.map Jt.av),.lst 2 (l.drivers.map Dr.av),i64 g.kind,.lst 1 (g.bo.map i64),.lst 1 (g.jo.map i64),i64 g.driver,
  .lst 1 [],.ms 1001 4 0 l.bo.length,.lst 1 [],.v .nilIface]
abbrev rv(l:Li):Blk:=.row 4 ((bi l).bs.map Pq.av)
abbrev rh(l:Li)(g:Gr):Hp:=[pP 1000 (xX l g),pP 1001 (rv l)]
theorem HY{l:Li}(hl:l.ok)(ae:ax l=0)(g:Gr){body pt:Int}(h1:aZ body l.bo.length=true)(h2:aZ pt (bT l body).length=true) :
  Con prog 147 [.ptr 1000 0,i64 body,i64 pt] (rh l g) (qP (az l body pt)) (rh l g):=by
 obtain⟨n,k,bd,m,mp⟩:=tN hl ae h1 h2;rw[Cz mp];have hn:=mp.hn;have hk:=mp.hk;have eY:=hl.lb;subst hn;subst hk;refine gF func147 (fun k z h=>AL oz h) ?_;refine gi (aw mp.gbd) ?_;refine gi (aw mp.gm) ?_;refine gR ?_;exact aD.keep (tp rfl rfl)
theorem KQ{l:Li}(hl:l.ok)(ae:ax l=0)(g:Gr)(al:AB (bi l).as)(qU:l.bo.length<=100){body pt:Int}(h1:aZ body l.bo.length=true)(h2:aZ pt (bT l body).length=true)(hb:Pd 2 (bi l).as body) :
  Con prog 148 [.ptr 1000 0,i64 body,i64 pt] (rh l g) (aQ (sX (aC l (bi l).as body pt).1) (sX (aC l (bi l).as body pt).2)) (rh l g):=by
 have hc:bp (bi l).as.rs=0:=by show bp []=0;decide
 obtain⟨n,k,bd,m,b,hp⟩:=zi hl ae al hc h1 h2 hb;obtain⟨tw,Kd⟩:=jn al.tr hc;have nh:lm (llq (bi l).as.rs).length=200000000000:=rfl
 have kb:kB 400000000 (llq (bi l).as.rs).length<=1200000006:=by
  have h9:=o8 400000000 (show(llq (bi l).as.rs).length<=2 from ase _);have h8:eB 400000000 2=1200000006:=by decide
  show eB 400000000 _<=_;omega
 have eY:=hl.lb;have fA:=HY hl ae g h1 h2;have hn:=hp.mp.hn
 have mc:FP 252 [dN (bi l).as.rs,b.av,m.x.av,m.y.av] (.tup [aQ (sh (llq (bi l).as.rs).length (oX (llq (bi l).as.rs) b m).1) (sh (llq (bi l).as.rs).length (oX (llq (bi l).as.rs) b m).2),.v .nilIface]):=by
  rw[Kd,hp.av,hp.mp.ex,hp.mp.ey];have h9:=O3 tw (hp.ok.c.mono (f:=2+1000) oz) (hp.ok.s.mono oz) (hp.ok.x.mono oz) (hp.ok.y.mono oz) (hp.mp.sm.x.mono (f:=2+1000) oz) (hp.mp.sm.y.mono (f:=2+1000) oz) oz;unfold oX;rw[hp.mp.ex,hp.mp.ey,bE,bE];exact h9
 have UT:((bi l).bs.map Pq.av)[n]?=some b.av:=by
  have h9:((bi l).bs.map Pq.pl)[n]?=some b:=hp.gb;rw[asa]at h9 ⊢;cases h8:(bi l).bs[n]? with
  |none=>rw[h8]at h9;cases h9
  |some p=>rw[h8]at h9;cases h9;exact atl some p.pl_av.symm
 have cT:n<l.bo.length:=by have h9:=(ap9.1 UT).1;rw[ar3]at h9;have:(bi l).bs.length=l.bo.length:=(by simp[bi]);omega
 show Con prog _ _ _ (aQ (sh (llq (bi l).as.rs).length (uq l (bi l).as body pt).1) (sh (llq (bi l).as.rs).length (uq l (bi l).as body pt).2)) _;rw[hp.eq];rw[Cz hp.mp]at fA;subst hn;refine gF func148 (fun k z h=>AL oz h) ?_;refine gt (tj fA (aB rfl rfl rfl) rfl rfl rfl rfl rfl) ?_;refine gs (mL (.tmp rfl) (.tmp rfl) T56 rfl T66 rfl oz oz rfl) ?_ (2,13);refine gs (dt (e:=b.av) (.tmp rfl) rfl (by rw[aoj];exact UT) T66 rfl rfl rfl) ?_;refine gc mc ?_;refine gD ?_;refine gC (fun y=>?_) (fun y=>?_) (st2:=(77777,0))
 ·refine gR ?_;exact aD.keep (tp rfl rfl)
 cases y
theorem adj{l:Li}(hl:l.ok)(ae:ax l=0)(g:Gr)(hg:GrOk l g)(al:AB (bi l).as)(qU:l.bo.length<=100){k:Nat}{z b:Int}{j:Jt}(hz:g.jo[k]?=some z)(hj:l.jo[z.toNat]?=some j)(h:PinP 2 l (bi l).as j b) :
  Con prog 128 [.ptr 1000 0,i64 k,i64 b] (rh l g) (.tup [qP (aH l j b),aQ (sX (aN l (bi l).as j b).1) (sX (aN l (bi l).as j b).2)]) (rh l g):=by
 obtain⟨z0,z1⟩:=hg.j z (ar1 hz);obtain⟨i1,i2,i3,i4,_⟩:=cJ ae hj;have uG:=hg.lj;have md:=hl.lj;refine gF func128 (fun k z h=>AL oz h) ?_;refine gi (aw hz) ?_;refine gi (eI (n:=z.toNat) oz hj) ?_;refine gD ?_;refine gC (fun y=>?_) (fun y=>?_)
 ·have e:j.a = b:=dJ y;have hb:Pd 2 (bi l).as j.b:=by rcases h.tie with h9 | h9; exact h9.2; exact atk e h9.1
  have eq1:aH l j b=az l b j.point:=ate e;have eq2:aN l (bi l).as j b=aC l (bi l).as j.b j.on:=ate e;rw[eq1,eq2];subst e;refine gt (tj (HY hl ae g i1 i3) (aB rfl rfl rfl) rfl rfl rfl rfl rfl) ?_;refine gt (tj (KQ hl ae g al qU i2 i4 hb) (aB rfl rfl rfl) rfl rfl rfl rfl rfl) ?_;refine gD ?_;refine gR ?_;exact aD.keep (tp rfl rfl)
 have e:j.a≠b:=du y;have e2:j.b=b/\Pd 2 (bi l).as j.a:=by rcases h.tie with h9 |h9;exact atk h9.1 e;exact h9.2
 have eq1:aH l j b=az l b j.on:=atd e;have eq2:aN l (bi l).as j b=aC l (bi l).as j.a j.point:=atd e;rw[eq1,eq2];obtain⟨e2,hb⟩:=e2;subst e2;refine gt (tj (HY hl ae g i2 i4) (aB rfl rfl rfl) rfl rfl rfl rfl rfl) ?_;refine gt (tj (KQ hl ae g al qU i1 i3 hb) (aB rfl rfl rfl) rfl rfl rfl rfl rfl) ?_;refine gD ?_;refine gR ?_;exact aD.keep (tp rfl rfl)
theorem U3{l:Li}(D:DyW l (bi l).as)(qU:l.bo.length<=100){i z0 d:Int}{j0:Jt}(hg:GrOk l ⟨0,[i],[z0],d⟩)(h0:l.jo[z0.toNat]?=some j0)(p0:PinP 2 l (bi l).as j0 i){x:Tn}(hx:x.t.ok)(hq:Qb 1000 x.t.q)(he:x.err=0) :
  Con prog 50 [.ptr 1000 0,x.av] (rh l ⟨0,[i],[z0],d⟩) (.tup [.lst 3 [(⟨[],[tk l (bi l).as i j0 x],1⟩:Sv).av],.v .nilIface]) (rh l ⟨0,[i],[z0],d⟩):=by
 obtain⟨tw,etw⟩:=jn D.al.tr D.hc;have h3:(llq (bi l).as.rs).length<=2:=ase _;have hc:=agz x hx hq oz;rw[ate he,he]at hc;have hs:=ZX x hx hq oz;rw[ate he,he]at hs;have qc:=Ck (half:=x.half) hq;have qs:=Bn (half:=x.half) hq;have gO:Sm 1000 (aH l j0 i):=ki D.hl D.li h0 p0.or;have hb:=ajc RF (gO.mono oz) (aa8 (E:=2) oz D h3 h0 p0 hq)
 have ew:Ee (P2.l ((qE (ce x.half x.t.q),qE (b8 x.half x.t.q)):P2 (llq (bi l).as.rs)))=aQ (sh 0 (ce x.half x.t.q:Rat)) (sh 0 (b8 x.half x.t.q:Rat)):=by
  show aQ (sX (qE (ce x.half x.t.q):Et (llq (bi l).as.rs))) (sX (qE (b8 x.half x.t.q):Et (llq (bi l).as.rs)))=_;rw[vQ,vQ]
 rw[ew]at hb;have gh:=Xl tw;have anr:FP 131 [dN (bi l).as.rs] (bA (llq (bi l).as.rs)):=by rw[etw];exact gh
 refine gF func50 (fun k z h=>AL oz h) ?_;refine gc hc ?_;refine gf ?_;refine gc hs ?_;refine gf ?_;refine gi rfl ?_;refine gt (tj (adj D.hl D.li _ hg D.al qU (k:=0) rfl h0 p0) (.cons (.tmp rfl) (.cons (.const _) (eJ rfl))) rfl rfl rfl rfl rfl) ?_;refine gD ?_ (9,0);refine gW (Wk.of (sl:=[pP 0 (.ptr 1000 0),pP 6 (.ptr 6 0),pP 8 (.ptr 8 0),pP 9 (.ptr 9 0),pP 10 (.ptr 10 0),pP 11 (.ptr 52 0)]) (hp:=[pP 1000 (xX l ⟨0,[i],[z0],d⟩),pP 1001 (rv l),pP 6 (.box [bl (rt (ce x.half x.t.q)).neg,ws (rt (ce x.half x.t.q)).num,ws (rt (ce x.half x.t.q)).den]),pP 8 (.box [bl (rt (b8 x.half x.t.q)).neg,ws (rt (b8 x.half x.t.q)).num,ws (rt (b8 x.half x.t.q)).den]),pP 9 (.box (qC (aH l j0 i))),pP 10 (.box [nA (sX (aN l (bi l).as j0 i).1),nA (sX (aN l (bi l).as j0 i).2)]),pP 52 (mg (llq (bi l).as.rs))]) a6 (.k (.k (.k (.k (.k (.k (.cons rfl (BlkSub.bL (.cons (.refl _) (.cons (.refl _) .nil)) rfl) .nil)))))))) ?_
 refine gc (kW 1 oz) ?_;refine gc (C8 (qc.qs oz) (qs.qs oz)) ?_;refine gt (aX (Con.rekeyB 52 rfl rfl rfl rfl (Con.sA (.cons (.refl _) (.cons abd (.cons (.refl _) (.cons (.refl _) (.cons (.refl _) .nil))))) hb)) (.cons (.tmp rfl) (.cons (.tmp rfl) (.cons (.tmp rfl) (.cons (.tmp rfl) (.cons (.tmp rfl) .nil))))) rfl rfl rfl) ?_;refine gD ?_;refine gf ?_;refine gc anr ?_;refine gD ?_;refine gR ?_;exact aD.keep (tp rfl rfl)
theorem S4{k:Nat}{x:Option Blk}{z:Blk}(h:lk [(1001,x)] k=some z):1000<=k:=by
 rw[aE]at h;split at h
 ·omega
 ·cases h
abbrev DD(n:Nat):AV:=.agg [.lst 1 [],.ms 1001 4 0 n,.lst 1 []]
abbrev FL(l:Li):Hp:=[pP 1001 (rv l)]
theorem aji(l:Li):(bi l).bs.length=l.bo.length:=by simp[bi]
theorem abr{a:List Rat}(h:Nm ([]:LL).length 2 a):∃r,FP 125 [.agg [.lst 1 []],nA a] (.tup [nA r,.v .nilIface]):=⟨_,FX Iv h (by show 2<=200000000000;omega)⟩
def Fe(p:Pq):LL:=[p.c,p.s,p.x,p.y]
theorem ajo{l:Li}(hl:l.ok)(ae:ax l=0)(fp:bS l=0){g:Gr}(hg:(ay l)[0]?=some g)(qU:l.bo.length<=100) :
  Con prog 49 [l.av,i64 0,DD l.bo.length,bl false] (FL l) (.tup [.ptr 900 0,.v .nilIface]) [pP 900 (xX l g),pP 1001 (rv l)]:=by
 have AF:=Ch l hl;rw[ate ae,ate ae,fp]at AF;have hG:=(ap9.1 hg).1;obtain⟨hgd,dM⟩:=kF ae (ar1 hg);have Jx:=dM.lb;have uG:=dM.lj;have cT:(dp l g false).length<=5:=M6 dM;rw[Du]at cT;have Q:=Jj l;have qJ:=aji l;refine gF func49 (fun k z h=>S4 h) ?_;refine gc AF ?_;refine gf ?_;refine cG ?_;refine gC (fun y=>?_) (fun y=>?_) (st1:=(5,0)) (st2:=(6,3));exact atk (M4 y) oz;refine gs (MB (.tmp rfl) T56 rfl rfl) ?_;refine gl ?_;refine gC (fun y=>?_) (fun y=>?_) (st1:=(7,0));exact atk y (by simp[aa]);refine gc (SH Iv) ?_;refine gf ?_;refine gi (aw hg) ?_;refine gt (aG (Fq l hl ae g dM) (b9 rfl rfl) aK rfl rfl) ?_;refine gD ?_;refine gf ?_;refine gf ?_ (77777,0);refine gW (Wk.of (sl:=[pP 1 (i64 0),pP 4 (.ptr 4 0),pP 6 (.ptr 6 0),pP 10 (.lst 4 ((ay l).map Gr.av)),pP 13 (.ms 900 1 0 (b7 l g).length)]) (hp:=[pP 4 (.box l.av.cells),pP 6 (.box (DD l.bo.length).cells),pP 1001 (rv l),pP 900 (.row 1 ((b7 l g).map i64))]) (.k (.k (.k (.k (.cons rfl (.of (by rw[lV])) .nil))))) (.k (.k (.k (.k .nil))))) ?_;refine gt (aG (Con.rk 900 rfl rfl (Ni (b7 l g) oz)) (eJ rfl) aK rfl rfl) ?_ (17,0);refine gW ((Wk.freeze (k:=900) rfl).trans<|Wk.of (sl:=[pP 1 (i64 0),pP 4 (.ptr 4 0),pP 6 (.ptr 6 0),pP 10 (.lst 4 ((ay l).map Gr.av)),pP 13 (.lst 1 ((eK (b7 l g)).map i64))]) (hp:=[pP 4 (.box l.av.cells),pP 6 (.box (DD l.bo.length).cells),pP 1001 (rv l)]) (.k (.k (.k (.k (.cons rfl (.of (cq (by rw[ar3,CE]))) .nil))))) (.k (.k (.k .nil)))) ?_;refine gl ?_;refine aP [1,4,6,10,74,75] [4,6,1001] (fun(j:Nat)=>[pP 76 (i64 j)]) (fun _=>[]) (fun j=>j<=(eK (b7 l g)).length) (fun j=>(eK (b7 l g)).length-j) 0 (ase _) ?_;rintro j hj K1 J1;refine gC (fun y=>?_) (fun y=>?_)
 ·have fa:=aT y;obtain ⟨b,hb⟩:=aJ fa;have Kb:=AG.1 (ar1 hb);have hbr:=AP (own:=false) ae dM b (by rw [Du]; exact Kb);have fm:(eK (b7 l g)).length <= 5:=by rw [CE]; exact cT
  refine gi (aw hb) ?_;refine gC (fun y=>?_) (fun y=>?_)
  ·refine ga aL ?_;exact aM J1 (j+1) fa
  have iP:0<=b:=by have:=ath (p:=b<0) y;omega
  obtain⟨p,hp⟩:=aJ (l:=(bi l).bs) (i:=b.toNat) oz;have uJ:=Q.bs p (ar1 hp);refine gs (mL (.tmp rfl) (.tmp rfl) T56 rfl T66 rfl oz oz rfl) ?_ (21,5);refine gs (dt (e:=p.av) (.tmp rfl) rfl (by rw[aoj];exact aw hp) T66 rfl rfl rfl) ?_;refine ge rfl ?_;refine aP [1,4,6,10,74,75,76,95,96] [4,6,1001] (fun(q:Nat)=>[pP 97 (i64 q)]) (fun _=>[]) (fun q=>q<=4) (fun q=>4-q) 0 (ase _) ?_;rintro q hq K2 J2;refine gC (fun y=>?_) (fun y=>?_)
  ·have bH:q<4:=aT (b:=4) y;obtain⟨x,hx⟩:∃x,(Fe p)[q]?=some x:=aJ (show q<(Fe p).length from bH)
   have Kc:Nm ([]:LL).length 2 x:=by
    have h9:=ar1 hx;simp only[Fe,asj,asf,or_false]at h9;rcases h9 with rfl |rfl |rfl |rfl
    ·exact uJ.c
    ·exact uJ.s
    ·exact uJ.x
    ·exact uJ.y
   obtain⟨r9,EQ⟩:=abr Kc;refine gi (aw hx) ?_;refine gc EQ ?_;refine gf ?_;refine ga aL ?_;exact aM J2 (q+1) bH
  have bH:q=4:=bc (b:=4) hq y;refine ga aL ?_;exact aM J1 (j+1) fa
 have fa:=bc hj y;refine gi (aw hg) ?_;refine gD ?_ (77777,0);refine gW (Wk.o (sl:=[pP 8 (.ptr 120 0),pP 9 (.v .nilIface)]) (hp:=[pP 120 (xX l g),pP 1001 (rv l)])) ?_ (77777,0);refine gW (Wk.rk (k:=120) (d:=900) rfl rfl) ?_;refine gR ?_;exact aD.keep (tp rfl rfl)
def FD(k:Nat):Nat:=if k=1000 then 900 else if k=900 then 1000 else k
theorem U5(k:Nat):FD (FD k)=k:=by unfold FD;split <;> (try split) <;> (try split) <;> omega
def Ja(k:Nat):Nat:=if k=1001 then 900 else if k=900 then 1001 else k
theorem aly(k:Nat):Ja (Ja k)=k:=by unfold Ja;split <;> (try split) <;> (try split) <;> omega
theorem Wz{l:Li}{x:Tn}(V:Vd l x) :
  Con prog 20 [l.av,i64 0,x.av,DD l.bo.length] (FL l) (.tup [.lst 3 [(Sv.mk [] [rG l x] 1).av],.v .nilIface]) (FL l):=by
 obtain⟨z,d,hg,t,hd,dM⟩:=V.g0;have W:=V.wk;have Q:=Jj l;have qU:l.bo.length<=100:=by have:=V.bl;omega
 have cS:=ajo V.hl V.p.li V.p.sp hg qU;have D:=QInv.dyW W hg Q oz oz;have O:=QInv.dyOk W hg Q (F:=2) oz (ar8 _);obtain⟨i,z0,d0,j0,e,j5,p0⟩:=N4 O rfl
 injection e with _ e1 e2 e3
 injection e1 with e1 _
 injection e2 with e2 _
 subst e1;subst e2;have ej:j0=gU l (ay l):=by have h9:=j5.symm.trans t.hj;exact Option.some.inj h9
 have Ey:=Con.pm U5 (U3 D qU dM j5 p0 V.xo (V.xq.mono oz) V.xe);rw[ej]at Ey;refine gF func20 (fun k z h=>S4 h) ?_;refine gt (aG cS (.cons (.tmp rfl) (.cons (.tmp rfl) (.cons (.tmp rfl) (.cons (.const _) .nil)))) aK rfl rfl) ?_ (2,0);refine gW (Wk.o (sl:=[pP 6 (.ptr 6 0),pP 10 (.ptr 900 0),pP 11 (.v .nilIface)]) (hp:=[pP 6 (.box x.av.cells),pP 900 (xX l ⟨0,[cf l (ay l)],[z],d⟩),pP 1001 (rv l)])) ?_;refine gf ?_;refine gC (fun y=>?_) (fun y=>?_) (st2:=(7,0))
 ·refine gt (tj Ey (b9 rfl rfl) rfl rfl rfl rfl rfl) ?_;refine gR ?_;exact aD.keep (bt rfl)
 cases y
theorem WI(E2:FP 7 [] (bl true))(l:Li)(hw:l.okw)(x:Tn)(hx:x.t.wok):FP 5 [l.av,x.av] (bl true) :=
 ac5 (fun l x V=>Con.pm aly (Wz V)) E2 l hw x hx
end Go.Lw
