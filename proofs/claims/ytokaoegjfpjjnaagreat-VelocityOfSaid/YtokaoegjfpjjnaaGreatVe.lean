/- VelocityOf: for any linkage,any turns,any assembly and driver the law returns true and leaves its arguments as they were. No other condition. Part 5 of 8: what the later parts need -/
import Derived.Test.YtokaoegjfpjjnaaGreatVd
import Derived.Test.YtokaoegjfpjjnaaGreatRows
set_option linter.unusedVariables false
open List (map_take all_append)
open List renaming mem_of_getElem? → afl, mem_append → aft, map_cons → agv, mem_cons → agd, getD_eq_getElem?_getD → afn, all_eq_true → afy, getElem?_map → afu, map_append → agc, length_take → agu, take_of_length_le → af4, drop_zero → agw, take_length → af1, not_mem_nil → af8, length_map → afm, mem_of_mem_take → agr, map_replicate → agq, map_set → ags, mem_map → ac6, mem_singleton → adc, length_eq_one_iff → adi, mem_of_mem_drop → adl, drop_of_length_le → ado, length_eq_zero_iff → adp, getElem?_replicate → adq, append_nil → adt, length_pos_iff → ad0, getLast?_eq_getElem? → ad2, mem_replicate → ad4, replicate → ad7
open Nat renaming eq_of_beq_eq_true → afo, le_refl → afq, lt_or_ge → afv, le_trans → af2, zero_le → afz, two_pow_pos → abw, beq → ab3, zero_add → ab5, pow_lt_pow_right → acd, blt → acm, pow_succ → acq, pow_le_pow_right → acr
open Option renaming map_eq_some_iff → afs, map_some → afi, getD_some → afj
open Bool renaming and_eq_true → afp, eq_iff_iff → aer, true_and → aet, and_false → aeu, eq_false_iff → aev, false_eq_true → aew
open Int renaming toNat_natCast → ago, natAbs_natCast → agh, mul_ne_zero → aea, gcd → aeb, sign_eq_neg_one_iff_neg → aef, sign_eq_zero_iff_zero → aeh
open Rat renaming num_divInt_den → ael, divInt → aep, intCast_eq_zero_iff → aeq
open Go renaming Value → ag9, TypeId → aha, Program → ahb, World → ahc
open Go.Proofs.Tryz
namespace Go.Lw
open Go.Proofs
section
variable{W:ahc}{H:Type}{enc:aha×ag9->H}
theorem Oo:cu prog W enc 354 (fun n:Nat=>u32 n) (fun n=>n<4294967296) :=
 (Iv (k:=.u32) Tryz.underlying354).map Int.toNat _ _ (fun n h=>by
  have h1:0<=n/\n<=4294967295:=by simpa[Lit.wf,IntKind.min,IntKind.max,IntKind.signed,IntKind.bits]using h
  have h2:((n.toNat:Nat):Int)=n:=by omega
  exact⟨by omega,by unfold u32;rw[h2]⟩)
theorem Ij:cu prog W enc 104 ws (fun l=>Ws l/\l.length<=281474976710656) :=
 (lc Tryz.underlying104 (n:=1) (by kernel_rfl) oz (by kernel_rfl) Oo (fun _=>rfl)).map id _ _ (fun l h=>⟨⟨fun x hx=>h.1 x hx,h.2⟩,rfl⟩)
theorem F5:cu prog W enc 4 bl (fun _=>True):=aba Tryz.underlying4
theorem ml:cu prog W enc 3 i64 (fun _=>True):=(Iv (k:=.i64) Tryz.underlying3).map id _ _ (fun n h=>⟨trivial,rfl⟩)
theorem v9:cu prog W enc 9 (fun s:ByteArray=>AV.v (.string s)) (fun s=>s.size<=281474976710656):=OL Tryz.underlying9
theorem zK:cu prog W enc 106 Rt.av Rt.wok :=
 (kU (n:=3) Tryz.underlying106 (by kernel_rfl)
  (.cons rfl (n:=1) (by kernel_rfl) F5 (fun _=>rfl) (.cons rfl (n:=1) (by kernel_rfl) Ij (fun _=>rfl) (.cons rfl (n:=1) (by kernel_rfl) Ij (fun _=>rfl) (.nil _)))) (fun _=>rfl)).map
  (fun z=>⟨z.1,z.2.1,z.2.2.1⟩) _ _ (fun z h=>⟨⟨h.2.1.1,h.2.2.1.1⟩,rfl⟩)
def Ns(x:List Rt):Prop:=(∀r∈x,r.wok)/\x.length<=281474976710656
theorem vJ:cu prog W enc 53 nR Ns:=lc Tryz.underlying53 (n:=3) (by kernel_rfl) oz (by kernel_rfl) zK (fun _=>rfl)
theorem YE:cu prog W enc 42 (fun l:List (List Rt)=>.lst 1 (l.map nR)) (fun l=>dH l/\l.length<=281474976710656) :=
 lc Tryz.underlying42 (n:=1) (by kernel_rfl) oz (by kernel_rfl) vJ (fun _=>rfl)
theorem Zb:cu prog W enc 44 a5 (fun l=>dH l/\l.length<=281474976710656) :=
 (kU (n:=1) Tryz.underlying44 (by kernel_rfl) (.cons rfl (n:=1) (by kernel_rfl) YE (fun _=>rfl) (.nil _)) (fun _=>rfl)).map (fun z=>z.1) _ _ (fun z h=>⟨h.1,rfl⟩)
theorem UK:cu prog W enc 55 Pl.av (fun b=>dH b.l) :=
 (kU (n:=4) Tryz.underlying55 (by kernel_rfl)
  (.cons rfl (n:=1) (by kernel_rfl) vJ (fun _=>rfl) (.cons rfl (n:=1) (by kernel_rfl) vJ (fun _=>rfl) (.cons rfl (n:=1) (by kernel_rfl) vJ (fun _=>rfl) (.cons rfl (n:=1) (by kernel_rfl) vJ (fun _=>rfl) (.nil _))))) (fun _=>rfl)).map
  (fun z=>⟨z.1,z.2.1,z.2.2.1,z.2.2.2.1⟩) _ _ (fun z h=>⟨by
   intro x hx;simp only[Pl.l,agd,af8,or_false]at hx;rcases hx with rfl |rfl |rfl |rfl
   ·exact h.1
   ·exact h.2.1
   ·exact h.2.2.1
   ·exact h.2.2.2.1,rfl⟩)
theorem Ow:cu prog W enc 45 (fun l:List Pl=>.lst 4 (l.map Pl.av)) (fun l=>(∀b∈l,dH b.l)/\l.length<=281474976710656) :=
 lc Tryz.underlying45 (n:=4) (by kernel_rfl) oz (by kernel_rfl) UK (fun _=>rfl)
theorem O4:cu prog W enc 46 (fun l:List Int=>.lst 1 (l.map i64)) (fun l=>(∀b∈l,True)/\l.length<=281474976710656) :=
 lc Tryz.underlying46 (n:=1) (by kernel_rfl) oz (by kernel_rfl) ml (fun _=>rfl)
abbrev XD(a:As):List AV:=[.lst 1 (a.rs.map nR),.lst 4 (a.bs.map Pl.av),.lst 1 (a.ms.map i64)]
theorem W9:cu prog W enc 48 (fun a:As=>.agg (XD a)) As.ok :=
 (kU (n:=3) Tryz.underlying48 (by kernel_rfl)
  (.cons rfl (n:=1) (by kernel_rfl) Zb (fun _=>rfl) (.cons rfl (n:=1) (by kernel_rfl) Ow (fun _=>rfl) (.cons rfl (n:=1) (by kernel_rfl) O4 (fun _=>rfl) (.nil _)))) (fun _=>rfl)).map
  (fun z=>⟨z.1,z.2.1,z.2.2.1⟩) _ _ (fun z h=>⟨⟨h.1.1,h.1.2,h.2.1.1,h.2.1.2⟩,rfl⟩)
theorem N8:cu prog W enc 115 Tn.av (fun x=>x.t.wok) :=
 (kU (n:=4) Tryz.underlying115 (by kernel_rfl) (.cons rfl (n:=3) (by kernel_rfl) zK (fun _=>rfl) (.cons rfl (n:=1) (by kernel_rfl) F5 (fun _=>rfl) (.nil _))) (fun _=>rfl)).map
  (fun z=>⟨z.1,z.2.1⟩) _ _ (fun z h=>⟨h.1,rfl⟩)
theorem QV:cu prog W enc 141 Mk.av (fun m=>m.name.size<=281474976710656/\m.x.wok/\m.y.wok) :=
 (kU (n:=7) Tryz.underlying141 (by kernel_rfl)
  (.cons rfl (n:=1) (by kernel_rfl) v9 (fun _=>rfl) (.cons rfl (n:=3) (by kernel_rfl) zK (fun _=>rfl) (.cons rfl (n:=3) (by kernel_rfl) zK (fun _=>rfl) (.nil _)))) (fun _=>rfl)).map
  (fun z=>⟨z.1,z.2.1,z.2.2.1⟩) _ _ (fun z h=>⟨⟨h.1,h.2.1,h.2.2.1⟩,rfl⟩)
theorem OJ:cu prog W enc 139 Bd.av (fun b=>b.name.size<=281474976710656/\b.pts.length<=281474976710656/\∀m∈b.pts,m.name.size<=281474976710656/\m.x.wok/\m.y.wok) :=
 (kU (n:=2) Tryz.underlying139 (by kernel_rfl)
  (.cons rfl (n:=1) (by kernel_rfl) v9 (fun _=>rfl) (.cons rfl (n:=1) (by kernel_rfl) (lc Tryz.underlying137 (n:=7) (by kernel_rfl) oz (by kernel_rfl) QV (fun _=>rfl)) (fun _=>rfl) (.nil _))) (fun _=>rfl)).map
  (fun z=>⟨z.1,z.2.1⟩) _ _ (fun z h=>⟨⟨h.1,h.2.1.2,h.2.1.1⟩,rfl⟩)
theorem Qo:cu prog W enc 135 Jt.av (fun j=>j.name.size<=281474976710656) :=
 (kU (n:=7) Tryz.underlying135 (by kernel_rfl)
  (.cons rfl (n:=1) (by kernel_rfl) v9 (fun _=>rfl) (.cons rfl (n:=1) (by kernel_rfl) ml (fun _=>rfl) (.cons rfl (n:=1) (by kernel_rfl) ml (fun _=>rfl) (.cons rfl (n:=1) (by kernel_rfl) ml (fun _=>rfl)
   (.cons rfl (n:=1) (by kernel_rfl) ml (fun _=>rfl) (.cons rfl (n:=1) (by kernel_rfl) ml (fun _=>rfl) (.cons rfl (n:=1) (by kernel_rfl) ml (fun _=>rfl) (.nil _)))))))) (fun _=>rfl)).map
  (fun z=>⟨z.1,z.2.1,z.2.2.1,z.2.2.2.1,z.2.2.2.2.1,z.2.2.2.2.2.1,z.2.2.2.2.2.2.1⟩) _ _ (fun z h=>⟨h.1,rfl⟩)
theorem U4:cu prog W enc 151 Dr.av (fun d=>d.name.size<=281474976710656) :=
 (kU (n:=2) Tryz.underlying151 (by kernel_rfl) (.cons rfl (n:=1) (by kernel_rfl) v9 (fun _=>rfl) (.cons rfl (n:=1) (by kernel_rfl) ml (fun _=>rfl) (.nil _))) (fun _=>rfl)).map
  (fun z=>⟨z.1,z.2.1⟩) _ _ (fun z h=>⟨h.1,rfl⟩)
abbrev liG(l:Li):List AV:=[.v (.string l.name),.lst 2 (l.bo.map Bd.av),.lst 7 (l.jo.map Jt.av),.lst 2 (l.dv.map Dr.av)]
theorem Ss:cu prog W enc 26 (fun l:Li=>.agg (liG l)) Li.okw :=
 (kU (n:=4) Tryz.underlying26 (by kernel_rfl)
  (.cons rfl (n:=1) (by kernel_rfl) v9 (fun _=>rfl)
   (.cons rfl (n:=1) (by kernel_rfl) (lc Tryz.underlying22 (n:=2) (by kernel_rfl) oz (by kernel_rfl) OJ (fun _=>rfl)) (fun _=>rfl)
    (.cons rfl (n:=1) (by kernel_rfl) (lc Tryz.underlying23 (n:=7) (by kernel_rfl) oz (by kernel_rfl) Qo (fun _=>rfl)) (fun _=>rfl)
     (.cons rfl (n:=1) (by kernel_rfl) (lc Tryz.underlying24 (n:=2) (by kernel_rfl) oz (by kernel_rfl) U4 (fun _=>rfl)) (fun _=>rfl) (.nil _))))) (fun _=>rfl)).map
  (fun z=>⟨z.1,z.2.1,z.2.2.1,z.2.2.2.1⟩) _ _ (fun z h=>⟨⟨h.1,h.2.1.1,h.2.2.1.1,h.2.2.2.1.1,h.2.1.2,h.2.2.1.2,h.2.2.2.1.2⟩,rfl⟩)
theorem aaz:cu prog W enc 38 (fun l:List Tn=>.lst 4 (l.map Tn.av)) (fun l=>(∀x∈l,x.t.wok)/\l.length<=281474976710656) :=
 lc Tryz.underlying38 (n:=4) (by kernel_rfl) oz (by kernel_rfl) N8 (fun _=>rfl)
end
open Go.Proofs Go.Proofs.YtokaoegjfpjjnaaGreat
open Go.ChangeShapes Go.WideShapes Go.ChangeAt Go.RowKit
theorem own:ownKnob prog.godebug=none:=by kernel_rfl
theorem LK:laidOutB prog=true:=by kernel_rfl
theorem Wa:prog.stopsHeard=true:=by kernel_rfl
theorem SW:prog.plainKeys=true:=by kernel_rfl
theorem Z8:mapsRowed prog=true:=by kernel_rfl
theorem abe:prog.mayEnter=true:=by kernel_rfl
theorem Wm:prog.liftsFinal=false:=by kernel_rfl
theorem ST{v:ag9}(h:∀cs,v≠.agg cs):v.cells=#[v]:=by
 cases v <;> first |rfl |exact ag5 rfl (h _)
theorem Ry{P:ahb}{W:ahc}{r:Reach}{b0:Nat}{t e:aha}{v:ag9}(ht:P.underlying t=some (.slice e))(hval:Value.okWide P W r b0 t v):v.cells=#[v]:=by
 refine ST (fun cs h=>?_);subst h;unfold Value.okWide at hval;rw[ht]at hval;unfold Cell.okWide at hval;rw[ht]at hval;unfold Cell.ok at hval;rw[ht]at hval;exact hval
theorem Dz{H:Type}{enc:aha×ag9->H}{W W':ahc}{t:aha}{v:ag9}{d:DataW H}{ps:List MemPlace}{sp':Nat->Bool}(hr:prog.readableRec t=true)(ht:t<prog.types.size)
  (h:DataW.Trod enc prog W 0 (fun _=>true) true t v d ps) (hb:Below W.heap.size W W') (hlt:∀x∈ps,x.block<W.heap.size) (hs:∀p∈ps,sp' p.block=true):DataW.Trod enc prog W' 0 sp' true t v d ps :=
 WideElems.Trod_stays LK hr ht h (fun x hx=>hb.same (hlt x hx)) hs
theorem ME(m:List Nat)(hm:Ws m)(hl:m.length<=fI):FP 305 [ws m] (bl (!decide (m=[])&&(⟨false,m⟩:Wh).valid)):=by
 refine ai func305 ?_;refine gl ?_;refine bF ?_;refine nP (fun h=>(jz (by simp[aa]at h;omega) (by unfold fI at hl;unfold aS;exact af2 hl oz))) ?_;refine nw (fun h=>(b9 (i:=m.length-1) (by simp[aa]at h;omega))) ?_;refine af ?_
 by_cases h:m=[]
 ·subst h;rfl
 ·have h1:0<m.length:=ad0.2 h;have h2:aa .gtr (m.length:Int) 0=true:=by simp[aa,h1]
  simp only[bl,h,decide_false,Bool.not_false,aet,Wh.valid,ad2,jG (show m.length-1<m.length by omega),aa];congr 2;generalize ak m _=x;rw[aer];simp[h1]
theorem C4:FP 142 [] (zA 1):=by
 refine ai func142 ?_;refine gc (L2 1 oz) ?_;refine af ?_
 first |rfl |(simp;done)
theorem uw(r:Rt)(h:r.ok):FP 177 [r.av] (bl r.valid):=by
 have hr:=h;have hn:=h.n0;have hd:=h.d0;have hl1:r.num.length<=137438953472:=h.2.2.1;have hl2:r.den.length<=137438953472:=h.2.2.2;refine ai func177 ?_;refine gl ?_;refine bF ?_;refine gC (fun t12=>?_) (fun t12=>?_)
 ·have h0:r.num=[]/\r.den=[]:=by simpa[aa] using t12
  refine af ?_;unfold Rt.valid;rw[agz h0];rfl
 have h0:¬(r.num=[]/\r.den=[]):=by
  have:=t12;simp[aa]at this;exact fun h=>this h.1 h.2
 refine gc (ME r.num hr.1 hr.2.2.1) ?_;refine bn (fun _=>(ME r.den hr.2.1 hr.2.2.2)) ?_;refine bn (fun _=>(FF r.n0 r.d0 hn hd (by show r.num.length+r.den.length<_;unfold az;omega))) ?_;refine bn (fun _=>C4) ?_;refine bn (fun _=>(RM (Rt.gcd_zs hr) x8)) ?_;refine af ?_;exact ag6 bl (Pv h0).symm
theorem oF(r:Rt)(h:r.ok):FP 284 [r.av] (.tup [zA r.q.num,zA r.q.den]):=by
 have hl1:r.num.length<=137438953472:=h.2.2.1;have hl2:r.den.length<=137438953472:=h.2.2.2;refine ai func284 ?_;refine gc (uw r h) ?_;refine bF ?_;refine gC (fun t12=>?_) (fun t12=>?_)
 ·have h0:¬(r.valid=true/\r.num≠[]):=by
   have:=t12;intro h';simp[aa,h'.1,h'.2]at this
  refine gc C4 ?_;refine gR ?_;exact gy (by rw[Rt.zero h0];exact Sub.tup (.cons JU (.cons (.refl _) .nil)))
 have h0:r.valid=true/\r.num≠[]:=by
  have:=t12;cases hv:r.valid
  ·rw[hv]at this;cases this
  ·rw[hv]at this;exact⟨rfl,by simpa[aa]using this⟩
 obtain⟨e1,e2,e3,e4,e5,e6⟩:=Rt.parts h h0.1 h0.2;refine gD ?_;refine bg ?_;rw[e1,e2];exact H0 e3 e4 e5
theorem uV{n d:Int}(hn:Zs n)(hd:Zs d)(h0:d≠0):FP 140 [zA n,zA d] (qA (aep n d)):=by
 refine ai func140 ?_;refine gc (yR hn) ?_;refine gC (fun z=>?_) (fun z=>?_)
 ·have e0:n=0:=aeh.1 (by simpa[aa]using z);refine gR ?_;exact jp (by rw[e0,Rat.zero_divInt];exact jV)
 have e0:n≠0:=fun h=>by rw[h]at z;cases z
 refine gc (yR hd) ?_;refine Ip [2,3,4] [4] (fun(n1 d1:Int)=>[]) (fun n1 d1=>[pP 2 (.box (zA n1).cells),pP 3 (.box (zA d1).cells)]) (fun n1 d1=>0<d1/\n1≠0/\Zs n1/\Zs d1/\aep n1 d1=aep n d) ?_ ?_
 ·intro K1 J1;refine gC (fun t18=>?_) (fun t18=>?_)
  ·have e1:d<0:=aef.1 (by have:=Int.sign_trichotomy d;have h9:d.sign<0:=(by simpa[aa]using t18);omega);refine gc (Df hn) ?_;refine gc (Df hd) ?_;refine gD ?_;exact xi J1 (-n) (-d) ⟨by omega,by omega,hn.neg,hd.neg,F2 n d⟩
  have e1:0<d:=by
   have h9:0<=d.sign:=by simpa[aa]using t18
   have:=Int.sign_nonneg_iff.1 h9;omega
  exact xi J1 n d ⟨e1,e0,hn,hd,rfl⟩
 rintro n1 d1 ⟨f1,f2,f3,f4,f5⟩;have g2:Zs (aeb n1 d1:Int):=f3.of_le (by rw[agh];exact Nat.le_of_dvd oz (Int.gcd_dvd_natAbs_left _ _));have g3:(aeb n1 d1:Int)≠0:=by have:=Int.gcd_pos_of_ne_zero_left d1 f2;omega
 refine gc (Uc f3 f4) ?_;refine gc (MI f3 g2 g3) ?_;refine gc (MI f4 g2 g3) ?_;refine af ?_;rw[<- f5,<- Yw f1 f2];rfl
theorem Ug{n d:Int}(hn:Zs n)(hd:Zs d):FP 387 [zA n,zA d] (.tup [qA (aep n d),i64 (if d=0 then 8 else 0)]):=by
 refine ai func387 ?_;refine gc (yR hd) ?_;refine gC (fun z=>?_) (fun z=>?_)
 ·have h0:d=0:=aeh.1 (by simpa[aa]using z);refine gR ?_;exact gy (by rw[agz h0,h0,Rat.divInt_zero];exact Sub.tup (.cons jV (.cons (.refl _) .nil)))
 have h0:d≠0:=fun h=>by rw[h]at z;cases z
 refine gc (uV hn hd h0) ?_;refine bg ?_;rw[agy h0];rfl
theorem sE(n:Int)(h:-9223372036854775808<=n/\n<=9223372036854775807):FP 53 [i64 n] (qA n):=by
 have hz:Zs n:=⟨2,by omega,by unfold Lz;simp only[Nat.reducePow];omega⟩
 refine ai func53 ?_;refine gc (L2 n h) ?_;refine gc C4 ?_;refine gc (uV hz x8 oz) ?_;refine af ?_;exact ag6 qA (ael (n:Rat))
theorem Fe(a:Rt)(ha:a.ok):FP 288 [a.av] (qA (-a.q)):=by
 have za:=ha.qs;refine ai func288 ?_;refine gc (oF a ha) ?_;refine gc (Df za.num) ?_;refine gc (uV za.num.neg za.den (by have:=a.q.den_nz;omega)) ?_;refine gD ?_;refine af ?_;rw[KP];rfl
theorem xm(a:Rt)(ha:a.ok):FP 156 [a.av] (i64 (bB a.q)):=by
 refine ai func156 ?_;refine gc (oF a ha) ?_;refine gc (yR ha.qs.num) ?_;refine af ?_;rw[HM]
theorem wm(a b:Rt)(ha:a.ok)(hb:b.ok):FP 157 [a.av,b.av] (qA (a.q+b.q)):=by
 have za:=ha.qs;have zb:=hb.qs;have m1:=za.mul zb;have m2:=zb.mul za;refine ai func157 ?_;refine gc (oF a ha) ?_;refine gc (oF b hb) ?_;refine gc (qf za.num zb.den) ?_;refine gc (qf zb.num za.den) ?_;refine gc (O6 m1.1 m2.1) ?_;refine gc (qf za.den zb.den) ?_;refine gc (uV (za.cross zb) m1.2.2.1 (aea (by have:=a.q.den_nz;omega) (by have:=b.q.den_nz;omega))) ?_;refine gD ?_;refine af ?_;rw[DW];rfl
theorem Kx(a b:Rt)(ha:a.ok)(hb:b.ok):FP 160 [a.av,b.av] (qA (a.q-b.q)):=by
 refine ai func160 ?_;refine gc (Fe b hb) ?_;refine gc (wm a (rt (-b.q)) ha hb.qs.neg.ok) ?_;refine gD ?_;refine af ?_;rw[bq,<- Rat.sub_eq_add_neg];rfl
theorem Gn(a b:Rt)(ha:a.ok)(hb:b.ok):FP 158 [a.av,b.av] (qA (a.q*b.q)):=by
 have za:=ha.qs;have zb:=hb.qs;have m1:=za.mul zb;refine ai func158 ?_;refine gc (oF a ha) ?_;refine gc (oF b hb) ?_;refine gc (qf za.num zb.num) ?_;refine gc (qf za.den zb.den) ?_;refine gc (uV m1.2.1 m1.2.2.1 (aea (by have:=a.q.den_nz;omega) (by have:=b.q.den_nz;omega))) ?_;refine gD ?_;refine af ?_;rw[Bs];rfl
theorem IC(a b:Rt)(ha:a.ok)(hb:b.ok):FP 287 [a.av,b.av] (.tup [qA (a.q/b.q),i64 (if b.q=0 then 8 else 0)]):=by
 have za:=ha.qs;have zb:=hb.qs;have m1:=za.mul zb;refine ai func287 ?_;refine gc (oF a ha) ?_;refine gc (oF b hb) ?_;refine gc (qf za.num zb.den) ?_;refine gc (qf za.den zb.num) ?_;refine gc (Ug m1.1 m1.2.2.2) ?_;refine gD ?_;refine bg ?_
 have e1:((a.q.den:Int)*b.q.num=0)=(b.q=0):=by
  apply propext;rw[<- Rat.num_eq_zero,Int.mul_eq_zero];exact⟨fun h=>h.resolve_left (by have:=a.q.den_nz;omega),.inr⟩
 simp only[Ea,e1];rfl
theorem Ja(a b:Rt)(ha:a.ok)(hb:b.ok)(hs:Qs (a.q-b.q)):FP 293 [a.av,b.av] (i64 (bB (a.q-b.q))):=by
 refine ai func293 ?_;refine gc (Kx a b ha hb) ?_;refine gc (xm (rt (a.q-b.q)) hs.ok) ?_;refine af ?_;rw[bq]
theorem uE{α:Type}(f:α->AV)(l:List α)(hl:l.length<=281474976710656):FP 316 [.lst 3 (l.map f)] (i64 (cC l.length)):=by
 refine ai func316 ?_;refine aL [0] [] (fun(k:Nat)=>[pP 3 (i64 k)]) (fun _=>[]) (fun k=>k<=48/\∀j,j<k->2^j<l.length) (fun k=>48-k) 0 ⟨by omega,fun j h=>by omega⟩ ?_;rintro k ⟨hk,hj⟩ K1 J1;refine gs (i6 (.const _) (.tmp rfl) oz (sZ oz) rfl) ?_;refine gl ?_;refine gC (fun z=>?_) (fun z=>?_)
 ·have h1:2 ^ k<l.length:=by have:=z; simp only [aa,ag0] at this; omega
  have h2:k<48:=by
   rcases afv k 48 with h |h
   ·exact h
   ·have:2 ^ 48<=2 ^ k:=bU h;have:(2:Nat) ^ 48=281474976710656:=by decide
    omega
  refine ga (cZ oz) ?_;exact aH J1 (k+1) ⟨by omega,fun j h=>by rcases afv j k with h3 |h3;exact hj j h3;(have:j=k:=by omega);subst this;exact h1⟩
 have h1:l.length<=2^k:=by have:=z;simp only[aa,decide_eq_false_iff_not]at this;omega
 have h2:=Kn hj h1;refine gs (i6 (.const _) (.tmp rfl) oz (sZ oz) rfl) ?_;refine gl ?_;refine gC (fun z=>?_) (fun z=>?_)
 ·have h3:2 ^ k≠l.length:=by have:=z; simp only [aa,bne_iff_ne,ne_eq] at this; omega
  refine af ?_;unfold cC;rw[h2,agy h3];rfl
 have h3:2^k=l.length:=by have:=z;simp only[aa,bne_eq_false_iff_eq]at this;omega
 refine af ?_;unfold cC;rw[h2,agz h3]
theorem MC(ts:List (List Rt))(a:List Rt)(ha:∀r∈a,r.ok)(hl:a.length<=281474976710656)(ht:ts.length<=281474976710656):FP 263 [a5 ts,nR a] (cf (bH ts.length a)):=by
 refine ai func263 ?_;refine gl ?_;refine tb [1,4] [] [] [] (¬(a≠[]/\(cC a.length<0\/(ts.length:Int)<cC a.length))) ?_ ?_
 ·intro K1 J1;refine gC (fun t10=>?_) (fun t10=>?_)
  ·have h0:a≠[]:=fun h=>by rw[h] at t10; simp[aa] at t10
   refine gc (uE Rt.av a hl) ?_;refine bF ?_;refine gC (fun t21=>?_) (fun t21=>?_)
   ·have h1:cC a.length<0\/(ts.length:Int)<cC a.length:=by
     have h9:=t21
     by_cases h:cC a.length<0
     ·exact .inl h
     ·simp only[aa,ag4 h,cond_false,ag0]at h9;exact .inr h9
    refine af ?_;unfold bH;rw[agz ⟨h0,h1⟩];rfl
   have h1:¬(cC a.length<0\/(ts.length:Int)<cC a.length):=by
    have h9:=t21
    by_cases h:cC a.length<0
    ·simp only[aa,ag3 h,cond_true]at h9;cases h9
    ·simp only[aa,ag4 h,cond_false,decide_eq_false_iff_not]at h9;exact fun h'=>h'.elim h h9
   exact jx J1 (fun h=>h1 h.2)
  have h0:a=[]:=by
   cases a with
   |nil=>rfl
   |cons c l=>simp[aa]at t10
  exact jx J1 (fun h=>h.1 h0)
 rintro hn;refine gl ?_;refine aL [23,24] [] (fun(i:Nat)=>[pP 25 (i64 i)]) (fun _=>[]) (fun i=>i<=a.length/\(a.take i).all Rt.valid=true) (fun i=>a.length-i) 0 ⟨afz _,by simp⟩ ?_;rintro i ⟨hi,hv⟩ K2 J2;refine gC (fun z=>?_) (fun z=>?_)
 ·have hin:i<a.length:=by simpa[aa] using z
  obtain⟨r,hr⟩:=ay hin;have hrok:=ha r (afl hr);refine gi (aq hr) ?_;refine gc (si r hrok) ?_;refine gC (fun z=>?_) (fun z=>?_)
  ·have hrv:r.valid=false:=by simpa using z
   refine af ?_;unfold bH;rw[agy hn,agy]
   ·rfl
   ·rw[afy];intro h;rw[h r (afl hr)]at hrv;cases hrv
  have hrv:r.valid=true:=by simpa using z
  refine ga aK ?_;exact aH J2 (i+1) ⟨by omega,by rw[eH hr,all_append,hv];simp[hrv]⟩
 have hin:i=a.length:=by have:a.length<=i:=(by simpa[aa]using z);omega
 subst hin;rw[af1]at hv;refine af ?_;unfold bH;rw[agy hn,agz hv];rfl
theorem FM(a:List Rat)(ha:∀q∈a,Qs q)(hl:a.length<=281474976710656):FP 415 [nA a] (bl (bc a)):=by
 refine ai func415 ?_;refine gl ?_;refine aL [5,6] [] (fun(i:Nat)=>[pP 7 (i64 i)]) (fun _=>[]) (fun i=>i<=a.length/\bc (a.take i)=true) (fun i=>a.length-i) 0 ⟨afz _,by simp[bc]⟩ ?_;rintro i ⟨hi,hv⟩ K1 J1;refine gC (fun z=>?_) (fun z=>?_)
 ·have hin:i<a.length:=by simpa[aa] using z
  obtain⟨q,hq⟩:=ay hin;have hqs:=ha q (afl hq);refine gi (aq hq) ?_;refine gc (xl (rt q) hqs.ok) ?_;refine gC (fun t13=>?_) (fun t13=>?_)
  ·have h0:q≠0:=by
    intro h;have h9:=t13;rw[bq,h]at h9;cases h9
   refine af ?_
   have:bc a=false:=by
    rw[aev];intro h;exact h0 (by simpa using afy.1 h q (afl hq))
   rw[this];rfl
  have h0:q=0:=by
   have h9:bB q=0:=by have:=t13;rw[bq]at this;simpa[aa]using this
   exact tl h9
  refine ga aK ?_;exact aH J1 (i+1) ⟨by omega,by rw[eH hq];simp only[bc,all_append,afp];exact⟨hv,by simp[h0]⟩⟩
 have hin:i=a.length:=by have:a.length<=i:=(by simpa[aa]using z);omega
 subst hin;rw[af1]at hv;refine af ?_;rw[hv];rfl
theorem Fk(a:List Rat)(hl:a.length<=281474976710656):FP 348 [nA a] (bl (bc a)):=by
 refine ai func348 ?_;refine gl ?_;refine aL [5,6] [] (fun(i:Nat)=>[pP 7 (i64 i)]) (fun _=>[]) (fun i=>i<=a.length/\bc (a.take i)=true) (fun i=>a.length-i) 0 ⟨afz _,by simp[bc]⟩ ?_;rintro i ⟨hi,hv⟩ K1 J1;refine gC (fun z=>?_) (fun z=>?_)
 ·have hin:i<a.length:=by simpa[aa] using z
  obtain⟨q,hq⟩:=ay hin;refine gi (aq hq) ?_;refine bF ?_;refine bF ?_;refine gC (fun z=>?_) (fun z=>?_)
  ·have h0:q≠0:=Lg z;refine af ?_
   have:bc a=false:=by
    rw[aev];intro h;exact h0 (by simpa using afy.1 h q (afl hq))
   rw[this];rfl
  have h0:q=0:=GC z;refine ga aK ?_;exact aH J1 (i+1) ⟨by omega,by rw[eH hq];simp only[bc,all_append,afp];exact⟨hv,by simp[h0]⟩⟩
 have hin:i=a.length:=by have:a.length<=i:=(by simpa[aa]using z);omega
 subst hin;rw[af1]at hv;refine af ?_;rw[hv];rfl
theorem Ue(a:List Rat)(ha:∀q∈a,Qs q)(hl:a.length<=1099511627776):FP 347 [nA a] (nA a):=by
 refine ai func347 ?_;refine gl ?_;refine gW (Wk.virt 900 3 rfl) ?_;refine aL [6,7] [] (fun(i:Nat)=>[pP 3 (.ms 900 3 0 i),pP 8 (i64 i)]) (fun i=>[pP 900 (.row 3 ((a.take i).map qA))]) (fun i=>i<=a.length) (fun i=>a.length-i) 0 (afz _) ?_;rintro i hi K1 J1;refine gC (fun z=>?_) (fun z=>?_) (st2:=(7,0))
 ·have hin:i<a.length:=by simpa[aa] using z
  obtain⟨q,hq⟩:=ay hin;have hqs:=(ha q (afl hq)).ok;have hl1:(rt q).num.length<=137438953472:=hqs.2.2.1;have hl2:(rt q).den.length<=137438953472:=hqs.2.2.2;refine gi (aq hq) ?_;refine gs (j4 T104 rfl T354 rfl rfl rfl) ?_;refine gs (n8 (.tmp rfl) rfl rfl (.tmp rfl) T104 rfl T354 rfl rfl (by simp only[afm];omega) rfl rfl) ?_;refine gs (j4 T104 rfl T354 rfl rfl rfl) ?_;refine gs (n8 (.tmp rfl) rfl rfl (.tmp rfl) T104 rfl T354 rfl rfl (by simp only[afm];omega) rfl rfl) ?_;refine gs (eg (.tmp rfl) rfl (by simp;omega) (.tmp rfl) T53 rfl T106 rfl rfl (by simp;omega) rfl rfl) ?_;refine gD ?_ (6,0);refine gW (Wk.of (sl:=[pP 3 (.ms 25 3 0 (i+1)),pP 6 (nA a),pP 7 (i64 a.length),pP 8 (i64 i)]) (hp:=[pP 25 (.row 3 ((a.take (i+1)).map qA))]) bj (.cons rfl (BlkSub.of (by rw[eH hq,agc];rfl)) .nil)) ?_ (6,0);refine gW (Wk.rk (k:=25) (d:=900) rfl rfl) ?_;refine ga aK ?_;exact aH J1 (i+1) hin
 have hin:i=a.length:=by have:a.length<=i:=(by simpa[aa]using z);omega
 subst hin;refine gW ((Wk.freeze (k:=900) rfl).trans<|Wk.of (sl:=[pP 3 (nA a)]) (hp:=[]) (.cons rfl (Sub.of (by rw[cz (by simp),af1];rfl)) .nil) .nil) ?_;refine af ?_;rfl
theorem lN{n:Nat}(a:List Rat)(hn:n<=5)(ha:Nl n a)(hs:∀q∈a,Qs q):FP 226 [nA a] (nA (sh n (ae n a))):=by
 have hl:=ha.len5 hn;rw[<- uZ ha hn];refine ai func226 ?_;refine gc (uE qA a oz) ?_;refine gl ?_;refine gC (fun z=>?_) (fun z=>?_) (st1:=(3,0));exact ag5 z (by rcases ha with rfl |⟨j,hj,h⟩;(simp[aa]);(rw[h,rU];simp[aa];omega));refine gl ?_;refine aL [0] [] (fun(m:Nat)=>[pP 4 (i64 m)]) (fun _=>[]) (fun m=>me a m) (fun m=>m) a.length (KW (ha.mono hn)) ?_;rintro m hm K1 J1;refine gs (fc rfl rfl rfl (fun h=>eh (.opt rfl (o1 h)) (.const _) oz (fi (by have:=hm.le;omega)) rfl)) ?_;refine gs (fc rfl rfl rfl (fun h=>co (.opt rfl (o1 h)) (.some _ (.opt rfl (o1 h)) oz) (.some _ (.opt rfl (o1 h)) oz) T53 rfl T106 rfl oz (by have:=hm.le;simp;omega) rfl)) ?_;refine bn (fun _=>(by have h9:=Fk ((a.drop (m/2)).take (m-m/2)) (by simp;omega);rw[<- uA]at h9;exact h9)) ?_;refine gC (fun t31=>?_) (fun t31=>?_)
 ·have h1:1<m/\bc ((a.drop (m/2)).take (m-m/2))=true:=by
   have h9:=t31
   by_cases h:(m:Int)>1
   ·simp only[aa,ag3 h,cond_true]at h9;exact⟨by omega,h9⟩
   ·simp only[aa,ag4 h,cond_false]at h9;cases h9
  refine gs (eh (.tmp rfl) (.const _) oz (fi (by have:=hm.le;omega)) rfl) ?_;exact aH J1 (m/2) (Gg hm h1.1 h1.2)
 have h1:1<m->bc ((a.drop (m/2)).take (m-m/2))=false:=by
  intro h;have h9:=t31;simp only[aa,ag3 (show(m:Int)>1 by omega),cond_true]at h9;exact h9
 refine gs (fc rfl rfl rfl (fun h=>co (.opt rfl (o1 h)) (.none _) (.some _ (.const _) oz) T53 rfl T106 rfl oz (by have h8:(m:Int)=1:=(by simpa[aa]using h);have:=hm.le;simp only[afm];omega) rfl)) ?_;refine bn (fun _=>(by have h9:=Fk ((a.drop 0).take 1) (by simp;omega);rw[<- uA]at h9;exact h9)) ?_;refine gC (fun t40=>?_) (fun t40=>?_)
 ·have h2:m=1/\bc (a.take 1)=true:=by
   have h9:=t40
   by_cases h:m=1
   ·rw[h]at h9;exact⟨h,h9⟩
   ·rw[show aa .eql (m:Int) 1=false by simp[aa];omega]at h9;cases h9
  obtain⟨rfl,h3⟩:=h2;refine gR ?_;exact jp (by rw[LO hm h3];exact Sub.nil _ _ _)
 have h2:m=1->bc (a.take 1)=false:=by
  intro h;have h9:=t40;rw[h]at h9;exact h9
 have h3:=LI hm h1 h2;refine gs (co (.tmp rfl) (.none _) (.some _ (.tmp rfl) oz) T53 rfl T106 rfl oz (by have:=hm.le;simp;omega) rfl) ?_;refine gc (by have h9:=Ue ((a.drop 0).take m) (fun q hq=>hs q (adl (agr hq))) (by simp;omega);have h8:=h9;rw[<- uA]at h9;exact h9) ?_;refine af ?_;rw[h3];simp[nA,map_take]
theorem Ab(d:Nat)(hd:acm d 1000=true)(a:List Rat)(n:Nat)(hl:a.length<=n)(hn:n<=1099511627776) :
  Con prog 414 [nA a,i64 n] [] (.ms d 3 0 n) [(d,some (.row 3 ((aP a n).map qA)))]:=by
 refine gF func414 (fun k z h=>by cases h) ?_;refine gs (gX (.tmp rfl) T53 rfl T106 rfl rfl oz (by dsimp only;omega) rfl) ?_;refine gs (S8 (.tmp rfl) rfl (by simp) (.tmp rfl) T53 rfl T106 rfl rfl (by simp;omega) rfl) ?_ (3,0);refine gW (Wk.of (sl:=[pP 5 (.ms 7 3 0 n)]) (hp:=[pP 7 (.row 3 ((aP a n).map qA))]) (.cons rfl (Sub.of (by simp)) .nil) (.cons rfl (L9 a n hl) .nil)) ?_;refine gR ?_;exact aE.own1 rfl hd rfl
theorem AN(a:List Rat)(n:Nat)(hl:a.length<=n)(hn:n<=1099511627776):FP 414 [nA a,i64 n] (nA (aP a n)):=by
 have h:=Con.freeze (by rw[afm,dF hl];omega) (Ab 0 rfl a n hl hn);rw[agw,af4 (by rw[afm,dF hl];exact afq _)]at h;exact h
theorem oJ(a b:List Rat)(ha:∀q∈a,Qs q)(hb:∀q∈b,Qs q)(la:a.length<=1099511627776)(lb:b.length<=1099511627776):FP 334 [nA a,nA b] (nA (bN a b)):=by
 obtain⟨n,hn⟩:∃n,n=max a.length b.length:=⟨_,rfl⟩
 have hwa:=dF (show a.length<=n by omega);have hwb:=dF (show b.length<=n by omega);have hp:=d9 (a:=a) (b:=b);rw[<- hn]at hp;have qa:∀q∈aP a n,Qs q:=fun q hq=>by rcases aft.1 hq with h |h;exact ha q h;(rw[(ad4.1 h).2];exact Qs.zero)
 have qb:∀q∈aP b n,Qs q:=fun q hq=>by rcases aft.1 hq with h |h;exact hb q h;(rw[(ad4.1 h).2];exact Qs.zero)
 refine ai func334 ?_;refine gl ?_;refine gl ?_;refine gs (sV (.tmp rfl) (.tmp rfl) rfl) ?_ (2,0);refine gW (Wk.of (sl:=[pP 0 (nA a),pP 1 (nA b),pP 5 (i64 n)]) (hp:=[]) (.k (.k (.cons rfl (Sub.int oz) .nil))) .nil) ?_;refine go ?_;refine gt (aF (Ab 900 rfl a n oz oz) (ce rfl rfl) aG rfl rfl) ?_;refine gc (AN b n oz oz) ?_;refine aL [1,19] [] (fun(i:Nat)=>[pP 0 (.ms 900 3 0 n),pP 20 (i64 i)]) (fun i=>[pP 900 (.row 3 (((bN a b).take i++(aP a n).drop i).map qA))]) (fun i=>i<=n) (fun i=>n-i) 0 (afz _) ?_;rintro i hi K1 J1;refine gC (fun z=>?_) (fun z=>?_) (st2:=(8,0))
 ·have hin:i<n:=by simpa[aa] using z
  have hmx:=B1 (p:=bN a b) (w:=aP a n) (i:=i) oz oz;have hqa:=(qa _ (vZ (i:=i) oz)).ok;have hqb:=(qb _ (vZ (i:=i) oz)).ok;refine gs (bi (n:=i) (.tmp rfl) (.tmp rfl) T53 rfl T106 rfl oz oz rfl) ?_;refine gs (cF (.tmp rfl) rfl (aq hmx) T106 rfl rfl rfl) ?_;refine gi (aq (getD_some (i:=i) (l:=aP b n) oz)) ?_;refine gc (xh (rt ((aP a n).getD i 0)) (rt ((aP b n).getD i 0)) hqa hqb) ?_;refine gs (bi (n:=i) (.tmp rfl) (.tmp rfl) T53 rfl T106 rfl oz oz rfl) ?_;refine gs (cw (.tmp rfl) rfl (aq hmx) rfl (.tmp rfl) rfl rfl T106 rfl rfl) ?_;refine gD ?_ (7,0);refine gW (Wk.of (sl:=[pP 0 (.ms 900 3 0 n),pP 1 (nA (aP b n)),pP 19 (i64 n),pP 20 (i64 i)]) (hp:=[pP 900 (.row 3 (((bN a b).take (i+1)++(aP a n).drop (i+1)).map qA))]) bj (.cons rfl (BlkSub.of (by rw[DE oz oz (by rw[I8,<- hn,bq,bq])])) .nil)) ?_;refine ga aK ?_;exact aH J1 (i+1) hin
 have hin:i=n:=by have:n<=i:=(by simpa[aa]using z);omega
 refine gW ((Wk.freeze (k:=900) rfl).trans<|Wk.of (sl:=[pP 0 (nA (bN a b))]) (hp:=[]) (.cons rfl (Sub.of (by rw[cz (by simp;omega),hin,ado oz,af4 oz,adt];rfl)) .nil) .nil) ?_;refine af ?_;rfl
theorem rC(a:List Rat)(ha:∀q∈a,Qs q)(la:a.length<=1099511627776):FP 251 [nA a] (nA (b8 a)):=by
 obtain⟨n,hn⟩:∃n,n=a.length:=⟨_,rfl⟩
 refine ai func251 ?_;refine gl ?_;refine gs (gX (.tmp rfl) T53 rfl T106 rfl rfl oz (by dsimp only;omega) rfl) ?_ (2,0);refine gW (Wk.of (sl:=[pP 0 (nA a),pP 3 (.ms 7 3 0 n)]) (hp:=[pP 7 (.row 3 ((aP [] n).map qA))]) (.k (.cons rfl (Sub.of (by simp[hn])) .nil)) (.cons rfl (BlkSub.of_ (L9 [] n (by simp)) (by rw[hn];rfl)) .nil)) ?_;refine gl ?_;refine aL [0] [] (fun(i:Nat)=>[pP 3 (.ms 7 3 0 n),pP 9 (i64 n),pP 10 (i64 i)]) (fun i=>[pP 7 (.row 3 (((b8 a).take i++(aP [] n).drop i).map qA))]) (fun i=>i<=n) (fun i=>n-i) 0 (afz _) ?_ (h1:=(.k (.cons rfl (Sub.int oz) (.k .nil))));rintro i hi K1 J1;refine gC (fun z=>?_) (fun z=>?_) (st2:=(7,0))
 ·have hin:i<n:=by simpa[aa] using z
  have hm1:=fO (a:=a);have hm2:=dF (a:=[]) (n:=n) (by simp);have hmx:=B1 (p:=b8 a) (w:=aP [] n) (i:=i) oz oz;have hqa:=(ha _ (vZ (i:=i) oz)).ok;refine gi (aq (getD_some (i:=i) oz)) ?_;refine gc (D6 (rt (a.getD i 0)) hqa) ?_;refine gs (bi (n:=i) (.tmp rfl) (.tmp rfl) T53 rfl T106 rfl oz oz rfl) ?_;refine gs (cw (.tmp rfl) rfl (aq hmx) rfl (.tmp rfl) rfl rfl T106 rfl rfl) ?_ (6,0);refine gW (Wk.of (sl:=[pP 0 (nA a),pP 3 (.ms 7 3 0 n),pP 9 (i64 n),pP 10 (i64 i)]) (hp:=[pP 7 (.row 3 (((b8 a).take (i+1)++(aP [] n).drop (i+1)).map qA))]) bj (.cons rfl (BlkSub.of (by rw[DE oz oz (by rw[Xi,bq])])) .nil)) ?_;refine ga aK ?_;exact aH J1 (i+1) hin
 have hin:i=n:=by have:n<=i:=(by simpa[aa]using z);omega
 have hm1:=fO (a:=a);have hm2:=dF (a:=[]) (n:=n) (by simp);refine gW ((Wk.freeze (k:=7) rfl).trans<|Wk.of (sl:=[pP 3 (nA (b8 a))]) (hp:=[]) (.cons rfl (Sub.of (by rw[cz (by simp;omega),hin,ado oz,af4 oz,adt];rfl)) .nil) .nil) ?_;refine af ?_;rfl
theorem xy(a b:List Rat)(n:Nat)(la:a.length<=n)(lb:b.length<=n)(hn:n<=274877906944):FP 362 [nA a,nA b,i64 n] (nA (dj a b n)):=by
 refine ai func362 ?_;refine gt (aF (Ab 900 rfl a n la oz) (ce rfl rfl) aG rfl rfl) ?_;refine gc (AN b n lb oz) ?_;refine gs (n8 (.tmp rfl) rfl (by simp[dF la]) (.tmp rfl) T53 rfl T106 rfl rfl (by simp[dF lb];omega) rfl rfl) ?_;refine af ?_;rw[<- agc];rfl
theorem rV(ts:LL)(m r:Nat)(ht:f8 ts m r)(hm:m<=5)(hml:m<=ts.length)(k:Nat):∀(j:Nat)(a b:List Rat)(e f:Nat),j<=m->j<=k->Nl j a->Nl j b->Cb e a->Cb f b->e+f+eB r j<4398046511104 ->
  FP 335 [aB ts,nA a,nA b] (nA (pT ts k a b)):=by
 induction k using Nat.strongRecOn
 rename_i k ih;intro j a b e f hj hjk ha hb ca cb hs;have hla:=ha.len5 oz;have hlb:=hb.len5 oz;refine ai func335 ?_;refine gl ?_;refine gl ?_;refine W5 [3] [3] (fun(x y:List Rat)(e1 f1:Nat)=>[pP 1 (nA x),pP 2 (nA y)]) (fun _ _ _ _=>[]) (fun x y e1 f1=>y.length<=x.length/\Nl j x/\Nl j y/\Cb e1 x/\Cb f1 y/\e1+f1=e+f/\pT ts k a b=pT ts k x y) ?_ ?_
 ·intro K1 J1;refine gC (fun z=>?_) (fun z=>?_)
  ·have h1:a.length<b.length:=by have:=z; simp only [aa,ag0] at this; omega
   exact I3 J1 b a f e ⟨by omega,hb,ha,cb,ca,by omega,AU ts k a b h1⟩
  have h1:b.length<=a.length:=by have:=z;simp only[aa,decide_eq_false_iff_not]at this;omega
  exact I3 J1 a b e f ⟨h1,ha,hb,ca,cb,rfl,rfl⟩
 rintro x y e1 f1 ⟨hyx,hx,hy,cx,cy,hef,hp⟩;have hlx:=hx.len5 oz;have hly:=hy.len5 oz;have qx:∀q∈x,Qs q:=fun q hq=>cx.qs oz hq
 have qy:∀q∈y,Qs q:=fun q hq=>cy.qs oz hq
 rw[hp];refine gc (FM x qx oz) ?_;refine bn (fun _=>(FM y qy oz)) ?_;refine gC (fun t21=>?_) (fun t21=>?_)
 ·have h1:bc x=true\/bc y=true:=by
   have:=t21;cases hz:bc x
   ·rw[hz]at this;exact .inr this
   ·exact .inl rfl
  refine gR ?_;exact jp (by rw[Xw hyx h1];exact Sub.nil _ _ _)
 have h1:¬(bc x=true\/bc y=true):=by
  have:=t21;cases hz:bc x
  ·rw[hz]at this;intro h;rcases h with h |h;cases h;(rw[show bc y=false from this]at h;cases h)
  ·rw[hz]at this;cases this
 refine gl ?_;refine gC (fun z=>?_) (fun z=>?_)
 ·have h2:x.length=1:=by have:=z; simp only [aa,beq_iff_eq] at this; omega
  obtain⟨p,rfl⟩:=adi.1 h2;have h3:y≠[]:=fun h=>h1 (.inr (by rw[h];rfl))
  obtain⟨q,rfl⟩:∃q,y=[q]:=adi.1 (by have:=ad0.2 h3;simp at hyx;omega);refine gi rfl ?_;refine gi rfl ?_;refine gc (H9 (rt p) (rt q) (qx p (by simp)).ok (qy q (by simp)).ok) ?_;refine gD ?_;refine af ?_;rw[Yt h1,bq,bq];rfl
 have h2:x.length≠1:=by have:=z;simp only[aa,beq_eq_false_iff_ne,ne_eq]at this;omega
 have h3:x≠[]:=fun h=>h1 (.inl (by rw[h];rfl))
 obtain⟨i,hij,hxl⟩:∃i,i+1<=j/\x.length=2^(i+1):=by
  rcases nE hx with h |h |h
  ·exact ag5 (adp.1 h) h3
  ·exact ag5 h h2
  ·exact h
 obtain⟨k',rfl⟩:∃k',k=k'+1:=⟨k-1,by omega⟩
 have hp2:=abw i;have hpi:2^i<=32:=bU (b:=5) oz;have hps:2^(i+1)=2*2^i:=by rw[acq];omega
 have hes:eB r (i+1)<=eB r j:=jX r hij;have hee:eB r (i+1)=2*eB r i+r+2:=rfl;have n1:Nl i (x.take (2^i)):=.inr ⟨i,afq _,fB hxl⟩;have n2:Nl i (x.drop (2^i)):=.inr ⟨i,afq _,fJ hxl⟩;refine gl ?_;refine gs (eh (.tmp rfl) (.const _) oz (show _=((2^i:Nat):Int) by rw[fi oz,hxl,eI]) rfl) ?_;refine gs (co (.tmp rfl) (.none _) (.some _ (.tmp rfl) oz) T53 rfl T106 rfl oz (by simp only[afm];omega) rfl) ?_;refine gs (co (.tmp rfl) (.some _ (.tmp rfl) oz) (.none _) T53 rfl T106 rfl (by simp only[afm];omega) oz rfl) ?_;refine gD ?_ (9,0);refine gW (Wk.of (sl:=[pP 1 (nA x),pP 2 (nA y),pP 3 (.ptr 3 0),pP 7 (i64 ((2^i:Nat):Int)),pP 8 (nA (x.take (2^i))),pP 9 (nA (x.drop (2^i)))]) (hp:=[pP 3 (.box [.lst 1 (ts.map nA)])]) (.k (.k (.k (.k (.cons rfl (Sub.of (kg x (2^i))) (.cons rfl (Sub.of (kT x (2^i))) .nil)))))) (.k .nil)) ?_;refine gl ?_;refine gC (fun z=>?_) (fun z=>?_)
 ·have h4:y.length<=2 ^ i:=by have:=z; simp only [aa,ag0] at this; omega
  have n3:Nl i y:=Zg hy h4;have s1:=gG ts m ht.1 i k' _ _ oz oz n1 n3;have s2:=gG ts m ht.1 i k' _ _ oz oz n2 n3;refine gc (ih k' oz i _ _ e1 f1 oz oz n1 n3 cx.take cy oz) ?_;refine gc (ih k' oz i _ _ e1 f1 oz oz n2 n3 cx.drop cy oz) ?_;refine gc (xy _ _ (2^i) s1.1.le s2.1.le oz) ?_;refine gD ?_;refine af ?_;rw[aau hxl h4 h1]
 have h4:¬y.length<=2^i:=by have:=z;simp only[aa,decide_eq_false_iff_not]at this;omega
 have hyl:=NB hy h4 oz;have n3:Nl i (y.take (2^i)):=.inr ⟨i,afq _,fB hyl⟩;have n4:Nl i (y.drop (2^i)):=.inr ⟨i,afq _,fJ hyl⟩;have nd:=ht.1 i oz;have cd:=ht.2.cb i;have s1:=gG ts m ht.1 i k' _ _ oz oz n1 n3;have s2:=gG ts m ht.1 i k' _ _ oz oz n2 n4;have s3:=gG ts m ht.1 i k' _ _ oz oz s2.1 nd;have s4:=gG ts m ht.1 i k' _ _ oz oz n1 n4;have s5:=gG ts m ht.1 i k' _ _ oz oz n2 n3;have c1:=Cb.mul ht (k:=k') (show i<=m by omega) oz n1 n3 cx.take cy.take;have c2:=Cb.mul ht (k:=k') (show i<=m by omega) oz n2 n4 cx.drop cy.drop;have c3:=Cb.mul ht (k:=k') (show i<=m by omega) oz s2.1 nd c2 cd;have c4:=Cb.mul ht (k:=k') (show i<=m by omega) oz n1 n4 cx.take cy.drop;have c5:=Cb.mul ht (k:=k') (show i<=m by omega) oz n2 n3 cx.drop cy.take;have hpT:=V3 (ts:=ts) (k:=k') hxl h4 hyx h1;refine gs (co (.tmp rfl) (.none _) (.some _ (.tmp rfl) oz) T53 rfl T106 rfl oz (by simp only[afm];omega) rfl) ?_;refine gs (co (.tmp rfl) (.some _ (.tmp rfl) oz) (.none _) T53 rfl T106 rfl (by simp only[afm];omega) oz rfl) ?_;refine gD ?_ (12,0);refine gW (Wk.of (sl:=[pP 1 (nA x),pP 3 (.ptr 3 0),pP 7 (i64 ((2^i:Nat):Int)),pP 8 (nA (x.take (2^i))),pP 9 (nA (x.drop (2^i))),pP 10 (nA (y.take (2^i))),pP 11 (nA (y.drop (2^i)))]) (hp:=[pP 3 (.box [.lst 1 (ts.map nA)])]) (.k (.k (.k (.k (.k (.cons rfl (Sub.of (kg y (2^i))) (.cons rfl (Sub.of (kT y (2^i))) .nil))))))) (.k .nil)) ?_;refine gc (uE qA x oz) ?_;refine ga (show _=(i:Int) by rw[hxl,rU,dp oz];omega) ?_;refine gi (lW (j:=i) oz) ?_;refine gD ?_;refine gc (ih k' oz i _ _ e1 f1 oz oz n1 n3 cx.take cy.take oz) ?_;refine gc (ih k' oz i _ _ e1 f1 oz oz n2 n4 cx.drop cy.drop oz) ?_;refine gc (ih k' oz i _ _ _ _ oz oz s2.1 nd c2 cd oz) ?_;refine gc (oJ _ _ (fun q hq=>c1.qs oz hq) (fun q hq=>c3.qs oz hq) (by have:=s1.1.le;omega) (by have:=s3.1.le;omega)) ?_;refine gD ?_;refine gc (ih k' oz i _ _ e1 f1 oz oz n1 n4 cx.take cy.drop oz) ?_;refine gc (ih k' oz i _ _ e1 f1 oz oz n2 n3 cx.drop cy.take oz) ?_;refine gc (oJ _ _ (fun q hq=>c4.qs oz hq) (fun q hq=>c5.qs oz hq) (by have:=s4.1.le;omega) (by have:=s5.1.le;omega)) ?_;refine gc (xy _ _ (2^i) (by have:=s1.1.le;have:=s3.1.le;rw[d9];omega) (by have:=s4.1.le;have:=s5.1.le;rw[d9];omega) oz) ?_;refine gD ?_;refine af ?_;rw[hpT]
theorem BN(ts:LL)(m r:Nat)(ht:f8 ts m r)(hm:m<=5)(hml:m<=ts.length)(i:Nat)(a:List Rat)(e:Nat)(hi:i+1<=m)(hal:a.length=2^(i+1))(ca:Cb e a)(hs:4*e+3*eB r i+r+1<4398046511104) :
  FP 317 [aB ts,nA a] (nA (iW ts i a)):=by
 have hp2:=abw i;have hpi:2^i<=32:=bU (b:=5) oz;have hps:2^(i+1)=2*2^i:=by rw[acq];omega
 have n1:Nl i (a.take (2^i)):=.inr ⟨i,afq _,fB hal⟩;have n2:Nl i (a.drop (2^i)):=.inr ⟨i,afq _,fJ hal⟩;have nd:=ht.1 i oz;have cd:=ht.2.cb i;have s1:=gG ts m ht.1 i i _ _ oz oz n1 n1;have s2:=gG ts m ht.1 i i _ _ oz oz n2 n2;have s3:=gG ts m ht.1 i i _ _ oz oz s2.1 nd;have c1:=Cb.mul ht (k:=i) (show i<=m by omega) oz n1 n1 ca.take ca.take;have c2:=Cb.mul ht (k:=i) (show i<=m by omega) oz n2 n2 ca.drop ca.drop;have c3:=Cb.mul ht (k:=i) (show i<=m by omega) oz s2.1 nd c2 cd;refine ai func317 ?_;refine gl ?_;refine gs (eh (.tmp rfl) (.const _) oz (show _=((2^i:Nat):Int) by rw[fi oz,hal,eI]) rfl) ?_;refine gs (co (.tmp rfl) (.none _) (.some _ (.tmp rfl) oz) T53 rfl T106 rfl oz (by simp only[afm];omega) rfl) ?_;refine gs (co (.tmp rfl) (.some _ (.tmp rfl) oz) (.none _) T53 rfl T106 rfl (by simp only[afm];omega) oz rfl) ?_;refine gD ?_ (3,0);refine gW (Wk.of (sl:=[pP 1 (nA a),pP 2 (.ptr 2 0),pP 6 (nA (a.take (2^i))),pP 7 (nA (a.drop (2^i)))]) (hp:=[pP 2 (.box [.lst 1 (ts.map nA)])]) (.k (.k (.cons rfl (Sub.of (kg a (2^i))) (.cons rfl (Sub.of (kT a (2^i))) .nil)))) (.k .nil)) ?_;refine gc (rV ts m r ht hm hml i i _ _ e e oz oz n1 n1 ca.take ca.take oz) ?_;refine gc (rV ts m r ht hm hml i i _ _ e e oz oz n2 n2 ca.drop ca.drop oz) ?_;refine gc (uE qA a oz) ?_;refine ga (show _=(i:Int) by rw[hal,rU,dp oz];omega) ?_;refine gi (lW (j:=i) oz) ?_;refine gc (rV ts m r ht hm hml i i _ _ _ _ oz oz s2.1 nd c2 cd oz) ?_;refine gc (rC _ (fun q hq=>c3.qs oz hq) (by have:=s3.1.le;omega)) ?_;refine gc (oJ _ _ (fun q hq=>c1.qs oz hq) (fun q hq=>c3.minus.qs oz hq) (by have:=s1.1.le;omega) (by have:=s3.1.le;rw[fO];omega)) ?_;refine gD ?_;refine af ?_;rfl
theorem rQ(ts:LL)(m r:Nat)(ht:f8 ts m r)(hm:m<=5)(hml:m<=ts.length)(j:Nat):∀(a:List Rat)(e:Nat),j<=m->Nl j a->Cb e a->sB r j e<4398046511104 ->
  FP 193 [aB ts,nA a] (i64 (T.sgn (am ts) j (ae j a))):=by
 induction j using Nat.strongRecOn
 rename_i j ih;intro a e hj ha ca hs;have hse:=mI r j e;have qa:∀q∈a,Qs q:=fun q hq=>ca.qs oz hq
 obtain⟨s,hsa⟩:∃s,s=sh j (ae j a):=⟨_,rfl⟩
 have hsd:ae j s=ae j a:=by rw[hsa,bK]
 have hsn:Nl j s:=by rw[hsa];exact eS j _
 have cs:Cb e s:=by rw[hsa];exact ca.sh ha
 have hls:=hsn.len5 oz;rw[<- hsd];refine ai func193 ?_;refine gc (hsa▸lN a oz ha qa) ?_;refine gl ?_;refine gC (fun z=>?_) (fun z=>?_)
 ·have h1:s=[]:=adp.1 (by have:=z;simp only[aa,beq_iff_eq]at this;omega);refine af ?_;rw[h1,iX,T.sgn_zero];rfl
 have h1:s.length≠0:=by have:=z;simp only[aa,beq_eq_false_iff_ne,ne_eq]at this;omega
 refine gl ?_;refine gC (fun z=>?_) (fun z=>?_)
 ·have h2:s.length=1:=by have:=z; simp only [aa,beq_iff_eq] at this; omega
  obtain⟨q,rfl⟩:=adi.1 h2;refine gi rfl ?_;refine gc (xl (rt q) (cs.qs oz (by simp:q∈[q])).ok) ?_;refine af ?_;rw[lU,T.sgn_ofQ,bq]
 have h2:s.length≠1:=by have:=z;simp only[aa,beq_eq_false_iff_ne,ne_eq]at this;omega
 obtain⟨i,hij,hsl⟩:∃i,i+1<=j/\s.length=2^(i+1):=by
  rcases nE hsn with h |h |h
  ·exact ag5 h h1
  ·exact ag5 h h2
  ·exact h
 have hp2:=abw i;have hpi:2^i<=32:=bU (b:=5) oz;have hps:2^(i+1)=2*2^i:=by rw[acq];omega
 have n1:Nl i (s.take (2^i)):=.inr ⟨i,afq _,fB hsl⟩;have n2:Nl i (s.drop (2^i)):=.inr ⟨i,afq _,fJ hsl⟩;have nd:=ht.1 i oz;have cd:=ht.2.cb i;obtain⟨nn,dn,cn⟩:=wT ht oz hsl cs;have b1:sB r i (4*e+3*eB r i+r+1)<=sB r j e:=rz r e hij;have b2:sB r i e<=sB r i (4*e+3*eB r i+r+1):=nf r i oz;have b3:sB r i r<=sB r i (4*e+3*eB r i+r+1):=nf r i oz;have b4:=mI r i (4*e+3*eB r i+r+1);have k1:=ih i oz (s.take (2^i)) e oz n1 cs.take oz;have k2:=ih i oz (s.drop (2^i)) e oz n2 cs.drop oz;have k3:=ih i oz _ r oz nd cd oz;have k4:=ih i oz _ _ oz nn cn oz
 have hres:T.sgn (am ts) j (ae j s)=T.sgn3 (T.sgn (am ts) i (ae i (s.take (2^i)))) (T.sgn (am ts) i (ae i (s.drop (2^i)))) (T.sgn (am ts) i (ae i (ts.getD i []))) (T.sgn (am ts) i (ae i (iW ts i s))):=by
  rw[pN _ oz hij,dn];rfl
 have v1:=T.sgn_cases (am ts) i (ae i (s.take (2^i)));have v4:=T.sgn_cases (am ts) i (ae i (iW ts i s));refine gl ?_;refine gs (eh (.tmp rfl) (.const _) oz (show _=((2^i:Nat):Int) by rw[fi oz,hsl,eI]) rfl) ?_;refine gs (co (.tmp rfl) (.none _) (.some _ (.tmp rfl) oz) T53 rfl T106 rfl oz (by simp only[afm];omega) rfl) ?_;refine gc (by have h9:=k1;rw[<- kg]at h9;exact h9) ?_;refine gs (co (.tmp rfl) (.some _ (.tmp rfl) oz) (.none _) T53 rfl T106 rfl (by simp only[afm];omega) oz rfl) ?_;refine gc (by have h9:=k2;rw[<- kT]at h9;exact h9) ?_;refine gD ?_;refine gc (uE qA s oz) ?_;refine ga (show _=(i:Int) by rw[hsl,rU,dp oz];omega) ?_;refine gi (lW (j:=i) oz) ?_;refine gc k3 ?_;refine gD ?_;refine gC (fun z=>?_) (fun z=>?_)
 ·have e1:T.sgn (am ts) i (ae i (ts.getD i []))=0:=by simpa[aa] using z
  refine af ?_;rw[hres];unfold T.sgn3;rw[agz e1]
 have e1:¬T.sgn (am ts) i (ae i (ts.getD i []))=0:=by simpa[aa]using z
 refine gC (fun z=>?_) (fun z=>?_)
 ·have e2:T.sgn (am ts) i (ae i (s.take (2^i)))=T.sgn (am ts) i (ae i (s.drop (2^i)))\/T.sgn (am ts) i (ae i (s.drop (2^i)))=0:=Er z;refine af ?_;rw[hres];unfold T.sgn3;rw[agy e1,agz e2]
 have e2:¬(T.sgn (am ts) i (ae i (s.take (2^i)))=T.sgn (am ts) i (ae i (s.drop (2^i)))\/T.sgn (am ts) i (ae i (s.drop (2^i)))=0):=DJ z;refine gC (fun z=>?_) (fun z=>?_)
 ·have e3:T.sgn (am ts) i (ae i (s.take (2 ^ i)))=0:=by simpa[aa] using z
  refine af ?_;rw[hres];unfold T.sgn3;rw[agy e1,agy e2,agz e3]
 have e3:¬T.sgn (am ts) i (ae i (s.take (2^i)))=0:=by simpa[aa]using z
 refine gc (BN ts m r ht hm hml i s e oz hsl cs oz) ?_;refine gc k4 ?_;refine ga (Dn v1 v4) ?_;refine gD ?_;refine af ?_;rw[hres];unfold T.sgn3;rw[agy e1,agy e2,agy e3];rfl
theorem zG(rs:List (List Rt))(r:Nat)(h:TR rs r):FP 138 [a5 rs] (cf (aZ rs)):=by
 have hll:=h.ll;have hr:=h.le;refine ai func138 ?_;refine gl ?_;refine gC (fun z=>?_) (fun z=>?_)
 ·have h5:5<rs.length:=by have:=z; simp only [aa,ag0] at this; omega
  refine af ?_;rw[Hv h5];rfl
 have h5:rs.length<=5:=by have:=z;simp only[aa,decide_eq_false_iff_not]at this;omega
 refine gl ?_;refine aL [1,13,14] [1] (fun(k:Nat)=>[pP 15 (i64 k)]) (fun _=>[]) (fun k=>k<=rs.length/\∀j,j<k->iO rs j) (fun k=>rs.length-k) 0 ⟨afz _,fun j hj=>by omega⟩ ?_;rintro k ⟨hk,hj⟩ K1 J1;refine gC (fun z=>?_) (fun z=>?_)
 ·have hin:k<rs.length:=by simpa[aa] using z
  obtain⟨d,hd⟩:=ay hin;have hdm:=afl hd;have hdl:=h.len d hdm;refine gi (aq hd) ?_;refine gl ?_;refine gs (i6 (.const _) (.tmp rfl) oz (sZ oz) rfl) ?_;refine gC (fun z=>?_) (fun z=>?_)
  ·have h1:d.length≠2 ^ k:=by have:=z; simp only [aa,bne_iff_ne,ne_eq] at this; omega
   refine af ?_;rw[LU h5 hd hj h1];rfl
  have h1:d.length=2^k:=by have:=z;simp only[aa,bne_eq_false_iff_eq]at this;omega
  have htl:(rs.take k).length=k:=by simp;omega
  have hnu:=MC (rs.take k) d (h.ok d hdm) hdl oz;rw[htl]at hnu;refine gs (co (.tmp rfl) (.none _) (.some _ (.tmp rfl) oz) T42 rfl T53 rfl oz (by simp only[afm];omega) rfl) ?_ (9,0);refine gW (Wk.of (sl:=[pP 1 (.ptr 1 0),pP 3 (i64 k),pP 4 (nR d),pP 5 (.ptr 5 0),pP 13 (.lst 1 (rs.map nR)),pP 14 (i64 rs.length),pP 15 (i64 k)]) (hp:=[pP 1 (.box [.lst 1 (rs.map nR)]),pP 5 (.box [.lst 1 ((rs.take k).map nR)])]) bj (.k (.cons rfl (BlkSub.boxL (.cons (.of (PN nR rs k)) .nil) rfl) .nil))) ?_;refine gc hnu ?_;refine gC (fun z=>?_) (fun z=>?_)
  ·have h2:=eQ z;refine af ?_;rw[FS h5 hd hj h1 h2]
  have h2:=fd z;have hts:=GG (ts:=llq rs) (fun j hjk=>(hj j hjk).nl) h.rb;have hq:=xY h2 (h.ok d hdm);have hcb:Cb r (lq d):=by have:=h.rb.cb k;rw[uH,afn,hd]at this;exact this
  have hsg:FP 193 [a5 (rs.take k),nR d] (i64 (T.sgn (am (llq rs)) k (ae k (lq d)))):=by
   have h9:=rQ ((llq rs).take k) k r hts oz (by simp;omega) k (lq d) r (afq _) hq.2 hcb (l0 (afq k) (by have:=h.three;omega) hr (by have:=dl k;omega));rw[T.sgn_congr k (fun j hjk=>ye hjk)]at h9;rw[XW h.ok oz hj,hq.1,cT];rw[<- hq.1];exact h9
  refine gc hsg ?_;refine gC (fun z=>?_) (fun z=>?_)
  ·have h3:T.sgn (am (llq rs)) k (ae k (lq d))<0:=by simpa[aa] using z
   refine af ?_;rw[MA h5 hd hj h1 h2 h3];rfl
  have h3:¬T.sgn (am (llq rs)) k (ae k (lq d))<0:=by simpa[aa]using z
  refine ga aK ?_;exact aH J1 (k+1) ⟨hin,fun j hjk=>by rcases afv j k with h9 |h9;exact hj j h9;(have:j=k:=by omega);subst this;exact Fg hd h1 h2 h3⟩
 have hin:k=rs.length:=by have:rs.length<=k:=(by simpa[aa]using z);omega
 subst hin;refine af ?_;rw[GX h5 hj];rfl
theorem oH(rs:List (List Rt))(r:Nat)(h:TR rs r)(xs:List (List Rt))(hx:∀a∈xs,(∀x∈a,x.ok)/\a.length<=281474976710656)(hl:xs.length<=281474976710656):FP 192 [a5 rs,.lst 1 (xs.map nR)] (cf (aQ rs xs)):=by
 refine ai func192 ?_;refine gc (zG rs r h) ?_;refine gC (fun z=>?_) (fun z=>?_)
 ·have h1:=eQ z;refine af ?_;rw[CM h1]
 have h1:=fd z;refine gl ?_;refine aL [2,14,15] [2] (fun(i:Nat)=>[pP 16 (i64 i)]) (fun _=>[]) (fun i=>i<=xs.length/\∀x∈xs.take i,bH rs.length x=0) (fun i=>xs.length-i) 0 ⟨afz _,fun x hx=>by simp at hx⟩ ?_;rintro i ⟨hi,hj⟩ K1 J1;refine gC (fun z=>?_) (fun z=>?_)
 ·have hin:i<xs.length:=by simpa[aa] using z
  obtain⟨a,ha⟩:=ay hin;have hok:=hx a (afl ha);refine gi (aq ha) ?_;refine gc (MC rs a hok.1 hok.2 h.ll) ?_;refine gC (fun z=>?_) (fun z=>?_)
  ·have h2:=eQ z;refine af ?_;rw[uR h1 ha hj h2]
  have h2:=fd z;refine ga aK ?_;exact aH J1 (i+1) ⟨hin,fun x hx=>by rw[eH ha]at hx;rcases aft.1 hx with h9 |h9;exact hj x h9;(rw[adc.1 h9];exact h2)⟩
 have hin:i=xs.length:=by have:xs.length<=i:=(by simpa[aa]using z);omega
 subst hin;rw[af1]at hj;refine af ?_;rw[nZ h1 hj];rfl
theorem PJ(rs:List (List Rt))(r:Nat)(h:TR rs r)(a:List Rt)(e:Nat)(ha:NR a e):FP 309 [a5 rs,nR a] (bl (decide (aQ rs [a]=0))):=by
 refine ai func309 ?_;refine gc (oH rs r h [a] (fun x hx=>by rw[adc.1 hx];exact⟨ha.ok,ha.len⟩) (by simp)) ?_;refine af ?_;rw[yq];rfl
theorem Fc(rs:List (List Rt))(r:Nat)(h:TR rs r)(a:List Rt)(e:Nat)(ha:NR a e)(he:e<=lm rs.length) :
  FP 128 [a5 rs,nR a] (.tup [nA (if aQ rs [a]=0 then sh rs.length (T.neg rs.length (ae rs.length (lq a)))else[]),cf (aQ rs [a])]):=by
 have hlm:=gd rs.length;refine ai func128 ?_;refine gc (oH rs r h [a] (fun x hx=>by rw[adc.1 hx];exact⟨ha.ok,ha.len⟩) (by simp)) ?_;refine gC (fun z=>?_) (fun z=>?_) (st2:=(77777,0))
 ·have h1:=eQ z;refine gR ?_;exact gy (by rw[agy h1];exact Sub.tup (.cons (.nil _ _ _) (.cons (.refl _) .nil)))
 have h1:=fd z;obtain⟨h2,h3⟩:=gL h1;obtain⟨tw,_⟩:=bZ h h2;obtain⟨e1,na⟩:=ha.num (h3 a (by simp));have h5:rs.length<=5:=by have:=tw.five;rwa [afm]at this
 have hl:=na.len5 h5;have qa:∀q∈lq a,Qs q:=fun q hq=>ha.cb.qs oz hq
 have qm:∀q∈b8 (lq a),Qs q:=fun q hq=>ha.cb.minus.qs oz hq
 have nm:=ol na;refine gW (Wk.of (sl:=[pP 1 (nA (lq a)),pP 2 (.ptr 2 0),pP 6 (cf (aQ rs [a]))]) (hp:=[pP 2 (.box [.lst 1 (rs.map nR)])]) (.cons rfl (Sub.of e1) (.k (.k .nil))) (.k .nil)) ?_;refine gc (rC _ qa oz) ?_;refine gc (lN _ h5 nm qm) ?_;refine bg ?_;rw[agz h1,h1,kK];rfl
theorem NF(rs:List (List Rt))(r:Nat)(h:TR rs r)(a b:List Rt)(e f:Nat)(ha:NR a e)(hb:NR b f)(he:e+f<=lm rs.length) :
  FP 250 [a5 rs,nR a,nR b] (.tup [nA (if aQ rs [a,b]=0 then sh rs.length (T.add rs.length (ae rs.length (lq a)) (ae rs.length (lq b)))else[]),cf (aQ rs [a,b])]):=by
 have hlm:=gd rs.length;refine ai func250 ?_;refine gc (oH rs r h [a,b] (lL ha hb) (by simp)) ?_;refine gC (fun z=>?_) (fun z=>?_) (st2:=(77777,0))
 ·have h1:=eQ z;refine gR ?_;exact gy (by rw[agy h1];exact Sub.tup (.cons (.nil _ _ _) (.cons (.refl _) .nil)))
 have h1:=fd z;obtain⟨h2,h3⟩:=gL h1;obtain⟨tw,e0⟩:=bZ h h2;obtain⟨e1,na⟩:=ha.num (h3 a (by simp));obtain⟨e2,nb⟩:=hb.num (h3 b (by simp));have h5:rs.length<=5:=by have:=tw.five;rwa [afm]at this
 have hla:=na.len5 h5;have hlb:=nb.len5 h5;have qa:∀q∈lq a,Qs q:=fun q hq=>ha.cb.qs oz hq
 have qb:∀q∈lq b,Qs q:=fun q hq=>hb.cb.qs oz hq
 have qp:∀q∈bN (lq a) (lq b),Qs q:=fun q hq=>(ha.cb.plus hb.cb).qs oz hq
 have np:=mh na nb;refine gW (Wk.of (sl:=[pP 1 (nA (lq a)),pP 2 (nA (lq b)),pP 3 (.ptr 3 0),pP 8 (cf (aQ rs [a,b]))]) (hp:=[pP 3 (.box [.lst 1 (rs.map nR)])]) (.cons rfl (Sub.of e1) (.cons rfl (Sub.of e2) (.k (.k .nil)))) (.k .nil)) ?_;refine gc (oJ _ _ qa qb oz oz) ?_;refine gc (lN _ h5 np qp) ?_;refine bg ?_;rw[agz h1,h1,gj];rfl
theorem XU(rs:List (List Rt))(r:Nat)(h:TR rs r)(a b:List Rt)(e f:Nat)(ha:NR a e)(hb:NR b f)(he:e+f<=lm rs.length) :
  FP 209 [a5 rs,nR a,nR b] (.tup [nA (if aQ rs [a,b]=0 then sh rs.length (T.add rs.length (ae rs.length (lq a)) (T.neg rs.length (ae rs.length (lq b))))else[]),cf (aQ rs [a,b])]):=by
 have hlm:=gd rs.length;refine ai func209 ?_;refine gc (oH rs r h [a,b] (lL ha hb) (by simp)) ?_;refine gC (fun z=>?_) (fun z=>?_) (st2:=(77777,0))
 ·have h1:=eQ z;refine gR ?_;exact gy (by rw[agy h1];exact Sub.tup (.cons (.nil _ _ _) (.cons (.refl _) .nil)))
 have h1:=fd z;obtain⟨h2,h3⟩:=gL h1;obtain⟨tw,e0⟩:=bZ h h2;obtain⟨e1,na⟩:=ha.num (h3 a (by simp));obtain⟨e2,nb⟩:=hb.num (h3 b (by simp));have h5:rs.length<=5:=by have:=tw.five;rwa [afm]at this
 have hla:=na.len5 h5;have hlb:=nb.len5 h5;have qa:∀q∈lq a,Qs q:=fun q hq=>ha.cb.qs oz hq
 have qb:∀q∈lq b,Qs q:=fun q hq=>hb.cb.qs oz hq
 have qm:∀q∈b8 (lq b),Qs q:=fun q hq=>hb.cb.minus.qs oz hq
 have qp:∀q∈bN (lq a) (b8 (lq b)),Qs q:=fun q hq=>(ha.cb.plus hb.cb.minus).qs oz hq
 have np:=mh na (ol nb);refine gW (Wk.of (sl:=[pP 1 (nA (lq a)),pP 2 (nA (lq b)),pP 3 (.ptr 3 0),pP 8 (cf (aQ rs [a,b]))]) (hp:=[pP 3 (.box [.lst 1 (rs.map nR)])]) (.cons rfl (Sub.of e1) (.cons rfl (Sub.of e2) (.k (.k .nil)))) (.k .nil)) ?_;refine gc (rC _ qb oz) ?_;refine gc (oJ _ _ qa qm oz (by rw[fO];omega)) ?_;refine gc (lN _ h5 np qp) ?_;refine bg ?_;rw[agz h1,h1,gj,kK];rfl
theorem Pj(rs:List (List Rt))(r:Nat)(h:TR rs r)(a b:List Rt)(e f:Nat)(ha:NR a e)(hb:NR b f)(he:e+f<=lm rs.length) :
  FP 210 [a5 rs,nR a,nR b] (.tup [nA (if aQ rs [a,b]=0 then sh rs.length (T.mul (am (llq rs)) rs.length (ae rs.length (lq a)) (ae rs.length (lq b)))else[]),cf (aQ rs [a,b])]):=by
 have hr:=h.le;have hlm:=gd rs.length;refine ai func210 ?_;refine gc (oH rs r h [a,b] (lL ha hb) (by simp)) ?_;refine gC (fun z=>?_) (fun z=>?_) (st2:=(77777,0))
 ·have h1:=eQ z;refine gR ?_;exact gy (by rw[agy h1];exact Sub.tup (.cons (.nil _ _ _) (.cons (.refl _) .nil)))
 have h1:=fd z;obtain⟨h2,h3⟩:=gL h1;obtain⟨tw,e0⟩:=bZ h h2;obtain⟨e1,na⟩:=ha.num (h3 a (by simp));obtain⟨e2,nb⟩:=hb.num (h3 b (by simp));have hlen:(llq rs).length=rs.length:=afm _;have h5:rs.length<=5:=by have:=tw.five;omega
 have hla:=na.len5 h5;have hlb:=nb.len5 h5;have htw:=tw.ok;rw[hlen]at htw;have hE:=FQ r h5;have np:=gG (llq rs) rs.length htw.1 rs.length rs.length _ _ (afq _) (afq _) na nb;have cp:=Cb.mul htw (k:=rs.length) (afq rs.length) (afq _) na nb ha.cb hb.cb;have hti:=rV (llq rs) rs.length r htw h5 oz rs.length rs.length _ _ e f (afq _) (afq _) na nb ha.cb hb.cb oz;refine gW (Wk.of (sl:=[pP 1 (nA (lq a)),pP 2 (nA (lq b)),pP 3 (.ptr 3 0),pP 8 (cf (aQ rs [a,b]))]) (hp:=[pP 3 (.box [.lst 1 ((llq rs).map nA)])]) (.cons rfl (Sub.of e1) (.cons rfl (Sub.of e2) (.k (.k .nil)))) (.cons rfl (BlkSub.boxL (.cons (.of (qu e0)) .nil) rfl) .nil)) ?_;refine gc hti ?_;refine gc (lN _ h5 np.1 (fun q hq=>cp.qs oz hq)) ?_;refine bg ?_;rw[agz h1,h1,np.2];rfl
theorem FZ(rs:List (List Rt))(r:Nat)(h:TR rs r)(a b:List Rt)(e f:Nat)(ha:NR a e)(hb:NR b f)(he:e+f+1<=lm rs.length) :
  FP 399 [a5 rs,nR a,nR b] (.tup [i64 (if aQ rs [a,b]=0 then T.sgn (am (llq rs)) rs.length (T.add rs.length (ae rs.length (lq a)) (T.neg rs.length (ae rs.length (lq b))))else 0),cf (aQ rs [a,b])]):=by
 have hr:=h.le;have hlm:=gd rs.length;refine ai func399 ?_;refine gc (oH rs r h [a,b] (lL ha hb) (by simp)) ?_;refine gC (fun z=>?_) (fun z=>?_) (st2:=(77777,0))
 ·have h1:=eQ z;refine bg ?_;rw[agy h1];rfl
 have h1:=fd z;obtain⟨h2,h3⟩:=gL h1;obtain⟨tw,e0⟩:=bZ h h2;obtain⟨e1,na⟩:=ha.num (h3 a (by simp));obtain⟨e2,nb⟩:=hb.num (h3 b (by simp));have hlen:(llq rs).length=rs.length:=afm _;have h5:rs.length<=5:=by have:=tw.five;omega
 have hla:=na.len5 h5;have hlb:=nb.len5 h5;have htw:=tw.ok;rw[hlen]at htw;have qa:∀q∈lq a,Qs q:=fun q hq=>ha.cb.qs oz hq
 have qb:∀q∈lq b,Qs q:=fun q hq=>hb.cb.qs oz hq
 have qm:∀q∈b8 (lq b),Qs q:=fun q hq=>hb.cb.minus.qs oz hq
 have np:=mh na (ol nb);have hsg:=rQ (llq rs) rs.length r htw h5 oz rs.length _ _ (afq _) np (ha.cb.plus hb.cb.minus) (l0 (afq rs.length) (by have:=tw.three;omega) hr oz);refine gW (Wk.of (sl:=[pP 1 (nA (lq a)),pP 2 (nA (lq b)),pP 3 (.ptr 3 0),pP 8 (cf (aQ rs [a,b]))]) (hp:=[pP 3 (.box [.lst 1 ((llq rs).map nA)])]) (.cons rfl (Sub.of e1) (.cons rfl (Sub.of e2) (.k (.k .nil)))) (.cons rfl (BlkSub.boxL (.cons (.of (qu e0)) .nil) rfl) .nil)) ?_;refine gc (rC _ qb oz) ?_;refine gc (oJ _ _ qa qm oz (by rw[fO];omega)) ?_;refine gc hsg ?_;refine gD ?_;refine bg ?_;rw[agz h1,h1,gj,kK];rfl
theorem RA(rs:List (List Rt))(r:Nat)(h:TR rs r)(a:List Rt)(e:Nat)(ha:NR a e)(he:e<=lm rs.length) :
  FP 87 [a5 rs,nR a] (.tup [i64 (if aQ rs [a]=0 then T.sgn (am (llq rs)) rs.length (ae rs.length (lq a))else 0),cf (aQ rs [a])]):=by
 have hr:=h.le;have hlm:=gd rs.length;refine ai func87 ?_;refine gc (oH rs r h [a] (fun x hx=>by rw[adc.1 hx];exact⟨ha.ok,ha.len⟩) (by simp)) ?_;refine gC (fun z=>?_) (fun z=>?_) (st2:=(77777,0))
 ·have h1:=eQ z;refine bg ?_;rw[agy h1];rfl
 have h1:=fd z;obtain⟨h2,h3⟩:=gL h1;obtain⟨tw,e0⟩:=bZ h h2;obtain⟨e1,na⟩:=ha.num (h3 a (by simp));have hlen:(llq rs).length=rs.length:=afm _;have h5:rs.length<=5:=by have:=tw.five;omega
 have htw:=tw.ok;rw[hlen]at htw;have hsg:=rQ (llq rs) rs.length r htw h5 oz rs.length _ _ (afq _) na ha.cb (l0 (afq rs.length) (by have:=tw.three;omega) hr oz);refine gW (Wk.of (sl:=[pP 1 (nA (lq a)),pP 2 (.ptr 2 0),pP 6 (cf (aQ rs [a]))]) (hp:=[pP 2 (.box [.lst 1 ((llq rs).map nA)])]) (.cons rfl (Sub.of e1) (.k (.k .nil))) (.cons rfl (BlkSub.boxL (.cons (.of (qu e0)) .nil) rfl) .nil)) ?_;refine gc hsg ?_;refine bg ?_;rw[agz h1,h1];rfl
theorem Yd(x:Rt)(hx:x.ok)(hs:Qs x.q):FP 115 [x.av] (nA (sh 0 (x.q:Rat))):=by
 have hadd:=xh x (rt 0) hx Qs.zero.ok;rw[Ni]at hadd;refine ai func115 ?_;refine gc (Con.sA (.cons (.refl _) (.cons jV .nil)) hadd) ?_;refine gc (lN (n:=0) [x.q] oz (.inr ⟨0,afq _,rfl⟩) (fun q hq=>by rw[adc.1 hq];exact hs)) ?_;refine af ?_;rfl
theorem ux(n:Nat)(hn:n<=281474976710656):FP 339 [i64 n] (.tup [i64 (kE n),bl (kv n)]):=by
 refine ai func339 ?_;refine aL [0] [] (fun(k:Nat)=>[pP 5 (i64 k)]) (fun _=>[]) (fun k=>k<=6/\∀j,j<k->n≠2^j) (fun k=>6-k) 0 ⟨by omega,fun j h=>by omega⟩ ?_;rintro k ⟨hk,hj⟩ K1 J1;refine gC (fun z=>?_) (fun z=>?_)
 ·have h1:k<6:=by have:=z; simp only [aa,ag0] at this; omega
  refine gs (i6 (.const _) (.tmp rfl) oz (sZ oz) rfl) ?_;refine gC (fun z=>?_) (fun z=>?_)
  ·have h2:n=2 ^ k:=by have:=z; simp only [aa,beq_iff_eq] at this; omega
   refine bg ?_;rw[h2,(mw oz).1,(mw oz).2];rfl
  have h2:n≠2^k:=by have:=z;simp only[aa,beq_eq_false_iff_ne,ne_eq]at this;omega
  refine ga (cZ oz) ?_;exact aH J1 (k+1) ⟨by omega,fun j h=>by rcases afv j k with h3 |h3;exact hj j h3;(have:j=k:=by omega);subst this;exact h2⟩
 have h1:k=6:=by have:=z;simp only[aa,decide_eq_false_iff_not]at this;omega
 subst h1;refine bg ?_;rw[(G1 hj).1,(G1 hj).2];rfl
theorem FO(m:Nat)(hm:m<=5)(a:List Rt)(ha:∀r∈a,r.ok)(hl:a.length<=281474976710656):FP 215 [i64 m,nR a] (i64 (bH m a)):=by
 refine ai func215 ?_;refine gl ?_;refine gc (ux a.length hl) ?_;refine gl ?_;refine gC (fun z=>?_) (fun z=>?_)
 ·have h1:a≠[]/\(cC a.length<0\/(m:Int)<cC a.length):=(F0 hm a).2 (PF z);refine af ?_;unfold bH;rw[agz h1];rfl
 have hn:¬(a≠[]/\(cC a.length<0\/(m:Int)<cC a.length)):=fun h=>XZ z ((F0 hm a).1 h)
 refine gl ?_;refine aL [27,28] [] (fun(i:Nat)=>[pP 29 (i64 i)]) (fun _=>[]) (fun i=>i<=a.length/\(a.take i).all Rt.valid=true) (fun i=>a.length-i) 0 ⟨afz _,by simp⟩ ?_;rintro i ⟨hi,hv⟩ K1 J1;refine gC (fun z=>?_) (fun z=>?_)
 ·have hin:i<a.length:=by simpa[aa] using z
  obtain⟨r,hr⟩:=ay hin;have hrok:=ha r (afl hr);refine gi (aq hr) ?_;refine gc (uw r hrok) ?_;refine gC (fun z=>?_) (fun z=>?_)
  ·have hrv:r.valid=false:=by simpa using z
   refine af ?_;unfold bH;rw[agy hn,agy]
   ·rfl
   ·rw[afy];intro h;rw[h r (afl hr)]at hrv;cases hrv
  have hrv:r.valid=true:=by simpa using z
  refine ga aK ?_;exact aH J1 (i+1) ⟨by omega,by rw[eH hr,all_append,hv];simp[hrv]⟩
 have hin:i=a.length:=by have:a.length<=i:=(by simpa[aa]using z);omega
 subst hin;rw[af1]at hv;refine af ?_;unfold bH;rw[agy hn,agz hv];rfl
theorem GT(a:List Rat)(hl:a.length<=281474976710656):FP 416 [nA a] (bl (bc a)):=by
 refine ai func416 ?_;refine gl ?_;refine aL [5,6] [] (fun(i:Nat)=>[pP 7 (i64 i)]) (fun _=>[]) (fun i=>i<=a.length/\bc (a.take i)=true) (fun i=>a.length-i) 0 ⟨afz _,by simp[bc]⟩ ?_;rintro i ⟨hi,hv⟩ K1 J1;refine gC (fun z=>?_) (fun z=>?_)
 ·have hin:i<a.length:=by simpa[aa] using z
  obtain⟨q,hq⟩:=ay hin;refine gi (aq hq) ?_;refine bF ?_;refine bF ?_;refine gC (fun z=>?_) (fun z=>?_)
  ·have h0:q≠0:=UE z;refine af ?_
   have:bc a=false:=by
    rw[aev];intro h;exact h0 (by simpa using afy.1 h q (afl hq))
   rw[this];rfl
  have h0:q=0:=Zo z;refine ga aK ?_;exact aH J1 (i+1) ⟨by omega,by rw[eH hq];simp only[bc,all_append,afp];exact⟨hv,by simp[h0]⟩⟩
 have hin:i=a.length:=by have:a.length<=i:=(by simpa[aa]using z);omega
 subst hin;rw[af1]at hv;refine af ?_;rw[hv];rfl
theorem kz{n:Nat}(a:List Rat)(hn:n<=5)(ha:Nl n a):FP 340 [nA a] (nA (sh n (ae n a))):=by
 have hl:=ha.len5 hn;rw[<- uZ ha hn];refine ai func340 ?_;refine gl ?_;refine gc (ux a.length oz) ?_;refine gC (fun t13=>?_) (fun t13=>?_)
 ·have h0:a=[]:=by
   rcases ha with h |⟨j,hj,h⟩
   ·exact h
   ·have h9:=t13;rw[h,(mw oz).2]at h9;cases h9
  refine gs (j4 T53 rfl T106 rfl rfl rfl) ?_;refine gs (n8 (.tmp rfl) rfl rfl (.tmp rfl) T53 rfl T106 rfl rfl (by simp[h0]) rfl rfl) ?_;refine af ?_;subst h0;rfl
 refine gl ?_;refine aL [0] [] (fun(m:Nat)=>[pP 5 (i64 m)]) (fun _=>[]) (fun m=>me a m) (fun m=>m) a.length (KW (ha.mono hn)) ?_;rintro m hm K1 J1;refine gs (fc rfl rfl rfl (fun h=>eh (.opt rfl (o1 h)) (.const _) oz (fi (by have:=hm.le;omega)) rfl)) ?_;refine gs (fc rfl rfl rfl (fun h=>co (.opt rfl (o1 h)) (.some _ (.opt rfl (o1 h)) oz) (.some _ (.opt rfl (o1 h)) oz) T53 rfl T106 rfl oz (by have:=hm.le;simp;omega) rfl)) ?_;refine bn (fun _=>(by have h9:=GT ((a.drop (m/2)).take (m-m/2)) (by simp;omega);rw[<- uA]at h9;exact h9)) ?_;refine gC (fun t28=>?_) (fun t28=>?_)
 ·have h1:1<m/\bc ((a.drop (m/2)).take (m-m/2))=true:=by
   have h9:=t28
   by_cases h:(m:Int)>1
   ·simp only[aa,ag3 h,cond_true]at h9;exact⟨by omega,h9⟩
   ·simp only[aa,ag4 h,cond_false]at h9;cases h9
  refine gs (eh (.tmp rfl) (.const _) oz (fi (by have:=hm.le;omega)) rfl) ?_;exact aH J1 (m/2) (Gg hm h1.1 h1.2)
 have h1:1<m->bc ((a.drop (m/2)).take (m-m/2))=false:=by
  intro h;have h9:=t28;simp only[aa,ag3 (show(m:Int)>1 by omega),cond_true]at h9;exact h9
 refine gs (fc rfl rfl rfl (fun h=>co (.opt rfl (o1 h)) (.none _) (.some _ (.const _) oz) T53 rfl T106 rfl oz (by have h8:(m:Int)=1:=(by simpa[aa]using h);have:=hm.le;simp only[afm];omega) rfl)) ?_;refine bn (fun _=>(by have h9:=GT ((a.drop 0).take 1) (by simp;omega);rw[<- uA]at h9;exact h9)) ?_;refine gC (fun t37=>?_) (fun t37=>?_)
 ·have h2:m=1/\bc (a.take 1)=true:=by
   have h9:=t37
   by_cases h:m=1
   ·rw[h]at h9;exact⟨h,h9⟩
   ·rw[show aa .eql (m:Int) 1=false by simp[aa];omega]at h9;cases h9
  obtain⟨rfl,h3⟩:=h2;refine gR ?_;exact jp (by rw[LO hm h3];exact Sub.nil _ _ _)
 have h2:m=1->bc (a.take 1)=false:=by
  intro h;have h9:=t37;rw[h]at h9;exact h9
 have h3:=LI hm h1 h2;refine gs (j4 T53 rfl T106 rfl rfl rfl) ?_;refine gs (co (.tmp rfl) (.none _) (.some _ (.tmp rfl) oz) T53 rfl T106 rfl oz (by have:=hm.le;simp;omega) rfl) ?_;refine gs (n8 (.tmp rfl) rfl rfl (.tmp rfl) T53 rfl T106 rfl rfl (by simp only[agu,List.length_drop,afm];omega) rfl rfl) ?_;refine af ?_;rw[h3];simp[nA,map_take]
theorem D9(d:Nat)(hd:acm d 1000=true)(a:List Rat)(n:Nat)(hl:a.length<=n)(hn:n<=1099511627776) :
  Con prog 218 [nA a,i64 n] [] (.ms d 3 0 n) [(d,some (.row 3 ((aP a n).map qA)))]:=by
 refine gF func218 (fun k z h=>by cases h) ?_;refine gs (j4 T53 rfl T106 rfl rfl rfl) ?_;refine gs (eg (.tmp rfl) rfl rfl (.tmp rfl) T53 rfl T106 rfl rfl (by simp only[afm];omega) rfl rfl) ?_;refine gW (Wk.of (sl:=[pP 1 (i64 n),pP 5 (.ms 8 3 0 a.length)]) (hp:=[pP 8 (.row 3 ((aP a a.length).map qA))]) (.k (.cons rfl (Sub.of (by simp)) .nil)) (.cons rfl (BlkSub.of (by simp[aP])) .nil)) ?_ (99999,0);refine gW (Wk.rk (k:=8) (d:=900) rfl rfl) ?_;refine aL [1] [] (fun(i:Nat)=>[pP 5 (.ms 900 3 0 i)]) (fun i=>[pP 900 (.row 3 ((aP a i).map qA))]) (fun i=>a.length<=i/\i<=n) (fun i=>n-i) a.length ⟨afq _,hl⟩ ?_;rintro i ⟨hi,hin⟩ K1 J1;refine gC (fun y=>?_) (fun y=>?_)
 ·have h1:i<n:=by have:=y; simp only [aa,ag0] at this; omega
  refine gs (eg (.tmp rfl) rfl (by rw[afm,dF hi]) (.tmp rfl) T53 rfl T106 rfl rfl (by simp;omega) rfl rfl) ?_;exact aH J1 (i+1) ⟨by omega,h1⟩ (hw:=(Wk.of (sl:=[pP 1 (i64 n),pP 5 (.ms 16 3 0 (i+1))]) (hp:=[pP 16 (.row 3 ((aP a (i+1)).map qA))]) bj (.cons rfl (ZI a i hi) .nil)).trans<|(Wk.rk (k:=16) (d:=900) rfl rfl).trans<|Wk.o)
 have h1:i=n:=by have:=y;simp only[aa,decide_eq_false_iff_not]at this;omega
 subst h1;refine gR ?_;exact aE.own1 rfl hd rfl
theorem q6(a:List Rat)(n:Nat)(hl:a.length<=n)(hn:n<=1099511627776):FP 218 [nA a,i64 n] (nA (aP a n)):=by
 have h:=Con.freeze (by rw[afm,dF hl];omega) (D9 0 rfl a n hl hn);rw[agw,af4 (by rw[afm,dF hl];exact afq _)]at h;exact h
theorem p6(a b:List Rat)(ha:∀q∈a,Qs q)(hb:∀q∈b,Qs q)(la:a.length<=1099511627776)(lb:b.length<=1099511627776):FP 260 [nA a,nA b] (nA (bN a b)):=by
 obtain⟨n,hn⟩:∃n,n=max a.length b.length:=⟨_,rfl⟩
 have hwa:=dF (show a.length<=n by omega);have hwb:=dF (show b.length<=n by omega);have hp:=d9 (a:=a) (b:=b);rw[<- hn]at hp;have qa:∀q∈aP a n,Qs q:=fun q hq=>by rcases aft.1 hq with h |h;exact ha q h;(rw[(ad4.1 h).2];exact Qs.zero)
 have qb:∀q∈aP b n,Qs q:=fun q hq=>by rcases aft.1 hq with h |h;exact hb q h;(rw[(ad4.1 h).2];exact Qs.zero)
 refine ai func260 ?_;refine gl ?_;refine gl ?_;refine gs (sV (.tmp rfl) (.tmp rfl) rfl) ?_ (2,0);refine gW (Wk.of (sl:=[pP 0 (nA a),pP 1 (nA b),pP 5 (i64 n)]) (hp:=[]) (.k (.k (.cons rfl (Sub.int oz) .nil))) .nil) ?_;refine go ?_;refine gt (aF (D9 900 rfl a n oz oz) (ce rfl rfl) aG rfl rfl) ?_;refine gc (q6 b n oz oz) ?_;refine aL [1,19] [] (fun(i:Nat)=>[pP 0 (.ms 900 3 0 n),pP 20 (i64 i)]) (fun i=>[pP 900 (.row 3 (((bN a b).take i++(aP a n).drop i).map qA))]) (fun i=>i<=n) (fun i=>n-i) 0 (afz _) ?_;rintro i hi K1 J1;refine gC (fun z=>?_) (fun z=>?_) (st2:=(8,0))
 ·have hin:i<n:=by simpa[aa] using z
  have hmx:=B1 (p:=bN a b) (w:=aP a n) (i:=i) oz oz;have hqa:=(qa _ (vZ (i:=i) oz)).ok;have hqb:=(qb _ (vZ (i:=i) oz)).ok;refine gs (bi (n:=i) (.tmp rfl) (.tmp rfl) T53 rfl T106 rfl oz oz rfl) ?_;refine gs (cF (.tmp rfl) rfl (aq hmx) T106 rfl rfl rfl) ?_;refine gi (aq (getD_some (i:=i) (l:=aP b n) oz)) ?_;refine gc (wm (rt ((aP a n).getD i 0)) (rt ((aP b n).getD i 0)) hqa hqb) ?_;refine gs (bi (n:=i) (.tmp rfl) (.tmp rfl) T53 rfl T106 rfl oz oz rfl) ?_;refine gs (cw (.tmp rfl) rfl (aq hmx) rfl (.tmp rfl) rfl rfl T106 rfl rfl) ?_;refine gD ?_ (7,0);refine gW (Wk.of (sl:=[pP 0 (.ms 900 3 0 n),pP 1 (nA (aP b n)),pP 19 (i64 n),pP 20 (i64 i)]) (hp:=[pP 900 (.row 3 (((bN a b).take (i+1)++(aP a n).drop (i+1)).map qA))]) bj (.cons rfl (BlkSub.of (by rw[DE oz oz (by rw[I8,<- hn,bq,bq])])) .nil)) ?_;refine ga aK ?_;exact aH J1 (i+1) hin
 have hin:i=n:=by have:n<=i:=(by simpa[aa]using z);omega
 refine gW ((Wk.freeze (k:=900) rfl).trans<|Wk.of (sl:=[pP 0 (nA (bN a b))]) (hp:=[]) (.cons rfl (Sub.of (by rw[cz (by simp;omega),hin,ado oz,af4 oz,adt];rfl)) .nil) .nil) ?_;refine af ?_;rfl
theorem wH(a:List Rat)(ha:∀q∈a,Qs q)(hl:a.length<=1099511627776):FP 261 [nA a] (nA (b8 a)):=by
 refine ai func261 ?_;refine gl ?_;refine gW (Wk.virt 900 3 rfl) ?_;refine aL [6,7] [] (fun(i:Nat)=>[pP 3 (.ms 900 3 0 i),pP 8 (i64 i)]) (fun i=>[pP 900 (.row 3 ((b8 (a.take i)).map qA))]) (fun i=>i<=a.length) (fun i=>a.length-i) 0 (afz _) ?_;rintro i hi K1 J1;refine gC (fun z=>?_) (fun z=>?_) (st2:=(7,0))
 ·have hin:i<a.length:=by simpa[aa] using z
  obtain⟨q,hq⟩:=ay hin;have hqs:=(ha q (afl hq)).ok;refine gi (aq hq) ?_;refine gc (Fe (rt q) hqs) ?_;refine gs (eg (.tmp rfl) rfl (by simp[b8];omega) (.tmp rfl) T53 rfl T106 rfl rfl (by simp;omega) rfl rfl) ?_ (6,0);refine gW (Wk.of (sl:=[pP 3 (.ms 16 3 0 (i+1)),pP 6 (nA a),pP 7 (i64 a.length),pP 8 (i64 i)]) (hp:=[pP 16 (.row 3 ((b8 (a.take (i+1))).map qA))]) bj (.cons rfl (BlkSub.of (by rw[eH hq];simp only[b8,agc,bq];rfl)) .nil)) ?_ (6,0);refine gW (Wk.rk (k:=16) (d:=900) rfl rfl) ?_;refine ga aK ?_;exact aH J1 (i+1) hin
 have hin:i=a.length:=by have:a.length<=i:=(by simpa[aa]using z);omega
 subst hin;refine gW ((Wk.freeze (k:=900) rfl).trans<|Wk.of (sl:=[pP 3 (nA (b8 a))]) (hp:=[]) (.cons rfl (Sub.of (by rw[cz (by simp[b8]),af1];rfl)) .nil) .nil) ?_;refine af ?_;rfl
theorem ra(ts:LL)(m r:Nat)(ht:f8 ts m r)(hm:m<=5)(R:List AV)(hR:∀j,j<m->R[j]?=some (nA (ts.getD j [])))(k:Nat):∀(j:Nat)(a b:List Rat)(e f:Nat),j<=m->j<=k->Nl j a->Nl j b->Cb e a->Cb f b->e+f+eB r j<4398046511104 ->
  FP 364 [.agg [.lst 1 R],nA a,nA b] (nA (rT ts k a b)):=by
 induction k using Nat.strongRecOn
 rename_i k ih;intro j a b e f hj hjk ha hb ca cb hs;obtain⟨nx,dx⟩:=yL ha oz;obtain⟨ny,dy⟩:=yL hb oz;have cx:Cb e (a9 5 a):=ca.sub (fun q hq=>vz 5 hq);have cy:Cb f (a9 5 b):=cb.sub (fun q hq=>vz 5 hq);have k1:=kz a oz ha;have k2:=kz b oz hb;rw[<- uZ ha oz]at k1;rw[<- uZ hb oz]at k2;obtain⟨x,hx⟩:∃x,x=a9 5 a:=⟨_,rfl⟩
 obtain⟨y,hy⟩:∃y,y=a9 5 b:=⟨_,rfl⟩
 rw[<- hx]at k1 nx dx cx;rw[<- hy]at k2 ny dy cy;have hlx:=nx.len5 oz;have hly:=ny.len5 oz;obtain⟨n,hn⟩:∃n,n=max x.length y.length:=⟨_,rfl⟩
 refine ai func364 ?_;refine gc k1 ?_;refine gc k2 ?_;refine gl ?_;refine gl ?_;refine gs (sV (.tmp rfl) (.tmp rfl) rfl) ?_ (3,0);refine gW (Wk.of (sl:=[pP 1 (nA x),pP 2 (nA y),pP 3 (.ptr 3 0),pP 7 (i64 n)]) (hp:=[pP 3 (.box [.lst 1 R])]) (.k (.k (.k (.cons rfl (Sub.int oz) .nil)))) (.k .nil)) ?_;refine gl ?_;refine bF ?_;refine gC (fun z=>?_) (fun z=>?_)
 ·have h0:x.length=0 \/ y.length=0:=by have:=Er z; omega
  refine gR ?_;exact jp (by rw[HC (by rw[<- hx,<- hy];exact h0)];exact Sub.nil _ _ _)
 have h0:¬(x.length=0\/y.length=0):=by have:=DJ z;omega
 refine gC (fun z=>?_) (fun z=>?_)
 ·have h1:max x.length y.length=1:=by have:=z; simp only [aa,beq_iff_eq] at this; omega
  have e1:=GN (ts:=ts) (k:=k) (a:=a) (b:=b) (by rw[<- hx,<- hy];exact h0) (by rw[<- hx,<- hy];exact h1);rw[<- hx,<- hy]at e1;clear hx hy;have lx1:x.length=1:=by omega
  have ly1:y.length=1:=by omega
  clear hn;obtain⟨p,rfl⟩:∃p,x=[p]:=adi.1 lx1;obtain⟨q,rfl⟩:∃q,y=[q]:=adi.1 ly1;refine gi rfl ?_;refine gi rfl ?_;refine gc (Gn (rt p) (rt q) (cx.qs oz (by simp:p∈[p])).ok (cy.qs oz (by simp:q∈[q])).ok) ?_;refine gD ?_;refine af ?_;rw[e1,bq,bq];rfl
 have h1:n≠1:=by have:=z;simp only[aa,beq_eq_false_iff_ne,ne_eq]at this;omega
 obtain⟨i,hij,hmax⟩:=(GA nx ny h0).resolve_left oz;obtain⟨k',rfl⟩:∃k',k=k'+1:=⟨k-1,by omega⟩
 have hp2:=abw i;have hpi:2^i<=32:=bU (b:=5) oz;have hps:2^(i+1)=2*2^i:=by rw[acq];omega
 have hnn:n=2^(i+1):=by omega
 have hes:eB r (i+1)<=eB r j:=jX r hij;have hee:eB r (i+1)=2*eB r i+r+2:=rfl;have lx:(aP x (2^(i+1))).length=2^(i+1):=dF oz;have ly:(aP y (2^(i+1))).length=2^(i+1):=dF oz;obtain⟨X,hX⟩:∃X,X=aP x (2^(i+1)):=⟨_,rfl⟩
 obtain⟨Y,hY⟩:∃Y,Y=aP y (2^(i+1)):=⟨_,rfl⟩
 have cX:Cb e X:=by rw[hX];exact cx.wide
 have cY:Cb f Y:=by rw[hY];exact cy.wide
 rw[<- hX]at lx;rw[<- hY]at ly;have n1:Nl i (X.take (2^i)):=.inr ⟨i,afq _,fB lx⟩;have n2:Nl i (X.drop (2^i)):=.inr ⟨i,afq _,fJ lx⟩;have n3:Nl i (Y.take (2^i)):=.inr ⟨i,afq _,fB ly⟩;have n4:Nl i (Y.drop (2^i)):=.inr ⟨i,afq _,fJ ly⟩;have nd:=ht.1 i oz;have cd:=ht.2.cb i;have s1:=iZ hm ht (k:=k') (show i<=m by omega) oz n1 n3 cX.take cY.take;have s2:=iZ hm ht (k:=k') (show i<=m by omega) oz n2 n4 cX.drop cY.drop;have s3:=iZ hm ht (k:=k') (show i<=m by omega) oz s2.1 nd s2.2.2 cd;have s4:=iZ hm ht (k:=k') (show i<=m by omega) oz n1 n4 cX.take cY.drop;have s5:=iZ hm ht (k:=k') (show i<=m by omega) oz n2 n3 cX.drop cY.take;have hrt:=M1 (ts:=ts) (k:=k') (a:=a) (b:=b) rfl (by rw[<- hx,<- hy];exact h0) (by rw[<- hx,<- hy];exact hmax);rw[<- hx,<- hy,<- hX,<- hY]at hrt;have w1:=q6 x n oz oz;have w2:=q6 y n oz oz;rw[hnn,<- hX]at w1;rw[hnn,<- hY]at w2;rw[<- hnn]at w1 w2;have pw:=ux n oz;rw[show kE n=i+1 by rw[hnn];exact(mw oz).1,show kv n=true by rw[hnn];exact(mw oz).2]at pw;refine gc w1 ?_;refine gc w2 ?_;refine gc pw ?_;refine gs (eh (.tmp rfl) (.const _) oz (show _=((2^i:Nat):Int) by rw[fi oz,hnn,eI]) rfl) ?_;refine gs (co (.tmp rfl) (.none _) (.some _ (.tmp rfl) oz) T53 rfl T106 rfl oz (by simp only[afm];omega) rfl) ?_;refine gs (eh (.tmp rfl) (.const _) oz (show _=((2^i:Nat):Int) by rw[fi oz,hnn,eI]) rfl) ?_;refine gs (co (.tmp rfl) (.some _ (.tmp rfl) oz) (.none _) T53 rfl T106 rfl (by simp only[afm];omega) oz rfl) ?_;refine gs (eh (.tmp rfl) (.const _) oz (show _=((2^i:Nat):Int) by rw[fi oz,hnn,eI]) rfl) ?_;refine gs (co (.tmp rfl) (.none _) (.some _ (.tmp rfl) oz) T53 rfl T106 rfl oz (by simp only[afm];omega) rfl) ?_;refine gs (eh (.tmp rfl) (.const _) oz (show _=((2^i:Nat):Int) by rw[fi oz,hnn,eI]) rfl) ?_;refine gs (co (.tmp rfl) (.some _ (.tmp rfl) oz) (.none _) T53 rfl T106 rfl (by simp only[afm];omega) oz rfl) ?_;refine gD ?_ (10,0);refine gW (Wk.of (sl:=[pP 3 (.ptr 3 0),pP 7 (i64 n),pP 8 (i64 ((i+1:Nat):Int)),pP 10 (nA (X.take (2^i))),pP 11 (nA (X.drop (2^i))),pP 12 (nA (Y.take (2^i))),pP 13 (nA (Y.drop (2^i)))]) (hp:=[pP 3 (.box [.lst 1 R])]) (.k (.k (.k (.cons rfl (Sub.of (kg X (2^i))) (.cons rfl (Sub.of (kT X (2^i))) (.cons rfl (Sub.of (kg Y (2^i))) (.cons rfl (Sub.of (kT Y (2^i))) .nil))))))) (.k .nil)) ?_
 refine gc (ih k' oz i _ _ e f oz oz n1 n3 cX.take cY.take oz) ?_;refine gc (ih k' oz i _ _ e f oz oz n2 n4 cX.drop cY.drop oz) ?_;refine ga (show _=(i:Int) by rw[dp oz];omega) ?_;refine gi (hR i oz) ?_;refine gc (ih k' oz i _ _ _ _ oz oz s2.1 nd s2.2.2 cd oz) ?_;refine gc (p6 _ _ (fun q hq=>s1.2.2.qs oz hq) (fun q hq=>s3.2.2.qs oz hq) (by have:=s1.1.le;omega) (by have:=s3.1.le;omega)) ?_;refine gD ?_;refine gc (ih k' oz i _ _ e f oz oz n1 n4 cX.take cY.drop oz) ?_;refine gc (ih k' oz i _ _ e f oz oz n2 n3 cX.drop cY.take oz) ?_;refine gc (p6 _ _ (fun q hq=>s4.2.2.qs oz hq) (fun q hq=>s5.2.2.qs oz hq) (by have:=s4.1.le;omega) (by have:=s5.1.le;omega)) ?_;refine gD ?_;refine gs (eh (.tmp rfl) (.const _) oz (show _=((2^i:Nat):Int) by rw[fi oz,hnn,eI]) rfl) ?_;refine gt (aF (D9 900 rfl _ (2^i) (by have:=s1.1.le;have:=s3.1.le;rw[d9];omega) oz) (ce rfl rfl) aG rfl rfl) ?_;refine gs (eh (.tmp rfl) (.const _) oz (show _=((2^i:Nat):Int) by rw[fi oz,hnn,eI]) rfl) ?_;refine gc (q6 _ (2^i) (by have:=s4.1.le;have:=s5.1.le;rw[d9];omega) oz) ?_;refine gs (n8 (.tmp rfl) rfl (by have:=s1.1.le;have:=s3.1.le;rw[afm,dF (by rw[d9];omega)]) (.tmp rfl) T53 rfl T106 rfl rfl (by have:=s4.1.le;have:=s5.1.le;rw[afm,dF (by rw[d9];omega)];show(2^i+2^i)*56<=140737488355328;omega) rfl rfl) ?_;refine af ?_;rw[hrt,<- agc];rfl
theorem zO(ts:LL)(m r:Nat)(ht:f8 ts m r)(hm:m<=5)(R:List AV)(hR:∀j,j<m->R[j]?=some (nA (ts.getD j [])))(i n:Nat)(a:List Rat)(e:Nat)(hi:i+1<=m)(hnn:n=2^(i+1))(hal:a.length=2^(i+1))(ca:Cb e a)(hs:4*e+3*eB r i+r+1<4398046511104) :
  FP 341 [.agg [.lst 1 R],nA a,i64 n] (nA (kP ts i a)):=by
 have hp2:=abw i;have hpi:2^i<=32:=bU (b:=5) oz;have hps:2^(i+1)=2*2^i:=by rw[acq];omega
 have n1:Nl i (a.take (2^i)):=.inr ⟨i,afq _,fB hal⟩;have n2:Nl i (a.drop (2^i)):=.inr ⟨i,afq _,fJ hal⟩;have nd:=ht.1 i oz;have cd:=ht.2.cb i;have s1:=iZ hm ht (k:=i) (show i<=m by omega) oz n1 n1 ca.take ca.take;have s2:=iZ hm ht (k:=i) (show i<=m by omega) oz n2 n2 ca.drop ca.drop;have s3:=iZ hm ht (k:=i) (show i<=m by omega) oz s2.1 nd s2.2.2 cd;have w1:=q6 a n oz oz;rw[show aP a n=a by unfold aP;rw[hnn,hal];simp]at w1;have pw:=ux n oz;rw[show kE n=i+1 by rw[hnn];exact(mw oz).1,show kv n=true by rw[hnn];exact(mw oz).2]at pw;refine ai func341 ?_;refine gc w1 ?_;refine gc pw ?_;refine gs (eh (.tmp rfl) (.const _) oz (show _=((2^i:Nat):Int) by rw[fi oz,hnn,eI]) rfl) ?_;refine gs (co (.tmp rfl) (.none _) (.some _ (.tmp rfl) oz) T53 rfl T106 rfl oz (by simp only[afm];omega) rfl) ?_;refine gs (eh (.tmp rfl) (.const _) oz (show _=((2^i:Nat):Int) by rw[fi oz,hnn,eI]) rfl) ?_;refine gs (co (.tmp rfl) (.some _ (.tmp rfl) oz) (.none _) T53 rfl T106 rfl (by simp only[afm];omega) oz rfl) ?_;refine gD ?_ (4,0);refine gW (Wk.of (sl:=[pP 3 (.ptr 3 0),pP 7 (i64 ((i+1:Nat):Int)),pP 9 (nA (a.take (2^i))),pP 10 (nA (a.drop (2^i)))]) (hp:=[pP 3 (.box [.lst 1 R])]) (.k (.k (.cons rfl (Sub.of (kg a (2^i))) (.cons rfl (Sub.of (kT a (2^i))) .nil)))) (.k .nil)) ?_;refine gc (ra ts m r ht hm R hR i i _ _ e e oz oz n1 n1 ca.take ca.take oz) ?_;refine gc (ra ts m r ht hm R hR i i _ _ e e oz oz n2 n2 ca.drop ca.drop oz) ?_;refine ga (show _=(i:Int) by rw[dp oz];omega) ?_;refine gi (hR i oz) ?_;refine gc (ra ts m r ht hm R hR i i _ _ _ _ oz oz s2.1 nd s2.2.2 cd oz) ?_;refine gc (wH _ (fun q hq=>s3.2.2.qs oz hq) (by have:=s3.1.le;omega)) ?_;refine gc (p6 _ _ (fun q hq=>s1.2.2.qs oz hq) (fun q hq=>s3.2.2.minus.qs oz hq) (by have:=s1.1.le;omega) (by have:=s3.1.le;rw[fO];omega)) ?_;refine gD ?_;refine af ?_;rfl
theorem rJ(ts:LL)(m r:Nat)(ht:f8 ts m r)(hm:m<=5)(hpos:∀j,j<m->0<=T.sgn (am ts) j (am ts j))(R:List AV)(hR:∀j,j<m->R[j]?=some (nA (ts.getD j [])))(j:Nat):∀(a:List Rat)(e:Nat),j<=m->Nl j a->Cb e a->sB r j e<4398046511104 ->
  FP 216 [.agg [.lst 1 R],nA a] (i64 (T.sgn (am ts) j (ae j a))):=by
 induction j using Nat.strongRecOn
 rename_i j ih;intro a e hj ha ca hs;have hse:=mI r j e;obtain⟨s,hsa⟩:∃s,s=sh j (ae j a):=⟨_,rfl⟩
 have hsd:ae j s=ae j a:=by rw[hsa,bK]
 have hsn:Nl j s:=by rw[hsa];exact eS j _
 have cs:Cb e s:=by rw[hsa];exact ca.sh ha
 have hls:=hsn.len5 oz;rw[<- hsd];refine ai func216 ?_;refine gc (hsa▸kz a oz ha) ?_;refine gl ?_;refine gC (fun z=>?_) (fun z=>?_)
 ·have h1:s=[]:=adp.1 (by have:=z;simp only[aa,beq_iff_eq]at this;omega);refine af ?_;rw[h1,iX,T.sgn_zero];rfl
 have h1:s.length≠0:=by have:=z;simp only[aa,beq_eq_false_iff_ne,ne_eq]at this;omega
 refine gl ?_;refine gC (fun z=>?_) (fun z=>?_)
 ·have h2:s.length=1:=by have:=z; simp only [aa,beq_iff_eq] at this; omega
  obtain⟨q,rfl⟩:=adi.1 h2;refine gi rfl ?_;refine gc (xm (rt q) (cs.qs oz (by simp:q∈[q])).ok) ?_;refine af ?_;rw[lU,T.sgn_ofQ,bq]
 have h2:s.length≠1:=by have:=z;simp only[aa,beq_eq_false_iff_ne,ne_eq]at this;omega
 obtain⟨i,hij,hsl⟩:∃i,i+1<=j/\s.length=2^(i+1):=by
  rcases nE hsn with h |h |h
  ·exact ag5 h h1
  ·exact ag5 h h2
  ·exact h
 have hp2:=abw i;have hpi:2^i<=32:=bU (b:=5) oz;have hps:2^(i+1)=2*2^i:=by rw[acq];omega
 have n1:Nl i (s.take (2^i)):=.inr ⟨i,afq _,fB hsl⟩;have n2:Nl i (s.drop (2^i)):=.inr ⟨i,afq _,fJ hsl⟩;have nd:=ht.1 i oz;have cd:=ht.2.cb i;obtain⟨nn,dn,cn⟩:=yw hm ht oz hsl cs;have b1:sB r i (4*e+3*eB r i+r+1)<=sB r j e:=rz r e hij;have b2:sB r i e<=sB r i (4*e+3*eB r i+r+1):=nf r i oz;have b3:sB r i r<=sB r i (4*e+3*eB r i+r+1):=nf r i oz;have b4:=mI r i (4*e+3*eB r i+r+1);have k1:=ih i oz (s.take (2^i)) e oz n1 cs.take oz;have k2:=ih i oz (s.drop (2^i)) e oz n2 cs.drop oz;have k3:=ih i oz _ r oz nd cd oz;have k4:=ih i oz _ _ oz nn cn oz
 have v3:T.sgn (am ts) i (ae i (ts.getD i []))=0\/T.sgn (am ts) i (ae i (ts.getD i []))=1:=by
  have h9:0<=T.sgn (am ts) i (ae i (ts.getD i [])):=hpos i oz;have:=T.sgn_cases (am ts) i (ae i (ts.getD i []));omega
 have hres:T.sgn (am ts) j (ae j s)=T.sgn3 (T.sgn (am ts) i (ae i (s.take (2^i)))) (T.sgn (am ts) i (ae i (s.drop (2^i)))) (T.sgn (am ts) i (ae i (ts.getD i []))) (T.sgn (am ts) i (ae i (kP ts i s))):=by
  rw[pN _ oz hij,dn];rfl
 rw[Oi v3]at hres;have v1:=T.sgn_cases (am ts) i (ae i (s.take (2^i)));have v2:=T.sgn_cases (am ts) i (ae i (s.drop (2^i)));have v4:=T.sgn_cases (am ts) i (ae i (kP ts i s));have pw:=ux s.length oz;rw[show kE s.length=i+1 by rw[hsl];exact(mw oz).1,show kv s.length=true by rw[hsl];exact(mw oz).2]at pw;refine gc pw ?_;refine ga (show _=(i:Int) by rw[dp oz];omega) ?_;refine gi (hR i oz) ?_;refine gs (eh (.tmp rfl) (.const _) oz (show _=((2^i:Nat):Int) by rw[fi oz,hsl,eI]) rfl) ?_;refine gs (co (.tmp rfl) (.none _) (.some _ (.tmp rfl) oz) T53 rfl T106 rfl oz (by simp only[afm];omega) rfl) ?_;refine gc (by have h9:=k1;rw[<- kg]at h9;exact h9) ?_;refine gs (eh (.tmp rfl) (.const _) oz (show _=((2^i:Nat):Int) by rw[fi oz,hsl,eI]) rfl) ?_;refine gs (co (.tmp rfl) (.some _ (.tmp rfl) oz) (.none _) T53 rfl T106 rfl (by simp only[afm];omega) oz rfl) ?_;refine gc (by have h9:=k2;rw[<- kT]at h9;exact h9) ?_;refine gc k3 ?_;refine ga (Dn v2 (.inr v3)) ?_;refine gD ?_;refine gC (fun z=>?_) (fun z=>?_)
 ·have e2:=Er z;refine af ?_;rw[hres,agz e2]
 have e2:=DJ z;refine gC (fun z=>?_) (fun z=>?_)
 ·have e3:T.sgn (am ts) i (ae i (s.take (2 ^ i)))=0:=by simpa[aa] using z
  refine af ?_;rw[hres,agy e2,agz e3];rfl
 have e3:¬T.sgn (am ts) i (ae i (s.take (2^i)))=0:=by simpa[aa]using z
 refine gc (zO ts m r ht hm R hR i s.length s e oz hsl hsl cs oz) ?_;refine gc k4 ?_;refine ga (Dn v1 v4) ?_;refine gD ?_;refine af ?_;rw[hres,agy e2,agy e3];rfl
theorem Fp(rs:List (List Rt))(r:Nat)(h:TR rs r):FP 107 [a5 rs] (i64 (aZ rs)):=by
 have hll:=h.ll;have hr:=h.le;refine ai func107 ?_;refine gl ?_;refine gC (fun z=>?_) (fun z=>?_)
 ·have h5:5<rs.length:=by have:=z; simp only [aa,ag0] at this; omega
  refine af ?_;rw[Hv h5];rfl
 have h5:rs.length<=5:=by have:=z;simp only[aa,decide_eq_false_iff_not]at this;omega
 refine gl ?_;refine aL [1,11,12] [1] (fun(k:Nat)=>[pP 13 (i64 k)]) (fun _=>[]) (fun k=>k<=rs.length/\∀j,j<k->iO rs j) (fun k=>rs.length-k) 0 ⟨afz _,fun j hj=>by omega⟩ ?_;rintro k ⟨hk,hj⟩ K1 J1;refine gC (fun z=>?_) (fun z=>?_)
 ·have hin:k<rs.length:=by simpa[aa] using z
  obtain⟨d,hd⟩:=ay hin;have hdm:=afl hd;have hdl:=h.len d hdm;refine gi (aq hd) ?_;refine gl ?_;refine gs (i6 (.const _) (.tmp rfl) oz (sZ oz) rfl) ?_;refine gC (fun z=>?_) (fun z=>?_)
  ·have h1:d.length≠2 ^ k:=by have:=z; simp only [aa,bne_iff_ne,ne_eq] at this; omega
   refine af ?_;rw[LU h5 hd hj h1];rfl
  have h1:d.length=2^k:=by have:=z;simp only[aa,bne_eq_false_iff_eq]at this;omega
  have hnu:=FO k oz d (h.ok d hdm) hdl;refine gc hnu ?_;refine gC (fun z=>?_) (fun z=>?_)
  ·have h2:=eF z;refine af ?_;rw[FS h5 hd hj h1 h2]
  have h2:=eR z;have hts:=GG (ts:=llq rs) (fun j hjk=>(hj j hjk).nl) h.rb;have hq:=xY h2 (h.ok d hdm);have hcb:Cb r (lq d):=by have:=h.rb.cb k;rw[uH,afn,hd]at this;exact this
  have hsg:FP 216 [a5 rs,nR d] (i64 (T.sgn (am (llq rs)) k (ae k (lq d)))):=by
   have h9:=rJ ((llq rs).take k) k r hts oz (fun j hjk=>by rw[T.sgn_congr j (fun i hi=>ye (show i<k by omega)),ye hjk];exact(hj j hjk).2.2) (rs.map nR) (fun j hjk=>S5 h.ok (show k<=rs.length by omega) hj hjk) k (lq d) r (afq _) hq.2 hcb (l0 (afq k) (by have:=h.three;omega) hr (by have:=dl k;omega));rw[T.sgn_congr k (fun j hjk=>ye hjk)]at h9;rw[hq.1,cT];rw[<- hq.1];exact h9
  refine gc hsg ?_;refine gC (fun z=>?_) (fun z=>?_)
  ·have h3:T.sgn (am (llq rs)) k (ae k (lq d))<0:=by simpa[aa] using z
   refine af ?_;rw[MA h5 hd hj h1 h2 h3];rfl
  have h3:¬T.sgn (am (llq rs)) k (ae k (lq d))<0:=by simpa[aa]using z
  refine ga aK ?_;exact aH J1 (k+1) ⟨hin,fun j hjk=>by rcases afv j k with h9 |h9;exact hj j h9;(have:j=k:=by omega);subst this;exact Fg hd h1 h2 h3⟩
 have hin:k=rs.length:=by have:rs.length<=k:=(by simpa[aa]using z);omega
 subst hin;refine af ?_;rw[GX h5 hj];rfl
theorem nN(rs:List (List Rt))(r:Nat)(h:TR rs r)(xs:List (List Rt))(hx:∀a∈xs,(∀x∈a,x.ok)/\a.length<=281474976710656)(hl:xs.length<=281474976710656):FP 217 [a5 rs,.lst 1 (xs.map nR)] (i64 (aQ rs xs)):=by
 refine ai func217 ?_;refine gc (Fp rs r h) ?_;refine gC (fun z=>?_) (fun z=>?_)
 ·have h1:=eF z;refine af ?_;rw[CM h1]
 have h1:=eR z;have h5:rs.length<=5:=by have:=(bZ h h1).1.five;rwa [afm]at this
 refine gl ?_;refine aL [2,14,15] [2] (fun(i:Nat)=>[pP 16 (i64 i)]) (fun _=>[]) (fun i=>i<=xs.length/\∀x∈xs.take i,bH rs.length x=0) (fun i=>xs.length-i) 0 ⟨afz _,fun x hx=>by simp at hx⟩ ?_;rintro i ⟨hi,hj⟩ K1 J1;refine gC (fun z=>?_) (fun z=>?_)
 ·have hin:i<xs.length:=by simpa[aa] using z
  obtain⟨a,ha⟩:=ay hin;have hok:=hx a (afl ha);refine gi (aq ha) ?_;refine gl ?_;refine gc (FO rs.length h5 a hok.1 hok.2) ?_;refine gC (fun z=>?_) (fun z=>?_)
  ·have h2:=eF z;refine af ?_;rw[uR h1 ha hj h2]
  have h2:=eR z;refine ga aK ?_;exact aH J1 (i+1) ⟨hin,fun x hx=>by rw[eH ha]at hx;rcases aft.1 hx with h9 |h9;exact hj x h9;(rw[adc.1 h9];exact h2)⟩
 have hin:i=xs.length:=by have:xs.length<=i:=(by simpa[aa]using z);omega
 subst hin;rw[af1]at hj;refine af ?_;rw[nZ h1 hj];rfl
theorem U6(rs:List (List Rt))(r:Nat)(h:TR rs r)(a b:List Rt)(e f:Nat)(ha:NR a e)(hb:NR b f)(he:e+f<=lm rs.length) :
  FP 359 [a5 rs,nR a,nR b] (.tup [nA (if aQ rs [a,b]=0 then sh rs.length (T.add rs.length (ae rs.length (lq a)) (ae rs.length (lq b)))else[]),i64 (aQ rs [a,b])]):=by
 have hlm:=gd rs.length;refine ai func359 ?_;refine gc (nN rs r h [a,b] (lL ha hb) (by simp)) ?_;refine gC (fun z=>?_) (fun z=>?_) (st2:=(77777,0))
 ·have h1:=eF z;refine gR ?_;exact gy (by rw[agy h1];exact Sub.tup (.cons (.nil _ _ _) (.cons (.refl _) .nil)))
 have h1:=eR z;obtain⟨h2,h3⟩:=gL h1;obtain⟨tw,e0⟩:=bZ h h2;obtain⟨e1,na⟩:=ha.num (h3 a (by simp));obtain⟨e2,nb⟩:=hb.num (h3 b (by simp));have h5:rs.length<=5:=by have:=tw.five;rwa [afm]at this
 have hla:=na.len5 h5;have hlb:=nb.len5 h5;have qa:∀q∈lq a,Qs q:=fun q hq=>ha.cb.qs oz hq
 have qb:∀q∈lq b,Qs q:=fun q hq=>hb.cb.qs oz hq
 have qp:∀q∈bN (lq a) (lq b),Qs q:=fun q hq=>(ha.cb.plus hb.cb).qs oz hq
 have np:=mh na nb;refine gW (Wk.of (sl:=[pP 1 (nA (lq a)),pP 2 (nA (lq b)),pP 3 (.ptr 3 0),pP 8 (i64 (aQ rs [a,b]))]) (hp:=[pP 3 (.box [.lst 1 (rs.map nR)])]) (.cons rfl (Sub.of e1) (.cons rfl (Sub.of e2) (.k (.k .nil)))) (.k .nil)) ?_;refine gc (p6 _ _ qa qb oz oz) ?_;refine gc (kz _ h5 np) ?_;refine bg ?_;rw[agz h1,h1,gj];rfl
theorem Yc(rs:List (List Rt))(r:Nat)(h:TR rs r)(a b:List Rt)(e f:Nat)(ha:NR a e)(hb:NR b f)(he:e+f<=lm rs.length) :
  FP 252 [a5 rs,nR a,nR b] (.tup [nA (if aQ rs [a,b]=0 then sh rs.length (T.add rs.length (ae rs.length (lq a)) (T.neg rs.length (ae rs.length (lq b))))else[]),i64 (aQ rs [a,b])]):=by
 have hlm:=gd rs.length;refine ai func252 ?_;refine gc (nN rs r h [a,b] (lL ha hb) (by simp)) ?_;refine gC (fun z=>?_) (fun z=>?_) (st2:=(77777,0))
 ·have h1:=eF z;refine gR ?_;exact gy (by rw[agy h1];exact Sub.tup (.cons (.nil _ _ _) (.cons (.refl _) .nil)))
 have h1:=eR z;obtain⟨h2,h3⟩:=gL h1;obtain⟨tw,e0⟩:=bZ h h2;obtain⟨e1,na⟩:=ha.num (h3 a (by simp));obtain⟨e2,nb⟩:=hb.num (h3 b (by simp));have h5:rs.length<=5:=by have:=tw.five;rwa [afm]at this
 have hla:=na.len5 h5;have hlb:=nb.len5 h5;have qa:∀q∈lq a,Qs q:=fun q hq=>ha.cb.qs oz hq
 have qb:∀q∈lq b,Qs q:=fun q hq=>hb.cb.qs oz hq
 have qm:∀q∈b8 (lq b),Qs q:=fun q hq=>hb.cb.minus.qs oz hq
 have qp:∀q∈bN (lq a) (b8 (lq b)),Qs q:=fun q hq=>(ha.cb.plus hb.cb.minus).qs oz hq
 have np:=mh na (ol nb);refine gW (Wk.of (sl:=[pP 1 (nA (lq a)),pP 2 (nA (lq b)),pP 3 (.ptr 3 0),pP 8 (i64 (aQ rs [a,b]))]) (hp:=[pP 3 (.box [.lst 1 (rs.map nR)])]) (.cons rfl (Sub.of e1) (.cons rfl (Sub.of e2) (.k (.k .nil)))) (.k .nil)) ?_;refine gc (wH _ qb oz) ?_;refine gc (p6 _ _ qa qm oz (by rw[fO];omega)) ?_;refine gc (kz _ h5 np) ?_;refine bg ?_;rw[agz h1,h1,gj,kK];rfl
theorem QQ(rs:List (List Rt))(r:Nat)(h:TR rs r)(a b:List Rt)(e f:Nat)(ha:NR a e)(hb:NR b f)(he:e+f<=lm rs.length) :
  FP 360 [a5 rs,nR a,nR b] (.tup [nA (if aQ rs [a,b]=0 then sh rs.length (T.mul (am (llq rs)) rs.length (ae rs.length (lq a)) (ae rs.length (lq b)))else[]),i64 (aQ rs [a,b])]):=by
 have hr:=h.le;have hlm:=gd rs.length;refine ai func360 ?_;refine gc (nN rs r h [a,b] (lL ha hb) (by simp)) ?_;refine gC (fun z=>?_) (fun z=>?_) (st2:=(77777,0))
 ·have h1:=eF z;refine gR ?_;exact gy (by rw[agy h1];exact Sub.tup (.cons (.nil _ _ _) (.cons (.refl _) .nil)))
 have h1:=eR z;obtain⟨h2,h3⟩:=gL h1;obtain⟨tw,e0⟩:=bZ h h2;obtain⟨e1,na⟩:=ha.num (h3 a (by simp));obtain⟨e2,nb⟩:=hb.num (h3 b (by simp));have hlen:(llq rs).length=rs.length:=afm _;have h5:rs.length<=5:=by have:=tw.five;omega
 have hla:=na.len5 h5;have hlb:=nb.len5 h5;have htw:=tw.ok;rw[hlen]at htw;have hE:=FQ r h5;have np:=iZ h5 htw (k:=rs.length) (afq rs.length) (afq _) na nb ha.cb hb.cb;have hti:=ra (llq rs) rs.length r htw h5 ((llq rs).map nA) (fun j hj=>lW oz) rs.length rs.length _ _ e f (afq _) (afq _) na nb ha.cb hb.cb oz;refine gW (Wk.of (sl:=[pP 1 (nA (lq a)),pP 2 (nA (lq b)),pP 3 (.ptr 3 0),pP 8 (i64 (aQ rs [a,b]))]) (hp:=[pP 3 (.box [.lst 1 ((llq rs).map nA)])]) (.cons rfl (Sub.of e1) (.cons rfl (Sub.of e2) (.k (.k .nil)))) (.cons rfl (BlkSub.boxL (.cons (.of (qu e0)) .nil) rfl) .nil)) ?_;refine gc hti ?_;refine gc (kz _ h5 np.1) ?_;refine bg ?_;rw[agz h1,h1,np.2.1];rfl
theorem Xp(rs:List (List Rt))(r:Nat)(h:TR rs r)(a b:List Rt)(e f:Nat)(ha:NR a e)(hb:NR b f)(he:e+f+1<=lm rs.length) :
  FP 136 [a5 rs,nR a,nR b] (.tup [i64 (if aQ rs [a,b]=0 then T.sgn (am (llq rs)) rs.length (T.add rs.length (ae rs.length (lq a)) (T.neg rs.length (ae rs.length (lq b))))else 0),i64 (aQ rs [a,b])]):=by
 have hr:=h.le;have hlm:=gd rs.length;refine ai func136 ?_;refine gc (nN rs r h [a,b] (lL ha hb) (by simp)) ?_;refine gC (fun z=>?_) (fun z=>?_) (st2:=(77777,0))
 ·have h1:=eF z;refine bg ?_;rw[agy h1];rfl
 have h1:=eR z;obtain⟨h2,h3⟩:=gL h1;obtain⟨tw,e0⟩:=bZ h h2;obtain⟨e1,na⟩:=ha.num (h3 a (by simp));obtain⟨e2,nb⟩:=hb.num (h3 b (by simp));have hlen:(llq rs).length=rs.length:=afm _;have h5:rs.length<=5:=by have:=tw.five;omega
 have hla:=na.len5 h5;have hlb:=nb.len5 h5;have htw:=tw.ok;rw[hlen]at htw;have qa:∀q∈lq a,Qs q:=fun q hq=>ha.cb.qs oz hq
 have qb:∀q∈lq b,Qs q:=fun q hq=>hb.cb.qs oz hq
 have qm:∀q∈b8 (lq b),Qs q:=fun q hq=>hb.cb.minus.qs oz hq
 have np:=mh na (ol nb);have hsg:=rJ (llq rs) rs.length r htw h5 (fun j hj=>tw.pos j oz) ((llq rs).map nA) (fun j hj=>lW oz) rs.length _ _ (afq _) np (ha.cb.plus hb.cb.minus) (l0 (afq rs.length) (by have:=tw.three;omega) hr oz);refine gW (Wk.of (sl:=[pP 1 (nA (lq a)),pP 2 (nA (lq b)),pP 3 (.ptr 3 0),pP 8 (i64 (aQ rs [a,b]))]) (hp:=[pP 3 (.box [.lst 1 ((llq rs).map nA)])]) (.cons rfl (Sub.of e1) (.cons rfl (Sub.of e2) (.k (.k .nil)))) (.cons rfl (BlkSub.boxL (.cons (.of (qu e0)) .nil) rfl) .nil)) ?_;refine gc (wH _ qb oz) ?_;refine gc (p6 _ _ qa qm oz (by rw[fO];omega)) ?_;refine gc hsg ?_;refine gD ?_;refine bg ?_;rw[agz h1,h1,gj,kK];rfl
theorem Xe(rs:List (List Rt))(r:Nat)(h:TR rs r)(a:List Rt)(e:Nat)(ha:NR a e)(he:e<=lm rs.length) :
  FP 109 [a5 rs,nR a] (.tup [i64 (if aQ rs [a]=0 then T.sgn (am (llq rs)) rs.length (ae rs.length (lq a))else 0),i64 (aQ rs [a])]):=by
 have hr:=h.le;have hlm:=gd rs.length;refine ai func109 ?_;refine gc (nN rs r h [a] (fun x hx=>by rw[adc.1 hx];exact⟨ha.ok,ha.len⟩) (by simp)) ?_;refine gC (fun z=>?_) (fun z=>?_) (st2:=(77777,0))
 ·have h1:=eF z;refine bg ?_;rw[agy h1];rfl
 have h1:=eR z;obtain⟨h2,h3⟩:=gL h1;obtain⟨tw,e0⟩:=bZ h h2;obtain⟨e1,na⟩:=ha.num (h3 a (by simp));have hlen:(llq rs).length=rs.length:=afm _;have h5:rs.length<=5:=by have:=tw.five;omega
 have htw:=tw.ok;rw[hlen]at htw;have hsg:=rJ (llq rs) rs.length r htw h5 (fun j hj=>tw.pos j oz) ((llq rs).map nA) (fun j hj=>lW oz) rs.length _ _ (afq _) na ha.cb (l0 (afq rs.length) (by have:=tw.three;omega) hr oz);refine gW (Wk.of (sl:=[pP 1 (nA (lq a)),pP 2 (.ptr 2 0),pP 6 (i64 (aQ rs [a]))]) (hp:=[pP 2 (.box [.lst 1 ((llq rs).map nA)])]) (.cons rfl (Sub.of e1) (.k (.k .nil))) (.cons rfl (BlkSub.boxL (.cons (.of (qu e0)) .nil) rfl) .nil)) ?_;refine gc hsg ?_;refine bg ?_;rw[agz h1,h1];rfl
theorem Qg(rs:List (List Rt))(r:Nat)(h:TR rs r)(a:List Rt)(e:Nat)(ha:NR a e)(he:e<=lm rs.length) :
  FP 108 [a5 rs,nR a] (.tup [nA (if aQ rs [a]=0 then aP (lq a) (2^rs.length)else[]),i64 (aQ rs [a])]):=by
 have hlm:=gd rs.length;refine ai func108 ?_;refine gc (nN rs r h [a] (fun x hx=>by rw[adc.1 hx];exact⟨ha.ok,ha.len⟩) (by simp)) ?_;refine gC (fun z=>?_) (fun z=>?_) (st2:=(77777,0))
 ·have h1:=eF z;refine gR ?_;exact gy (by rw[agy h1];exact Sub.tup (.cons (.nil _ _ _) (.cons (.refl _) .nil)))
 have h1:=eR z;obtain⟨h2,h3⟩:=gL h1;obtain⟨tw,e0⟩:=bZ h h2;obtain⟨e1,na⟩:=ha.num (h3 a (by simp));have hlen:(llq rs).length=rs.length:=afm _;have h5:rs.length<=5:=by have:=tw.five;omega
 have hp5:2^rs.length<=32:=bU (b:=5) h5;refine gW (Wk.of (sl:=[pP 1 (nA (lq a)),pP 2 (.ptr 2 0),pP 6 (i64 (aQ rs [a]))]) (hp:=[pP 2 (.box [.lst 1 (rs.map nR)])]) (.cons rfl (Sub.of e1) (.k (.k .nil))) (.k .nil)) ?_;refine gl ?_;refine gs (i6 (.const _) (.tmp rfl) oz (sZ oz) rfl) ?_;refine gc (q6 _ _ na.le oz) ?_;refine bg ?_;rw[agz h1,h1];rfl
theorem UR(x:Rt)(hx:x.ok)(hs:Qs x.q):FP 66 [x.av] (nA (sh 0 (x.q:Rat))):=by
 have hadd:=wm x (rt 0) hx Qs.zero.ok;rw[Ni]at hadd;refine ai func66 ?_;refine gc (xm x hx) ?_;refine gC (fun z=>?_) (fun z=>?_)
 ·have h0:x.q=0:=tl (by simpa[aa]using z);refine gR ?_;exact jp (by rw[h0];exact Sub.nil _ _ _)
 have h0:x.q≠0:=fun h=>by rw[h]at z;cases z
 refine gc (Con.sA (.cons (.refl _) (.cons jV .nil)) hadd) ?_;refine af ?_;have:sh 0 (x.q:Rat)=[x.q]:=agy h0;rw[this];rfl
theorem wK{p q:Rat}(hp:Qs p)(hq:Qs q):FP 172 [qA p,qA q] (qA (p+q)):=by
 have h:=xh (rt p) (rt q) hp.ok hq.ok;rw[bq,bq]at h;exact h
theorem wg{p q:Rat}(hp:Qs p)(hq:Qs q):FP 330 [qA p,qA q] (qA (p-q)):=by
 have h:=S6 (rt p) (rt q) hp.ok hq.ok;rw[bq,bq]at h;exact h
theorem sQ{p q:Rat}(hp:Qs p)(hq:Qs q):FP 337 [qA p,qA q] (qA (p*q)):=by
 have h:=H9 (rt p) (rt q) hp.ok hq.ok;rw[bq,bq]at h;exact h
theorem L0{p q:Rat}(hp:Qs p)(hq:Qs q):FP 361 [qA p,qA q] (.tup [qA (p/q),cf (if q=0 then 8 else 0)]):=by
 have h:=KG (rt p) (rt q) hp.ok hq.ok;rw[bq,bq]at h;exact h
theorem Qy{p:Rat}(hp:Qs p):FP 79 [qA p] (qA (-p)):=by
 have h:=D6 (rt p) hp.ok;rw[bq]at h;exact h
theorem Yf{p:Rat}(hp:Qs p):FP 179 [qA p] (i64 (bB p)):=by
 have h:=xl (rt p) hp.ok;rw[bq]at h;exact h
theorem BR{p q:Rat}(hp:Qs p)(hq:Qs q):FP 157 [qA p,qA q] (qA (p+q)):=by
 have h:=wm (rt p) (rt q) hp.ok hq.ok;rw[bq,bq]at h;exact h
theorem To{p q:Rat}(hp:Qs p)(hq:Qs q):FP 160 [qA p,qA q] (qA (p-q)):=by
 have h:=Kx (rt p) (rt q) hp.ok hq.ok;rw[bq,bq]at h;exact h
theorem HU{p q:Rat}(hp:Qs p)(hq:Qs q):FP 158 [qA p,qA q] (qA (p*q)):=by
 have h:=Gn (rt p) (rt q) hp.ok hq.ok;rw[bq,bq]at h;exact h
theorem Tk{p q:Rat}(hp:Qs p)(hq:Qs q):FP 287 [qA p,qA q] (.tup [qA (p/q),i64 (if q=0 then 8 else 0)]):=by
 have h:=IC (rt p) (rt q) hp.ok hq.ok;rw[bq,bq]at h;exact h
theorem zT(x:Tn)(hx:x.t.ok):FP 84 [x.av] (cf x.err):=by
 refine ai func84 ?_;refine gc (si x.t hx) ?_;refine bn (fun _=>(xl x.t hx)) ?_;refine gC (fun z=>?_) (fun z=>?_)
 ·have h0:=Tn.err_yes z;refine af ?_;rw[h0];rfl
 have h0:=Tn.err_no z;refine af ?_;rw[h0];rfl
theorem HV{p q:Rat}(hp:Qs p)(hq:Qs q):FP 448 [qA p,qA q] (qA (p/q)):=by
 refine ai func448 ?_;refine gc (L0 hp hq) ?_;refine gC (fun t14=>?_) (fun t14=>?_)
 ·have h0:q=0:=by
   have:=eQ t14
   by_cases h:q=0
   ·exact h
   ·rw[agy h]at this;exact ag5 rfl this
  refine gR ?_;exact jp (by rw[h0,U5];exact jV)
 refine af ?_;rfl
theorem MN(half:Bool){t:Rat}{e:Nat}(ht:Qb e t)(he:e<=1000000):FP 400 [Tn.av ⟨rt t,half⟩] (.tup [qA (jS half t),qA (jO half t)]):=by
 have qt:Qs t:=ht.qs oz;have m2:=ht.mul ht;have one:Qb 1 (((1:Int):Rat)):=Qb.one;have d:=one.add m2;refine ai func400 ?_;refine gC (fun z=>?_) (fun z=>?_)
 ·have h0:half=true:=z;refine gc (ng (-1) oz) ?_;refine gR ?_;exact gy (by subst h0;exact Sub.tup (.cons (.refl _) (.cons jV .nil)))
 have h0:half=false:=z;refine gc (ng 1 oz) ?_;refine gc (sQ qt qt) ?_;refine gD ?_;refine gc (wK (one.qs oz) (m2.qs oz)) ?_;refine gc (wg (one.qs oz) (m2.qs oz)) ?_;refine gc (HV ((one.sub m2).qs oz) (d.qs oz)) ?_;refine gc (wK qt qt) ?_;refine gc (HV ((ht.add ht).qs oz) (d.qs oz)) ?_;refine gD ?_;refine bg ?_;subst h0;rfl
theorem OU(x:Tn)(hx:x.t.ok){e:Nat}(hq:Qb e x.t.q)(he:e<=1000000):FP 314 [x.av] (.tup [qA (if x.err=0 then jS x.half x.t.q else 0),cf x.err]):=by
 refine ai func314 ?_;refine gc (zT x hx) ?_;refine gC (fun z=>?_) (fun z=>?_)
 ·have h1:=eQ z;refine gR ?_;exact gy (by rw[agy h1];exact Sub.tup (.cons jV (.cons (.refl _) .nil)))
 have h1:=fd z;have hd:=MN x.half hq he;rw[<- Rt.eq_rt hx (Tn.ok_valid h1)]at hd;refine gc hd ?_;refine bg ?_;rw[agz h1,h1];rfl
theorem ZB(x:Tn)(hx:x.t.ok){e:Nat}(hq:Qb e x.t.q)(he:e<=1000000):FP 315 [x.av] (.tup [qA (if x.err=0 then jO x.half x.t.q else 0),cf x.err]):=by
 refine ai func315 ?_;refine gc (zT x hx) ?_;refine gC (fun z=>?_) (fun z=>?_)
 ·have h1:=eQ z;refine gR ?_;exact gy (by rw[agy h1];exact Sub.tup (.cons jV (.cons (.refl _) .nil)))
 have h1:=fd z;have hd:=MN x.half hq he;rw[<- Rt.eq_rt hx (Tn.ok_valid h1)]at hd;refine gc hd ?_;refine bg ?_;rw[agz h1,h1];rfl
theorem P0(x:Tn)(hx:x.t.ok):FP 81 [x.av] (i64 x.err):=by
 refine ai func81 ?_;refine gc (uw x.t hx) ?_;refine bn (fun _=>(xm x.t hx)) ?_;refine gC (fun z=>?_) (fun z=>?_)
 ·have h0:=Tn.err_yes z;refine af ?_;rw[h0];rfl
 have h0:=Tn.err_no z;refine af ?_;rw[h0];rfl
theorem CP:FP 161 [] (qA 1):=by
 refine ai func161 ?_;refine gc (sE 1 oz) ?_;refine af ?_
 first |rfl |(simp;done)
theorem Hh{p q:Rat}(hp:Qs p)(hq:Qs q):FP 159 [qA p,qA q] (qA (p/q)):=by
 refine ai func159 ?_;refine gc (Tk hp hq) ?_;refine af ?_
 first |rfl |(simp;done)
theorem VF(half:Bool){t:Rat}{e:Nat}(ht:Qb e t)(he:e<=1000000):FP 67 [Tn.av ⟨rt t,half⟩] (qA (jS half t)):=by
 have qt:Qs t:=ht.qs oz;have m2:=ht.mul ht;have d:=Qb.one.add m2;refine ai func67 ?_;refine gC (fun z=>?_) (fun z=>?_)
 ·have h0:half=true:=z;refine gc (sE (-1) oz) ?_;refine af ?_;subst h0;rfl
 have h0:half=false:=z;refine gc (HU qt qt) ?_;refine gc CP ?_;refine gc (To (Qb.one.qs oz) (m2.qs oz)) ?_;refine gc CP ?_;refine gc (BR (Qb.one.qs oz) (m2.qs oz)) ?_;refine gc (Hh ((Qb.one.sub m2).qs oz) (d.qs oz)) ?_;refine gD ?_;refine af ?_;subst h0;rfl
theorem Yj(half:Bool){t:Rat}{e:Nat}(ht:Qb e t)(he:e<=1000000):FP 68 [Tn.av ⟨rt t,half⟩] (qA (jO half t)):=by
 have qt:Qs t:=ht.qs oz;have m2:=ht.mul ht;have d:=Qb.one.add m2;refine ai func68 ?_;refine gC (fun z=>?_) (fun z=>?_)
 ·have h0:half=true:=z;refine gR ?_;exact jp (by subst h0;exact jV)
 have h0:half=false:=z;refine gc (BR qt qt) ?_;refine gc CP ?_;refine gc (HU qt qt) ?_;refine gc (BR (Qb.one.qs oz) (m2.qs oz)) ?_;refine gc (Hh ((ht.add ht).qs oz) (d.qs oz)) ?_;refine gD ?_;refine af ?_;subst h0;rfl
theorem tV{ts:LL}{r e f:Nat}(tw:Tw ts r){a b:List Rat}(ha:Nm ts.length e a)(hb:Nm ts.length f b)(he:e+f<=lm ts.length) :
  FP 250 [aB ts,nA a,nA b] (.tup [nA (sh ts.length (T.add ts.length (ae ts.length a) (ae ts.length b))),.v .nilIface]):=by
 have h:=NF (ts.map (List.map rt)) r tw.tr (a.map rt) (b.map rt) e f (ha.rt oz) (hb.rt oz) (by rw[afm];exact he);have h0:aQ (ts.map (List.map rt)) [a.map rt,b.map rt]=0:=lE tw ha hb;rw[h0,agz rfl,iG,cT,cT,cJ,cJ,afm]at h;exact h
theorem zn{ts:LL}{r e f:Nat}(tw:Tw ts r){a b:List Rat}(ha:Nm ts.length e a)(hb:Nm ts.length f b)(he:e+f<=lm ts.length) :
  FP 209 [aB ts,nA a,nA b] (.tup [nA (sh ts.length (T.add ts.length (ae ts.length a) (T.neg ts.length (ae ts.length b)))),.v .nilIface]):=by
 have h:=XU (ts.map (List.map rt)) r tw.tr (a.map rt) (b.map rt) e f (ha.rt oz) (hb.rt oz) (by rw[afm];exact he);have h0:aQ (ts.map (List.map rt)) [a.map rt,b.map rt]=0:=lE tw ha hb;rw[h0,agz rfl,iG,cT,cT,cJ,cJ,afm]at h;exact h
theorem yo{ts:LL}{r e f:Nat}(tw:Tw ts r){a b:List Rat}(ha:Nm ts.length e a)(hb:Nm ts.length f b)(he:e+f<=lm ts.length) :
  FP 210 [aB ts,nA a,nA b] (.tup [nA (sh ts.length (T.mul (am ts) ts.length (ae ts.length a) (ae ts.length b))),.v .nilIface]):=by
 have h:=Pj (ts.map (List.map rt)) r tw.tr (a.map rt) (b.map rt) e f (ha.rt oz) (hb.rt oz) (by rw[afm];exact he);have h0:aQ (ts.map (List.map rt)) [a.map rt,b.map rt]=0:=lE tw ha hb;rw[h0,agz rfl,iG,cT,cT,mb,cJ,cJ,afm]at h;exact h
theorem yQ{ts:LL}{r e f:Nat}(tw:Tw ts r){a b:List Rat}(ha:Nm ts.length e a)(hb:Nm ts.length f b)(he:e+f+1<=lm ts.length) :
  FP 399 [aB ts,nA a,nA b] (.tup [i64 (T.sgn (am ts) ts.length (T.add ts.length (ae ts.length a) (T.neg ts.length (ae ts.length b)))),.v .nilIface]):=by
 have h:=FZ (ts.map (List.map rt)) r tw.tr (a.map rt) (b.map rt) e f (ha.rt oz) (hb.rt oz) (by rw[afm];exact he);have h0:aQ (ts.map (List.map rt)) [a.map rt,b.map rt]=0:=lE tw ha hb;rw[h0,agz rfl,iG,cT,cT,mb,cJ,cJ,afm]at h;exact h
theorem wF{ts:LL}{r e:Nat}(tw:Tw ts r){a:List Rat}(ha:Nm ts.length e a)(he:e<=lm ts.length) :
  FP 87 [aB ts,nA a] (.tup [i64 (T.sgn (am ts) ts.length (ae ts.length a)),.v .nilIface]):=by
 have h:=RA (ts.map (List.map rt)) r tw.tr (a.map rt) e (ha.rt he) (by rw[afm];exact he);have h0:aQ (ts.map (List.map rt)) [a.map rt]=0:=wE tw ha;rw[h0,agz rfl,iG,cT,mb,cJ,afm]at h;exact h
theorem Te{ts:LL}{r e f:Nat}(tw:Tw ts r){a b:List Rat}(ha:Nm ts.length e a)(hb:Nm ts.length f b)(he:e+f<=lm ts.length) :
  FP 359 [aB ts,nA a,nA b] (.tup [nA (sh ts.length (T.add ts.length (ae ts.length a) (ae ts.length b))),i64 0]):=by
 have h:=U6 (ts.map (List.map rt)) r tw.tr (a.map rt) (b.map rt) e f (ha.rt oz) (hb.rt oz) (by rw[afm];exact he);have h0:aQ (ts.map (List.map rt)) [a.map rt,b.map rt]=0:=lE tw ha hb;rw[h0,agz rfl,iG,cT,cT,cJ,cJ,afm]at h;exact h
theorem OC{ts:LL}{r e f:Nat}(tw:Tw ts r){a b:List Rat}(ha:Nm ts.length e a)(hb:Nm ts.length f b)(he:e+f<=lm ts.length) :
  FP 252 [aB ts,nA a,nA b] (.tup [nA (sh ts.length (T.add ts.length (ae ts.length a) (T.neg ts.length (ae ts.length b)))),i64 0]):=by
 have h:=Yc (ts.map (List.map rt)) r tw.tr (a.map rt) (b.map rt) e f (ha.rt oz) (hb.rt oz) (by rw[afm];exact he);have h0:aQ (ts.map (List.map rt)) [a.map rt,b.map rt]=0:=lE tw ha hb;rw[h0,agz rfl,iG,cT,cT,cJ,cJ,afm]at h;exact h
theorem aay{ts:LL}{r e f:Nat}(tw:Tw ts r){a b:List Rat}(ha:Nm ts.length e a)(hb:Nm ts.length f b)(he:e+f<=lm ts.length) :
  FP 360 [aB ts,nA a,nA b] (.tup [nA (sh ts.length (T.mul (am ts) ts.length (ae ts.length a) (ae ts.length b))),i64 0]):=by
 have h:=QQ (ts.map (List.map rt)) r tw.tr (a.map rt) (b.map rt) e f (ha.rt oz) (hb.rt oz) (by rw[afm];exact he);have h0:aQ (ts.map (List.map rt)) [a.map rt,b.map rt]=0:=lE tw ha hb;rw[h0,agz rfl,iG,cT,cT,mb,cJ,cJ,afm]at h;exact h
theorem XH{ts:LL}{r e f:Nat}(tw:Tw ts r){a b:List Rat}(ha:Nm ts.length e a)(hb:Nm ts.length f b)(he:e+f+1<=lm ts.length) :
  FP 136 [aB ts,nA a,nA b] (.tup [i64 (T.sgn (am ts) ts.length (T.add ts.length (ae ts.length a) (T.neg ts.length (ae ts.length b)))),i64 0]):=by
 have h:=Xp (ts.map (List.map rt)) r tw.tr (a.map rt) (b.map rt) e f (ha.rt oz) (hb.rt oz) (by rw[afm];exact he);have h0:aQ (ts.map (List.map rt)) [a.map rt,b.map rt]=0:=lE tw ha hb;rw[h0,agz rfl,iG,cT,cT,mb,cJ,cJ,afm]at h;exact h
theorem Pu{ts:LL}{r e:Nat}(tw:Tw ts r){a:List Rat}(ha:Nm ts.length e a)(he:e<=lm ts.length) :
  FP 109 [aB ts,nA a] (.tup [i64 (T.sgn (am ts) ts.length (ae ts.length a)),i64 0]):=by
 have h:=Xe (ts.map (List.map rt)) r tw.tr (a.map rt) e (ha.rt he) (by rw[afm];exact he);have h0:aQ (ts.map (List.map rt)) [a.map rt]=0:=wE tw ha;rw[h0,agz rfl,iG,cT,mb,cJ,afm]at h;exact h
theorem zp{ts:LL}{r e:Nat}(tw:Tw ts r){a:List Rat}(ha:Nm ts.length e a)(he:e<=lm ts.length) :
  FP 128 [aB ts,nA a] (.tup [nA (sh ts.length (T.neg ts.length (ae ts.length a))),.v .nilIface]):=by
 have h:=Fc (ts.map (List.map rt)) r tw.tr (a.map rt) e (ha.rt he) (by rw[afm];exact he);have h0:aQ (ts.map (List.map rt)) [a.map rt]=0:=wE tw ha;rw[h0,agz rfl,iG,cT,cJ,afm]at h;exact h
theorem xe{ts:LL}{r:Nat}(tw:Tw ts r):FP 138 [aB ts] (.v .nilIface):=by
 have h:=zG (ts.map (List.map rt)) r tw.tr;rw[tw.chk,iG]at h;exact h
theorem mU{q:Rat}(h:Qs q):FP 115 [qA q] (nA (sh 0 (q:Rat))):=by
 have h1:=Yd (rt q) h.ok (by rw[bq];exact h);rw[bq]at h1;exact h1
theorem pW{q:Rat}(h:Qs q):FP 66 [qA q] (nA (sh 0 (q:Rat))):=by
 have h1:=UR (rt q) h.ok (by rw[bq];exact h);rw[bq]at h1;exact h1
theorem BI{ts:LL}{r e:Nat}(tw:Tw ts r)(ls:LL)(hl:∀l∈ls,Nm ts.length e l)(he:e<=lm ts.length)(hn:ls.length<=1000):FP 264 [aB ts,.lst 1 (ls.map nA)] (.v .nilIface):=by
 refine ai func264 ?_;refine gc (xe tw) ?_;refine gf ?_;refine gl ?_;refine aL [2,15,16] [2] (fun(i:Nat)=>[pP 17 (i64 i)]) (fun _=>[]) (fun i=>i<=ls.length) (fun i=>ls.length-i) 0 (afz _) ?_;rintro i hi K1 J1;refine gC (fun z=>?_) (fun z=>?_)
 ·have hin:i<ls.length:=by simpa[aa] using z
  obtain⟨l,hll⟩:=ay hin;have hok:=hl l (afl hll);refine gi (aq hll) ?_;refine gc (zp tw hok he) ?_;refine gf ?_;refine ga aK ?_;exact aH J1 (i+1) hin
 have hin:i=ls.length:=by have:ls.length<=i:=(by simpa[aa]using z);omega
 refine af ?_
 first |rfl |(simp;done)
theorem tQ{ts:LL}{r e:Nat}(tw:Tw ts r)(ps:List (List Rat×List Rat))(hl:∀p∈ps,Nm ts.length e p.1/\Nm ts.length e p.2)(he:e<=lm ts.length)(hn:ps.length<=500):FP 204 [aB ts,.lst 2 (ps.map fun p=>aw p.1 p.2)] (.v .nilIface):=by
 refine ai func204 ?_;refine gl ?_;refine gW (Wk.virt 900 1 rfl) ?_;refine aL [2,8,9] [2] (fun(i:Nat)=>[pP 5 (.ms 900 1 0 (2*i)),pP 10 (i64 i)]) (fun i=>[pP 900 (.row 1 ((jh (ps.take i)).map nA))]) (fun i=>i<=ps.length) (fun i=>ps.length-i) 0 (afz _) ?_;rintro i hi K1 J1;refine gC (fun z=>?_) (fun z=>?_) (st2:=(7,0))
 ·have hin:i<ps.length:=by simpa[aa] using z
  obtain⟨p,hp⟩:=ay hin;have hfl:(jh (ps.take i)).length=2*i:=by rw[zm,agu];omega
  refine gi (aq hp) ?_;refine gs (eg (.tmp rfl) rfl (by rw[afm,hfl]) (.tmp rfl) T42 rfl T53 rfl rfl (by simp;omega) rfl rfl) ?_ (6,0);refine gW (Wk.of (sl:=[pP 2 (.ptr 2 0),pP 5 (.ms 20 1 0 (2*i+2)),pP 8 (.lst 2 (ps.map fun p=>aw p.1 p.2)),pP 9 (i64 ps.length),pP 10 (i64 i)]) (hp:=[pP 2 (.box [.lst 1 (ts.map nA)]),pP 20 (.row 1 ((jh (ps.take (i+1))).map nA))]) bj (.k (.cons rfl (BlkSub.of (by rw[eH hp,KH,agc];rfl)) .nil))) ?_ (6,0);refine gW (Wk.rk (k:=20) (d:=900) rfl rfl) ?_;refine ga aK ?_;exact aH J1 (i+1) hin
 have hin:i=ps.length:=by have:ps.length<=i:=(by simpa[aa]using z);omega
 subst hin;refine gW ((Wk.freeze (k:=900) rfl).trans<|Wk.of (sl:=[pP 2 (.ptr 2 0),pP 5 (.lst 1 ((jh ps).map nA))]) (hp:=[pP 2 (.box [.lst 1 (ts.map nA)])]) (.k (.cons rfl (Sub.of (by rw[cz (by rw[afm,zm,agu];omega),af1])) .nil)) (.k .nil)) ?_;refine gc (BI tw (jh ps) (Gv hl) he (by rw[zm];omega)) ?_;refine af ?_
 first |rfl |(simp;done)
theorem z6(R:List AV)(a:List Rat):Con prog 413 [.ptr 1000 0,nA a,.v .nilIface] [pP 1000 (.box [.lst 1 R,.v .nilIface])] (nA a) [pP 1000 (.box [.lst 1 R,.v .nilIface])]:=by
 refine gF func413 (fun k z h=>cO h) ?_;refine gC (fun y=>?_) (fun y=>?_) (st2:=(77777,0))
 ·refine gR ?_;exact aE.keep (df rfl)
 cases y
theorem yt{ts:LL}{r e f:Nat}(tw:Tw ts r){a b:List Rat}(ha:Nm ts.length e a)(hb:Nm ts.length f b)(he:e+f<=lm ts.length) :
  Con prog 336 [.ptr 1000 0,nA a,nA b] [pP 1000 (gp ts)] (nA (sh ts.length (T.add ts.length (ae ts.length a) (ae ts.length b)))) [pP 1000 (gp ts)]:=by
 refine gF func336 (fun k z h=>cO h) ?_;refine gc (tV tw ha hb he) ?_;refine gt (aF (z6 _ _) (aI rfl rfl rfl) aG rfl rfl) ?_;refine gR ?_;exact aE.keep (df rfl)
theorem xK{ts:LL}{r e f:Nat}(tw:Tw ts r){a b:List Rat}(ha:Nm ts.length e a)(hb:Nm ts.length f b)(he:e+f<=lm ts.length) :
  Con prog 331 [.ptr 1000 0,nA a,nA b] [pP 1000 (gp ts)] (nA (sh ts.length (T.add ts.length (ae ts.length a) (T.neg ts.length (ae ts.length b))))) [pP 1000 (gp ts)]:=by
 refine gF func331 (fun k z h=>cO h) ?_;refine gc (zn tw ha hb he) ?_;refine gt (aF (z6 _ _) (aI rfl rfl rfl) aG rfl rfl) ?_;refine gR ?_;exact aE.keep (df rfl)
theorem oo{ts:LL}{r e f:Nat}(tw:Tw ts r){a b:List Rat}(ha:Nm ts.length e a)(hb:Nm ts.length f b)(he:e+f<=lm ts.length) :
  Con prog 333 [.ptr 1000 0,nA a,nA b] [pP 1000 (gp ts)] (nA (sh ts.length (T.mul (am ts) ts.length (ae ts.length a) (ae ts.length b)))) [pP 1000 (gp ts)]:=by
 refine gF func333 (fun k z h=>cO h) ?_;refine gc (yo tw ha hb he) ?_;refine gt (aF (z6 _ _) (aI rfl rfl rfl) aG rfl rfl) ?_;refine gR ?_;exact aE.keep (df rfl)
theorem R0{ts:LL}{r e f:Nat}(tw:Tw ts r){a b c d:List Rat}(ha:Nm ts.length e a)(hb:Nm ts.length e b)(hc:Nm ts.length f c)(hd:Nm ts.length f d)(he:2*(e+f+kB r ts.length)<=lm ts.length) :
  Con prog 211 [.ptr 1000 0,aw a b,aw c d] [pP 1000 (gp ts)] (nA (sh ts.length (pf ts (ae ts.length a) (ae ts.length b) (ae ts.length c) (ae ts.length d)))) [pP 1000 (gp ts)]:=by
 refine gF func211 (fun k z h=>cO h) ?_;refine gt (aF (oo tw ha hc oz) (aI rfl rfl rfl) aG rfl rfl) ?_;refine gt (aF (oo tw hb hd oz) (aI rfl rfl rfl) aG rfl rfl) ?_;refine gt (aF (vl▸yt tw (ha.mul tw rfl hc) (hb.mul tw rfl hd) oz) (aI rfl rfl rfl) aG rfl rfl) ?_;refine gD ?_;refine gR ?_;exact aE.keep (df rfl)
theorem JI{ts:LL}{r e f:Nat}(tw:Tw ts r){a b c d:List Rat}(ha:Nm ts.length e a)(hb:Nm ts.length e b)(hc:Nm ts.length f c)(hd:Nm ts.length f d)(he:2*(e+f+kB r ts.length)<=lm ts.length) :
  Con prog 208 [.ptr 1000 0,aw a b,aw c d] [pP 1000 (gp ts)] (nA (sh ts.length (ni ts (ae ts.length a) (ae ts.length b) (ae ts.length c) (ae ts.length d)))) [pP 1000 (gp ts)]:=by
 refine gF func208 (fun k z h=>cO h) ?_;refine gt (aF (oo tw ha hd oz) (aI rfl rfl rfl) aG rfl rfl) ?_;refine gt (aF (oo tw hb hc oz) (aI rfl rfl rfl) aG rfl rfl) ?_;refine gt (aF (uK▸xK tw (ha.mul tw rfl hd) (hb.mul tw rfl hc) oz) (aI rfl rfl rfl) aG rfl rfl) ?_;refine gD ?_;refine gR ?_;exact aE.keep (df rfl)
def T.inv(r:(k:Nat)->T k):(k:Nat)->T k->T k
  |0,q=>(1:Rat)/q
  |k+1,x =>
    if T.isZ k x.2=true then(T.inv r k x.1,T.zero k)
    else if T.sgn r k (T.norm r k x)=0 then(T.inv r k (T.add k x.1 x.1),T.zero k)
    else(T.mul r k x.1 (T.inv r k (T.norm r k x)),T.mul r k (T.neg k x.2) (T.inv r k (T.norm r k x)))
theorem T.inv_low(r:(k:Nat)->T k)(k:Nat)(x:T k):T.inv r (k+1) (x,T.zero k)=(T.inv r k x,T.zero k):=by
 have h:=(T.isZ_iff k (T.zero k)).2 rfl
 conv=>lhs;unfold T.inv
 simp only[agz h]
theorem om(r:(k:Nat)->T k){i j:Nat}{s L:List Rat}(hs:s.length<=2^i)(hL:L.length<=2^i)(h:ae i L=T.inv r i (ae i s))(hij:i<=j):ae j L=T.inv r j (ae j s):=by
  induction j with
  | zero => have : i = 0 := by omega
            subst this;exact h
  |succ j ih =>
    by_cases h':i=j+1
    · rw[<- h'];exact h
    · rw[gN (af2 hs (bU oz)),gN (af2 hL (bU oz)),T.inv_low,ih oz]
def iB(r:Nat):Nat->Nat->Nat
  |0,e=>e
  |j+1,e=>e+iB r j (4*e+3*eB r j+r+1)+eB r (j+1)
theorem nG(r:Nat):∀j e,e<=iB r j e
 |0,e=>afq _
 |j+1,e=>by simp only[iB];omega
theorem vX(r:Nat):∀j {e f:Nat},e<=f->iB r j e<=iB r j f
 |0,e,f,h=>h
 |j+1,e,f,h=>by
  have:=vX r j (e:=4*e+3*eB r j+r+1) (f:=4*f+3*eB r j+r+1) oz;simp only[iB];omega
theorem SL(r j e:Nat):iB r j e<=iB r (j+1) e:=by
 have:=vX r j (e:=e) (f:=4*e+3*eB r j+r+1) oz;simp only[iB];omega
theorem zf(r e:Nat){i j:Nat}(h:i<=j):iB r i e<=iB r j e:=by
  induction j with
  | zero => have : i = 0 := by omega
            subst this;exact afq _
  |succ j ih =>
    by_cases hij:i=j+1
    · rw[hij];exact afq _
    · exact af2 (ih oz) (SL r j e)
theorem AI{r:(k:Nat)->T k}{n:Nat}(h:Sg (E r n) (sg r n))(hd:0<=sg r n (bp r n)){x y:E r n}(hz:sg r (n+1) (bA x y)≠0)(hN:sg r n (aM x y)=0):sg r n (x+x)≠0:=by
 have hx:sg r n x≠0:=by
  intro hx;rw[kC,hN,hx]at hz;have h1:sg r n (x*x)=0:=by rw[h.mul,hx];simp
  have h2:=h.zadd (y:=-(y*y*bp r n)) h1;unfold aM at hN;rw[h2,h.neg,h.mul,h.mul]at hN;unfold T.sgn3 at hz;have c1:=h.cs y;have c2:=h.cs (bp r n);rcases c1 with e |e |e <;> rcases c2 with e' |e' |e' <;> rw[e,e']at hN <;> rw[e,e']at hz <;> first |omega |(simp at hz) |(simp at hN)
 rcases h.cs x with e |e |e
 ·have:=h.padd (x:=-x) (y:=-x) (by rw[h.neg,e];rfl) (by rw[h.neg,e];decide);rw[show -x+-x=-(x+x) by grind,h.neg]at this;omega
 ·exact ag5 e hx
 ·have:=h.padd (x:=x) (y:=x) e oz;omega
theorem Cb.inv1{e:Nat}{q:Rat}(h:Cb e [q])(hq:q≠0):Cb e [(1:Rat)/q]:=by
 obtain⟨D,N,⟨h0,h1⟩,h2,h3⟩:=h;obtain⟨n,hn,hl⟩:=h1 q (by simp)
 have hD:((D:Int):Rat)≠0:=by
  intro h9;have:(D:Int)=0:=aeq.1 h9;omega
 have hn0:n≠0:=by
  rintro rfl;rw[show((0:Int):Rat)=0 from rfl]at hn;rcases Rat.mul_eq_zero.1 hn with h9 |h9
  ·exact hq h9
  ·exact hD h9
 have hnq:((n:Int):Rat)≠0:=fun h9=>hn0 (aeq.1 h9)
 refine⟨n.natAbs,D,⟨by omega,?_⟩,af2 hl h3,h2⟩;intro x hx;rw[adc.1 hx];have key:(1:Rat)/q*(n:Rat)=((D:Int):Rat):=by rw[<- hn];grind
 rcases Int.natAbs_eq n with e9 |e9
 ·refine⟨D,?_,by simp⟩;rw[<- e9];exact key
 ·refine ⟨-(D:Int),?_,by simp⟩;rw[Rat.intCast_neg,<- key]
  conv=>rhs;rw[e9]
  rw[Rat.intCast_neg];grind
theorem zd{e n:Nat}{s:List Rat}(h:Cb e s):Cb e (dj (s.take n) (b8 (s.drop n)) n):=by
 obtain⟨D,N,h1,h2,h3⟩:=h;exact⟨D,N,(h1.sub (fun q hq=>agr hq)).join (h1.sub (fun q hq=>adl hq)).minus,h2,h3⟩
theorem CK:∀{j i:Nat}{x:T j},(sh j x).length=2^(i+1)->i+1<=j->T.isZ i (ae i ((sh j x).drop (2^i)))=false
 |0,i,x,_,h=>by omega
 |j+1,i,x,hl,h=>by
  cases hz:T.isZ j x.2
  ·have h1:=aaw hz;rw[h1]at hl
   have e:i=j:=by
    rcases Nat.lt_trichotomy i j with h9 |h9 |h9
    ·have:=acd (a:=2) oz (show i+1<j+1 by omega);omega
    ·exact h9
    ·omega
   subst e;have h2:ae (i+1) (sh (i+1) x)=x:=bK (i+1) x;have h3:ae i ((sh (i+1) x).drop (2^i))=x.2:=ag6 Prod.snd h2;rw[h3];exact hz
  ·have h1:sh (j+1) x=sh j x.1:=by
    conv=>lhs;unfold sh
    rw[agz hz]
   rw[h1]at hl ⊢;have h2:=(eS j x.1).le
   have h3:i+1<=j:=by
    rcases afv j (i+1)with h9 |h9
    ·have:=acd (a:=2) oz h9;omega
    ·exact h9
   exact CK hl h3
theorem A7(r:(k:Nat)->T k){i:Nat}{x:T (i+1)}(hz:T.isZ i x.2=false)(h0:T.sgn r i (T.norm r i x)=0):T.inv r (i+1) x=(T.inv r i (T.add i x.1 x.1),T.zero i):=by
 conv=>lhs;unfold T.inv
 rw[agy (by rw[hz];decide),agz h0]
theorem Bt(r:(k:Nat)->T k){i:Nat}{x:T (i+1)}(hz:T.isZ i x.2=false)(h0:T.sgn r i (T.norm r i x)≠0) :
  T.inv r (i+1) x=(T.mul r i x.1 (T.inv r i (T.norm r i x)),T.mul r i (T.neg i x.2) (T.inv r i (T.norm r i x))):=by
 conv=>lhs;unfold T.inv
 rw[agy (by rw[hz];decide),agy h0]
theorem mul_low(r:(k:Nat)->T k)(i:Nat)(x y w:T i):T.mul r (i+1) (x,y) (w,T.zero i)=(T.mul r i x w,T.mul r i y w):=by
 show(T.add i (T.mul r i x w) (T.mul r i (T.mul r i y (T.zero i)) (r i)),T.add i (T.mul r i x (T.zero i)) (T.mul r i y w))=_;rw[T.mul_zero,T.zero_mul,T.mul_zero,T.add_zero,T.zero_add]
theorem sP{n e:Nat}{l:List Rat}(h:Nm n e l)(he:e<=4398046511103):NR (l.map rt) e:=by
 refine⟨?_,by have:=h.nl.len5 h.five;rw[afm];omega,by rw[cJ];exact h.cb⟩;intro x hx;obtain⟨q,hq,rfl⟩:=ac6.1 hx;exact(h.cb.qs oz hq).ok
theorem QI{ts:LL}{j e:Nat}{a:List Rat}{q:Rat}(h5:j<=5)(ha:Nl j a)(ca:Cb e a)(he:e<4398046511104)(hs:sh j (ae j a)=[q])(hq:q≠0) :
  FP 257 [aB ts,nA a] (nA [1/q]):=by
 have qa:∀q∈a,Qs q:=fun q hq=>ca.qs he hq
 have cs:=ca.sh ha;rw[hs]at cs;have qq:Qs q:=cs.qs he (by simp);have hsh:=lN a h5 ha qa;rw[hs]at hsh;have hdv:=KG (rt 1) (rt q) (Qb.one.qs oz).ok qq.ok;rw[bq,bq,agy hq]at hdv;refine ai func257 ?_;refine gc hsh ?_;refine gl ?_;refine gC (fun z=>?_) (fun z=>?_) (st2:=(77777,0))
 ·refine gc (ng 1 oz) ?_;refine gi rfl ?_;refine gc hdv ?_;refine gD ?_;refine af ?_;rfl
 cases z
theorem P6{ts:LL}{m r:Nat}(ht:f8 ts m r)(hm:m<=5)(hml:m<=ts.length){j e i:Nat}{a s L:List Rat}(h5:j<=5)(ha:Nl j a)(ca:Cb e a)(he:4*e+3*eB r i+r+1<4398046511104)(hs:sh j (ae j a)=s)(hi:i+1<=m)
  (hsl:s.length=2^(i+1)) (hb:sB r i (4*e+3*eB r i+r+1)<4398046511104) (h0:T.sgn (am ts) i (ae i (iW ts i s))=0)
  (hL:FP 257 [aB ts,nA (bN (s.take (2^i)) (s.take (2^i)))] (nA L)):FP 257 [aB ts,nA a] (nA L):=by
 have qa:∀q∈a,Qs q:=fun q hq=>ca.qs oz hq
 have cs:=ca.sh ha;have hsh:=lN a h5 ha qa;rw[hs]at cs hsh;have hp2:=abw i;have hpi:2^i<=32:=bU (b:=5) oz;have hps:2^(i+1)=2*2^i:=by rw[acq];omega
 obtain⟨nn,dn,cn⟩:=wT ht oz hsl cs;have k4:=rQ ts m r ht hm hml i _ _ oz nn cn hb;have qs:∀q∈s.take (2^i),Qs q:=fun q hq=>cs.take.qs oz hq
 refine ai func257 ?_;refine gc hsh ?_;refine gl ?_;refine gC (fun z=>?_) (fun z=>?_) (st1:=(3,0));exact ag5 z (by simp only[aa,beq_iff_eq];omega);refine gl ?_;refine gs (eh (.tmp rfl) (.const _) oz (show _=((2^i:Nat):Int) by rw[fi oz,hsl,eI]) rfl) ?_;refine gc (BN ts m r ht hm hml i s e oz hsl cs oz) ?_;refine gc k4 ?_;refine gC (fun z=>?_) (fun z=>?_) (st2:=(77777,0))
 ·refine gs (co (.tmp rfl) (.none _) (.some _ (.tmp rfl) oz) T53 rfl T106 rfl oz (by simp only[afm];omega) rfl) ?_;refine gs (co (.tmp rfl) (.none _) (.some _ (.tmp rfl) oz) T53 rfl T106 rfl oz (by simp only[afm];omega) rfl) ?_;refine gc (by have h9:=oJ _ _ qs qs (by simp;omega) (by simp;omega);rw[<- kg]at h9;exact h9) ?_;refine gc hL ?_;refine gD ?_;refine af ?_;rfl
 exact ag5 z (by rw[h0];decide)
theorem aab{ts:LL}{m r:Nat}(ht:f8 ts m r)(hm:m<=5)(hml:m<=ts.length){j e f i:Nat}{a s L:List Rat}(h5:j<=5)(ha:Nl j a)(ca:Cb e a)(he:4*e+3*eB r i+r+1<4398046511104)(hs:sh j (ae j a)=s)(hi:i+1<=m)
  (hsl:s.length=2^(i+1)) (hb:sB r i (4*e+3*eB r i+r+1)<4398046511104) (h0:T.sgn (am ts) i (ae i (iW ts i s))≠0)
  (hL:FP 257 [aB ts,nA (iW ts i s)] (nA L)) (nL:Nl i L) (cL:Cb f L) (hf:e+f+eB r (i+1)<4398046511104) :
  FP 257 [aB ts,nA a] (nA (pT ts (i+1) (dj (s.take (2^i)) (b8 (s.drop (2^i))) (2^i)) L)):=by
 have qa:∀q∈a,Qs q:=fun q hq=>ca.qs oz hq
 have cs:=ca.sh ha;have hsh:=lN a h5 ha qa;rw[hs]at cs hsh;have hp2:=abw i;have hpi:2^i<=32:=bU (b:=5) oz;have hps:2^(i+1)=2*2^i:=by rw[acq];omega
 obtain⟨nn,dn,cn⟩:=wT ht oz hsl cs;have k4:=rQ ts m r ht hm hml i _ _ oz nn cn hb;have qy:∀q∈s.drop (2^i),Qs q:=fun q hq=>cs.drop.qs oz hq
 have lx:(s.take (2^i)).length=2^i:=fB hsl;have ly:(s.drop (2^i)).length=2^i:=fJ hsl;have nj:Nl (i+1) (dj (s.take (2^i)) (b8 (s.drop (2^i))) (2^i)):=.inr ⟨i+1,afq _,by rw[mD oz (by rw[fO];omega)];omega⟩;have cj:Cb e (dj (s.take (2^i)) (b8 (s.drop (2^i))) (2^i)):=zd cs;have hti:=rV ts m r ht hm hml (i+1) (i+1) _ _ e f hi (afq _) nj (nL.mono oz) cj cL hf;refine ai func257 ?_;refine gc hsh ?_;refine gl ?_;refine gC (fun z=>?_) (fun z=>?_) (st1:=(3,0));exact ag5 z (by simp only[aa,beq_iff_eq];omega);refine gl ?_;refine gs (eh (.tmp rfl) (.const _) oz (show _=((2^i:Nat):Int) by rw[fi oz,hsl,eI]) rfl) ?_;refine gc (BN ts m r ht hm hml i s e oz hsl cs oz) ?_;refine gc k4 ?_;refine gC (fun z=>?_) (fun z=>?_) (st1:=(8,0));exact ag5 z (by simp only[aa,beq_iff_eq];omega);refine gs (co (.tmp rfl) (.none _) (.some _ (.tmp rfl) oz) T53 rfl T106 rfl oz (by simp only[afm];omega) rfl) ?_;refine gs (co (.tmp rfl) (.some _ (.tmp rfl) oz) (.none _) T53 rfl T106 rfl (by simp only[afm];omega) oz rfl) ?_;refine gc (by have h9:=rC _ qy oz;rw[<- kT]at h9;exact h9) ?_;refine gc (by have h9:=xy (s.take (2^i)) (b8 (s.drop (2^i))) (2^i) oz (by rw[fO];omega) oz;rw[<- kg]at h9;exact h9) ?_;refine gc hL ?_;refine gc hti ?_;refine gD ?_;refine af ?_;rfl
theorem abo{ts:LL}{m r:Nat}(ht:f8 ts m r)(hp:eA (am ts) m)(hm:m<=5)(hml:m<=ts.length)(j:Nat):∀(a:List Rat)(e:Nat),j<=m->Nl j a->Cb e a->T.sgn (am ts) j (ae j a)≠0 ->
  sB r j e<4398046511104->iB r j e<4398046511104->∃L,FP 257 [aB ts,nA a] (nA L)/\Nl j L/\Cb (iB r j e) L/\ae j L=T.inv (am ts) j (ae j a):=by
 induction j using Nat.strongRecOn
 rename_i j ih;intro a e hj ha ca h0 hs hi;have hse:=mI r j e;have cs:=ca.sh ha;have hsn:=eS j (ae j a);have hsd:=bK j (ae j a);have hle:=nG r j e;obtain⟨s,hsa⟩:∃s,sh j (ae j a)=s:=⟨_,rfl⟩
 rcases nE hsn with h |h |⟨i,hij,h⟩
 ·exfalso;have h1:=adp.1 h;rw[h1,iX]at hsd;rw[<- hsd,T.sgn_zero]at h0;exact h0 rfl
 ·obtain⟨q,hq⟩:=adi.1 h;rw[hq,lU] at hsd;rw[<- hsd,T.sgn_ofQ] at h0;have q0:q≠0:=by rintro rfl; exact h0 rfl
  refine⟨[1/q],QI oz ha ca oz hq q0,.inr ⟨0,by omega,rfl⟩,(Cb.inv1 (hq▸cs) q0).mono hle,?_⟩;rw[<- hsd,<- lU j q];exact om (am ts) (i:=0) (s:=[q]) (L:=[1/q]) (by simp) (by simp) rfl oz
 ·have hz:=CK h hij;rw[hsa] at h cs hsd hsn hz;obtain⟨nn,dn,cn⟩:=wT ht oz h cs;have hsl:s.length<=2 ^ (i+1):=by omega
  have b1:sB r i (4*e+3*eB r i+r+1)<=sB r j e:=rz r e hij;have b2:=mI r i (4*e+3*eB r i+r+1);have b3:iB r (i+1) e<=iB r j e:=zf r e hij;have b4:iB r (i+1) e=e+iB r i (4*e+3*eB r i+r+1)+eB r (i+1):=rfl;have lx:(s.take (2^i)).length=2^i:=fB h;have ly:(s.drop (2^i)).length=2^i:=fJ h;have hpi:2^i<=2^(i+1):=acr oz oz;rw[<- hsd]at h0 ⊢
  by_cases hN:T.sgn (am ts) i (ae i (iW ts i s))=0
  ·have hS:=kc (am ts) i (fun k hk=>hp k oz)
   have hx:T.sgn (am ts) i (ae i (bN (s.take (2^i)) (s.take (2^i))))≠0:=by
    rw[gj];rw[pN (am ts) hsl hij]at h0;rw[dn]at hN;exact AI hS (hp i oz) (x:=ae i (s.take (2^i))) (y:=ae i (s.drop (2^i))) h0 hN
   have np:Nl i (bN (s.take (2^i)) (s.take (2^i))):=.inr ⟨i,afq _,by rw[d9];omega⟩;have b5:=nf r i (e:=e+e+1) (f:=4*e+3*eB r i+r+1) oz;have b6:=vX r i (e:=e+e+1) (f:=4*e+3*eB r i+r+1) oz;obtain⟨L,k1,k2,k3,k4⟩:=ih i oz _ _ oz np (cs.take.plus cs.take) hx oz oz;refine⟨L,P6 ht hm hml oz ha ca oz hsa oz h oz hN k1,k2.mono oz,k3.mono oz,?_⟩;refine om (am ts) (i:=i+1) hsl (af2 k2.le hpi) ?_ hij;rw[A7 (am ts) hz (by rw[<- dn];exact hN),gN k2.le,k4,gj];rfl
  ·obtain⟨L,k1,k2,k3,k4⟩:=ih i oz _ _ oz nn cn hN oz oz;have nj:Nl (i+1) (dj (s.take (2^i)) (b8 (s.drop (2^i))) (2^i)):=.inr ⟨i+1,afq _,by rw[mD oz (by rw[fO];omega),acq];omega⟩;have s1:=gG ts m ht.1 (i+1) (i+1) _ _ oz (afq _) nj (k2.mono oz);have c1:=Cb.mul ht (k:=i+1) (show i+1<=m by omega) (afq _) nj (k2.mono oz) (zd cs) k3;refine⟨_,aab ht hm hml oz ha ca oz hsa oz h oz hN k1 k2 k3 oz,s1.1.mono hij,c1.mono oz,?_⟩;refine om (am ts) (i:=i+1) hsl s1.1.le ?_ hij;rw[Bt (am ts) hz (by rw[<- dn];exact hN),s1.2,vL oz,gN k2.le,mul_low,kK,k4,dn];rfl
theorem VO{ts:LL}{r e f:Nat}(tw:Tw ts r){a b:List Rat}(ha:Nm ts.length e a)(hb:Nm ts.length f b)(he:e<=4398046511103)(hf:f<=4398046511103):FP 192 [aB ts,.lst 1 [nA a,nA b]] (.v .nilIface):=by
 have hck:=oH (ts.map (List.map rt)) r tw.tr [a.map rt,b.map rt] (lL (sP ha he) (sP hb hf)) (by simp);have hc0:aQ (ts.map (List.map rt)) [a.map rt,b.map rt]=0:=lE tw ha hb;rw[hc0,iG]at hck;rw[show[nA a,nA b]=[a.map rt,b.map rt].map nR by simp[cT]];exact hck
theorem DU{ts:LL}{r f j:Nat}(tw:Tw ts r){b:List Rat}(hb:Nm ts.length f b)(hj:j<=ts.length)(nb:Nl j b)(h0:T.sgn (am ts) ts.length (ae ts.length b)≠0)(hf:f<=lm ts.length)(hi:iB r j f<4398046511104) :
  ∃L,FP 257 [aB ts,nA b] (nA L)/\Nl ts.length L/\Cb (iB r j f) L/\ae ts.length L=T.inv (am ts) ts.length (ae ts.length b):=by
 rw[pN (am ts) nb.le hj]at h0;obtain⟨L,k1,k2,k3,k4⟩:=abo tw.ok tw.pos tw.five (afq _) j b f hj nb hb.cb h0 (l0 hj tw.three tw.le hf) hi;exact⟨L,k1,k2.mono hj,k3,om (am ts) nb.le k2.le k4 hj⟩
theorem VR{ts:LL}{r e f j:Nat}(tw:Tw ts r){a b:List Rat}(ha:Nm ts.length e a)(hb:Nm ts.length f b)(hj:j<=ts.length)(nb:Nl j b)(h0:T.sgn (am ts) ts.length (ae ts.length b)≠0)(hf:f<=lm ts.length)(he:e+iB r j f+eB r ts.length<=200000000000) :
  FP 350 [aB ts,nA a,nA b] (.tup [nA (sh ts.length (T.mul (am ts) ts.length (ae ts.length a) (T.inv (am ts) ts.length (ae ts.length b)))),.v .nilIface]):=by
 have hlm:=gd ts.length;have h5:=tw.five;have h3:=tw.three;have hfe:=nG r j f;have hsB:=l0 (afq ts.length) h3 tw.le hf;have hsg:=rQ ts ts.length r tw.ok h5 (afq _) ts.length _ _ (afq _) hb.nl hb.cb hsB;obtain⟨L,k1,k2,k3,k4⟩:=DU tw hb hj nb h0 hf oz;have hti:=rV ts ts.length r tw.ok h5 (afq _) ts.length ts.length _ _ _ _ (afq _) (afq _) ha.nl k2 ha.cb k3 oz;have s1:=gG ts ts.length tw.ok.1 ts.length ts.length _ _ (afq _) (afq _) ha.nl k2;have c1:=Cb.mul tw.ok (k:=ts.length) (afq _) (afq _) ha.nl k2 ha.cb k3;have hsh:=lN _ h5 s1.1 (fun q hq=>c1.qs oz hq);rw[s1.2,k4]at hsh;refine ai func350 ?_;refine gc (VO tw ha hb oz oz) ?_;refine gf ?_;refine gc hsg ?_;refine gC (fun z=>?_) (fun z=>?_) (st1:=(5,0));exact ag5 z (by simp only[aa,beq_iff_eq];omega);refine gc k1 ?_;refine gc hti ?_;refine gc hsh ?_;refine gD ?_;refine bg ?_;rfl
theorem Z0{ts:LL}{r e f j:Nat}(tw:Tw ts r){a b:List Rat}(ha:Nm ts.length e a)(hb:Nm ts.length f b)(hj:j<=ts.length)(nb:Nl j b)(h0:T.sgn (am ts) ts.length (ae ts.length b)≠0)(hf:f<=lm ts.length)(he:e+iB r j f+eB r ts.length<=200000000000) :
  Nm ts.length (e+iB r j f+eB r ts.length) (sh ts.length (T.mul (am ts) ts.length (ae ts.length a) (T.inv (am ts) ts.length (ae ts.length b)))):=by
 obtain⟨L,k1,k2,k3,k4⟩:=DU tw hb hj nb h0 hf oz;have s1:=gG ts ts.length tw.ok.1 ts.length ts.length _ _ (afq _) (afq _) ha.nl k2;have c1:=Cb.mul tw.ok (k:=ts.length) (afq _) (afq _) ha.nl k2 ha.cb k3;refine⟨tw.five,eS _ _,?_⟩;rw[<- k4,<- s1.2];exact c1.sh s1.1
def oG(k:Nat):List Rat:=(ad7 (2^(k+1)) 0).set (2^k) 1
def ch(ts:LL)(a:List Rat):LL:=ts++[aP a (2^ts.length)]
theorem VI(k:Nat):(oG k).length=2^(k+1):=by simp[oG]
abbrev dO(l:Li)(kw driven:List Bool)(r:List AV):List AV:=l.av.cells++(.lst 1 (kw.map bl) :: .lst 1 (driven.map bl)::r)
theorem Q2(j:Jt)(b:Int):FP 467 [j.av,i64 b] (i64 (ko j b)):=by
 refine ai func467 ?_;refine gC (fun z=>?_) (fun z=>?_)
 ·have h1:b=j.a:=cB z;refine af ?_;unfold ko;rw[agz h1]
 have h1:b≠j.a:=cU z;refine gC (fun z=>?_) (fun z=>?_)
 ·have h2:b=j.b:=cB z;refine af ?_;unfold ko;rw[agy h1,agz h2]
 have h2:b≠j.b:=cU z;refine af ?_;unfold ko;rw[agy h1,agy h2];rfl
theorem SQ(j:Jt)(kind body:Int)(f:FuncId)(pre caps:List AV)(p:Int->Bool)(hp:0<=ko j body->FP f (pre++[i64 (ko j body)]++caps) (bl (p (ko j body)))) :
  FP 466 [j.av,.iptr [i64 body],.iptr [i64 kind],.iptr [.cl f pre caps]] (bl (zo kind body p j)):=by
 refine ai func466 ?_;refine gc (Q2 j body) ?_;refine bn (fun h=>(hp (Up h))) ?_;refine af ?_;exact ag6 bl aax
theorem Od(bs:List Jt)(hl:bs.length<=281474976710656)(f:FuncId)(pre caps:List AV)(ok:Nat->Bool)
  (hf:∀(i:Nat)(b:Jt),bs[i]?=some b->(∀j,j<i->ok j=true)->FP f (pre++[b.av]++caps) (bl (!ok i))) :
  FP 465 [.lst 7 (bs.map Jt.av),.cl f pre caps] (i64 (kG (bJ bs.length ok))):=by
 refine ai func465 ?_;refine gl ?_;refine aL [0,1,7] [] (fun(i:Nat)=>[pP 8 (i64 i)]) (fun _=>[]) (fun i=>i<=bs.length/\∀j,j<i->ok j=true) (fun i=>bs.length-i) 0 ⟨afz _,fun j h=>by omega⟩ ?_;rintro i ⟨hi,hj⟩ K1 J1;refine gC (fun z=>?_) (fun z=>?_)
 ·have hin:=aY z;obtain⟨b,hb⟩:=ay hin;refine gi (aq hb) ?_;refine gc (hf i b hb hj) ?_;refine gC (fun z=>?_) (fun z=>?_)
  ·have h2:=cm z;refine af ?_;rw[fS hin hj h2];rfl
  have h2:=ci z;refine ga aK ?_;exact aH J1 (i+1) ⟨hin,fun j h9=>by rcases afv j i with g |g;exact hj j g;(have:j=i:=by omega);subst this;exact h2⟩
 have hin:=a7 hi z;subst hin;refine af ?_;rw[gn hj];rfl
theorem II(l:Li)(hl:l.ok)(hli:ao l=0)(Fd:List AV)(kind body:Int)(f:FuncId)(pre caps:List AV)(p:Int->Bool)
  (hp:∀o:Int,0<=o->o<l.bo.length->FP f (pre++[i64 o]++caps) (bl (p o))) :
  FP 457 [.iptr (l.av.cells++Fd),i64 kind,i64 body,.cl f pre caps] (i64 (gJ l kind body p)):=by
 refine ai func457 ?_ (1,0);refine gW ((Wk.freezeB (k:=7) rfl rfl).trans<|(Wk.freezeB (k:=5) rfl rfl).trans<|(Wk.freezeB (k:=6) rfl rfl).trans<|Wk.o (sl:=[pP 0 (.iptr (l.av.cells++Fd)),pP 5 (.iptr [i64 kind]),pP 6 (.iptr [i64 body]),pP 7 (.iptr [.cl f pre caps])]) (hp:=[])) ?_;refine gc (Con.sA (.cons (.refl _) (.cons (MV rfl) .nil)) (Od l.jo hl.lj 466 [] [.iptr [i64 body],.iptr [i64 kind],.iptr [.cl f pre caps]] (fun i=>!zo kind body p (l.jo.getD i default)) (fun i b hb hj=>by rw[Bool.not_not,ax hb];exact SQ b kind body f pre caps p (fun h=>hp _ h (Rr hli hb body))))) ?_;refine af ?_;rfl
theorem PM(l:Li)(kw driven:List Bool)(r:List AV)(b:Int)(h0:0<=b)(h1:b<kw.length):FP 463 [.iptr (dO l kw driven r),i64 b] (bl (kn kw b)):=by
 obtain⟨v,hv⟩:∃v,kw[b.toNat]?=some v:=ay oz;have ev:kn kw b=v:=ax hv;refine ai func463 ?_;refine gi (bY (n:=b.toNat) oz hv) ?_;refine af ?_;rw[ev]
theorem Fi(l:Li)(hl:l.ok)(hli:ao l=0)(kw driven:List Bool)(hk:kw.length=l.bo.length)(r:List AV)(kind body:Int) :
  FP 455 [.iptr (dO l kw driven r),i64 kind,i64 body] (i64 (gJ l kind body (kn kw))):=by
 refine ai func455 ?_;refine gc (II l hl hli _ kind body 463 [.iptr (dO l kw driven r)] [] (kn kw) (fun o h0 h1=>PM l kw driven r o h0 oz)) ?_;refine af ?_;rfl
theorem WI(o j:Int):FP 458 [i64 o,.iptr [i64 j]] (bl (decide (o=j))):=by
 refine ai func458 ?_;refine af ?_;exact ag6 bl ql
theorem YH(l:Li)(kw driven:List Bool)(hd:driven.length=kw.length)(r:List AV)(b:Int)(h0:0<=b)(h1:b<kw.length) :
  FP 459 [.iptr (dO l kw driven r),i64 b] (bl (!kn kw b&&!kn driven b)):=by
 obtain⟨v,hv⟩:∃v,kw[b.toNat]?=some v:=ay oz;have ev:kn kw b=v:=ax hv;obtain⟨u,hu⟩:∃u,driven[b.toNat]?=some u:=ay oz;have eu:kn driven b=u:=ax hu;refine ai func459 ?_;refine gi (bY (n:=b.toNat) oz hv) ?_;refine nw (fun _=>(bY (n:=b.toNat) oz hu)) ?_;refine af ?_;rw[ev,eu];exact ag6 bl (iz _ _)
theorem Tg(l:Li)(hl:l.ok)(hli:ao l=0)(kw driven:List Bool)(hk:kw.length=l.bo.length)(r:List AV) :
  FP 417 [.iptr (dO l kw driven r)] (.tup [((driverG l kw).getD default).av,bl (driverG l kw).isSome]):=by
 have hld:=hl.ld;refine ai func417 ?_;refine gl ?_;refine aL [0,2,11,12] [2] (fun(i:Nat)=>[pP 13 (i64 i)]) (fun _=>[]) (fun i=>i<=l.dv.length/\∀j,j<i->(!drHit l kw j)=true) (fun i=>l.dv.length-i) 0 ⟨afz _,fun j h=>by omega⟩ ?_;rintro i ⟨hi,hj⟩ K1 J1;refine gC (fun z=>?_) (fun z=>?_)
 ·have hin:=aY z;obtain⟨d,hd⟩:=ay hin;have hdd:l.dv.getD i default=d:=ax hd;have hb:=cV (pS hli hd);obtain⟨v,hv⟩:∃v,kw[d.body.toNat]?=some v:=ay oz;have ev:kn kw d.body=v:=ax hv;have ej:gJ l 0 d.body (kn kw)=jointI l 0 d.body kw:=Cu hli (fun o _ _=>rfl);refine gi (aq hd) ?_;refine gi (bY (n:=d.body.toNat) oz hv) ?_;refine gD ?_;refine gC (fun z=>?_) (fun z=>?_)
  ·have h2:drHit l kw i=false:=by unfold drHit; rw[hdd,ev,z]; rfl
   refine ga aK ?_;exact aH J1 (i+1) ⟨hin,fun k h9=>by rcases afv k i with g |g;exact hj k g;(have:k=i:=by omega);subst this;rw[h2];rfl⟩
  have hv0:v=false:=z;refine gc (show je _ _ _ (i64 (jointI l 0 d.body kw)) by rw[<- ej];exact Fi l hl hli kw driven hk r 0 d.body) ?_;refine gC (fun z=>?_) (fun z=>?_)
  ·have h2:drHit l kw i=true:=by unfold drHit; rw[hdd,ev,hv0,ag3 (IA z)]; rfl
   have hg:driverG l kw=some ⟨0,[d.body],[jointI l 0 d.body kw],i⟩:=by unfold driverG;rw[fS hin hj (by rw[h2];rfl),<- hdd];rfl
   refine bg ?_;rw[hg];rfl
  have h2:drHit l kw i=false:=by unfold drHit;rw[hdd,ag4 (Gb z),aeu]
  refine ga aK ?_;exact aH J1 (i+1) ⟨hin,fun k h9=>by rcases afv k i with g |g;exact hj k g;(have:k=i:=by omega);subst this;rw[h2];rfl⟩
 have hin:=a7 hi z;subst hin;have hg:driverG l kw=none:=by unfold driverG;rw[gn hj];rfl
 refine gR ?_;exact aE.sub aE.pure (by rw[hg];exact Sub.tup (.cons tg (.cons (.refl _) .nil)))
theorem EJ(l:Li)(hli:ao l=0)(kw:List Bool)(hk:kw.length=l.bo.length)(r:List AV)(b:Nat)(h1:b<l.bo.length) :
  FP 459 [.iptr (dO l kw (bV l) r),i64 b] (bl (freeB l kw b)):=by
 have h:=YH l kw (bV l) (by rw[vV,hk]) r b oz oz;rw[WW hli oz]at h;exact h
theorem yY(l:Li)(hl:l.ok)(hli:ao l=0)(kw:List Bool)(hk:kw.length=l.bo.length)(r:List AV)(kind body:Int) :
  FP 455 [.iptr (dO l kw (bV l) r),i64 kind,i64 body] (i64 (jointI l kind body kw)):=by
 have h:=Fi l hl hli kw (bV l) hk r kind body;rw[Cu hli (fun o _ _=>rfl)]at h;exact h
theorem U9(l:Li)(hl:l.ok)(hli:ao l=0)(kw:List Bool)(hk:kw.length=l.bo.length)(r:List AV) :
  FP 419 [.iptr (dO l kw (bV l) r)] (.tup [((singleG l kw).getD default).av,bl (singleG l kw).isSome]):=by
 have h8:=(er hli).2.2.2.1;refine ai func419 ?_;refine gl ?_;refine aL [0,2,12,13] [2] (fun(i:Nat)=>[pP 14 (i64 i)]) (fun _=>[]) (fun i=>i<=l.bo.length/\∀j,j<i->(!sgHit l kw j)=true) (fun i=>l.bo.length-i) 0 ⟨afz _,fun j h=>by omega⟩ ?_;rintro i ⟨hi,hj⟩ K1 J1;refine gC (fun z=>?_) (fun z=>?_)
 ·have hin:=aY z;refine gc (EJ l hli kw hk r i hin) ?_;refine gC (fun z=>?_) (fun z=>?_)
  ·have h2:sgHit l kw i=false:=by unfold sgHit; rw[cm z]; rfl
   refine ga aK ?_;exact aH J1 (i+1) ⟨hin,fun k h9=>by rcases afv k i with g |g;exact hj k g;(have:k=i:=by omega);subst this;rw[h2];rfl⟩
  have hf:=ci z;refine gc (yY l hl hli kw hk r 0 i) ?_;refine gc (yY l hl hli kw hk r 1 i) ?_;refine gC (fun z=>?_) (fun z=>?_)
  ·have h2:sgHit l kw i=false:=by unfold sgHit; rw[Lo z,aeu]
   refine ga aK ?_;exact aH J1 (i+1) ⟨hin,fun k h9=>by rcases afv k i with g |g;exact hj k g;(have:k=i:=by omega);subst this;rw[h2];rfl⟩
  obtain⟨p0,s0⟩:=LB z;have s1:=(oc (l:=l) (kind:=1) (body:=i) (oth:=kw)).2;have h2:sgHit l kw i=true:=by unfold sgHit;rw[hf,ag3 p0,ag3 s0];rfl
  obtain⟨j,hjt⟩:∃j,l.jo[(jointI l 1 i kw).toNat]?=some j:=ay oz;have hjd:l.jo.getD (jointI l 1 i kw).toNat default=j:=ax hjt;have hg:singleG l kw=some (sgG l kw i):=by unfold singleG;rw[fS hin hj (by rw[h2];rfl),afi]
  refine gi (bY (n:=(jointI l 1 i kw).toNat) oz hjt) ?_;refine gC (fun z=>?_) (fun z=>?_)
  ·have hji:j.a=i:=cB z;refine bg ?_;rw[hg];unfold sgG;rw[hjd];simp only[afj,agz hji];rfl
  have hji:j.a≠i:=cU z;refine bg ?_;rw[hg];unfold sgG;rw[hjd];simp only[afj,agy hji];rfl
 have hin:=a7 hi z;subst hin;have hg:singleG l kw=none:=by unfold singleG;rw[gn hj];rfl
 refine gR ?_;exact aE.sub aE.pure (by rw[hg];exact Sub.tup (.cons tg (.cons (.refl _) .nil)))
theorem Qw(Fd:List AV):FP 456 [.iptr Fd] (.fn 464 [.iptr [.iptr Fd]]):=by
 refine ai func456 ?_ (1,0);refine gW ((Wk.freezeB (k:=1) rfl rfl).trans<|Wk.o (sl:=[pP 1 (.iptr [.iptr Fd])]) (hp:=[])) ?_;refine af ?_;rfl
def xj:Code->Option (Array Tmp×Code×Code)
  | .rangeFunc _ ps x y=>some (ps,x,y)
  | .seq a b=>match xj a with
    |some r=>some r
    |none=>xj b
  | .block _ c=>xj c
  |_=>none
def Lx(n:Nat)(o:Option Code):LpD:=match o with
  |some c=>match xj c with
    |some (ps,x,y)=>⟨ps,x,y,n⟩
    |none=>⟨#[],.skip,.skip,0⟩
  |none=>⟨#[],.skip,.skip,0⟩
def Mj(D:LpD)(Fd:List AV)(h:Bool):Blk:=.loop D (match h with |true=>.done |false=>.ready) (match h with |true=>some .ret |false=>none) [pP 1 (.iptr [.iptr Fd]),pP 2 (.ptr 1001 0),pP 3 (.ptr 1002 0)]
def zV(g:Gr):Blk:=.box [i64 g.kind,.lst 1 (g.bo.map i64),.lst 1 (g.jo.map i64),i64 g.driver]
def z8(h:Bool):Blk:=.box [bl h]
def fH(D:LpD)(Fd:List AV)(h:Bool)(g:Gr):Hp:=[pP 1000 (Mj D Fd h),pP 1001 (zV g),pP 1002 (z8 h)]
theorem K0{D:LpD}{Fd:List AV}{h:Bool}{g:Gr}{k:Nat}{z:Blk}(hz:lk (fH D Fd h g) k=some z):1000<=k:=by
 unfold fH at hz;simp only[aD]at hz;split at hz
 ·omega
 ·split at hz
  ·omega
  ·split at hz
   ·omega
   ·cases hz
theorem Vn{D:LpD}{Fd:List AV}{s:AS}(hs:∀k z,lk (fH D Fd false default) k=some z->s.blk k=some z) :
  ∀k∈(fH D Fd false default++cq (fH D Fd false default)).map (·.1),k∈(fH D Fd false default).map (·.1)/\lk (fH D Fd false default++cq (fH D Fd false default)) k=s.blk k:=by
 intro k hk
 have hk':k=1000\/k=1001\/k=1002:=by
  simp[fH,cq]at hk;omega
 rcases hk' with rfl |rfl |rfl
 ·exact⟨by simp[fH],(hs _ _ rfl).symm⟩
 ·exact⟨by simp[fH],(hs _ _ rfl).symm⟩
 ·exact⟨by simp[fH],(hs _ _ rfl).symm⟩
theorem Hz{l:Li}{kw:List Bool}{i k:Nat}(h:cond (freeB l kw i) (freeB l kw k) false=false):prHit l kw i k=false:=by
 rw[iz]at h;unfold prHit;rw[h];rfl
theorem TL{H R:Hp}{k:Nat}{z:Blk}(h:lk H k=some z):lk (H++R) k=some z:=by rw[ke,agz (jD h)];exact h
theorem Pc{a b:Bool}(h:cond a b false=true):a=true:=by cases a <;> simp_all
theorem Ai{a b:Bool}(h:cond a b false=true):b=true:=by cases a <;> simp_all
theorem Uz(D:LpD)(l:Li)(hl:l.ok)(hli:ao l=0)(kw:List Bool)(hk:kw.length=l.bo.length)(r:List AV)
  (hy:∀i k:Nat,i<k->k<l.bo.length->freeB l kw i=true->freeB l kw k=true ->
   xu prog 1000 [i64 i,i64 k] (fH D (dO l kw (bV l) r) false default) (bl (!prHit l kw i k)) (fH D (dO l kw (bV l) r) (prHit l kw i k) (cond (prHit l kw i k) (prG l kw i k) default))) :
  Con prog 464 [.yl 1000,.iptr [.iptr (dO l kw (bV l) r)]] (fH D (dO l kw (bV l) r) false default) (.tup []) (fH D (dO l kw (bV l) r) (pairG l kw).isSome ((pairG l kw).getD default)):=by
 have h8:=(er hli).2.2.2.1;refine gF func464 (fun k z h=>K0 h) ?_;refine gl ?_;refine aL [0,1,10] [1000,1001,1002] (fun(i:Nat)=>[pP 11 (i64 i)]) (fun _=>[]) (fun i=>i<=l.bo.length/\∀j,j<i->(prAt l kw j).isNone=true) (fun i=>l.bo.length-i) 0 ⟨afz _,fun j h=>by omega⟩ ?_;rintro i ⟨hi,hj⟩ K1 J1;refine gC (fun y=>?_) (fun y=>?_)
 ·have hin:=aY y;refine ga aK ?_;refine aL [0,1,3,10,11] [] (fun (k:Nat)=>[pP 4 (i64 (i+1+k:Nat))]) (fun _=>[pP 1000 (Mj D (dO l kw (bV l) r) false),pP 1001 (zV default),pP 1002 (z8 false)]) (fun k=>i+1+k<=l.bo.length/\∀ j,j<k->(!prHit l kw i (i+1+j))=true) (fun k=>l.bo.length - k) 0 ⟨by omega,fun j h=>by omega⟩ ?_;rintro k ⟨hkl,hkj⟩ K2 J2;refine gl ?_;refine gC (fun y=>?_) (fun y=>?_)
  ·have hkn:i+1+k<l.bo.length:=aY y;refine gc (EJ l hli kw hk r i hin) ?_;refine bn (fun _=>(EJ l hli kw hk r (i+1+k) hkn)) ?_;refine gs (Gm rfl rfl rfl (by intro hb; have h0:prHit l kw i (i+1+k)=false:=Hz (by simpa using hb); simp only [h0,cond_false]; exact Vn (by intro k z h; exact h)) (fun hb=>Y7 (k:=1000) (.opt rfl (by rw[hb]; rfl)) (hy i (i+1+k) oz hkn (Pc hb) (Ai hb)) (.cons (.opt rfl (by rw[hb]; rfl)) (.cons (.opt rfl (by rw[hb]; rfl)) .nil)) (by intro k z h; exact h) rfl rfl)) ?_;refine gC (fun y=>?_) (fun y=>?_)
   ·have h2:prHit l kw i (i+1+k)=true:=by have h9:=Ai y; rw[Bool.not_not] at h9; exact h9
    have hat:prAt l kw i=some (i+1+k):=by unfold prAt;rw[fS oz hkj (by rw[h2];rfl),afi];congr 1;omega
    have hg:pairG l kw=some (prG l kw i (i+1+k)):=by unfold pairG;rw[fS hin hj (by rw[hat];rfl),afi,hat]
    refine gR ?_;simp only[hg,h2,Option.isSome_some,afj,cond_true];exact aE.keep (fun k z h=>TL h)
   have h2:prHit l kw i (i+1+k)=false:=by cases hc:cond (freeB l kw i) (freeB l kw ((i+1+k:Nat):Int)) false with |false=>exact Hz hc |true=>rw[hc,Bool.not_not]at y;exact y
   refine ga aK ?_;exact aH J2 (k+1) ⟨by omega,fun j h9=>by rcases afv j k with g |g;exact hkj j g;(have:j=k:=by omega);subst this;rw[h2];rfl⟩ (hw:=Wk.of bj (.cons rfl (BlkSub.of (by rw[h2])) (.cons rfl (BlkSub.of (by rw[h2];rfl)) (.cons rfl (BlkSub.of (by rw[h2])) .nil))))
  have hkn:¬i+1+k<l.bo.length:=fun h=>by have h1:=tU y;omega
  have hat:prAt l kw i=none:=by unfold prAt;rw[show l.bo.length-(i+1)=k by omega,gn hkj];rfl
  refine ga aK ?_;exact aH J1 (i+1) ⟨hin,fun j h9=>by rcases afv j i with g |g;exact hj j g;(have:j=i:=by omega);subst this;rw[hat];rfl⟩
 have hin:=a7 hi y;have hg:pairG l kw=none:=by unfold pairG;rw[<- hin,gn hj];rfl
 refine gR ?_;simp only[hg,Option.isSome_none,Option.getD_none];exact aE.keep (fun k z h=>h)
variable{P:ahb}
mutual
def AV.pm(σ:Nat->Nat):AV->AV
  | .ms k sz off len=>.ms (σ k) sz off len
  | .ptr k off=>.ptr (σ k) off
  | .eptr k sz i off=>.eptr (σ k) sz i off
  | .yl k=>.yl (σ k)
  | .agg cs=>.agg (AV.pms σ cs)
  | .tup cs=>.tup (AV.pms σ cs)
  | .fn f cs=>.fn f (AV.pms σ cs)
  | .opt b x=>.opt b (AV.pm σ x)
  | .v x=>.v x
  | .lst sz l=>.lst sz l
  | .iptr l=>.iptr l
  | .cl f cs ds=>.cl f cs ds
def AV.pms(σ:Nat->Nat):List AV->List AV
  |[]=>[]
  |x::l=>AV.pm σ x::AV.pms σ l
end
theorem AV.pms_eq(σ:Nat->Nat):∀l,AV.pms σ l=l.map (AV.pm σ)
 |[]=>rfl
 |x::l=>by simp only[AV.pms,agv,AV.pms_eq σ l]
theorem AV.pm_one(σ:Nat->Nat)(x:AV)(h:x.one=true):(x.pm σ).one=true:=by
 cases x <;> simp only[AV.pm] <;> exact h
mutual
theorem AV.pm_pm{σ:Nat->Nat}(hσ:∀k,σ (σ k)=k):∀x:AV,(x.pm σ).pm σ=x
 | .ms k sz off len=>by simp only[AV.pm,hσ]
 | .ptr k off=>by simp only[AV.pm,hσ]
 | .eptr k sz i off=>by simp only[AV.pm,hσ]
 | .yl k=>by simp only[AV.pm,hσ]
 | .agg cs=>by simp only[AV.pm];rw[AV.pms_pms hσ cs]
 | .tup cs=>by simp only[AV.pm];rw[AV.pms_pms hσ cs]
 | .fn f cs=>by simp only[AV.pm];rw[AV.pms_pms hσ cs]
 | .opt b x=>by simp only[AV.pm];rw[AV.pm_pm hσ x]
 | .v x=>by simp only[AV.pm]
 | .lst sz l=>by simp only[AV.pm]
 | .iptr l=>by simp only[AV.pm]
 | .cl f cs ds=>by simp only[AV.pm]
theorem AV.pms_pms{σ:Nat->Nat}(hσ:∀k,σ (σ k)=k):∀l:List AV,AV.pms σ (AV.pms σ l)=l
 |[]=>by simp only[AV.pms]
 |x::l=>by simp only[AV.pms];rw[AV.pm_pm hσ x,AV.pms_pms hσ l]
end
theorem yb{g:Nat->Array ag9->Prop}{S:Nat->Nat->Prop}{σ:Nat->Nat}(hσ:∀k,σ (σ k)=k){m:Nat->Option Nat}{v:ag9}{x:AV}(h:Rep g S m v x):Rep g S (fun k=>m (σ k)) v (x.pm σ):=by
 induction h with
 |v x=>exact .v x
 |lst0 a cap sz'=>exact .lst0 a cap sz'
 |lst u hb hc hl hs ho hu hr _=>exact .lst u hb hc hl hs ho hu hr
 |iptr u hb ho hu hr _=>exact .iptr u hb ho hu hr
 |cl a b c d _ _=>exact .cl a b c d
 |ptr hm=>exact .ptr (by simp only[hσ];exact hm)
 |eptr hm=>exact .eptr (by simp only[hσ];exact hm)
 |yl hm=>exact .yl (by simp only[hσ];exact hm)
 |ms0 a k sz off=>exact .ms0 _ _ _ _
 |ms hm hc hS=>exact .ms (by simp only[hσ];exact hm) hc hS
 |opt h h' ih=>exact .opt ih h'
 |agg hn h1 hr ih =>
  simp only[AV.pm,AV.pms_eq];refine .agg (by simpa using hn) ?_ ?_
  ·intro j c hc;simp only[afu,afs]at hc;obtain⟨y,hy,rfl⟩:=hc;exact AV.pm_one _ _ (h1 j y hy)
  ·intro j u c hu hc;simp only[afu,afs]at hc;obtain⟨y,hy,rfl⟩:=hc;exact ih j u y hu hy
 |tup hn hr ih =>
  simp only[AV.pm,AV.pms_eq];refine .tup (by simpa using hn) ?_;intro j u c hu hc;simp only[afu,afs]at hc;obtain⟨y,hy,rfl⟩:=hc;exact ih j u y hu hy
 |fn hn hr ih =>
  simp only[AV.pm,AV.pms_eq];refine .fn (by simpa using hn) ?_;intro j u c hu hc;simp only[afu,afs]at hc;obtain⟨y,hy,rfl⟩:=hc;exact ih j u y hu hy
theorem TX{g:Nat->Array ag9->Prop}{S:Nat->Nat->Prop}{σ:Nat->Nat}(hσ:∀k,σ (σ k)=k){m:Nat->Option Nat}{w:ahc}{o:Option Nat}{x:Blk}(h:BlkRep g S m w o x) :
  BlkRep g S (fun k=>m (σ k)) w o (x.map (AV.pm σ)):=by
 cases x with
 |row sz es=>exact h.mono (fun _ _ h=>h) (fun _ _ h=>h) (fun _ _ hk=>hk.elim) rfl (fun _ _=>rfl)
 |vec vs=>exact h.mono (fun _ _ h=>h) (fun _ _ h=>h) (fun _ _ hk=>hk.elim) rfl (fun _ _=>rfl)
 |loop=>exact h.mapLoop _ (fun _ _ _ _ h=>yb hσ h)
 |box cs =>
  cases h with
  |box hw hn h1 hrr =>
   refine .box hw (by simpa using hn) ?_ ?_
   ·intro j x hx;simp only[afu,afs]at hx;obtain⟨y,hy,rfl⟩:=hx;exact AV.pm_one _ _ (h1 j y hy)
   ·intro j u x hu hx;simp only[afu,afs]at hx;obtain⟨y,hy,rfl⟩:=hx;exact yb hσ (hrr j u y hu hy)
theorem Aa{σ:Nat->Nat}(hσ:∀k,σ (σ k)=k):∀sl:bE,iF (AV.pm σ) (iF (AV.pm σ) sl)=sl
 |[]=>rfl
 |(t,none)::l=>by simp only[iF,Aa hσ l]
 |(t,some x)::l=>by simp only[iF,Aa hσ l,AV.pm_pm hσ x]
theorem Blk.pm_pm{σ:Nat->Nat}(hσ:∀k,σ (σ k)=k)(x:Blk):(x.map (AV.pm σ)).map (AV.pm σ)=x:=by
 cases x with
 |row sz es=>rfl
 |vec vs=>rfl
 |loop d st pe sl=>simp only[Blk.map,Aa hσ]
 |box cs =>
  simp only[Blk.map];rw[<- AV.pms_eq,<- AV.pms_eq,AV.pms_pms hσ]
def fN(σ:Nat->Nat):Hp->Hp
  |[]=>[]
  |(k,x)::l=>(σ k,match x with |some b=>some (b.map (AV.pm σ)) |none=>none)::fN σ l
theorem l8{σ:Nat->Nat}(hσ:∀k,σ (σ k)=k):∀(H:Hp)(k:Nat),lk (fN σ H) k=(lk H (σ k)).map (Blk.map (AV.pm σ))
 |[],k=>rfl
 |(k',x)::l,k=>by
  simp only[fN,aD,l8 hσ l k]
  by_cases h:k=σ k'
  ·rw[agz h,agz (by rw[h,hσ])];cases x <;> rfl
  ·rw[agy h,agy (fun e=>h (by rw[<- e,hσ]))]
theorem EF{σ:Nat->Nat}(hσ:∀k,σ (σ k)=k)(H:Hp)(m:Nat->Option Nat):aW (fN σ H) (fun k=>m (σ k))=aW H m:=by
 funext b;apply propext;constructor
 ·rintro⟨k,z,hz,hb⟩;rw[l8 hσ,afs]at hz;obtain⟨y,hy,rfl⟩:=hz;exact⟨σ k,y,hy,hb⟩
 ·rintro⟨k,y,hy,hb⟩;exact⟨σ k,y.map (AV.pm σ),by rw[l8 hσ,hσ,hy];rfl,by simp only[hσ];exact hb⟩
theorem Hf{σ:Nat->Nat}(hσ:∀k,σ (σ k)=k){ext:Nat->Prop}{H:Hp}{m:Nat->Option Nat}{w:ahc}(h:HeapRel ext H m w):HeapRel ext (fN σ H) (fun k=>m (σ k)) w:=by
 have e:Im ext (fN σ H) (fun k=>m (σ k)) w=Im ext H m w:=by funext b cs;simp only[Im,EF hσ]
 refine⟨?_,?_,?_⟩
 ·intro k z hz;rw[l8 hσ,afs]at hz;obtain⟨y,hy,rfl⟩:=hz;rw[e];exact TX hσ (h.blk _ y hy)
 ·intro k k' z z' b hz hz' hb hb';rw[l8 hσ,afs]at hz hz';obtain⟨y,hy,_⟩:=hz;obtain⟨y',hy',_⟩:=hz';have:=h.inj _ _ y y' b hy hy' hb hb';rw[<- hσ k,this,hσ]
 ·intro k z b hz hb;rw[l8 hσ,afs]at hz;obtain⟨y,hy,_⟩:=hz;exact h.sep _ y b hy hb
theorem Con.pm{σ:Nat->Nat}(hσ:∀k,σ (σ k)=k){f:FuncId}{args:List AV}{H H':Hp}{r:AV}(h:Con P f args H r H'):Con P f (args.map (AV.pm σ)) (fN σ H) (r.pm σ) (fN σ H'):=by
 refine⟨h.ok,?_⟩;intro ext m w vs hext hheap hvs hrep
 have hlk:∀k,lk (fN σ (fN σ H)) k=lk H k:=by
  intro k;rw[l8 hσ,l8 hσ,hσ];cases lk H k with
  |none=>rfl
  |some y=>simp only[afi,Blk.pm_pm hσ]
 have hh:=HeapRel.congr hlk (Hf hσ hheap);have em:(fun k=>(fun k=>m (σ k)) (σ k))=m:=by funext k;simp only[hσ]
 have eo:aW (fN σ H) m=aW H (fun k=>m (σ k)):=by
  have:=EF hσ H (fun k=>m (σ k));rw[em]at this;exact this
 have ei:Im ext (fN σ H) m w=Im ext H (fun k=>m (σ k)) w:=by funext b cs;simp only[Im,eo]
 refine Calls.mono (h.ret ext (fun k=>m (σ k)) w vs hext hh (by simpa using hvs) (fun j v x hv hx=>?_)) ?_
 ·have h1:=hrep j v (x.pm σ) hv (by simp[hx]);have h2:=yb hσ h1;rw[AV.pm_pm hσ,ei]at h2;exact h2
 ·rintro e w' ⟨v,m',rfl,hf,hh',hn,hk,hrr⟩;refine⟨v,fun k=>m' (σ k),rfl,eo▸hf,Hf hσ hh',?_,?_,?_⟩
  ·intro k x b hx hb;rw[l8 hσ,afs]at hx;obtain⟨y,hy,_⟩:=hx;rw[eo];exact hn _ y b hy hb
  ·intro k x y hx hy;rw[l8 hσ,afs]at hx hy;obtain⟨x',hx',_⟩:=hx;obtain⟨y',hy',_⟩:=hy;have:=hk _ x' y' hx' hy';simpa only[hσ]using this
  ·have e2:Im ext (fN σ H') (fun k=>m' (σ k)) w'=Im ext H' m' w':=by funext b cs; simp only [Im,EF hσ]
   rw[e2];exact yb hσ hrr
end Go.Lw
namespace Go.Lw
open Go.Proofs
theorem gZ{P:ahb}{N:Nat}{Q:Exit->AS->Prop}{c:Code}{s:AS}(h:Gd P N Q (.code c [] s)):br P N c Q s:=h
theorem Vz{P:ahb}{N:Nat}{Q:Exit->AS->Prop}{c:Code}{s s':AS}(hw:Wk s s')(h:kf P N c Q s'):kf P N c Q s:=by
 intro C m a w n hro hN hr;obtain⟨m',hr'⟩:=hw C m a w hr;exact h C m' a w n hro hN hr'
def yV(k:Nat):Nat:=bif ab3 k 1000 then 900 else bif ab3 k 900 then 1000 else bif ab3 k 1001 then 2 else bif ab3 k 2 then 1001 else bif ab3 k 1002 then 3 else bif ab3 k 3 then 1002 else k
theorem nb{a b:Nat}(h:¬a=b):ab3 a b=false:=by
 cases h1:ab3 a b
 ·rfl
 ·exact ag5 (afo h1) h
theorem YW(k:Nat):yV (yV k)=k:=by
 by_cases h1:k=1000
 ·subst h1;rfl
 by_cases h2:k=900
 ·subst h2;rfl
 by_cases h3:k=1001
 ·subst h3;rfl
 by_cases h4:k=2
 ·subst h4;rfl
 by_cases h5:k=1002
 ·subst h5;rfl
 by_cases h6:k=3
 ·subst h6;rfl
 have e:yV k=k:=by simp only[yV,nb h1,nb h2,nb h3,nb h4,nb h5,nb h6,cond_false]
 rw[e,e]
theorem RX(l:Li)(hl:l.ok)(hli:ao l=0)(kw:List Bool)(hk:kw.length=l.bo.length)(r:List AV) :
  FP 418 [.iptr (dO l kw (bV l) r)] (.tup [((pairG l kw).getD default).av,bl (pairG l kw).isSome]):=by
 refine Ll (rs:=Tryz.f418.results.toList) func418 rfl rfl (by simp) rfl (fun k z h=>by cases h) ?_;refine Cn (gZ (go ?_));refine Vz (s':=⟨[pP 1 (.iptr [.iptr (dO l kw (bV l) r)]),pP 2 (.ptr 2 0),pP 3 (.ptr 3 0)],[pP 2 (zV default),pP 3 (z8 false)]⟩) ((Wk.freezeB (k:=1) rfl rfl).trans (Wk.of (.k (.k (.k .nil))) (.cons rfl (BlkSub.boxL (.cons (.refl _) (.cons (.nil _ _ _) (.cons (.nil _ _ _) (.cons (.refl _) .nil)))) rfl) (.k .nil)))) ?_;refine Qh ?_;refine Cn (gZ (go ?_));refine gc (Qw (dO l kw (bV l) r)) ?_;refine VP ?_
 have hy:∀i k:Nat,i<k->k<l.bo.length->freeB l kw i=true->freeB l kw k=true ->
   xu prog 1000 [i64 i,i64 k] (fH (Lx Tryz.f418.ntmps Tryz.f418.body) (dO l kw (bV l) r) false default) (bl (!prHit l kw i k)) (fH (Lx Tryz.f418.ntmps Tryz.f418.body) (dO l kw (bV l) r) (prHit l kw i k) (cond (prHit l kw i k) (prG l kw i k) default)):=by
  intro i k hik hkn hfi hfk;refine Tu (k:=1000) (fun k z h=>K0 h) rfl rfl (by intro p hp;have h9:p∈[11,12]:=hp;have h8:p=11\/p=12:=(by simpa using h9);show p<42;rcases h8 with h7 |h7 <;> (rw[h7];decide)) ?_;refine gZ (go ?_);refine⟨rfl,_,_,rfl,?_⟩;have hJ:gJ l 0 i (fun o=>decide (o=(k:Int)))=jointI l 0 i (da l.bo.length k):=Cu hli (fun o h0 h1=>(CW h0 oz oz).symm);refine gZ (go ?_);refine gc (yY l hl hli kw hk r 0 i) ?_;refine gc (yY l hl hli kw hk r 0 k) ?_;refine gD ?_ (5,0);refine gW (Wk.freezeB (k:=5) rfl rfl) ?_;refine gc (r:=i64 (jointI l 0 i (da l.bo.length k))) (by rw[<- hJ];exact Con.sA (.cons (.refl _) (.cons (.refl _) (.cons (.refl _) (.cons (MV rfl) .nil)))) (II l hl hli _ 0 i 458 [] [.iptr [i64 k]] (fun o=>decide (o=(k:Int))) (fun o h0 h1=>WI o k))) ?_;refine gC (fun ht=>?_) (fun ht=>?_)
  ·have h2:prHit l kw i k=true:=by unfold prHit; rw[hfi,hfk]; exact (zi.symm.trans ht)
   rw[h2];exact⟨_,_,rfl,aE.keep (by intro q z h;simp only[fH,aD]at h;split at h;(subst_vars;exact h);split at h;(subst_vars;exact h);split at h;(subst_vars;exact h);cases h)⟩
  ·have h2:prHit l kw i k=false:=by unfold prHit; rw[hfi,hfk]; exact (zi.symm.trans ht)
   rw[h2];exact⟨_,_,rfl,aE.keep (by intro q z h;simp only[fH,aD]at h;split at h;(subst_vars;exact h);split at h;(subst_vars;exact h);split at h;(subst_vars;exact h);cases h)⟩
 have hcon:=Con.pm YW (Uz _ l hl hli kw hk r hy);cases hg:pairG l kw with
 |none =>
  rw[hg]at hcon;refine FI (k:=900) (sl0:=[pP 1 (.iptr [.iptr (dO l kw (bV l) r)]),pP 2 (.ptr 2 0),pP 3 (.ptr 3 0)]) (.tmp rfl) (by intro t x h;simp only[aD]at h;split at h;(subst_vars;exact h);split at h;(subst_vars;exact h);split at h;(subst_vars;exact h);cases h) rfl rfl hcon (fun k' z h=>h) rfl rfl rfl rfl (by intro h;cases h) (.inl ⟨rfl,?_⟩);refine Cn (gZ (go ?_));refine br.out (gZ (go ?_));refine gR ?_;exact aE.sub aE.pure (Sub.tup (.cons tg (.cons (.refl _) .nil)))
 |some g =>
  rw[hg]at hcon;refine FI (k:=900) (sl0:=[pP 1 (.iptr [.iptr (dO l kw (bV l) r)]),pP 2 (.ptr 2 0),pP 3 (.ptr 3 0)]) (.tmp rfl) (by intro t x h;simp only[aD]at h;split at h;(subst_vars;exact h);split at h;(subst_vars;exact h);split at h;(subst_vars;exact h);cases h) rfl rfl hcon (fun k' z h=>h) rfl rfl rfl rfl (by intro h;cases h) (.inr ⟨rfl,?_⟩);exact(bg (P:=prog) (N:=Tryz.f418.ntmps) (e:=.ret) rfl)
theorem CX{α:Type}{o:Option α}(h:o.isSome=true):∃x,o=some x:=by cases o <;> simp_all
theorem Bx{α:Type}{o:Option α}(h:o.isSome=false):o=none:=by cases o <;> simp_all
theorem P5(l:Li)(hl:l.ok)(hli:ao l=0)(kw:List Bool)(hk:kw.length=l.bo.length)(r:List AV) :
  FP 344 [.iptr (dO l kw (bV l) r)] (.tup [((nextG l kw).getD default).av,bl (nextG l kw).isSome]):=by
 refine ai func344 ?_;refine gc (Tg l hl hli kw (bV l) hk r) ?_;refine gC (fun z=>?_) (fun z=>?_)
 ·obtain⟨g,hg⟩:=CX z;refine bg ?_;unfold nextG;rw[hg];rfl
 have hg:=Bx z;refine gc (RX l hl hli kw hk r) ?_;refine gC (fun z=>?_) (fun z=>?_)
 ·obtain⟨g,hg2⟩:=CX z;refine bg ?_;unfold nextG;rw[hg,hg2];rfl
 have hg2:=Bx z;refine gc (U9 l hl hli kw hk r) ?_;refine bg ?_;unfold nextG;rw[hg,hg2];rfl
theorem A5{ts:LL}{r e:Nat}(tw:Tw ts r){a b c d:List Rat}(ha:Nm ts.length e a)(hb:Nm ts.length e b)(hc:Nm ts.length e c)(hd:Nm ts.length e d)(he:2*e<=lm ts.length) :
  Con prog 206 [.ptr 1000 0,aw a b,aw c d] [pP 1000 (gp ts)] (aw (sh ts.length (subT ts (ae ts.length a) (ae ts.length c))) (sh ts.length (subT ts (ae ts.length b) (ae ts.length d)))) [pP 1000 (gp ts)]:=by
 refine gF func206 (fun k z h=>cO h) ?_;refine gt (aF (xK tw ha hc oz) (aI rfl rfl rfl) aG rfl rfl) ?_;refine gt (aF (xK tw hb hd oz) (aI rfl rfl rfl) aG rfl rfl) ?_;refine gD ?_;refine gR ?_;exact aE.keep (df rfl)
theorem KB(R:List AV)(a:List Rat):Con prog 332 [.ptr 1000 0,nA a] [pP 1000 (.box [.lst 1 R,.v .nilIface])] (.tup [nA a,.v .nilIface]) [pP 1000 (.box [.lst 1 R,.v .nilIface])]:=by
 refine gF func332 (fun k z h=>cO h) ?_;refine gf ?_;refine gR ?_;show aE _ (AV.tup [nA a,.v .nilIface]) _ _;exact aE.keep (df rfl)
theorem Ed(R:List AV)(a b:List Rat):Con prog 205 [.ptr 1000 0,aw a b] [pP 1000 (.box [.lst 1 R,.v .nilIface])] (.tup [aw a b,.v .nilIface]) [pP 1000 (.box [.lst 1 R,.v .nilIface])]:=by
 refine gF func205 (fun k z h=>cO h) ?_;refine gf ?_;refine gR ?_;show aE _ (AV.tup [aw a b,.v .nilIface]) _ _;exact aE.keep (df rfl)
theorem aak{ts:LL}{r e:Nat}(tw:Tw ts r){a b c d p q:List Rat}(ha:Nm ts.length e a)(hb:Nm ts.length e b)(hc:Nm ts.length e c)(hd:Nm ts.length e d)(hp:Nm ts.length e p)(hq:Nm ts.length e q)
  (he:8*e+4+2*kB r ts.length<=lm ts.length) :
  Con prog 338 [.ptr 1000 0,aw a b,aw c d,aw p q] [pP 1000 (gp ts)] (nA (sh ts.length (sM ts (ae ts.length a) (ae ts.length b) (ae ts.length c) (ae ts.length d) (ae ts.length p) (ae ts.length q)))) [pP 1000 (gp ts)]:=by
 refine gF func338 (fun k z h=>cO h) ?_;refine gt (aF (A5 tw hc hd ha hb oz) (aI rfl rfl rfl) aG rfl rfl) ?_;refine gt (aF (A5 tw hp hq ha hb oz) (aI rfl rfl rfl) aG rfl rfl) ?_;refine gt (aF (AC▸JI tw (hc.sub ha) (hd.sub hb) (hp.sub ha) (hq.sub hb) oz) (aI rfl rfl rfl) aG rfl rfl) ?_;refine gD ?_;refine gR ?_;exact aE.keep (df rfl)
theorem LR{ts:LL}{r e:Nat}(tw:Tw ts r){a b c d:List Rat}(ha:Nm ts.length e a)(hb:Nm ts.length e b)(hc:Nm ts.length e c)(hd:Nm ts.length e d)(he:e<=lm ts.length)(f:FuncId)(v:List Rat)
  (hf:Con prog f [.ptr 1000 0,aw a b,aw c d] [pP 1000 (gp ts)] (nA v) [pP 1000 (gp ts)]) :
  FP 207 [aB ts,aw a b,aw c d,.fn f []] (.tup [nA v,.v .nilIface]):=by
 refine ai func207 ?_;refine gc (tQ (e:=e) tw [(a,b),(c,d)] (by simp only[agd,af8,or_false];rintro p (rfl |rfl);exact⟨ha,hb⟩;exact⟨hc,hd⟩) he (by simp)) ?_;refine gf ?_;refine gs (ur (.tmp rfl) (show Con prog f ([.ptr 22 0,aw a b,aw c d]++[]) [pP 22 (gp ts)] (nA v) [pP 22 (gp ts)]from Con.rekeyB 22 rfl rfl rfl rfl hf) (aI rfl rfl rfl) aG rfl rfl) ?_;refine gt (aF (Con.rekeyB 22 rfl rfl rfl rfl (KB _ _)) (ce rfl rfl) aG rfl rfl) ?_;refine bg ?_;rfl
theorem DB{ts:LL}{r e:Nat}(tw:Tw ts r){a b c d:List Rat}(ha:Nm ts.length e a)(hb:Nm ts.length e b)(hc:Nm ts.length e c)(hd:Nm ts.length e d)(he:2*(e+e+kB r ts.length)<=lm ts.length) :
  FP 102 [aB ts,aw a b,aw c d] (.tup [nA (sh ts.length (pf ts (ae ts.length a) (ae ts.length b) (ae ts.length c) (ae ts.length d))),.v .nilIface]):=by
 refine ai func102 ?_;refine gc (Con.sA (.cons (.refl _) (.cons (.refl _) (.cons (.refl _) (.cons (Sub.fn0 _) .nil)))) (LR tw ha hb hc hd oz _ _ (R0 tw ha hb hc hd he))) ?_;refine bg ?_
 first |rfl |(simp;done)
theorem SV{ts:LL}{r e:Nat}(tw:Tw ts r){a b c d p q:List Rat}(ha:Nm ts.length e a)(hb:Nm ts.length e b)(hc:Nm ts.length e c)(hd:Nm ts.length e d)(hp:Nm ts.length e p)(hq:Nm ts.length e q)
  (he:8*e+10+2*kB r ts.length<=lm ts.length) :
  FP 313 [aB ts,aw a b,aw c d,aw p q] (.tup [i64 (T.sgn (am ts) ts.length (sM ts (ae ts.length a) (ae ts.length b) (ae ts.length c) (ae ts.length d) (ae ts.length p) (ae ts.length q))),.v .nilIface]):=by
 have ho:=LG tw ha hb hc hd hp hq;refine ai func313 ?_;refine gc (tQ (e:=e) tw [(a,b),(c,d),(p,q)] (by simp only[agd,af8,or_false];rintro x (rfl |rfl |rfl);exact⟨ha,hb⟩;exact⟨hc,hd⟩;exact⟨hp,hq⟩) oz (by simp)) ?_;refine gf ?_;refine gt (aF (Con.rekeyB 25 rfl rfl rfl rfl (aak tw ha hb hc hd hp hq oz)) (.cons (.tmp rfl) (.cons (.tmp rfl) (.cons (.tmp rfl) (.cons (.tmp rfl) .nil)))) aG rfl rfl) ?_;refine gt (aF (Con.rekeyB 25 rfl rfl rfl rfl (KB _ _)) (ce rfl rfl) aG rfl rfl) ?_;refine gf ?_;refine gc (wF tw ho oz) ?_;refine bg ?_;rw[bK]
theorem NE{ts:LL}{r e:Nat}(tw:Tw ts r){a b c d:List Rat}(ha:Nm ts.length e a)(hb:Nm ts.length e b)(hc:Nm ts.length e c)(hd:Nm ts.length e d)(he:2*e+1<=lm ts.length) :
  FP 312 [aB ts,aw a b,aw c d] (.tup [bl (decide (T.sgn (am ts) ts.length (subT ts (ae ts.length a) (ae ts.length c))=0/\T.sgn (am ts) ts.length (subT ts (ae ts.length b) (ae ts.length d))=0)),.v .nilIface]):=by
 refine ai func312 ?_;refine gc (tQ (e:=e) tw [(a,b),(c,d)] (by simp only[agd,af8,or_false];rintro p (rfl |rfl);exact⟨ha,hb⟩;exact⟨hc,hd⟩) oz (by simp)) ?_;refine gf ?_;refine gc (yQ tw ha hc oz) ?_;refine gf ?_;refine gc (yQ tw hb hd oz) ?_;refine bg ?_;rw[<- SY];rfl
theorem YR{ts:LL}{r e:Nat}(tw:Tw ts r){a b c d:List Rat}(ha:Nm ts.length e a)(hb:Nm ts.length e b)(hc:Nm ts.length e c)(hd:Nm ts.length e d)(he:2*(e+e+kB r ts.length)<=lm ts.length) :
  FP 265 [aB ts,nA a,nA b,aw c d] (.tup [aw (sh ts.length (tK ts (ae ts.length a) (ae ts.length b) (ae ts.length c) (ae ts.length d))) (sh ts.length (vI ts (ae ts.length a) (ae ts.length b) (ae ts.length c) (ae ts.length d))),.v .nilIface]):=by
 refine ai func265 ?_;refine gc (BI (e:=e) tw [a,b,c,d] (by simp only[agd,af8,or_false];rintro x (rfl |rfl |rfl |rfl) <;> assumption) oz (by simp)) ?_;refine gf ?_;refine gt (aF (Con.rekeyB 27 rfl rfl rfl rfl (oo tw ha hc oz)) (aI rfl rfl rfl) aG rfl rfl) ?_;refine gt (aF (Con.rekeyB 27 rfl rfl rfl rfl (oo tw hb hd oz)) (aI rfl rfl rfl) aG rfl rfl) ?_;refine gt (aF (Con.rekeyB 27 rfl rfl rfl rfl (uK▸xK tw (ha.mul tw rfl hc) (hb.mul tw rfl hd) oz)) (aI rfl rfl rfl) aG rfl rfl) ?_;refine gt (aF (Con.rekeyB 27 rfl rfl rfl rfl (oo tw hb hc oz)) (aI rfl rfl rfl) aG rfl rfl) ?_;refine gt (aF (Con.rekeyB 27 rfl rfl rfl rfl (oo tw ha hd oz)) (aI rfl rfl rfl) aG rfl rfl) ?_;refine gt (aF (Con.rekeyB 27 rfl rfl rfl rfl (vl▸yt tw (hb.mul tw rfl hc) (ha.mul tw rfl hd) oz)) (aI rfl rfl rfl) aG rfl rfl) ?_;refine gt (aF (Con.rekeyB 27 rfl rfl rfl rfl (Ed _ _ _)) (ce rfl rfl) aG rfl rfl) ?_;refine gD ?_;refine bg ?_;rfl
theorem aa6{ts:LL}{r e:Nat}(tw:Tw ts r){a b c d:List Rat}(ha:Nm ts.length e a)(hb:Nm ts.length e b)(hc:Nm ts.length e c)(hd:Nm ts.length e d)(he:2*e<=lm ts.length) :
  FP 266 [aB ts,aw a b,aw c d] (.tup [aw (sh ts.length (T.add ts.length (ae ts.length a) (ae ts.length c))) (sh ts.length (T.add ts.length (ae ts.length b) (ae ts.length d))),.v .nilIface]):=by
 refine ai func266 ?_;refine gc (tQ (e:=e) tw [(a,b),(c,d)] (by simp only[agd,af8,or_false];rintro p (rfl |rfl);exact⟨ha,hb⟩;exact⟨hc,hd⟩) oz (by simp)) ?_;refine gf ?_;refine gt (aF (Con.rekeyB 21 rfl rfl rfl rfl (yt tw ha hc oz)) (aI rfl rfl rfl) aG rfl rfl) ?_;refine gt (aF (Con.rekeyB 21 rfl rfl rfl rfl (yt tw hb hd oz)) (aI rfl rfl rfl) aG rfl rfl) ?_;refine gt (aF (Con.rekeyB 21 rfl rfl rfl rfl (Ed _ _ _)) (ce rfl rfl) aG rfl rfl) ?_;refine gD ?_;refine bg ?_;rfl
theorem Pe{x y:Rat}(hx:Qs x)(hy:Qs y):FP 256 [qA x,qA y] (aw (sh 0 (x:Rat)) (sh 0 (y:Rat))):=by
 refine ai func256 ?_;refine gc (mU hx) ?_;refine gc (mU hy) ?_;refine gD ?_;refine af ?_
 first |rfl |(simp;done)
theorem xa{ts:LL}{r e:Nat}(tw:Tw ts r){a b c d:List Rat}(ha:Nm ts.length e a)(hb:Nm ts.length e b)(hc:Nm ts.length e c)(hd:Nm ts.length e d){x y:Rat}(hx:Qb e x)(hy:Qb e y)(he:8*e+4*kB r ts.length+4<=lm ts.length) :
  FP 139 [aB ts,.agg [nA a,nA b,nA c,nA d],qA x,qA y] (.tup [aw (sh ts.length (rE ts (ae ts.length a) (ae ts.length b) (ae ts.length c) x y)) (sh ts.length (sD ts (ae ts.length a) (ae ts.length b) (ae ts.length d) x y)),.v .nilIface]):=by
 have hlm:=gd ts.length;have nx:=Nm.ofQ ha.five (Cb.one hx);have ny:=Nm.ofQ ha.five (Cb.one hy);have nX:=oW tw ha hb nx ny;have nY:=pH tw ha hb nx ny;have z1:e<=2*(e+e+kB r ts.length)+1:=by omega
 have z2:2*(2*(e+e+kB r ts.length)+1)<=lm ts.length:=FA he;have hadd:=aa6 tw nX nY (hc.mono z1) (hd.mono z1) z2;refine ai func139 ?_;refine gc (BI (e:=e) tw [a,b,c,d] (by simp only[agd,af8,or_false];rintro x (rfl |rfl |rfl |rfl) <;> assumption) oz (by simp)) ?_;refine gf ?_;refine gc (Pe (hx.qs oz) (hy.qs oz)) ?_;refine gc (YR tw ha hb nx ny oz) ?_;refine gD ?_;refine gf ?_;refine gc hadd ?_;refine bg ?_;rw[pC,oR];rfl
theorem LP(rs:List (List Rt))(r e:Nat)(h:TR rs r)(xs:List (List Rt))(hx:∀a∈xs,NR a e)(he:e<=lm rs.length)(hl:xs.length<=1000):FP 32 [a5 rs,.lst 1 (xs.map nR)] (i64 (aQ rs xs)):=by
 refine ai func32 ?_;refine gc (Fp rs r h) ?_;refine gC (fun z=>?_) (fun z=>?_)
 ·have h1:=eF z;refine af ?_;rw[CM h1]
 have h1:=eR z;refine gl ?_;refine aL [2,15,16] [2] (fun(i:Nat)=>[pP 17 (i64 i)]) (fun _=>[]) (fun i=>i<=xs.length/\∀x∈xs.take i,bH rs.length x=0) (fun i=>xs.length-i) 0 ⟨afz _,fun x hx=>by simp at hx⟩ ?_;rintro i ⟨hi,hj⟩ K1 J1;refine gC (fun z=>?_) (fun z=>?_)
 ·have hin:i<xs.length:=by simpa[aa] using z
  obtain⟨a,ha⟩:=ay hin;have hok:=hx a (afl ha);have hone:aQ rs [a]=bH rs.length a:=BD h1;refine gi (aq ha) ?_;refine gc (Qg rs r h a e hok he) ?_;refine gC (fun z=>?_) (fun z=>?_)
  ·have h2:=eF z;refine af ?_;rw[hone]at h2 ⊢;rw[uR h1 ha hj h2]
  have h2:=eR z;rw[hone]at h2;refine ga aK ?_;exact aH J1 (i+1) ⟨hin,fun x hx=>by rw[eH ha]at hx;rcases aft.1 hx with h9 |h9;exact hj x h9;(rw[adc.1 h9];exact h2)⟩
 have hin:i=xs.length:=by have:xs.length<=i:=(by simpa[aa]using z);omega
 subst hin;rw[af1]at hj;refine af ?_;rw[nZ h1 hj];rfl
theorem vj{ts:LL}{r e f:Nat}(tw:Tw ts r){a b:List Rat}(ha:Nm ts.length e a)(hb:Nm ts.length f b)(he:e+f<=lm ts.length):FP 254 [aB ts,nA a,nA b] (nA (sh ts.length (T.add ts.length (ae ts.length a) (ae ts.length b)))):=by
 refine ai func254 ?_;refine gc (Te tw ha hb he) ?_;refine af ?_
 first |rfl |(simp;done)
theorem vE{ts:LL}{r e f:Nat}(tw:Tw ts r){a b:List Rat}(ha:Nm ts.length e a)(hb:Nm ts.length f b)(he:e+f<=lm ts.length):FP 130 [aB ts,nA a,nA b] (nA (sh ts.length (T.add ts.length (ae ts.length a) (T.neg ts.length (ae ts.length b))))):=by
 refine ai func130 ?_;refine gc (OC tw ha hb he) ?_;refine af ?_
 first |rfl |(simp;done)
theorem mH{ts:LL}{r e f:Nat}(tw:Tw ts r){a b:List Rat}(ha:Nm ts.length e a)(hb:Nm ts.length f b)(he:e+f<=lm ts.length):FP 255 [aB ts,nA a,nA b] (nA (sh ts.length (T.mul (am ts) ts.length (ae ts.length a) (ae ts.length b)))):=by
 refine ai func255 ?_;refine gc (aay tw ha hb he) ?_;refine af ?_
 first |rfl |(simp;done)
theorem BJ{ts:LL}{r e:Nat}(tw:Tw ts r){a:List Rat}(ha:Nm ts.length e a)(he:e<=lm ts.length):FP 33 [aB ts,nA a] (i64 (T.sgn (am ts) ts.length (ae ts.length a))):=by
 refine ai func33 ?_;refine gc (Pu tw ha he) ?_;refine af ?_
 first |rfl |(simp;done)
theorem km{ts:LL}{r e f:Nat}(tw:Tw ts r){a b:List Rat}(ha:Nm ts.length e a)(hb:Nm ts.length f b)(he:e+f+1<=lm ts.length):FP 50 [aB ts,nA a,nA b] (bl (dX ts (ae ts.length a) (ae ts.length b))):=by
 refine ai func50 ?_;refine gc (XH tw ha hb he) ?_;refine af ?_;exact ag6 bl (An _)
theorem Xo{ts:LL}{r e:Nat}(tw:Tw ts r){a b c d:List Rat}(ha:Nm ts.length e a)(hb:Nm ts.length e b)(hc:Nm ts.length e c)(hd:Nm ts.length e d)(he:2*e+1<=lm ts.length):FP 54 [aB ts,aw a b,aw c d] (bl (dX ts (ae ts.length a) (ae ts.length c)&&dX ts (ae ts.length b) (ae ts.length d))):=by
 refine ai func54 ?_;refine gc (km tw ha hc oz) ?_;refine bn (fun _=>(km tw hb hd oz)) ?_;refine af ?_;exact ag6 bl (iz _ _)
theorem CI{ts:LL}{r e:Nat}(tw:Tw ts r){a b c d:List Rat}(ha:Nm ts.length e a)(hb:Nm ts.length e b)(hc:Nm ts.length e c)(hd:Nm ts.length e d)(he:2*(e+e+kB r ts.length)<=lm ts.length):FP 247 [aB ts,aw a b,aw c d] (nA (sh ts.length (pf ts (ae ts.length a) (ae ts.length b) (ae ts.length c) (ae ts.length d)))):=by
 refine ai func247 ?_;refine gc (mH tw ha hc oz) ?_;refine gc (mH tw hb hd oz) ?_;refine gc (vl▸vj tw (ha.mul tw rfl hc) (hb.mul tw rfl hd) oz) ?_;refine gD ?_;refine af ?_
 first |rfl |(simp;done)
theorem CZ{ts:LL}{r e:Nat}(tw:Tw ts r){a b c d:List Rat}(ha:Nm ts.length e a)(hb:Nm ts.length e b)(hc:Nm ts.length e c)(hd:Nm ts.length e d)(he:2*(e+e+kB r ts.length)<=lm ts.length):FP 246 [aB ts,aw a b,aw c d] (nA (sh ts.length (ni ts (ae ts.length a) (ae ts.length b) (ae ts.length c) (ae ts.length d)))):=by
 refine ai func246 ?_;refine gc (mH tw ha hd oz) ?_;refine gc (mH tw hb hc oz) ?_;refine gc (uK▸vE tw (ha.mul tw rfl hd) (hb.mul tw rfl hc) oz) ?_;refine gD ?_;refine af ?_
 first |rfl |(simp;done)
theorem wU{ts:LL}{r e:Nat}(tw:Tw ts r){a b c d:List Rat}(ha:Nm ts.length e a)(hb:Nm ts.length e b)(hc:Nm ts.length e c)(hd:Nm ts.length e d)(he:2*e<=lm ts.length):FP 245 [aB ts,aw a b,aw c d] (aw (sh ts.length (subT ts (ae ts.length a) (ae ts.length c))) (sh ts.length (subT ts (ae ts.length b) (ae ts.length d)))):=by
 refine ai func245 ?_;refine gc (vE tw ha hc oz) ?_;refine gc (vE tw hb hd oz) ?_;refine gD ?_;refine af ?_
 first |rfl |(simp;done)
theorem DA{ts:LL}{r e:Nat}(tw:Tw ts r){a b c d:List Rat}(ha:Nm ts.length e a)(hb:Nm ts.length e b)(hc:Nm ts.length e c)(hd:Nm ts.length e d)(he:2*e<=lm ts.length):FP 357 [aB ts,aw a b,aw c d] (aw (sh ts.length (T.add ts.length (ae ts.length a) (ae ts.length c))) (sh ts.length (T.add ts.length (ae ts.length b) (ae ts.length d)))):=by
 refine ai func357 ?_;refine gc (vj tw ha hc oz) ?_;refine gc (vj tw hb hd oz) ?_;refine gD ?_;refine af ?_
 first |rfl |(simp;done)
theorem Cl{ts:LL}{r e:Nat}(tw:Tw ts r){a b c d:List Rat}(ha:Nm ts.length e a)(hb:Nm ts.length e b)(hc:Nm ts.length e c)(hd:Nm ts.length e d)(he:2*(e+e+kB r ts.length)<=lm ts.length):FP 358 [aB ts,nA a,nA b,aw c d] (aw (sh ts.length (tK ts (ae ts.length a) (ae ts.length b) (ae ts.length c) (ae ts.length d))) (sh ts.length (vI ts (ae ts.length a) (ae ts.length b) (ae ts.length c) (ae ts.length d)))):=by
 refine ai func358 ?_;refine gc (mH tw ha hc oz) ?_;refine gc (mH tw hb hd oz) ?_;refine gc (uK▸vE tw (ha.mul tw rfl hc) (hb.mul tw rfl hd) oz) ?_;refine gc (mH tw hb hc oz) ?_;refine gc (mH tw ha hd oz) ?_;refine gc (vl▸vj tw (hb.mul tw rfl hc) (ha.mul tw rfl hd) oz) ?_;refine gD ?_;refine af ?_
 first |rfl |(simp;done)
theorem Qd{ts:LL}{r e:Nat}(tw:Tw ts r){a b c d p q:List Rat}(ha:Nm ts.length e a)(hb:Nm ts.length e b)(hc:Nm ts.length e c)(hd:Nm ts.length e d)(hp:Nm ts.length e p)(hq:Nm ts.length e q)
  (he:8*e+10+2*kB r ts.length<=lm ts.length) :
  FP 149 [aB ts,aw a b,aw c d,aw p q] (i64 (T.sgn (am ts) ts.length (sM ts (ae ts.length a) (ae ts.length b) (ae ts.length c) (ae ts.length d) (ae ts.length p) (ae ts.length q)))):=by
 have ho:=LG tw ha hb hc hd hp hq;refine ai func149 ?_;refine gc (wU tw hc hd ha hb oz) ?_;refine gc (wU tw hp hq ha hb oz) ?_;refine gc (AC▸CZ tw (hc.sub ha) (hd.sub hb) (hp.sub ha) (hq.sub hb) oz) ?_;refine gc (BJ tw ho oz) ?_;refine gD ?_;refine af ?_;rw[bK]
theorem Hx{x y:Rat}(hx:Qs x)(hy:Qs y):FP 55 [qA x,qA y] (aw (sh 0 (x:Rat)) (sh 0 (y:Rat))):=by
 refine ai func55 ?_;refine gc (pW hx) ?_;refine gc (pW hy) ?_;refine gD ?_;refine af ?_
 first |rfl |(simp;done)
theorem Jj{ts:LL}{r e:Nat}(tw:Tw ts r){a b c d:List Rat}(ha:Nm ts.length e a)(hb:Nm ts.length e b)(hc:Nm ts.length e c)(hd:Nm ts.length e d){x y:Rat}(hx:Qb e x)(hy:Qb e y)(he:8*e+4*kB r ts.length+4<=lm ts.length) :
  FP 253 [aB ts,.agg [nA a,nA b,nA c,nA d],qA x,qA y] (aw (sh ts.length (rE ts (ae ts.length a) (ae ts.length b) (ae ts.length c) x y)) (sh ts.length (sD ts (ae ts.length a) (ae ts.length b) (ae ts.length d) x y))):=by
 have hlm:=gd ts.length;have nx:=Nm.ofQ ha.five (Cb.one hx);have ny:=Nm.ofQ ha.five (Cb.one hy);have nX:=oW tw ha hb nx ny;have nY:=pH tw ha hb nx ny;have z1:e<=2*(e+e+kB r ts.length)+1:=by omega
 have z2:2*(2*(e+e+kB r ts.length)+1)<=lm ts.length:=FA he;have hadd:=DA tw nX nY (hc.mono z1) (hd.mono z1) z2;refine ai func253 ?_;refine gc (Hx (hx.qs oz) (hy.qs oz)) ?_;refine gc (Cl tw ha hb nx ny oz) ?_;refine gc hadd ?_;refine gD ?_;refine af ?_;rw[pC,oR];rfl
theorem Bh(n:Int)(h:-9223372036854775808<=n/\n<=9223372036854775807):FP 124 [i64 n] (nA (sh 0 ((n:Rat):Rat))):=by
 refine ai func124 ?_;refine gc (sE n h) ?_;refine gc (pW (sG h)) ?_;refine af ?_
 first |rfl |(simp;done)
theorem ZX{ts:LL}{r e:Nat}(tw:Tw ts r){a b c d p q u v:List Rat}(ha:Nm ts.length e a)(hb:Nm ts.length e b)(hc:Nm ts.length e c)(hd:Nm ts.length e d)(hp:Nm ts.length e p)(hq:Nm ts.length e q)(hu:Nm ts.length e u)(hv:Nm ts.length e v)(he:2*e+1<=lm ts.length) :
  FP 17 [aB ts,.agg [nA a,nA b,nA c,nA d],.agg [nA p,nA q,nA u,nA v]] (bl (dX ts (ae ts.length a) (ae ts.length p)&&dX ts (ae ts.length b) (ae ts.length q)&&dX ts (ae ts.length c) (ae ts.length u)&&dX ts (ae ts.length d) (ae ts.length v))):=by
 refine ai func17 ?_;refine gc (km tw ha hp oz) ?_;refine bn (fun _=>(km tw hb hq oz)) ?_;refine bn (fun _=>(km tw hc hu oz)) ?_;refine bn (fun _=>(km tw hd hv oz)) ?_;refine af ?_;exact ag6 bl (GR _ _ _ _)
theorem Zr:FP 60 [] (.agg [nA [1],nA [],nA [],nA []]):=by
 refine ai func60 ?_;refine gc (sE 1 oz) ?_;refine gc (pW (sG (n:=1) oz)) ?_;refine gR ?_;exact jp (.agg (.cons (.refl _) (.cons (.nil _ _ _) (.cons (.nil _ _ _) (.cons (.nil _ _ _) .nil)))) rfl)
def u8(n:Nat):AV:=.v (.int .u8 n)
theorem ut{p q:Bool}{a b:Nat}{c:Nat}(hp:p=decide (a<=c))(hq:q=decide (c<=b)):cond p q false=decide (a<=c/\c<=b):=by
 subst hp;subst hq
 by_cases h:a<=c
 ·simp[h]
 ·simp[h]
theorem uh(c k:Nat):aa .geq (c:Int) (k:Int)=decide (k<=c):=by simp only[aa,decide_eq_decide];omega
theorem ve(c k:Nat):aa .leq (c:Int) (k:Int)=decide (c<=k):=by simp only[aa,decide_eq_decide];omega
theorem SC(c:Nat):cond (cond (aa .geq (c:Int) 97) (aa .leq (c:Int) 122) false) true (cond (aa .geq (c:Int) 65) (aa .leq (c:Int) 90) false)=fh c:=by
 have e1:cond (aa .geq (c:Int) 97) (aa .leq (c:Int) 122) false=decide (97<=c/\c<=122):=ut (uh c 97) (ve c 122);have e2:cond (aa .geq (c:Int) 65) (aa .leq (c:Int) 90) false=decide (65<=c/\c<=90):=ut (uh c 65) (ve c 90);rw[e1,e2];unfold fh;cases decide (97<=c/\c<=122) <;> rfl
theorem OO(c:Nat):cond (cond (aa .geq (c:Int) 65) (aa .leq (c:Int) 90) false) true (cond (aa .geq (c:Int) 97) (aa .leq (c:Int) 122) false)=fh c:=by
 have e1:cond (aa .geq (c:Int) 97) (aa .leq (c:Int) 122) false=decide (97<=c/\c<=122):=ut (uh c 97) (ve c 122);have e2:cond (aa .geq (c:Int) 65) (aa .leq (c:Int) 90) false=decide (65<=c/\c<=90):=ut (uh c 65) (ve c 90);rw[e1,e2];unfold fh;cases decide (97<=c/\c<=122) <;> cases decide (65<=c/\c<=90) <;> rfl
theorem FT(c:Nat):cond (aa .geq (c:Int) 48) (aa .leq (c:Int) 57) false=rK c:=ut (uh c 48) (ve c 57)
theorem z7(c:Nat):cond (cond (fh c) true (rK c)) true (aa .eql (c:Int) 95)=kV c:=by
 unfold kV
 have:aa .eql (c:Int) 95=decide (c=95):=by
  rw[aer];simp only[aa,beq_iff_eq,ag0];omega
 rw[this];cases fh c <;> cases rK c <;> rfl
theorem GS(c:Nat):FP 389 [u8 c] (bl (fh c)):=by
 refine ai func389 ?_;refine af ?_;exact ag6 bl (SC c)
theorem PL(c:Nat):FP 440 [u8 c] (bl (rK c)):=by
 refine ai func440 ?_;refine af ?_;exact ag6 bl (FT c)
theorem Pw(c:Nat):FP 390 [u8 c] (bl (kV c)):=by
 refine ai func390 ?_;refine gc (GS c) ?_;refine bn (fun _=>(PL c)) ?_;refine af ?_;exact ag6 bl (z7 c)
theorem JB(c:Nat):FP 290 [u8 c] (bl (fh c)):=by
 refine ai func290 ?_;refine af ?_;exact ag6 bl (OO c)
theorem NJ(c:Nat):FP 292 [u8 c] (bl (rK c)):=by
 refine ai func292 ?_;refine af ?_;exact ag6 bl (FT c)
theorem So(s:ByteArray)(hs:s.size<=281474976710656):FP 294 [.v (.string s)] (i64 (fj s)):=by
 refine ai func294 ?_;refine gs (fc rfl rfl rfl (fun h=>vo (.opt rfl (o1 h)) (.const _) T9 rfl oz (by have:=L6 h;omega) rfl)) ?_;refine bn (fun _=>(GS (ek s 0))) ?_;refine gC (fun z=>?_) (fun z=>?_)
 ·have h0:fj s=0:=UX z;refine af ?_;rw[h0];rfl
 obtain⟨h0,h1⟩:=Oj z;refine aL [0] [] (fun(n:Nat)=>[pP 3 (i64 n)]) (fun _=>[]) (fun n=>1<=n/\n<=s.size/\fx s 1 (s.size-1)=fx s n (s.size-n)) (fun n=>s.size-n) 1 ⟨afq _,h0,rfl⟩ ?_;rintro n ⟨hn1,hn,hw⟩ K1 J1;refine gs (fc rfl rfl rfl (fun h=>vo (.opt rfl (o1 h)) (.opt rfl (o1 h)) T9 rfl oz (by have:=aY h;omega) rfl)) ?_;refine bn (fun _=>(Pw (ek s n))) ?_;refine gC (fun z=>?_) (fun z=>?_)
 ·have h2:n<s.size/\kV (ek s n)=true:=WQ z;refine ga aK ?_;exact aH J1 (n+1) ⟨by omega,by omega,by rw[hw,show s.size-n=(s.size-(n+1))+1 by omega];simp only[fx,h2.2,if_true]⟩
 have h2:n<s.size->kV (ek s n)=false:=QX z
 have h3:fj s=n:=by
  unfold fj;rw[agz ⟨h0,h1⟩,hw];rcases afv n s.size with h |h
  ·rw[show s.size-n=(s.size-(n+1))+1 by omega];simp only[fx,h2 h,aew,if_false]
  ·rw[show s.size-n=0 by omega];rfl
 refine af ?_;rw[h3]
theorem tt(s:ByteArray)(hs:s.size<=281474976710656):FP 168 [.v (.string s)] (bl (iM s)):=by
 refine ai func168 ?_;refine gc (So s hs) ?_;refine af ?_;exact ag6 bl (NL s)
theorem xJ(s:ByteArray)(i:Nat):FP 291 [.v (.string s),i64 i] (u8 (ek s i)):=by
 refine ai func291 ?_;refine gC (fun z=>?_) (fun z=>?_)
 ·have h0:=aY z;refine gs (vo (.tmp rfl) (.tmp rfl) T9 rfl oz oz rfl) ?_;refine af ?_;rfl
 have h0:=tU z;refine af ?_;rw[Me oz];rfl
theorem SH(s:ByteArray)(hs:s.size<=281474976710656):FP 164 [.v (.string s),i64 0] (i64 ((if fh (ek s 0)then fx s 0 s.size else 0:Nat))):=by
 refine ai func164 ?_;refine gc (xJ s 0) ?_;refine gc (JB (ek s 0)) ?_;refine gC (fun z=>?_) (fun z=>?_)
 ·have h0:fh (ek s 0)=false:=by simpa using z
  refine af ?_;rw[h0];rfl
 have h0:fh (ek s 0)=true:=by simpa using z
 refine aL [0] [] (fun(n:Nat)=>[pP 1 (i64 n)]) (fun _=>[]) (fun n=>n<=s.size/\fx s 0 s.size=fx s n (s.size-n)) (fun n=>s.size-n) 0 ⟨afz _,rfl⟩ ?_;rintro n ⟨hn,hw⟩ K1 J1;refine gc (xJ s n) ?_;refine gc (JB (ek s n)) ?_;refine bn (fun _=>(xJ s n)) ?_;refine bn (fun _=>(NJ (ek s n))) ?_;refine bn (fun _=>(xJ s n)) ?_;refine gC (fun z=>?_) (fun z=>?_)
 ·have h1:kV (ek s n)=true:=(z7 _).symm.trans z
  have h2:n<s.size:=by
   rcases afv n s.size with h |h
   ·exact h
   ·rw[Me h]at h1;cases h1
  refine ga aK ?_;exact aH J1 (n+1) ⟨by omega,by rw[hw,show s.size-n=(s.size-(n+1))+1 by omega];simp only[fx,h1,if_true]⟩
 have h1:kV (ek s n)=false:=(z7 _).symm.trans z
 have h2:fx s 0 s.size=n:=by
  rw[hw];rcases afv n s.size with h |h
  ·rw[show s.size-n=(s.size-(n+1))+1 by omega];simp only[fx,h1,aew,if_false]
  ·rw[show s.size-n=0 by omega];rfl
 refine af ?_;rw[h0,h2];rfl
theorem vS(s:ByteArray)(hs:s.size<=281474976710656):FP 71 [.v (.string s)] (bl (iM s)):=by
 refine ai func71 ?_;refine bn (fun _=>(SH s hs)) ?_;refine af ?_;exact ag6 bl (abm s)
theorem rr(i:Int)(n:Nat):FP 296 [i64 i,i64 n] (bl (aT i n)):=by
 refine ai func296 ?_;refine af ?_;exact ag6 bl (FJ i n)
theorem XJ(bs:List Bd)(hbs:∀b∈bs,b.ok)(hl:bs.length<=281474976710656):FP 169 [.lst 2 (bs.map Bd.av)] (cf (fp bs.length (eK bs))):=by
 refine ai func169 ?_;refine gl ?_;refine aL [0,11,12] [] (fun(i:Nat)=>[pP 13 (i64 i)]) (fun _=>[]) (fun i=>i<=bs.length/\∀j,j<i->eK bs j=0) (fun i=>bs.length-i) 0 ⟨afz _,fun j h=>by omega⟩ ?_;rintro i ⟨hi,hj⟩ K1 J1;refine gC (fun z=>?_) (fun z=>?_)
 ·have hin:=aY z;obtain⟨b,hb⟩:=ay hin;have hbd:bs.getD i default=b:=ax hb;have hbo:=hbs b (afl hb);have hbdup:=n5 Bd.name hb;refine gi (aq hb) ?_;refine gc (tt b.name hbo.name) ?_;refine gC (fun z=>?_) (fun z=>?_)
  ·have h1:=cm z;have e1:eK bs i=5:=by unfold eK; rw[hbd,agz h1]
   refine af ?_;rw[et hin hj (by rw[e1];decide),e1];rfl
  have h1:=ci z;refine gs (co (.tmp rfl) (.none _) (.some _ (.tmp rfl) oz) T22 rfl T139 rfl oz (by simp only[afm];omega) rfl) ?_;refine ge rfl ?_;refine aL [0,3,4,11,12,13] [4] (fun(k:Nat)=>[pP 25 (.lst 2 ((bs.take i).map Bd.av)),pP 26 (i64 i),pP 27 (i64 k)]) (fun _=>[]) (fun k=>k<=i/\(bs.take k).any (fun y=>d7 y.name b.name)=false) (fun k=>i-k) 0 ⟨afz _,rfl⟩ ?_ (h1:=(.cons rfl (Sub.of (uQ 2 Bd.av bs i)) (.cons rfl (Sub.int (by simp;omega)) (.k .nil))));rintro k ⟨hk,hd⟩ K2 J2;refine gC (fun z=>?_) (fun z=>?_)
  ·have hkn:=aY z;obtain⟨y,hy'⟩:∃ y,(bs.take i)[k]?=some y:=ay (by simp; omega);have hy:=(uF hy').1;refine gi (aq hy') ?_;refine gC (fun z=>?_) (fun z=>?_)
   ·have h2:d7 y.name b.name=true:=z;have e1:eK bs i=6:=by unfold eK; rw[hbd,agy (by rw[h1]; decide),agz (by rw[hbdup]; exact lA hy hkn h2)]
    refine af ?_;rw[et hin hj (by rw[e1];decide),e1];rfl
   have h2:d7 y.name b.name=false:=z;refine ga aK ?_;exact aH J2 (k+1) ⟨hkn,kO hy hd h2⟩
  have hkn:=a7 hk z;subst hkn;have hnd:¬gH (bs.map Bd.name) k=true:=by rw[hbdup,hd];decide
  refine gl ?_;refine gC (fun z=>?_) (fun z=>?_)
  ·have h3:8<b.pts.length:=ja z;have e1:eK bs k=4:=by unfold eK; rw[hbd,agy (by rw[h1]; decide),agy hnd,agz h3]
   refine af ?_;rw[et hin hj (by rw[e1];decide),e1];rfl
  have h3:b.pts.length<=8:=iP z;have e1:eK bs k=fp b.pts.length (ep b.pts):=by unfold eK;rw[hbd,agy (by rw[h1];decide),agy hnd,agy oz]
  refine gl ?_;refine aL [0,4,11,12,13,44,45] [4] (fun(p:Nat)=>[pP 46 (i64 p)]) (fun _=>[]) (fun p=>p<=b.pts.length/\∀j,j<p->ep b.pts j=0) (fun p=>b.pts.length-p) 0 ⟨afz _,fun j h=>by omega⟩ ?_;rintro p ⟨hp,hpj⟩ K3 J3;refine gC (fun z=>?_) (fun z=>?_)
  ·have hpn:=aY z;obtain⟨m,hm⟩:=ay hpn;have hmd:b.pts.getD p default=m:=ax hm;have hmm:=afl hm;have hmdup:=n5 Mk.name hm;have hmo:=hbo.pts m hmm;refine gi (aq hm) ?_;refine gc (tt m.name (hbo.names m hmm)) ?_;refine gC (fun z=>?_) (fun z=>?_)
   ·have h4:=cm z;have e2:ep b.pts p=5:=by unfold ep; rw[hmd,agz h4]
    have e3:eK bs k=5:=by rw[e1,et hpn hpj (by rw[e2];decide),e2]
    refine af ?_;rw[et hin hj (by rw[e3];decide),e3];rfl
   have h4:=ci z;refine gs (co (.tmp rfl) (.none _) (.some _ (.tmp rfl) oz) T137 rfl T141 rfl oz (by simp only[afm];omega) rfl) ?_;refine ge rfl ?_;refine aL [0,4,8,11,12,13,44,45,46] [4,8] (fun(q:Nat)=>[pP 59 (.lst 7 ((b.pts.take p).map Mk.av)),pP 60 (i64 p),pP 61 (i64 q)]) (fun _=>[]) (fun q=>q<=p/\(b.pts.take q).any (fun y=>d7 y.name m.name)=false) (fun q=>p-q) 0 ⟨afz _,rfl⟩ ?_ (h1:=(.cons rfl (Sub.of (uQ 7 Mk.av b.pts p)) (.cons rfl (Sub.int (by simp;omega)) (.k .nil))));rintro q ⟨hq,hqd⟩ K4 J4;refine gC (fun z=>?_) (fun z=>?_)
   ·have hqn:=aY z;obtain⟨y,hy'⟩:∃ y,(b.pts.take p)[q]?=some y:=ay (by simp; omega);have hy:=(uF hy').1;refine gi (aq hy') ?_;refine gC (fun z=>?_) (fun z=>?_)
    ·have h5:d7 y.name m.name=true:=z;have e2:ep b.pts p=6:=by unfold ep; rw[hmd,agy (by rw[h4]; decide),agz (by rw[hmdup]; exact lA hy hqn h5)]
     have e3:eK bs k=6:=by rw[e1,et hpn hpj (by rw[e2];decide),e2]
     refine af ?_;rw[et hin hj (by rw[e3];decide),e3];rfl
    have h5:d7 y.name m.name=false:=z;refine ga aK ?_;exact aH J4 (q+1) ⟨hqn,kO hy hqd h5⟩
   have hqn:=a7 hq z;subst hqn;have hmnd:¬gH (b.pts.map Mk.name) q=true:=by rw[hmdup,hqd];decide
   refine gc (si m.x hmo.x) ?_;refine bn (fun _=>(si m.y hmo.y)) ?_;refine gC (fun z=>?_) (fun z=>?_)
   ·have h6:=nk z;have e2:ep b.pts q=3:=by unfold ep; rw[hmd,agy (by rw[h4]; decide),agy hmnd,agy (by rintro ⟨g1,g2⟩; rcases h6 with g | g; (rw[g1] at g; cases g); (rw[g2] at g; cases g))]
    have e3:eK bs k=3:=by rw[e1,et hpn hpj (by rw[e2];decide),e2]
    refine af ?_;rw[et hin hj (by rw[e3];decide),e3];rfl
   have h6:=nQ z;have e2:ep b.pts q=0:=by unfold ep;rw[hmd,agy (by rw[h4];decide),agy hmnd,agz h6]
   refine ga aK ?_;exact aH J3 (q+1) ⟨hpn,fun j h9=>by rcases afv j q with g |g;exact hpj j g;(have:j=q:=by omega);subst this;exact e2⟩
  have hpn:=a7 hp z;subst hpn;have e2:eK bs k=0:=e1.trans (oN hpj);refine ga aK ?_;exact aH J1 (k+1) ⟨hin,fun j h9=>by rcases afv j k with g |g;exact hj j g;(have:j=k:=by omega);subst this;exact e2⟩
 have hin:=a7 hi z;subst hin;refine af ?_;rw[oN hj];rfl
theorem Rk(l:Li)(hl:l.ok)(j:Jt):FP 295 [l.av,j.av] (cf (eJ l j)):=by
 refine ai func295 ?_;refine gC (fun z=>?_) (fun z=>?_)
 ·have h1:=IT z;refine af ?_;unfold eJ;rw[agz h1];rfl
 have h1:=K9 z;refine gl ?_;refine gc (rr j.a l.bo.length) ?_;refine bF ?_;refine bn (fun _=>(rr j.b l.bo.length)) ?_;refine gC (fun z=>?_) (fun z=>?_)
 ·have h2:=nk z;refine af ?_;unfold eJ;rw[agy h1,agz h2];rfl
 have h2:=nQ z;have h2n:¬(aT j.a l.bo.length=false\/aT j.b l.bo.length=false):=by rw[h2.1,h2.2];simp
 obtain⟨A,hA,pA,mA,zA0⟩:=pb h2.1;obtain⟨B,hB,pB,mB,zB0⟩:=pb h2.2;refine gC (fun z=>?_) (fun z=>?_)
 ·have h3:=cB z;refine af ?_;unfold eJ;rw[agy h1,agy h2n,agz h3];rfl
 have h3:=cU z;refine gi (aq hB) ?_;refine gi (aq hA) ?_;refine gl ?_;refine gc (rr j.point A.pts.length) ?_;refine bF ?_;refine bn (fun _=>(rr j.on B.pts.length)) ?_;refine gD ?_;refine gC (fun z=>?_) (fun z=>?_)
 ·have h4:=nk z;refine af ?_;unfold eJ;rw[agy h1,agy h2n,agy h3,pA,pB,agz h4];rfl
 have h4:=nQ z;have h4n:¬(aT j.point A.pts.length=false\/aT j.on B.pts.length=false):=by rw[h4.1,h4.2];simp
 refine gC (fun z=>?_) (fun z=>?_)
 ·have h5:=cB z;refine gC (fun z=>?_) (fun z=>?_)
  ·have h6:=m8 z;refine af ?_;unfold eJ;rw[agy h1,agy h2n,agy h3,pA,pB,agy h4n,agz h5,agz h6];rfl
  have h6:=ss z;refine af ?_;unfold eJ;rw[agy h1,agy h2n,agy h3,pA,pB,agy h4n,agz h5,agy (by rw[h6];simp)];rfl
 have h5:=cU z;refine gl ?_;refine gc (rr j.to B.pts.length) ?_;refine gC (fun z=>?_) (fun z=>?_)
 ·have h6:=cm z;refine af ?_;unfold eJ;rw[agy h1,agy h2n,agy h3,pA,pB,agy h4n,agy h5,agz h6];rfl
 have h6:=ci z;obtain⟨m1,g1,d1,mm1,z1⟩:=qH h4.2;obtain⟨m2,g2,d2,mm2,z2⟩:=qH h6;have mo1:=(hl.bo B mB).pts m1 mm1;have mo2:=(hl.bo B mB).pts m2 mm2;refine gi (aq g1) ?_;refine gi (aq g2) ?_;refine gD ?_;refine gc (EV m1.x m2.x mo1.x mo2.x) ?_;refine bn (fun _=>(EV m1.y m2.y mo1.y mo2.y)) ?_;refine gC (fun z=>?_) (fun z=>?_)
 ·have h7:=IK z;refine af ?_;unfold eJ;rw[agy h1,agy h2n,agy h3,pA,pB,agy h4n,agy h5,agy (by rw[h6];decide),d1,d2,agz h7];rfl
 have h7:=LQ z;refine af ?_;unfold eJ;rw[agy h1,agy h2n,agy h3,pA,pB,agy h4n,agy h5,agy (by rw[h6];decide),d1,d2,agy h7];rfl
theorem X8(l:Li)(hl:l.ok):FP 170 [l.av] (cf (fa l)):=by
 have hlj:=hl.lj;refine ai func170 ?_;refine gl ?_;refine gC (fun z=>?_) (fun z=>?_)
 ·have h0:16<l.jo.length:=ja z;refine af ?_;unfold fa;rw[agz h0];rfl
 have h0:l.jo.length<=16:=iP z;have e0:fa l=fp l.jo.length (gz l):=by unfold fa;rw[agy oz]
 refine gl ?_;refine aL [1,14,15] [1] (fun(i:Nat)=>[pP 16 (i64 i)]) (fun _=>[]) (fun i=>i<=l.jo.length/\∀j,j<i->gz l j=0) (fun i=>l.jo.length-i) 0 ⟨afz _,fun j h=>by omega⟩ ?_;rintro i ⟨hi,hj⟩ K1 J1;refine gC (fun z=>?_) (fun z=>?_)
 ·have hin:=aY z;obtain⟨b,hb⟩:=ay hin;have hbd:l.jo.getD i default=b:=ax hb;have hbdup:=n5 Jt.name hb;refine gi (aq hb) ?_;refine gc (tt b.name (hl.jnames b (afl hb))) ?_;refine gC (fun z=>?_) (fun z=>?_)
  ·have h1:=cm z;have e1:gz l i=5:=by unfold gz; rw[hbd,agz h1]
   refine af ?_;rw[e0,et hin hj (by rw[e1];decide),e1];rfl
  have h1:=ci z;refine gs (co (.tmp rfl) (.none _) (.some _ (.tmp rfl) oz) T23 rfl T135 rfl oz (by simp only[afm];omega) rfl) ?_;refine ge rfl ?_;refine aL [1,3,4,14,15,16] [1,4] (fun(k:Nat)=>[pP 29 (.lst 7 ((l.jo.take i).map Jt.av)),pP 30 (i64 i),pP 31 (i64 k)]) (fun _=>[]) (fun k=>k<=i/\(l.jo.take k).any (fun y=>d7 y.name b.name)=false) (fun k=>i-k) 0 ⟨afz _,rfl⟩ ?_ (h1:=(.cons rfl (Sub.of (uQ 7 Jt.av l.jo i)) (.cons rfl (Sub.int (by simp;omega)) (.k .nil))));rintro k ⟨hk,hd⟩ K2 J2;refine gC (fun z=>?_) (fun z=>?_)
  ·have hkn:=aY z;obtain⟨y,hy'⟩:∃ y,(l.jo.take i)[k]?=some y:=ay (by simp; omega);have hy:=(uF hy').1;refine gi (aq hy') ?_;refine gC (fun z=>?_) (fun z=>?_)
   ·have h2:d7 y.name b.name=true:=z;have e1:gz l i=6:=by unfold gz; rw[hbd,agy (by rw[h1]; decide),agz (by rw[hbdup]; exact lA hy hkn h2)]
    refine af ?_;rw[e0,et hin hj (by rw[e1];decide),e1];rfl
   have h2:d7 y.name b.name=false:=z;refine ga aK ?_;exact aH J2 (k+1) ⟨hkn,kO hy hd h2⟩
  have hkn:=a7 hk z;subst hkn;have hnd:¬gH (l.jo.map Jt.name) k=true:=by rw[hbdup,hd];decide
  have e1:gz l k=eJ l b:=by unfold gz;rw[hbd,agy (by rw[h1];decide),agy hnd]
  refine gc (Rk l hl b) ?_;refine gC (fun z=>?_) (fun z=>?_)
  ·have h3:=eQ z;refine af ?_;rw[e0,et hin hj (by rw[e1];exact h3),e1]
  have h3:=fd z;refine ga aK ?_;exact aH J1 (k+1) ⟨hin,fun j h9=>by rcases afv j k with g |g;exact hj j g;(have:j=k:=by omega);subst this;exact e1.trans h3⟩
 have hin:=a7 hi z;subst hin;refine af ?_;rw[e0,oN hj];rfl
theorem NV(l:Li)(hl:l.ok):FP 171 [l.av] (cf (ic l)):=by
 have hld:=hl.ld;refine ai func171 ?_;refine gl ?_;refine gC (fun z=>?_) (fun z=>?_)
 ·have h0:2<l.dv.length:=ja z;refine af ?_;unfold ic;rw[agz h0];rfl
 have h0:l.dv.length<=2:=iP z;have e0:ic l=fp l.dv.length (el l):=by unfold ic;rw[agy oz]
 refine gl ?_;refine aL [1,15,16] [1] (fun(i:Nat)=>[pP 17 (i64 i)]) (fun _=>[]) (fun i=>i<=l.dv.length/\∀j,j<i->el l j=0) (fun i=>l.dv.length-i) 0 ⟨afz _,fun j h=>by omega⟩ ?_;rintro i ⟨hi,hj⟩ K1 J1;refine gC (fun z=>?_) (fun z=>?_)
 ·have hin:=aY z;obtain⟨b,hb⟩:=ay hin;have hbd:l.dv.getD i default=b:=ax hb;have hbdup:=n5 Dr.name hb;refine gi (aq hb) ?_;refine gc (tt b.name (hl.dnames b (afl hb))) ?_;refine gC (fun z=>?_) (fun z=>?_)
  ·have h1:=cm z;have e1:el l i=5:=by unfold el; rw[hbd,agz h1]
   refine af ?_;rw[e0,et hin hj (by rw[e1];decide),e1];rfl
  have h1:=ci z;refine gs (co (.tmp rfl) (.none _) (.some _ (.tmp rfl) oz) T24 rfl T151 rfl oz (by simp only[afm];omega) rfl) ?_;refine ge rfl ?_;refine aL [1,3,4,15,16,17] [1,4] (fun(k:Nat)=>[pP 30 (.lst 2 ((l.dv.take i).map Dr.av)),pP 31 (i64 i),pP 32 (i64 k)]) (fun _=>[]) (fun k=>k<=i/\(l.dv.take k).any (fun y=>d7 y.name b.name)=false) (fun k=>i-k) 0 ⟨afz _,rfl⟩ ?_ (h1:=(.cons rfl (Sub.of (uQ 2 Dr.av l.dv i)) (.cons rfl (Sub.int (by simp;omega)) (.k .nil))));rintro k ⟨hk,hd⟩ K2 J2;refine gC (fun z=>?_) (fun z=>?_)
  ·have hkn:=aY z;obtain⟨y,hy'⟩:∃ y,(l.dv.take i)[k]?=some y:=ay (by simp; omega);have hy:=(uF hy').1;refine gi (aq hy') ?_;refine gC (fun z=>?_) (fun z=>?_)
   ·have h2:d7 y.name b.name=true:=z;have e1:el l i=6:=by unfold el; rw[hbd,agy (by rw[h1]; decide),agz (by rw[hbdup]; exact lA hy hkn h2)]
    refine af ?_;rw[e0,et hin hj (by rw[e1];decide),e1];rfl
   have h2:d7 y.name b.name=false:=z;refine ga aK ?_;exact aH J2 (k+1) ⟨hkn,kO hy hd h2⟩
  have hkn:=a7 hk z;subst hkn;have hnd:¬gH (l.dv.map Dr.name) k=true:=by rw[hbdup,hd];decide
  refine gl ?_;refine gc (rr b.body l.bo.length) ?_;refine gC (fun z=>?_) (fun z=>?_)
  ·have h3:=cm z;have e1:el l k=9:=by unfold el; rw[hbd,agy (by rw[h1]; decide),agy hnd,agz h3]
   refine af ?_;rw[e0,et hin hj (by rw[e1];decide),e1];rfl
  have h3:=ci z;refine gC (fun z=>?_) (fun z=>?_)
  ·have h4:=cB z;have e1:el l k=7:=by unfold el; rw[hbd,agy (by rw[h1]; decide),agy hnd,agy (by rw[h3]; decide),agz h4]
   refine af ?_;rw[e0,et hin hj (by rw[e1];decide),e1];rfl
  have h4:=cU z;have e1:el l k=if(l.dv.take k).any (fun d=>decide (d.body=b.body))=true then 6 else 0:=by unfold el;rw[hbd,agy (by rw[h1];decide),agy hnd,agy (by rw[h3];decide),agy h4]
  refine gs (co (.tmp rfl) (.none _) (.some _ (.tmp rfl) oz) T24 rfl T151 rfl oz (by simp only[afm];omega) rfl) ?_;refine ge rfl ?_;refine aL [1,4,15,16,17] [1,4] (fun(q:Nat)=>[pP 58 (.lst 2 ((l.dv.take k).map Dr.av)),pP 59 (i64 k),pP 60 (i64 q)]) (fun _=>[]) (fun q=>q<=k/\(l.dv.take q).any (fun d=>decide (d.body=b.body))=false) (fun q=>k-q) 0 ⟨afz _,rfl⟩ ?_ (h1:=(.cons rfl (Sub.of (uQ 2 Dr.av l.dv k)) (.cons rfl (Sub.int (by simp;omega)) (.k .nil))));rintro q ⟨hq,hqd⟩ K3 J3;refine gC (fun z=>?_) (fun z=>?_)
  ·have hqn:=aY z;obtain⟨y,hy'⟩:∃ y,(l.dv.take k)[q]?=some y:=ay (by simp; omega);have hy:=(uF hy').1;refine gi (aq hy') ?_;refine gC (fun z=>?_) (fun z=>?_)
   ·have h5:decide (y.body=b.body)=true:=ag3 (cB z);have e2:el l k=6:=by rw[e1,agz (lA hy hqn h5)]
    refine af ?_;rw[e0,et hin hj (by rw[e2];decide),e2];rfl
   have h5:decide (y.body=b.body)=false:=ag4 (cU z);refine ga aK ?_;exact aH J3 (q+1) ⟨hqn,kO hy hqd h5⟩
  have hqn:=a7 hq z;subst hqn;have e2:el l q=0:=by rw[e1,hqd];rfl
  refine ga aK ?_;exact aH J1 (q+1) ⟨hin,fun j h9=>by rcases afv j q with g |g;exact hj j g;(have:j=q:=by omega);subst this;exact e2⟩
 have hin:=a7 hi z;subst hin;refine af ?_;rw[e0,oN hj];rfl
theorem Bi(l:Li)(hl:l.ok):FP 75 [l.av] (cf (ao l)):=by
 have hlb:=hl.lb;refine ai func75 ?_;refine gc (tt l.name hl.name) ?_;refine gC (fun z=>?_) (fun z=>?_)
 ·have h1:=cm z;refine af ?_;unfold ao;rw[agz h1];rfl
 have h1:=ci z;refine gl ?_;refine gC (fun z=>?_) (fun z=>?_)
 ·have h2:=KK z;refine af ?_;unfold ao;rw[agy (by rw[h1];decide),agz h2];rfl
 have h2:=Ir z;refine gl ?_;refine gC (fun z=>?_) (fun z=>?_)
 ·have h3:8<l.bo.length:=ja z;refine af ?_;unfold ao;rw[agy (by rw[h1];decide),agy h2,agz h3];rfl
 have h3:l.bo.length<=8:=iP z;have e0:ao l=if iQ l≠0 then iQ l else if fa l≠0 then fa l else ic l:=by unfold ao;rw[agy (by rw[h1];decide),agy h2,agy oz]
 refine gc (XJ l.bo hl.bo hlb) ?_;refine gC (fun z=>?_) (fun z=>?_)
 ·have h4:iQ l≠0:=eQ z;refine af ?_;rw[e0,agz h4];rfl
 have h4:iQ l=0:=fd z;refine gc (X8 l hl) ?_;refine gC (fun z=>?_) (fun z=>?_)
 ·have h5:=eQ z;refine af ?_;rw[e0,agy (by rw[h4];simp),agz h5]
 have h5:=fd z;refine gc (NV l hl) ?_;refine af ?_;rw[e0,agy (by rw[h4];simp),agy (by rw[h5];simp)]
theorem BE(d:Nat)(hd:acm d 1000=true)(l:Li)(hl:l.bo.length<=1000)(b:Nat)(hb:b<l.bo.length) :
  Con prog 273 [l.av,i64 b] [] (.ms d 1 0 l.bo.length) [(d,some (.row 1 ((da l.bo.length b).map bl)))]:=by
 refine gF func273 (fun k z h=>by cases h) ?_;refine gl ?_;refine gs (gX (.tmp rfl) T320 rfl T4 rfl rfl oz (by dsimp only;omega) rfl) ?_;refine gs (m5 (.tmp rfl) (.tmp rfl) T320 rfl T4 rfl oz oz rfl) ?_;refine gs (cw (.tmp rfl) rfl (by rw[adq,agz (by simp;omega)]) rfl (.const _) rfl rfl T4 rfl rfl) ?_ (3,0);refine gW (Wk.of (sl:=[pP 5 (.ms 9 1 0 l.bo.length)]) (hp:=[pP 9 (.row 1 ((da l.bo.length b).map bl))]) (.cons rfl (Sub.of (by rw[ago])) .nil) (.cons rfl (BlkSub.of (by unfold da;simp only[ags,agq,ab5,ago];rfl)) .nil)) ?_ (3,0);refine gW (Wk.rk (k:=9) (d:=900) rfl rfl) ?_;refine gR ?_;exact aE.own1 rfl hd rfl
theorem R7(l:Li)(hl:l.bo.length<=1000)(b:Nat)(hb:b<l.bo.length):FP 273 [l.av,i64 b] (.lst 1 ((da l.bo.length b).map bl)):=by
 have h:=Con.freeze (by rw[afm,jK];omega) (BE 0 rfl l hl b hb);rw[agw,af4 (by rw[afm,jK];exact afq _)]at h;exact h
theorem Vw(l:Li)(hl:l.ok)(b:Int):FP 429 [l.av,i64 b] (bl (o9 l b)):=by
 have hld:=hl.ld;refine ai func429 ?_;refine gl ?_;refine aL [1,8,9] [] (fun(i:Nat)=>[pP 10 (i64 i)]) (fun _=>[]) (fun i=>i<=l.dv.length/\(l.dv.take i).any (fun d=>decide (d.body=b))=false) (fun i=>l.dv.length-i) 0 ⟨afz _,rfl⟩ ?_;rintro i ⟨hi,hj⟩ K1 J1;refine gC (fun z=>?_) (fun z=>?_)
 ·have hin:=aY z;obtain⟨d,hd⟩:=ay hin;refine gi (aq hd) ?_;refine gC (fun z=>?_) (fun z=>?_)
  ·have h1:d.body=b:=cB z;refine af ?_;unfold o9;rw[List.any_eq_true.2 ⟨d,afl hd,ag3 h1⟩];rfl
  have h1:d.body≠b:=cU z;refine ga aK ?_;exact aH J1 (i+1) ⟨hin,kO hd hj (ag4 h1)⟩
 have hin:=a7 hi z;subst hin;rw[af1]at hj;refine af ?_;unfold o9;rw[hj];rfl
theorem F1(l:Li)(hl:l.ok)(hli:ao l=0)(kind body:Int)(oth:List Bool)(ho:oth.length=l.bo.length):FP 372 [l.av,i64 kind,i64 body,.lst 1 (oth.map bl)] (i64 (jointI l kind body oth)):=by
 have hlj:=hl.lj;refine ai func372 ?_;refine gl ?_;refine aL [1,2,3,12,13] [] (fun(i:Nat)=>[pP 14 (i64 i)]) (fun _=>[]) (fun i=>i<=l.jo.length/\∀j,j<i->(!l7 kind body oth (l.jo.getD j default))=true) (fun i=>l.jo.length-i) 0 ⟨afz _,fun j h=>by omega⟩ ?_;rintro i ⟨hi,hj⟩ K1 J1;refine gC (fun z=>?_) (fun z=>?_)
 ·have hin:=aY z;obtain⟨j,hjt⟩:=ay hin;have hjd:l.jo.getD i default=j:=ax hjt;obtain⟨i1,i2,_⟩:=bS hli hjt;have b1:=cV i1;have b2:=cV i2;obtain⟨va,hva⟩:∃v,oth[j.a.toNat]?=some v:=ay oz;obtain⟨vb,hvb⟩:∃v,oth[j.b.toNat]?=some v:=ay oz;have ea:kn oth j.a=va:=ax hva;have eb:kn oth j.b=vb:=ax hvb;refine gi (aq hjt) ?_;refine nw (fun _=>(bY (n:=j.b.toNat) oz hvb)) ?_;refine nw (fun _=>(bY (n:=j.a.toNat) oz hva)) ?_;refine gC (fun z=>?_) (fun z=>?_)
  ·have h2:l7 kind body oth j=true:=by rw[<- E1 (va:=va) (vb:=vb) ea eb]; exact z
   refine af ?_;unfold jointI;rw[fS hin hj (by rw[hjd,h2];rfl)];rfl
  have h2:l7 kind body oth j=false:=by rw[<- E1 (va:=va) (vb:=vb) ea eb];exact z
  refine ga aK ?_;exact aH J1 (i+1) ⟨hin,fun k h9=>by rcases afv k i with g |g;exact hj k g;(have:k=i:=by omega);subst this;rw[hjd,h2];rfl⟩
 have hin:=a7 hi z;subst hin;refine af ?_;unfold jointI;rw[gn hj];rfl
theorem OY(l:Li)(hl:l.ok)(kw:List Bool)(b:Nat)(hb:b<kw.length):FP 373 [l.av,.lst 1 (kw.map bl),i64 b] (bl (freeB l kw b)):=by
 obtain⟨v,hv⟩:=ay hb;have ev:kn kw (b:Int)=v:=ax (by rw[ago];exact hv);refine ai func373 ?_;refine gi (aq hv) ?_;refine bn (fun _=>(Vw l hl b)) ?_;refine af ?_;unfold freeB;rw[ev];exact ag6 bl (iz _ _)
end Go.Lw
