/- ModesImage: for any linkage and any turns the law returns true and leaves its arguments as they were. No other condition. Part 8 of 8: the statement -/
import Derived.Test.YtokaoegjfpjjnaaGreatQg
set_option linter.unusedVariables false
open List (all_cons append_nil map_map map_id range_succ)
open List renaming mem_of_getElem? → apo, mem_cons_of_mem → aqq, mem_append → ap2, map_cons → aq2, mem_cons → aqf, length_cons → ap4, foldl_cons → aq5, mem_cons_self → aqr, length_append → aqk, length_nil → ap9, getD_eq_getElem?_getD → apq, getElem?_append_left → aqc, getElem?_eq_none → ap6, all_eq_true → ap3, getElem?_map → apv, append_assoc → aqt, getElem?_append_right → aqb, getElem?_eq_getElem → aps, map_append → ap8, length_take → ap7, take_of_length_le → aqa, take_length → ap5, not_mem_nil → aqg, length_map → apr, getElem?_of_mem → aqx, map_congr_left → aqz, length_replicate → aqp, map_replicate → aqu, map_set → aq0, flatMap_cons → aq3, any_eq_true → am7, mem_singleton → am8, replicate → ana, length_range → ane, map_singleton → anl, getElem_mem → anm, countP_cons → anv, mem_map → anx, getElem?_eq_some_iff → anz, length_eq_zero_iff → an1, mem_range → an2, mem_iff_getElem → an4, contains_iff_mem → an8
open Nat renaming eq_of_beq_eq_true → apy, le_refl → apu, lt_or_ge → apz, le_trans → aqe, mul_le_mul_right → aqi, zero_le → apx, lt_of_le_of_lt → aqj, not_lt_zero → al6, pow_le_pow_right → amk, pow_succ → amp, beq → amq, zero_add → ams, succ_mul → am5
open Option renaming map_eq_some_iff → apt
open Bool renaming and_eq_true → apw, or_eq_true → aqy, eq_false_iff → aou, not_eq_false' → aow, false_eq_true → aoz, not_eq_true' → ao0, or_eq_false_iff → ao2, decide_or → ao3
open Int renaming toNat_natCast → aqo
open Rat renaming div_def → aon
open Decidable renaming not_not → apn
open Go renaming Value → arh, TypeId → ari
open Go.Proofs.Tryz
namespace Go.Lw
open Go.Proofs
def pH(r:Rt):Bool:=!(cond (cond (cond (aa .gtr (r.num.length:Int) 1) true (aa .gtr (r.den.length:Int) 1)) true (cond (aa .eql (r.num.length:Int) 1) (aa .gtr (ak r.num 0:Int) 400) false)) true
  (cond (aa .eql (r.den.length:Int) 1) (aa .gtr (ak r.den 0:Int) 20) false))
theorem NA(rs:List Rt)(hl:rs.length<=1000):FP 150 [.lst 3 (rs.map Rt.av)] (bl (rs.all pH)):=by
 refine ai func150 ?_;refine gl ?_;refine aS [5,6] [] (fun(i:Nat)=>[pP 7 (i64 i)]) (fun _=>[]) (fun i=>i<=rs.length/\(rs.take i).all pH=true) (fun i=>rs.length-i) 0 ⟨apx _,rfl⟩ ?_;rintro i ⟨hi,hj⟩ K1 J1;refine gC (fun z=>?_) (fun z=>?_)
 ·have ae:=a7 z;obtain ⟨r,hr⟩:=ay ae;refine gi (aA hr) ?_;refine gl ?_;refine cA ?_;refine cA ?_;refine tY (fun ⟨h,h2⟩=>(dc (by have:=dL h2; have e:Int.toNat 0 = 0:=rfl; omega))) ?_;refine cA ?_;refine tY (fun ⟨h,h2⟩=>(dc (by have:=dL h2; have e:Int.toNat 0 = 0:=rfl; omega))) ?_;refine gC (fun z=>?_) (fun z=>?_)
  ·have h1:pH r=false:=are Bool.not z;refine ah ?_;rw[pN hr h1];rfl
  have h1:pH r=true:=are Bool.not z;refine ga aN ?_;exact aM J1 (i+1) ⟨ae,rA hj hr h1⟩
 have ae:=bj hi z;refine ah ?_;rw[ry ae hj];rfl
def qV(x:Tn):Bool:=decide (x.t.num.length<=1/\x.t.den.length<=1)
def qg(m:Mk):Bool:=decide (m.x.num.length<=1/\m.x.den.length<=1/\m.y.num.length<=1/\m.y.den.length<=1)
def wm(xs:List Tn):Bool:=xs.all (fun x=>[x.t].all pH)
def zR(ps:List Mk):Bool:=ps.all (fun p=>[p.x,p.y].all pH)
def vh(l:Li):Bool:=l.bo.all (fun b=>zR b.pts)
theorem Wb(l:Li)(hl:l.ok)(xs:List Tn)(fJ:xs.length<=281474976710656):FP 62 [l.av,.lst 4 (xs.map Tn.av)] (bl (wm xs&&vh l)):=by
 have eY:=hl.lb;refine ai func62 ?_;refine gl ?_;refine aS [2,11,12] [2] (fun(i:Nat)=>[pP 13 (i64 i)]) (fun _=>[]) (fun i=>i<=xs.length/\(xs.take i).all (fun x=>[x.t].all pH)=true) (fun i=>xs.length-i) 0 ⟨apx _,rfl⟩ ?_;rintro i ⟨hi,hj⟩ K1 J1;refine gC (fun z=>?_) (fun z=>?_)
 ·have ae:=a7 z;obtain ⟨x,hx⟩:=ay ae;refine gi (aA hx) ?_;refine gc (NA [x.t] (by show 1 <= _; omega)) ?_;refine gC (fun z=>?_) (fun z=>?_)
  ·have h1:=eI z;refine ah ?_;unfold wm;rw[pN hx h1];rfl
  have h1:=eH z;refine ga aN ?_;exact aM J1 (i+1) ⟨ae,rA hj hx h1⟩
 have hT:wm xs=true:=ry (bj hi z) hj;refine gl ?_;refine aS [2,24,25] [2] (fun(i:Nat)=>[pP 26 (i64 i)]) (fun _=>[]) (fun i=>i<=l.bo.length/\(l.bo.take i).all (fun b=>zR b.pts)=true) (fun i=>l.bo.length-i) 0 ⟨apx _,rfl⟩ ?_;rintro i ⟨nC,tq⟩ K2 J2;refine gC (fun z=>?_) (fun z=>?_)
 ·have ae:=a7 z;obtain⟨b,hb⟩:=ay ae;have nv:=(hl.bo b (apo hb)).ll;refine gi (aA hb) ?_;refine gl ?_;refine aS [2,24,25,26,31,32] [2] (fun(k:Nat)=>[pP 33 (i64 k)]) (fun _=>[]) (fun k=>k<=b.pts.length/\(b.pts.take k).all (fun p=>[p.x,p.y].all pH)=true) (fun k=>b.pts.length-k) 0 ⟨apx _,rfl⟩ ?_;rintro k ⟨hk,iX⟩ K3 J3;refine gC (fun z=>?_) (fun z=>?_)
  ·have bp:=a7 z;obtain ⟨p,hp⟩:=ay bp;refine gi (aA hp) ?_;refine gc (NA [p.x,p.y] (by show 2 <= _; omega)) ?_;refine gC (fun z=>?_) (fun z=>?_)
   ·have h1:=eI z;refine ah ?_;rw[hT];unfold vh;rw[pN hb (by unfold zR;exact pN hp h1)];rfl
   have h1:=eH z;refine ga aN ?_;exact aM J3 (k+1) ⟨bp,rA iX hp h1⟩
  have hP:zR b.pts=true:=ry (bj hk z) iX;refine ga aN ?_;exact aM J2 (i+1) ⟨ae,rA tq hb hP⟩
 have hL:vh l=true:=ry (bj nC z) tq;refine ah ?_;rw[hT,hL];rfl
def GJ(l:Li)(xs:List Tn):Bool :=
  cond (cond (aa .neq (splitE l:Int) 0) true (aa .leq (((splitG l).length:Int)-l.dv.length) 1)) true (cond (aa .eql (((splitG l).length:Int)-l.dv.length) 2) (wm xs&&vh l) false)
def m7(l:Li)(xs:List Tn):Bool :=
  (lB l&&decide (xs.length<=20))&&(xs.all qV&&(l.bo.all (fun b=>b.pts.all qg)&&(if aG l=0 then GJ l xs else true)))
theorem Z6{l:Li}{n:Nat}(h:cond (!lB l) true (aa .gtr (n:Int) 20)=true):(lB l&&decide (n<=20))=false:=by
 cases hb:lB l
 ·rfl
 ·rw[hb]at h;have h1:20<n:=my (b:=20) h;rw[arc oz];rfl
theorem W4{l:Li}{n:Nat}(h:cond (!lB l) true (aa .gtr (n:Int) 20)=false):lB l=true/\n<=20:=by
 cases hb:lB l
 ·rw[hb]at h;cases h
 ·rw[hb]at h;exact⟨rfl,kD (b:=20) h⟩
theorem K7{x:Tn}:cond (aa .gtr (x.t.num.length:Int) 1) true (aa .gtr (x.t.den.length:Int) 1)=!qV x:=by
 unfold qV;have e1:=p6 (n:=x.t.num.length) (k:=1);have e2:=p6 (n:=x.t.den.length) (k:=1);rw[l7];refine(congr (are _ e1) e2).trans ?_;rw[<- ao3,<- decide_not];exact decide_eq_decide.2 oz
theorem Kk{m:Mk}:cond (cond (cond (aa .gtr (m.x.num.length:Int) 1) true (aa .gtr (m.x.den.length:Int) 1)) true (aa .gtr (m.y.num.length:Int) 1)) true (aa .gtr (m.y.den.length:Int) 1)=!qg m:=by
 unfold qg;have e1:=p6 (n:=m.x.num.length) (k:=1);have e2:=p6 (n:=m.x.den.length) (k:=1);have e3:=p6 (n:=m.y.num.length) (k:=1);have e4:=p6 (n:=m.y.den.length) (k:=1);rw[l7,l7,l7];refine(congr (are _ (congr (are _ (congr (are _ e1) e2)) e3)) e4).trans ?_;rw[<- ao3,<- ao3,<- ao3,<- decide_not];exact decide_eq_decide.2 oz
theorem xU{l:Li}(hl:aG l=0):(splitG l).length<=8:=by
 unfold splitG;split
 ·exact(wc hl).2
 ·exact apx _
theorem YY(l:Li)(hw:l.okw)(xs:List Tn)(fJ:xs.length<=281474976710656):FP 11 [l.av,.lst 4 (xs.map Tn.av)] (bl (m7 l xs)):=by
 refine ai func11 ?_;refine gc (ZR l hw) ?_;refine cA ?_;refine gC (fun z=>?_) (fun z=>?_)
 ·have h1:=Z6 z;refine ah ?_;unfold m7;rw[h1];rfl
 obtain⟨g1,g2⟩:=W4 z;have hl:=Cv g1 hw;have eY:=hl.lb;refine gl ?_;refine aS [1,2,22,23] [2] (fun(i:Nat)=>[pP 24 (i64 i)]) (fun _=>[]) (fun i=>i<=xs.length/\(xs.take i).all qV=true) (fun i=>xs.length-i) 0 ⟨apx _,rfl⟩ ?_;rintro i ⟨hi,hj⟩ K1 J1;refine gC (fun z=>?_) (fun z=>?_)
 ·have ae:=a7 z;obtain⟨x,hx⟩:=ay ae;refine gi (aA hx) ?_;refine gl ?_;refine cA ?_;refine gC (fun z=>?_) (fun z=>?_)
  ·have h1 : qV x = false := by rw [K7] at z; exact eI z
   refine ah ?_;unfold m7;rw[g1,arb g2,pN hx h1];rfl
  have h1:qV x=true:=by rw[K7]at z;exact eH z
  refine ga aN ?_;exact aM J1 (i+1) ⟨ae,rA hj hx h1⟩
 have hT:xs.all qV=true:=ry (bj hi z) hj;refine gl ?_;refine aS [1,2,42,43] [2] (fun(i:Nat)=>[pP 44 (i64 i)]) (fun _=>[]) (fun i=>i<=l.bo.length/\(l.bo.take i).all (fun b=>b.pts.all qg)=true) (fun i=>l.bo.length-i) 0 ⟨apx _,rfl⟩ ?_;rintro i ⟨nC,tq⟩ K2 J2;refine gC (fun z=>?_) (fun z=>?_)
 ·have ae:=a7 z;obtain⟨b,hb⟩:=ay ae;have nv:=(hl.bo b (apo hb)).ll;refine gi (aA hb) ?_;refine gl ?_;refine aS [1,2,42,43,44,49,50] [2] (fun(k:Nat)=>[pP 51 (i64 k)]) (fun _=>[]) (fun k=>k<=b.pts.length/\(b.pts.take k).all qg=true) (fun k=>b.pts.length-k) 0 ⟨apx _,rfl⟩ ?_;rintro k ⟨hk,iX⟩ K3 J3;refine gC (fun z=>?_) (fun z=>?_)
  ·have bp:=a7 z;obtain⟨p,hp⟩:=ay bp;refine gi (aA hp) ?_;refine gl ?_;refine cA ?_;refine cA ?_;refine cA ?_;refine gC (fun z=>?_) (fun z=>?_)
   ·have h1 : qg p = false := by rw [Kk] at z; exact eI z
    refine ah ?_;unfold m7;rw[g1,arb g2,hT,pN hb (pN hp h1)];rfl
   have h1:qg p=true:=by rw[Kk]at z;exact eH z
   refine ga aN ?_;exact aM J3 (k+1) ⟨bp,rA iX hp h1⟩
  have hP:b.pts.all qg=true:=ry (bj hk z) iX;refine ga aN ?_;exact aM J2 (i+1) ⟨ae,rA tq hb hP⟩
 have hL:l.bo.all (fun b=>b.pts.all qg)=true:=ry (bj nC z) tq;refine gc (Po l hl) ?_;refine gC (fun z=>?_) (fun z=>?_)
 ·have h1:=oR z;refine ah ?_;unfold m7;rw[g1,arb g2,hT,hL,aq6 h1];rfl
 have h1:=oh z;have dD:=xU h1;have rJ:=hl.ld;refine gc (L0 l hl h1) ?_;refine gl ?_;refine gl ?_;refine ga (fu oz) ?_;refine bT (fun _=>(Wb l hl xs fJ)) ?_;refine ah ?_;unfold m7 GJ;rw[g1,arb g2,hT,hL,aq7 h1];rfl
section
variable{l:Li}{xs:List Tn}{s g:Nat}(W:WkC l xs s g){k:Nat}{gr:Gr}(hg:(splitG l)[k]?=some gr){j r E:Nat}{a:Aq}(Q:QInv l j r E a){n y:Nat}(ok:gH s g (n+1) y j r E=true)(hy:gr.kind≠0->0<y)
include W hg Q ok hy
theorem Xi:∃F,F<=20000000000/\CK F l k a.as false/\AB a.as/\(Lw.llq a.as.rs).length<=2/\(gr.kind≠0->F=3900000/\DyS a.as):=by
 obtain⟨⟨hE,hr,hj⟩,_⟩:=x8 ok;have h3:(Lw.llq a.as.rs).length<=2:=by rw[a.llq];have:=Q.lv;omega
 have al:=Q.ab W.li (by omega:E<=50000000000) hr
 by_cases hk:gr.kind=0
 ·exact⟨E,hE,Q.sma oz (apu _) k false,al,h3,fun h=>ard hk h⟩
 ·have hy:=hy hk;obtain ⟨y',rfl⟩:∃ y',y = y' + 1:=⟨y - 1,by omega⟩
  obtain⟨⟨hj,hE,hr,hX,hJ⟩,_⟩:=ym ok;exact⟨3900000,by omega,Q.sma oz hE k false,al,h3,fun _=>⟨rfl,QInv.dyS W hg Q hr hj⟩⟩
theorem ai7:Df l k (cw gr xs) a.as=((fq l a.as gr (cw gr xs)).map Sv.av,mO l a.as gr (cw gr xs)):=by
 have _:=ok;have _:=hy;unfold Df;have mw:lO l (k:Nat)=gr:=ax hg;rw[aq7 (Q.dy0 W.li W.sp hg false),mw];exact Prod.ext (ag5 _ _ _ _) rfl
theorem aiq:FP 153 [l.av,i64 k,(cw gr xs).av,a.av] (.tup [.lst 3 ((fq l a.as gr (cw gr xs)).map Sv.av),bG (mO l a.as gr (cw gr xs))]):=by
 obtain⟨F,hF,hs,al,h3,hR⟩:=Xi W hg Q ok hy;have mw:lO l (k:Nat)=gr:=ax hg;have h:=Vy l W.hl k (W.tn hg).1 (W.tn hg).2.1 a.as al (fun _=>h3) hF hs (fun _ h=>hR (by rw[mw]at h;exact h));rw[ai7 W hg Q ok hy,a.as_av]at h;exact h
theorem abg:∃y' j' r' E',gH s g n y' j' r' E'=true/\(y'+(if gr.kind≠0 then 1 else 0)=y)/\∀sv∈fq l a.as gr (cw gr xs),QInv l j' r' E' (a.nxt gr sv):=by
 by_cases hk:gr.kind=0
 ·exact⟨y,j,r,_,(x8 ok).2,by simp[hk],Q.drv W hg ok hk⟩
 ·have hy:=hy hk;obtain ⟨y',rfl⟩:∃ y',y = y' + 1:=⟨y - 1,by omega⟩
  exact⟨y',j+1,_,_,(ym ok).2,by simp[hk],Q.dy W hg ok hk⟩
end
def ql(g:Gr):Bool:=decide (g.kind≠0)
theorem Ro{F:Int->Bool}{sg:Bool}{f:Sv->List Aq×Nat}{M:Nat}:∀{S:List Sv},(∀s∈S,(f s).1.length<=M)->(gw F sg f S).1.length<=S.length*M
 |[],h=>apx _
 |s::S,h=>by
  have h1:=h s aqr;have h2:=Ro (F:=F) (sg:=sg) (S:=S) (fun x hx=>h x (aqq _ hx));rw[sD,ap4,am5];split
  ·omega
  ·split
   ·omega
   ·split
    ·omega
    ·simp only[aqk];omega
structure WkSt(l:Li)(s g n:Nat)(a:Aq):Prop where
  st:∃j r E y,QInv l j r E a/\gH s g n y j r E=true/\((splitG l).drop a.ms.length).countP ql<=y
  ln:a.ms.length+n=(splitG l).length
theorem WkSt.next{l:Li}{xs:List Tn}{s g n:Nat}(W:WkC l xs s g){a:Aq}(h:WkSt l s g (n+1) a):∃gr,(splitG l)[a.ms.length]?=some gr /\
  FP 153 [l.av,i64 a.ms.length,(cw gr xs).av,a.av] (.tup [.lst 3 ((fq l a.as gr (cw gr xs)).map Sv.av),bG (mO l a.as gr (cw gr xs))]) /\
  SolP (fq l a.as gr (cw gr xs)) gr.kind a.ts.length gr.bo.length/\∀sv∈fq l a.as gr (cw gr xs),WkSt l s g n (a.nxt gr sv):=by
 obtain⟨⟨j,r,E,y,Q,ok,hc⟩,hl⟩:=h;obtain⟨gr,hg⟩:=ay (l:=splitG l) (i:=a.ms.length) oz;have IK:=x6 hg;rw[IK,anv]at hc
 have hy:gr.kind≠0->0<y:=fun hk=>by
  have:ql gr=true:=arb hk;rw[aq7 this]at hc;omega
 obtain⟨y',j',r',E',ok',ey,hQ⟩:=abg W hg Q ok hy;refine⟨gr,hg,aiq W hg Q ok hy,aa8 W hg Q ok hy,fun sv gQ=>⟨⟨j',r',E',y',hQ sv gQ,ok',?_⟩,?_⟩⟩
 ·have e : (a.nxt gr sv).ms.length = a.ms.length + 1 := by show (a.ms ++ [sv.mode]).length = _; simp
  rw[e]
  by_cases hk:gr.kind=0
  ·have h1 : ql gr = false := by unfold ql; simp [hk]
   simp only[hk,ne_eq,not_true_eq_false,if_false]at ey;rw[h1]at hc;simp only[aoz,if_false]at hc;omega
  ·have h1:ql gr=true:=arb hk;rw[aq7 hk]at ey;rw[aq7 h1]at hc;omega
 ·show(a.ms++[sv.mode]).length+n=_;rw[aqk];simp only[ap4,ap9];omega
theorem GH{l:Li}{xs:List Tn}{s g:Nat}(W:WkC l xs s g)(F:Nat->Int->Bool)(sg:Bool):∀(n:Nat)(a:Aq),WkSt l s g n a->(fP F sg l xs (splitG l) n a).1.length<=2^n
 |0,a,h=>apu _
 |n+1,a,h=>by
  obtain⟨gr,hg,_,hP,hn⟩:=h.next W;unfold fP;rw[ax hg];split
  ·exact apx _
  ·have h1:=Ro (F:=F a.ms.length) (sg:=sg) (f:=fun sv=>fP F sg l xs (splitG l) n (a.nxt gr sv)) (M:=2^n) (S:=fq l a.as gr (cw gr xs)) (fun sv gQ=>GH W F sg n _ (hn sv gQ));have h2:=aqi (2^n) hP.two;rw[amp];omega
theorem Io{l:Li}{xs:List Tn}{s g:Nat}(W:WkC l xs s g)(F:Nat->Int->Bool)(sg:Bool){fo:FuncId}{caps:List AV}(hF:∀(k:Nat)(m:Int),k<(splitG l).length->FP fo ([i64 k,i64 m]++caps) (bl (F k m))) :
  ∀(n:Nat)(a:Aq),WkSt l s g n a->∀o:List Aq,o.length+2^n<=1000 ->
   Con prog 64 [.ptr 1000 0,a.av] (iu l xs (splitG l) fo caps sg 1001 (o.map Aq.av)) (bG (fP F sg l xs (splitG l) n a).2) (iu l xs (splitG l) fo caps sg 900 ((o++(fP F sg l xs (splitG l) n a).1).map Aq.av))
 |0,a,h,o,ho=>by
  have hG:(splitG l).length<=100:=by have:=xU W.li;omega
  obtain⟨⟨j,r,E,y,Q,ok,_⟩,hl⟩:=h;obtain⟨hE,_,_⟩:=ain ok;have eY:=(dK W.li).2.2.2.1;have iV:=Q.ln;have h3:=Q.tw.three;obtain⟨D,N,hD,nB,h1,h2⟩:=Q.tw.rb
  exact Xt oz hG oz (U9 (e:=5000000000+E) Q.tw.five (fun x hx=>by
   obtain⟨i,hi⟩:=aqx hx;have nC:=(anz.1 hi).1;have h9:=Q.tw.len i nC;rw[ax hi]at h9;exact⟨Q.tw.five,.inr ⟨i,by omega,h9⟩,D,N,nB x hx,aqe h1 (cV (by have:=Q.tw.le;omega)),aqe h2 (cV (by have:=Q.tw.le;omega))⟩)
   (fun p hp=>(Q.bs p hp).up (apu _) Q.tw.five oz) oz oz oz oz)
 |n+1,a,h,o,ho=>by
  have hG:(splitG l).length<=100:=by have:=xU W.li;omega
  have eY:=(dK W.li).2.2.2.1;have iV:=h.ln;obtain⟨j,r,E,y,Q,ok,_⟩:=h.st;obtain⟨gr,hg,hS,hP,hn⟩:=h.next W;obtain⟨Jl,ff⟩:=vj W.li (apo hg);have h2:=CZ W.li;have fJ:=W.ln;have hQl:=Q.ln;have mi:=ff.lb
  have key := ahl (l := l) (xs := xs) (G := splitG l) (fo := fo) (caps := caps) (sg := sg) (o := o) hg hG oz (fun hk => by rw [fJ]; exact Fp Jl hk) hS (by have := hP.two; omega) (F := F a.ms.length) (fun m => hF _ m oz)
   (fun sv gQ => XI (fun b hb => by rw [hQl]; exact ff.b b hb) (by
    obtain⟨i,hi⟩:=aqx gQ;exact(hP.md i sv hi).2.2) oz oz oz)
   (f:=fun sv=>fP F sg l xs (splitG l) n (a.nxt gr sv)) (M:=2^n) (B:=1000) (fun sv gQ=>GH W F sg n _ (hn sv gQ)) (by have:=aqi (2^n) hP.two;rw[amp]at ho;omega)
   (fun o' ho' sv gQ=>Io W F sg hF n _ (hn sv gQ) o' ho')
  have e:fP F sg l xs (splitG l) (n+1) a=(if mO l a.as gr (cw gr xs)≠0 then([],mO l a.as gr (cw gr xs))else gw (F a.ms.length) sg (fun sv=>fP F sg l xs (splitG l) n (a.nxt gr sv)) (fq l a.as gr (cw gr xs))):=by
   conv=>lhs;unfold fP
   rw[ax hg]
  rw[e]
  by_cases hE:mO l a.as gr (cw gr xs)≠0
  ·rw[aq7 hE]at key ⊢;rw[aq7 hE]at key;exact key
  ·rw[aq6 hE]at key ⊢;rw[aq6 hE]at key;exact key
abbrev v6(l:Li)(xs:List Tn)(G:List Gr)(fo:FuncId)(caps:List AV)(sg:Bool)(k0 k:Nat)(es:List AV):Hp :=
  [(k0,some (.box (iM l xs G fo caps sg (.ms k 3 0 es.length)))),(k,some (.row 3 es))]
def AT(k:Nat):Nat:=bif amq k 1000 then 902 else bif amq k 902 then 1000 else ve k
theorem AX{a b:Nat}(h:¬a=b):amq a b=false:=by
 cases h1:amq a b
 ·rfl
 ·exact ard (apy h1) h
theorem QT(k:Nat):AT (AT k)=k:=by
 by_cases h1:k=1000
 ·subst h1;rfl
 by_cases h2:k=902
 ·subst h2;rfl
 by_cases h3:k=1001
 ·subst h3;rfl
 by_cases h4:k=901
 ·subst h4;rfl
 have e:AT k=k:=by simp only[AT,ve,AX h1,AX h2,AX h3,AX h4,cond_false]
 rw[e,e]
theorem JZ{l:Li}{xs:List Tn}{G:List Gr}{fo:FuncId}{caps:List AV}{sg:Bool}{es:List AV}(h0:0<l.bo.length)(hl:l.bo.length<=100) :
  Con prog 65 [.ptr 902 0] (v6 l xs G fo caps sg 902 901 es) (d8 l).av (v6 l xs G fo caps sg 902 901 es):=Con.pm QT (Tl h0 hl)
theorem P6{l:Li}{xs:List Tn}{G:List Gr}{fo:FuncId}{caps:List AV}{sg:Bool}{es es':List AV}{a:Aq}{e:Nat}
  (h:Con prog 64 [.ptr 1000 0,a.av] (iu l xs G fo caps sg 1001 es) (bG e) (iu l xs G fo caps sg 900 es')) :
  Con prog 64 [.ptr 902 0,a.av] (v6 l xs G fo caps sg 902 901 es) (bG e) (v6 l xs G fo caps sg 902 900 es'):=Con.pm QT h
def eJ:Nat->Int->Bool:=fun _ _=>true
def nW(F:Nat->Int->Bool)(sg:Bool)(l:Li)(xs:List Tn):List Aq×Nat:=fP F sg l xs (splitG l) (splitG l).length (d8 l)
def kq(l:Li)(xs:List Tn):List Aq×Nat:=if da l xs≠0 then([],da l xs)else if(nW eJ false l xs).2≠0 then([],(nW eJ false l xs).2)else nW eJ false l xs
theorem Uw{l:Li}{xs:List Tn}(h0:da l xs≠0)(cP:Con prog 63 [l.av,.lst 4 (xs.map Tn.av)] [] (.tup [vF (da l xs),bG (da l xs)]) (xW (da l xs) l xs)) :
  FP 12 [l.av,.lst 4 (xs.map Tn.av)] (.tup [.lst 3 [],bG (da l xs)]):=by
 rw[pK h0,DG h0]at cP;refine ai func12 ?_;refine gc cP ?_;refine gC (fun z=>?_) (fun z=>?_) (st2:=(77777,0))
 ·refine gR ?_;exact fv (Sub.tup (.cons (.nil _ _ _) (.cons (.refl _) .nil)))
 exact ard (dS z) h0
theorem adb{l:Li}{xs:List Tn}(h0:da l xs=0)(cP:Con prog 63 [l.av,.lst 4 (xs.map Tn.av)] [] (.tup [vF (da l xs),bG (da l xs)]) (xW (da l xs) l xs))(hb:0<l.bo.length)(hl:l.bo.length<=100)
  {R:List Aq×Nat} (hw:Con prog 64 [.ptr 1000 0,(d8 l).av] (iu l xs (splitG l) 151 [] false 1001 []) (bG R.2) (iu l xs (splitG l) 151 [] false 900 (R.1.map Aq.av))) :
  FP 12 [l.av,.lst 4 (xs.map Tn.av)] (.tup [.lst 3 ((if R.2≠0 then[]else R.1).map Aq.av),bG R.2]):=by
 rw[h0]at cP;have cP:Con prog 63 [l.av,.lst 4 (xs.map Tn.av)] [] (.tup [.ptr 900 0,.v .nilIface]) [pP 900 (.box (iM l xs (splitG l) 151 [] false (nS)))]:=cP;refine ai func12 ?_;refine gt (aK cP (bO rfl rfl) aL rfl rfl) ?_;refine gf ?_ (77777,0);refine gW (Wk.o (sl:=[pP 6 (.ptr 900 0)]) (hp:=[pP 900 (.box (iM l xs (splitG l) 151 [] false (nS)))])) ?_ (77777,0);refine gW (Wk.rk (k:=900) (d:=902) rfl rfl) ?_ (77777,0);refine gW (Wk.virt 901 3 rfl) ?_ (77777,0);refine gW (Wk.of (sl:=[pP 6 (.ptr 902 0)]) (hp:=v6 l xs (splitG l) 151 [] false 902 901 []) (.k .nil) (.cons rfl (BlkSub.bL (.cons (.refl _) (.cons (.refl _) (.cons (.refl _) (.cons (.refl _) (.cons (.refl _) (.cons (.refl _) (.cons (.refl _) (.cons (.refl _) (.cons (Sub.nM _ _ _) .nil))))))))) rfl) (.k .nil))) ?_;refine gt (Hx (JZ hb hl) (du rfl) rfl rfl rfl rfl rfl) ?_;refine gt (aK (P6 hw) (bO rfl rfl) aL rfl rfl) ?_;refine gC (fun z=>?_) (fun z=>?_) (st2:=(77777,0))
 ·have hE:=ef z;refine gR ?_;exact fv (by rw[aq7 hE];exact Sub.tup (.cons (.nil _ _ _) (.cons (.refl _) .nil)))
 have hE:=dS z;refine gW ((Wk.freeze (k:=900) rfl).trans<|Wk.of (sl:=[pP 6 (.ptr 902 0)]) (hp:=[pP 902 (.box (iM l xs (splitG l) 151 [] false (.lst 3 (R.1.map Aq.av))))]) a6 (.cons rfl (BlkSub.bL (.cons (.refl _) (.cons (.refl _) (.cons (.refl _) (.cons (.refl _) (.cons (.refl _) (.cons (.refl _) (.cons (.refl _) (.cons (.refl _) (.cons (.of (b8 rfl)) .nil))))))))) rfl) .nil)) ?_;refine gR ?_;exact fv (.of (by rw[aq6 oz,hE];rfl))
def Mc(modes:List Int):Nat->Int->Bool:=fun k m=>decide (m=modes.getD k 0)
theorem ahc{l:Li}{xs:List Tn}{modes:List Int}(eL:modes.length<=100)(h0:da l xs=0)(cP:Con prog 63 [l.av,.lst 4 (xs.map Tn.av)] [] (.tup [vF (da l xs),bG (da l xs)]) (xW (da l xs) l xs))(hb:0<l.bo.length)(hl:l.bo.length<=100)(dD:(splitG l).length<=100)
  {R:List Aq×Nat} (hw:modes.length=(splitG l).length->Con prog 64 [.ptr 1000 0,(d8 l).av] (iu l xs (splitG l) 162 [.iptr [.lst 1 (modes.map i64)]] true 1001 []) (bG R.2) (iu l xs (splitG l) 162 [.iptr [.lst 1 (modes.map i64)]] true 900 (R.1.map Aq.av))) (hR:R.1.length<=1000) :
  FP 69 [l.av,.lst 4 (xs.map Tn.av),.lst 1 (modes.map i64)] (.tup [(if modes.length≠(splitG l).length then Aq.mk [] [] []else if R.2≠0 then Aq.mk [] [] []else R.1.getD 0 (Aq.mk [] [] [])).av,bG (if modes.length≠(splitG l).length then 10 else if R.2≠0 then R.2 else if R.1=[]then 16 else 0)]):=by
 rw[h0]at cP;have cP:Con prog 63 [l.av,.lst 4 (xs.map Tn.av)] [] (.tup [.ptr 900 0,.v .nilIface]) [pP 900 (.box (iM l xs (splitG l) 151 [] false (nS)))]:=cP;refine ai func69 ?_;refine gt (aK cP (bO rfl rfl) aL rfl rfl) ?_;refine gf ?_ (77777,0);refine gW (Wk.o (sl:=[pP 5 (.ptr 5 0),pP 6 (.ptr 6 0),pP 8 (.ptr 900 0)]) (hp:=[pP 5 (.box [.lst 1 (modes.map i64)]),pP 6 (.box [nS,nS,nS]),pP 900 (.box (iM l xs (splitG l) 151 [] false (nS)))])) ?_ (77777,0);refine gW (Wk.rk (k:=900) (d:=902) rfl rfl) ?_;refine gl ?_;refine gl ?_;refine gD ?_;refine gC (fun z=>?_) (fun z=>?_) (st2:=(77777,0))
 ·have h1:=wN z;refine gR ?_;exact fv (by rw[aq7 h1,aq7 h1];exact Sub.tup (.cons (Sub.agg (.cons (.nil _ _ _) (.cons (.nil _ _ _) (.cons (.nil _ _ _) .nil))) rfl) (.cons (.refl _) .nil)))
 have h1:=yn z;have hm:¬(modes.length≠(splitG l).length):=fun h=>h h1
 refine gW ((Wk.freezeB (k:=5) rfl rfl).trans<|Wk.o (sl:=[pP 5 (.iptr [.lst 1 (modes.map i64)]),pP 6 (.ptr 6 0),pP 8 (.ptr 902 0)]) (hp:=[pP 6 (.box [nS,nS,nS]),pP 902 (.box (iM l xs (splitG l) 151 [] false (nS)))])) ?_ (7,0);refine gW (Wk.of (sl:=[pP 6 (.ptr 6 0),pP 8 (.ptr 902 0)]) (hp:=[pP 6 (.box [nS,nS,nS]),pP 902 (.box (iM l xs (splitG l) 162 [.iptr [.lst 1 (modes.map i64)]] true (nS)))]) a6 (.k (.cons rfl (BlkSub.bL (.cons (.refl _) (.cons (.refl _) (.cons (.refl _) (.cons (.refl _) (.cons (.refl _) (.cons (.refl _) (.cons (yE rfl) (.cons (.refl _) (.cons (.refl _) .nil))))))))) rfl) .nil))) ?_ (7,0)
 refine gW (Wk.virt 901 3 rfl) ?_ (7,0);refine gW (Wk.of (sl:=[pP 6 (.ptr 6 0),pP 8 (.ptr 902 0)]) (hp:=(6,some (.box [nS,nS,nS]))::v6 l xs (splitG l) 162 [.iptr [.lst 1 (modes.map i64)]] true 902 901 []) (.k (.k .nil)) (.k (.cons rfl (BlkSub.bL (.cons (.refl _) (.cons (.refl _) (.cons (.refl _) (.cons (.refl _) (.cons (.refl _) (.cons (.refl _) (.cons (.refl _) (.cons (.refl _) (.cons (Sub.nM _ _ _) .nil))))))))) rfl) (.k .nil)))) ?_
 refine gt (Hx (JZ hb hl) (du rfl) rfl rfl rfl rfl rfl) ?_;refine gt (aK (P6 (hw h1)) (bO rfl rfl) aL rfl rfl) ?_;refine gC (fun z=>?_) (fun z=>?_) (st2:=(77777,0))
 ·have hE:=ef z;refine gR ?_;exact fv (by rw[aq6 hm,aq6 hm,aq7 hE,aq7 hE];exact Sub.tup (.cons (Sub.agg (.cons (.nil _ _ _) (.cons (.nil _ _ _) (.cons (.nil _ _ _) .nil))) rfl) (.cons (.refl _) .nil)))
 have hE:=dS z;have hE':¬(R.2≠0):=fun h=>h hE
 refine gW ((Wk.freeze (k:=900) rfl).trans<|Wk.of (sl:=[pP 6 (.ptr 6 0),pP 8 (.ptr 902 0)]) (hp:=[pP 6 (.box [nS,nS,nS]),pP 902 (.box (iM l xs (splitG l) 162 [.iptr [.lst 1 (modes.map i64)]] true (.lst 3 (R.1.map Aq.av))))]) a6 (.k (.cons rfl (BlkSub.bL (.cons (.refl _) (.cons (.refl _) (.cons (.refl _) (.cons (.refl _) (.cons (.refl _) (.cons (.refl _) (.cons (.refl _) (.cons (.refl _) (.cons (.of (b8 rfl)) .nil))))))))) rfl) .nil))) ?_
 refine gl ?_;refine gC (fun z=>?_) (fun z=>?_)
 ·have h2 : R.1=[] := an1.1 (by simpa[aa]using z);refine gR ?_;exact fv (by rw[aq6 hm,aq6 hm,aq6 hE',aq6 hE',aq7 h2,h2];exact Sub.tup (.cons (Sub.agg (.cons (.nil _ _ _) (.cons (.nil _ _ _) (.cons (.nil _ _ _) .nil))) rfl) (.cons (.refl _) .nil)))
 have h2:R.1≠[]:=fun h=>by rw[h]at z;exact ard z (by simp[aa])
 obtain⟨a0,DP⟩:=ay (l:=R.1) (i:=0) (by cases hh:R.1 with |nil=>exact ard hh h2 |cons _ _=>simp);refine gi (aA DP) ?_;refine gR ?_;exact fv (.of (by rw[aq6 hm,aq6 hm,aq6 hE',aq6 hE',aq6 h2,ax DP];rfl))
theorem Rt.qbV{r:Rt}{e:Nat}(h:r.ok)(he:1<=e)(hn:val r.num<2^e)(hd:val r.den<2^e):Qb e r.q:=by
 by_cases h0:r.valid=true/\r.num≠[]
 ·obtain⟨h1,h2,h3,h4,h5,h6⟩:=Rt.parts h h0.1 h0.2;refine⟨?_,?_⟩
  ·have : r.q.num.natAbs = val r.num := by rw [h1]; unfold sgn; split <;> omega
   rw[this];exact hn
  ·rw[h2];exact hd
 ·rw[Rt.zero h0];exact Qb.zero.mono he
theorem Mg{l:List Nat}{b e:Nat}(h:¬1<l.length)(hb:l.length=1->ak l 0<=b)(he:b<2^e):val l<2^e:=by
 match l with
 |[]=>exact aqj (apx b) he
 |[x] =>
  have h1:x<=b:=hb rfl;have h2:val [x]=x:=by simp[val]
  rw[h2];omega
 |_::_::_=>simp at h
theorem GX{r:Rt}(h:r.ok)(hl:pH r=true):Qb 9 r.q:=by
 unfold pH at hl;rw[l7,l7,l7,ao0,ao2,ao2,ao2]at hl;obtain⟨⟨⟨h1,h2⟩,h3⟩,h4⟩:=hl;have g1:r.num.length<=1:=kD (b:=1) h1;have g2:r.den.length<=1:=kD (b:=1) h2;refine Rt.qbV h oz (Mg (b:=400) oz (fun hh=>?_) (by decide)) (Mg (b:=20) oz (fun hh=>?_) (by decide))
 ·rw[hh]at h3;exact kD (b:=400) h3
 ·rw[hh]at h4;exact kD (b:=20) h4
theorem Kq{l:Li}{xs:List Tn}(h:da l xs=0):aG l=0/\splitE l=0/\xs.length=l.dv.length/\∀x∈xs,x.err=0:=by
 unfold da at h;split at h
 ·rename_i h1;exact ard h h1
 ·rename_i h1;have h1:=apn.1 h1;unfold xz at h;split at h
  ·rename_i h2;exact ard h h2
  ·rename_i h2;have h2:=apn.1 h2;split at h
   ·cases h
   ·rename_i h3;exact⟨h1,h2,apn.1 h3,fun x hx=>uJ h _ (anx.2 ⟨x,hx,rfl⟩)⟩
theorem aip(gs:List Gr):gs.countP ql+gs.countP (fun g=>decide (g.kind=0))=gs.length:=by
 induction gs with
 |nil=>rfl
 |cons g gs ih =>
  rw[anv,anv,ap4]
  by_cases hk:g.kind=0
  ·have h1 : ql g = false := by unfold ql; simp [hk]
   rw[h1];simp only[hk,decide_true,aoz,if_false,if_true];omega
  ·have h1:ql g=true:=arb hk;rw[h1];simp only[hk,decide_false,aoz,if_false,if_true];omega
theorem Dh{s g:Nat}:∀{n m y y' j r E:Nat},gH s g n y j r E=true->m<=n->y'<=y->gH s g m y' j r E=true
 |n,0,y,y',j,r,E,h,hm,hy=>by
  have h1:=HY h;exact arb h1
 |n+1,m+1,y,y',j,r,E,h,hm,hy=>by
  have h1:=x8 h;unfold gH;simp only[apw,aqy,aq8];refine⟨HY h,Dh h1.2 oz hy,?_⟩
  by_cases hz:y'=0
  ·exact .inl hz
  ·right;obtain ⟨y2,rfl⟩:∃ y2,y = y2 + 1:=⟨y - 1,by omega⟩
   have h2:=ym h;exact⟨h2.1,Dh h2.2 oz oz⟩
theorem Be{l:Li}{xs:List Tn}(hL:m7 l xs=true)(hl:l.ok)(kz:∀x∈xs,x.t.wok)(h0:da l xs=0):∃s g,WkC l xs s g/\WkSt l s g (splitG l).length (d8 l):=by
 obtain⟨au,jT,iV,uT⟩:=Kq h0;unfold m7 at hL;simp only[apw,aq8]at hL;obtain⟨⟨_,_⟩,hT,hM,hR⟩:=hL;rw[ap3]at hT hM;rw[aq7 au]at hR;unfold GJ at hR;rw[l7,l7,lN]at hR;have tg:=Yc au jT;have dP:=CZ au;have hcn:=aip (splitG l)
 have oE:∀x∈xs,x.t.ok/\Qb 32 x.t.q:=fun x hx=>by
  have h9:=hT x hx;unfold qV at h9;rw[aq8]at h9;have ho:=(kz x hx).ok h9.1 h9.2 oz;exact⟨ho,(Rt.qb ho (k:=1) oz h9.1 h9.2).mono oz⟩
 have SR:∀(s g n y:Nat),gH s g n y 0 0 2=true->(splitG l).length<=n->(splitG l).countP ql<=y->WkSt l s g (splitG l).length (d8 l):=fun s g n y ok h1 h2 =>
  ⟨⟨0,0,2,y,PM l,Dh ok h1 (apu _),h2⟩,ams _⟩
 by_cases hn:(splitG l).length<=l.dv.length+1
 ·refine⟨32,134,⟨hl,au,jT,?_,iV,fun x hx=>?_⟩,SR 32 134 3 1 JT oz oz⟩
  ·intro b hb m hm;have h9:=hM b hb;rw[ap3]at h9;have h8:=h9 m hm;unfold qg at h8;rw[aq8]at h8;have ho:=(hl.bo b hb).pts m hm;exact⟨(Rt.qb ho.x (k:=1) oz h8.1 h8.2.1).mono oz,(Rt.qb ho.y (k:=1) oz h8.2.2.1 h8.2.2.2).mono oz⟩
  ·obtain⟨h1,h2⟩:=oE x hx;exact⟨h1,uT x hx,h2.mono oz,Cb.one (xX h2),Cb.one (xZ h2)⟩
 ·have alh:(splitG l).length=l.dv.length+2/\wm xs=true/\vh l=true:=by
   simp only[aqy,apw]at hR;rcases hR with(h9 |h9) |⟨h9,h8⟩
   ·rw[jT]at h9;exact ard h9 (by simp[aa])
   ·have : ((splitG l).length : Int) - l.dv.length <= 1 := by simpa [aa] using h9
    omega
   ·have : ((splitG l).length : Int) - l.dv.length = 2 := by simpa [aa] using h9
    exact⟨by omega,h8.1,h8.2⟩
  obtain⟨bV,Jm,Jn⟩:=alh;refine⟨9,42,⟨hl,au,jT,?_,iV,fun x hx=>?_⟩,SR 9 42 4 2 aez oz oz⟩
  ·intro b hb m hm;unfold vh at Jn;rw[ap3]at Jn;have h9:=Jn b hb;unfold zR at h9;rw[ap3]at h9;have h8:=h9 m hm;simp only[all_cons,List.all_nil,Bool.and_true,apw]at h8;have ho:=(hl.bo b hb).pts m hm;exact⟨GX ho.x h8.1,GX ho.y h8.2⟩
  ·obtain⟨h1,h2⟩:=oE x hx;unfold wm at Jm;rw[ap3]at Jm;have h8:=Jm x hx;simp only[all_cons,List.all_nil,Bool.and_true]at h8;have h9:=GX h1 h8;exact⟨h1,uT x hx,h2.mono oz,Cb.one (xX h9),Cb.one (xZ h9)⟩
def ka(m:Mk):Mk:=⟨m.name,rt m.x.q,rt (-m.y.q)⟩
def jQ(b:Bd):Bd:=⟨b.name,b.pts.map ka⟩
def bt(l:Li):Li:=⟨l.name,l.bo.map jQ,l.jo,l.dv⟩
theorem qd(l:Li):(bt l).bo.length=l.bo.length:=apr _
theorem Kh(bs:List Bd)(i:Nat):(bs.map jQ).getD i default=jQ (bs.getD i default):=by
 rw[apq,apq,apv];cases bs[i]? with
 |none=>rfl
 |some b=>rfl
theorem Lm(l:Li)(i:Int):dm (bt l) i=(dm l i).map ka:=by
 unfold dm bt;rw[Kh];rfl
theorem OH(ps:List Mk)(n:Nat):((ps.map ka).getD n default).x.q=(ps.getD n default).x.q:=by
 rw[apq,apq,apv];cases ps[n]? with
 |none=>rfl
 |some m=>exact bN _
theorem M0(ps:List Mk)(n:Nat):((ps.map ka).getD n default).y.q=-(ps.getD n default).y.q:=by
 rw[apq,apq,apv];cases ps[n]? with
 |none=>rfl
 |some m=>exact bN _
theorem ah6(a b:Rat):(-a=-b)↔a=b:=by constructor <;> intro h <;> grind
theorem aeh(l:Li)(j:Jt):fy (bt l) j=fy l j:=by
 unfold fy;simp only[qd,Lm,apr,OH,M0,ah6]
theorem Zw{ps:List Mk}{i:Nat}(hi:i<ps.length)(h:fh ps i=0):fh (ps.map ka) i=0:=by
 obtain⟨m,hm⟩:=ay hi;have e1:(ps.map ka).getD i default=ka m:=ax (by rw[apv,hm];rfl);have e2:ps.getD i default=m:=ax hm;unfold fh at h ⊢;rw[e1];rw[e2]at h;have e3:(ps.map ka).map Mk.name=ps.map Mk.name:=by rw[map_map];rfl
 rw[e3];split at h
 ·cases h
 ·split at h
  ·cases h
  ·rename_i h1 h2;have h1':¬jZ (ka m).name=false:=h1;rw[aq6 h1',aq6 h2,aq7 ⟨yb _,yb _⟩]
theorem X3{bs:List Bd}{i:Nat}(h:fi bs i=0):fi (bs.map jQ) i=0:=by
 unfold fi at h ⊢;rw[Kh];have e3:(bs.map jQ).map Bd.name=bs.map Bd.name:=by rw[map_map];rfl
 rw[e3];split at h
 ·cases h
 ·split at h
  ·cases h
  ·split at h
   ·cases h
   ·rename_i h1 h2 h3;have e4:(jQ (bs.getD i default)).pts.length=(bs.getD i default).pts.length:=apr _;have h1':¬jZ (jQ (bs.getD i default)).name=false:=h1;rw[aq6 h1',aq6 h2,e4,aq6 h3];exact pX (fun k hk=>Zw hk (r6 h k hk))
theorem Bl{l:Li}(h:aG l=0):aG (bt l)=0:=by
 unfold aG at h ⊢;have e1:(bt l).name=l.name:=rfl;rw[e1,qd]
 have e2:fR (bt l)=fR l:=by
  unfold fR ji;simp only[aeh];rfl
 have e3:iP (bt l)=iP l:=by
  unfold iP fw;simp only[qd];rfl
 rw[e2,e3];split at h
 ·cases h
 ·split at h
  ·cases h
  ·split at h
   ·cases h
   ·split at h
    ·rename_i h4;exact ard h h4
    ·rename_i h1 h2 h3 h4
     have e5:jw (bt l)=0:=by
      have h5:jw l=0:=by omega
      unfold jw at h5 ⊢;rw[qd];exact pX (fun i hi=>X3 (r6 h5 i hi))
     rw[aq6 h1,aq6 h2,aq6 h3,aq6 oz];exact h
def en(x:Tn):Tn:=⟨rt (-x.t.q),x.half⟩
theorem Co{x:Tn}(h:x.err=0):(en x).err=0:=by
 unfold Tn.err at h ⊢;split at h
 ·rename_i h1;refine aq7 ⟨yb _,fun hh=>?_⟩;show(rt (-x.t.q)).q=0;rw[bN,h1.2 hh];rfl
 ·cases h
structure SameJ(l' l:Li):Prop where
  j:l'.jo=l.jo
  d:l'.dv=l.dv
  b:l'.bo.length=l.bo.length
section
variable{l' l:Li}(h:SameJ l' l)
include h
theorem SameJ.jointI(kind body:Int)(oth:List Bool):jointI l' kind body oth=jointI l kind body oth:=by unfold Lw.jointI;rw[h.j]
theorem SameJ.freeB(k:List Bool)(i:Int):freeB l' k i=freeB l k i:=by unfold Lw.freeB rx;rw[h.d]
theorem SameJ.drHit(k:List Bool)(i:Nat):drHit l' k i=drHit l k i:=by unfold Lw.drHit;simp only[h.d,h.jointI]
theorem SameJ.driverG(k:List Bool):driverG l' k=driverG l k:=by unfold Lw.driverG;simp only[h.d,h.jointI,h.drHit]
theorem SameJ.prHit(k:List Bool)(i j:Nat):prHit l' k i j=prHit l k i j:=by unfold Lw.prHit;simp only[h.freeB,h.jointI,h.b]
theorem SameJ.prAt(k:List Bool)(i:Nat):prAt l' k i=prAt l k i:=by unfold Lw.prAt;simp only[h.prHit,h.b]
theorem SameJ.prG(k:List Bool)(i j:Nat):prG l' k i j=prG l k i j:=by unfold Lw.prG;simp only[h.jointI,h.b]
theorem SameJ.pairG(k:List Bool):pairG l' k=pairG l k:=by unfold Lw.pairG;simp only[h.prAt,h.prG,h.b]
theorem SameJ.sgHit(k:List Bool)(i:Nat):sgHit l' k i=sgHit l k i:=by unfold Lw.sgHit;simp only[h.freeB,h.jointI]
theorem SameJ.sgG(k:List Bool)(i:Nat):sgG l' k i=sgG l k i:=by unfold Lw.sgG;simp only[h.jointI,h.j]
theorem SameJ.singleG(k:List Bool):singleG l' k=singleG l k:=by
 unfold Lw.singleG;have e:Lw.sgG l' k=Lw.sgG l k:=funext (h.sgG k);simp only[h.sgHit,h.b,e]
theorem SameJ.nextG(k:List Bool):nextG l' k=nextG l k:=by unfold Lw.nextG;rw[h.driverG,h.pairG,h.singleG]
theorem SameJ.findFrom:∀(n:Nat)(k:List Bool)(out:List Gr),findFrom l' n k out=findFrom l n k out
 |0,k,out=>rfl
 |n+1,k,out=>by
  unfold Lw.findFrom;rw[h.nextG];cases Lw.nextG l k with
  |none=>rfl
  |some g=>exact SameJ.findFrom n _ _
theorem SameJ.findG:findG l'=findG l:=by unfold Lw.findG;rw[h.b,h.findFrom]
theorem SameJ.splitE:splitE l'=splitE l:=by unfold Lw.splitE cD fM;rw[h.findG,h.b,h.j]
theorem SameJ.splitG:splitG l'=splitG l:=by unfold Lw.splitG;rw[h.splitE,h.findG]
end
theorem JJ(l:Li):SameJ (bt l) l:=⟨rfl,rfl,qd l⟩
def sS(xs:List Tn):Nat:=fV (xs.map Tn.err)
def Gj(xs:List Tn):List Tn:=if sS xs=0 then xs.map en else[]
def XM:Tn:=⟨⟨false,[],[]⟩,false⟩
def BZ(x:Tn):Tn:=if x.err=0 then en x else XM
def PB:Li:=⟨⟨#[]⟩,[],[],[]⟩
def AL(l:Li):Li:=if aG l=0 then bt l else PB
theorem FO{l:Li}(h:aG l=0):AL l=bt l:=aq7 h
theorem ajq{l:Li}(h:aG l≠0):AL l=PB:=aq6 h
theorem ON{xs:List Tn}{i:Nat}{x:Tn}(hx:xs[i]?=some x)(hj:∀y∈xs.take i,y.err=0)(hn:x.err≠0):sS xs=x.err:=BM hx hj hn
theorem OO{xs:List Tn}(h:∀y∈xs,y.err=0):sS xs=0:=rf h
theorem QV{xs:List Tn}(h:sS xs=0):Gj xs=xs.map en:=aq7 h
theorem aes{xs:List Tn}(h:sS xs≠0):Gj xs=[]:=aq6 h
theorem NJ{x:Tn}{e:Nat}(h:Qb e x.t.q)(he:e<=1000):(en x).t.ok:=(h.neg.qs oz).ok
theorem Tq{l:Li}(h:aG l=0):∀b∈l.bo,b.pts.length<=8:=by
 intro b hb
 have h5:jw l=0:=by
  unfold aG at h;split at h
  ·cases h
  ·split at h
   ·cases h
   ·split at h
    ·cases h
    ·split at h
     ·rename_i h4;exact ard h h4
     ·omega
 obtain⟨i,hi⟩:=aqx hb;have h6:=r6 h5 i (anz.1 hi).1;unfold fi at h6;rw[ax hi]at h6;split at h6
 ·cases h6
 ·split at h6
  ·cases h6
  ·split at h6
   ·cases h6
   ·rename_i h7;omega
theorem QW{l:Li}(h:aG l=0):l.jo.length<=16/\l.dv.length<=2:=by
 obtain⟨_,h1,h2,_⟩:=dK h;constructor
 ·unfold fR at h1;split at h1
  ·cases h1
  ·omega
 ·unfold iP at h2;split at h2
  ·cases h2
  ·omega
theorem YB{m:Mk}(h:m.ok):(ka m).ok:=⟨(h.qx.qs oz).ok,(h.qy.neg.qs oz).ok,by show Qb 1000 (rt m.x.q).q;rw[bN];exact h.qx,by show Qb 1000 (rt (-m.y.q)).q;rw[bN];exact h.qy.neg⟩
theorem aih{b:Bd}(h:b.ok):(jQ b).ok:=by
 refine⟨fun m hm=>?_,fun m hm=>?_,?_,h.name⟩
 ·obtain⟨m',hm',rfl⟩:=anx.1 hm;exact YB (h.pts m' hm')
 ·obtain⟨m',hm',rfl⟩:=anx.1 hm;exact h.names m' hm'
 ·show(b.pts.map ka).length<=_;rw[apr];exact h.ll
theorem yL{l:Li}(h:l.ok):(bt l).ok:=by
 refine⟨h.name,fun b hb=>?_,h.jnames,h.dnames,?_,h.lj,h.ld⟩
 ·obtain⟨b',hb',rfl⟩:=anx.1 hb;exact aih (h.bo b' hb')
 ·show(l.bo.map jQ).length<=_;rw[apr];exact h.lb
def Jt.vs(j:Jt):List arh:=[.string j.name,.int .i64 j.kind,.int .i64 j.a,.int .i64 j.point,.int .i64 j.b,.int .i64 j.on,.int .i64 j.to]
def Dr.vs(d:Dr):List arh:=[.string d.name,.int .i64 d.body]
structure Gr.sm(g:Gr):Prop where
  b:g.bo.length<=100
  j:g.jo.length<=100
theorem adk{l:Li}(hl:aG l=0):(∀g∈splitG l,g.sm)/\(splitG l).length<=100:=by
 refine⟨fun g hg=>?_,?_⟩
 ·obtain⟨_,ho⟩:=vj hl hg;have:=ho.lb;have:=ho.lj
  exact⟨by omega,by omega⟩
 ·unfold splitG;split
  ·have:=(wc hl).2;omega
  ·exact apx _
abbrev DF:List AV:=[.v (.string ⟨#[]⟩),nS,nS,nS]
theorem wS{α β:Type}{f:α->β}{g:β->AV}{l:List α}{i:Nat}{x:α}(h:l[i]?=some x):((l.take (i+1)).map f).map g=((l.take i).map f).map g++[g (f x)]:=by
 rw[dJ h,ap8,ap8];rfl
theorem oY{α β:Type}{f:α->β}{g:β->AV}{l:List α}{i:Nat}(h:i<=l.length):(((l.take i).map f).map g).length=i:=by rw[apr,apr,ap7];omega
theorem Dd{β:Type}{g:β->AV}{l:List β}{i:Nat}(h:i<=l.length):((l.take i).map g).length=i:=by rw[apr,ap7];omega
theorem Lc(x:Rt)(hx:x.ok):FP 78 [x.av] (qA x.q):=by
 have jf:=sH x (rt 0) hx Qs.zero.ok;rw[zD]at jf;refine ai func78 ?_;refine gc (Con.sA (.cons (.refl _) (.cons mV .nil)) jf) ?_;refine ah ?_;rfl
theorem ahm(e:AV)(es:List AV)(hc:∀x∈e::es,x.cells.length=7)(hl:(e::es).length<=1000):FP 76 [.lst 7 (e::es)] (.lst 7 (e::es)):=by
 refine ai func76 ?_;refine gs (CJ (.tmp rfl) (by kernel_rfl) rfl) ?_;refine gf ?_;refine gs (j6 T23 rfl T135 rfl rfl rfl) ?_;refine gs (pY (.tmp rfl) rfl rfl (.tmp rfl) T23 rfl T135 rfl rfl (by simp only[];omega) rfl rfl) ?_;refine ah ?_;rfl
theorem Yz(e:AV)(es:List AV)(hc:∀x∈e::es,x.cells.length=2)(hl:(e::es).length<=1000):FP 77 [.lst 2 (e::es)] (.lst 2 (e::es)):=by
 refine ai func77 ?_;refine gs (CJ (.tmp rfl) (by kernel_rfl) rfl) ?_;refine gf ?_;refine gs (j6 T24 rfl T151 rfl rfl rfl) ?_;refine gs (pY (.tmp rfl) rfl rfl (.tmp rfl) T24 rfl T151 rfl rfl (by simp only[];omega) rfl rfl) ?_;refine ah ?_;rfl
theorem Uo(a:Option Addr)(cap:Nat):FP 76 [.v (.slice a 0 cap)] (.lst 7 []):=by
 refine ai func76 ?_;refine gs (BN (.tmp rfl) (by kernel_rfl) rfl) ?_;refine gC (fun z=>?_) (fun z=>?_) (st2:=(77777,0))
 ·refine gR ?_;exact fv (Sub.nil _ _ _)
 refine gW (Wk.of (sl:=[pP 0 (.lst 7 [])]) (hp:=[]) (.cons rfl (Sub.nil _ _ _) .nil) .nil) ?_;refine gs (j6 T23 rfl T135 rfl rfl rfl) ?_;refine gs (pY (.tmp rfl) rfl rfl (.tmp rfl) T23 rfl T135 rfl rfl (by simp) rfl rfl) ?_;refine ah ?_;rfl
theorem X8(a:Option Addr)(cap:Nat):FP 77 [.v (.slice a 0 cap)] (.lst 2 []):=by
 refine ai func77 ?_;refine gs (BN (.tmp rfl) (by kernel_rfl) rfl) ?_;refine gC (fun z=>?_) (fun z=>?_) (st2:=(77777,0))
 ·refine gR ?_;exact fv (Sub.nil _ _ _)
 refine gW (Wk.of (sl:=[pP 0 (.lst 2 [])]) (hp:=[]) (.cons rfl (Sub.nil _ _ _) .nil) .nil) ?_;refine gs (j6 T24 rfl T151 rfl rfl rfl) ?_;refine gs (pY (.tmp rfl) rfl rfl (.tmp rfl) T24 rfl T151 rfl rfl (by simp) rfl rfl) ?_;refine ah ?_;rfl
theorem Vx(es:List AV)(hc:∀x∈es,x.cells.length=7)(hl:es.length<=1000):FP 76 [.lst 7 es] (.lst 7 es):=by
 cases es with
 |nil=>exact JP Uo
 |cons e es=>exact ahm e es hc hl
theorem Xf(es:List AV)(hc:∀x∈es,x.cells.length=2)(hl:es.length<=1000):FP 77 [.lst 2 es] (.lst 2 es):=by
 cases es with
 |nil=>exact JP X8
 |cons e es=>exact Yz e es hc hl
theorem Zy(l:Li)(h1:aG l=0):FP 76 [.lst 7 (l.jo.map Jt.av)] (.lst 7 (l.jo.map Jt.av)) :=
 Vx _ (fun x hx=>by obtain⟨j,_,rfl⟩:=anx.1 hx;rfl) (by rw[apr];have:=(QW h1).1;omega)
theorem V4(l:Li)(h1:aG l=0):FP 77 [.lst 2 (l.dv.map Dr.av)] (.lst 2 (l.dv.map Dr.av)) :=
 Xf _ (fun x hx=>by obtain⟨j,_,rfl⟩:=anx.1 hx;rfl) (by rw[apr];have:=(QW h1).2;omega)
theorem Lk(l:Li)(hl:l.ok):FP 20 [l.av] (.tup [(AL l).av,bG (aG l)]):=by
 refine ai func20 ?_;refine gc (Dl l hl) ?_;refine gC (fun z=>?_) (fun z=>?_)
 ·have h1:=ef z;refine gR ?_;exact A6 (by rw[ajq h1];exact Sub.agg (.cons (.refl _) (.cons (.nil _ _ _) (.cons (.nil _ _ _) (.cons (.nil _ _ _) .nil)))) rfl) (.refl _)
 have h1:=dS z;have kW:=(dK h1).2.2.2.1;have xj:=Tq h1;refine gc (Zy l h1) ?_;refine gc (V4 l h1) ?_;refine gD ?_;refine gl ?_;refine gW (Wk.virt 900 2 rfl) ?_;refine aS [2,5,27,28] [2] (fun(i:Nat)=>[pP 29 (i64 i)]) (fun i=>[pP 5 (.box [.v (.string l.name),.ms 900 2 0 i,.lst 7 (l.jo.map Jt.av),.lst 2 (l.dv.map Dr.av)]),pP 900 (.row 2 (((l.bo.take i).map jQ).map Bd.av))]) (fun i=>i<=l.bo.length) (fun i=>l.bo.length-i) 0 (apx _) ?_ (h2:=(.cons rfl (BlkSub.bL (.cons (.refl _) (.cons (.nM _ _ _) (.cons (.refl _) (.cons (.refl _) .nil)))) rfl) (.k .nil)))
 rintro i hi K1 J1;refine gC (fun z=>?_) (fun z=>?_) (st2:=(16,0))
 ·have ae:=a7 z;obtain⟨b,hb⟩:=ay ae;have nc:=hl.bo b (apo hb);have qz:=xj b (apo hb);refine gi (aA hb) ?_;refine gl ?_;refine gW (Wk.virt 901 7 rfl) ?_;refine aS [2,5,8,27,28,29,37,38] [2,5,900] (fun(k:Nat)=>[pP 39 (i64 k)]) (fun k=>[pP 8 (.box [.v (.string b.name),.ms 901 7 0 k]),pP 901 (.row 7 (((b.pts.take k).map ka).map Mk.av))]) (fun k=>k<=b.pts.length) (fun k=>b.pts.length-k) 0 (apx _) ?_ (h2:=(.cons rfl (BlkSub.bL (.cons (.refl _) (.cons (.nM _ _ _) .nil)) rfl) (.k .nil)));rintro k hk K2 J2;refine gC (fun z=>?_) (fun z=>?_) (st2:=(14,0))
  ·have bp:=a7 z;obtain ⟨m,hm⟩:=ay bp;have pq:=nc.pts m (apo hm);refine gi (aA hm) ?_;refine gc (Lc m.x pq.x) ?_;refine gc (xt m.y pq.y) ?_;refine gs (cF (.tmp rfl) rfl (oY oz).symm (.tmp rfl) T137 rfl T141 rfl rfl (by simp only [ap4,ap9]; omega) rfl rfl) ?_;refine gD ?_ (13,0);refine gW (Wk.of (sl:=[pP 2 (.ptr 2 0),pP 5 (.ptr 5 0),pP 8 (.ptr 8 0),pP 27 (.lst 2 (l.bo.map Bd.av)),pP 28 (i64 l.bo.length),pP 29 (i64 i),pP 37 (.lst 7 (b.pts.map Mk.av)),pP 38 (i64 b.pts.length),pP 39 (i64 k)]) (hp:=[pP 2 (.box DF),pP 5 (.box [.v (.string l.name),.ms 900 2 0 i,.lst 7 (l.jo.map Jt.av),.lst 2 (l.dv.map Dr.av)]),pP 8 (.box [.v (.string b.name),.ms 55 7 0 (k + 1)]),pP 900 (.row 2 (((l.bo.take i).map jQ).map Bd.av)),pP 55 (.row 7 (((b.pts.take (k + 1)).map ka).map Mk.av))]) a6 (.k (.k (.k (.k (.cons rfl (.of (by rw [wS hm]; rfl)) .nil)))))) ?_ (13,0)
   refine gW (Wk.rk (k:=55) (d:=901) rfl rfl) ?_;refine ga aN ?_;exact aM J2 (k+1) bp
  have bp:=bj hk z;subst bp;refine gW ((Wk.freeze (k:=901) rfl).trans<|Wk.of (sl:=[pP 2 (.ptr 2 0),pP 5 (.ptr 5 0),pP 8 (.ptr 8 0),pP 27 (.lst 2 (l.bo.map Bd.av)),pP 28 (i64 l.bo.length),pP 29 (i64 i)]) (hp:=[pP 2 (.box DF),pP 5 (.box [.v (.string l.name),.ms 900 2 0 i,.lst 7 (l.jo.map Jt.av),.lst 2 (l.dv.map Dr.av)]),pP 8 (.box [.v (.string b.name),.lst 7 ((b.pts.map ka).map Mk.av)]),pP 900 (.row 2 (((l.bo.take i).map jQ).map Bd.av))]) a6 (.k (.k (.cons rfl (BlkSub.bL (.cons (.refl _) (.cons (.of (by rw[b8 (oY (apu _)).symm,ap5])) .nil)) rfl) (.k .nil))))) ?_
  refine gs (cF (.tmp rfl) rfl (oY oz).symm (.tmp rfl) T22 rfl T139 rfl rfl (by simp only[ap4,ap9];omega) rfl rfl) ?_ (15,0);refine gW (Wk.of (sl:=[pP 2 (.ptr 2 0),pP 5 (.ptr 5 0),pP 27 (.lst 2 (l.bo.map Bd.av)),pP 28 (i64 l.bo.length),pP 29 (i64 i)]) (hp:=[pP 2 (.box DF),pP 5 (.box [.v (.string l.name),.ms 62 2 0 (i+1),.lst 7 (l.jo.map Jt.av),.lst 2 (l.dv.map Dr.av)]),pP 62 (.row 2 (((l.bo.take (i+1)).map jQ).map Bd.av))]) a6 (.k (.k (.cons rfl (.of (by rw[wS hb];rfl)) .nil)))) ?_ (15,0)
  refine gW (Wk.rk (k:=62) (d:=900) rfl rfl) ?_;refine ga aN ?_;exact aM J1 (i+1) ae
 have ae:=bj hi z;subst ae;refine gW ((Wk.freeze (k:=900) rfl).trans<|Wk.of (sl:=[pP 2 (.ptr 2 0),pP 5 (.ptr 5 0)]) (hp:=[pP 2 (.box DF),pP 5 (.box (bt l).av.cells)]) a6 (.k (.cons rfl (BlkSub.bL (.cons (.refl _) (.cons (.of (by rw[b8 (oY (apu _)).symm,ap5];rfl)) (.cons (.refl _) (.cons (.refl _) .nil)))) rfl) .nil))) ?_;refine bK ?_;rw[FO h1,h1];rfl
theorem ahe(x:Tn)(hx:x.t.ok):FP 176 [x.av] (en x).av:=by
 refine ai func176 ?_;refine gc (xt x.t hx) ?_;refine gD ?_;refine ah ?_;rfl
theorem agd(x:Tn)(hx:x.t.ok):FP 80 [x.av] (.tup [(BZ x).av,bG x.err]):=by
 refine ai func80 ?_;refine gc (zI x hx) ?_;refine gC (fun z=>?_) (fun z=>?_)
 ·have h1:=ef z;refine gR ?_;exact A6 (by unfold BZ;rw[aq6 h1];exact Sub.agg (.cons (.refl _) (.cons (.nil _ _ _) (.cons (.nil _ _ _) (.cons (.refl _) .nil)))) rfl) (.refl _)
 have h1:=dS z;refine gc (ahe x hx) ?_;refine bK ?_;unfold BZ;rw[aq7 h1,h1];rfl
theorem Un(xs:List Tn)(hx:∀x∈xs,x.t.ok)(hl:xs.length<=1000):FP 21 [.lst 4 (xs.map Tn.av)] (.tup [.lst 4 ((Gj xs).map Tn.av),bG (sS xs)]):=by
 refine ai func21 ?_;refine gl ?_;refine gW (Wk.virt 900 4 rfl) ?_;refine aS [9,10] [] (fun(i:Nat)=>[pP 4 (.ms 900 4 0 i),pP 11 (i64 i)]) (fun i=>[pP 900 (.row 4 (((xs.take i).map en).map Tn.av))]) (fun i=>i<=xs.length/\∀y∈xs.take i,y.err=0) (fun i=>xs.length-i) 0 ⟨apx _,fun x hx=>by simp at hx⟩ ?_;rintro i ⟨hi,hj⟩ K1 J1;refine gC (fun u=>?_) (fun u=>?_) (st2:=(10,0))
 ·have ae:=a7 u;obtain⟨x,lL⟩:=ay ae;have oE:=hx x (apo lL);refine gi (aA lL) ?_;refine gc (agd x oE) ?_;refine gC (fun u=>?_) (fun u=>?_)
  ·have h2:=ef u;refine gR ?_;exact A6 (by rw[aes (by rw[ON lL hj h2];exact h2)];exact Sub.nil _ _ _) (.of (by rw[ON lL hj h2]))
  have h2:=dS u;have uS:BZ x=en x:=aq7 h2;rw[uS];refine gs (cF (.tmp rfl) rfl (oY oz).symm (.tmp rfl) T38 rfl T115 rfl rfl (by simp only[ap4,ap9];omega) rfl rfl) ?_ (9,0);refine gW (Wk.of (sl:=[pP 4 (.ms 26 4 0 (i+1)),pP 9 (.lst 4 (xs.map Tn.av)),pP 10 (i64 xs.length),pP 11 (i64 i)]) (hp:=[pP 26 (.row 4 (((xs.take (i+1)).map en).map Tn.av))]) a6 (.cons rfl (.of (by rw[wS lL];rfl)) .nil)) ?_ (9,0);refine gW (Wk.rk (k:=26) (d:=900) rfl rfl) ?_;refine ga aN ?_;exact aM J1 (i+1) ⟨ae,fun z hz=>by rw[dJ lL]at hz;rcases ap2.1 hz with h9 |h9;exact hj z h9;(rw[am8.1 h9];exact h2)⟩
 have ae:=bj hi u;subst ae;have hz:sS xs=0:=OO (by rw[ap5]at hj;exact hj);refine gW ((Wk.freeze (k:=900) rfl).trans<|Wk.of (sl:=[pP 4 (.lst 4 ((xs.map en).map Tn.av))]) (hp:=[]) (.cons rfl (.of (by rw[b8 (oY (apu _)).symm,ap5])) .nil) .nil) ?_;refine bK ?_;rw[QV hz,hz];rfl
theorem Qp(a:List Nat)(ha:a.length<=281474976710656):FP 388 [ws a,ws a] (bl true):=by
 refine ai func388 ?_;refine gl ?_;refine gl ?_;refine gC (fun z=>?_) (fun z=>?_) (st1:=(2,0));exact ard z (by simp[aa]);refine aS [0,1] [] (fun(i:Nat)=>[pP 5 (i64 i)]) (fun _=>[]) (fun i=>i<=a.length) (fun i=>a.length-i) 0 (apx _) ?_;rintro i hi K1 J1;refine gl ?_;refine gC (fun z=>?_) (fun z=>?_)
 ·have ae:=a7 z;obtain⟨x,hx⟩:=ay ae;refine gi (aA hx) ?_;refine gi (aA hx) ?_;refine gD ?_;refine gC (fun z=>?_) (fun z=>?_) (st1:=(7,0));exact ard z (by simp[aa]);refine ga aN ?_;exact aM J1 (i+1) ae
 refine ah ?_;rfl
theorem KK(a b:List Int)(ha:a.length<=281474976710656)(hb:b.length<=281474976710656):FP 27 [.lst 1 (a.map i64),.lst 1 (b.map i64)] (bl (decide (a=b))):=by
 refine ai func27 ?_;refine gl ?_;refine gl ?_;refine gC (fun z=>?_) (fun z=>?_)
 ·have h1:=wN z;refine ah ?_;rw[arc (fun e=>h1 (by rw[e]))];rfl
 have h1:=yn z;refine aS [0,1] [] (fun(i:Nat)=>[pP 5 (i64 i)]) (fun _=>[]) (fun i=>i<=a.length/\a.take i=b.take i) (fun i=>a.length-i) 0 ⟨apx _,rfl⟩ ?_;rintro i ⟨hi,hz⟩ K1 J1;refine gl ?_;refine gC (fun z=>?_) (fun z=>?_)
 ·have ae:=a7 z;obtain⟨x,hx⟩:=ay ae;obtain⟨y,hy⟩:=ay (l:=b) (i:=i) oz;refine gi (aA hx) ?_;refine gi (aA hy) ?_;refine gD ?_;refine gC (fun z=>?_) (fun z=>?_)
  ·have h2 : x ≠ y := by simpa [aa] using z
   refine ah ?_;rw[arc (fun e=>h2 (by rw[e,hy]at hx;cases hx;rfl))];rfl
  have h2:x=y:=by simpa[aa]using z
  have h3:a.take (i+1)=b.take (i+1):=by rw[dJ hx,dJ hy,hz,h2]
  refine ga aN ?_;exact aM J1 (i+1) ⟨ae,h3⟩
 have ae:=bj hi z;have h4:a=b:=by rw[ae,ap5,h1,ap5]at hz;exact hz
 refine ah ?_;rw[arb h4];rfl
theorem E0(a:List Int)(ha:a.length<=281474976710656):FP 27 [.lst 1 (a.map i64),.lst 1 (a.map i64)] (bl true):=by
 have h:=KK a a ha ha;rw[arb rfl]at h;exact h
theorem OI(x:Rt)(hx:x.ok):FP 289 [x.av,x.av] (bl true):=by
 have h1:x.num.length<=281474976710656:=by have:=hx.2.2.1;unfold ir at this;omega
 have h2:x.den.length<=281474976710656:=by have:=hx.2.2.2;unfold ir at this;omega
 refine ai func289 ?_;refine bT (fun _=>(Qp x.num h1)) ?_;refine bT (fun h=>(Qp x.den h2)) ?_;refine ah ?_;simp;rfl
theorem af0(b:Bd)(hb:b.ok):FP 163 [b.av,b.av] (bl true):=by
 have nv:=hb.ll;refine ai func163 ?_;refine cA ?_;refine cA ?_;refine gC (fun z=>?_) (fun z=>?_) (st1:=(2,0));exact ard z (by simp[aa]);refine aS [2,3] [2,3] (fun(i:Nat)=>[pP 5 (i64 i)]) (fun _=>[]) (fun i=>i<=b.pts.length) (fun i=>b.pts.length-i) 0 (apx _) ?_;rintro i hi K1 J1;refine gl ?_;refine gC (fun z=>?_) (fun z=>?_)
 ·have ae:=a7 z;obtain⟨m,hm⟩:=ay ae;have pq:=hb.pts m (apo hm);refine gi (aA hm) ?_;refine gi (aA hm) ?_;refine gD ?_;refine bT (fun _=>(OI m.x pq.x)) ?_;refine bT (fun _=>(OI m.y pq.y)) ?_;refine gC (fun z=>?_) (fun z=>?_) (st1:=(8,0));exact ard z (by simp);refine ga aN ?_;exact aM J1 (i+1) ae
 refine ah ?_;rfl
theorem V0(l l2:Li)(hl:l.ok)(e:l=l2):FP 70 [l.av,l2.av] (bl true):=by
 have eY:=hl.lb;have tk:=hl.lj;have rJ:=hl.ld;refine ai func70 ?_;refine cA ?_;refine cA ?_;refine cA ?_;refine cA ?_;refine cA ?_;refine cA ?_;refine gC (fun z=>?_) (fun z=>?_) (st1:=(2,0));exact ard z (by subst e;simp[aa]);subst e;refine aS [2,3] [2,3] (fun(i:Nat)=>[pP 5 (i64 i)]) (fun _=>[]) (fun i=>i<=l.bo.length) (fun i=>l.bo.length-i) 0 (apx _) ?_;rintro i hi K1 J1;refine gl ?_;refine gC (fun z=>?_) (fun z=>?_)
 ·have ae:=a7 z;obtain⟨b,hb⟩:=ay ae;refine gi (aA hb) ?_;refine gi (aA hb) ?_;refine gc (af0 b (hl.bo b (apo hb))) ?_;refine gD ?_;refine gf ?_;refine ga aN ?_;exact aM J1 (i+1) ae
 refine aS [2,3] [2,3] (fun(i:Nat)=>[pP 6 (i64 i)]) (fun _=>[]) (fun i=>i<=l.jo.length) (fun i=>l.jo.length-i) 0 (apx _) ?_;rintro i hk K2 J2;refine gl ?_;refine gC (fun z=>?_) (fun z=>?_)
 ·have bp:=a7 z;obtain⟨j,hj⟩:=ay bp;refine gi (aA hj) ?_;refine gi (aA hj) ?_;refine gs (MA (cs:=j.vs) (ks:=[2,1,1,1,1,1,1]) (.tmp rfl) (.tmp rfl) rfl (by kernel_rfl) rfl) ?_;refine gD ?_;refine gf ?_;refine ga aN ?_;exact aM J2 (i+1) bp
 refine aS [2,3] [2,3] (fun(i:Nat)=>[pP 7 (i64 i)]) (fun _=>[]) (fun i=>i<=l.dv.length) (fun i=>l.dv.length-i) 0 (apx _) ?_;rintro i hq K3 J3;refine gl ?_;refine gC (fun z=>?_) (fun z=>?_)
 ·have dF:=a7 z;obtain⟨d,hd⟩:=ay dF;refine gi (aA hd) ?_;refine gi (aA hd) ?_;refine gs (MA (cs:=d.vs) (ks:=[2,1]) (.tmp rfl) (.tmp rfl) rfl (by kernel_rfl) rfl) ?_;refine gD ?_;refine gf ?_;refine ga aN ?_;exact aM J3 (i+1) dF
 refine ah ?_;rfl
theorem ac2(l:Li)(hl:l.ok):FP 70 [l.av,l.av] (bl true):=V0 l l hl rfl
theorem Ew{l:Li}{xs:List Tn}(h:m7 l xs=true)(kz:∀x∈xs,x.t.wok):lB l=true/\xs.length<=20/\∀x∈xs,x.t.ok:=by
 unfold m7 at h;simp only[apw,aq8]at h;refine⟨h.1.1,h.1.2,fun x hx=>?_⟩;have h9:=ap3.1 h.2.1 x hx;unfold qV at h9;rw[aq8]at h9;exact(kz x hx).ok h9.1 h9.2 oz
theorem aag{p:Bool}(h:cond (!true) true (!p)=false):p=true:=by cases p <;> simp_all
theorem aal(l:Li)(hl:l.ok)(au:aG l=0)(xs:List Tn)(hx:∀x∈xs,x.t.ok)(hn:xs.length<=100) :
  FP 22 [l.av,.lst 4 (xs.map Tn.av)] (i64 (da l xs)):=by
 have rJ:=hl.ld;refine ai func22 ?_;refine gc (L0 l hl au) ?_;refine gC (fun u=>?_) (fun u=>?_)
 ·have h1:splitE l≠0:=oR u;refine ah ?_;rw[JD (aq7 au) h1]
 have jT:splitE l=0:=oh u;refine gl ?_;refine gl ?_;refine gC (fun u=>?_) (fun u=>?_)
 ·have h2:=wN u;refine ah ?_;rw[y9 au jT,aq7 h2];rfl
 have h2:=yn u;have uZ:da l xs=fV (xs.map Tn.err):=by rw[y9 au jT,aq6 oz]
 refine gl ?_;refine aS [24,25] [] (fun(i:Nat)=>[pP 26 (i64 i)]) (fun _=>[]) (fun i=>i<=xs.length/\∀y∈xs.take i,y.err=0) (fun i=>xs.length-i) 0 ⟨apx _,fun y hy=>by simp at hy⟩ ?_;rintro i ⟨hi,hz⟩ K1 J1;refine gC (fun u=>?_) (fun u=>?_)
 ·have ae:=a7 u;obtain⟨x,rQ⟩:=ay ae;refine gi (aA rQ) ?_;refine gc (afz x (hx x (apo rQ))) ?_;refine gC (fun u=>?_) (fun u=>?_)
  ·have h3:x.err≠0:=oR u;refine ah ?_;rw[uZ,BM rQ hz h3]
  have h3:x.err=0:=oh u;refine ga aN ?_;exact aM J1 (i+1) ⟨ae,fun z jy=>by rw[dJ rQ]at jy;rcases ap2.1 jy with h9 |h9;exact hz z h9;(rw[am8.1 h9];exact h3)⟩
 have ae:=bj hi u;refine ah ?_;rw[uZ,rf (fun y hy=>hz y (by rw[ae,ap5];exact hy))];rfl
structure AqOk(a:Aq):Prop where
  tw:∃r,Tw a.ts r
  two:a.ts.length<=2
  bs:∀p∈a.bs,Pq.ok a.ts.length 50000000000 p
  lb:a.bs.length<=100
  lm:a.ms.length<=100
theorem EM{F:Int->Bool}{sg:Bool}{f:Sv->List Aq×Nat}{b:Aq}:∀{S:List Sv},b∈(gw F sg f S).1->∃s∈S,F s.mode=true/\b∈(f s).1
 |[],h=>by cases h
 |s::S,h=>by
  rw[sD]at h;split at h
  ·obtain⟨x,hx,h2⟩:=EM h;exact⟨x,aqq _ hx,h2⟩
  ·rename_i hF;have hF:F s.mode = true:=by simpa using hF
   split at h
   ·exact⟨s,aqr,hF,h⟩
   ·split at h
    ·exact⟨s,aqr,hF,h⟩
    ·rcases ap2.1 h with h |h
     ·exact⟨s,aqr,hF,h⟩
     ·obtain⟨x,hx,h2⟩:=EM h;exact⟨x,aqq _ hx,h2⟩
theorem ZL{a:Aq}(h:AqOk a):FP 26 [a.av,a.av] (bl true):=by
 obtain⟨r,tw⟩:=h.tw;have eY:=h.lb;have dp:=h.lm;refine ai func26 ?_;refine gc (Z0 tw) ?_;refine cA ?_;refine cA ?_;refine bT (fun _=>(E0 a.ms oz)) ?_;refine gC (fun y=>?_) (fun y=>?_) (st1:=(2,0));exact ard y (by simp[aa]);refine gl ?_;refine aS [2,3,31] [2,3] (fun(i:Nat)=>[pP 32 (i64 i)]) (fun _=>[]) (fun i=>i<=a.bs.length) (fun i=>a.bs.length-i) 0 (apx _) ?_;rintro i hi K1 J1;refine gC (fun y=>?_) (fun y=>?_)
 ·have ae:=a7 y;obtain⟨p,hp⟩:=ay ae;refine gi (aA hp) ?_;refine gi (aA hp) ?_;refine gc (adc tw h.two ((h.bs p (apo hp)).up (apu _) tw.five oz)) ?_;refine gD ?_;refine gf ?_;refine ga aN ?_;exact aM J1 (i+1) ae
 refine ah ?_;rfl
open Lean.Grind (CommRing)
structure Nxt(l:Li)(kw:List Bool)(g:Gr):Prop where
  b:∀x∈g.bo,kn kw x=false
  j:∀z∈g.jo,∀j,l.jo[z.toNat]?=some j->(j.a∈g.bo\/kn kw j.a=true)/\(j.b∈g.bo\/kn kw j.b=true)
theorem yY{l:Li}{kind b:Int}{kw:List Bool}{bs:List Int}(hb:b∈bs)(h:0<=jointI l kind b kw){j:Jt}(hj:l.jo[(jointI l kind b kw).toNat]?=some j) :
  (j.a∈bs\/kn kw j.a=true)/\(j.b∈bs\/kn kw j.b=true):=by
 obtain⟨i,j',e,h1,_,h2⟩:=Cl h;rw[e,aqo,h1]at hj;cases hj;rcases h2 with⟨e1,e2⟩ |⟨e1,e2⟩
 ·exact⟨.inl (e1▸hb),.inr e2⟩
 ·exact⟨.inr e2,.inl (e1▸hb)⟩
theorem ac0{l:Li}(hl:aG l=0){kw:List Bool}{g:Gr}(h:nextG l kw=some g):Nxt l kw g:=by
 unfold nextG at h;cases h1:driverG l kw with
 |some g' =>
  rw[h1]at h;cases h;unfold driverG at h1;rw[apt]at h1;obtain⟨i,hi,rfl⟩:=h1;obtain⟨h1,h2⟩:=ip hi;unfold drHit at h2;simp only[aow,apw,aq8,ao0]at h2;refine⟨Dv h2.1,fun z hz j hj=>?_⟩;rw[am8.1 hz]at hj;exact yY (by simp) h2.2 hj
 |none =>
  rw[h1]at h;cases h2:pairG l kw with
  |some g' =>
   rw[h2]at h;cases h;have hf:=Nc h2;unfold pairG at h2;rw[apt]at h2;obtain⟨i,hi,h3⟩:=h2;obtain⟨_,h4⟩:=ip hi;split at h3
   ·rename_i k hk;subst h3;unfold prAt at hk;rw [apt] at hk;obtain ⟨k',hk',rfl⟩:=hk;obtain ⟨h5,h6⟩:=ip hk';rw [show i + 1 + k' = k' + (i + 1) by omega] at h6;unfold prHit at h6;simp only [aow,apw,aq8] at h6;obtain ⟨_,⟨j1,j2⟩,j3⟩:=h6;refine ⟨fun x hx=>wH (hf x hx),fun z hz j hj=>?_⟩;simp only [prG,aqf,aqg,or_false] at hz;rcases hz with rfl | rfl | rfl
    ·exact yY (by simp[prG]) j1 hj
    ·exact yY (by simp[prG]) j2 hj
    ·obtain⟨n,a2,e,tq,nk,ht⟩:=Cl j3;rw[e,aqo,tq]at hj;cases hj;obtain⟨i1,i2,_⟩:=ee hl tq;have i1:=(d5 i1).1;have i2:=(d5 i2).1;rcases ht with⟨e1,e2⟩ |⟨e1,e2⟩
     ·rw[uk i2 oz oz]at e2;have e2:=aq9 e2;exact⟨.inl (by simp[prG,e1]),.inl (by simp[prG,e2])⟩
     ·rw[uk i1 oz oz]at e2;have e2:=aq9 e2;exact⟨.inl (by simp[prG,e2]),.inl (by simp[prG,e1])⟩
   ·rename_i hk;rw[hk]at h4;cases h4
  |none =>
   rw[h2]at h;have hf:=Md (show singleG l kw=some g from h);have h3:singleG l kw=some g:=h;unfold singleG at h3;rw[apt]at h3;obtain⟨i,hi,rfl⟩:=h3;obtain⟨_,h4⟩:=ip hi;unfold sgHit at h4;simp only[aow,apw,aq8]at h4;obtain⟨_,j1,j2⟩:=h4;refine⟨fun x hx=>wH (hf x hx),fun z hz j hj=>?_⟩;simp only[sgG,aqf,aqg,or_false]at hz;rcases hz with rfl |rfl
   ·exact yY (by simp[sgG]) j1 hj
   ·exact yY (by simp[sgG]) j2 hj
def Ft(l:Li):List Bool->List Gr->Prop
  |_,[]=>True
  |kw,g::gs=>Nxt l kw g/\Ft l (bQ kw g.bo) gs
theorem JO{l:Li}(hl:aG l=0):∀(n:Nat)(kw:List Bool)(out:List Gr),∃gs,(findFrom l n kw out).2=out++gs/\Ft l kw gs
 |0,kw,out=>⟨[],(append_nil _).symm,trivial⟩
 |n+1,kw,out=>by
  unfold findFrom;cases hg:nextG l kw with
  |none=>exact⟨[],(append_nil _).symm,trivial⟩
  |some g =>
   obtain⟨gs,e,h⟩:=JO hl n (bQ kw g.bo) (out++[g]);refine⟨g::gs,?_,ac0 hl hg,h⟩;show(findFrom l n (bQ kw g.bo) (out++[g])).2=_;rw[e,aqt];rfl
def ja(l:Li)(gs:List Gr)(m:Nat):List Bool:=(gs.take m).foldl (fun k g=>bQ k g.bo) (dw l.bo.length 0)
theorem Py{l:Li}:∀(gs:List Gr)(kw:List Bool),Ft l kw gs->∀(m:Nat)(g:Gr),gs[m]?=some g->Nxt l ((gs.take m).foldl (fun k g=>bQ k g.bo) kw) g
 |[],kw,h,m,g,hg=>by simp at hg
 |g0::gs,kw,h,0,g,hg=>by
  rw[List.getElem?_cons_zero]at hg;cases hg;exact h.1
 |g0::gs,kw,h,m+1,g,hg=>by
  rw[List.getElem?_cons_succ]at hg;exact Py gs _ h.2 m g hg
theorem aba(l:Li)(gs:List Gr)(m:Nat):(ja l gs m).length=l.bo.length:=by
 have:∀(gs:List Gr)(k:List Bool),(gs.foldl (fun k g=>bQ k g.bo) k).length=k.length:=by
  intro gs
  induction gs with
  |nil=>intro k;rfl
  |cons g gs ih=>intro k;rw[aq5,ih,mI]
 unfold ja;rw[this,kN]
theorem ahs{l:Li}{gs:List Gr}{m:Nat}{g:Gr}(hg:gs[m]?=some g):ja l gs (m+1)=bQ (ja l gs m) g.bo:=by
 unfold ja;rw[List.take_add_one,hg,List.foldl_append];rfl
theorem x9{l:Li}{gs:List Gr}{m:Nat}{g:Gr}(hg:gs[m]?=some g)(ok:GrOk l g){b:Int}(h0:0<=b):kn (ja l gs (m+1)) b=(g.bo.any (fun x=>decide (x=b))||kn (ja l gs m) b):=by
 rw[ahs hg,Hl h0 (fun x hx=>by rw[aba];exact ok.b x hx)]
theorem Dj{l:Li}(hl:aG l=0)(hs:splitE l=0){m:Nat}{g:Gr}(hg:(splitG l)[m]?=some g):Nxt l (ja l (splitG l) m) g:=by
 obtain⟨gs,e,h⟩:=JO hl l.bo.length (dw l.bo.length 0) []
 have e2:splitG l=gs:=by
  unfold splitG findG;rw[aq7 hs,e];rfl
 rw[e2]at hg ⊢;exact Py gs _ h m g hg
theorem Rj:∀(zs:List (Int×Pq))(bs:List Pq)(b:Int),(∀z∈zs,0<=z.1/\z.1≠b)->0<=b->(zs.foldl (fun k x=>k.set x.1.toNat x.2) bs).getD b.toNat bg=bs.getD b.toNat bg
 |[],bs,b,h,h0=>rfl
 |z::zs,bs,b,h,h0=>by
  rw[aq5,Rj zs _ b (fun y hy=>h y (aqq _ hy)) h0];obtain⟨h1,h2⟩:=h z aqr;exact nZ h1 h0 (Ne.symm h2)
theorem NK{bs:List Pq}{is:List Int}{ps:List Pq}{b:Int}(h:∀x∈is,0<=x)(hb:b∉is)(h0:0<=b):(ba bs is ps).getD b.toNat bg=bs.getD b.toNat bg :=
 Rj _ _ b (fun z hz=>by
  have:=(List.of_mem_zip hz).1;exact⟨h _ this,fun e=>hb (e▸this)⟩) h0
structure WkH(l:Li)(xs:List Tn)(a:Aq):Prop where
  js:∀m g,m<a.ms.length->(splitG l)[m]?=some g->∀z∈g.jo,JH l a.ts a.bs (l.jo.getD z.toNat default)
  cs:∀b:Int,0<=b->kn (ja l (splitG l) a.ms.length) b=true->CH a.ts (a.bs.getD b.toNat bg)
  dr:∀m g,m<a.ms.length->(splitG l)[m]?=some g->g.kind=0->dE a.ts (a.bs.getD (aV g 0).toNat bg).c=qE (dT (cw g xs).half (cw g xs).t.q)/\dE a.ts (a.bs.getD (aV g 0).toNat bg).s=qE (dV (cw g xs).half (cw g xs).t.q)
  fr:a.bs.getD 0 bg=lh
theorem UM(T:LL):dE T []=0:=by rw[E.zero_def];exact jM _
theorem Wy(T:LL):dE T [1]=1:=oF _ 1
theorem YQ{T:LL}(hp:gY T):CH T lh:=by
 unfold CH lh;dsimp only;rw[Wy,UM,show(1:Et T)*1+0*0-1=0 by grind];exact(fZ _ _ hp).zero
theorem Tg{n:Nat}{b:Int}(h0:0<=b)(h:kn (dw n 0) b=true):b=0:=by
 unfold dw at h;rcases QE h with h |h
 ·rw[Cg]at h;cases h
 ·have:(0:Int).toNat=0:=rfl;omega
theorem Lb(l:Li)(xs:List Tn)(hb:0<l.bo.length):WkH l xs (d8 l):=by
 have e0:(d8 l).bs.getD 0 bg=lh:=qS (by rw[aqp];exact hb);refine⟨fun m g h=>ard h (al6 _),fun b h0 h=>?_,fun m g h=>ard h (al6 _),e0⟩;have:b=0:=Tg h0 h;subst this;show CH (d8 l).ts ((d8 l).bs.getD 0 bg);rw[e0];exact YQ OW.pos
theorem A0{n e:Nat}{a:List Rat}(h:Nm n e a):a.length<=2^n:=h.nl.le
theorem Pq.ok.nq{n e:Nat}{p:Pq}(h:Pq.ok n e p):Nq n p:=⟨A0 h.c,A0 h.s,A0 h.x,A0 h.y⟩
theorem Rl{ts ts' T:LL}(e:ts=ts')(h:Lf ts T):Lf ts' T:=e▸h
section
variable{l:Li}{xs:List Tn}{s g:Nat}(W:WkC l xs s g){gr:Gr}{a:Aq}(hg:(splitG l)[a.ms.length]?=some gr)
variable{j r E:Nat}(Q:QInv l j r E a)
include W hg Q
theorem WkH.step(H:WkH l xs a){sv:Sv}(hs:sv∈fq l a.as gr (cw gr xs)):WkH l xs (a.nxt gr sv):=by
 have tw:=QInv.twl W hg Q;have hq:(Lw.llq a.as.rs)=a.ts:=a.llq;obtain⟨dy,ok⟩:=W.grp hg;have N:=Dj W.li W.sp hg
 have hN:∀p∈aQ a.as,Nq (Lw.llq a.as.rs).length p:=by
  intro p hp;rw[nH]at hp;rw[hq];exact(Q.bs p hp).nq
 have G:=agp tw hN dy (fun b hb=>by
  rw[nH];have:=ok.b b hb;have:=Q.ln;omega) W.li hs
 rw[nH]at G;have L:Lf a.ts sv.ts:=Rl hq G.1.lf;have js:=G.1.js;have cs:=G.1.cs;rw[nH]at js cs;have hN':∀i,Nq a.ts.length (a.bs.getD i bg):=fun i=>Gi (fun p hp=>(Q.bs p hp).nq) i
 have sam:∀b:Int,0<=b->b∉gr.bo->d7 a.bs (ba a.bs gr.bo sv.ps) a.ts.length b:=fun b h0 hb=>⟨NK (fun x hx=>(ok.b x hx).1) hb h0,hN' _⟩
 have old:∀b:Int,kn (ja l (splitG l) a.ms.length) b=true->b∉gr.bo:=fun b hk hb=>by
  rw[N.b b hb]at hk;cases hk
 have eL:(a.nxt gr sv).ms.length=a.ms.length+1:=by show(a.ms++[sv.mode]).length=_;simp
 have mono:∀(k m:Nat),m+k<=a.ms.length->∀b:Int,0<=b->kn (ja l (splitG l) m) b=true->kn (ja l (splitG l) (m+k)) b=true:=by
  intro k
  induction k with
  |zero=>intro m _ b _ h;exact h
  |succ k ih =>
   intro m hm b h0 h;have h1:=ih m oz b h0 h;have hlt:m+k<(splitG l).length:=by have:=(anz.1 hg).1;omega
   obtain⟨g2,cZ⟩:=ay hlt;rw[show m+(k+1)=(m+k)+1 by omega,x9 cZ (W.grp cZ).2 h0,h1];simp
 have jn:∀{z:Int}{jt:Jt},l.jo[z.toNat]?=some jt->0<=jt.a/\0<=jt.b:=fun hj=>by
  obtain⟨i1,i2,_⟩:=ee W.li hj;have i1:=d5 i1;have i2:=d5 i2;omega
 have dA:∀m g2,m<a.ms.length->(splitG l)[m]?=some g2->∀b:Int,0<=b->(b∈g2.bo\/kn (ja l (splitG l) m) b=true)->b∉gr.bo:=by
  intro m g2 hm cZ b h0 hb;refine old b ?_
  have h1:kn (ja l (splitG l) (m+1)) b=true:=by
   rw[x9 cZ (W.grp cZ).2 h0];rcases hb with hb |hb
   ·have : g2.bo.any (fun x => decide (x = b)) = true := by rw [am7]; exact ⟨b, hb, by simp⟩
    rw[this];rfl
   ·rw[hb];simp
  have:=mono (a.ms.length-(m+1)) (m+1) oz b h0 h1
  rwa [show m+1+(a.ms.length-(m+1))=a.ms.length by omega]at this
 refine⟨?_,?_,?_,?_⟩
 ·intro m g2 hm cZ z hz;rw[eL]at hm;show JH l sv.ts (ba a.bs gr.bo sv.ps) _
  by_cases e:m=a.ms.length
  ·subst e;rw[hg]at cZ;cases cZ;exact js z hz
  ·obtain⟨jt,hj⟩ := ay (l := l.jo) (i := z.toNat) (by have := (W.grp cZ).2.j z hz;omega);have xm:l.jo[z.toNat]?=some jt:=hj;have H1:=H.js m g2 oz cZ z hz;rw[ax hj]at H1 ⊢;have N2:=Dj W.li W.sp cZ;obtain⟨na,nb⟩:=N2.j z hz jt hj;obtain⟨a0,b0⟩:=jn xm;exact L.jh (sam _ a0 (dA m g2 oz cZ _ a0 na)) (sam _ b0 (dA m g2 oz cZ _ b0 nb)) H1
 ·intro b h0 hk;rw[eL,x9 hg ok h0]at hk;show CH sv.ts ((ba a.bs gr.bo sv.ps).getD b.toNat bg)
  by_cases hb:b∈gr.bo
  ·exact cs b hb
  ·have:gr.bo.any (fun x=>decide (x=b))=false:=by
    cases h:gr.bo.any (fun x=>decide (x=b))with
    |false=>rfl
    |true =>
     rw[am7]at h;obtain⟨x,hx,e⟩:=h;exact ard ((aq9 e)▸hx) hb
   rw[this,Bool.false_or]at hk;have S:=sam b h0 hb;rw[S.1];exact L.ch S.2 (H.cs b h0 hk)
 ·intro m g2 hm cZ hk;rw[eL]at hm;show dE sv.ts ((ba a.bs gr.bo sv.ps).getD (aV g2 0).toNat bg).c=_/\dE sv.ts ((ba a.bs gr.bo sv.ps).getD (aV g2 0).toNat bg).s=_
  by_cases e:m=a.ms.length
  ·subst e;rw[hg]at cZ;cases cZ;exact G.2 hk
  ·obtain⟨h1,h2⟩:=H.dr m g2 oz cZ hk
   have hb:aV g2 0∈g2.bo:=by
    have:=(W.grp cZ).1;cases this with
    |drv=>exact aqr
    |rrr=>exact ard hk (by simp)
    |pr=>exact ard hk (by simp)
    |rp=>exact ard hk (by simp)
   have h0:=((W.grp cZ).2.b _ hb).1;have S:=sam _ h0 (dA m g2 oz cZ _ h0 (.inl hb));obtain⟨n1,n2,_⟩:=S.2;rw[S.1,<- L.low _ n1,<- L.low _ n2,h1,h2,L.q,L.q];exact⟨rfl,rfl⟩
 ·show(ba a.bs gr.bo sv.ps).getD (0:Int).toNat bg=lh
  have h0:(0:Int)∉gr.bo:=by
   refine old 0 ?_
   have hs:=mono a.ms.length 0 oz 0 oz (by
    show kn (dw l.bo.length 0) 0=true;rw[uk oz oz (by have:=(dK W.li).2.2.2;omega)];rfl)
   rwa [ams]at hs
  rw[(sam 0 oz h0).1];exact H.fr
end
end Go.Lw
namespace Go.Lw
theorem JV{F:Int->Bool}{sg:Bool}{f:Sv->List Aq×Nat}{b:Aq}:∀{S:List Sv},b∈(gw F sg f S).1->∃s∈S,b∈(f s).1:=by
 intro S h;obtain⟨s,hs,_,h2⟩:=EM h;exact⟨s,hs,h2⟩
theorem Ic{l:Li}{xs:List Tn}{s g:Nat}(W:WkC l xs s g){F:Nat->Int->Bool}{sg:Bool}:∀(n:Nat)(a:Aq),WkSt l s g n a->WkH l xs a->∀b∈(fP F sg l xs (splitG l) n a).1,WkSt l s g 0 b/\WkH l xs b
 |0,a,h,H,b,hb=>by rw[am8.1 hb];exact⟨h,H⟩
 |n+1,a,h,H,b,hb=>by
  obtain⟨gr,hg,_,hP,hn⟩:=h.next W;obtain⟨⟨j,r,E,y,Q,ok,hc⟩,hl⟩:=h;unfold fP at hb;rw[ax hg]at hb;split at hb
  ·cases hb
  ·obtain⟨sv,gQ,h2⟩:=JV hb;exact Ic W n _ (hn sv gQ) (WkH.step W hg Q H gQ) b h2
structure AqFin(l:Li)(xs:List Tn)(a:Aq):Prop where
  li:aG l=0
  lx:xs.length=l.dv.length
  xo:∀x∈xs,x.err=0/\Qb 1000 x.t.q/\x.t.ok
  tw:∃r,r<=400000000/\Tw a.ts r
  two:a.ts.length<=2
  bs:∀p∈a.bs,Pq.ok a.ts.length 3200000000 p
  ln:a.bs.length=l.bo.length
  lm:a.ms.length<=100
  js:∀j∈l.jo,JH l a.ts a.bs j
  cs:∀i,i<l.bo.length->CH a.ts (a.bs.getD i bg)
  dr:∀i d,l.dv[i]?=some d->dE a.ts (a.bs.getD d.body.toNat bg).c=qE (dT (xs.getD i dY).half (xs.getD i dY).t.q)/\dE a.ts (a.bs.getD d.body.toNat bg).s=qE (dV (xs.getD i dY).half (xs.getD i dY).t.q)
  fr:a.bs.getD 0 bg=lh
theorem MP{f:Gr->List Int}:∀(gs:List Gr)(k:List Bool)(b:Int),kn (gs.foldl (fun k g=>bQ k (f g)) k) b=true->kn k b=true\/∃g∈gs,∃x∈f g,x.toNat=b.toNat
 |[],k,b,h=>.inl h
 |g::gs,k,b,h=>by
  rw[aq5]at h;rcases MP gs _ b h with h |⟨g',hg,x,hx,e⟩
  ·rcases GL _ h with h |⟨x,hx,e⟩
   ·exact .inl h
   ·exact .inr ⟨g,aqr,x,hx,e⟩
  ·exact .inr ⟨g',aqq _ hg,x,hx,e⟩
theorem MV{k:List Bool}(h:(gN k).length=0){i:Nat}(hi:i<k.length):kn k (i:Int)=true:=by
 rw[Bx]at h;unfold kn;rw[apq,aps (by omega:(i:Int).toNat<k.length)];show k[(i:Int).toNat]=true;cases hv:k[(i:Int).toNat]'oz with
 |true=>rfl
 |false =>
  exfalso;have hm:false∈k:=hv▸anm _;rw[<- an8]at hm;rw[hm]at h;cases h
theorem Fa(f:Gr->List Int):∀(gs:List Gr)(k:List Bool),(gs.foldl (fun k g=>bQ k (f g)) k).length=k.length
 |[],k=>rfl
 |g::gs,k=>by rw[aq5,Fa f gs,mI]
theorem afr{l:Li}(hs:splitE l=0):(gN (cD l)).length=0/\(gN (fM l)).length=0/\splitG l=findG l:=by
 have h9:(gN (cD l)).length+(gN (fM l)).length=0:=by
  unfold splitE at hs;split at hs
  ·assumption
  ·cases hs
 exact⟨by omega,by omega,by unfold splitG;rw[aq7 hs]⟩
theorem Ri{l:Li}{xs:List Tn}{s g:Nat}(W:WkC l xs s g){a:Aq}(h:WkSt l s g 0 a)(H:WkH l xs a):AqFin l xs a:=by
 obtain⟨⟨j,r,E,y,Q,ok,_⟩,hl⟩:=h;obtain⟨hE,hr,hj⟩:=QC ok;obtain⟨r1,r2,r3⟩:=afr W.sp;have h1:=Q.lv;have h4:=xU W.li;refine⟨W.li,W.ln,fun x hx=>⟨(W.ok x hx).2.1,(W.ok x hx).2.2.1,(W.ok x hx).1⟩,⟨r,hr,Q.tw⟩,by omega,fun p hp=>(Q.bs p hp).up (apu _) Q.tw.five hE,Q.ln,by omega,?_,?_,?_,H.fr⟩
 ·intro jt pi;obtain ⟨i,hi⟩:=aqx pi;have dO:=(anz.1 hi).1;have bV:(fM l).length = l.jo.length:=by unfold fM; rw [Fa Gr.jo,aqp]
  have hk:=MV r2 (i:=i) oz;unfold fM at hk;rcases MP (f:=Gr.jo) _ _ _ hk with h9 |⟨gr,hg,z,hz,e⟩
  ·rw[Cg]at h9;cases h9
  ·rw[<- r3]at hg;obtain⟨m,hm⟩:=aqx hg;have eL:=(anz.1 hm).1;have hJ:=H.js m gr oz hm z hz;rw[e,aqo,ax hi]at hJ;exact hJ
 ·intro i hi;have bV:(cD l).length = l.bo.length:=by unfold cD; rw [Fa Gr.bo,kN]
  have hk:=MV r1 (i:=i) oz
  have e:cD l=ja l (splitG l) a.ms.length:=by
   unfold ja cD;rw[r3]at hl ⊢;rw[aqa oz]
  rw[e]at hk;have:=H.cs i oz hk
  rwa [aqo]at this
 ·intro i d hd;obtain ⟨gr,hg,hk,hb⟩:=MY W.li W.sp d (apo hd);obtain ⟨m,hm⟩:=aqx hg;have eL:=(anz.1 hm).1;have hD:=H.dr m gr oz hm hk;have eb:aV gr 0 = d.body:=by unfold aV; rw [hb]; rfl
  have Jl:=(W.grp hm).1
  have ed:gr.driver=(i:Int):=by
   cases Jl with
   | @drv b z dd jt x t d0 dP D5 =>
    have e2:x.body=d.body:=D5.trans (by simpa using hb);rcases Nat.lt_trichotomy dd.toNat i with h9 |h9 |h9
    ·exact ard e2 ((Dw W.li hd).2 _ x h9 dP)
    ·show dd=(i:Int);omega
    ·exact ard e2.symm ((Dw W.li dP).2 _ d h9 hd)
   |rrr=>exact ard hk (by simp)
   |pr=>exact ard hk (by simp)
   |rp=>exact ard hk (by simp)
  have et:cw gr xs=xs.getD i dY:=by unfold cw;rw[aq7 hk,ed,aqo]
  rw[eb,et]at hD;exact hD
theorem V6{l:Li}(hl:l.ok){xs:List Tn}(hL:m7 l xs=true)(kz:∀x∈xs,x.t.wok){A:List Aq}{e:Nat}(h:kq l xs=(A,e)):∀a∈A,AqFin l xs a:=by
 by_cases h0:da l xs=0
 ·obtain⟨s,g,W,St⟩:=Be hL hl kz h0;have hb:=(dK W.li).2.2.2;have hw:=Ic W (F:=eJ) (sg:=false) (splitG l).length (d8 l) St (Lb l xs oz);unfold kq at h;rw[aq6 (fun h=>h h0)]at h;intro a ha;split at h
  ·cases h;cases ha
  ·have e1:(nW eJ false l xs).1=A:=are Prod.fst h;rw[<- e1]at ha;obtain⟨h1,h2⟩:=hw a ha;exact Ri W h1 h2
 ·unfold kq at h;rw[aq7 h0]at h;cases h;intro a ha;cases ha
open Lean.Grind (CommRing)
section
variable{ts T:LL}(L:Lf ts T)
include L
theorem Lf.pp{l:Li}{bs bs':List Pq}{j:Jt}{i:Int}(tie:(j.a=i/\d7 bs bs' ts.length j.b)\/(j.a≠i/\j.b=i/\d7 bs bs' ts.length j.a)) :
  aj L.pos (Lw.pinP l T bs' j i).1=aj L.pos (aB T (Lw.pinP l ts bs j i).1)/\aj L.pos (Lw.pinP l T bs' j i).2=aj L.pos (aB T (Lw.pinP l ts bs j i).2):=by
 unfold Lw.pinP;rcases tie with⟨e,hs⟩ |⟨e,e2,hs⟩
 ·rw[aq7 e,aq7 e];exact L.pt l hs j.on
 ·rw[aq6 e,aq6 e];exact L.pt l hs j.point
end
structure DetH(l:Li)(a:As)(g:Gr)(s:Sv):Prop where
  lf:Lf (llq a.rs) s.ts
  sg:ao (dB l s.ts (ba (aQ a) g.bo s.ps) g)=s.mode
  rd:aj lf.pos (vW l s.ts (ba (aQ a) g.bo s.ps) g)=aj lf.pos (aB s.ts (Hu l a g))
section
variable{l:Li}{a:As}{r:Nat}(tw:Tw (llq a.rs) r)(hN:∀p∈aQ a,Nq (llq a.rs).length p)
include tw hN
theorem aeb{i k z0 z1 z2:Int}{j0 j1 j2:Jt}(ne:i≠k)(t0:TieO l 0 [i,k] z0 i j0)(t1:TieO l 0 [i,k] z1 k j1)(h2:l.jo[z2.toNat]?=some j2)
  (hi:0<=i) (hk:0<=k) (dO:i.toNat<(aQ a).length) (D4:k.toNat<(aQ a).length) (hn:∀j∈l.jo,0<=j.a/\0<=j.b)
  {s:Sv} (hs:s∈jX l a i k j0 j1 j2):DetH l a ⟨1,[i,k],[z0,z1,z2],0⟩ s:=by
 have e0:aq l ⟨1,[i,k],[z0,z1,z2],0⟩ 0=j0:=ax t0.hj;have e1:aq l ⟨1,[i,k],[z0,z1,z2],0⟩ 1=j1:=ax t1.hj;have e2:aq l ⟨1,[i,k],[z0,z1,z2],0⟩ 2=j2:=ax h2;have b0:aV ⟨1,[i,k],[z0,z1,z2],0⟩ 0=i:=rfl;have b1:aV ⟨1,[i,k],[z0,z1,z2],0⟩ 1=k:=rfl;unfold jX at hs;split at hs
 ·cases hs
 ·rename_i hz;obtain⟨w1,w2⟩:=Ag (aou.2 hz);split at hs
  ·cases hs
  ·rename_i hc;have hc:=apn.1 hc;have geo:=ai3 tw hc (On tw hN w1);unfold gj at hs;obtain⟨m,hm,rfl⟩:=anx.1 hs;obtain⟨x,hx⟩:=ay (an2.1 hm);have G:=geo m x hx;unfold kO;rw[ax hx];obtain⟨n0,n1⟩:=hn j0 (apo t0.hj);obtain⟨n2,n3⟩:=hn j1 (apo t1.hj);generalize hM:d6 (aC l a j0 i) (aC l a j1 k) (qE (bI (am l j2 i) (am l j0 i))) (qE (bI (am l j2 k) (am l j1 k)))=M at *;obtain⟨B0,fT⟩:∃B0,B0=jp M.ts x ⟨am l j0 i,P2.l (aC l a j0 i),am l j2 i⟩:=⟨_,rfl⟩
   obtain⟨B1,u7⟩:∃B1,B1=jp M.ts x ⟨am l j1 k,P2.l (aC l a j1 k),am l j2 k⟩:=⟨_,rfl⟩
   have ez:ba (aQ a) [i,k] [B0,B1]=((aQ a).set i.toNat B0).set k.toNat B1:=rfl;have g0:(ba (aQ a) [i,k] [B0,B1]).getD i.toNat bg=B0:=by rw[ez,nZ hk hi ne,qS dO]
   have gn:∀b:Int,0<=b->b∉[i,k]->d7 (aQ a) (ba (aQ a) [i,k] [B0,B1]) (llq a.rs).length b:=fun b h0 hb=>uA tw hN (by
    rw[ez,nZ hk h0 (fun e=>hb (by simp[e])),nZ hi h0 (fun e=>hb (by simp[e]))])
   have q0:dk M.ts B0 (am l j2 i)=(dE M.ts x.1,dE M.ts x.2):=by
    rw[fT];refine(yD w1).trans ?_;unfold mW kE;refine Prod.ext ?_ ?_
    ·dsimp only;grind
    ·dsimp only;grind
   have L:=G.lf
   have P0:=L.pp (l:=l) (bs:=aQ a) (bs':=ba (aQ a) [i,k] [B0,B1]) (j:=j0) (i:=i) (by
    rcases t0.tie with⟨e,hb⟩ |⟨e,hb⟩
    ·exact .inl ⟨e,gn _ n1 hb⟩
    ·exact .inr ⟨fun e2=>hb (by simp[e2]),e,gn _ n0 hb⟩)
   have P1:=L.pp (l:=l) (bs:=aQ a) (bs':=ba (aQ a) [i,k] [B0,B1]) (j:=j1) (i:=k) (by
    rcases t1.tie with⟨e,hb⟩ |⟨e,hb⟩
    ·exact .inl ⟨e,gn _ n3 hb⟩
    ·exact .inr ⟨fun e2=>hb (by simp[e2]),e,gn _ n2 hb⟩)
   have hr:=FC L (l:=l) (g:=⟨1,[i,k],[z0,z1,z2],0⟩) (bs:=aQ a) (bs':=ba (aQ a) [i,k] [B0,B1]) (fun _=>by rw[e0,b0];exact P0) (fun _=>by rw[e1,b1];exact P1) (fun h=>ard h (by simp)) (fun _ h=>ard rfl h)
   have hd:=G.ex (dB l M.ts (ba (aQ a) [i,k] [B0,B1]) ⟨1,[i,k],[z0,z1,z2],0⟩) (by
    rw[V2 rfl,e0,e1,e2,b0,b1,g0,q0];unfold j8 crsE aT;dsimp only;rw[cz,co,co,cz,cz,cz,cz,P0.1,P0.2,P1.1,P1.2,<- qM,<- qM])
   rw[fT,u7]at hr hd;exact⟨L,hd,by rw[En];exact hr⟩
theorem Zr{i z0 z1:Int}{j0 j:Jt}(t0:TieO l 0 [i] z0 i j0)(t1:TieO l 1 [i] z1 i j)(ha:j.a=i)(hi:0<=i)(dO:i.toNat<(aQ a).length)(hn:∀j∈l.jo,0<=j.a/\0<=j.b)
  {s:Sv} (hs:s∈j5 l a i j0 j):DetH l a ⟨2,[i],[z0,z1],0⟩ s:=by
 have e0:aq l ⟨2,[i],[z0,z1],0⟩ 0=j0:=ax t0.hj;have e1:aq l ⟨2,[i],[z0,z1],0⟩ 1=j:=ax t1.hj;have b0:aV ⟨2,[i],[z0,z1],0⟩ 0=i:=rfl;unfold j5 at hs;split at hs
 ·cases hs
 ·rename_i hz;have w1:=yx (aou.2 hz);split at hs
  ·cases hs
  ·rename_i hc;have hc:=apn.1 hc;have geo:=ac3 tw (c:=aC l a j0 i) (z:=qE (bI (aX l i j.point) (am l j0 i))) hc;unfold gj at hs;obtain⟨m,hm,rfl⟩:=anx.1 hs;obtain⟨x,hx⟩:=ay (an2.1 hm);have G:=geo m x hx;have L:=G.lf;unfold kO;rw[ax hx];obtain⟨n0,n1⟩:=hn j0 (apo t0.hj);obtain⟨n2,n3⟩:=hn j (apo t1.hj);generalize hM:eg (bi l a j.b j.on) (bi l a j.b j.to) (aC l a j0 i) (qE (bI (aX l i j.point) (am l j0 i)))=M at *;obtain⟨B0,fT⟩:∃B0,B0=jp M.ts x ⟨am l j0 i,P2.l (aC l a j0 i),aX l i j.point⟩:=⟨_,rfl⟩
   have ez:ba (aQ a) [i] [B0]=(aQ a).set i.toNat B0:=rfl;have g0:(ba (aQ a) [i] [B0]).getD i.toNat bg=B0:=by rw[ez,qS dO]
   have gn:∀b:Int,0<=b->b∉[i]->d7 (aQ a) (ba (aQ a) [i] [B0]) (llq a.rs).length b:=fun b h0 hb=>uA tw hN (by
    rw[ez,nZ hi h0 (fun e=>hb (by simp[e]))])
   have q0:dk M.ts B0 (aX l i j.point)=(dE M.ts x.1,dE M.ts x.2):=by
    rw[fT];refine(yD w1).trans ?_;unfold mW kE;refine Prod.ext ?_ ?_
    ·dsimp only;grind
    ·dsimp only;grind
   have xq:d7 (aQ a) (ba (aQ a) [i] [B0]) (llq a.rs).length j.b:=by
    rcases t1.tie with⟨e,hb⟩ |⟨e,hb⟩
    ·exact gn _ n3 hb
    ·exact ard (by simp[ha]) hb
   have P0:=L.pp (l:=l) (bs:=aQ a) (bs':=ba (aQ a) [i] [B0]) (j:=j0) (i:=i) (by
    rcases t0.tie with⟨e,hb⟩ |⟨e,hb⟩
    ·exact .inl ⟨e,gn _ n1 hb⟩
    ·exact .inr ⟨fun e2=>hb (by simp[e2]),e,gn _ n0 hb⟩)
   have on:=L.pt l xq j.on;have to:=L.pt l xq j.to;have hr:=FC L (l:=l) (g:=⟨2,[i],[z0,z1],0⟩) (bs:=aQ a) (bs':=ba (aQ a) [i] [B0]) (fun _=>by rw[e0,b0];exact P0) (fun h=>ard h (by simp)) (fun _ pt=>by rw[e1];exact L.pt l xq pt) (fun _ _ h=>ard rfl h)
   have hd:=G.ex (dB l M.ts (ba (aQ a) [i] [B0]) ⟨2,[i],[z0,z1],0⟩) (by
    rw[Zc rfl,e0,e1,b0,g0,q0];unfold cJ dotE aT;dsimp only;rw[jG,co,co,cz,cz,cz,cz,P0.1,P0.2,on.1,on.2,to.1,to.2,<- qM,<- kC,<- kC])
   rw[fT]at hr hd;exact⟨L,hd,by rw[En];exact hr⟩
theorem Gc{i z0 z1:Int}{j0 j:Jt}(t0:TieO l 0 [i] z0 i j0)(t1:TieO l 1 [i] z1 i j)(ha:j.a≠i)(hi:0<=i)(dO:i.toNat<(aQ a).length)(hn:∀j∈l.jo,0<=j.a/\0<=j.b)(hv:cr (cK l i j) (cK l i j)≠0)
  (hd:ao (cO l a i j0 j)≠0) {T:LL} (L:Lf (llq a.rs) T) {q:List Rat} {n:Int} (hm:ao (dE T q)=n) :
  DetH l a ⟨3,[i],[z0,z1],0⟩ ⟨T,[pO T (eT l a i j0 j) q],n⟩:=by
 have a0:aq l ⟨3,[i],[z0,z1],0⟩ 0=j0:=ax t0.hj;have a1:aq l ⟨3,[i],[z0,z1],0⟩ 1=j:=ax t1.hj;have b0:aV ⟨3,[i],[z0,z1],0⟩ 0=i:=rfl;obtain⟨n0,n1⟩:=hn j0 (apo t0.hj);obtain⟨n2,n3⟩:=hn j (apo t1.hj)
 obtain⟨tb,tn⟩:j.b=i/\j.a∉[i]:=by
  rcases t1.tie with⟨e,hb⟩ |h
  ·exact ard e ha
  ·exact h
 obtain⟨w,hw⟩:∃w:P2 T,w=mL T q (eT l a i j0 j).h (eT l a i j0 j).d (eT l a i j0 j).w:=⟨_,rfl⟩
 obtain⟨o,ho⟩:∃o:P2 T,o=(aB T (aC l a j0 i).1,aB T (aC l a j0 i).2):=⟨_,rfl⟩
 obtain⟨B0,fT⟩:∃B0,B0=gM (cK l i j) w (am l j0 i) o:=⟨_,rfl⟩
 have e0:pO T (eT l a i j0 j) q=B0:=by rw[fT,hw,ho];rfl
 rw[e0];have ez:ba (aQ a) [i] [B0]=(aQ a).set i.toNat B0:=rfl;have g0:(ba (aQ a) [i] [B0]).getD i.toNat bg=B0:=by rw[ez,qS dO]
 have gn:∀b:Int,0<=b->b∉[i]->d7 (aQ a) (ba (aQ a) [i] [B0]) (llq a.rs).length b:=fun b h0 hb=>uA tw hN (by
  rw[ez,nZ hi h0 (fun e=>hb (by simp[e]))])
 have hD:aj L.pos (aB T (cO l a i j0 j))=aj L.pos (aB T (cm l a i j0 j).1)*aj L.pos (aB T (cm l a i j0 j).1)+aj L.pos (aB T (cm l a i j0 j).2)*aj L.pos (aB T (cm l a i j0 j).2):=by
  rw[<- L.mul,<- L.mul,<- L.add];rfl
 have hI:aj L.pos (iE (aB T (cO l a i j0 j)))*aj L.pos (aB T (cO l a i j0 j))=1:=Dk L.pos (fun e=>hd ((L.zero _).1 e));have eh:dE T (eT l a i j0 j).h=qE (cH l i j0 j):=kl _ _;have x1:w.1=(dE T q*aB T (cm l a i j0 j).1-qE (cH l i j0 j)*-aB T (cm l a i j0 j).2)*iE (aB T (cO l a i j0 j)):=by rw[hw,<- eh];rfl
 have x2:w.2=(dE T q*aB T (cm l a i j0 j).2-qE (cH l i j0 j)*aB T (cm l a i j0 j).1)*iE (aB T (cO l a i j0 j)):=by rw[hw,<- eh];rfl
 have G:=Xy hD hI (t:=aj L.pos (dE T q)) (hh:=aj L.pos (qE (cH l i j0 j))) (w1:=aj L.pos w.1) (w2:=aj L.pos w.2) (by rw[x1,co,cz,co,co,Mu]) (by rw[x2,co,cz,co,co])
 have P0:=L.pp (l:=l) (bs:=aQ a) (bs':=ba (aQ a) [i] [B0]) (j:=j0) (i:=i) (by
  rcases t0.tie with⟨e,hb⟩ |⟨e,hb⟩
  ·exact .inl ⟨e,gn _ n1 hb⟩
  ·exact .inr ⟨fun e2=>hb (by simp[e2]),e,gn _ n0 hb⟩)
 have SS:=gn _ n2 tn;have pp:=L.pt l SS j.point;have hr:=FC L (l:=l) (g:=⟨3,[i],[z0,z1],0⟩) (bs:=aQ a) (bs':=ba (aQ a) [i] [B0]) (fun _=>by rw[a0,b0];exact P0) (fun h=>ard h (by simp)) (fun h=>ard h (by simp)) (fun _ _ _ pt=>by rw[a1];exact L.pt l SS pt)
 have W1:aj L.pos (aB T (cm l a i j0 j).1)=aj L.pos (bb l T (ba (aQ a) [i] [B0]) j.a j.point).1-aj L.pos (pinP l T (ba (aQ a) [i] [B0]) j0 i).1:=by
  rw[pp.1,P0.1,<- L.sub,<- kC,<- qM];rfl
 have W2:aj L.pos (aB T (cm l a i j0 j).2)=aj L.pos (bb l T (ba (aQ a) [i] [B0]) j.a j.point).2-aj L.pos (pinP l T (ba (aQ a) [i] [B0]) j0 i).2:=by
  rw[pp.2,P0.2,<- L.sub,<- kC,<- qM];rfl
 have eon:bb l T (ba (aQ a) [i] [B0]) j.b j.on=dk T B0 (aX l i j.on):=by unfold bb;rw[tb,g0]
 have eto:bb l T (ba (aQ a) [i] [B0]) j.b j.to=dk T B0 (aX l i j.to):=by unfold bb;rw[tb,g0]
 have gg:=GU (w:=w) hv;have v1:(qE (cK l i j).1:Et T)=qE ((aX l i j.to).1-(am l j0 i).1)-qE ((aX l i j.on).1-(am l j0 i).1):=by rw[<- qL];congr 1;show(aX l i j.to).1-(aX l i j.on).1=_;grind
 have v2:(qE (cK l i j).2:Et T)=qE ((aX l i j.to).2-(am l j0 i).2)-qE ((aX l i j.on).2-(am l j0 i).2):=by rw[<- qL];congr 1;show(aX l i j.to).2-(aX l i j.on).2=_;grind
 have d1:(dk T B0 (aX l i j.to)).1-(dk T B0 (aX l i j.on)).1=w.1:=by
  rw[fT,sG,sG];dsimp only;have g1:=gg.1;rw[v1,v2]at g1;rw[<- g1];generalize dM (cK l i j) w=C;generalize dz (cK l i j) w=S;clear g1;grind
 have d2:(dk T B0 (aX l i j.to)).2-(dk T B0 (aX l i j.on)).2=w.2:=by
  rw[fT,sG,sG];dsimp only;have g1:=gg.2;rw[v1,v2]at g1;rw[<- g1];generalize dM (cK l i j) w=C;generalize dz (cK l i j) w=S;clear g1;grind
 have ni:aj L.pos (dB l T (ba (aQ a) [i] [B0]) ⟨3,[i],[z0,z1],0⟩)=aj L.pos (dE T q):=by
  rw[Vb rfl,a0,a1,b0,eon,eto];unfold cJ dotE aT;dsimp only;rw[d1,d2,jG,co,co,cz,cz,<- W1,<- W2];exact G
 refine⟨L,?_,by rw[En];exact hr⟩;show ao (dB l T (ba (aQ a) [i] [B0]) _)=n;rw[<- hm];exact DE L.pos ni
theorem aa3{i z0 z1:Int}{j0 j:Jt}(t0:TieO l 0 [i] z0 i j0)(t1:TieO l 1 [i] z1 i j)(ha:j.a≠i)(hi:0<=i)(dO:i.toNat<(aQ a).length)(hn:∀j∈l.jo,0<=j.a/\0<=j.b)(hv:cr (cK l i j) (cK l i j)≠0)
  {s:Sv} (hs:s∈kr l a i j0 j):DetH l a ⟨3,[i],[z0,z1],0⟩ s:=by
 unfold kr at hs;split at hs
 ·cases hs
 ·rename_i h1;split at hs
  ·cases hs
  ·rename_i h2;have hd:=xI tw h2 h1;split at hs
   ·rename_i h3;have hp:=vi tw.pos h3;have L:=vT (bE l a i j0 j) hp;have s1:=H4 (Mm tw.pos h3);unfold jK at hs;obtain⟨m,hm,rfl⟩:=anx.1 hs;have hm:=an2.1 hm;unfold j4
    match m,hm with
    |0,_ =>
     exact Gc tw hN t0 t1 ha hi dO hn hv hd L s1
    |1,_ =>
     refine Gc tw hN t0 t1 ha hi dO hn hv hd L ?_;show ao (dE _ (sX (-bJ (bE l a i j0 j))))=_;rw[fU,G7 hp,s1];rfl
    |m+2,h=>exact ard h (by simp)
   ·rename_i h3;have hX:ao (bE l a i j0 j) = 0:=by omega
    have L:=r8 (ts:=llq a.rs) tw.pos;unfold jK at hs;obtain⟨m,hm,rfl⟩:=anx.1 hs;have hm:=an2.1 hm;unfold j4;have e0:(dE (llq a.rs) []:Et (llq a.rs))=0:=by rw[E.zero_def];exact jM _
    match m,hm with
    |0,_ =>
     refine Gc tw hN t0 t1 ha hi dO hn hv hd L ?_;show ao (dE _ [])=_;rw[e0];exact(fZ _ _ L.pos).zero
    |m+1,h=>exact ard h (by simp)
theorem U2{g:Gr}(hg:DyK l g)(mi:∀b∈g.bo,0<=b/\b.toNat<(aQ a).length)(au:aG l=0){x:Tn}{s:Sv}(hs:s∈fq l a g x):DetH l a g s:=by
 have hn:∀j∈l.jo,0<=j.a/\0<=j.b:=fun j hj=>by
  obtain⟨n,hn⟩:=aqx hj;obtain⟨i1,i2,_⟩:=ee au hn;have i1:=d5 i1;have i2:=d5 i2;omega
 cases hg with
 | @drv b z d j dr t d0 hd hb =>
  have e:aq l ⟨0,[b],[z],d⟩ 0=j:=ax t.hj;have hs:s∈lC l a b j x:=by rw[<- e];exact hs
  unfold lC at hs;split at hs
  ·cases hs
  ·rw[am8.1 hs];have L:=r8 (ts:=llq a.rs) tw.pos;have q1:(qE 1:Et (llq a.rs))=1:=rfl;refine⟨L,?_,?_⟩
   ·show ao (qE 1:Et (llq a.rs))=1;rw[q1];exact(fZ _ _ tw.pos).one
   ·show aj L.pos (qE 1:Et (llq a.rs))=aj L.pos (aB (llq a.rs) (qE 1));rw[eG]
 | @rrr i k z0 z1 z2 j0 j1 j2 ne t0 t1 h0 h2 kd tie =>
  have e0:aq l ⟨1,[i,k],[z0,z1,z2],0⟩ 0=j0:=ax t0.hj;have e1:aq l ⟨1,[i,k],[z0,z1,z2],0⟩ 1=j1:=ax t1.hj;have e2:aq l ⟨1,[i,k],[z0,z1,z2],0⟩ 2=j2:=ax h2;have hs:s∈jX l a i k j0 j1 j2:=by rw[<- e0,<- e1,<- e2];exact hs
  obtain⟨b1,b2⟩:=mi i (by simp);obtain⟨b3,b4⟩:=mi k (by simp);exact aeb tw hN ne t0 t1 h2 b1 b3 b2 b4 hn hs
 | @pr i z0 z1 j0 j1 t0 t1 ha =>
  have e0:aq l ⟨2,[i],[z0,z1],0⟩ 0=j0:=ax t0.hj;have e1:aq l ⟨2,[i],[z0,z1],0⟩ 1=j1:=ax t1.hj;have hs:s∈j5 l a i j0 j1:=by rw[<- e0,<- e1];exact hs
  obtain⟨b1,b2⟩:=mi i (by simp);exact Zr tw hN t0 t1 ha b1 b2 hn hs
 | @rp i z0 z1 j0 j1 t0 t1 ha =>
  have e0:aq l ⟨3,[i],[z0,z1],0⟩ 0=j0:=ax t0.hj;have e1:aq l ⟨3,[i],[z0,z1],0⟩ 1=j1:=ax t1.hj;have hs:s∈kr l a i j0 j1:=by rw[<- e0,<- e1];exact hs
  obtain⟨b1,b2⟩:=mi i (by simp)
  have tb:j1.b=i:=by
   rcases t1.tie with⟨e,_⟩ |⟨e,_⟩
   ·exact ard e ha
   ·exact e
  exact aa3 tw hN t0 t1 ha b1 b2 hn (De au t1.hj (by rw[t1.kd];decide) tb) hs
end
def yh(l:Li)(a:Aq):Prop:=∀m g,m<a.ms.length->(splitG l)[m]?=some g->ao (dB l a.ts a.bs g)=a.ms.getD m 0
section
variable{l:Li}{xs:List Tn}{s g:Nat}(W:WkC l xs s g){gr:Gr}{a:Aq}(hg:(splitG l)[a.ms.length]?=some gr)
variable{j r E:Nat}(Q:QInv l j r E a)
include W hg Q
theorem ac6(ps:List Pq):∀m g2,m<a.ms.length->(splitG l)[m]?=some g2->∀b:Int,0<=b->(b∈g2.bo\/kn (ja l (splitG l) m) b=true)->d7 a.bs (ba a.bs gr.bo ps) a.ts.length b:=by
 obtain⟨dy,ok⟩:=W.grp hg;have N:=Dj W.li W.sp hg;have hN':∀i,Nq a.ts.length (a.bs.getD i bg):=fun i=>Gi (fun p hp=>(Q.bs p hp).nq) i
 have mono:∀(k m:Nat),m+k<=a.ms.length->∀b:Int,0<=b->kn (ja l (splitG l) m) b=true->kn (ja l (splitG l) (m+k)) b=true:=by
  intro k
  induction k with
  |zero=>intro m _ b _ h;exact h
  |succ k ih =>
   intro m hm b h0 h;have h1:=ih m oz b h0 h;have hlt:m+k<(splitG l).length:=by have:=(anz.1 hg).1;omega
   obtain⟨g2,cZ⟩:=ay hlt;rw[show m+(k+1)=(m+k)+1 by omega,x9 cZ (W.grp cZ).2 h0,h1];simp
 intro m g2 hm cZ b h0 hb
 have h1:kn (ja l (splitG l) (m+1)) b=true:=by
  rw[x9 cZ (W.grp cZ).2 h0];rcases hb with hb |hb
  ·have : g2.bo.any (fun x => decide (x = b)) = true := by rw [am7]; exact ⟨b, hb, by simp⟩
   rw[this];rfl
  ·rw[hb];simp
 have h2:=mono (a.ms.length-(m+1)) (m+1) oz b h0 h1;rw[show m+1+(a.ms.length-(m+1))=a.ms.length by omega]at h2;have bF:b∉gr.bo:=fun hb=>by rw[N.b b hb]at h2;cases h2
 exact⟨NK (fun x hx=>(ok.b x hx).1) bF h0,hN' _⟩
theorem Yo(H:yh l a){sv:Sv}(hs:sv∈fq l a.as gr (cw gr xs)):yh l (a.nxt gr sv):=by
 have tw:=QInv.twl W hg Q;have hq:(Lw.llq a.as.rs)=a.ts:=a.llq;obtain⟨dy,ok⟩:=W.grp hg
 have hN:∀p∈aQ a.as,Nq (Lw.llq a.as.rs).length p:=by
  intro p hp;rw[nH]at hp;rw[hq];exact(Q.bs p hp).nq
 have D:=U2 tw hN dy (fun b hb=>by
  rw[nH];have:=ok.b b hb;have:=Q.ln;omega) W.li hs
 have L:Lf a.ts sv.ts:=Rl hq D.lf;have io:=D.sg;rw[nH]at io;have eL:(a.nxt gr sv).ms.length=a.ms.length+1:=by show(a.ms++[sv.mode]).length=_;simp
 intro m g2 hm cZ;rw[eL]at hm;show ao (dB l sv.ts (ba a.bs gr.bo sv.ps) g2)=(a.ms++[sv.mode]).getD m 0
 by_cases e:m=a.ms.length
 ·subst e;rw[hg]at cZ;cases cZ;rw[apq,aqb (apu _),Nat.sub_self];exact io
 ·have hlt : m < a.ms.length := by omega
  have S:=ac6 W hg Q sv.ps m g2 hlt cZ;have h1:=H m g2 hlt cZ;have N2:=Dj W.li W.sp cZ;obtain⟨dy2,ok2⟩:=W.grp cZ
  have jn:∀{z:Int}{jt:Jt},z∈g2.jo->l.jo[z.toNat]?=some jt->d7 a.bs (ba a.bs gr.bo sv.ps) a.ts.length jt.a/\d7 a.bs (ba a.bs gr.bo sv.ps) a.ts.length jt.b:=fun hz hj=>by
   obtain⟨i1,i2,_⟩:=ee W.li hj;have i1:=d5 i1;have i2:=d5 i2;obtain⟨na,nb⟩:=N2.j _ hz _ hj;exact⟨S _ i1.1 na,S _ i2.1 nb⟩
  have A:(g2.kind≠0->d7 a.bs (ba a.bs gr.bo sv.ps) a.ts.length (aq l g2 0).a/\d7 a.bs (ba a.bs gr.bo sv.ps) a.ts.length (aq l g2 0).b)/\(g2.kind≠0->d7 a.bs (ba a.bs gr.bo sv.ps) a.ts.length (aq l g2 1).a/\d7 a.bs (ba a.bs gr.bo sv.ps) a.ts.length (aq l g2 1).b) /\
    (g2.kind≠0->d7 a.bs (ba a.bs gr.bo sv.ps) a.ts.length (aV g2 0)):=by
   have own:∀b∈g2.bo,d7 a.bs (ba a.bs gr.bo sv.ps) a.ts.length b:=fun b hb=>S b (ok2.b b hb).1 (.inl hb)
   cases dy2 with
   | @drv b z d jt dr t d0 hd hb=>exact⟨fun h=>ard rfl h,fun h=>ard rfl h,fun h=>ard rfl h⟩
   | @rrr i k z0 z1 z2 j0 j1 j2 ne t0 t1 h0 h2 kd tie =>
    have e0:aq l ⟨1,[i,k],[z0,z1,z2],0⟩ 0=j0:=ax t0.hj;have e1:aq l ⟨1,[i,k],[z0,z1,z2],0⟩ 1=j1:=ax t1.hj;rw[e0,e1];exact⟨fun _=>jn (by simp) t0.hj,fun _=>jn (by simp) t1.hj,fun _=>own _ (by simp[aV])⟩
   | @pr i z0 z1 j0 j1 t0 t1 ha =>
    have e0:aq l ⟨2,[i],[z0,z1],0⟩ 0=j0:=ax t0.hj;have e1:aq l ⟨2,[i],[z0,z1],0⟩ 1=j1:=ax t1.hj;rw[e0,e1];exact⟨fun _=>jn (by simp) t0.hj,fun _=>jn (by simp) t1.hj,fun _=>own _ (by simp[aV])⟩
   | @rp i z0 z1 j0 j1 t0 t1 ha =>
    have e0:aq l ⟨3,[i],[z0,z1],0⟩ 0=j0:=ax t0.hj;have e1:aq l ⟨3,[i],[z0,z1],0⟩ 1=j1:=ax t1.hj;rw[e0,e1];exact⟨fun _=>jn (by simp) t0.hj,fun _=>jn (by simp) t1.hj,fun _=>own _ (by simp[aV])⟩
  have zd:=ahi L (l:=l) (g:=g2) A.1 A.2.1 A.2.2;rw[DE L.pos zd,L.sg,h1,apq,apq,aqc hlt]
end
theorem Pp{l:Li}{xs:List Tn}{s g:Nat}(W:WkC l xs s g){F:Nat->Int->Bool}{sg:Bool}:∀(n:Nat)(a:Aq),WkSt l s g n a->yh l a->∀b∈(fP F sg l xs (splitG l) n a).1,WkSt l s g 0 b/\yh l b
 |0,a,h,H,b,hb=>by rw[am8.1 hb];exact⟨h,H⟩
 |n+1,a,h,H,b,hb=>by
  obtain⟨gr,hg,_,hP,hn⟩:=h.next W;obtain⟨⟨j,r,E,y,Q,ok,hc⟩,hl⟩:=h;unfold fP at hb;rw[ax hg]at hb;split at hb
  ·cases hb
  ·obtain⟨sv,gQ,h2⟩:=JV hb;exact Pp W n _ (hn sv gQ) (Yo W hg Q H gQ) b h2
structure AqMd(l:Li)(a:Aq):Prop where
  sp:splitE l=0
  ml:a.ms.length=(splitG l).length
  md:yh l a
theorem adh{l:Li}(hl:l.ok){xs:List Tn}(hL:m7 l xs=true)(kz:∀x∈xs,x.t.wok){A:List Aq}{e:Nat}(h:kq l xs=(A,e)):∀a∈A,AqMd l a:=by
 by_cases h0:da l xs=0
 ·obtain⟨s,g,W,St⟩:=Be hL hl kz h0;have hw:=Pp W (F:=eJ) (sg:=false) (splitG l).length (d8 l) St (fun m g h=>ard h (al6 _));unfold kq at h;rw[aq6 (fun h=>h h0)]at h;intro a ha;split at h
  ·cases h;cases ha
  ·have e1:(nW eJ false l xs).1=A:=are Prod.fst h;rw[<- e1]at ha;obtain⟨h1,h2⟩:=hw a ha;obtain⟨_,hl⟩:=h1;exact⟨W.sp,by omega,h2⟩
 ·unfold kq at h;rw[aq7 h0]at h;cases h;intro a ha;cases ha
end Go.Lw
namespace Go.Lw
def kS(s:ByteArray)(n:Int):Bd:=⟨s,[⟨⟨#[97]⟩,rt ((0:Int):Rat),rt ((0:Int):Rat)⟩,⟨⟨#[98]⟩,rt (n:Rat),rt ((0:Int):Rat)⟩]⟩
def fb:Li:=⟨⟨#[102,111,117,114,98,97,114]⟩,[kS ⟨#[102,114,97,109,101]⟩ 4,kS ⟨#[99,114,97,110,107]⟩ 3,kS ⟨#[99,111,117,112,108,101,114]⟩ 5,kS ⟨#[114,111,99,107,101,114]⟩ 6],
  [⟨⟨#[111]⟩,0,1,0,0,0,0⟩,⟨⟨#[112]⟩,0,2,0,1,1,0⟩,⟨⟨#[113]⟩,0,3,0,0,1,0⟩,⟨⟨#[114]⟩,0,2,1,3,1,0⟩],[⟨⟨#[100]⟩,1⟩]⟩
def t0:Tn:=⟨⟨false,[],[]⟩,false⟩
theorem GW(a b:ByteArray):fB a b=(a.data.toList==b.data.toList):=by
 unfold fB;rw[Go.ByteArray.toList_eq,Go.ByteArray.toList_eq]
theorem CI:aG fb=0:=by
 have h1:jw fb=0:=by
  unfold jw iA fi km fh;simp only[GW];decide +kernel
 have h2:fR fb=0:=by
  unfold fR iA ji km;simp only[GW];decide +kernel
 have h3:iP fb=0:=by
  unfold iP iA fw km;simp only[GW];decide +kernel
 unfold aG;rw[h1,h2,h3];decide +kernel
theorem W5{s:ByteArray}(hs:s.size<=281474976710656){n:Int}(hn:-9223372036854775808<=n/\n<=9223372036854775807) :
  (kS s n).name.size<=281474976710656/\(kS s n).pts.length<=281474976710656/\∀m∈(kS s n).pts,m.name.size<=281474976710656/\m.x.wok/\m.y.wok:=by
 have h0:(rt ((0:Int):Rat)).ok:=(yj oz).ok;have h1:(rt (n:Rat)).ok:=(yj hn).ok;refine⟨hs,by show 2<=_;omega,fun m hm=>?_⟩;simp only[kS,aqf,aqg,or_false]at hm;rcases hm with rfl |rfl
 ·exact⟨by show 1<=_;omega,h0.wok,h0.wok⟩
 ·exact⟨by show 1<=_;omega,h1.wok,h0.wok⟩
theorem akg:fb.okw:=by
 refine⟨by decide,fun b hb=>?_,fun j hj=>?_,fun d hd=>?_,by decide,by decide,by decide⟩
 ·simp only[fb,aqf,aqg,or_false]at hb;rcases hb with rfl |rfl |rfl |rfl <;> exact W5 (by decide) oz
 ·simp only[fb,aqf,aqg,or_false]at hj;rcases hj with rfl |rfl |rfl |rfl <;> decide
 ·simp only[fb,aqf,aqg,or_false]at hd;rcases hd with rfl;decide
theorem zC:fb.ok:=Cv (by decide +kernel) akg
open Go.Proofs
theorem oo.ofL{l l':List AV}(h:SubL l l')(ho:l'.all AV.one=true):oo (.agg l) (.agg l') :=
 ⟨h.len,fun j x y hx hy=>⟨ap3.1 ho y (apo hy),h.get j x y hx hy⟩⟩
theorem MQ(s:ByteArray)(x y:Int)(hx:-9223372036854775808<=x/\x<=9223372036854775807)(hy:-9223372036854775808<=y/\y<=9223372036854775807):FP 262 [.v (.string s),i64 x,i64 y] (Mk.av ⟨s,rt (x:Rat),rt (y:Rat)⟩):=by
 refine ai func262 ?_;refine gc (NT x hx) ?_;refine gc (NT y hy) ?_;refine ah ?_
 first |rfl |(simp;done)
theorem DI(s:ByteArray)(n:Int)(hn:-9223372036854775808<=n/\n<=9223372036854775807):FP 137 [.v (.string s),i64 n] (kS s n).av:=by
 refine ai func137 ?_;refine gc (MQ _ 0 0 oz oz) ?_;refine gc (MQ _ n 0 hn oz) ?_;refine ah ?_
 first |rfl |(simp;done)
theorem adv:FP 51 [] fb.av:=by
 refine ai func51 ?_;refine gc (DI _ 4 oz) ?_;refine gc (DI _ 3 oz) ?_;refine gc (DI _ 5 oz) ?_;refine gc (DI _ 6 oz) ?_;refine ah ?_
 first |rfl |(simp;done)
deriving instance DecidableEq for Pq
deriving instance DecidableEq for Aq
def WP:List Aq×Nat:=nW eJ false fb [dY]
theorem aie:da fb [dY]=0:=by
 unfold da xz;rw[aq6 (by rw[CI];decide),aq6 (show ¬splitE fb≠0 by decide +kernel),aq6 (show ¬[dY].length≠fb.dv.length by decide +kernel)];decide +kernel
def aF:Aq:=⟨[],[⟨[1],[],[],[]⟩,⟨[1],[],[],[]⟩,⟨[-1],[],[3],[]⟩,⟨[-1],[],[4],[]⟩],[1,0]⟩
theorem abm:WP=([aF],0):=by decide +kernel
theorem Du:WkC fb [dY] 32 134:=by
 have z:dY.t.q=0:=by decide +kernel
 have h0:Qb 32 dY.t.q:=by rw[z];exact Qb.zero.mono oz
 refine⟨zC,CI,by decide +kernel,?_,rfl,fun x hx=>?_⟩
 ·have h : ∀ b ∈ fb.bo, ∀ m ∈ b.pts, (m.x.q.num.natAbs < 2 ^ 32 /\ m.x.q.den < 2 ^ 32) /\ (m.y.q.num.natAbs < 2 ^ 32 /\ m.y.q.den < 2 ^ 32) := by decide +kernel
  exact h
 ·rw[am8.1 hx];exact⟨E2,by decide +kernel,Qm,Cb.one (xX h0),Cb.one (xZ h0)⟩
theorem OZ:WkSt fb 32 134 (splitG fb).length (d8 fb):=by
 refine⟨⟨0,0,2,1,PM fb,Dh JT ?_ (apu _),?_⟩,ams _⟩
 ·decide +kernel
 ·decide +kernel
theorem KS:Sub (.lst 4 [.agg [.v (.bool false),nS,nS,.v (.bool false)]]) (.lst 4 [dY.av]) :=
 Sub.lst rfl (fun i x y hx hy=>by
  match i,hx,hy with
  |0,hx,hy=>cases hx;cases hy;exact .ofL (.cons (.refl _) (.cons (.nil _ _ _) (.cons (.nil _ _ _) (.cons (.refl _) .nil)))) rfl)
theorem Br{ts:LL}{r:Nat}(hr:r<=400000000)(h2:ts.length<=2):kB r ts.length<=1200000006:=by
 have h:=kR r h2;have h3:eB r 2=3*r+6:=by simp only[eB];omega
 show eB r ts.length<=_;omega
theorem sU{ts:LL}(h2:ts.length<=2):lm ts.length=200000000000:=by unfold lm;rw[aq7 h2]
section
variable{l:Li}{xs:List Tn}{a:Aq}(F:AqFin l xs a)
include F
end
theorem aj7{l:Li}{xs:List Tn}{A:List Aq}{e:Nat}(h:kq l xs=(A,e))(he:e≠0):A=[]:=by
 unfold kq at h;split at h
 ·exact(are Prod.fst h).symm
 ·split at h
  ·exact(are Prod.fst h).symm
  ·rename_i h1 h2;exact ard (are Prod.snd h) (fun h9=>h2 (by rw[h9];exact he))
theorem Y8{l:Li}{xs:List Tn}{A:List Aq}{e:Nat}(h:kq l xs=(A,e))(he:e=0):da l xs=0:=by
 unfold kq at h;split at h
 ·rename_i h1;exact ard ((are Prod.snd h).trans he) h1
 ·rename_i h1;exact apn.1 h1
structure AsmS(l:Li)(xs:List Tn)(A:List Aq)(e:Nat):Prop where
  eq:kq l xs=(A,e)
  all:FP 12 [l.av,.lst 4 (xs.map Tn.av)] (.tup [.lst 3 (A.map Aq.av),bG e])
  ln:A.length<=1000
theorem MG{l:Li}{xs:List Tn}{s g:Nat}(W:WkC l xs s g)(St:WkSt l s g (splitG l).length (d8 l))(h0:da l xs=0)(Ec:xs.length<=20):∃A e,AsmS l xs A e:=by
 have cP:=GK l W.hl xs (fun x hx=>(W.ok x hx).1) oz;have dD:=xU W.li;have eY:=(dK W.li).2.2.2;have hp:2^(splitG l).length<=256:=aqe (cV (b:=8) oz) (by decide);have hw:=Io W eJ false (fo:=151) (caps:=[]) (fun k m _=>agn k m) (splitG l).length (d8 l) St [] (by simp only[ap9];omega);have hA:=adb h0 cP oz oz (R:=nW eJ false l xs) hw;have bV:=GH W eJ false (splitG l).length (d8 l) St;refine⟨_,_,⟨?_,hA,?_⟩⟩
 ·unfold kq;rw[aq6 (fun h=>h h0)]
  by_cases hE:(nW eJ false l xs).2≠0
  ·rw[aq7 hE,aq7 hE]
  ·rw[aq6 hE,aq6 hE]
 ·split
  ·exact apx _
  ·exact aqe bV oz
theorem aac{l:Li}(hl:l.ok){xs:List Tn}(hL:m7 l xs=true)(kz:∀x∈xs,x.t.wok):∃A e,AsmS l xs A e:=by
 obtain⟨_,Ec,oE⟩:=Ew hL kz
 by_cases h0:da l xs=0
 ·obtain⟨s,g,W,St⟩:=Be hL hl kz h0;exact MG W St h0 Ec
 ·refine⟨[],da l xs,⟨?_,Uw h0 (GK l hl xs oE oz),apx _⟩⟩;unfold kq;rw[aq7 h0]
theorem Yk{p:Bool}{e:Nat}(h:cond (cond (!true) true (!p)) true (aa .neq (e:Int) 0)=false):p=true/\e=0:=by
 cases p
 ·simp at h
 ·exact⟨rfl,oh h⟩
theorem Ac{ts:LL}{r e f:Nat}(tw:Tw ts r){x:List Rat}(hx:Nm ts.length e x){v:Rat}(hv:Qb f v)(he:e+2*f+1<=lm ts.length)(hf:f<=9000) :
  FP 310 [aZ ts,nA x,qA v] (bl (iS ts (af ts.length x) (af ts.length (sh 0 (v:Rat))))):=by
 have dp:=mD ts.length;refine ai func310 ?_;refine gc (qI (hv.qs oz)) ?_;refine gc (Ij tw hx (X4 tw.five hv) oz) ?_;refine gD ?_;refine ah ?_;exact are bl (ET _)
theorem XU{ts:LL}{r e:Nat}(tw:Tw ts r){x:List Rat}(hx:Nm ts.length e x)(he:e<=lm ts.length):FP 309 [aZ ts,nA x] (bl true):=by
 have h:=XJ (ts.map (List.map rt)) r tw.tr (x.map rt) e (hx.rt he)
 have e0:bY (ts.map (List.map rt)) [x.map rt]=0:=by
  unfold bY;rw[aq6 (by rw[tw.chk];simp),apr];exact rf (fun y hy=>by rw[am8.1 hy];exact ue hx.nl)
 rw[e0,lM,gh]at h;exact h
theorem aer{ts:LL}{r:Nat}(tw:Tw ts r):FP 138 [aZ ts] (bG 0):=by
 have h:=wB (ts.map (List.map rt)) r tw.tr;rw[tw.chk,lM]at h;exact h
structure AqS(l:Li)(a:Aq):Prop where
  li:aG l=0
  tw:∃r,r<=400000000/\Tw a.ts r
  two:a.ts.length<=2
  bs:∀p∈a.bs,Pq.ok a.ts.length 3200000000 p
  ln:a.bs.length=l.bo.length
theorem AqFin.s{l:Li}{xs:List Tn}{a:Aq}(F:AqFin l xs a):AqS l a:=⟨F.li,F.tw,F.two,F.bs,F.ln⟩
theorem GC{l:Li}{a:Aq}(F:AqS l a)(hl:l.ok){body pt:Int}(h1:bR body l.bo.length=true)(h2:bR pt (dm l body).length=true) :
  Nm a.ts.length 12100000000 (sX (bb l a.ts a.bs body pt).1)/\Nm a.ts.length 12100000000 (sX (bb l a.ts a.bs body pt).2):=by
 obtain⟨n,k,bd,m,h⟩:=vY hl F.li h1 h2;obtain⟨r,hr,tw⟩:=F.tw;have hk:=Br hr F.two;obtain⟨p,hp⟩:=ay (l:=a.bs) (i:=n) (by rw[F.ln];exact(anz.1 h.gbd).1);have po:=F.bs p (apo hp);have e:body.toNat=n:=by have:=h.hn;omega
 have hb:Pq.ok a.ts.length 3200000000 ⟨lq p.pl.c,lq p.pl.s,lq p.pl.x,lq p.pl.y⟩:=by
  unfold Pq.pl;dsimp only;rw[fQ,fQ,fQ,fQ];exact po
 have hq:=LQ tw hb h.sm;unfold Pq.pl at hq;dsimp only[jl]at hq;rw[fQ,fQ,fQ,fQ]at hq;unfold bb;rw[e,ax hp];exact⟨hq.1.mono oz,hq.2.mono oz⟩
def x5(ts:LL)(p:Pq):Bool:=iS ts (ua ts (af ts.length p.c) (af ts.length p.s) (af ts.length p.c) (af ts.length p.s)) (T.ofQ ts.length 1)
def vp(ts:LL)(p:Pq):Bool:=iS ts (af ts.length p.c) (T.ofQ ts.length 1)&&iS ts (af ts.length p.s) (T.ofQ ts.length 0)&&iS ts (af ts.length p.x) (T.ofQ ts.length 0)&&iS ts (af ts.length p.y) (T.ofQ ts.length 0)
def rq(l:Li)(a:Aq)(j:Jt):Bool :=
  if j.kind=0 then decide (T.sgn (aw a.ts) a.ts.length (subT a.ts (bb l a.ts a.bs j.a j.point).1 (bb l a.ts a.bs j.b j.on).1)=0/\T.sgn (aw a.ts) a.ts.length (subT a.ts (bb l a.ts a.bs j.a j.point).2 (bb l a.ts a.bs j.b j.on).2)=0)
  else decide (T.sgn (aw a.ts) a.ts.length (zG a.ts (bb l a.ts a.bs j.b j.on).1 (bb l a.ts a.bs j.b j.on).2 (bb l a.ts a.bs j.b j.to).1 (bb l a.ts a.bs j.b j.to).2 (bb l a.ts a.bs j.a j.point).1 (bb l a.ts a.bs j.a j.point).2)=0)
theorem ad5{ts:LL}{p:Pq}(h:CH ts p):x5 ts p=true:=arb h
theorem ZH(ts:LL):vp ts lh=true:=by
 unfold vp lh;dsimp only;rw[oF,jM,T.ofQ_zero,qX,qX];rfl
theorem aj6{l:Li}{a:Aq}{j:Jt}(h:JH l a.ts a.bs j):rq l a j=true:=by
 unfold JH at h;unfold rq;split
 ·rename_i hk;rw[aq7 hk]at h;exact arb h
 ·rename_i hk;rw[aq6 hk]at h;exact arb h
def Pq.l(p:Pq):LL:=[p.c,p.s,p.x,p.y]
theorem Pq.ok.mem{n e:Nat}{p:Pq}(h:Pq.ok n e p):∀x∈p.l,Nm n e x:=by
 intro x hx;simp only[Pq.l,aqf,aqg,or_false]at hx;rcases hx with rfl |rfl |rfl |rfl
 ·exact h.c
 ·exact h.s
 ·exact h.x
 ·exact h.y
theorem VE{ts:LL}{r e:Nat}(tw:Tw ts r){p:Pq}(hp:Pq.ok ts.length e p)(he:e+1000<=lm ts.length):FP 183 [aZ ts,p.av] (bl (vp ts p)):=by
 have dp:=mD ts.length
 have h1:FP 310 [aZ ts,nA p.c,qA ((1:Int):Rat)] (bl (iS ts (af ts.length p.c) (T.ofQ ts.length 1))):=by
  have h:=Ac tw hp.c Qb.one oz oz;rw[kl]at h;exact h
 have h0:∀x:List Rat,Nm ts.length e x->FP 310 [aZ ts,nA x,.agg [.v (.bool false),nS,nS]] (bl (iS ts (af ts.length x) (T.ofQ ts.length 0))):=fun x hx=>by
  have h:=Ac tw hx Qb.zero oz oz;rw[kl]at h;exact Con.sA (.cons (.refl _) (.cons (.refl _) (.cons mV .nil))) h
 refine ai func183 ?_;refine gc (oQ 1 oz) ?_;refine gc h1 ?_;refine bT (fun _=>(h0 _ hp.s)) ?_;refine bT (fun _=>(h0 _ hp.x)) ?_;refine bT (fun _=>(h0 _ hp.y)) ?_;refine gD ?_;refine ah ?_;exact are bl (MC _ _ _ _)
theorem af6{l:Li}{a:Aq}(F:AqS l a){p:Pq}(lG:p∈a.bs):FP 182 [aZ a.ts,p.av] (bl (x5 a.ts p)):=by
 obtain⟨r,hr,tw⟩:=F.tw;have kT:=Br hr F.two;have dp:=sU F.two;have hp:=F.bs p lG;refine ai func182 ?_;refine ge rfl ?_;refine aS [2,3,18,19] [2,3] (fun(k:Nat)=>[pP 20 (i64 k)]) (fun _=>[]) (fun k=>k<=4) (fun k=>4-k) 0 (apx _) ?_;rintro k hk K1 J1;refine gC (fun z=>?_) (fun z=>?_)
 ·have bp:k<4:=a7 (b:=4) z;obtain⟨x,hx⟩:∃x,p.l[k]?=some x:=ay (l:=p.l) bp;refine gi (aA hx) ?_;refine gc (XU tw (hp.mem x (apo hx)) oz) ?_;refine gf ?_;refine ga aN ?_;exact aM J1 (k+1) bp
 have hdn:=EH tw hp.c hp.s hp.c hp.s;have xn:=xr tw hp.c hp.s hp.c hp.s oz;have heq:=Ac tw hdn Qb.one oz oz;rw[bu,kl]at heq;refine gc xn ?_;refine bT (fun _=>(oQ 1 oz)) ?_;refine bT (fun _=>heq) ?_;refine gD ?_;refine ah ?_;rfl
def Cn(ts:LL)(p:Pq)(x:Tn):Bool:=iS ts (af ts.length p.c) (af ts.length (sh 0 (dT x.half x.t.q:Rat)))&&iS ts (af ts.length p.s) (af ts.length (sh 0 (dV x.half x.t.q:Rat)))
theorem V9{ts:LL}{r e:Nat}(tw:Tw ts r){p:Pq}(hp:Pq.ok ts.length e p)(cG:e+20000<=lm ts.length){x:Tn}(hx:x.t.ok)(he:x.err=0)(hq:Qb 1000 x.t.q) :
  FP 189 [aZ ts,p.av,x.av] (bl (Cn ts p x)):=by
 have hc:=Fi x hx hq oz;rw[aq7 he,he]at hc;have hs:=Qn x hx hq oz;rw[aq7 he,he]at hs;refine ai func189 ?_;refine gc hc ?_;refine gf ?_;refine gc hs ?_;refine bT (fun _=>(Ac tw hp.c (Tm x.half hq) oz oz)) ?_;refine bT (fun _=>(Ac tw hp.s (TA x.half hq) oz oz)) ?_;refine ah ?_;exact are bl (lN _ _)
theorem Ga{l:Li}(hl:l.ok){a:Aq}(F:AqS l a){body pt:Int}(h1:bR body l.bo.length=true)(h2:bR pt (dm l body).length=true) :
  FP 311 [l.av,a.av,i64 body,i64 pt] (.tup [aR (sX (bb l a.ts a.bs body pt).1) (sX (bb l a.ts a.bs body pt).2),.v .nilIface]):=by
 obtain⟨n,k,bd,m,h⟩:=vY hl F.li h1 h2;obtain⟨r,hr,tw⟩:=F.tw;have kT:=Br hr F.two;have dp:=sU F.two;have eY:=(dK F.li).2.2.2.1;obtain⟨p,hp⟩:=ay (l:=a.bs) (i:=n) (by rw[F.ln];exact(anz.1 h.gbd).1);have po:=F.bs p (apo hp);have hn:=h.hn;have hk:=h.hk
 have e:bb l a.ts a.bs body pt=dk a.ts p (aX l body pt):=by
  unfold bb;rw[hn,aqo,ax hp]
 have nG:FP 139 [aZ a.ts,p.av,m.x.av,m.y.av] (.tup [aR (sX (bb l a.ts a.bs body pt).1) (sX (bb l a.ts a.bs body pt).2),.v .nilIface]):=by
  rw[h.ex,h.ey,e];exact FB tw po.c po.s po.x po.y (h.sm.x.mono oz) (h.sm.y.mono oz) oz
 have gb:=h.gbd;have gm:=h.gm;clear h h1 h2 e;subst hn;subst hk;refine ai func311 ?_;refine gi (aA gb) ?_;refine gi (aA gm) ?_;refine gi (aA hp) ?_;refine gc nG ?_;refine gD ?_;refine bK ?_
 first |rfl |(simp;done)
theorem agf{l:Li}(hl:l.ok){a:Aq}(F:AqS l a){i:Nat}{j:Jt}(hj:l.jo[i]?=some j):FP 186 [l.av,a.av,j.av] (bl (rq l a j)):=by
 obtain⟨r,hr,tw⟩:=F.tw;have kT:=Br hr F.two;have dp:=sU F.two;obtain⟨i1,i2,i3,i4,i5⟩:=ee F.li hj;have np:=GC F hl i1 i3;have nq:=GC F hl i2 i4;have ed:∀y:Et a.ts,af a.ts.length (sX y)=y:=fun y=>bu _ _
 refine ai func186 ?_;refine gc (Ga hl F i1 i3) ?_;refine gf ?_;refine gc (Ga hl F i2 i4) ?_;refine gf ?_;refine gC (fun z=>?_) (fun z=>?_)
 ·have hk:j.kind=0:=dL z;have ST:=V8 tw np.1 np.2 nq.1 nq.2 oz;rw[ed,ed,ed,ed]at ST;refine gc ST ?_;refine ah ?_;unfold rq;rw[aq7 hk];rfl
 have hk:j.kind≠0:=eZ z;have nr:=GC F hl i2 (i5 hk);have SU:=WI tw nq.1 nq.2 nr.1 nr.2 np.1 np.2 oz;rw[ed,ed,ed,ed,ed,ed]at SU;refine gc (Ga hl F i2 (i5 hk)) ?_;refine gf ?_;refine gc SU ?_;refine ah ?_;unfold rq;rw[aq6 hk];exact are bl (ET _)
theorem acm(bs:List Pq)(hl:bs.length<=281474976710656)(f:FuncId)(c:List AV)(ok:Nat->Bool)
  (hf:∀(i:Nat)(b:Pq),bs[i]?=some b->(∀j,j<i->ok j=true)->FP f ([i64 i,b.av]++[.iptr c]) (bl (!ok i))) :
  FP 180 [.lst 4 (bs.map Pq.av),.fn f [.iptr c]] (i64 (mF (dt bs.length ok))):=by
 refine ai func180 ?_;refine gl ?_;refine aS [1,7,8] [] (fun(i:Nat)=>[pP 9 (i64 i)]) (fun _=>[]) (fun i=>i<=bs.length/\∀j,j<i->ok j=true) (fun i=>bs.length-i) 0 ⟨apx _,fun j h=>by omega⟩ ?_;rintro i ⟨hi,hj⟩ K1 J1;refine gC (fun z=>?_) (fun z=>?_)
 ·have ae:=a7 z;obtain⟨b,hb⟩:=ay ae;refine gi (aA hb) ?_;refine gs (CS (.tmp rfl) (hf i b hb hj) (bO rfl rfl) aL rfl rfl) ?_;refine gC (fun z=>?_) (fun z=>?_)
  ·have h2:=eI z;refine ah ?_;rw[j7 ae hj h2];rfl
  have h2:=eH z;refine ga aN ?_;exact aM J1 (i+1) ⟨ae,fun j h9=>by rcases apz j i with g |g;exact hj j g;(have:j=i:=by omega);subst this;exact h2⟩
 have ae:=bj hi z;subst ae;refine ah ?_;rw[jm hj];rfl
theorem Y2(bs:List Jt)(hl:bs.length<=281474976710656)(f:FuncId)(c d:List AV)(ok:Nat->Bool)
  (hf:∀(i:Nat)(b:Jt),bs[i]?=some b->(∀j,j<i->ok j=true)->FP f ([i64 i,b.av]++[.iptr c,.iptr d]) (bl (!ok i))) :
  FP 184 [.lst 7 (bs.map Jt.av),.fn f [.iptr c,.iptr d]] (i64 (mF (dt bs.length ok))):=by
 refine ai func184 ?_;refine gl ?_;refine aS [1,7,8] [] (fun(i:Nat)=>[pP 9 (i64 i)]) (fun _=>[]) (fun i=>i<=bs.length/\∀j,j<i->ok j=true) (fun i=>bs.length-i) 0 ⟨apx _,fun j h=>by omega⟩ ?_;rintro i ⟨hi,hj⟩ K1 J1;refine gC (fun z=>?_) (fun z=>?_)
 ·have ae:=a7 z;obtain⟨b,hb⟩:=ay ae;refine gi (aA hb) ?_;refine gs (CS (.tmp rfl) (hf i b hb hj) (bO rfl rfl) aL rfl rfl) ?_;refine gC (fun z=>?_) (fun z=>?_)
  ·have h2:=eI z;refine ah ?_;rw[j7 ae hj h2];rfl
  have h2:=eH z;refine ga aN ?_;exact aM J1 (i+1) ⟨ae,fun j h9=>by rcases apz j i with g |g;exact hj j g;(have:j=i:=by omega);subst this;exact h2⟩
 have ae:=bj hi z;subst ae;refine ah ?_;rw[jm hj];rfl
theorem adl(bs:List Dr)(hl:bs.length<=281474976710656)(f:FuncId)(c d:List AV)(ok:Nat->Bool)
  (hf:∀(i:Nat)(b:Dr),bs[i]?=some b->(∀j,j<i->ok j=true)->FP f ([i64 i,b.av]++[.iptr c,.iptr d]) (bl (!ok i))) :
  FP 187 [.lst 2 (bs.map Dr.av),.fn f [.iptr c,.iptr d]] (i64 (mF (dt bs.length ok))):=by
 refine ai func187 ?_;refine gl ?_;refine aS [1,7,8] [] (fun(i:Nat)=>[pP 9 (i64 i)]) (fun _=>[]) (fun i=>i<=bs.length/\∀j,j<i->ok j=true) (fun i=>bs.length-i) 0 ⟨apx _,fun j h=>by omega⟩ ?_;rintro i ⟨hi,hj⟩ K1 J1;refine gC (fun z=>?_) (fun z=>?_)
 ·have ae:=a7 z;obtain⟨b,hb⟩:=ay ae;refine gi (aA hb) ?_;refine gs (CS (.tmp rfl) (hf i b hb hj) (bO rfl rfl) aL rfl rfl) ?_;refine gC (fun z=>?_) (fun z=>?_)
  ·have h2:=eI z;refine ah ?_;rw[j7 ae hj h2];rfl
  have h2:=eH z;refine ga aN ?_;exact aM J1 (i+1) ⟨ae,fun j h9=>by rcases apz j i with g |g;exact hj j g;(have:j=i:=by omega);subst this;exact h2⟩
 have ae:=bj hi z;subst ae;refine ah ?_;rw[jm hj];rfl
def tM(ts:LL)(i:Nat)(p:Pq):Bool:=x5 ts p&&(decide (0<i)||vp ts p)
theorem VA(ts:LL)(i:Nat)(p:Pq):cond (!x5 ts p) true (cond (aa .eql (i:Int) 0) (!vp ts p) false)=!tM ts i p:=by
 unfold tM
 have e:aa .eql (i:Int) 0=!decide (0<i):=by
  rw[ux,<- decide_not];exact decide_eq_decide.2 oz
 rw[e];cases x5 ts p <;> cases decide (0<i) <;> cases vp ts p <;> rfl
theorem aik{l:Li}{a:Aq}(F:AqS l a){i:Nat}{p:Pq}(hp:a.bs[i]?=some p):FP 181 [i64 i,p.av,.iptr a.cs] (bl (!tM a.ts i p)):=by
 obtain⟨r,hr,tw⟩:=F.tw;have dp:=sU F.two;have lG:=apo hp;refine ai func181 ?_;refine gc (af6 F lG) ?_;refine bT (fun _=>(VE tw (F.bs p lG) oz)) ?_;refine ah ?_;exact are bl (VA _ _ _)
theorem adn{l:Li}(hl:l.ok){a:Aq}(F:AqS l a){i:Nat}{j:Jt}(hj:l.jo[i]?=some j):FP 185 [i64 i,j.av,.iptr l.av.cells,.iptr a.cs] (bl (!rq l a j)):=by
 refine ai func185 ?_;refine gc (agf hl F hj) ?_;refine ah ?_;rfl
def tP(l:Li)(ys:List Tn)(a:Aq)(i:Nat):Bool:=Cn a.ts (a.bs.getD (l.dv.getD i default).body.toNat bg) (ys.getD i dY)
def mH(l:Li)(ys:List Tn)(a:Aq):Nat×Nat:=match dt a.bs.length (fun i=>tM a.ts i (a.bs.getD i bg))with
  |some i=>(2,i)
  |none=>match dt l.jo.length (fun i=>rq l a (l.jo.getD i default))with
    |some i=>(3,i)
    |none=>match dt l.dv.length (tP l ys a)with
      |none=>(0,0)
      |some i=>(4,i)
theorem Z1{l:Li}{ys:List Tn}{a:Aq}:(((mH l ys a).1:Int)==0&&((mH l ys a).2:Int)==0)=(decide ((0:Nat)=0)&&decide ((mH l ys a).1=0)):=by
 unfold mH;split
 ·rfl
 ·split
  ·rfl
  ·split <;> rfl
theorem ab7{l:Li}{a:Aq}(F:AqS l a){ys:List Tn}(hy:∀x∈ys,x.t.ok/\x.err=0/\Qb 1000 x.t.q)(tf:ys.length=l.dv.length){i:Nat}{d:Dr}(hd:l.dv[i]?=some d) :
  FP 188 [i64 i,d.av,.iptr a.cs,.iptr [.lst 4 (ys.map Tn.av)]] (bl (!tP l ys a i)):=by
 have ae:=(anz.1 hd).1;have dP:=CZ F.li;have nv:=(dK F.li).2.2.2.1;have iV:=F.ln;obtain⟨r,hr,tw⟩:=F.tw;have dp:=sU F.two;have hdb:=d5 (pW F.li hd);obtain⟨p,hp⟩:=ay (l:=a.bs) (i:=d.body.toNat) oz;obtain⟨x,hx⟩:=ay (l:=ys) (i:=i) oz;have oE:=hy x (apo hx);have ht:=V9 tw (F.bs p (apo hp)) oz oE.1 oE.2.1 oE.2.2
 have e:tP l ys a i=Cn a.ts p x:=by
  unfold tP;rw[ax hd,ax hp,ax hx]
 refine ai func188 ?_;refine gi (aA hp) ?_;refine gi (aA hx) ?_;refine gc ht ?_;refine gD ?_;refine ah ?_;rw[e];rfl
theorem aki{l:Li}(hl:l.ok){a:Aq}(F:AqS l a){ys:List Tn}(hy:∀x∈ys,x.t.ok/\x.err=0/\Qb 1000 x.t.q)(tf:ys.length=l.dv.length) :
  FP 85 [l.av,.lst 4 (ys.map Tn.av),a.av] (EC (mH l ys a)):=by
 obtain⟨r,hr,tw⟩:=F.tw;have nv:=(dK F.li).2.2.2.1;have iV:=F.ln;refine ai func85 ?_ (1,0);refine gW ((Wk.freezeB (k:=3) rfl rfl).trans<|(Wk.freezeB (k:=4) rfl rfl).trans<|(Wk.freezeB (k:=5) rfl rfl).trans<|Wk.o (sl:=[pP 3 (.iptr l.av.cells),pP 4 (.iptr [.lst 4 (ys.map Tn.av)]),pP 5 (.iptr a.cs),pP 6 (.ptr 6 0)]) (hp:=[pP 6 (.box [i64 0,i64 0])])) ?_;refine gc (aer tw) ?_;refine cA ?_;refine cA ?_;refine gC (fun z=>?_) (fun z=>?_) (st1:=(2,0));exact((ah2 z).elim (fun h=>h rfl) (fun h=>h iV)).elim;refine gc (acm a.bs oz 181 a.cs (fun i=>tM a.ts i (a.bs.getD i bg)) (fun i b hb _=>by have h:=aik F hb;rw[<- ax (d:=bg) hb]at h ⊢;exact h)) ?_;refine gC (fun z=>?_) (fun z=>?_)
 ·obtain⟨i,hi⟩:=Gy z;refine ah ?_;unfold mH;rw[hi];rfl
 have f1:=H2 z;refine gc (Y2 l.jo hl.lj 185 l.av.cells a.cs (fun i=>rq l a (l.jo.getD i default)) (fun i j hj _=>by have h:=adn hl F hj;rw[<- ax (d:=default) hj]at h ⊢;exact h)) ?_;refine gC (fun z=>?_) (fun z=>?_)
 ·obtain⟨i,hi⟩:=Gy z;refine ah ?_;unfold mH;rw[f1,hi];rfl
 have f2:=H2 z;refine gc (adl l.dv hl.ld 188 a.cs [.lst 4 (ys.map Tn.av)] (tP l ys a) (fun i d hd _=>ab7 F hy tf hd)) ?_;refine gC (fun z=>?_) (fun z=>?_)
 ·obtain⟨i,hi⟩:=Gy z;refine ah ?_;unfold mH;rw[f1,f2,hi];rfl
 have f3:=H2 z;refine ah ?_;unfold mH;rw[f1,f2,f3];rfl
theorem afw{l:Li}(hl:l.ok){a:Aq}(F:AqS l a)(ys:List Tn)(hy:∀x∈ys,x.t.ok/\Qb 1000 x.t.q)(tf:ys.length<=281474976710656) :
  FP 24 [l.av,.lst 4 (ys.map Tn.av),a.av] (.tup [bl (decide (oq l ys=0)&&decide ((mH l ys a).1=0)),EC (if oq l ys=0 then mH l ys a else(0,0)),bG (oq l ys)]):=by
 have rJ:=hl.ld;refine ai func24 ?_;refine gc (Dl l hl) ?_;refine gC (fun z=>?_) (fun z=>?_) (st1:=(3,0));exact ard F.li (ef z);have h1:=F.li;refine gl ?_;refine gl ?_;refine gC (fun z=>?_) (fun z=>?_)
 ·have h2 : ys.length ≠ l.dv.length := by have := ut z; omega
  have hb:oq l ys≠0:=by rw[O9 h1 h2];decide
  refine C4 ?_;rw[aq6 hb,arc hb,O9 h1 h2];rfl
 have h2:ys.length=l.dv.length:=by have:=Cz z;omega
 refine gl ?_;refine aS [1,3,5,7,28,29] [3,5,7] (fun(i:Nat)=>[pP 30 (i64 i)]) (fun _=>[]) (fun i=>i<=ys.length/\∀x∈ys.take i,x.err=0) (fun i=>ys.length-i) 0 ⟨apx _,fun x hx=>by simp at hx⟩ ?_;rintro i ⟨hi,hj⟩ K1 J1;refine gC (fun z=>?_) (fun z=>?_)
 ·have ae:=a7 z;obtain⟨x,lL⟩:=ay ae;refine gi (aA lL) ?_;refine gc (zI x (hy x (apo lL)).1) ?_;refine gC (fun z=>?_) (fun z=>?_)
  ·have h3:=ef z;have hb:oq l ys ≠ 0:=by rw [Ko h1 h2 lL hj h3]; exact h3
   refine C4 ?_;rw[aq6 hb,arc hb,Ko h1 h2 lL hj h3];rfl
  have h3:=dS z;refine ga aN ?_;exact aM J1 (i+1) ⟨ae,fun y hy=>by rw[dJ lL]at hy;rcases ap2.1 hy with h9 |h9;exact hj y h9;(rw[am8.1 h9];exact h3)⟩
 have ae:=bj hi z;subst ae;rw[ap5]at hj;have hb:=Pg h1 h2 hj;refine gc (aki hl F (fun x h9=>⟨(hy x h9).1,hj x h9,(hy x h9).2⟩) h2) ?_;refine gs (Yb (.tmp rfl) (.tmp rfl) (by kernel_rfl) rfl) ?_;refine gD ?_;refine C4 ?_;rw[hb,aq7 rfl,Z1];rfl
theorem fF{ts:LL}{e f:Nat}{x y:Et ts}(h1:Bz e x)(h2:Bz f y):Nm ts.length (e+f+1) (sX (x-y)):=Bz.sub h1 h2
section
variable{ts:LL}{r e f:Nat}(tw:Tw ts r){x y x2 y2:Et ts}
include tw
theorem vu(h1:Nm ts.length e (sX x))(h2:Nm ts.length e (sX y))(h3:Nm ts.length e (sX x2))(h4:Nm ts.length e (sX y2))(he:2*e<=lm ts.length) :
  FP 98 [aZ ts,aR (sX x) (sX y),aR (sX x2) (sX y2)] (.tup [aR (sX (x-x2)) (sX (y-y2)),.v .nilIface]):=by
 have h:=FV tw h1 h2 h3 h4 he;have ew:∀z:Et ts,af ts.length (sX z)=z:=fun z=>bu _ _
 rw[ew,ew,ew,ew]at h;exact h
theorem Y9(h1:Nm ts.length e (sX x))(h2:Nm ts.length e (sX y))(h3:Nm ts.length e (sX x2))(h4:Nm ts.length e (sX y2))(he:2*(e+e+kB r ts.length)<=lm ts.length) :
  FP 99 [aZ ts,aR (sX x) (sX y),aR (sX x2) (sX y2)] (.tup [nA (sX (crsE x y x2 y2)),.v .nilIface]):=by
 have h:=Gq tw h1 h2 h3 h4 he;have ew:∀z:Et ts,af ts.length (sX z)=z:=fun z=>bu _ _
 rw[ew,ew,ew,ew]at h;exact h
theorem Gh(h1:Nm ts.length e (sX x))(h2:Nm ts.length e (sX y))(h3:Nm ts.length e (sX x2))(h4:Nm ts.length e (sX y2))(he:2*(e+e+kB r ts.length)<=lm ts.length) :
  FP 102 [aZ ts,aR (sX x) (sX y),aR (sX x2) (sX y2)] (.tup [nA (sX (dotE x y x2 y2)),.v .nilIface]):=by
 have h:=xr tw h1 h2 h3 h4 he;have ew:∀z:Et ts,af ts.length (sX z)=z:=fun z=>bu _ _
 rw[ew,ew,ew,ew]at h;exact h
theorem TS(h1:Bz e x)(h2:Bz e y)(h3:Bz f x2)(h4:Bz f y2):Nm ts.length (2*(e+f+kB r ts.length)+1) (sX (crsE x y x2 y2)) :=
 ((h1.mul tw (apu _) h4).sub (h2.mul tw (apu _) h3)).mono (by show e+f+kB r ts.length+(e+f+kB r ts.length)+1<=_;omega)
theorem MD(h1:Bz e x)(h2:Bz e y)(h3:Bz f x2)(h4:Bz f y2):Nm ts.length (2*(e+f+kB r ts.length)+1) (sX (dotE x y x2 y2)) :=
 ((h1.mul tw (apu _) h3).add (h2.mul tw (apu _) h4)).mono (by show e+f+kB r ts.length+(e+f+kB r ts.length)+1<=_;omega)
end
def ug(l:Li)(a:As)(g:Gr):List Rat:=if g.kind=0 then sh 0 ((1:Int):Rat)else sX (lT l a g)
section
variable{E:Nat}{l:Li}{a:As}(D:DyW l a)(h3:(llq a.rs).length<=2)
include D h3
theorem od{body pt:Int}(h1:bR body l.bo.length=true)(h2:bR pt (dm l body).length=true)(hb:Pd E a body) :
  Nm (llq a.rs).length (3*E+2400002022) (sX (bi l a body pt).1)/\Nm (llq a.rs).length (3*E+2400002022) (sX (bi l a body pt).2):=by
 obtain⟨n,k,bd,m,b,hp⟩:=zy D.hl D.li D.al D.hc h1 h2 hb;obtain⟨tw,_⟩:=d9 D.al.tr D.hc;have kb:=tB h3;have c1:Qb 1000 m.x.q:=by rw[hp.mp.ex,bN];exact hp.mp.sm.x
 have c2:Qb 1000 m.y.q:=by rw[hp.mp.ey,bN];exact hp.mp.sm.y
 have h:=Dq tw hp.ok c1 c2;unfold bi;rw[hp.eq];exact⟨h.1.mono oz,h.2.mono oz⟩
theorem sQ{i:Nat}{j:Jt}(hj:l.jo[i]?=some j){b:Int}(h:PinP E l a j b) :
  Nm (llq a.rs).length (3*E+2400002022) (sX (aC l a j b).1)/\Nm (llq a.rs).length (3*E+2400002022) (sX (aC l a j b).2):=by
 obtain⟨i1,i2,i3,i4,_⟩:=ee D.li hj;unfold aC;rcases h.tie with⟨e,hb⟩ |⟨e,e2,hb⟩
 ·rw[aq7 e];exact od D h3 i2 i4 hb
 ·rw[aq6 e];exact od D h3 i1 i3 hb
theorem C3{b:Int}(hb:Pd E a b){q:Rat×Rat}(hq:Sm 1000 q):Nm (llq a.rs).length (3*E+2400002022) (sX (oX a b q).1)/\Nm (llq a.rs).length (3*E+2400002022) (sX (oX a b q).2):=by
 obtain⟨p,hp,hn,oC⟩:=hb;obtain⟨tw,_⟩:=d9 D.al.tr D.hc;have h5:a.rs.length<=5:=by have:=tw.five;rwa [vD]at this
 have h9:=(Ii hn oC h5).2;rw[<- vD a.rs]at h9;have kb:=tB h3;have h:=LQ tw h9 hq;unfold oX;rw[ax hp];exact⟨h.1.mono oz,h.2.mono oz⟩
theorem OT(hE:E<=3200000000){b:Int}{p:Pl}(hp:a.bs[b.toNat]?=some p)(hn:bY a.rs p.l=0)(oC:∀x∈p.l,NR x E){q:Rat×Rat}(hq:Sm 1000 q) :
  FP 139 [.agg [.lst 1 (a.rs.map nR)],p.av,qA q.1,qA q.2] (.tup [aR (sX (oX a b q).1) (sX (oX a b q).2),.v .nilIface]):=by
 obtain⟨tw,D9⟩:=d9 D.al.tr D.hc;have h5:a.rs.length<=5:=by have:=tw.five;rwa [vD]at this
 obtain⟨e1,ok⟩:=Ii hn oC h5;rw[<- vD a.rs]at ok;have kb:=tB h3;have dp:=sU h3;have h:=FB tw (ok.c.mono (f:=E+1000) oz) (ok.s.mono oz) (ok.x.mono oz) (ok.y.mono oz) (hq.x.mono (f:=E+1000) oz) (hq.y.mono (f:=E+1000) oz) oz;rw[e1,<- pI D.al.tr D.hc];unfold oX;rw[ax hp];exact h
end
theorem Yq{E:Nat}{l:Li}{a:As}(D:DyW l a)(h3:(llq a.rs).length<=2){k:Int}{n:Nat}{g:Gr}(ok:DyOk E l k a true n g):Nm (llq a.rs).length (24*E+21600016203) (ug l a g):=by
 obtain⟨tw,D9⟩:=d9 D.al.tr D.hc;have kb:=tB h3;unfold ug
 by_cases h0:g.kind=0
 ·rw[aq7 h0];exact(Nm.ofQ tw.five (Cb.int (z:=1) (e:=1) (by decide))).mono oz
 ·rw[aq6 h0]
  by_cases h1:g.kind=1
  ·obtain⟨i,k2,z0,z1,z2,j0,j1,j2,P⟩:=ok.rrr h1;obtain⟨y1,y2⟩:=sQ D h3 P.h0 P.p0;obtain⟨y3,y4⟩:=sQ D h3 P.h1 P.p1;obtain⟨y5,y6⟩:=C3 D h3 (ok.own (b:=i) (by rw[P.eq];simp)) (ki D.hl D.li P.h2 P.t1);obtain⟨e0,e1,e2,b0,b1,_⟩:=P.at;unfold lT;rw[aq6 h0,aq7 h1,e0,e1,e2,b0,b1];exact(TS tw (fF y3 y1) (fF y4 y2) (fF y5 y1) (fF y6 y2)).mono oz
  ·by_cases h2:g.kind=2
   ·obtain ⟨i, z0, z1, j0, j, P, ha, hb⟩:=ok.pr h2;obtain ⟨i1,i2,i3,i4,i5⟩:=ee D.li P.h1;have q2:Sm 1000 (aX l i j.point):=by rw [<- ha]; exact oa D.hl D.li i1 i3
    obtain⟨y1,y2⟩:=sQ D h3 P.h0 P.p0;obtain⟨y3,y4⟩:=od D h3 i2 (i5 P.hk) hb;obtain⟨y7,y8⟩:=od D h3 i2 i4 hb;obtain⟨y5,y6⟩:=C3 D h3 (ok.own (b:=i) (by rw[P.eq];simp)) q2;obtain⟨e0,e1,b0,_⟩:=P.at;unfold lT;rw[aq6 h0,aq6 h1,aq7 h2,e0,e1,b0];exact(MD tw (fF y3 y7) (fF y4 y8) (fF y5 y1) (fF y6 y2)).mono oz
   ·obtain ⟨i, z0, z1, j0, j, P, _, hj, hb⟩:=ok.rp h0 h1 h2;obtain ⟨i1,i2,i3,i4,i5⟩:=ee D.li P.h1;have kv:Pd E a j.b:=by rw [hj]; exact ok.own (b:=i) (by rw [P.eq]; simp)
    obtain⟨y1,y2⟩:=sQ D h3 P.h0 P.p0;obtain⟨y3,y4⟩:=od D h3 i1 i3 hb;obtain⟨y5,y6⟩:=od D h3 i2 i4 kv;obtain⟨y7,y8⟩:=od D h3 i2 (i5 P.hk) kv;obtain⟨e0,e1,b0,_⟩:=P.at;unfold lT;rw[aq6 h0,aq6 h1,aq6 h2,e0,e1,b0];exact(MD tw (fF y7 y5) (fF y8 y6) (fF y3 y1) (fF y4 y2)).mono oz
theorem agj{E:Nat}(hE:E<=3200000000){l:Li}{k:Int}{a:As}{n:Nat}{g:Gr}(cP:Con prog 90 [l.av,i64 k,a.av,bl true] [] (.tup [.ptr 900 0,.v .nilIface]) [pP 900 (c9 l g a)])(D:DyW l a)(h3:(llq a.rs).length<=2)(ok:DyOk E l k a true n g) :
  FP 86 [l.av,i64 k,a.av] (.tup [nA (ug l a g),.v .nilIface]):=by
 obtain⟨tw,D9⟩:=d9 D.al.tr D.hc;have kb:=tB h3;have dp:=sU h3;have ff:=ok.ok;have nv:=D.al.bl;refine ai func86 ?_;refine gt (aK cP (.cons (.tmp rfl) (.cons (.tmp rfl) (.cons (.tmp rfl) (.cons (.const _) .nil)))) aL rfl rfl) ?_ (2,0);refine gW (Wk.o (sl:=[pP 5 (.ptr 5 0),pP 8 (.ptr 900 0),pP 9 (.v .nilIface)]) (hp:=[pP 5 (.box a.av.cells),pP 900 (c9 l g a)])) ?_;refine gf ?_ (5,0);refine gW (Wk.o (sl:=[pP 5 (.ptr 5 0),pP 8 (.ptr 900 0),pP 10 (.ptr 35 0)]) (hp:=[pP 5 (.box a.av.cells),pP 900 (c9 l g a),pP 35 (cC a.rs)])) ?_ (10,0);refine Gu [8,10] [900,35] [pP 11 (nA (sX (lT l a g)))] [] (g.kind≠0) ?_ ?_ 2
 ·intro K1 J1;refine gC (fun y=>?_) (fun y=>?_)
  ·have hk:g.kind=0:=dL y;have hd:ug l a g=sh 0 ((1:Int):Rat):=aq7 hk;rw[hd];refine gc (WE) ?_;refine gR ?_;exact oJ rfl
  have gz:g.kind≠0:=eZ y;refine gC (fun y=>?_) (fun y=>?_)
  ·have hk:g.kind = 1:=dL y;obtain ⟨i,k2,z0,z1,z2,j0,j1,j2,P⟩:=ok.rrr hk;obtain ⟨e0,e1,e2,b0,b1,_⟩:=P.at;have rP:lT l a g = j8 (aT (aC l a j1 k2) (aC l a j0 i)) (aT (oX a i (am l j2 i)) (aC l a j0 i)):=by unfold lT; rw [aq6 gz,aq7 hk,e0,e1,e2,b0,b1]
   obtain rfl:=P.eq;have DX:=(ff.b i (by simp)).1;obtain⟨p,hp,hn,oC⟩:=ok.own (b:=i) (by simp);have dO:=(anz.1 hp).1;have hq:=ki D.hl D.li P.h2 P.t1;obtain⟨y1,y2⟩:=sQ D h3 P.h0 P.p0;obtain⟨y3,y4⟩:=sQ D h3 P.h1 P.p1;obtain⟨y5,y6⟩:=C3 D h3 (ok.own (b:=i) (by simp)) hq;have s1:=vu tw y3 y4 y1 y2 oz;have s2:=vu tw y5 y6 y1 y2 oz;have s3:=Y9 tw (fF y3 y1) (fF y4 y2) (fF y5 y1) (fF y6 y2) oz;rw[pI D.al.tr D.hc]at s1 s2 s3;refine gt (aK (Con.rB 900 rfl rfl rfl rfl (OG D.hl D.li D.al D.hc h3 ff P.h0 P.h1 P.h2 P.p0 P.p1 P.t1 P.t2)) (du rfl) aL rfl rfl) ?_;refine gi (rfl) ?_;refine gi (ko (n:=i.toNat) oz hp) ?_;refine gc (OT D h3 hE (b:=i) hp hn oC hq) ?_;refine gt (a9 (Con.rB 35 rfl rfl rfl rfl (ru _ _ _)) (aO rfl rfl rfl) rfl rfl rfl) ?_;refine gD ?_;refine gc s1 ?_;refine gt (a9 (Con.rB 35 rfl rfl rfl rfl (ru _ _ _)) (aO rfl rfl rfl) rfl rfl rfl) ?_;refine gc s2 ?_;refine gt (a9 (Con.rB 35 rfl rfl rfl rfl (ru _ _ _)) (aO rfl rfl rfl) rfl rfl rfl) ?_;refine gc s3 ?_;refine gt (a9 (Con.rB 35 rfl rfl rfl rfl (tx _ _)) (aO rfl rfl rfl) rfl rfl rfl) ?_;refine gD ?_;exact tL J1 gz (hw:=Wk.of (.cons rfl (.of (are (fun z=>nA (sX z)) rP.symm)) (.k (.k .nil))) (.k (.k .nil)))
  have f8:g.kind≠1:=eZ y;refine gC (fun y=>?_) (fun y=>?_)
  ·have hk:g.kind = 2:=dL y;obtain ⟨i,z0,z1,j0,j,P,ha,hb⟩:=ok.pr hk;obtain ⟨e0,e1,b0,_⟩:=P.at;have rP:lT l a g = cJ (aT (bi l a j.b j.to) (bi l a j.b j.on)) (aT (oX a i (aX l i j.point)) (aC l a j0 i)):=by unfold lT; rw [aq6 gz,aq6 f8,aq7 hk,e0,e1,b0]
   obtain rfl:=P.eq;obtain⟨i1,i2,i3,i4,i5⟩:=ee D.li P.h1;have DX:=(ff.b i (by simp)).1;obtain⟨p,hp,hn,oC⟩:=ok.own (b:=i) (by simp);have dO:=(anz.1 hp).1;have hq:Sm 1000 (aX l i j.point):=by rw[<- ha];exact oa D.hl D.li i1 i3
   obtain⟨y1,y2⟩:=sQ D h3 P.h0 P.p0;obtain⟨y3,y4⟩:=od D h3 i2 (i5 P.hk) hb;obtain⟨y7,y8⟩:=od D h3 i2 i4 hb;obtain⟨y5,y6⟩:=C3 D h3 (ok.own (b:=i) (by simp)) hq;have s1:=vu tw y3 y4 y7 y8 oz;have s2:=vu tw y5 y6 y1 y2 oz;have s3:=Gh tw (fF y3 y7) (fF y4 y8) (fF y5 y1) (fF y6 y2) oz;rw[pI D.al.tr D.hc]at s1 s2 s3;refine gt (aK (Con.rB 900 rfl rfl rfl rfl (PY D.hl D.li D.al D.hc h3 ff P.h0 P.h1 P.p0 ha P.hk hb)) (du rfl) aL rfl rfl) ?_;refine gi (rfl) ?_;refine gi (ko (n:=i.toNat) oz hp) ?_;refine gc (OT D h3 hE (b:=i) hp hn oC hq) ?_;refine gt (a9 (Con.rB 35 rfl rfl rfl rfl (ru _ _ _)) (aO rfl rfl rfl) rfl rfl rfl) ?_;refine gD ?_;refine gc s1 ?_;refine gt (a9 (Con.rB 35 rfl rfl rfl rfl (ru _ _ _)) (aO rfl rfl rfl) rfl rfl rfl) ?_;refine gc s2 ?_;refine gt (a9 (Con.rB 35 rfl rfl rfl rfl (ru _ _ _)) (aO rfl rfl rfl) rfl rfl rfl) ?_;refine gc s3 ?_;refine gt (a9 (Con.rB 35 rfl rfl rfl rfl (tx _ _)) (aO rfl rfl rfl) rfl rfl rfl) ?_;refine gD ?_;exact tL J1 gz (hw:=Wk.of (.cons rfl (.of (are (fun z=>nA (sX z)) rP.symm)) (.k (.k .nil))) (.k (.k .nil)))
  have dj:g.kind≠2:=eZ y;obtain⟨i,z0,z1,j0,j,P,ha,hj,hb⟩:=ok.rp gz f8 dj;obtain⟨e0,e1,b0,_⟩:=P.at;have rP:lT l a g=cJ (aT (bi l a j.b j.to) (bi l a j.b j.on)) (cm l a i j0 j):=by unfold lT;rw[aq6 gz,aq6 f8,aq6 dj,e0,e1,b0]
  obtain rfl:=P.eq;obtain⟨i1,i2,i3,i4,i5⟩:=ee D.li P.h1;have kv:Pd E a j.b:=by rw[hj];exact ok.own (b:=i) (by simp)
  obtain⟨y1,y2⟩:=sQ D h3 P.h0 P.p0;obtain⟨y5,y6⟩:=od D h3 i1 i3 hb;obtain⟨y3,y4⟩:=od D h3 i2 (i5 P.hk) kv;obtain⟨y7,y8⟩:=od D h3 i2 i4 kv;have s0:=vu tw y5 y6 y1 y2 oz;have sd:=Gh tw (fF y5 y1) (fF y6 y2) (fF y5 y1) (fF y6 y2) oz;have s1:=vu tw y3 y4 y7 y8 oz;have s3:=Gh tw (fF y3 y7) (fF y4 y8) (fF y5 y1) (fF y6 y2) oz;rw[pI D.al.tr D.hc]at s0 sd s1 s3;refine gt (a9 (Con.rB 900 rfl rfl rfl rfl (Gt D.hl _ ff a rfl P.h1)) (du rfl) rfl rfl rfl) ?_;refine gt (aK (Con.rekeyBB 900 35 (by decide) (by decide) rfl rfl rfl rfl rfl rfl (OC (E:=E) oz D h3 ff P.h0 P.h1 P.p0 hj P.hk hb s0 sd)) (bO rfl rfl) aL rfl rfl) ?_;refine gt (aK (Con.rB 900 rfl rfl rfl rfl (uB (E:=E) D.hl D.li _ D.al D.hc i2 (i5 P.hk) oz h3 kv)) (aO rfl rfl rfl) aL rfl rfl) ?_;refine gt (aK (Con.rB 900 rfl rfl rfl rfl (uB (E:=E) D.hl D.li _ D.al D.hc i2 i4 oz h3 kv)) (aO rfl rfl rfl) aL rfl rfl) ?_;refine gc s1 ?_;refine gt (a9 (Con.rB 35 rfl rfl rfl rfl (ru _ _ _)) (aO rfl rfl rfl) rfl rfl rfl) ?_;refine gD ?_;refine gc s3 ?_;refine gt (a9 (Con.rB 35 rfl rfl rfl rfl (tx _ _)) (aO rfl rfl rfl) rfl rfl rfl) ?_;refine gD ?_;exact tL J1 gz (hw:=Wk.of (.cons rfl (.of (are (fun z=>nA (sX z)) rP.symm)) (.k (.k .nil))) (.k (.k .nil)))
 rintro hk9;rw[show ug l a g=sX (lT l a g)from aq6 hk9];refine gC (fun y=>?_) (fun y=>?_) (st2:=(77777,0))
 ·refine gf ?_;refine gR ?_;exact oJ rfl
 cases y
def qQ(l:Li)(a:Aq)(g:Gr):List Rat:=if g.kind=0 then sh 0 ((1:Int):Rat)else sX (dB l a.ts a.bs g)
theorem KY(l:Li)(a:Aq)(g:Gr):ug l a.as g=qQ l a g:=by
 unfold ug qQ;split
 ·rfl
 ·rw[agz]
  have:∀(T:LL)(bs:List Pq),T=a.ts->bs=a.bs->(sX (dB l T bs g):List Rat)=sX (dB l a.ts a.bs g):=by
   rintro _ _ rfl rfl;rfl
  exact this _ _ a.llq (nH a)
theorem TF{l:Li}{a:Aq}{g:Gr}:T.sgn (aw a.ts) a.ts.length (af a.ts.length (qQ l a g))=ao (dB l a.ts a.bs g):=by
 unfold qQ;split
 ·rename_i h;rw [kl];have e:dB l a.ts a.bs g = qE 1:=by unfold dB; rw [aq7 h]
  rw[e];rfl
 ·have e:af a.ts.length (sX (dB l a.ts a.bs g))=dB l a.ts a.bs g:=bu _ _;rw[e];rfl
structure AqE(E:Nat)(l:Li)(a:Aq):Prop where
  s:AqS l a
  be:∀p∈a.bs,Pq.ok a.ts.length E p
  le:E<=3200000000
theorem AqS.e{l:Li}{a:Aq}(F:AqS l a):AqE 3200000000 l a:=⟨F,F.bs,apu _⟩
section
variable{E:Nat}{l:Li}(hl:l.ok){a:Aq}(F:AqE E l a)(hs:splitE l=0){k:Nat}{g:Gr}(hg:(splitG l)[k]?=some g)
include hl F hs hg
theorem MB(own:Bool):DyW l a.as/\DyOk E l k a.as own k g/\(Lw.llq a.as.rs).length<=2/\iY l k a.as own=0:=by
 obtain⟨r,hr,tw⟩:=F.s.tw;have hE:=F.le;have Q:QInv l 2 r E a:=⟨tw,F.s.two,F.be,F.s.ln⟩
 have D:DyW l a.as:=⟨hl,F.s.li,Q.ab F.s.li oz hr,Q.chk⟩
 have h0:=Q.dy0 F.s.li hs hg own;obtain⟨i,g',h⟩:=EL (Q.sma oz (apu _) k own) h0;have e:i=k:=by have:=h.hk;omega
 subst e;have h2:=h.hg;rw[hg]at h2;cases h2;exact⟨D,h,by rw[a.llq];exact F.s.two,h0⟩
theorem aei:Nm a.ts.length (24*E+21600016203) (qQ l a g):=by
 obtain⟨D,ok,h3,_⟩:=MB hl F hs hg true;have h:=Yq D h3 ok;rw[KY,a.llq]at h;exact h
theorem WV:FP 86 [l.av,i64 k,a.av] (.tup [nA (qQ l a g),.v .nilIface]):=by
 obtain⟨D,ok,h3,h0⟩:=MB hl F hs hg true;have cP:=Qd l hl k a.as D.al true;have mw:lO l (k:Nat)=g:=ax hg;rw[h0,mw]at cP;have h:=agj F.le cP D h3 ok;rw[Aq.as_av,KY]at h;exact h
end
section
variable{l:Li}(hl:l.ok){a:Aq}(F:AqS l a)(hs:splitE l=0){k:Nat}{g:Gr}(hg:(splitG l)[k]?=some g)
include hl F hs hg
theorem ab0:Nm a.ts.length 99300000000 (qQ l a g):=(aei hl F.e hs hg).mono oz
theorem VW:FP 86 [l.av,i64 k,a.av] (.tup [nA (qQ l a g),.v .nilIface]):=WV hl F.e hs hg
theorem akd:FP 87 [aZ a.ts,nA (qQ l a g)] (.tup [i64 (ao (dB l a.ts a.bs g)),.v .nilIface]):=by
 obtain⟨r,hr,tw⟩:=F.tw;have dp:=sU F.two;have h:=By tw (ab0 hl F hs hg) oz;rw[TF]at h;exact h
end
theorem Ue{l:Li}{xs:List Tn}{a:Aq}(F:AqFin l xs a):oq l xs=0:=Pg F.li F.lx (fun x hx=>(F.xo x hx).1)
theorem YE{l:Li}{xs:List Tn}{a:Aq}(F:AqFin l xs a):mH l xs a=(0,0):=by
 have f1:dt a.bs.length (fun i=>tM a.ts i (a.bs.getD i bg))=none:=jm (fun i hi=>by
  have hc:=F.cs i (by rw[<- F.ln];exact hi);unfold tM;rw[ad5 hc,Bool.true_and]
  by_cases h0:i=0
  ·subst h0;rw[F.fr,ZH];simp
  ·rw[arb (by omega:0<i)];rfl)
 have f2:dt l.jo.length (fun i=>rq l a (l.jo.getD i default))=none:=jm (fun i hi=>by
  obtain⟨j,hj⟩:=ay hi;rw[ax hj];exact aj6 (F.js j (apo hj)))
 have f3:dt l.dv.length (tP l xs a)=none:=jm (fun i hi=>by
  obtain⟨d,hd⟩:=ay hi;have h:=F.dr i d hd;unfold tP Cn;rw[ax hd,kl,kl];rw[show af a.ts.length (a.bs.getD d.body.toNat bg).c=T.ofQ a.ts.length (dT (xs.getD i dY).half (xs.getD i dY).t.q)from h.1,show af a.ts.length (a.bs.getD d.body.toNat bg).s=T.ofQ a.ts.length (dV (xs.getD i dY).half (xs.getD i dY).t.q)from h.2,qX,qX];rfl)
 unfold mH;rw[f1,f2,f3]
theorem M1{k:Nat}{f:Sv->List Aq×Nat}:∀{S:List Sv},(gw (eJ k) false f S).2=0->(∀s∈S,(f s).2=0)/\(gw (eJ k) false f S).1=S.flatMap fun s=>(f s).1
 |[],h=>⟨(fun s hs=>by cases hs),rfl⟩
 |s::S,h=>by
  rw[sD,aq6 (show ¬eJ k s.mode=false by simp[eJ])]at h ⊢
  by_cases he:(f s).2≠0
  ·rw[aq7 he]at h;exact ard h he
  ·rw [aq6 he, aq6 (by decide)] at h ⊢;obtain ⟨h1,h2⟩:=M1 (S:=S) h;refine ⟨fun t ht=>?_,?_⟩
   ·rcases aqf.1 ht with rfl |ht
    ·exact apn.1 he
    ·exact h1 t ht
   ·rw[aq3,<- h2]
theorem Qk{F:Nat->Int->Bool}{sg:Bool}{l:Li}{xs:List Tn}{n:Nat}{a:Aq}{gr:Gr}(hg:(splitG l)[a.ms.length]?=some gr) :
  fP F sg l xs (splitG l) (n+1) a=if mO l a.as gr (cw gr xs)≠0 then([],mO l a.as gr (cw gr xs))else gw (F a.ms.length) sg (fun sv=>fP F sg l xs (splitG l) n (a.nxt gr sv)) (fq l a.as gr (cw gr xs)):=by
 conv=>lhs;unfold fP
 rw[ax hg]
section
variable{l:Li}{xs:List Tn}{s g:Nat}(W:WkC l xs s g)
include W
end
section
variable{l:Li}{xs:List Tn}{s g:Nat}(W:WkC l xs s g)
include W
end
theorem Jv{l:Li}(hl:l.ok){xs:List Tn}{a:Aq}(F:AqFin l xs a)(fJ:xs.length<=281474976710656):FP 24 [l.av,.lst 4 (xs.map Tn.av),a.av] (.tup [bl true,EC (0,0),bG 0]):=by
 have hv:=afw hl F.s xs (fun x hx=>⟨(F.xo x hx).2.2,(F.xo x hx).2.1⟩) fJ;rw[Ue F,aq7 rfl,YE F]at hv;exact hv
theorem aga{l:Li}(hl:l.ok)(h1:aG l=0)(h2:splitE l=0):FP 113 [l.av] (.tup [.lst 4 ((splitG l).map Gr.av),bG 0]):=by
 have h:=GV l hl;rw[aq7 h1,aq7 h1,h2]at h;exact h
structure AqM0(l:Li)(a:Aq):Prop where
  sp:splitE l=0
  ml:a.ms.length=(splitG l).length
structure AqSg(l:Li)(a:Aq):Prop extends AqM0 l a where
  sg:∀m g,m<a.ms.length->(splitG l)[m]?=some g->ao (dB l a.ts a.bs g)=a.ms.getD m 0
theorem VR{l:Li}{a:Aq}(M:AqMd l a):AqSg l a:=⟨⟨M.sp,M.ml⟩,fun m g h hg=>M.md m g h hg⟩
theorem Kw{l:Li}(hl:l.ok){xs:List Tn}{a:Aq}(F:AqFin l xs a)(hs:splitE l=0)(fJ:xs.length<=281474976710656) :
  FP 82 [l.av,.lst 4 (xs.map Tn.av),a.av] (.tup [.lst 4 ((splitG l).map Gr.av),.v .nilIface]):=by
 have z0:gI (lw 0)=true:=rfl;refine ai func82 ?_;refine gc (aga hl F.li hs) ?_;refine gf ?_;refine gc (Jv hl F fJ) ?_;refine gf ?_;refine gf ?_;refine bK ?_;rfl
theorem Pt{l:Li}(hl:l.ok){xs:List Tn}{a:Aq}(F:AqFin l xs a)(M:AqSg l a)(fJ:xs.length<=281474976710656) :
  FP 25 [l.av,.lst 4 (xs.map Tn.av),a.av] (.tup [.lst 1 (a.ms.map i64),.v .nilIface]):=by
 have eL:=M.ml;have dp:=F.lm;refine ai func25 ?_;refine gc (Kw hl F M.sp fJ) ?_;refine gf ?_;refine gl ?_;refine gW (Wk.virt 900 1 rfl) ?_;refine aS [3,5,26] [3,5] (fun(i:Nat)=>[pP 10 (.ms 900 1 0 i),pP 27 (i64 i)]) (fun i=>[pP 900 (.row 1 ((a.ms.take i).map i64))]) (fun i=>i<=(splitG l).length) (fun i=>(splitG l).length-i) 0 (apx _) ?_;rintro i hi K1 J1;refine gC (fun z=>?_) (fun z=>?_) (st2:=(16,0))
 ·have ae:=a7 z;obtain⟨g,hg⟩:=ay ae;obtain⟨m,hm⟩:=ay (l:=a.ms) (i:=i) oz
  have io:ao (dB l a.ts a.bs g)=m:=by
   have h:=M.sg i g oz hg
   rwa [ax hm]at h
  have mv:=akd hl F.s M.sp hg;rw[io]at mv;refine gc (VW hl F.s M.sp hg) ?_;refine gf ?_;refine gc mv ?_;refine gf ?_;refine gs (cF (.tmp rfl) rfl (Dd oz).symm (.tmp rfl) T46 rfl T3 rfl rfl (by simp only[ap4,ap9];omega) rfl rfl) ?_ (15,0);refine gW (Wk.of (sl:=[pP 3 (.ptr 3 0),pP 5 (.ptr 5 0),pP 10 (.ms 53 1 0 (i+1)),pP 26 (i64 (splitG l).length),pP 27 (i64 i)]) (hp:=[pP 3 (.box l.av.cells),pP 5 (.box a.cs),pP 53 (.row 1 ((a.ms.take (i+1)).map i64))]) a6 (.k (.k (.cons rfl (.of (by rw[dJ hm,ap8];rfl)) .nil)))) ?_ (15,0);refine gW (Wk.rk (k:=53) (d:=900) rfl rfl) ?_;refine ga aN ?_;exact aM J1 (i+1) ae
 have ae:=bj hi z;rw[<- eL]at ae;subst ae;refine gW ((Wk.freeze (k:=900) rfl).trans<|Wk.of (sl:=[pP 10 (.lst 1 (a.ms.map i64))]) (hp:=[]) (.cons rfl (.of (by rw[b8 (Dd (apu _)).symm,ap5])) .nil) .nil) ?_;refine bK ?_;rfl
def nJ(f:Int)(q:Rat):Rat:=if f<0 then -q else q
theorem Kz{q:Rat}(h:Qs q):FP 78 [qA q] (qA q):=by
 have h1:=Lc (rt q) h.ok;rw[bN]at h1;exact h1
theorem acp{q:Rat}(h:Qs q):Qs (-q):=by
 obtain⟨k,hk,h1,h2⟩:=h;exact⟨k,hk,h1.neg,h2⟩
theorem HE(x:List Rat)(hx:∀q∈x,Qs q)(hl:x.length<=1000)(f:Int):FP 83 [nA x,i64 f] (nA (x.map (nJ f))):=by
 refine ai func83 ?_;refine gl ?_;refine gW (Wk.virt 900 3 rfl) ?_;refine aS [1,8,9] [] (fun(i:Nat)=>[pP 5 (.ms 900 3 0 i),pP 10 (i64 i)]) (fun i=>[pP 900 (.row 3 (((x.take i).map (nJ f)).map qA))]) (fun i=>i<=x.length) (fun i=>x.length-i) 0 (apx _) ?_;rintro i hi K1 J1;refine gC (fun z=>?_) (fun z=>?_) (st2:=(9,0))
 ·have ae:=a7 z;obtain⟨q,hq⟩:=ay ae;have jS:=hx q (apo hq);refine gi (aA hq) ?_;refine gC (fun z=>?_) (fun z=>?_)
  ·have hs:nJ f q=-q:=aq7 (aq9 z);have hw:=Kz (acp jS);refine gc (TM jS) ?_;refine gc hw ?_;refine gs (cF (.tmp rfl) rfl (oY oz).symm (.tmp rfl) T53 rfl T106 rfl rfl (by simp only[ap4,ap9];omega) rfl rfl) ?_ (8,0);refine gW (Wk.of (sl:=[pP 1 (i64 f),pP 5 (.ms 22 3 0 (i+1)),pP 8 (.lst 3 (x.map qA)),pP 9 (i64 x.length),pP 10 (i64 i)]) (hp:=[pP 22 (.row 3 (((x.take (i+1)).map (nJ f)).map qA))]) a6 (.cons rfl (.of (by rw[wS hq,hs])) .nil)) ?_ (8,0);refine gW (Wk.rk (k:=22) (d:=900) rfl rfl) ?_;refine ga aN ?_;exact aM J1 (i+1) ae
  have hs:nJ f q=q:=aq6 (ara z);have hw:=Kz jS;refine gc hw ?_;refine gs (cF (.tmp rfl) rfl (oY oz).symm (.tmp rfl) T53 rfl T106 rfl rfl (by simp only[ap4,ap9];omega) rfl rfl) ?_ (8,0);refine gW (Wk.of (sl:=[pP 1 (i64 f),pP 5 (.ms 22 3 0 (i+1)),pP 8 (.lst 3 (x.map qA)),pP 9 (i64 x.length),pP 10 (i64 i)]) (hp:=[pP 22 (.row 3 (((x.take (i+1)).map (nJ f)).map qA))]) a6 (.cons rfl (.of (by rw[wS hq,hs])) .nil)) ?_ (8,0);refine gW (Wk.rk (k:=22) (d:=900) rfl rfl) ?_;refine ga aN ?_;exact aM J1 (i+1) ae
 have ae:=bj hi z;subst ae;refine gW ((Wk.freeze (k:=900) rfl).trans<|Wk.of (sl:=[pP 5 (.lst 3 ((x.map (nJ f)).map qA))]) (hp:=[]) (.cons rfl (.of (by rw[b8 (oY (apu _)).symm,ap5])) .nil) .nil) ?_;refine ah ?_;rfl
def wX(m:Int):Int:=IntKind.i64.wrap (0-m)
def df(p:Pq):Pq:=⟨p.c,p.s.map (fun q=>-q),p.x,p.y.map (fun q=>-q)⟩
def gL(l:Li)(a:Aq)(k:Nat):Int:=if((splitG l).getD k default).kind=1 then wX (a.ms.getD k 0)else a.ms.getD k 0
def cg(l:Li)(a:Aq):Aq:=⟨a.ts,a.bs.map df,(List.range a.ms.length).map (gL l a)⟩
theorem RC{n e:Nat}{x:List Rat}(h:Nm n e x)(he:e<4398046511104):FP 83 [nA x,i64 1] (nA x):=by
 have hl:=h.nl.len5 h.five;have c:=HE x (fun q hq=>h.cb.qs he hq) oz 1;rw[show x.map (nJ 1)=x from by rw[show nJ 1=id from funext fun q=>aq6 (by decide)];exact map_id _]at c;exact c
theorem Ln{n e:Nat}{x:List Rat}(h:Nm n e x)(he:e<4398046511104):FP 83 [nA x,i64 (-1)] (nA (x.map fun q=>-q)):=by
 have hl:=h.nl.len5 h.five;have c:=HE x (fun q hq=>h.cb.qs he hq) oz (-1);rw[show nJ (-1)=(fun q=>-q)from funext fun q=>aq7 (by decide)]at c;exact c
theorem ahf{ts:LL}{r:Nat}(tw:Tw ts r){x:List Rat}(hm:x∈ts):FP 83 [nA x,i64 1] (nA x):=by
 obtain⟨j,hj,e⟩:=an4.1 hm;have h6:=tw.len j hj;rw[ax (aps hj),e]at h6;have h7:=tw.three
 have h8:x.length<=32:=by
  rw[h6];exact aqe (amk oz (show j<=5 by omega)) (by decide)
 have c:=HE x (tw.rb.qs tw.le x hm) oz 1;rw[show x.map (nJ 1)=x from by rw[show nJ 1=id from funext fun q=>aq6 (by decide)];exact map_id _]at c;exact c
theorem Nm.ng{n e:Nat}{a:List Rat}(ha:Nm n e a):Nm n e (a.map fun q=>-q):=⟨ha.five,sM ha.nl,ha.cb.minus⟩
theorem XD{l:Li}{a:Aq}(F:AqS l a):AqS l (cg l a):=by
 refine⟨F.li,F.tw,F.two,fun p hp=>?_,?_⟩
 ·obtain⟨q,hq,rfl⟩:=anx.1 hp;have h:=F.bs q hq;exact⟨h.c,h.s.ng,h.x,h.y.ng⟩
 ·show(a.bs.map df).length=_;rw[apr];exact F.ln
theorem QS{l:Li}(hl:l.ok){xs:List Tn}{a:Aq}(F:AqFin l xs a)(M:AqM0 l a)(fJ:xs.length<=281474976710656) :
  FP 23 [l.av,.lst 4 (xs.map Tn.av),a.av] (.tup [(cg l a).av,.v .nilIface]):=by
 have iV:=F.ln;have nv:=(dK F.li).2.2.2.1;have eL:=M.ml;have dp:=F.lm;have h2:=F.two;obtain⟨r,hr,tw⟩:=F.tw;have SG:=adk F.li;refine ai func23 ?_;refine gc (Kw hl F M.sp fJ) ?_;refine gf ?_;refine gl ?_;refine gW (Wk.virt 900 1 rfl) ?_;refine aS [5,6,8,10,30,31] [5,6] (fun(i:Nat)=>[pP 32 (i64 i)]) (fun i=>[pP 10 (.box [.ms 900 1 0 i,nS,nS]),pP 900 (.row 1 ((a.ts.take i).map nA))]) (fun i=>i<=a.ts.length) (fun i=>a.ts.length-i) 0 (apx _) ?_ (h2:=(.cons rfl (BlkSub.bL (.cons (.nM _ _ _) (.cons (.refl _) (.cons (.refl _) .nil))) rfl) (.k .nil)));rintro i hi K1 J1;refine gC (fun z=>?_) (fun z=>?_) (st2:=(10,0))
 ·have ae:=a7 z;obtain ⟨d,hd⟩:=ay ae;have kV:=ahf tw (apo hd);refine gi (aA hd) ?_;refine gc kV ?_;refine gs (cF (.tmp rfl) rfl (Dd oz).symm (.tmp rfl) T42 rfl T53 rfl rfl (by simp only [ap4,ap9]; omega) rfl rfl) ?_;refine gD ?_ (9,0);refine gW (Wk.of (sl:=[pP 5 (.ptr 5 0),pP 6 (.ptr 6 0),pP 8 (.lst 4 ((splitG l).map Gr.av)),pP 10 (.ptr 10 0),pP 30 (.lst 1 (a.ts.map nA)),pP 31 (i64 a.ts.length),pP 32 (i64 i)]) (hp:=[pP 5 (.box a.cs),pP 6 (.box [nS,nS,nS]),pP 10 (.box [.ms 42 1 0 (i + 1),nS,nS]),pP 42 (.row 1 ((a.ts.take (i + 1)).map nA))]) a6 (.k (.k (.k (.cons rfl (.of (by rw [dJ hd,ap8]; rfl)) .nil))))) ?_ (9,0)
  refine gW (Wk.rk (k:=42) (d:=900) rfl rfl) ?_;refine ga aN ?_;exact aM J1 (i+1) ae
 have ae:=bj hi z;subst ae;refine gW ((Wk.freeze (k:=900) rfl).trans<|Wk.of (sl:=[pP 5 (.ptr 5 0),pP 6 (.ptr 6 0),pP 8 (.lst 4 ((splitG l).map Gr.av)),pP 10 (.ptr 10 0)]) (hp:=[pP 5 (.box a.cs),pP 6 (.box [nS,nS,nS]),pP 10 (.box [.lst 1 (a.ts.map nA),nS,nS])]) a6 (.k (.k (.cons rfl (BlkSub.bL (.cons (.of (by rw[b8 (Dd (apu _)).symm,ap5])) (.cons (.refl _) (.cons (.refl _) .nil))) rfl) .nil)))) ?_
 refine gl ?_;refine gW (Wk.virt 900 4 rfl) ?_;refine aS [5,6,8,10,47,48] [5,6] (fun(i:Nat)=>[pP 49 (i64 i)]) (fun i=>[pP 10 (.box [.lst 1 (a.ts.map nA),.ms 900 4 0 i,nS]),pP 900 (.row 4 (((a.bs.take i).map df).map Pq.av))]) (fun i=>i<=a.bs.length) (fun i=>a.bs.length-i) 0 (apx _) ?_ (h2:=(.cons rfl (BlkSub.bL (.cons (.refl _) (.cons (.nM _ _ _) (.cons (.refl _) .nil))) rfl) (.k .nil)));rintro i nC K2 J2;refine gC (fun z=>?_) (fun z=>?_) (st2:=(15,0))
 ·have ae:=a7 z;obtain ⟨b,hb⟩:=ay ae;have Jd:=apo hb;have po:=F.bs b Jd;refine gi (aA hb) ?_;refine gc (RC po.c oz) ?_;refine gc (Ln po.s oz) ?_;refine gc (RC po.x oz) ?_;refine gc (Ln po.y oz) ?_;refine gs (cF (.tmp rfl) rfl (oY oz).symm (.tmp rfl) T45 rfl T55 rfl rfl (by simp only [ap4,ap9]; omega) rfl rfl) ?_;refine gD ?_ (14,0);refine gW (Wk.of (sl:=[pP 5 (.ptr 5 0),pP 6 (.ptr 6 0),pP 8 (.lst 4 ((splitG l).map Gr.av)),pP 10 (.ptr 10 0),pP 47 (.lst 4 (a.bs.map Pq.av)),pP 48 (i64 a.bs.length),pP 49 (i64 i)]) (hp:=[pP 5 (.box a.cs),pP 6 (.box [nS,nS,nS]),pP 10 (.box [.lst 1 (a.ts.map nA),.ms 69 4 0 (i + 1),nS]),pP 69 (.row 4 (((a.bs.take (i + 1)).map df).map Pq.av))]) a6 (.k (.k (.k (.cons rfl (.of (by rw [wS hb]; rfl)) .nil))))) ?_ (14,0)
  refine gW (Wk.rk (k:=69) (d:=900) rfl rfl) ?_;refine ga aN ?_;exact aM J2 (i+1) ae
 have ae:=bj nC z;subst ae;refine gW ((Wk.freeze (k:=900) rfl).trans<|Wk.of (sl:=[pP 5 (.ptr 5 0),pP 6 (.ptr 6 0),pP 8 (.lst 4 ((splitG l).map Gr.av)),pP 10 (.ptr 10 0)]) (hp:=[pP 5 (.box a.cs),pP 6 (.box [nS,nS,nS]),pP 10 (.box [.lst 1 (a.ts.map nA),.lst 4 ((a.bs.map df).map Pq.av),nS])]) a6 (.k (.k (.cons rfl (BlkSub.bL (.cons (.refl _) (.cons (.of (by rw[b8 (oY (apu _)).symm,ap5])) (.cons (.refl _) .nil))) rfl) .nil)))) ?_
 refine gl ?_;refine gl ?_;refine gC (fun z=>?_) (fun z=>?_) (st1:=(16,0));exact ard eL (wN z);refine gl ?_;refine gW (Wk.virt 900 1 rfl) ?_;refine aS [6,8,10,80,81] [6] (fun(i:Nat)=>[pP 82 (i64 i)]) (fun i=>[pP 10 (.box [.lst 1 (a.ts.map nA),.lst 4 ((a.bs.map df).map Pq.av),.ms 900 1 0 i]),pP 900 (.row 1 (((List.range i).map (gL l a)).map i64))]) (fun i=>i<=a.ms.length) (fun i=>a.ms.length-i) 0 (apx _) ?_ (h2:=(.cons rfl (BlkSub.bL (.cons (.refl _) (.cons (.refl _) (.cons (.nM _ _ _) .nil))) rfl) (.k .nil)));rintro i hi4 K3 J3;refine gC (fun z=>?_) (fun z=>?_) (st2:=(24,0))
 ·have ae:=a7 z;obtain⟨m,hm⟩:=ay ae;obtain⟨g,Jo⟩:=ay (l:=splitG l) (i:=i) oz;refine gi (aA hm) ?_;refine gi (aA Jo) ?_;refine gC (fun z=>?_) (fun z=>?_)
  ·have hk : gL l a i = wX m := by unfold gL; rw [ax Jo, ax hm, aq7 (dL z)]
   refine gs (Bh (.tmp rfl) rfl) ?_;refine gs (cF (.tmp rfl) rfl (by simp) (.tmp rfl) T46 rfl T3 rfl rfl (by simp only[ap4,ap9];omega) rfl rfl) ?_ (23,0);refine gW (Wk.of (sl:=[pP 6 (.ptr 6 0),pP 8 (.lst 4 ((splitG l).map Gr.av)),pP 10 (.ptr 10 0),pP 80 (.lst 1 (a.ms.map i64)),pP 81 (i64 a.ms.length),pP 82 (i64 i)]) (hp:=[pP 6 (.box [nS,nS,nS]),pP 10 (.box [.lst 1 (a.ts.map nA),.lst 4 ((a.bs.map df).map Pq.av),.ms 99 1 0 (i+1)]),pP 99 (.row 1 (((List.range (i+1)).map (gL l a)).map i64))]) a6 (.k (.k (.cons rfl (.of (by first |(rw[range_succ,ap8,ap8,anl,anl,hk];done) |(rw[range_succ,ap8,ap8,anl,anl,hk];rfl))) .nil)))) ?_ (23,0)
   refine gW (Wk.rk (k:=99) (d:=900) rfl rfl) ?_;refine ga aN ?_;exact aM J3 (i+1) ae
  have hk:gL l a i=m:=by unfold gL;rw[ax Jo,ax hm,aq6 (eZ z)]
  refine gs (cF (.tmp rfl) rfl (by simp) (.tmp rfl) T46 rfl T3 rfl rfl (by simp only[ap4,ap9];omega) rfl rfl) ?_ (23,0);refine gW (Wk.of (sl:=[pP 6 (.ptr 6 0),pP 8 (.lst 4 ((splitG l).map Gr.av)),pP 10 (.ptr 10 0),pP 80 (.lst 1 (a.ms.map i64)),pP 81 (i64 a.ms.length),pP 82 (i64 i)]) (hp:=[pP 6 (.box [nS,nS,nS]),pP 10 (.box [.lst 1 (a.ts.map nA),.lst 4 ((a.bs.map df).map Pq.av),.ms 99 1 0 (i+1)]),pP 99 (.row 1 (((List.range (i+1)).map (gL l a)).map i64))]) a6 (.k (.k (.cons rfl (.of (by first |(rw[range_succ,ap8,ap8,anl,anl,hk];done) |(rw[range_succ,ap8,ap8,anl,anl,hk];rfl))) .nil)))) ?_ (23,0)
  refine gW (Wk.rk (k:=99) (d:=900) rfl rfl) ?_;refine ga aN ?_;exact aM J3 (i+1) ae
 have ae:=bj hi4 z;subst ae;refine gW ((Wk.freeze (k:=900) rfl).trans<|Wk.of (sl:=[pP 6 (.ptr 6 0),pP 10 (.ptr 10 0)]) (hp:=[pP 6 (.box [nS,nS,nS]),pP 10 (.box (cg l a).cs)]) a6 (.k (.cons rfl (BlkSub.bL (.cons (.refl _) (.cons (.refl _) (.cons (.of (by rw[b8 (by simp)];rfl)) .nil))) rfl) .nil))) ?_;refine bK ?_;rfl
open Lean.Grind (CommRing)
section
variable{l:Li}{xs:List Tn}{s g:Nat}(W:WkC l xs s g){gr:Gr}{a:Aq}(hg:(splitG l)[a.ms.length]?=some gr)
variable{j r E:Nat}(Q:QInv l j r E a)
include W hg Q
end
structure AqD(l:Li)(a:Aq):Prop where
  tw:∃r,r<=60000000/\Tw a.ts r
  an:∀(m:Nat)(g:Gr),(splitG l)[m]?=some g->g.kind≠0->∀b∈dR l g false,0<=b->Pq.ok a.ts.length 3900000 (a.bs.getD b.toNat bg)
section
variable{E r:Nat}{l:Li}{a:As}(D:DyW l a)(tw:Tw (llq a.rs) r)(hK:kB r (llq a.rs).length<=180000006)
include D tw hK
end
end Go.Lw
namespace Go.Lw
open Go.Proofs
section
variable{l:Li}(hl:l.ok){a:Aq}(F:AqS l a)(DD:AqD l a)(hs:splitE l=0)
include hl F DD hs
end
section
variable{ts:LL}{r:Nat}(tw:Tw ts r)
include tw
end
def aU{T:LL}(p:P2 T):P2 T:=(p.1,-p.2)
def bZ(q:Rat×Rat):Rat×Rat:=(q.1,-q.2)
section
variable{T:LL}
theorem re(x:List Rat):(dE T (x.map fun q=>-q):Et T)=-dE T x:=qf (k:=T.length) (a:=x)
theorem rW(q:Rat):(qE (-q):Et T)=-qE q:=by
 have h:(qE (0-q):Et T)=qE 0-qE q:=qL _ _;have h0:(qE (0:Rat):Et T)=0:=rfl;rw[show -q=0-q by grind,h,h0];grind
theorem E7(p:Pq)(q:Rat×Rat):dk T (df p) (bZ q)=aU (dk T p q):=by
 unfold dk df bZ aU;dsimp only;rw[re,re,rW];refine Prod.ext ?_ ?_ <;> dsimp only <;> grind
theorem w8(bs:List Pq)(i:Nat):(bs.map df).getD i bg=df (bs.getD i bg):=by
 rw[apq,apq,apv];cases bs[i]? <;> rfl
theorem tH(l:Li)(b pt:Int):aX (bt l) b pt=bZ (aX l b pt):=by
 unfold aX bZ;rw[Lm,OH,M0]
theorem qO(l:Li)(j:Jt)(b:Int):am (bt l) j b=bZ (am l j b):=by
 unfold am;split <;> exact tH _ _ _
theorem om(l:Li)(bs:List Pq)(b pt:Int):bb (bt l) T (bs.map df) b pt=aU (bb l T bs b pt):=by
 unfold bb;rw[w8,tH,E7]
theorem zV(l:Li)(bs:List Pq)(j:Jt)(b:Int):pinP (bt l) T (bs.map df) j b=aU (pinP l T bs j b):=by
 unfold pinP;split <;> exact om _ _ _ _
theorem kG(p q:P2 T):aT (aU p) (aU q)=aU (aT p q):=by
 unfold aT aU;refine Prod.ext rfl ?_;dsimp only;grind
theorem In(p q:P2 T):j8 (aU p) (aU q)=-j8 p q:=by
 unfold j8 crsE aU;dsimp only;grind
theorem wW(p q:P2 T):cJ (aU p) (aU q)=cJ p q:=by
 unfold cJ dotE aU;dsimp only;grind
end
section
variable{ts:LL}(hp:gY ts)
include hp
theorem OM(x:Et ts):ao (-x)=-ao x:=(fZ (aw ts) ts.length hp).neg x
theorem OQ{x:Et ts}(h:ao x=0):ao (-x)=0:=by rw[OM hp,h];rfl
theorem aab{l:Li}{bs:List Pq}{j:Jt}(h:JH l ts bs j):JH (bt l) ts (bs.map df) j:=by
 unfold JH at h ⊢;split
 ·rename_i hk;rw[aq7 hk]at h;rw[om,om];refine⟨h.1,?_⟩;unfold aU;dsimp only;have e:=OQ hp h.2;rw[<- e];congr 1;grind
 ·rename_i hk;rw[aq6 hk]at h;rw[om,om,om,kG,kG,In];exact OQ hp h
theorem Xu{p:Pq}(h:CH ts p):CH ts (df p):=by
 have _:=hp;unfold CH at h ⊢;rw[<- h];congr 1;show dE ts p.c*dE ts p.c+dE ts (p.s.map fun q=>-q)*dE ts (p.s.map fun q=>-q)-1=_;rw[re];grind
end
theorem E1(h:Bool)(t:Rat):dT h (-t)=dT h t:=by
 unfold dT;rw[show -t*-t=t*t by grind]
theorem HB(h:Bool)(t:Rat):dV h (-t)=-dV h t:=by
 unfold dV;split
 ·decide +kernel
 ·rw[show -t*-t=t*t by grind,show -t+-t=-(t+t) by grind,aon,aon,Rat.neg_mul]
theorem KE(xs:List Tn)(i:Nat)(h:i<xs.length):(xs.map en).getD i dY=en (xs.getD i dY):=by
 rw[apq,apq,apv,aps h];rfl
theorem ab3{l:Li}{xs:List Tn}{a:Aq}(F:AqFin l xs a):AqFin (bt l) (xs.map en) (cg l a):=by
 have S:=XD F.s;obtain⟨r,hr,tw⟩:=F.tw;refine⟨Bl F.li,by rw[apr];exact F.lx,?_,S.tw,S.two,S.bs,by rw[qd];exact S.ln,?_,?_,?_,?_,?_⟩
 ·intro x hx;obtain⟨y,hy,rfl⟩:=anx.1 hx;obtain⟨h1,h2,h3⟩:=F.xo y hy;refine⟨Co h1,?_,NJ h2 oz⟩;show Qb 1000 (rt (-y.t.q)).q;rw[bN];exact h2.neg
 ·show((List.range a.ms.length).map (gL l a)).length<=100;rw[apr,ane];exact F.lm
 ·intro j hj;exact aab tw.pos (F.js j hj)
 ·intro i hi;rw[qd]at hi;show CH a.ts ((a.bs.map df).getD i bg);rw[w8];exact Xu tw.pos (F.cs i hi)
 ·intro i d hd;obtain ⟨h1,h2⟩:=F.dr i d hd;have dO:i < xs.length:=by rw [F.lx]; exact (anz.1 hd).1
  rw[KE xs i dO];show dE a.ts ((a.bs.map df).getD d.body.toNat bg).c=qE (dT (xs.getD i dY).half (rt (-(xs.getD i dY).t.q)).q)/\dE a.ts ((a.bs.map df).getD d.body.toNat bg).s=qE (dV (xs.getD i dY).half (rt (-(xs.getD i dY).t.q)).q);rw[w8,bN,E1,HB,rW,<- h2];exact⟨h1,re _⟩
 ·show(a.bs.map df).getD 0 bg=lh;rw[w8,F.fr];rfl
theorem TL(l:Li)(T:LL)(bs:List Pq)(g:Gr):dB (bt l) T (bs.map df) g=if g.kind=1 then -dB l T bs g else dB l T bs g:=by
 have hj:∀k,aq (bt l) g k=aq l g k:=fun k=>rfl
 unfold dB
 by_cases h0:g.kind=0
 ·rw[aq7 h0,aq7 h0,aq6 oz]
 ·rw[aq6 h0,aq6 h0]
  by_cases h1:g.kind=1
  ·rw[aq7 h1,aq7 h1,aq7 h1,hj,hj,hj,zV,zV,w8,qO,E7,kG,kG,In]
  ·rw[aq6 h1,aq6 h1,aq6 h1]
   by_cases h2:g.kind=2
   ·rw[aq7 h2,aq7 h2,hj,hj,om,om,w8,tH,E7,zV,kG,kG,wW]
   ·rw[aq6 h2,aq6 h2,hj,hj,om,om,om,zV,kG,kG,wW]
theorem qY(l:Li):splitG (bt l)=splitG l:=(JJ l).splitG
theorem Gg(l:Li):splitE (bt l)=splitE l:=(JJ l).splitE
theorem ajc{m:Int}(h:m=-1\/m=0\/m=1):wX m=-m:=by
 rcases h with rfl |rfl |rfl <;> rfl
theorem tE(l:Li)(a:Aq):(cg l a).ms.length=a.ms.length:=by
 show((List.range a.ms.length).map (gL l a)).length=_;rw[apr,ane]
theorem LV{l:Li}{a:Aq}{k:Nat}(hk:k<a.ms.length):(cg l a).ms.getD k 0=gL l a k:=by
 show((List.range a.ms.length).map (gL l a)).getD k 0=_;rw[apq,apv,List.getElem?_range hk];rfl
theorem aao{l:Li}{a:Aq}{r:Nat}(tw:Tw a.ts r)(M:AqSg l a):AqSg (bt l) (cg l a):=by
 refine⟨⟨by rw[Gg];exact M.sp,by rw[tE,qY];exact M.ml⟩,fun m g hm hg=>?_⟩;rw[tE]at hm;rw[qY]at hg;have h:=M.sg m g hm hg;rw[LV hm];show ao (dB (bt l) a.ts (a.bs.map df) g)=_;rw[TL];unfold gL;rw[ax hg,<- h];split
 ·rw[OM tw.pos,ajc];have:=T.sgn_cases (aw a.ts) a.ts.length (dB l a.ts a.bs g);exact this
 ·rfl
abbrev ra(l:List Rat):List Rat:=l.map fun q=>-q
theorem Ex:∀(k:Nat)(x:T k),T.isZ k (T.neg k x)=T.isZ k x
 |0,q=>by
  show decide (-(q:Rat)=0)=decide ((q:Rat)=0);exact decide_eq_decide.2 ⟨fun h=>by grind,fun h=>by grind⟩
 |k+1,x=>by
  show(T.isZ k (T.neg k x.1)&&T.isZ k (T.neg k x.2))=_;rw[Ex,Ex];rfl
theorem Ck:∀(k:Nat)(x:T k),enc k (T.neg k x)=ra (enc k x)
 |0,q=>rfl
 |k+1,x=>by
  show enc k (T.neg k x.1)++enc k (T.neg k x.2)=(enc k x.1++enc k x.2).map _;rw[Ck,Ck,ap8]
theorem HR:∀(k:Nat)(x:T k),sh k (T.neg k x)=ra (sh k x)
 |0,q=>by
  show(if(-(q:Rat))=0 then[]else[-(q:Rat)])=ra (if(q:Rat)=0 then[]else[q])
  by_cases h:(q:Rat)=0
  ·rw[aq7 h,aq7 (by rw[h];decide +kernel)];rfl
  ·rw[aq6 h,aq6 (fun h9=>h (by grind))];rfl
 |k+1,x=>by
  show(if T.isZ k (T.neg k x.2)then sh k (T.neg k x.1)else enc k (T.neg k x.1)++enc k (T.neg k x.2))=ra (if T.isZ k x.2 then sh k x.1 else enc k x.1++enc k x.2);rw[Ex];split
  ·exact HR k x.1
  ·rw[Ck,Ck];exact List.map_append.symm
def iR(x:List Rat×List Rat):List Rat×List Rat:=(x.1,ra x.2)
section
variable{ts:LL}
theorem GR(x:Et ts):sX (-x)=ra (sX x):=HR _ x
theorem ol(p:P2 ts):P2.l (aU p)=iR (P2.l p):=by
 show(sX p.1,sX (-p.2))=_;rw[GR];rfl
theorem L5(x:List Rat×List Rat):((dE ts (iR x).1,dE ts (iR x).2):P2 ts)=aU (dE ts x.1,dE ts x.2):=by
 show(dE ts x.1,dE ts (x.2.map fun q=>-q))=_;rw[re];rfl
theorem EQ(u:Rat×Rat)(w:P2 ts)(p:Rat×Rat)(o:P2 ts):gM (bZ u) (aU w) (bZ p) (aU o)=df (gM u w p o):=by
 have hn:cr (bZ u) (bZ u)=cr u u:=by unfold cr bZ;dsimp only;grind
 have hC:dM (bZ u) (aU w)=dM u w:=by
  unfold dM lQ;rw[hn];show(qE u.1*w.1+qE (-u.2)*-w.2)*_=_;rw[rW];grind
 have hS:dz (bZ u) (aU w)=-dz u w:=by
  unfold dz lQ;rw[hn];show(qE u.1*-w.2-qE (-u.2)*w.1)*_=_;rw[rW];grind
 unfold gM df;rw[hC,hS,GR]
 have hX:qN (bZ u) (aU w) (bZ p) (aU o)=qN u w p o:=by
  unfold qN;rw[hC,hS];show o.1-(dM u w*qE p.1 - -dz u w*qE (-p.2))=_;rw[rW];grind
 have hY:rv (bZ u) (aU w) (bZ p) (aU o)=-rv u w p o:=by
  unfold rv;rw[hC,hS];show -o.2-(-dz u w*qE p.1+dM u w*qE (-p.2))=_;rw[rW];grind
 rw[hX,hY,GR]
theorem uC(c p:Rat×Rat):cf (bZ c) (bZ p)=bZ (cf c p):=by
 unfold cf bZ;refine Prod.ext rfl ?_;dsimp only;grind
theorem Ge(u v:Rat×Rat):cr (bZ u) (bZ v)=cr u v:=by unfold cr bZ;dsimp only;grind
theorem aj0(u v:Rat×Rat):we (bZ u) (bZ v)=-we u v:=by unfold we bZ;dsimp only;grind
theorem Fm(p q:Rat×Rat):bI (bZ p) (bZ q)=bI p q:=by
 unfold bI;rw[uC,Ge]
def vn(h:Hd):Hd:=⟨bZ h.p,iR h.a,bZ h.c⟩
theorem acx(x:List Rat×List Rat)(h:Hd):jp ts (iR x) (vn h)=df (jp ts x h):=by
 unfold jp
 have e1:kE ts (vn h) (iR x)=aU (kE ts h x):=by
  show(dE ts x.1-dE ts h.a.1,dE ts (x.2.map fun q=>-q)-dE ts (h.a.2.map fun q=>-q))=aU (kE ts h x);rw[re,re];refine Prod.ext rfl ?_;show -dE ts x.2 - -dE ts h.a.2=-(dE ts x.2-dE ts h.a.2);grind
 have e2:mW ts (vn h)=aU (mW ts h):=L5 h.a;rw[e1,e2];show gM (cf (bZ h.c) (bZ h.p)) _ (bZ h.p) _=_;rw[uC,EQ]
theorem CL(p q:P2 ts):aE (aU p) (aU q)=aE p q:=by
 unfold aE;rw[kG,wW]
theorem VD(p q:P2 ts)(z z2:Et ts):bw (aU p) z (aU q) z2=bw p z q z2:=by
 unfold bw;rw[CL]
theorem L4(p q:P2 ts):gT (aU p) (aU q)=aU (gT p q):=by
 unfold gT aU;refine Prod.ext rfl ?_;dsimp only;grind
theorem E6(p v:P2 ts)(k:Et ts):cW (aU p) k (aU v)=aU (cW p k v):=by
 unfold cW aU;refine Prod.ext rfl ?_;dsimp only;grind
theorem S4(p q:P2 ts)(z z2:Et ts):dH (aU p) (aU q) z z2=aU (dH p q z z2):=by
 unfold dH;rw[CL,L4,E6]
theorem Rf{T:LL}:(qE ((-1:Int):Rat):Et T)=-1:=by
 have h:(qE (0-1):Et T)=qE 0-qE 1:=qL _ _;rw[show((-1:Int):Rat)=0-1 by decide +kernel,h];show(0:Et T)-1=-1;grind
theorem LF(X:Et ts)(f v:P2 ts)(c:Et (aW ts (sX X))):i7 X (aU f) (aU v) c=aU (i7 X f v (qE ((-1:Int):Rat)*c)):=by
 unfold i7 cW aU;dsimp only;rw[vR,vR,Rf];refine Prod.ext ?_ ?_
 ·dsimp only;grind
 ·dsimp only;grind
theorem Xp(p:P2 ts)(z z2:Et ts):k9 (aU p) z z2=⟨(k9 p z z2).ts,((k9 p z z2).ps.map iR).reverse⟩:=by
 unfold k9;split
 ·rfl
 ·split
  ·rfl
  ·have e:cW (aU p) 0 (aU p)=aU (cW p 0 p):=E6 p p 0;rw[e,ol];rfl
theorem S9(p q:P2 ts)(z z2:Et ts):d6 (aU p) (aU q) z z2=⟨(d6 p q z z2).ts,((d6 p q z z2).ps.map iR).reverse⟩:=by
 unfold d6;rw[CL,VD,S4,L4];split
 ·exact Xp p z z2
 ·split
  ·rfl
  ·split
   ·rw[ol];rfl
   ·rw [LF, LF, ol, ol];have e:∀ c:Et (aW ts (sX (bw p z q z2))),qE ((-1:Int):Rat) * (qE ((-1:Int):Rat) * c) = c:=fun c=>by rw [Rf]; grind
    rw[e];rfl
theorem abc(p q:P2 ts)(z z2:Et ts):gq (aU p) (aU q) z z2=gq p q z z2:=by
 unfold gq;rw[CL]
theorem F8(p q:P2 ts):bq (aU p) (aU q)=bq p q:=by
 show cJ (aT (aU q) (aU p)) (aT (aU q) (aU p))=_;rw[kG,wW]
theorem aju(p q c:P2 ts):bW (aU p) (aU q) (aU c)=bW p q c:=by
 show cJ (aT (aU q) (aU p)) (aT (aU c) (aU p))=_;rw[kG,kG,wW]
theorem Yg(p q c:P2 ts)(z:Et ts):aY (aU p) (aU q) (aU c) z=aY p q c z:=by
 have h:iD (aU p) (aU q) (aU c)=-iD p q c:=by
  show j8 (aT (aU q) (aU p)) (aT (aU c) (aU p))=_;rw[kG,kG,In]
 show bq (aU p) (aU q)*z-iD (aU p) (aU q) (aU c)*iD (aU p) (aU q) (aU c)=_;rw[h,F8];show _=bq p q*z-iD p q c*iD p q c;generalize iD p q c=C;grind
theorem N3(X:Et ts)(p v:P2 ts)(k:Et (aW ts (sX X))):kM X (aU p) (aU v) k=aU (kM X p v k):=by
 unfold kM cW aU;dsimp only;rw[vR,vR];refine Prod.ext rfl ?_;dsimp only;grind
theorem aja(p q c:P2 ts)(z:Et ts):eg (aU p) (aU q) (aU c) z=⟨(eg p q c z).ts,(eg p q c z).ps.map iR⟩:=by
 unfold eg;rw[F8,Yg,aju,kG];split
 ·rfl
 ·split
  ·rfl
  ·split
   ·rw[E6,ol];rfl
   ·rw[N3,N3,ol,ol];rfl
theorem ZV(p q:P2 ts):gd (aU p) (aU q)=gd p q:=by
 unfold gd;rw[F8]
end
def jq(kd:Int)(s:Sv):Sv:=⟨s.ts,s.ps.map df,if kd=1 then wX s.mode else s.mode⟩
theorem P7(vs:List (Rat×Rat)):fY (vs.map bZ)=fY vs:=by
 unfold fY;rw[apr];congr 1;refine Ps fun i hi=>?_
 rw[apq,apq,apv,aps hi];show(!decide (cr (bZ _) (bZ _)=0))=_;rw[Ge];rfl
theorem BO{m:Mt}{x y:List Rat×List Rat}(h:m.ps=[x,y])(hs:List Hd):gj m hs=[⟨m.ts,hs.map (jp m.ts x),1⟩,⟨m.ts,hs.map (jp m.ts y),-1⟩]:=by
 unfold gj kO;rw[h];rfl
theorem Dt{m:Mt}{x:List Rat×List Rat}(h:m.ps=[x])(hs:List Hd):gj m hs=[⟨m.ts,hs.map (jp m.ts x),0⟩]:=by
 unfold gj kO;rw[h];rfl
theorem Dy{m:Mt}(h:m.ps=[])(hs:List Hd):gj m hs=[]:=by
 unfold gj kO;rw[h];rfl
theorem vq(ts:LL)(x:List Rat×List Rat)(hs:List Hd):(hs.map vn).map (jp ts (iR x))=(hs.map (jp ts x)).map df:=by
 rw[map_map,map_map];exact aqz (fun h _=>acx x h)
theorem Vq(m:Mt)(hl:m.ps.length<=2)(hs:List Hd):gj ⟨m.ts,(m.ps.map iR).reverse⟩ (hs.map vn)=((gj m hs).map (jq 1)).reverse:=by
 match h:m.ps,hl with
 |[],_=>rw[Dy h,Dy rfl];rfl
 |[x],_ =>
  rw[Dt h,Dt (x:=iR x) rfl,vq];rfl
 |[x,y],_ =>
  rw[BO h,BO (x:=iR y) (y:=iR x) rfl,vq,vq];rfl
 |_::_::_::_,hl=>exact ard hl (by simp)
theorem Tf(m:Mt)(hl:m.ps.length<=2)(hs:List Hd):gj ⟨m.ts,m.ps.map iR⟩ (hs.map vn)=(gj m hs).map (jq 2):=by
 match h:m.ps,hl with
 |[],_=>rw[Dy h,Dy rfl];rfl
 |[x],_ =>
  rw[Dt h,Dt (x:=iR x) rfl,vq];rfl
 |[x,y],_ =>
  rw[BO h,BO (x:=iR x) (y:=iR y) rfl,vq,vq];rfl
 |_::_::_::_,hl=>exact ard hl (by simp)
theorem Yt{ts:LL}(p q:P2 ts)(z z2:Et ts):(d6 p q z z2).ps.length<=2:=by
 unfold d6 k9;split
 ·split
  ·simp
  ·split <;> simp
 ·split
  ·simp
  ·split <;> simp
theorem ajb{ts:LL}(p q c:P2 ts)(z:Et ts):(eg p q c z).ps.length<=2:=by
 unfold eg;split
 ·simp
 ·split
  ·simp
  ·split <;> simp
theorem XK{ts:LL}(v p:Rat×Rat)(o:P2 ts)(q:List Rat)(h:Rat)(d:Et ts)(w:P2 ts)(T:LL) :
  pO T ⟨bZ v,bZ p,P2.l (aU o),sh 0 ((-h:Rat):Rat),sX d,P2.l (aU w)⟩ q=df (pO T ⟨v,p,P2.l o,sh 0 (h:Rat),sX d,P2.l w⟩ q):=by
 have e1:sh 0 ((-h:Rat):Rat)=ra (sh 0 (h:Rat)):=HR 0 h
 have e2:mL T q (ra (sh 0 (h:Rat))) (sX d) (iR (P2.l w))=aU (mL T q (sh 0 (h:Rat)) (sX d) (P2.l w)):=by
  unfold mL wO vz aU;dsimp only;have n1:(dE T (ra (sh 0 (h:Rat))):Et T)=-dE T (sh 0 (h:Rat)):=re _;have n2:(dE T (iR (P2.l w)).2:Et T)=-dE T (P2.l w).2:=re _;have n3:(iR (P2.l w)).1=(P2.l w).1:=rfl;rw[n1,n2,n3];refine Prod.ext ?_ ?_
  ·dsimp only;grind
  ·dsimp only;grind
 have e3:((dE T (P2.l (aU o)).1,dE T (P2.l (aU o)).2):P2 T)=aU (dE T (P2.l o).1,dE T (P2.l o).2):=by rw[ol];exact L5 _
 show gM (bZ v) (mL T q (sh 0 ((-h:Rat):Rat)) (sX d) (P2.l (aU w))) (bZ p) (dE T (P2.l (aU o)).1,dE T (P2.l (aU o)).2)=df (gM v (mL T q (sh 0 (h:Rat)) (sX d) (P2.l w)) p (dE T (P2.l o).1,dE T (P2.l o).2));rw[e3,ol w,e1,e2,EQ]
def ul(ts:LL)(p q:P2 ts)(p0 c0 p1 c1:Rat×Rat):List Sv×Nat :=
  if fY [cf c0 p0,cf c1 p1]=true then([],15)
  else if gq p q (qE (bI c0 p0)) (qE (bI c1 p1))≠0 then([],gq p q (qE (bI c0 p0)) (qE (bI c1 p1)))
  else(gj (d6 p q (qE (bI c0 p0)) (qE (bI c1 p1))) [⟨p0,P2.l p,c0⟩,⟨p1,P2.l q,c1⟩],0)
def tu(ts:LL)(n t o:P2 ts)(p c:Rat×Rat):List Sv×Nat :=
  if fY [cf c p]=true then([],15)
  else if gd n t≠0 then([],gd n t)
  else(gj (eg n t o (qE (bI c p))) [⟨p,P2.l o,c⟩],0)
def tU(ts:LL)(o w:P2 ts)(v p:Rat×Rat)(h n:Rat):List Sv×Nat :=
  if ao (cJ w w)=0/\ao (qE h:Et ts)=0 then([],15)
  else if ao (qE n*cJ w w-qE h*qE h)<0 then([],0)
  else if 0<ao (qE n*cJ w w-qE h*qE h)then(jK (aW ts (sX (qE n*cJ w w-qE h*qE h))) ⟨v,p,P2.l o,sh 0 (h:Rat),sX (cJ w w),P2.l w⟩ [dg ts.length,sX (-bJ (qE n*cJ w w-qE h*qE h))],0)
  else(jK ts ⟨v,p,P2.l o,sh 0 (h:Rat),sX (cJ w w),P2.l w⟩ [[]],0)
section
variable{ts:LL}
theorem Vz(p q:P2 ts)(p0 c0 p1 c1:Rat×Rat):ul ts (aU p) (aU q) (bZ p0) (bZ c0) (bZ p1) (bZ c1)=(((ul ts p q p0 c0 p1 c1).1.map (jq 1)).reverse,(ul ts p q p0 c0 p1 c1).2):=by
 unfold ul;rw[uC,uC,Fm,Fm,abc,S9,ol,ol];have hz:fY [bZ (cf c0 p0),bZ (cf c1 p1)]=fY [cf c0 p0,cf c1 p1]:=P7 [_,_];rw[hz];split
 ·rfl
 ·split
  ·rfl
  ·exact are (fun z=>(z,0)) (Vq _ (Yt _ _ _ _) [⟨p0,P2.l p,c0⟩,⟨p1,P2.l q,c1⟩])
theorem abt(n t o:P2 ts)(p c:Rat×Rat):tu ts (aU n) (aU t) (aU o) (bZ p) (bZ c)=((tu ts n t o p c).1.map (jq 2),(tu ts n t o p c).2):=by
 unfold tu;rw[uC,Fm,ZV,aja,ol];have hz:fY [bZ (cf c p)]=fY [cf c p]:=P7 [_];rw[hz];split
 ·rfl
 ·split
  ·rfl
  ·exact are (fun z=>(z,0)) (Tf _ (ajb _ _ _ _) [⟨p,P2.l o,c⟩])
theorem TV(o w:P2 ts)(v p:Rat×Rat)(h n:Rat):tU ts (aU o) (aU w) (bZ v) (bZ p) (-h) n=((tU ts o w v p h n).1.map (jq 3),(tU ts o w v p h n).2):=by
 have hX:(qE n*cJ w w-qE (-h)*qE (-h):Et ts)=qE n*cJ w w-qE h*qE h:=by rw[rW];grind
 have hs:(ao (cJ w w)=0/\ao (qE (-h):Et ts)=0)↔(ao (cJ w w)=0/\ao (qE h:Et ts)=0):=by
  rw[BS,BS,N4];exact and_congr_right fun _=>by omega
 have hZ:∀(T:LL)(qs:LL),jK T ⟨bZ v,bZ p,P2.l (aU o),sh 0 ((-h:Rat):Rat),sX (cJ w w),P2.l (aU w)⟩ qs=(jK T ⟨v,p,P2.l o,sh 0 (h:Rat),sX (cJ w w),P2.l w⟩ qs).map (jq 3):=fun T qs=>by
  unfold jK;rw[map_map];refine aqz fun k _=>?_
  show j4 T _ qs k=jq 3 (j4 T _ qs k);unfold j4 jq;rw[XK];rfl
 unfold tU;rw[wW,hX,hZ,hZ]
 by_cases h1:ao (cJ w w)=0/\ao (qE h:Et ts)=0
 ·rw[aq7 h1,aq7 (hs.2 h1)];rfl
 ·rw[aq6 h1,aq6 (fun h9=>h1 (hs.1 h9))];split
  ·rfl
  ·split <;> rfl
end
section
variable(l:Li)(a:Aq)
theorem Hb(b pt:Int):bi (bt l) (cg l a).as b pt=(aU (bi l a.as b pt):P2 (llq a.as.rs)):=by
 rw[kC,kC,nH,nH];exact om l a.bs b pt
theorem wg(j:Jt)(b:Int):aC (bt l) (cg l a).as j b=(aU (aC l a.as j b):P2 (llq a.as.rs)):=by
 rw[qM,qM,nH,nH];exact zV l a.bs j b
end
theorem Kc(l:Li)(a:As)(i k:Int)(j0 j1 j2:Jt):(jX l a i k j0 j1 j2,(nP l a i k j0 j1 j2).2)=ul (llq a.rs) (aC l a j0 i) (aC l a j1 k) (am l j0 i) (am l j2 i) (am l j1 k) (am l j2 k):=by
 unfold jX nP ul;split
 ·rfl
 ·split <;> rfl
theorem Lr(l:Li)(a:As)(i:Int)(j0 j:Jt):(j5 l a i j0 j,(oi l a i j0 j).2)=tu (llq a.rs) (bi l a j.b j.on) (bi l a j.b j.to) (aC l a j0 i) (am l j0 i) (aX l i j.point):=by
 unfold j5 oi tu;split
 ·rfl
 ·split <;> rfl
theorem Ob(l:Li)(a:As)(i:Int)(j0 j:Jt):(kr l a i j0 j,(lR l a i j0 j).2)=tU (llq a.rs) (aC l a j0 i) (cm l a i j0 j) (cK l i j) (am l j0 i) (cH l i j0 j) (jr l i j):=by
 unfold kr lR tU bE cO;split
 ·rfl
 ·split
  ·rfl
  ·split <;> rfl
section
variable(l:Li)(a:Aq)
theorem afs(i k:Int)(j0 j1 j2:Jt):(jX (bt l) (cg l a).as i k j0 j1 j2,(nP (bt l) (cg l a).as i k j0 j1 j2).2)=(((jX l a.as i k j0 j1 j2).map (jq 1)).reverse,(nP l a.as i k j0 j1 j2).2):=by
 rw[Kc];show ul (llq a.as.rs) (aC (bt l) (cg l a).as j0 i) (aC (bt l) (cg l a).as j1 k) _ _ _ _=_;rw[wg,wg,qO,qO,qO,qO,Vz,<- Kc]
theorem YF(i:Int)(j0 j:Jt):(j5 (bt l) (cg l a).as i j0 j,(oi (bt l) (cg l a).as i j0 j).2)=((j5 l a.as i j0 j).map (jq 2),(oi l a.as i j0 j).2):=by
 rw[Lr];show tu (llq a.as.rs) (bi (bt l) (cg l a).as j.b j.on) (bi (bt l) (cg l a).as j.b j.to) (aC (bt l) (cg l a).as j0 i) _ _=_;rw[wg,Hb,Hb,qO,tH,abt,<- Lr]
theorem agy(i:Int)(j0 j:Jt):(kr (bt l) (cg l a).as i j0 j,(lR (bt l) (cg l a).as i j0 j).2)=((kr l a.as i j0 j).map (jq 3),(lR l a.as i j0 j).2):=by
 have hW:cm (bt l) (cg l a).as i j0 j=(aU (cm l a.as i j0 j):P2 (llq a.as.rs)):=by
  show aT (ts:=llq a.as.rs) (bi (bt l) (cg l a).as j.a j.point) (aC (bt l) (cg l a).as j0 i)=_;rw[Hb,wg];exact kG _ _
 have hV:cK (bt l) i j=bZ (cK l i j):=by
  unfold cK;rw[tH,tH,uC]
 have hN:jr (bt l) i j=jr l i j:=by
  unfold jr;rw[hV,Ge]
 have hH:cH (bt l) i j0 j=-cH l i j0 j:=by
  unfold cH;rw[hV,tH,qO,uC,aj0]
 rw[Ob];show tU (llq a.as.rs) (aC (bt l) (cg l a).as j0 i) (cm (bt l) (cg l a).as i j0 j) _ _ _ _=_;rw[wg,hW,hV,qO,hH,hN,TV,<- Ob]
theorem Y0(i:Int)(j0:Jt)(x:Tn)(hx:x.err=0):lC (bt l) (cg l a).as i j0 (en x)=(lC l a.as i j0 x).map (jq 0)/\(pM (bt l) (cg l a).as i j0 (en x)).2=(pM l a.as i j0 x).2:=by
 have h0:=Co hx
 have e:ot (bt l) (cg l a).as i j0 (en x)=df (ot l a.as i j0 x):=by
  show gM (ts:=llq a.as.rs) (((1:Int):Rat),0) (qE (dT x.half (rt (-x.t.q)).q),qE (dV x.half (rt (-x.t.q)).q)) (am (bt l) j0 i) (aC (bt l) (cg l a).as j0 i)=_;rw[wg,qO,bN,E1,HB,rW];have e1:(((1:Int):Rat),(0:Rat))=bZ (((1:Int):Rat),0):=by unfold bZ;rw[show -(0:Rat)=0 by grind]
  have e2:=EQ (ts:=llq a.as.rs) (((1:Int):Rat),0) (qE (dT x.half x.t.q),qE (dV x.half x.t.q)) (am l j0 i) (aC l a.as j0 i);rw[<- e1]at e2;exact e2
 unfold lC pM;rw[aq6 (fun h=>h h0),aq6 (fun h=>h hx),aq6 (fun h=>h h0),aq6 (fun h=>h hx),e];exact⟨rfl,rfl⟩
end
theorem M8(f:Pq->Pq):∀(is:List Int)(ps bs:List Pq),(ba bs is ps).map f=ba (bs.map f) is (ps.map f)
 |[],ps,bs=>by unfold ba;rfl
 |i::is,[],bs=>by unfold ba;rfl
 |i::is,p::ps,bs=>by
  have h:=M8 f is ps (bs.set i.toNat p);unfold ba at h ⊢;rw[aq2,List.zip_cons_cons,List.zip_cons_cons,aq5,aq5,h,aq0]
theorem P9{l:Li}{a:Aq}{g:Gr}(hg:(splitG l)[a.ms.length]?=some g)(s:Sv):cg l (a.nxt g s)=(cg l a).nxt g (jq g.kind s):=by
 have h1:(ba a.bs g.bo s.ps).map df=ba (a.bs.map df) g.bo (s.ps.map df):=M8 _ _ _ _
 have h2:(List.range (a.ms++[s.mode]).length).map (gL l (a.nxt g s))=(List.range a.ms.length).map (gL l a)++[(jq g.kind s).mode]:=by
  rw[aqk,List.length_singleton,range_succ,ap8,anl];congr 1
  ·refine aqz fun k hk=>?_
   have hk:=an2.1 hk
   have e:(a.nxt g s).ms.getD k 0=a.ms.getD k 0:=by
    show(a.ms++[s.mode]).getD k 0=_;rw[apq,apq,aqc hk]
   unfold gL;rw[e]
  ·have e:(a.nxt g s).ms.getD a.ms.length 0=s.mode:=by
    show(a.ms++[s.mode]).getD a.ms.length 0=_;rw[apq,aqb (apu _),Nat.sub_self];rfl
   unfold gL;rw[ax hg,e];rfl
 show(⟨s.ts,(ba a.bs g.bo s.ps).map df,(List.range (a.ms++[s.mode]).length).map (gL l (a.nxt g s))⟩:Aq)=⟨s.ts,ba (a.bs.map df) g.bo (s.ps.map df),(List.range a.ms.length).map (gL l a)++[(jq g.kind s).mode]⟩;rw[h1,h2]
theorem W7(l:Li):cg l (d8 l)=d8 (bt l):=by
 have h1:((ana l.bo.length bg).set 0 lh).map df=(ana (bt l).bo.length bg).set 0 lh:=by
  rw[aq0,aqu,qd];rfl
 show(⟨[],((ana l.bo.length bg).set 0 lh).map df,[]⟩:Aq)=_;rw[h1];rfl
theorem E4{A B M:List Sv}{e e':Nat}(h:(A,e)=(B,e'))(hp:B.Perm M):A.Perm M/\e=e':=by cases h;exact⟨hp,rfl⟩
theorem ahv(l:Li)(a:Aq)(g:Gr)(x:Tn)(hx:g.kind=0->x.err=0)(y:Tn)(hy:g.kind=0->y=en x) :
  (fq (bt l) (cg l a).as g y).Perm ((fq l a.as g x).map (jq g.kind))/\mO (bt l) (cg l a).as g y=mO l a.as g x:=by
 have hj:∀k,aq (bt l) g k=aq l g k:=fun k=>rfl
 unfold mO fq me
 by_cases h0:g.kind=0
 ·rw[aq7 h0,aq7 h0,aq7 h0,aq7 h0,h0,hy h0,hj];obtain⟨e1,e2⟩:=Y0 l a (aV g 0) (aq l g 0) x (hx h0);rw[e1,e2];exact⟨.refl _,rfl⟩
 ·rw[aq6 h0,aq6 h0,aq6 h0,aq6 h0]
  by_cases h1:g.kind=1
  ·rw[aq7 h1,aq7 h1,aq7 h1,aq7 h1,h1,hj,hj,hj];exact E4 (afs l a _ _ _ _ _) (List.reverse_perm _)
  ·rw[aq6 h1,aq6 h1,aq6 h1,aq6 h1]
   have hm:∀k:Int,k≠1->jq g.kind=jq k:=fun k hk=>by
    funext s;unfold jq;rw[aq6 h1,aq6 hk]
   by_cases h2:g.kind=2
   ·rw[aq7 h2,aq7 h2,aq7 h2,aq7 h2,hj,hj,hm 2 (by decide)];exact E4 (YF l a _ _ _) (.refl _)
   ·rw[aq6 h2,aq6 h2,aq6 h2,aq6 h2,hj,hj,hm 3 (by decide)];exact E4 (agy l a _ _ _) (.refl _)
theorem JN{k:Nat}{f:Sv->List Aq×Nat}:∀{S:List Sv},(∀s∈S,(f s).2=0)->gw (eJ k) false f S=(S.flatMap fun s=>(f s).1,0)
 |[],h=>rfl
 |s::S,h=>by
  rw[sD,aq6 (show ¬eJ k s.mode=false by simp[eJ]),aq6 (fun h9=>h9 (h s aqr)),aq6 (by decide),JN (fun t ht=>h t (aqq _ ht)),aq3]
theorem XS{α β:Type}(f:α->List β){L M:List α}(h:L.Perm M):(L.flatMap f).Perm (M.flatMap f):=by
 induction h with
 |nil=>exact .refl _
 |cons x _ ih=>rw[aq3,aq3];exact ih.append_left _
 |swap x y l =>
  rw[aq3,aq3,aq3,aq3,<- aqt,<- aqt];exact List.perm_append_comm.append_right _
 |trans _ _ h1 h2=>exact h1.trans h2
theorem My{α β:Type}{f g:α->List β}:∀{L:List α},(∀x∈L,(f x).Perm (g x))->(L.flatMap f).Perm (L.flatMap g)
 |[],h=>.refl _
 |x::L,h=>by
  rw[aq3,aq3];exact(h x aqr).append (My (fun y hy=>h y (aqq _ hy)))
section
variable{l:Li}{xs:List Tn}{s g:Nat}(W:WkC l xs s g)
include W
theorem afv{k:Nat}{gr:Gr}(hg:(splitG l)[k]?=some gr):gr.kind=0->(cw gr xs).err=0/\cw gr (xs.map en)=en (cw gr xs):=by
 intro hk;have h:=Fp (W.grp hg).1 hk;have hl:=W.ln;have hi:gr.driver.toNat<xs.length:=by omega
 unfold cw;rw[aq7 hk,aq7 hk,KE xs _ hi];refine⟨?_,rfl⟩;have hx:=aps hi;rw[ax hx];exact(W.ok _ (apo hx)).2.1
theorem M2:∀(n:Nat)(a:Aq),WkSt l s g n a->(fP eJ false l xs (splitG l) n a).2=0 ->
  (fP eJ false (bt l) (xs.map en) (splitG l) n (cg l a)).2=0/\(fP eJ false (bt l) (xs.map en) (splitG l) n (cg l a)).1.Perm ((fP eJ false l xs (splitG l) n a).1.map (cg l))
 |0,a,h,he=>⟨rfl,.refl _⟩
 |n+1,a,h,he=>by
  obtain⟨gr,hg,_,hP,hn⟩:=h.next W;have cZ:(splitG (bt l))[(cg l a).ms.length]?=some gr:=by rw[tE,qY];exact hg
  have mt:=Qk (F:=eJ) (sg:=false) (l:=bt l) (xs:=xs.map en) (n:=n) cZ;rw[qY,tE]at mt;have hx:=afv W hg;obtain⟨p1,p2⟩:=ahv l a gr (cw gr xs) (fun hk=>(hx hk).1) (cw gr (xs.map en)) (fun hk=>(hx hk).2);rw[mt];rw[Qk hg]at he ⊢;split at he
  ·rename_i h1;exact ard he h1
  ·rename_i h1;rw [aq6 h1,aq6 (by rw [p2]; exact h1)];obtain ⟨h2,h3⟩:=M1 he;have ih:∀ sv ∈ fq l a.as gr (cw gr xs),_:=fun sv gQ=>M2 n _ (hn sv gQ) (h2 sv gQ)
   have Jb:∀t∈fq (bt l) (cg l a).as gr (cw gr (xs.map en)),(fP eJ false (bt l) (xs.map en) (splitG l) n ((cg l a).nxt gr t)).2=0:=fun t ht=>by
    obtain⟨sv,gQ,e⟩:=anx.1 (p1.mem_iff.1 ht);rw[<- e,<- P9 hg];exact(ih sv gQ).1
   rw[JN Jb,h3];refine⟨rfl,?_⟩;refine(XS _ p1).trans ?_;rw[List.flatMap_map,List.map_flatMap];exact My (fun sv gQ=>by rw[<- P9 hg];exact(ih sv gQ).2)
theorem Re:WkC (bt l) (xs.map en) s g:=by
 refine⟨yL W.hl,Bl W.li,by rw[Gg];exact W.sp,?_,by rw[apr];exact W.ln,?_⟩
 ·intro b hb m hm;obtain⟨b0,mr,rfl⟩:=anx.1 hb;obtain⟨m0,uS,rfl⟩:=anx.1 hm;obtain⟨c1,c2⟩:=W.cs b0 mr m0 uS;refine⟨by show Qb s (rt m0.x.q).q;rw[bN];exact c1,?_⟩;show Qb s (rt (-m0.y.q)).q;rw[bN];exact c2.neg
 ·intro x hx;obtain⟨x0,ik,rfl⟩:=anx.1 hx;obtain⟨c1,c2,c3,c4,c5⟩:=W.ok x0 ik;refine⟨NJ c3 oz,Co c2,?_,?_,?_⟩
  ·show Qb 1000 (rt (-x0.t.q)).q;rw[bN];exact c3.neg
  ·show Cb g [dT x0.half (rt (-x0.t.q)).q];rw[bN,E1];exact c4
  ·show Cb g [dV x0.half (rt (-x0.t.q)).q];rw[bN,HB];exact c5.minus
theorem VS{n:Nat}(h:WkSt l s g n (d8 l)):WkSt (bt l) s g n (d8 (bt l)):=by
 have _:=W;have e:d8 (bt l)=d8 l:=by unfold d8;rw[qd]
 rw[e];obtain⟨⟨j,r,E,y,Q,ok,hc⟩,hl⟩:=h;exact⟨⟨j,r,E,y,⟨Q.tw,Q.lv,Q.bs,by rw[qd];exact Q.ln⟩,ok,by rw[qY];exact hc⟩,by rw[qY];exact hl⟩
end
theorem akf{m:Int}(h:m=-1\/m=0\/m=1):wX (wX m)=m:=by
 rcases h with rfl |rfl |rfl <;> rfl
theorem PC(x:List Rat):(x.map fun q=>-q).map (fun q=>-q)=x:=by
 rw[map_map];exact(aqz fun q _=>by show - -q=q;grind).trans (map_id x)
theorem aet{l:Li}{a:Aq}(M:AqSg l a):cg (bt l) (cg l a)=a:=by
 have h1:(a.bs.map df).map df=a.bs:=by
  rw[map_map];exact(aqz fun p _=>by show(⟨p.c,(p.s.map fun q=>-q).map fun q=>-q,p.x,(p.y.map fun q=>-q).map fun q=>-q⟩:Pq)=p;rw[PC,PC]).trans (map_id a.bs)
 have eL:=M.ml
 have h2:(List.range (cg l a).ms.length).map (gL (bt l) (cg l a))=a.ms:=by
  rw[tE];refine List.ext_getElem? fun k=>?_
  by_cases hk:k<a.ms.length
  ·obtain⟨m,hm⟩:=ay hk;obtain⟨g,hg⟩:=ay (l:=splitG l) (i:=k) oz;rw[apv,List.getElem?_range hk,hm];show some (gL (bt l) (cg l a) k)=some m;congr 1;have io:=M.sg k g hk hg;rw[ax hm]at io;unfold gL;rw[qY,LV hk];unfold gL;rw[ax hg,ax hm]
   by_cases h:g.kind=1
   ·rw[aq7 h,aq7 h];exact akf (by rw[<- io];exact T.sgn_cases (aw a.ts) a.ts.length (dB l a.ts a.bs g))
   ·rw[aq6 h,aq6 h]
  ·rw[ap6 (by rw[apr,ane];omega),ap6 oz]
 show(⟨a.ts,(a.bs.map df).map df,(List.range (cg l a).ms.length).map (gL (bt l) (cg l a))⟩:Aq)=a;rw[h1,h2]
theorem G8{l:Li}{xs:List Tn}(h:da l xs=0):da (bt l) (xs.map en)=0:=by
 obtain⟨h1,h2,h3,h4⟩:=Kq h;rw[y9 (Bl h1) (by rw[Gg];exact h2),aq6 (by rw[apr];exact fun h=>h h3)];refine rf fun y hy=>?_
 obtain⟨x,hx,rfl⟩:=anx.1 hy;exact Co (h4 x hx)
theorem ahw{l:Li}{xs:List Tn}{s g:Nat}(W:WkC l xs s g)(St:WkSt l s g (splitG l).length (d8 l)){A:List Aq}(h0:da l xs=0)(h:kq l xs=(A,0)):∃B,kq (bt l) (xs.map en)=(B,0)/\B.Perm (A.map (cg l)):=by
 unfold kq at h;rw[aq6 (fun h9=>h9 h0)]at h
 by_cases hE:(nW eJ false l xs).2≠0
 ·rw[aq7 hE]at h;exact ard (are Prod.snd h) hE
 ·rw[aq6 hE]at h;have hE:=apn.1 hE;obtain⟨h1,h2⟩:=M2 W _ _ St hE;rw[W7]at h1 h2
  have e:nW eJ false (bt l) (xs.map en)=fP eJ false (bt l) (xs.map en) (splitG l) (splitG l).length (d8 (bt l)):=by
   unfold nW;rw[qY]
  have eA:(fP eJ false l xs (splitG l) (splitG l).length (d8 l)).1=A:=are Prod.fst h;rw[eA]at h2;refine⟨_,?_,h2⟩;unfold kq;rw[aq6 (fun h9=>h9 (G8 h0)),e,aq6 (fun h9=>h9 h1)];exact Prod.ext rfl h1
theorem abz:aF∈(fP eJ false fb [dY] (splitG fb) (splitG fb).length (d8 fb)).1:=by
 have h:(fP eJ false fb [dY] (splitG fb) (splitG fb).length (d8 fb))=([aF],0):=abm;rw[h];exact am8.2 rfl
theorem Uu:AqFin fb [dY] aF:=by
 obtain⟨h1,h2⟩:=Ic Du (F:=eJ) (sg:=false) _ _ OZ (Lb fb _ (by decide)) _ abz;exact Ri Du h1 h2
theorem ae2:(List.range 2).all (fun m=>decide (ao (dB fb aF.ts aF.bs ((splitG fb).getD m default))=aF.ms.getD m 0))=true:=by decide +kernel
theorem aj3:AqSg fb aF:=by
 refine⟨⟨Du.sp,by decide +kernel⟩,fun m g hm hg=>?_⟩;have h:=ap3.1 ae2 m (an2.2 hm);rw[ax hg]at h;exact aq9 h
def MR:List Aq×Nat:=nW (Mc [1,0]) true fb [dY]
theorem JF:MR=([aF],0):=by decide +kernel
theorem fb_one:FP 69 [fb.av,.lst 4 [dY.av],.lst 1 [i64 1,i64 0]] (.tup [aF.av,bG 0]):=by
 have cP:=GK fb zC [dY] (fun x hx=>by rw[am8.1 hx];exact E2) (by show 1<=100;omega);have hp:([]:List Aq).length+2^(splitG fb).length<=1000:=by decide +kernel
 have mx:(splitG fb).length=2:=by decide +kernel
 have hw:=fun(hm:([1,0]:List Int).length=(splitG fb).length)=>Io Du (Mc [1,0]) true (fo:=162) (caps:=[.iptr [.lst 1 (([1,0]:List Int).map i64)]]) (fun k m hk=>aci (modes:=[1,0]) (by show k<2;omega) (by decide) m) (splitG fb).length (d8 fb) OZ [] hp
 have hA:=ahc (modes:=[1,0]) (by decide) aie cP (by show 0<4;omega) (by show 4<=100;omega) oz (R:=MR) hw (by rw[JF];decide);rw[JF,mx]at hA;exact hA
theorem Dp(s:ByteArray)(n:Int):jQ (kS s n)=kS s n:=by
 have h0:-((0:Int):Rat)=((0:Int):Rat):=by decide +kernel
 have h:∀(t:ByteArray)(q:Rat),ka ⟨t,rt q,rt ((0:Int):Rat)⟩=⟨t,rt q,rt ((0:Int):Rat)⟩:=fun t q=>by
  show(⟨t,rt (rt q).q,rt (-(rt ((0:Int):Rat)).q)⟩:Mk)=_;rw[bN,bN,h0]
 show(⟨s,[ka ⟨⟨#[97]⟩,rt ((0:Int):Rat),rt ((0:Int):Rat)⟩,ka ⟨⟨#[98]⟩,rt (n:Rat),rt ((0:Int):Rat)⟩]⟩:Bd)=kS s n;rw[h,h];rfl
theorem XG:AL fb=fb:=by
 rw[FO CI];show(⟨fb.name,[jQ (kS ⟨#[102,114,97,109,101]⟩ 4),jQ (kS ⟨#[99,114,97,110,107]⟩ 3),jQ (kS ⟨#[99,111,117,112,108,101,114]⟩ 5),jQ (kS ⟨#[114,111,99,107,101,114]⟩ 6)],fb.jo,fb.dv⟩:Li)=fb;rw[Dp,Dp,Dp,Dp];rfl
theorem Kl:FP 18 [] (bl true):=by
 have hO:=Pt zC Uu aj3 (by decide);have hM:=Lk fb zC;rw[CI,XG]at hM;refine ai func18 ?_;refine gc adv ?_;refine gc (Con.sA (.cons (.refl _) (.cons KS (.cons (.refl _) .nil))) fb_one) ?_;refine gc (Con.sA (.cons (.refl _) (.cons KS (.cons (.refl _) .nil))) hO) ?_;refine gc hM ?_;refine bT (fun _=>(E0 [1,0] (by decide))) ?_;refine bT (fun _=>(ac2 fb zC)) ?_;refine ah ?_;rfl
theorem Yw{l:Li}{xs:List Tn}{a:Aq}(F:AqFin l xs a):AqOk a:=by
 obtain⟨r,hr,tw⟩:=F.tw;have h2:=F.ln;have h3:=(dK F.li).2.2.2.1;exact⟨⟨r,tw⟩,F.two,fun p hp=>(F.bs p hp).up (apu _) tw.five oz,by omega,F.lm⟩
theorem Wz(l:Li)(hw:l.okw)(xs:List Tn)(kz:∀x∈xs,x.t.wok)(fJ:xs.length<=281474976710656):FP 4 [l.av,.lst 4 (xs.map Tn.av)] (bl true):=by
 refine ai func4 ?_;refine gc Kl ?_;refine bT (fun _=>(YY l hw xs fJ)) ?_;refine bT (fun h=>(Po l (Cv (Ew (aag h) kz).1 hw))) ?_;refine gC (fun z=>?_) (fun z=>?_)
 ·refine gc Kl ?_;refine ah ?_;rfl
 obtain⟨h1,au⟩:=Yk z;obtain⟨g1,Ec,oE⟩:=Ew h1 kz;have hl:=Cv g1 hw;obtain⟨A,e,P⟩:=aac hl h1 kz;have FF:=V6 hl h1 kz P.eq;have MM:=adh hl h1 kz P.eq;have hAl:=P.ln;have hM:=Lk l hl;rw[au,FO au]at hM
 obtain⟨ys,te,hT,hys⟩:∃ys te,FP 21 [.lst 4 (xs.map Tn.av)] (.tup [.lst 4 (ys.map Tn.av),bG te])/\(sS xs=0->ys=xs.map en/\te=0) :=
  ⟨_,_,Un xs oE oz,fun h=>⟨QV h,h⟩⟩
 refine gc P.all ?_;refine gc hM ?_;refine gc hT ?_;refine gC (fun z=>?_) (fun z=>?_)
 ·have he:e≠0:=ef z;have hA:=aj7 P.eq he;subst hA;refine gl ?_;refine ah ?_;rfl
 have he:e=0:=dS z;have cP:=Y8 P.eq he;obtain⟨s0,g0,W,St⟩:=Be h1 hl kz cP;have nB:=OO (fun x hx=>(W.ok x hx).2.1);obtain⟨rfl,rfl⟩:=hys nB;have SV:=P.eq;rw[he]at SV;obtain⟨B,hBe,Jp⟩:=ahw W St cP SV;obtain⟨B2,e2,P2⟩:=MG (Re W) (by rw[qY];exact VS W St) (G8 cP) (by rw[apr];exact Ec);have SW:=P2.eq;rw[hBe]at SW;cases SW;have bV:B.length=A.length:=by rw[Jp.length_eq,apr]
 have SX:=aal (bt l) (yL hl) (Bl au) (xs.map en) (fun x hx=>((Re W).ok x hx).1) (by rw[apr];omega);rw[G8 cP]at SX;have Jq:(xs.map en).length<=281474976710656:=by rw[apr];exact fJ
 have z0:gI (lw 0)=true:=rfl;refine bT (fun _=>SX) ?_;refine gf ?_;refine gc P2.all ?_;refine cA ?_;refine cA ?_;refine gC (fun z=>?_) (fun z=>?_) (st1:=(12,0));exact ard z (by simp[aa,bV,z0]);refine gl ?_;refine aS [1,2,7,9,11,89,90] [2,7] (fun(i:Nat)=>[pP 91 (i64 i)]) (fun _=>[]) (fun i=>i<=A.length) (fun i=>A.length-i) 0 (apx _) ?_;rintro i hi K1 J1;refine gC (fun z=>?_) (fun z=>?_)
 ·have ae:=a7 z;obtain ⟨a,ha⟩:=ay ae;have Jr:=apo ha;have F:=FF a Jr;have M:=VR (MM a Jr);have dp:=F.lm;have als:(cg l a).ms.length <= 100:=by rw [tE]; exact dp
  obtain⟨r,hr,tw⟩:=F.tw;have F':=ab3 F;have M':=aao tw M;have hq:=QS (yL hl) F' M'.toAqM0 Jq;rw[aet M]at hq;have Iu:cg l a∈B:=Jp.mem_iff.2 (anx.2 ⟨a,Jr,rfl⟩);refine gi (aA ha) ?_;refine gc (QS hl F M.toAqM0 fJ) ?_;refine gc (Jv (yL hl) F' Jq) ?_;refine gc hq ?_;refine gc (Pt (yL hl) F' M' Jq) ?_;refine bT (fun _=>(ZL (Yw F))) ?_;refine bT (fun _=>(E0 (cg l a).ms oz)) ?_;refine gf ?_;refine gl ?_;refine aS [1,2,7,9,11,89,90,91,15,155,156] [2,7,15] (fun(j:Nat)=>[pP 24 (bl ((B.take j).any fun d=>decide (d.ms=(cg l a).ms))),pP 157 (i64 j)]) (fun _=>[]) (fun j=>j<=B.length) (fun j=>B.length-j) 0 (apx _) ?_;rintro j hj K2 J2;refine gC (fun z=>?_) (fun z=>?_)
  ·have fL:=a7 z;obtain ⟨d,hd⟩:=ay fL;obtain ⟨a2,u4,dP⟩:=anx.1 (Jp.mem_iff.1 (apo hd));have tg:d.ms.length <= 100:=by rw [<- dP,tE]; exact (FF a2 u4).lm
   refine gi (aA hd) ?_;refine bT (fun _=>(KK d.ms (cg l a).ms oz oz)) ?_;refine ga aN ?_;exact aM J2 (j+1) fL (hw:=Wk.of (.cons rfl (.of (by rw[dJ hd,List.any_append];simp;rfl)) (.k (.k (.k (.k (.k (.k (.k (.k (.k (.k (.k (.k .nil))))))))))))) (.k (.k (.k .nil))))
  have fL:=bj hj z;subst fL;have ali:(B.any fun d=>decide (d.ms=(cg l a).ms))=true:=am7.2 ⟨_,Iu,arb rfl⟩;refine gC (fun z=>?_) (fun z=>?_) (st1:=(29,0));exact ard z (by rw[ap5,ali];decide);refine ga aN ?_;exact aM J1 (i+1) ae
 refine ah ?_;rfl
open Go.Proofs Go.Proofs.YtokaoegjfpjjnaaGreat
open Go.ChangeShapes Go.WideShapes Go.ChangeAt Go.RowKit
set_option maxRecDepth 100000 in
theorem aho(os:Os)(started:os.Started)(H:Type)(enc:ari×arh->H) :
  ReturnsInHanded {} Tryz.checked os 4 .any (Rows.modesImageSpec.pre6 enc prog Tryz.f4 Rows.modesImageRow.domain false) (Rows.modesImageSpec.post enc prog Tryz.f4 false true false false):=by
 refine returnsInHanded_of_change_sized (C := Tryz.checked) own started (by kernel_rfl) func4
  (ChangeSpec.witness6 (enc:=enc) (C:=Tryz.checked) false ⟨#[],#[.agg #[.string ⟨#[]⟩,.slice none 0 0,.slice none 0 0,.slice none 0 0],.slice none 0 0],[]⟩ 8 (by kernel_rfl) (by kernel_rfl) (by kernel_rfl) (by kernel_rfl)) ?_
 intro W base args ds gs before SY hW alt SZ _;have ic:∀(j:Nat) t v,Tryz.f4.params[j]?=some t->args[j]?=some v->Value.okWide prog W .any base t v:=SY;have er:(DataW.weightsEach prog (Tryz.f4.params.toList++Rows.modesImageSpec.plain.varTypes prog) (ds++gs)).all (· <= reachBytes)=true:=SZ;have hW':=hW;obtain⟨p,q,S0,hV,rfl,hfz,dN⟩:=hW;have hA:DataW.TrodAll enc prog W 0 (fun _=>true) true Tryz.f4.params.toList args.toList ds p:=S0;rw[Tryz.params4]at hA ic er;obtain⟨v0,v1,d0,d1,p0,p1,rfl,rfl,rfl,h0,h1⟩:=trodAll_two hA;obtain⟨rfl,rfl⟩:=trodVars_none hV;clear S0 SY SZ;have hlt:∀x∈p0++p1,x.block<W.heap.size:=fun x hx=>hW'.lt x (by simpa using hx)
 have IV:∀n∈d0.weights prog 26,n<=reachBytes:=fun n hn=>by
  have:=ap3.1 er n (DataW.weights_mem_each (j:=0) rfl rfl n hn);simpa using this
 have oy:∀n∈d1.weights prog 38,n<=reachBytes:=fun n hn=>by
  have:=ap3.1 er n (DataW.weights_mem_each (j:=1) rfl rfl n hn);simpa using this
 obtain⟨x0,q0,r0⟩:=Tj Tryz.underlying26 WA (ic 0 26 v0 rfl rfl) h0 IV;obtain⟨x1,q1,r1⟩:=Ye Zv (fun _=>rfl) (ZA Tryz.underlying38 (ic 1 38 v1 rfl rfl)) h1 oy
 have hc:=kK.calls (W:=W) (vs:=#[v0,v1]) (Wz x0 q0 x1 q1.1 q1.2) rfl (fun j v x hv hx=>by
  match j,hv,hx with
  |0,hv,hx=>cases hv;cases hx;exact r0
  |1,hv,hx=>cases hv;cases hx;exact r1)
 refine hc.mono fun e W' ⟨he,hb⟩=>?_
 subst he;refine⟨_,rfl,Yf hW' rfl rfl (fun _ _ _=>trodAll_mk1 (shut_bool Tryz.underlying4 _)) (fun sp jT=>?_) rfl hb (ok_one (by kernel_rfl) rfl (okWide_bool_mk Tryz.underlying4 _))⟩;rw[Tryz.params4];have hs:∀x∈p0++p1,sp x.block=true:=fun x hx=>jT x (by simpa using hx)
 have g0:=N1 (sp':=sp) (by kernel_rfl) (aq9 (by kernel_rfl)) h0 hb (fun x hx=>hlt x (by simp[hx])) (fun x hx=>hs x (by simp[hx]));have g1:=N1 (sp':=sp) (by kernel_rfl) (aq9 (by kernel_rfl)) h1 hb (fun x hx=>hlt x (by simp[hx])) (fun x hx=>hs x (by simp[hx]));have g:=trodAll_mk2 g0 g1;rw[show p0++p1++[]=p0++p1 from by simp];exact g
set_option maxRecDepth 100000 in
theorem S5:prog.closure 4=[4,18,51,137,262,53,141,271,371,142,140,267,365,423,366,268,269,367,424,428,426,385,425,369,270,368,427,370,69,63,113,222,75,168,294,389,390,440,169,178,307,300,304,396,393,397,442,443,411,444,445,441,446,447,302,228,227,308,299,303,170,295,296,391,173,298,395,171,344,417,455,463,457,466,467,465,418,456,464,459,458,419,223,345,84,179,151,162,65,116,174,175,301,392,394,115,172,297,226,316,347,348,64,152,277,278,154,153,90,138,263,193,317,335,415,337,362,414,334,251,79,195,318,401,196,320,412,319,402,408,454,403,449,404,450,451,405,452,453,462,406,407,409,410,128,192,279,314,400,330,448,361,421,315,197,203,191,139,264,256,265,333,210,413,331,209,336,250,205,266,204,374,201,329,102,207,332,211,93,383,350,257,99,208,97,100,375,280,92,198,202,376,430,460,431,95,377,199,321,342,322,87,200,324,206,323,326,325,328,327,432,433,434,461,435,436,437,381,438,439,378,384,281,96,190,379,282,103,212,98,104,101,380,382,155,283,25,82,24,85,181,182,309,310,399,183,180,185,186,311,312,313,338,184,188,189,187,86,91,20,76,77,78,27,70,163,289,388,11,57,19,71,164,291,290,292,72,165,177,305,306,398,285,73,166,167,293,160,288,284,157,286,386,156,74,59,146,273,147,274,372,275,373,429,276,62,150,12,21,80,176,22,81,23,83,26,88,107,215,339,216,340,416,341,218,364,158,260,261,50,136,217,17]:=by kernel_rfl
theorem VU:joinedFacts prog 4 Tryz.f4 Rows.modesImageSpec Rows.modesImageRow=true:=by
 unfold joinedFacts Program.recurses Program.inPlace Program.unfollowed Program.varsNamed;rw[S5,J6,aaw,Vc,ajy,Tv,W9]
 kernel_rfl
theorem modesImage_holds:Rows.ModesImageSaid :=
 OpenClaim.holds_of_wide 4 Tryz.f4 rfl rfl rfl rfl rfl rfl rfl ⟨rfl, rfl, rfl, rfl, rfl⟩ rfl rfl rfl rfl rfl (by kernel_rfl) func4 VU
  (aq9 (by kernel_rfl)) (by unfold Func.isWrapper;first |(rw[aq7 (by decide +kernel)];kernel_rfl) |(rw[aq6 (by decide +kernel)];exact⟨rfl,rfl⟩))
  (fun os started H enc _=>aho os started H enc)
end Go.Lw
namespace Go.Proofs.YtokaoegjfpjjnaaGreat
theorem modesImage_proved:Rows.ModesImageSaid:=Go.Lw.modesImage_holds
end Go.Proofs.YtokaoegjfpjjnaaGreat
