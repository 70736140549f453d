/- SingularModes: for any linkage and any turns the law returns true and leaves its arguments as they were. No other condition. Part 8 of 8: the statement -/
import Derived.Test.YtokaoegjfpjjnaaGreatSg
set_option linter.unusedVariables false
open List (foldl_cons map_nil)
open List renaming mem_of_getElem? → aap, mem_cons_of_mem → abt, mem_append → aa2, map_cons → ab2, mem_cons → abd, length_cons → aa4, mem_cons_self → abr, length_append → abi, length_nil → abg, getD_eq_getElem?_getD → aaq, getElem?_append_left → aa9, all_eq_true → aa3, getElem?_map → aav, append_assoc → abu, getElem?_append_right → aa6, getElem?_eq_getElem → aat, append_nil → ab3, map_append → abf, length_take → abc, take_of_length_le → aa7, take_length → aa8, not_mem_nil → abb, length_map → aar, getElem?_of_mem → aby, length_replicate → abp, getElem?_eq_some_iff → Y1, mem_range → Y3, mem_map → Y8, mem_singleton → Za, filter_cons → Zf, contains_iff_mem → Zh, getElem_mem → Zi, all_cons → Zj, countP_cons → Zn, filter_append → Zy, any_eq_true → Zz, length_eq_zero_iff → ZA
open Nat renaming eq_of_beq_eq_true → aax, le_refl → aau, lt_or_ge → aay, le_trans → abe, mul_le_mul_right → abh, zero_le → aa0, lt_of_le_of_lt → abk, zero_add → Yf, pow_succ → Yj, not_lt_zero → YF, beq → YQ, ble_eq → YS, succ_mul → YT
open Option renaming map_eq_some_iff → aas
open Bool renaming and_eq_true → aaw, or_eq_true → abz, and_false → ZW, false_eq_true → ZX, eq_false_iff → ZY, not_eq_false' → Z0, decide_or → Z1, not_eq_true' → Z2, or_eq_false_iff → Z4
open Int renaming toNat_natCast → abn
open Decidable renaming not_not → aao
open Go renaming Value → acg, TypeId → ach
open Go.Proofs.Tryz
namespace Go.Lw
open Go.Proofs
theorem Vy(l:Li)(hl:l.okw):FP 57 [l.av] (bl (iG l)):=by
 have hbl:=hl.lb;refine aj func57 ?_;refine gl ?_;refine aW [1,8,9] [1] (fun(i:Nat)=>[pP 10 (i64 i)]) (fun _=>[]) (fun i=>i<=l.bo.length/\(l.bo.take i).all pj=true) (fun i=>l.bo.length-i) 0 ⟨aa0 _,rfl⟩ ?_;rintro i ⟨hi,hj⟩ K1 J1;refine gC (fun z=>?_) (fun z=>?_)
 ·have hin:=a9 z;obtain⟨b,hb⟩:=ay hin;refine gi (aH hb) ?_;refine gl ?_;refine gC (fun z=>?_) (fun z=>?_)
  ·have h1:30<b.pts.length:=jX z;refine ah ?_;unfold iG;rw[lR hb (by unfold pj;rw[acb oz];rfl)];rfl
  have h1:b.pts.length<=30:=iz z;refine gl ?_;refine aW [1,8,9,10,19,20] [1] (fun(k:Nat)=>[pP 21 (i64 k)]) (fun _=>[]) (fun k=>k<=b.pts.length/\(b.pts.take k).all lE=true) (fun k=>b.pts.length-k) 0 ⟨aa0 _,rfl⟩ ?_;rintro k ⟨hk,hkj⟩ K2 J2;refine gC (fun z=>?_) (fun z=>?_)
  ·have hkn:=a9 z;obtain⟨p,hp⟩:=ay hkn;refine gi (aH hp) ?_;refine gl ?_;refine cJ ?_;refine cJ ?_;refine cJ ?_;refine gC (fun z=>?_) (fun z=>?_)
   ·have h2:lE p=false:=UV z;refine ah ?_;unfold iG;rw[lR hb (by unfold pj;rw[lR hp h2,ZW])];rfl
   have h2:lE p=true:=Sn z;refine ga aS ?_;exact aR J2 (k+1) ⟨hkn,mv hkj hp h2⟩
  have hkn:=bn hk z;refine ga aS ?_;exact aR J1 (i+1) ⟨hin,mv hj hb (by unfold pj;rw[aca h1,mH hkn hkj];rfl)⟩
 have hin:=bn hi z;refine gl ?_;refine cJ ?_;refine cJ ?_;refine ah ?_;exact acd bl (Qi (mH hin hj))
def l0(r:Rt):Bool:=!(cond (cond (cond (aa .gtr (r.num.length:Int) 1) true (aa .gtr (r.den.length:Int) 1)) true (cond (aa .eql (r.num.length:Int) 1) (aa .gtr (ak r.num 0:Int) 400) false)) true
  (cond (aa .eql (r.den.length:Int) 1) (aa .gtr (ak r.den 0:Int) 20) false))
theorem HN(rs:List Rt)(hl:rs.length<=1000):FP 150 [.lst 3 (rs.map Rt.av)] (bl (rs.all l0)):=by
 refine aj func150 ?_;refine gl ?_;refine aW [5,6] [] (fun(i:Nat)=>[pP 7 (i64 i)]) (fun _=>[]) (fun i=>i<=rs.length/\(rs.take i).all l0=true) (fun i=>rs.length-i) 0 ⟨aa0 _,rfl⟩ ?_;rintro i ⟨hi,hj⟩ K1 J1;refine gC (fun z=>?_) (fun z=>?_)
 ·have hin:=a9 z;obtain ⟨r,hr⟩:=ay hin;refine gi (aH hr) ?_;refine gl ?_;refine cJ ?_;refine cJ ?_;refine nk (fun ⟨h,h2⟩=>(cz (by have:=cM h2; have e:Int.toNat 0 = 0:=rfl; omega))) ?_;refine cJ ?_;refine nk (fun ⟨h,h2⟩=>(cz (by have:=cM h2; have e:Int.toNat 0 = 0:=rfl; omega))) ?_;refine gC (fun z=>?_) (fun z=>?_)
  ·have h1:l0 r=false:=acd Bool.not z;refine ah ?_;rw[lR hr h1];rfl
  have h1:l0 r=true:=acd Bool.not z;refine ga aS ?_;exact aR J1 (i+1) ⟨hin,mv hj hr h1⟩
 have hin:=bn hi z;refine ah ?_;rw[mH hin hj];rfl
def mF(x:Tn):Bool:=decide (x.t.num.length<=1/\x.t.den.length<=1)
def lS(m:Mk):Bool:=decide (m.x.num.length<=1/\m.x.den.length<=1/\m.y.num.length<=1/\m.y.den.length<=1)
def rC(xs:List Tn):Bool:=xs.all (fun x=>[x.t].all l0)
def sE(ps:List Mk):Bool:=ps.all (fun p=>[p.x,p.y].all l0)
def re(l:Li):Bool:=l.bo.all (fun b=>sE b.pts)
theorem N3(l:Li)(hl:l.ok)(xs:List Tn)(hxl:xs.length<=281474976710656):FP 62 [l.av,.lst 4 (xs.map Tn.av)] (bl (rC xs&&re l)):=by
 have hlb:=hl.lb;refine aj func62 ?_;refine gl ?_;refine aW [2,11,12] [2] (fun(i:Nat)=>[pP 13 (i64 i)]) (fun _=>[]) (fun i=>i<=xs.length/\(xs.take i).all (fun x=>[x.t].all l0)=true) (fun i=>xs.length-i) 0 ⟨aa0 _,rfl⟩ ?_;rintro i ⟨hi,hj⟩ K1 J1;refine gC (fun z=>?_) (fun z=>?_)
 ·have hin:=a9 z;obtain ⟨x,hx⟩:=ay hin;refine gi (aH hx) ?_;refine gc (HN [x.t] (by show 1 <= _; omega)) ?_;refine gC (fun z=>?_) (fun z=>?_)
  ·have h1:=dl z;refine ah ?_;unfold rC;rw[lR hx h1];rfl
  have h1:=du z;refine ga aS ?_;exact aR J1 (i+1) ⟨hin,mv hj hx h1⟩
 have hT:rC xs=true:=mH (bn hi z) hj;refine gl ?_;refine aW [2,24,25] [2] (fun(i:Nat)=>[pP 26 (i64 i)]) (fun _=>[]) (fun i=>i<=l.bo.length/\(l.bo.take i).all (fun b=>sE b.pts)=true) (fun i=>l.bo.length-i) 0 ⟨aa0 _,rfl⟩ ?_;rintro i ⟨hi2,hj2⟩ K2 J2;refine gC (fun z=>?_) (fun z=>?_)
 ·have hin:=a9 z;obtain⟨b,hb⟩:=ay hin;have hbl:=(hl.bo b (aap hb)).ll;refine gi (aH hb) ?_;refine gl ?_;refine aW [2,24,25,26,31,32] [2] (fun(k:Nat)=>[pP 33 (i64 k)]) (fun _=>[]) (fun k=>k<=b.pts.length/\(b.pts.take k).all (fun p=>[p.x,p.y].all l0)=true) (fun k=>b.pts.length-k) 0 ⟨aa0 _,rfl⟩ ?_;rintro k ⟨hk,hkj⟩ K3 J3;refine gC (fun z=>?_) (fun z=>?_)
  ·have hkn:=a9 z;obtain ⟨p,hp⟩:=ay hkn;refine gi (aH hp) ?_;refine gc (HN [p.x,p.y] (by show 2 <= _; omega)) ?_;refine gC (fun z=>?_) (fun z=>?_)
   ·have h1:=dl z;refine ah ?_;rw[hT];unfold re;rw[lR hb (by unfold sE;exact lR hp h1)];rfl
   have h1:=du z;refine ga aS ?_;exact aR J3 (k+1) ⟨hkn,mv hkj hp h1⟩
  have hP:sE b.pts=true:=mH (bn hk z) hkj;refine ga aS ?_;exact aR J2 (i+1) ⟨hin,mv hj2 hb hP⟩
 have hL:re l=true:=mH (bn hi2 z) hj2;refine ah ?_;rw[hT,hL];rfl
def Bl(l:Li)(xs:List Tn):Bool :=
  cond (cond (aa .neq (splitE l:Int) 0) true (aa .leq (((splitG l).length:Int)-l.dv.length) 1)) true (cond (aa .eql (((splitG l).length:Int)-l.dv.length) 2) (rC xs&&re l) false)
def i7(l:Li)(xs:List Tn):Bool :=
  (iG l&&decide (xs.length<=20))&&(xs.all mF&&(l.bo.all (fun b=>b.pts.all lS)&&(if aN l=0 then Bl l xs else true)))
theorem Wr{l:Li}{n:Nat}(h:cond (!iG l) true (aa .gtr (n:Int) 20)=true):(iG l&&decide (n<=20))=false:=by
 cases hb:iG l
 ·rfl
 ·rw[hb]at h;have h1:20<n:=jX (b:=20) h;rw[acb oz];rfl
theorem P9{l:Li}{n:Nat}(h:cond (!iG l) true (aa .gtr (n:Int) 20)=false):iG l=true/\n<=20:=by
 cases hb:iG l
 ·rw[hb]at h;cases h
 ·rw[hb]at h;exact⟨rfl,iz (b:=20) h⟩
theorem Kl{x:Tn}:cond (aa .gtr (x.t.num.length:Int) 1) true (aa .gtr (x.t.den.length:Int) 1)=!mF x:=by
 unfold mF;have e1:=lH (n:=x.t.num.length) (k:=1);have e2:=lH (n:=x.t.den.length) (k:=1);rw[jb];refine(congr (acd _ e1) e2).trans ?_;rw[<- Z1,<- decide_not];exact decide_eq_decide.2 oz
theorem Kq{m:Mk}:cond (cond (cond (aa .gtr (m.x.num.length:Int) 1) true (aa .gtr (m.x.den.length:Int) 1)) true (aa .gtr (m.y.num.length:Int) 1)) true (aa .gtr (m.y.den.length:Int) 1)=!lS m:=by
 unfold lS;have e1:=lH (n:=m.x.num.length) (k:=1);have e2:=lH (n:=m.x.den.length) (k:=1);have e3:=lH (n:=m.y.num.length) (k:=1);have e4:=lH (n:=m.y.den.length) (k:=1);rw[jb,jb,jb];refine(congr (acd _ (congr (acd _ (congr (acd _ e1) e2)) e3)) e4).trans ?_;rw[<- Z1,<- Z1,<- Z1,<- decide_not];exact decide_eq_decide.2 oz
theorem ue{l:Li}(hl:aN l=0):(splitG l).length<=8:=by
 unfold splitG;split
 ·exact(r5 hl).2
 ·exact aa0 _
theorem Pb(l:Li)(hw:l.okw)(xs:List Tn)(hxl:xs.length<=281474976710656):FP 11 [l.av,.lst 4 (xs.map Tn.av)] (bl (i7 l xs)):=by
 refine aj func11 ?_;refine gc (Vy l hw) ?_;refine cJ ?_;refine gC (fun z=>?_) (fun z=>?_)
 ·have h1:=Wr z;refine ah ?_;unfold i7;rw[h1];rfl
 obtain⟨g1,g2⟩:=P9 z;have hl:=xT g1 hw;have hlb:=hl.lb;refine gl ?_;refine aW [1,2,22,23] [2] (fun(i:Nat)=>[pP 24 (i64 i)]) (fun _=>[]) (fun i=>i<=xs.length/\(xs.take i).all mF=true) (fun i=>xs.length-i) 0 ⟨aa0 _,rfl⟩ ?_;rintro i ⟨hi,hj⟩ K1 J1;refine gC (fun z=>?_) (fun z=>?_)
 ·have hin:=a9 z;obtain⟨x,hx⟩:=ay hin;refine gi (aH hx) ?_;refine gl ?_;refine cJ ?_;refine gC (fun z=>?_) (fun z=>?_)
  ·have h1 : mF x = false := by rw [Kl] at z; exact dl z
   refine ah ?_;unfold i7;rw[g1,aca g2,lR hx h1];rfl
  have h1:mF x=true:=by rw[Kl]at z;exact du z
  refine ga aS ?_;exact aR J1 (i+1) ⟨hin,mv hj hx h1⟩
 have hT:xs.all mF=true:=mH (bn hi z) hj;refine gl ?_;refine aW [1,2,42,43] [2] (fun(i:Nat)=>[pP 44 (i64 i)]) (fun _=>[]) (fun i=>i<=l.bo.length/\(l.bo.take i).all (fun b=>b.pts.all lS)=true) (fun i=>l.bo.length-i) 0 ⟨aa0 _,rfl⟩ ?_;rintro i ⟨hi2,hj2⟩ K2 J2;refine gC (fun z=>?_) (fun z=>?_)
 ·have hin:=a9 z;obtain⟨b,hb⟩:=ay hin;have hbl:=(hl.bo b (aap hb)).ll;refine gi (aH hb) ?_;refine gl ?_;refine aW [1,2,42,43,44,49,50] [2] (fun(k:Nat)=>[pP 51 (i64 k)]) (fun _=>[]) (fun k=>k<=b.pts.length/\(b.pts.take k).all lS=true) (fun k=>b.pts.length-k) 0 ⟨aa0 _,rfl⟩ ?_;rintro k ⟨hk,hkj⟩ K3 J3;refine gC (fun z=>?_) (fun z=>?_)
  ·have hkn:=a9 z;obtain⟨p,hp⟩:=ay hkn;refine gi (aH hp) ?_;refine gl ?_;refine cJ ?_;refine cJ ?_;refine cJ ?_;refine gC (fun z=>?_) (fun z=>?_)
   ·have h1 : lS p = false := by rw [Kq] at z; exact dl z
    refine ah ?_;unfold i7;rw[g1,aca g2,hT,lR hb (lR hp h1)];rfl
   have h1:lS p=true:=by rw[Kq]at z;exact du z
   refine ga aS ?_;exact aR J3 (k+1) ⟨hkn,mv hkj hp h1⟩
  have hP:b.pts.all lS=true:=mH (bn hk z) hkj;refine ga aS ?_;exact aR J2 (i+1) ⟨hin,mv hj2 hb hP⟩
 have hL:l.bo.all (fun b=>b.pts.all lS)=true:=mH (bn hi2 z) hj2;refine gc (Dt l hl) ?_;refine gC (fun z=>?_) (fun z=>?_)
 ·have h1:=km z;refine ah ?_;unfold i7;rw[g1,aca g2,hT,hL,ab5 h1];rfl
 have h1:=jW z;have hsl:=ue h1;have hld:=hl.ld;refine gc (Ud l hl h1) ?_;refine gl ?_;refine gl ?_;refine ga (dP oz) ?_;refine b8 (fun _=>(N3 l hl xs hxl)) ?_;refine ah ?_;unfold i7 Bl;rw[g1,aca g2,hT,hL,ab6 h1];rfl
section
variable{l:Li}{xs:List Tn}{s g:Nat}(W:WkC l xs s g){k:Nat}{gr:Gr}(hg:(splitG l)[k]?=some gr){j r E:Nat}{a:Aq}(Q:QInv l j r E a){n y:Nat}(ok:eQ s g (n+1) y j r E=true)(hy:gr.kind≠0->0<y)
include W hg Q ok hy
theorem XH:∃F,F<=20000000000/\sa F l k a.as false/\AB a.as/\(Lw.llq a.as.rs).length<=2/\(gr.kind≠0->F=3900000/\DyS a.as):=by
 obtain⟨⟨hE,hr,hj⟩,_⟩:=tx ok;have h3:(Lw.llq a.as.rs).length<=2:=by rw[a.llq];have:=Q.lv;omega
 have al:=Q.ab W.li (by omega:E<=50000000000) hr
 by_cases hk:gr.kind=0
 ·exact⟨E,hE,Q.sma oz (aau _) k false,al,h3,fun h=>acc hk h⟩
 ·have hy:=hy hk;obtain ⟨y',rfl⟩:∃ y',y = y' + 1:=⟨y - 1,by omega⟩
  obtain⟨⟨hj,hE,hr,hX,hJ⟩,_⟩:=rm ok;exact⟨3900000,by omega,Q.sma oz hE k false,al,h3,fun _=>⟨rfl,QInv.dyS W hg Q hr hj⟩⟩
theorem WT:wR l k (cB gr xs) a.as=((eZ l a.as gr (cB gr xs)).map Sv.av,nN l a.as gr (cB gr xs)):=by
 have _:=ok;have _:=hy;unfold wR;have hgA:iA l (k:Nat)=gr:=aq hg;rw[ab6 (Q.dy0 W.li W.sp hg false),hgA];exact Prod.ext (QH _ _ _ _) rfl
theorem PN:FP 153 [l.av,i64 k,(cB gr xs).av,a.av] (.tup [.lst 3 ((eZ l a.as gr (cB gr xs)).map Sv.av),bF (nN l a.as gr (cB gr xs))]):=by
 obtain⟨F,hF,hs,al,h3,hR⟩:=XH W hg Q ok hy;have hgA:iA l (k:Nat)=gr:=aq hg;have h:=Mz l W.hl k (W.tn hg).1 (W.tn hg).2.1 a.as al (fun _=>h3) hF hs (fun _ h=>hR (by rw[hgA]at h;exact h));rw[WT W hg Q ok hy,a.as_av]at h;exact h
theorem Je:∃y' j' r' E',eQ s g n y' j' r' E'=true/\(y'+(if gr.kind≠0 then 1 else 0)=y)/\∀sv∈eZ l a.as gr (cB gr xs),QInv l j' r' E' (a.nxt gr sv):=by
 by_cases hk:gr.kind=0
 ·exact⟨y,j,r,_,(tx ok).2,by simp[hk],Q.drv W hg ok hk⟩
 ·have hy:=hy hk;obtain ⟨y',rfl⟩:∃ y',y = y' + 1:=⟨y - 1,by omega⟩
  exact⟨y',j+1,_,_,(rm ok).2,by simp[hk],Q.dy W hg ok hk⟩
end
def kT(g:Gr):Bool:=decide (g.kind≠0)
theorem DX{F:Int->Bool}{sg:Bool}{f:Sv->List Aq×Nat}{M:Nat}:∀{S:List Sv},(∀s∈S,(f s).1.length<=M)->(fJ F sg f S).1.length<=S.length*M
 |[],h=>aa0 _
 |s::S,h=>by
  have h1:=h s abr;have h2:=DX (F:=F) (sg:=sg) (S:=S) (fun x hx=>h x (abt _ hx));rw[rq,aa4,YT];split
  ·omega
  ·split
   ·omega
   ·split
    ·omega
    ·simp only[abi];omega
structure WkSt(l:Li)(s g n:Nat)(a:Aq):Prop where
  st:∃j r E y,QInv l j r E a/\eQ s g n y j r E=true/\((splitG l).drop a.ms.length).countP kT<=y
  ln:a.ms.length+n=(splitG l).length
theorem WkSt.next{l:Li}{xs:List Tn}{s g n:Nat}(W:WkC l xs s g){a:Aq}(h:WkSt l s g (n+1) a):∃gr,(splitG l)[a.ms.length]?=some gr /\
  FP 153 [l.av,i64 a.ms.length,(cB gr xs).av,a.av] (.tup [.lst 3 ((eZ l a.as gr (cB gr xs)).map Sv.av),bF (nN l a.as gr (cB gr xs))]) /\
  SolP (eZ l a.as gr (cB gr xs)) gr.kind a.ts.length gr.bo.length/\∀sv∈eZ l a.as gr (cB gr xs),WkSt l s g n (a.nxt gr sv):=by
 obtain⟨⟨j,r,E,y,Q,ok,hc⟩,hl⟩:=h;obtain⟨gr,hg⟩:=ay (l:=splitG l) (i:=a.ms.length) oz;have hdr:=rf hg;rw[hdr,Zn]at hc
 have hy:gr.kind≠0->0<y:=fun hk=>by
  have:kT gr=true:=aca hk;rw[ab6 this]at hc;omega
 obtain⟨y',j',r',E',ok',ey,hQ⟩:=Je W hg Q ok hy;refine⟨gr,hg,PN W hg Q ok hy,XE W hg Q ok hy,fun sv hsv=>⟨⟨j',r',E',y',hQ sv hsv,ok',?_⟩,?_⟩⟩
 ·have e : (a.nxt gr sv).ms.length = a.ms.length + 1 := by show (a.ms ++ [sv.mode]).length = _; simp
  rw[e]
  by_cases hk:gr.kind=0
  ·have h1 : kT gr = false := by unfold kT; simp [hk]
   simp only[hk,ne_eq,not_true_eq_false,if_false]at ey;rw[h1]at hc;simp only[ZX,if_false]at hc;omega
  ·have h1:kT gr=true:=aca hk;rw[ab6 hk]at ey;rw[ab6 h1]at hc;omega
 ·show(a.ms++[sv.mode]).length+n=_;rw[abi];simp only[aa4,abg];omega
theorem A5{l:Li}{xs:List Tn}{s g:Nat}(W:WkC l xs s g)(F:Nat->Int->Bool)(sg:Bool):∀(n:Nat)(a:Aq),WkSt l s g n a->(f8 F sg l xs (splitG l) n a).1.length<=2^n
 |0,a,h=>aau _
 |n+1,a,h=>by
  obtain⟨gr,hg,_,hP,hn⟩:=h.next W;unfold f8;rw[aq hg];split
  ·exact aa0 _
  ·have h1:=DX (F:=F a.ms.length) (sg:=sg) (f:=fun sv=>f8 F sg l xs (splitG l) n (a.nxt gr sv)) (M:=2^n) (S:=eZ l a.as gr (cB gr xs)) (fun sv hsv=>A5 W F sg n _ (hn sv hsv));have h2:=abh (2^n) hP.two;rw[Yj];omega
theorem CB{l:Li}{xs:List Tn}{s g:Nat}(W:WkC l xs s g)(F:Nat->Int->Bool)(sg:Bool){fo:FuncId}{caps:List AV}(hF:∀(k:Nat)(m:Int),k<(splitG l).length->FP fo ([i64 k,i64 m]++caps) (bl (F k m))) :
  ∀(n:Nat)(a:Aq),WkSt l s g n a->∀o:List Aq,o.length+2^n<=1000 ->
   Con prog 64 [.ptr 1000 0,a.av] (fF l xs (splitG l) fo caps sg 1001 (o.map Aq.av)) (bF (f8 F sg l xs (splitG l) n a).2) (fF l xs (splitG l) fo caps sg 900 ((o++(f8 F sg l xs (splitG l) n a).1).map Aq.av))
 |0,a,h,o,ho=>by
  have hG:(splitG l).length<=100:=by have:=ue W.li;omega
  obtain⟨⟨j,r,E,y,Q,ok,_⟩,hl⟩:=h;obtain⟨hE,_,_⟩:=UR ok;have hlb:=(dg W.li).2.2.2.1;have hln:=Q.ln;have h3:=Q.tw.three;obtain⟨D,N,hD,hts,h1,h2⟩:=Q.tw.rb
  exact Mv oz hG oz (Mj (e:=5000000000+E) Q.tw.five (fun x hx=>by
   obtain⟨i,hi⟩:=aby hx;have hi2:=(Y1.1 hi).1;have h9:=Q.tw.len i hi2;rw[aq hi]at h9;exact⟨Q.tw.five,.inr ⟨i,by omega,h9⟩,D,N,hts x hx,abe h1 (cm (by have:=Q.tw.le;omega)),abe h2 (cm (by have:=Q.tw.le;omega))⟩)
   (fun p hp=>(Q.bs p hp).up (aau _) Q.tw.five oz) oz oz oz oz)
 |n+1,a,h,o,ho=>by
  have hG:(splitG l).length<=100:=by have:=ue W.li;omega
  have hlb:=(dg W.li).2.2.2.1;have hln:=h.ln;obtain⟨j,r,E,y,Q,ok,_⟩:=h.st;obtain⟨gr,hg,hS,hP,hn⟩:=h.next W;obtain⟨hdy,hgo⟩:=mC W.li (aap hg);have h2:=ym W.li;have hxl:=W.ln;have hQl:=Q.ln;have hgb:=hgo.lb
  have key := Rh (l := l) (xs := xs) (G := splitG l) (fo := fo) (caps := caps) (sg := sg) (o := o) hg hG oz (fun hk => by rw [hxl]; exact Gl hdy hk) hS (by have := hP.two; omega) (F := F a.ms.length) (fun m => hF _ m oz)
   (fun sv hsv => SX (fun b hb => by rw [hQl]; exact hgo.b b hb) (by
    obtain⟨i,hi⟩:=aby hsv;exact(hP.md i sv hi).2.2) oz oz oz)
   (f:=fun sv=>f8 F sg l xs (splitG l) n (a.nxt gr sv)) (M:=2^n) (B:=1000) (fun sv hsv=>A5 W F sg n _ (hn sv hsv)) (by have:=abh (2^n) hP.two;rw[Yj]at ho;omega)
   (fun o' ho' sv hsv=>CB W F sg hF n _ (hn sv hsv) o' ho')
  have e:f8 F sg l xs (splitG l) (n+1) a=(if nN l a.as gr (cB gr xs)≠0 then([],nN l a.as gr (cB gr xs))else fJ (F a.ms.length) sg (fun sv=>f8 F sg l xs (splitG l) n (a.nxt gr sv)) (eZ l a.as gr (cB gr xs))):=by
   conv=>lhs;unfold f8
   rw[aq hg]
  rw[e]
  by_cases hE:nN l a.as gr (cB gr xs)≠0
  ·rw[ab6 hE]at key ⊢;rw[ab6 hE]at key;exact key
  ·rw[ab5 hE]at key ⊢;rw[ab5 hE]at key;exact key
abbrev qL(l:Li)(xs:List Tn)(G:List Gr)(fo:FuncId)(caps:List AV)(sg:Bool)(k0 k:Nat)(es:List AV):Hp :=
  [(k0,some (.box (fI l xs G fo caps sg (.ms k 3 0 es.length)))),(k,some (.row 3 es))]
def vC(k:Nat):Nat:=bif YQ k 1000 then 902 else bif YQ k 902 then 1000 else rW k
theorem xL{a b:Nat}(h:¬a=b):YQ a b=false:=by
 cases h1:YQ a b
 ·rfl
 ·exact acc (aax h1) h
theorem Fu(k:Nat):vC (vC k)=k:=by
 by_cases h1:k=1000
 ·subst h1;rfl
 by_cases h2:k=902
 ·subst h2;rfl
 by_cases h3:k=1001
 ·subst h3;rfl
 by_cases h4:k=901
 ·subst h4;rfl
 have e:vC k=k:=by simp only[vC,rW,xL h1,xL h2,xL h3,xL h4,cond_false]
 rw[e,e]
theorem I5{l:Li}{xs:List Tn}{G:List Gr}{fo:FuncId}{caps:List AV}{sg:Bool}{es:List AV}(h0:0<l.bo.length)(hl:l.bo.length<=100) :
  Con prog 65 [.ptr 902 0] (qL l xs G fo caps sg 902 901 es) (eW l).av (qL l xs G fo caps sg 902 901 es):=Con.pm Fu (Wi h0 hl)
theorem GE{l:Li}{xs:List Tn}{G:List Gr}{fo:FuncId}{caps:List AV}{sg:Bool}{es es':List AV}{a:Aq}{e:Nat}
  (h:Con prog 64 [.ptr 1000 0,a.av] (fF l xs G fo caps sg 1001 es) (bF e) (fF l xs G fo caps sg 900 es')) :
  Con prog 64 [.ptr 902 0,a.av] (qL l xs G fo caps sg 902 901 es) (bF e) (qL l xs G fo caps sg 902 900 es'):=Con.pm Fu h
def gN:Nat->Int->Bool:=fun _ _=>true
def lP(F:Nat->Int->Bool)(sg:Bool)(l:Li)(xs:List Tn):List Aq×Nat:=f8 F sg l xs (splitG l) (splitG l).length (eW l)
def je(l:Li)(xs:List Tn):List Aq×Nat:=if cW l xs≠0 then([],cW l xs)else if(lP gN false l xs).2≠0 then([],(lP gN false l xs).2)else lP gN false l xs
theorem Mu{l:Li}{xs:List Tn}(h0:cW l xs≠0)(hop:Con prog 63 [l.av,.lst 4 (xs.map Tn.av)] [] (.tup [rI (cW l xs),bF (cW l xs)]) (uU (cW l xs) l xs)) :
  FP 12 [l.av,.lst 4 (xs.map Tn.av)] (.tup [.lst 3 [],bF (cW l xs)]):=by
 rw[lW h0,xY h0]at hop;refine aj func12 ?_;refine gc hop ?_;refine gC (fun z=>?_) (fun z=>?_) (st2:=(77777,0))
 ·refine gR ?_;exact dS (Sub.tup (.cons (.nil _ _ _) (.cons (.refl _) .nil)))
 exact acc (dD z) h0
theorem MU{l:Li}{xs:List Tn}(h0:cW l xs=0)(hop:Con prog 63 [l.av,.lst 4 (xs.map Tn.av)] [] (.tup [rI (cW l xs),bF (cW l xs)]) (uU (cW l xs) l xs))(hb:0<l.bo.length)(hl:l.bo.length<=100)
  {R:List Aq×Nat} (hw:Con prog 64 [.ptr 1000 0,(eW l).av] (fF l xs (splitG l) 151 [] false 1001 []) (bF R.2) (fF l xs (splitG l) 151 [] false 900 (R.1.map Aq.av))) :
  FP 12 [l.av,.lst 4 (xs.map Tn.av)] (.tup [.lst 3 ((if R.2≠0 then[]else R.1).map Aq.av),bF R.2]):=by
 rw[h0]at hop;have hop:Con prog 63 [l.av,.lst 4 (xs.map Tn.av)] [] (.tup [.ptr 900 0,.v .nilIface]) [pP 900 (.box (fI l xs (splitG l) 151 [] false (nS)))]:=hop;refine aj func12 ?_;refine gt (aE hop (bC rfl rfl) aG rfl rfl) ?_;refine gf ?_ (77777,0);refine gW (Wk.o (sl:=[pP 6 (.ptr 900 0)]) (hp:=[pP 900 (.box (fI l xs (splitG l) 151 [] false (nS)))])) ?_ (77777,0);refine gW (Wk.rk (k:=900) (d:=902) rfl rfl) ?_ (77777,0);refine gW (Wk.virt 901 3 rfl) ?_ (77777,0);refine gW (Wk.of (sl:=[pP 6 (.ptr 902 0)]) (hp:=qL l xs (splitG l) 151 [] false 902 901 []) (.k .nil) (.cons rfl (BlkSub.bL (.cons (.refl _) (.cons (.refl _) (.cons (.refl _) (.cons (.refl _) (.cons (.refl _) (.cons (.refl _) (.cons (.refl _) (.cons (.refl _) (.cons (Sub.nM _ _ _) .nil))))))))) rfl) (.k .nil))) ?_;refine gt (CW (I5 hb hl) (cG rfl) rfl rfl rfl rfl rfl) ?_;refine gt (aE (GE hw) (bC rfl rfl) aG rfl rfl) ?_;refine gC (fun z=>?_) (fun z=>?_) (st2:=(77777,0))
 ·have hE:=dH z;refine gR ?_;exact dS (by rw[ab6 hE];exact Sub.tup (.cons (.nil _ _ _) (.cons (.refl _) .nil)))
 have hE:=dD z;refine gW ((Wk.freeze (k:=900) rfl).trans<|Wk.of (sl:=[pP 6 (.ptr 902 0)]) (hp:=[pP 902 (.box (fI l xs (splitG l) 151 [] false (.lst 3 (R.1.map Aq.av))))]) bb (.cons rfl (BlkSub.bL (.cons (.refl _) (.cons (.refl _) (.cons (.refl _) (.cons (.refl _) (.cons (.refl _) (.cons (.refl _) (.cons (.refl _) (.cons (.refl _) (.cons (Sub.of (b7 rfl)) .nil))))))))) rfl) .nil)) ?_;refine gR ?_;exact dS (Sub.of (by rw[ab5 oz,hE];rfl))
def Hq(modes:List Int):Nat->Int->Bool:=fun k m=>decide (m=modes.getD k 0)
theorem Ow{l:Li}{xs:List Tn}{modes:List Int}(hml:modes.length<=100)(h0:cW l xs=0)(hop:Con prog 63 [l.av,.lst 4 (xs.map Tn.av)] [] (.tup [rI (cW l xs),bF (cW l xs)]) (uU (cW l xs) l xs))(hb:0<l.bo.length)(hl:l.bo.length<=100)(hsl:(splitG l).length<=100)
  {R:List Aq×Nat} (hw:modes.length=(splitG l).length->Con prog 64 [.ptr 1000 0,(eW l).av] (fF l xs (splitG l) 162 [.iptr [.lst 1 (modes.map i64)]] true 1001 []) (bF R.2) (fF l xs (splitG l) 162 [.iptr [.lst 1 (modes.map i64)]] true 900 (R.1.map Aq.av))) (hR:R.1.length<=1000) :
  FP 69 [l.av,.lst 4 (xs.map Tn.av),.lst 1 (modes.map i64)] (.tup [(if modes.length≠(splitG l).length then Aq.mk [] [] []else if R.2≠0 then Aq.mk [] [] []else R.1.getD 0 (Aq.mk [] [] [])).av,bF (if modes.length≠(splitG l).length then 10 else if R.2≠0 then R.2 else if R.1=[]then 16 else 0)]):=by
 rw[h0]at hop;have hop:Con prog 63 [l.av,.lst 4 (xs.map Tn.av)] [] (.tup [.ptr 900 0,.v .nilIface]) [pP 900 (.box (fI l xs (splitG l) 151 [] false (nS)))]:=hop;refine aj func69 ?_;refine gt (aE hop (bC rfl rfl) aG rfl rfl) ?_;refine gf ?_ (77777,0);refine gW (Wk.o (sl:=[pP 5 (.ptr 5 0),pP 6 (.ptr 6 0),pP 8 (.ptr 900 0)]) (hp:=[pP 5 (.box [.lst 1 (modes.map i64)]),pP 6 (.box [nS,nS,nS]),pP 900 (.box (fI l xs (splitG l) 151 [] false (nS)))])) ?_ (77777,0);refine gW (Wk.rk (k:=900) (d:=902) rfl rfl) ?_;refine gl ?_;refine gl ?_;refine gD ?_;refine gC (fun z=>?_) (fun z=>?_) (st2:=(77777,0))
 ·have h1:=yG z;refine gR ?_;exact dS (by rw[ab6 h1,ab6 h1];exact Sub.tup (.cons (Sub.agg (.cons (.nil _ _ _) (.cons (.nil _ _ _) (.cons (.nil _ _ _) .nil))) rfl) (.cons (.refl _) .nil)))
 have h1:=Ay z;have hm:¬(modes.length≠(splitG l).length):=fun h=>h h1
 refine gW ((Wk.freezeB (k:=5) rfl rfl).trans<|Wk.o (sl:=[pP 5 (.iptr [.lst 1 (modes.map i64)]),pP 6 (.ptr 6 0),pP 8 (.ptr 902 0)]) (hp:=[pP 6 (.box [nS,nS,nS]),pP 902 (.box (fI l xs (splitG l) 151 [] false (nS)))])) ?_ (7,0);refine gW (Wk.of (sl:=[pP 6 (.ptr 6 0),pP 8 (.ptr 902 0)]) (hp:=[pP 6 (.box [nS,nS,nS]),pP 902 (.box (fI l xs (splitG l) 162 [.iptr [.lst 1 (modes.map i64)]] true (nS)))]) bb (.k (.cons rfl (BlkSub.bL (.cons (.refl _) (.cons (.refl _) (.cons (.refl _) (.cons (.refl _) (.cons (.refl _) (.cons (.refl _) (.cons (sJ rfl) (.cons (.refl _) (.cons (.refl _) .nil))))))))) rfl) .nil))) ?_ (7,0)
 refine gW (Wk.virt 901 3 rfl) ?_ (7,0);refine gW (Wk.of (sl:=[pP 6 (.ptr 6 0),pP 8 (.ptr 902 0)]) (hp:=(6,some (.box [nS,nS,nS]))::qL l xs (splitG l) 162 [.iptr [.lst 1 (modes.map i64)]] true 902 901 []) (.k (.k .nil)) (.k (.cons rfl (BlkSub.bL (.cons (.refl _) (.cons (.refl _) (.cons (.refl _) (.cons (.refl _) (.cons (.refl _) (.cons (.refl _) (.cons (.refl _) (.cons (.refl _) (.cons (Sub.nM _ _ _) .nil))))))))) rfl) (.k .nil)))) ?_
 refine gt (CW (I5 hb hl) (cG rfl) rfl rfl rfl rfl rfl) ?_;refine gt (aE (GE (hw h1)) (bC rfl rfl) aG rfl rfl) ?_;refine gC (fun z=>?_) (fun z=>?_) (st2:=(77777,0))
 ·have hE:=dH z;refine gR ?_;exact dS (by rw[ab5 hm,ab5 hm,ab6 hE,ab6 hE];exact Sub.tup (.cons (Sub.agg (.cons (.nil _ _ _) (.cons (.nil _ _ _) (.cons (.nil _ _ _) .nil))) rfl) (.cons (.refl _) .nil)))
 have hE:=dD z;have hE':¬(R.2≠0):=fun h=>h hE
 refine gW ((Wk.freeze (k:=900) rfl).trans<|Wk.of (sl:=[pP 6 (.ptr 6 0),pP 8 (.ptr 902 0)]) (hp:=[pP 6 (.box [nS,nS,nS]),pP 902 (.box (fI l xs (splitG l) 162 [.iptr [.lst 1 (modes.map i64)]] true (.lst 3 (R.1.map Aq.av))))]) bb (.k (.cons rfl (BlkSub.bL (.cons (.refl _) (.cons (.refl _) (.cons (.refl _) (.cons (.refl _) (.cons (.refl _) (.cons (.refl _) (.cons (.refl _) (.cons (.refl _) (.cons (Sub.of (b7 rfl)) .nil))))))))) rfl) .nil))) ?_
 refine gl ?_;refine gC (fun z=>?_) (fun z=>?_)
 ·have h2 : R.1=[] := ZA.1 (by simpa[aa]using z);refine gR ?_;exact dS (by rw[ab5 hm,ab5 hm,ab5 hE',ab5 hE',ab6 h2,h2];exact Sub.tup (.cons (Sub.agg (.cons (.nil _ _ _) (.cons (.nil _ _ _) (.cons (.nil _ _ _) .nil))) rfl) (.cons (.refl _) .nil)))
 have h2:R.1≠[]:=fun h=>by rw[h]at z;exact acc z (by simp[aa])
 obtain⟨a0,ha0⟩:=ay (l:=R.1) (i:=0) (by cases hh:R.1 with |nil=>exact acc hh h2 |cons _ _=>simp);refine gi (aH ha0) ?_;refine gR ?_;exact dS (Sub.of (by rw[ab5 hm,ab5 hm,ab5 hE',ab5 hE',ab5 h2,aq ha0];rfl))
theorem Rt.qbV{r:Rt}{e:Nat}(h:r.ok)(he:1<=e)(hn:val r.num<2^e)(hd:val r.den<2^e):Qb e r.q:=by
 by_cases h0:r.valid=true/\r.num≠[]
 ·obtain⟨h1,h2,h3,h4,h5,h6⟩:=Rt.parts h h0.1 h0.2;refine⟨?_,?_⟩
  ·have : r.q.num.natAbs = val r.num := by rw [h1]; unfold sgn; split <;> omega
   rw[this];exact hn
  ·rw[h2];exact hd
 ·rw[Rt.zero h0];exact Qb.zero.mono he
theorem JU{l:List Nat}{b e:Nat}(h:¬1<l.length)(hb:l.length=1->ak l 0<=b)(he:b<2^e):val l<2^e:=by
 match l with
 |[]=>exact abk (aa0 b) he
 |[x] =>
  have h1:x<=b:=hb rfl;have h2:val [x]=x:=by simp[val]
  rw[h2];omega
 |_::_::_=>simp at h
theorem CC{r:Rt}(h:r.ok)(hl:l0 r=true):Qb 9 r.q:=by
 unfold l0 at hl;rw[jb,jb,jb,Z2,Z4,Z4,Z4]at hl;obtain⟨⟨⟨h1,h2⟩,h3⟩,h4⟩:=hl;have g1:r.num.length<=1:=iz (b:=1) h1;have g2:r.den.length<=1:=iz (b:=1) h2;refine Rt.qbV h oz (JU (b:=400) oz (fun hh=>?_) (by decide)) (JU (b:=20) oz (fun hh=>?_) (by decide))
 ·rw[hh]at h3;exact iz (b:=400) h3
 ·rw[hh]at h4;exact iz (b:=20) h4
theorem M8{l:Li}{xs:List Tn}(h:cW l xs=0):aN l=0/\splitE l=0/\xs.length=l.dv.length/\∀x∈xs,x.err=0:=by
 unfold cW at h;split at h
 ·rename_i h1;exact acc h h1
 ·rename_i h1;have h1:=aao.1 h1;unfold tV at h;split at h
  ·rename_i h2;exact acc h h2
  ·rename_i h2;have h2:=aao.1 h2;split at h
   ·cases h
   ·rename_i h3;exact⟨h1,h2,aao.1 h3,fun x hx=>oA h _ (Y8.2 ⟨x,hx,rfl⟩)⟩
theorem Xv(gs:List Gr):gs.countP kT+gs.countP (fun g=>decide (g.kind=0))=gs.length:=by
 induction gs with
 |nil=>rfl
 |cons g gs ih =>
  rw[Zn,Zn,aa4]
  by_cases hk:g.kind=0
  ·have h1 : kT g = false := by unfold kT; simp [hk]
   rw[h1];simp only[hk,decide_true,ZX,if_false,if_true];omega
  ·have h1:kT g=true:=aca hk;rw[h1];simp only[hk,decide_false,ZX,if_false,if_true];omega
theorem xM{s g:Nat}:∀{n m y y' j r E:Nat},eQ s g n y j r E=true->m<=n->y'<=y->eQ s g m y' j r E=true
 |n,0,y,y',j,r,E,h,hm,hy=>by
  have h1:=v5 h;exact aca h1
 |n+1,m+1,y,y',j,r,E,h,hm,hy=>by
  have h1:=tx h;unfold eQ;simp only[aaw,abz,ab7];refine⟨v5 h,xM h1.2 oz hy,?_⟩
  by_cases hz:y'=0
  ·exact .inl hz
  ·right;obtain ⟨y2,rfl⟩:∃ y2,y = y2 + 1:=⟨y - 1,by omega⟩
   have h2:=rm h;exact⟨h2.1,xM h2.2 oz oz⟩
theorem v6{l:Li}{xs:List Tn}(hL:i7 l xs=true)(hl:l.ok)(hxw:∀x∈xs,x.t.wok)(h0:cW l xs=0):∃s g,WkC l xs s g/\WkSt l s g (splitG l).length (eW l):=by
 obtain⟨hli,hsp,hln,hxe⟩:=M8 h0;unfold i7 at hL;simp only[aaw,ab7]at hL;obtain⟨⟨_,_⟩,hT,hM,hR⟩:=hL;rw[aa3]at hT hM;rw[ab6 hli]at hR;unfold Bl at hR;rw[jb,jb,jk]at hR;have hdl:=WE hli hsp;have hd2:=ym hli;have hcn:=Xv (splitG l)
 have hxo:∀x∈xs,x.t.ok/\Qb 32 x.t.q:=fun x hx=>by
  have h9:=hT x hx;unfold mF at h9;rw[ab7]at h9;have ho:=(hxw x hx).ok h9.1 h9.2 oz;exact⟨ho,(Rt.qb ho (k:=1) oz h9.1 h9.2).mono oz⟩
 have hstart:∀(s g n y:Nat),eQ s g n y 0 0 2=true->(splitG l).length<=n->(splitG l).countP kT<=y->WkSt l s g (splitG l).length (eW l):=fun s g n y ok h1 h2 =>
  ⟨⟨0,0,2,y,Jd l,xM ok h1 (aau _),h2⟩,Yf _⟩
 by_cases hn:(splitG l).length<=l.dv.length+1
 ·refine⟨32,134,⟨hl,hli,hsp,?_,hln,fun x hx=>?_⟩,hstart 32 134 3 1 F4 oz oz⟩
  ·intro b hb m hm;have h9:=hM b hb;rw[aa3]at h9;have h8:=h9 m hm;unfold lS at h8;rw[ab7]at h8;have ho:=(hl.bo b hb).pts m hm;exact⟨(Rt.qb ho.x (k:=1) oz h8.1 h8.2.1).mono oz,(Rt.qb ho.y (k:=1) oz h8.2.2.1 h8.2.2.2).mono oz⟩
  ·obtain⟨h1,h2⟩:=hxo x hx;exact⟨h1,hxe x hx,h2.mono oz,Cb.one (tM h2),Cb.one (tY h2)⟩
 ·have hlow:(splitG l).length=l.dv.length+2/\rC xs=true/\re l=true:=by
   simp only[abz,aaw]at hR;rcases hR with(h9 |h9) |⟨h9,h8⟩
   ·rw[hsp]at h9;exact acc h9 (by simp[aa])
   ·have : ((splitG l).length : Int) - l.dv.length <= 1 := by simpa [aa] using h9
    omega
   ·have : ((splitG l).length : Int) - l.dv.length = 2 := by simpa [aa] using h9
    exact⟨by omega,h8.1,h8.2⟩
  obtain⟨hlen,hlT,hlL⟩:=hlow;refine⟨9,42,⟨hl,hli,hsp,?_,hln,fun x hx=>?_⟩,hstart 9 42 4 2 UM oz oz⟩
  ·intro b hb m hm;unfold re at hlL;rw[aa3]at hlL;have h9:=hlL b hb;unfold sE at h9;rw[aa3]at h9;have h8:=h9 m hm;simp only[Zj,List.all_nil,Bool.and_true,aaw]at h8;have ho:=(hl.bo b hb).pts m hm;exact⟨CC ho.x h8.1,CC ho.y h8.2⟩
  ·obtain⟨h1,h2⟩:=hxo x hx;unfold rC at hlT;rw[aa3]at hlT;have h8:=hlT x hx;simp only[Zj,List.all_nil,Bool.and_true]at h8;have h9:=CC h1 h8;exact⟨h1,hxe x hx,h2.mono oz,Cb.one (tM h9),Cb.one (tY h9)⟩
structure SameJ(l' l:Li):Prop where
  j:l'.jo=l.jo
  d:l'.dv=l.dv
  b:l'.bo.length=l.bo.length
section
variable{l' l:Li}(h:SameJ l' l)
include h
theorem SameJ.jointI(kind body:Int)(oth:List Bool):jointI l' kind body oth=jointI l kind body oth:=by unfold Lw.jointI;rw[h.j]
theorem SameJ.freeB(k:List Bool)(i:Int):freeB l' k i=freeB l k i:=by unfold Lw.freeB mi;rw[h.d]
theorem SameJ.drHit(k:List Bool)(i:Nat):drHit l' k i=drHit l k i:=by unfold Lw.drHit;simp only[h.d,h.jointI]
theorem SameJ.driverG(k:List Bool):driverG l' k=driverG l k:=by unfold Lw.driverG;simp only[h.d,h.jointI,h.drHit]
theorem SameJ.prHit(k:List Bool)(i j:Nat):prHit l' k i j=prHit l k i j:=by unfold Lw.prHit;simp only[h.freeB,h.jointI,h.b]
theorem SameJ.prAt(k:List Bool)(i:Nat):prAt l' k i=prAt l k i:=by unfold Lw.prAt;simp only[h.prHit,h.b]
theorem SameJ.prG(k:List Bool)(i j:Nat):prG l' k i j=prG l k i j:=by unfold Lw.prG;simp only[h.jointI,h.b]
theorem SameJ.pairG(k:List Bool):pairG l' k=pairG l k:=by unfold Lw.pairG;simp only[h.prAt,h.prG,h.b]
theorem SameJ.sgHit(k:List Bool)(i:Nat):sgHit l' k i=sgHit l k i:=by unfold Lw.sgHit;simp only[h.freeB,h.jointI]
theorem SameJ.sgG(k:List Bool)(i:Nat):sgG l' k i=sgG l k i:=by unfold Lw.sgG;simp only[h.jointI,h.j]
theorem SameJ.singleG(k:List Bool):singleG l' k=singleG l k:=by
 unfold Lw.singleG;have e:Lw.sgG l' k=Lw.sgG l k:=funext (h.sgG k);simp only[h.sgHit,h.b,e]
theorem SameJ.nextG(k:List Bool):nextG l' k=nextG l k:=by unfold Lw.nextG;rw[h.driverG,h.pairG,h.singleG]
theorem SameJ.findFrom:∀(n:Nat)(k:List Bool)(out:List Gr),findFrom l' n k out=findFrom l n k out
 |0,k,out=>rfl
 |n+1,k,out=>by
  unfold Lw.findFrom;rw[h.nextG];cases Lw.nextG l k with
  |none=>rfl
  |some g=>exact SameJ.findFrom n _ _
theorem SameJ.findG:findG l'=findG l:=by unfold Lw.findG;rw[h.b,h.findFrom]
theorem SameJ.splitE:splitE l'=splitE l:=by unfold Lw.splitE bZ ee;rw[h.findG,h.b,h.j]
theorem SameJ.splitG:splitG l'=splitG l:=by unfold Lw.splitG;rw[h.splitE,h.findG]
end
def Jt.vs(j:Jt):List acg:=[.string j.name,.int .i64 j.kind,.int .i64 j.a,.int .i64 j.point,.int .i64 j.b,.int .i64 j.on,.int .i64 j.to]
def Dr.vs(d:Dr):List acg:=[.string d.name,.int .i64 d.body]
structure Gr.sm(g:Gr):Prop where
  b:g.bo.length<=100
  j:g.jo.length<=100
theorem xN{l:Li}(hl:aN l=0):(∀g∈splitG l,g.sm)/\(splitG l).length<=100:=by
 refine⟨fun g hg=>?_,?_⟩
 ·obtain⟨_,ho⟩:=mC hl hg;have:=ho.lb;have:=ho.lj
  exact⟨by omega,by omega⟩
 ·unfold splitG;split
  ·have:=(r5 hl).2;omega
  ·exact aa0 _
theorem I7{β:Type}{g:β->AV}{l:List β}{i:Nat}(h:i<=l.length):((l.take i).map g).length=i:=by rw[aar,abc];omega
theorem MX(a:List Int)(ha:a.length<=281474976710656):FP 27 [.lst 1 (a.map i64),.lst 1 (a.map i64)] (bl true):=by
 refine aj func27 ?_;refine gl ?_;refine gl ?_;refine gC (fun z=>?_) (fun z=>?_) (st1:=(2,0));exact acc z (by simp[aa]);refine aW [0,1] [] (fun(i:Nat)=>[pP 5 (i64 i)]) (fun _=>[]) (fun i=>i<=a.length) (fun i=>a.length-i) 0 (aa0 _) ?_;rintro i hi K1 J1;refine gl ?_;refine gC (fun z=>?_) (fun z=>?_)
 ·have hin:=a9 z;obtain⟨x,hx⟩:=ay hin;refine gi (aH hx) ?_;refine gi (aH hx) ?_;refine gD ?_;refine gC (fun z=>?_) (fun z=>?_) (st1:=(7,0));exact acc z (by simp[aa]);refine ga aS ?_;exact aR J1 (i+1) hin
 refine ah ?_;rfl
theorem zC{l:Li}{xs:List Tn}(h:i7 l xs=true)(hxw:∀x∈xs,x.t.wok):iG l=true/\xs.length<=20/\∀x∈xs,x.t.ok:=by
 unfold i7 at h;simp only[aaw,ab7]at h;refine⟨h.1.1,h.1.2,fun x hx=>?_⟩;have h9:=aa3.1 h.2.1 x hx;unfold mF at h9;rw[ab7]at h9;exact(hxw x hx).ok h9.1 h9.2 oz
theorem Nx{p:Bool}(h:cond (!true) true (!p)=false):p=true:=by cases p <;> simp_all
theorem z4{F:Int->Bool}{sg:Bool}{f:Sv->List Aq×Nat}{b:Aq}:∀{S:List Sv},b∈(fJ F sg f S).1->∃s∈S,F s.mode=true/\b∈(f s).1
 |[],h=>by cases h
 |s::S,h=>by
  rw[rq]at h;split at h
  ·obtain⟨x,hx,h2⟩:=z4 h;exact⟨x,abt _ hx,h2⟩
  ·rename_i hF;have hF:F s.mode = true:=by simpa using hF
   split at h
   ·exact⟨s,abr,hF,h⟩
   ·split at h
    ·exact⟨s,abr,hF,h⟩
    ·rcases aa2.1 h with h |h
     ·exact⟨s,abr,hF,h⟩
     ·obtain⟨x,hx,h2⟩:=z4 h;exact⟨x,abt _ hx,h2⟩
open Lean.Grind (CommRing)
structure Nxt(l:Li)(kw:List Bool)(g:Gr):Prop where
  b:∀x∈g.bo,kn kw x=false
  j:∀z∈g.jo,∀j,l.jo[z.toNat]?=some j->(j.a∈g.bo\/kn kw j.a=true)/\(j.b∈g.bo\/kn kw j.b=true)
theorem tu{l:Li}{kind b:Int}{kw:List Bool}{bs:List Int}(hb:b∈bs)(h:0<=jointI l kind b kw){j:Jt}(hj:l.jo[(jointI l kind b kw).toNat]?=some j) :
  (j.a∈bs\/kn kw j.a=true)/\(j.b∈bs\/kn kw j.b=true):=by
 obtain⟨i,j',e,h1,_,h2⟩:=xg h;rw[e,abn,h1]at hj;cases hj;rcases h2 with⟨e1,e2⟩ |⟨e1,e2⟩
 ·exact⟨.inl (e1▸hb),.inr e2⟩
 ·exact⟨.inr e2,.inl (e1▸hb)⟩
theorem WU{l:Li}(hl:aN l=0){kw:List Bool}{g:Gr}(h:nextG l kw=some g):Nxt l kw g:=by
 unfold nextG at h;cases h1:driverG l kw with
 |some g' =>
  rw[h1]at h;cases h;unfold driverG at h1;rw[aas]at h1;obtain⟨i,hi,rfl⟩:=h1;obtain⟨h1,h2⟩:=fD hi;unfold drHit at h2;simp only[Z0,aaw,ab7,Z2]at h2;refine⟨xe h2.1,fun z hz j hj=>?_⟩;rw[Za.1 hz]at hj;exact tu (by simp) h2.2 hj
 |none =>
  rw[h1]at h;cases h2:pairG l kw with
  |some g' =>
   rw[h2]at h;cases h;have hf:=Dn h2;unfold pairG at h2;rw[aas]at h2;obtain⟨i,hi,h3⟩:=h2;obtain⟨_,h4⟩:=fD hi;split at h3
   ·rename_i k hk;subst h3;unfold prAt at hk;rw [aas] at hk;obtain ⟨k',hk',rfl⟩:=hk;obtain ⟨h5,h6⟩:=fD hk';rw [show i + 1 + k' = k' + (i + 1) by omega] at h6;unfold prHit at h6;simp only [Z0,aaw,ab7] at h6;obtain ⟨_,⟨j1,j2⟩,j3⟩:=h6;refine ⟨fun x hx=>rO (hf x hx),fun z hz j hj=>?_⟩;simp only [prG,abd,abb,or_false] at hz;rcases hz with rfl | rfl | rfl
    ·exact tu (by simp[prG]) j1 hj
    ·exact tu (by simp[prG]) j2 hj
    ·obtain⟨n,a2,e,hj2,hkd,ht⟩:=xg j3;rw[e,abn,hj2]at hj;cases hj;obtain⟨i1,i2,_⟩:=cF hl hj2;have i1:=(df i1).1;have i2:=(df i2).1;rcases ht with⟨e1,e2⟩ |⟨e1,e2⟩
     ·rw[pv i2 oz oz]at e2;have e2:=ab8 e2;exact⟨.inl (by simp[prG,e1]),.inl (by simp[prG,e2])⟩
     ·rw[pv i1 oz oz]at e2;have e2:=ab8 e2;exact⟨.inl (by simp[prG,e2]),.inl (by simp[prG,e1])⟩
   ·rename_i hk;rw[hk]at h4;cases h4
  |none =>
   rw[h2]at h;have hf:=Du (show singleG l kw=some g from h);have h3:singleG l kw=some g:=h;unfold singleG at h3;rw[aas]at h3;obtain⟨i,hi,rfl⟩:=h3;obtain⟨_,h4⟩:=fD hi;unfold sgHit at h4;simp only[Z0,aaw,ab7]at h4;obtain⟨_,j1,j2⟩:=h4;refine⟨fun x hx=>rO (hf x hx),fun z hz j hj=>?_⟩;simp only[sgG,abd,abb,or_false]at hz;rcases hz with rfl |rfl
   ·exact tu (by simp[sgG]) j1 hj
   ·exact tu (by simp[sgG]) j2 hj
def Ab(l:Li):List Bool->List Gr->Prop
  |_,[]=>True
  |kw,g::gs=>Nxt l kw g/\Ab l (bJ kw g.bo) gs
theorem Ez{l:Li}(hl:aN l=0):∀(n:Nat)(kw:List Bool)(out:List Gr),∃gs,(findFrom l n kw out).2=out++gs/\Ab l kw gs
 |0,kw,out=>⟨[],(ab3 _).symm,trivial⟩
 |n+1,kw,out=>by
  unfold findFrom;cases hg:nextG l kw with
  |none=>exact⟨[],(ab3 _).symm,trivial⟩
  |some g =>
   obtain⟨gs,e,h⟩:=Ez hl n (bJ kw g.bo) (out++[g]);refine⟨g::gs,?_,WU hl hg,h⟩;show(findFrom l n (bJ kw g.bo) (out++[g])).2=_;rw[e,abu];rfl
def fH(l:Li)(gs:List Gr)(m:Nat):List Bool:=(gs.take m).foldl (fun k g=>bJ k g.bo) (cV l.bo.length 0)
theorem Do{l:Li}:∀(gs:List Gr)(kw:List Bool),Ab l kw gs->∀(m:Nat)(g:Gr),gs[m]?=some g->Nxt l ((gs.take m).foldl (fun k g=>bJ k g.bo) kw) g
 |[],kw,h,m,g,hg=>by simp at hg
 |g0::gs,kw,h,0,g,hg=>by
  rw[List.getElem?_cons_zero]at hg;cases hg;exact h.1
 |g0::gs,kw,h,m+1,g,hg=>by
  rw[List.getElem?_cons_succ]at hg;exact Do gs _ h.2 m g hg
theorem Tz(l:Li)(gs:List Gr)(m:Nat):(fH l gs m).length=l.bo.length:=by
 have:∀(gs:List Gr)(k:List Bool),(gs.foldl (fun k g=>bJ k g.bo) k).length=k.length:=by
  intro gs
  induction gs with
  |nil=>intro k;rfl
  |cons g gs ih=>intro k;rw[foldl_cons,ih,jA]
 unfold fH;rw[this,ir]
theorem Mm{l:Li}{gs:List Gr}{m:Nat}{g:Gr}(hg:gs[m]?=some g):fH l gs (m+1)=bJ (fH l gs m) g.bo:=by
 unfold fH;rw[List.take_add_one,hg,List.foldl_append];rfl
theorem sf{l:Li}{gs:List Gr}{m:Nat}{g:Gr}(hg:gs[m]?=some g)(ok:GrOk l g){b:Int}(h0:0<=b):kn (fH l gs (m+1)) b=(g.bo.any (fun x=>decide (x=b))||kn (fH l gs m) b):=by
 rw[Mm hg,zG h0 (fun x hx=>by rw[Tz];exact ok.b x hx)]
theorem qR{l:Li}(hl:aN l=0)(hs:splitE l=0){m:Nat}{g:Gr}(hg:(splitG l)[m]?=some g):Nxt l (fH l (splitG l) m) g:=by
 obtain⟨gs,e,h⟩:=Ez hl l.bo.length (cV l.bo.length 0) []
 have e2:splitG l=gs:=by
  unfold splitG findG;rw[ab6 hs,e];rfl
 rw[e2]at hg ⊢;exact Do gs _ h m g hg
theorem GT:∀(zs:List (Int×Pq))(bs:List Pq)(b:Int),(∀z∈zs,0<=z.1/\z.1≠b)->0<=b->(zs.foldl (fun k x=>k.set x.1.toNat x.2) bs).getD b.toNat a7=bs.getD b.toNat a7
 |[],bs,b,h,h0=>rfl
 |z::zs,bs,b,h,h0=>by
  rw[foldl_cons,GT zs _ b (fun y hy=>h y (abt _ hy)) h0];obtain⟨h1,h2⟩:=h z abr;exact j9 h1 h0 (Ne.symm h2)
theorem Bc{bs:List Pq}{is:List Int}{ps:List Pq}{b:Int}(h:∀x∈is,0<=x)(hb:b∉is)(h0:0<=b):(a8 bs is ps).getD b.toNat a7=bs.getD b.toNat a7 :=
 GT _ _ b (fun z hz=>by
  have:=(List.of_mem_zip hz).1;exact⟨h _ this,fun e=>hb (e▸this)⟩) h0
structure WkH(l:Li)(xs:List Tn)(a:Aq):Prop where
  js:∀m g,m<a.ms.length->(splitG l)[m]?=some g->∀z∈g.jo,JH l a.ts a.bs (l.jo.getD z.toNat default)
  cs:∀b:Int,0<=b->kn (fH l (splitG l) a.ms.length) b=true->CH a.ts (a.bs.getD b.toNat a7)
  dr:∀m g,m<a.ms.length->(splitG l)[m]?=some g->g.kind=0->dE a.ts (a.bs.getD (aL g 0).toNat a7).c=qE (dW (cB g xs).half (cB g xs).t.q)/\dE a.ts (a.bs.getD (aL g 0).toNat a7).s=qE (dR (cB g xs).half (cB g xs).t.q)
  fr:a.bs.getD 0 a7=lw
theorem MY(T:LL):dE T []=0:=by rw[E.zero_def];exact gp _
theorem VN(T:LL):dE T [1]=1:=lg _ 1
theorem WI{T:LL}(hp:eU T):CH T lw:=by
 unfold CH lw;dsimp only;rw[VN,MY,show(1:Et T)*1+0*0-1=0 by grind];exact(eF _ _ hp).zero
theorem PK{n:Nat}{b:Int}(h0:0<=b)(h:kn (cV n 0) b=true):b=0:=by
 unfold cV at h;rcases GR h with h |h
 ·rw[xB]at h;cases h
 ·have:(0:Int).toNat=0:=rfl;omega
theorem JM(l:Li)(xs:List Tn)(hb:0<l.bo.length):WkH l xs (eW l):=by
 have e0:(eW l).bs.getD 0 a7=lw:=mr (by rw[abp];exact hb);refine⟨fun m g h=>acc h (YF _),fun b h0 h=>?_,fun m g h=>acc h (YF _),e0⟩;have:b=0:=PK h0 h;subst this;show CH (eW l).ts ((eW l).bs.getD 0 a7);rw[e0];exact WI E8.pos
theorem wN{n e:Nat}{a:List Rat}(h:Nm n e a):a.length<=2^n:=h.nl.le
theorem Pq.ok.nq{n e:Nat}{p:Pq}(h:Pq.ok n e p):Nq n p:=⟨wN h.c,wN h.s,wN h.x,wN h.y⟩
theorem yT{ts ts' T:LL}(e:ts=ts')(h:Lf ts T):Lf ts' T:=e▸h
section
variable{l:Li}{xs:List Tn}{s g:Nat}(W:WkC l xs s g){gr:Gr}{a:Aq}(hg:(splitG l)[a.ms.length]?=some gr)
variable{j r E:Nat}(Q:QInv l j r E a)
include W hg Q
theorem WkH.step(H:WkH l xs a){sv:Sv}(hs:sv∈eZ l a.as gr (cB gr xs)):WkH l xs (a.nxt gr sv):=by
 have tw:=QInv.twl W hg Q;have hq:(Lw.llq a.as.rs)=a.ts:=a.llq;obtain⟨dy,ok⟩:=W.grp hg;have N:=qR W.li W.sp hg
 have hN:∀p∈aO a.as,Nq (Lw.llq a.as.rs).length p:=by
  intro p hp;rw[lr]at hp;rw[hq];exact(Q.bs p hp).nq
 have G:=P3 tw hN dy (fun b hb=>by
  rw[lr];have:=ok.b b hb;have:=Q.ln;omega) W.li hs
 rw[lr]at G;have L:Lf a.ts sv.ts:=yT hq G.1.lf;have js:=G.1.js;have cs:=G.1.cs;rw[lr]at js cs;have hN':∀i,Nq a.ts.length (a.bs.getD i a7):=fun i=>BG (fun p hp=>(Q.bs p hp).nq) i
 have sam:∀b:Int,0<=b->b∉gr.bo->dc a.bs (a8 a.bs gr.bo sv.ps) a.ts.length b:=fun b h0 hb=>⟨Bc (fun x hx=>(ok.b x hx).1) hb h0,hN' _⟩
 have old:∀b:Int,kn (fH l (splitG l) a.ms.length) b=true->b∉gr.bo:=fun b hk hb=>by
  rw[N.b b hb]at hk;cases hk
 have hml:(a.nxt gr sv).ms.length=a.ms.length+1:=by show(a.ms++[sv.mode]).length=_;simp
 have mono:∀(k m:Nat),m+k<=a.ms.length->∀b:Int,0<=b->kn (fH l (splitG l) m) b=true->kn (fH l (splitG l) (m+k)) b=true:=by
  intro k
  induction k with
  |zero=>intro m _ b _ h;exact h
  |succ k ih =>
   intro m hm b h0 h;have h1:=ih m oz b h0 h;have hlt:m+k<(splitG l).length:=by have:=(Y1.1 hg).1;omega
   obtain⟨g2,hg2⟩:=ay hlt;rw[show m+(k+1)=(m+k)+1 by omega,sf hg2 (W.grp hg2).2 h0,h1];simp
 have jn:∀{z:Int}{jt:Jt},l.jo[z.toNat]?=some jt->0<=jt.a/\0<=jt.b:=fun hj=>by
  obtain⟨i1,i2,_⟩:=cF W.li hj;have i1:=df i1;have i2:=df i2;omega
 have cU:∀m g2,m<a.ms.length->(splitG l)[m]?=some g2->∀b:Int,0<=b->(b∈g2.bo\/kn (fH l (splitG l) m) b=true)->b∉gr.bo:=by
  intro m g2 hm hg2 b h0 hb;refine old b ?_
  have h1:kn (fH l (splitG l) (m+1)) b=true:=by
   rw[sf hg2 (W.grp hg2).2 h0];rcases hb with hb |hb
   ·have : g2.bo.any (fun x => decide (x = b)) = true := by rw [Zz]; exact ⟨b, hb, by simp⟩
    rw[this];rfl
   ·rw[hb];simp
  have:=mono (a.ms.length-(m+1)) (m+1) oz b h0 h1
  rwa [show m+1+(a.ms.length-(m+1))=a.ms.length by omega]at this
 refine⟨?_,?_,?_,?_⟩
 ·intro m g2 hm hg2 z hz;rw[hml]at hm;show JH l sv.ts (a8 a.bs gr.bo sv.ps) _
  by_cases e:m=a.ms.length
  ·subst e;rw[hg]at hg2;cases hg2;exact js z hz
  ·obtain⟨jt,hj⟩ := ay (l := l.jo) (i := z.toNat) (by have := (W.grp hg2).2.j z hz;omega);have hjz:l.jo[z.toNat]?=some jt:=hj;have H1:=H.js m g2 oz hg2 z hz;rw[aq hj]at H1 ⊢;have N2:=qR W.li W.sp hg2;obtain⟨na,nb⟩:=N2.j z hz jt hj;obtain⟨a0,b0⟩:=jn hjz;exact L.jh (sam _ a0 (cU m g2 oz hg2 _ a0 na)) (sam _ b0 (cU m g2 oz hg2 _ b0 nb)) H1
 ·intro b h0 hk;rw[hml,sf hg ok h0]at hk;show CH sv.ts ((a8 a.bs gr.bo sv.ps).getD b.toNat a7)
  by_cases hb:b∈gr.bo
  ·exact cs b hb
  ·have:gr.bo.any (fun x=>decide (x=b))=false:=by
    cases h:gr.bo.any (fun x=>decide (x=b))with
    |false=>rfl
    |true =>
     rw[Zz]at h;obtain⟨x,hx,e⟩:=h;exact acc ((ab8 e)▸hx) hb
   rw[this,Bool.false_or]at hk;have S:=sam b h0 hb;rw[S.1];exact L.ch S.2 (H.cs b h0 hk)
 ·intro m g2 hm hg2 hk;rw[hml]at hm;show dE sv.ts ((a8 a.bs gr.bo sv.ps).getD (aL g2 0).toNat a7).c=_/\dE sv.ts ((a8 a.bs gr.bo sv.ps).getD (aL g2 0).toNat a7).s=_
  by_cases e:m=a.ms.length
  ·subst e;rw[hg]at hg2;cases hg2;exact G.2 hk
  ·obtain⟨h1,h2⟩:=H.dr m g2 oz hg2 hk
   have hb:aL g2 0∈g2.bo:=by
    have:=(W.grp hg2).1;cases this with
    |drv=>exact abr
    |rrr=>exact acc hk (by simp)
    |pr=>exact acc hk (by simp)
    |rp=>exact acc hk (by simp)
   have h0:=((W.grp hg2).2.b _ hb).1;have S:=sam _ h0 (cU m g2 oz hg2 _ h0 (.inl hb));obtain⟨n1,n2,_⟩:=S.2;rw[S.1,<- L.low _ n1,<- L.low _ n2,h1,h2,L.q,L.q];exact⟨rfl,rfl⟩
 ·show(a8 a.bs gr.bo sv.ps).getD (0:Int).toNat a7=lw
  have h0:(0:Int)∉gr.bo:=by
   refine old 0 ?_
   have hs:=mono a.ms.length 0 oz 0 oz (by
    show kn (cV l.bo.length 0) 0=true;rw[pv oz oz (by have:=(dg W.li).2.2.2;omega)];rfl)
   rwa [Yf]at hs
  rw[(sam 0 oz h0).1];exact H.fr
end
end Go.Lw
namespace Go.Lw
theorem BS{F:Int->Bool}{sg:Bool}{f:Sv->List Aq×Nat}{b:Aq}:∀{S:List Sv},b∈(fJ F sg f S).1->∃s∈S,b∈(f s).1:=by
 intro S h;obtain⟨s,hs,_,h2⟩:=z4 h;exact⟨s,hs,h2⟩
theorem yO{l:Li}{xs:List Tn}{s g:Nat}(W:WkC l xs s g){F:Nat->Int->Bool}{sg:Bool}:∀(n:Nat)(a:Aq),WkSt l s g n a->WkH l xs a->∀b∈(f8 F sg l xs (splitG l) n a).1,WkSt l s g 0 b/\WkH l xs b
 |0,a,h,H,b,hb=>by rw[Za.1 hb];exact⟨h,H⟩
 |n+1,a,h,H,b,hb=>by
  obtain⟨gr,hg,_,hP,hn⟩:=h.next W;obtain⟨⟨j,r,E,y,Q,ok,hc⟩,hl⟩:=h;unfold f8 at hb;rw[aq hg]at hb;split at hb
  ·cases hb
  ·obtain⟨sv,hsv,h2⟩:=BS hb;exact yO W n _ (hn sv hsv) (WkH.step W hg Q H hsv) b h2
structure AqFin(l:Li)(xs:List Tn)(a:Aq):Prop where
  li:aN l=0
  lx:xs.length=l.dv.length
  xo:∀x∈xs,x.err=0/\Qb 1000 x.t.q/\x.t.ok
  tw:∃r,r<=400000000/\Tw a.ts r
  two:a.ts.length<=2
  bs:∀p∈a.bs,Pq.ok a.ts.length 3200000000 p
  ln:a.bs.length=l.bo.length
  lm:a.ms.length<=100
  js:∀j∈l.jo,JH l a.ts a.bs j
  cs:∀i,i<l.bo.length->CH a.ts (a.bs.getD i a7)
  dr:∀i d,l.dv[i]?=some d->dE a.ts (a.bs.getD d.body.toNat a7).c=qE (dW (xs.getD i d6).half (xs.getD i d6).t.q)/\dE a.ts (a.bs.getD d.body.toNat a7).s=qE (dR (xs.getD i d6).half (xs.getD i d6).t.q)
  fr:a.bs.getD 0 a7=lw
theorem D5{f:Gr->List Int}:∀(gs:List Gr)(k:List Bool)(b:Int),kn (gs.foldl (fun k g=>bJ k (f g)) k) b=true->kn k b=true\/∃g∈gs,∃x∈f g,x.toNat=b.toNat
 |[],k,b,h=>.inl h
 |g::gs,k,b,h=>by
  rw[foldl_cons]at h;rcases D5 gs _ b h with h |⟨g',hg,x,hx,e⟩
  ·rcases zY _ h with h |⟨x,hx,e⟩
   ·exact .inl h
   ·exact .inr ⟨g,abr,x,hx,e⟩
  ·exact .inr ⟨g',abt _ hg,x,hx,e⟩
theorem Hg{k:List Bool}(h:(eY k).length=0){i:Nat}(hi:i<k.length):kn k (i:Int)=true:=by
 rw[vG]at h;unfold kn;rw[aaq,aat (by omega:(i:Int).toNat<k.length)];show k[(i:Int).toNat]=true;cases hv:k[(i:Int).toNat]'oz with
 |true=>rfl
 |false =>
  exfalso;have hm:false∈k:=hv▸Zi _;rw[<- Zh]at hm;rw[hm]at h;cases h
theorem zZ(f:Gr->List Int):∀(gs:List Gr)(k:List Bool),(gs.foldl (fun k g=>bJ k (f g)) k).length=k.length
 |[],k=>rfl
 |g::gs,k=>by rw[foldl_cons,zZ f gs,jA]
theorem LZ{l:Li}(hs:splitE l=0):(eY (bZ l)).length=0/\(eY (ee l)).length=0/\splitG l=findG l:=by
 have h9:(eY (bZ l)).length+(eY (ee l)).length=0:=by
  unfold splitE at hs;split at hs
  ·assumption
  ·cases hs
 exact⟨by omega,by omega,by unfold splitG;rw[ab6 hs]⟩
theorem HQ{l:Li}{xs:List Tn}{s g:Nat}(W:WkC l xs s g){a:Aq}(h:WkSt l s g 0 a)(H:WkH l xs a):AqFin l xs a:=by
 obtain⟨⟨j,r,E,y,Q,ok,_⟩,hl⟩:=h;obtain⟨hE,hr,hj⟩:=Fn ok;obtain⟨r1,r2,r3⟩:=LZ W.sp;have h1:=Q.lv;have h4:=ue W.li;refine⟨W.li,W.ln,fun x hx=>⟨(W.ok x hx).2.1,(W.ok x hx).2.2.1,(W.ok x hx).1⟩,⟨r,hr,Q.tw⟩,by omega,fun p hp=>(Q.bs p hp).up (aau _) Q.tw.five hE,Q.ln,by omega,?_,?_,?_,H.fr⟩
 ·intro jt hjt;obtain ⟨i,hi⟩:=aby hjt;have hil:=(Y1.1 hi).1;have hlen:(ee l).length = l.jo.length:=by unfold ee; rw [zZ Gr.jo,abp]
  have hk:=Hg r2 (i:=i) oz;unfold ee at hk;rcases D5 (f:=Gr.jo) _ _ _ hk with h9 |⟨gr,hg,z,hz,e⟩
  ·rw[xB]at h9;cases h9
  ·rw[<- r3]at hg;obtain⟨m,hm⟩:=aby hg;have hml:=(Y1.1 hm).1;have hJ:=H.js m gr oz hm z hz;rw[e,abn,aq hi]at hJ;exact hJ
 ·intro i hi;have hlen:(bZ l).length = l.bo.length:=by unfold bZ; rw [zZ Gr.bo,ir]
  have hk:=Hg r1 (i:=i) oz
  have e:bZ l=fH l (splitG l) a.ms.length:=by
   unfold fH bZ;rw[r3]at hl ⊢;rw[aa7 oz]
  rw[e]at hk;have:=H.cs i oz hk
  rwa [abn]at this
 ·intro i d hd;obtain ⟨gr,hg,hk,hb⟩:=Iu W.li W.sp d (aap hd);obtain ⟨m,hm⟩:=aby hg;have hml:=(Y1.1 hm).1;have hD:=H.dr m gr oz hm hk;have eb:aL gr 0 = d.body:=by unfold aL; rw [hb]; rfl
  have hdy:=(W.grp hm).1
  have ed:gr.driver=(i:Int):=by
   cases hdy with
   | @drv b z dd jt x t d0 hd2 hxb =>
    have e2:x.body=d.body:=hxb.trans (by simpa using hb);rcases Nat.lt_trichotomy dd.toNat i with h9 |h9 |h9
    ·exact acc e2 ((vE W.li hd).2 _ x h9 hd2)
    ·show dd=(i:Int);omega
    ·exact acc e2.symm ((vE W.li hd2).2 _ d h9 hd)
   |rrr=>exact acc hk (by simp)
   |pr=>exact acc hk (by simp)
   |rp=>exact acc hk (by simp)
  have et:cB gr xs=xs.getD i d6:=by unfold cB;rw[ab6 hk,ed,abn]
  rw[eb,et]at hD;exact hD
theorem ON{l:Li}(hl:l.ok){xs:List Tn}(hL:i7 l xs=true)(hxw:∀x∈xs,x.t.wok){A:List Aq}{e:Nat}(h:je l xs=(A,e)):∀a∈A,AqFin l xs a:=by
 by_cases h0:cW l xs=0
 ·obtain⟨s,g,W,St⟩:=v6 hL hl hxw h0;have hb:=(dg W.li).2.2.2;have hw:=yO W (F:=gN) (sg:=false) (splitG l).length (eW l) St (JM l xs oz);unfold je at h;rw[ab5 (fun h=>h h0)]at h;intro a ha;split at h
  ·cases h;cases ha
  ·have e1:(lP gN false l xs).1=A:=acd Prod.fst h;rw[<- e1]at ha;obtain⟨h1,h2⟩:=hw a ha;exact HQ W h1 h2
 ·unfold je at h;rw[ab6 h0]at h;cases h;intro a ha;cases ha
open Lean.Grind (CommRing)
section
variable{ts T:LL}(L:Lf ts T)
include L
theorem Lf.pp{l:Li}{bs bs':List Pq}{j:Jt}{i:Int}(tie:(j.a=i/\dc bs bs' ts.length j.b)\/(j.a≠i/\j.b=i/\dc bs bs' ts.length j.a)) :
  af L.pos (Lw.pinP l T bs' j i).1=af L.pos (az T (Lw.pinP l ts bs j i).1)/\af L.pos (Lw.pinP l T bs' j i).2=af L.pos (az T (Lw.pinP l ts bs j i).2):=by
 unfold Lw.pinP;rcases tie with⟨e,hs⟩ |⟨e,e2,hs⟩
 ·rw[ab6 e,ab6 e];exact L.pt l hs j.on
 ·rw[ab5 e,ab5 e];exact L.pt l hs j.point
end
structure DetH(l:Li)(a:As)(g:Gr)(s:Sv):Prop where
  lf:Lf (llq a.rs) s.ts
  sg:ao (cR l s.ts (a8 (aO a) g.bo s.ps) g)=s.mode
  rd:af lf.pos (fi l s.ts (a8 (aO a) g.bo s.ps) g)=af lf.pos (az s.ts (jr l a g))
section
variable{l:Li}{a:As}{r:Nat}(tw:Tw (llq a.rs) r)(hN:∀p∈aO a,Nq (llq a.rs).length p)
include tw hN
theorem WQ{i k z0 z1 z2:Int}{j0 j1 j2:Jt}(ne:i≠k)(t0:TieO l 0 [i,k] z0 i j0)(t1:TieO l 0 [i,k] z1 k j1)(h2:l.jo[z2.toNat]?=some j2)
  (hi:0<=i) (hk:0<=k) (hil:i.toNat<(aO a).length) (hkl:k.toNat<(aO a).length) (hn:∀j∈l.jo,0<=j.a/\0<=j.b)
  {s:Sv} (hs:s∈jw l a i k j0 j1 j2):DetH l a ⟨1,[i,k],[z0,z1,z2],0⟩ s:=by
 have e0:am l ⟨1,[i,k],[z0,z1,z2],0⟩ 0=j0:=aq t0.hj;have e1:am l ⟨1,[i,k],[z0,z1,z2],0⟩ 1=j1:=aq t1.hj;have e2:am l ⟨1,[i,k],[z0,z1,z2],0⟩ 2=j2:=aq h2;have b0:aL ⟨1,[i,k],[z0,z1,z2],0⟩ 0=i:=rfl;have b1:aL ⟨1,[i,k],[z0,z1,z2],0⟩ 1=k:=rfl;unfold jw at hs;split at hs
 ·cases hs
 ·rename_i hz;obtain⟨w1,w2⟩:=uS (ZY.2 hz);split at hs
  ·cases hs
  ·rename_i hc;have hc:=aao.1 hc;have geo:=Nu tw hc (Dj tw hN w1);unfold jT at hs;obtain⟨m,hm,rfl⟩:=Y8.1 hs;obtain⟨x,hx⟩:=ay (Y3.1 hm);have G:=geo m x hx;unfold j8;rw[aq hx];obtain⟨n0,n1⟩:=hn j0 (aap t0.hj);obtain⟨n2,n3⟩:=hn j1 (aap t1.hj);generalize hM:er (aw l a j0 i) (aw l a j1 k) (qE (ba (ai l j2 i) (ai l j0 i))) (qE (ba (ai l j2 k) (ai l j1 k)))=M at *;obtain⟨B0,hB0⟩:∃B0,B0=lh M.ts x ⟨ai l j0 i,P2.l (aw l a j0 i),ai l j2 i⟩:=⟨_,rfl⟩
   obtain⟨B1,hB1⟩:∃B1,B1=lh M.ts x ⟨ai l j1 k,P2.l (aw l a j1 k),ai l j2 k⟩:=⟨_,rfl⟩
   have hbs:a8 (aO a) [i,k] [B0,B1]=((aO a).set i.toNat B0).set k.toNat B1:=rfl;have g0:(a8 (aO a) [i,k] [B0,B1]).getD i.toNat a7=B0:=by rw[hbs,j9 hk hi ne,mr hil]
   have gn:∀b:Int,0<=b->b∉[i,k]->dc (aO a) (a8 (aO a) [i,k] [B0,B1]) (llq a.rs).length b:=fun b h0 hb=>pu tw hN (by
    rw[hbs,j9 hk h0 (fun e=>hb (by simp[e])),j9 hi h0 (fun e=>hb (by simp[e]))])
   have q0:br M.ts B0 (ai l j2 i)=(dE M.ts x.1,dE M.ts x.2):=by
    rw[hB0];refine(tZ w1).trans ?_;unfold kI jE;refine Prod.ext ?_ ?_
    ·dsimp only;grind
    ·dsimp only;grind
   have L:=G.lf
   have P0:=L.pp (l:=l) (bs:=aO a) (bs':=a8 (aO a) [i,k] [B0,B1]) (j:=j0) (i:=i) (by
    rcases t0.tie with⟨e,hb⟩ |⟨e,hb⟩
    ·exact .inl ⟨e,gn _ n1 hb⟩
    ·exact .inr ⟨fun e2=>hb (by simp[e2]),e,gn _ n0 hb⟩)
   have P1:=L.pp (l:=l) (bs:=aO a) (bs':=a8 (aO a) [i,k] [B0,B1]) (j:=j1) (i:=k) (by
    rcases t1.tie with⟨e,hb⟩ |⟨e,hb⟩
    ·exact .inl ⟨e,gn _ n3 hb⟩
    ·exact .inr ⟨fun e2=>hb (by simp[e2]),e,gn _ n2 hb⟩)
   have hr:=CV L (l:=l) (g:=⟨1,[i,k],[z0,z1,z2],0⟩) (bs:=aO a) (bs':=a8 (aO a) [i,k] [B0,B1]) (fun _=>by rw[e0,b0];exact P0) (fun _=>by rw[e1,b1];exact P1) (fun h=>acc h (by simp)) (fun _ h=>acc rfl h)
   have hd:=G.ex (cR l M.ts (a8 (aO a) [i,k] [B0,B1]) ⟨1,[i,k],[z0,z1,z2],0⟩) (by
    rw[F8 rfl,e0,e1,e2,b0,b1,g0,q0];unfold gy crsE aQ;dsimp only;rw[bI,bD,bD,bI,bI,bI,bI,P0.1,P0.2,P1.1,P1.2,<- oQ,<- oQ])
   rw[hB0,hB1]at hr hd;exact⟨L,hd,by rw[xG];exact hr⟩
theorem Uv{i z0 z1:Int}{j0 j:Jt}(t0:TieO l 0 [i] z0 i j0)(t1:TieO l 1 [i] z1 i j)(ha:j.a=i)(hi:0<=i)(hil:i.toNat<(aO a).length)(hn:∀j∈l.jo,0<=j.a/\0<=j.b)
  {s:Sv} (hs:s∈jP l a i j0 j):DetH l a ⟨2,[i],[z0,z1],0⟩ s:=by
 have e0:am l ⟨2,[i],[z0,z1],0⟩ 0=j0:=aq t0.hj;have e1:am l ⟨2,[i],[z0,z1],0⟩ 1=j:=aq t1.hj;have b0:aL ⟨2,[i],[z0,z1],0⟩ 0=i:=rfl;unfold jP at hs;split at hs
 ·cases hs
 ·rename_i hz;have w1:=uK (ZY.2 hz);split at hs
  ·cases hs
  ·rename_i hc;have hc:=aao.1 hc;have geo:=V3 tw (c:=aw l a j0 i) (z:=qE (ba (aM l i j.point) (ai l j0 i))) hc;unfold jT at hs;obtain⟨m,hm,rfl⟩:=Y8.1 hs;obtain⟨x,hx⟩:=ay (Y3.1 hm);have G:=geo m x hx;have L:=G.lf;unfold j8;rw[aq hx];obtain⟨n0,n1⟩:=hn j0 (aap t0.hj);obtain⟨n2,n3⟩:=hn j (aap t1.hj);generalize hM:d8 (aZ l a j.b j.on) (aZ l a j.b j.to) (aw l a j0 i) (qE (ba (aM l i j.point) (ai l j0 i)))=M at *;obtain⟨B0,hB0⟩:∃B0,B0=lh M.ts x ⟨ai l j0 i,P2.l (aw l a j0 i),aM l i j.point⟩:=⟨_,rfl⟩
   have hbs:a8 (aO a) [i] [B0]=(aO a).set i.toNat B0:=rfl;have g0:(a8 (aO a) [i] [B0]).getD i.toNat a7=B0:=by rw[hbs,mr hil]
   have gn:∀b:Int,0<=b->b∉[i]->dc (aO a) (a8 (aO a) [i] [B0]) (llq a.rs).length b:=fun b h0 hb=>pu tw hN (by
    rw[hbs,j9 hi h0 (fun e=>hb (by simp[e]))])
   have q0:br M.ts B0 (aM l i j.point)=(dE M.ts x.1,dE M.ts x.2):=by
    rw[hB0];refine(tZ w1).trans ?_;unfold kI jE;refine Prod.ext ?_ ?_
    ·dsimp only;grind
    ·dsimp only;grind
   have hjb:dc (aO a) (a8 (aO a) [i] [B0]) (llq a.rs).length j.b:=by
    rcases t1.tie with⟨e,hb⟩ |⟨e,hb⟩
    ·exact gn _ n3 hb
    ·exact acc (by simp[ha]) hb
   have P0:=L.pp (l:=l) (bs:=aO a) (bs':=a8 (aO a) [i] [B0]) (j:=j0) (i:=i) (by
    rcases t0.tie with⟨e,hb⟩ |⟨e,hb⟩
    ·exact .inl ⟨e,gn _ n1 hb⟩
    ·exact .inr ⟨fun e2=>hb (by simp[e2]),e,gn _ n0 hb⟩)
   have on:=L.pt l hjb j.on;have to:=L.pt l hjb j.to;have hr:=CV L (l:=l) (g:=⟨2,[i],[z0,z1],0⟩) (bs:=aO a) (bs':=a8 (aO a) [i] [B0]) (fun _=>by rw[e0,b0];exact P0) (fun h=>acc h (by simp)) (fun _ pt=>by rw[e1];exact L.pt l hjb pt) (fun _ _ h=>acc rfl h)
   have hd:=G.ex (cR l M.ts (a8 (aO a) [i] [B0]) ⟨2,[i],[z0,z1],0⟩) (by
    rw[Hk rfl,e0,e1,b0,g0,q0];unfold dm dotE aQ;dsimp only;rw[fc,bD,bD,bI,bI,bI,bI,P0.1,P0.2,on.1,on.2,to.1,to.2,<- oQ,<- iV,<- iV])
   rw[hB0]at hr hd;exact⟨L,hd,by rw[xG];exact hr⟩
theorem zL{i z0 z1:Int}{j0 j:Jt}(t0:TieO l 0 [i] z0 i j0)(t1:TieO l 1 [i] z1 i j)(ha:j.a≠i)(hi:0<=i)(hil:i.toNat<(aO a).length)(hn:∀j∈l.jo,0<=j.a/\0<=j.b)(hv:b9 (cw l i j) (cw l i j)≠0)
  (hd:ao (bY l a i j0 j)≠0) {T:LL} (L:Lf (llq a.rs) T) {q:List Rat} {n:Int} (hm:ao (dE T q)=n) :
  DetH l a ⟨3,[i],[z0,z1],0⟩ ⟨T,[nF T (dz l a i j0 j) q],n⟩:=by
 have a0:am l ⟨3,[i],[z0,z1],0⟩ 0=j0:=aq t0.hj;have a1:am l ⟨3,[i],[z0,z1],0⟩ 1=j:=aq t1.hj;have b0:aL ⟨3,[i],[z0,z1],0⟩ 0=i:=rfl;obtain⟨n0,n1⟩:=hn j0 (aap t0.hj);obtain⟨n2,n3⟩:=hn j (aap t1.hj)
 obtain⟨tb,tn⟩:j.b=i/\j.a∉[i]:=by
  rcases t1.tie with⟨e,hb⟩ |h
  ·exact acc e ha
  ·exact h
 obtain⟨w,hw⟩:∃w:P2 T,w=n8 T q (dz l a i j0 j).h (dz l a i j0 j).d (dz l a i j0 j).w:=⟨_,rfl⟩
 obtain⟨o,ho⟩:∃o:P2 T,o=(az T (aw l a j0 i).1,az T (aw l a j0 i).2):=⟨_,rfl⟩
 obtain⟨B0,hB0⟩:∃B0,B0=gL (cw l i j) w (ai l j0 i) o:=⟨_,rfl⟩
 have e0:nF T (dz l a i j0 j) q=B0:=by rw[hB0,hw,ho];rfl
 rw[e0];have hbs:a8 (aO a) [i] [B0]=(aO a).set i.toNat B0:=rfl;have g0:(a8 (aO a) [i] [B0]).getD i.toNat a7=B0:=by rw[hbs,mr hil]
 have gn:∀b:Int,0<=b->b∉[i]->dc (aO a) (a8 (aO a) [i] [B0]) (llq a.rs).length b:=fun b h0 hb=>pu tw hN (by
  rw[hbs,j9 hi h0 (fun e=>hb (by simp[e]))])
 have hD:af L.pos (az T (bY l a i j0 j))=af L.pos (az T (bT l a i j0 j).1)*af L.pos (az T (bT l a i j0 j).1)+af L.pos (az T (bT l a i j0 j).2)*af L.pos (az T (bT l a i j0 j).2):=by
  rw[<- L.mul,<- L.mul,<- L.add];rfl
 have hI:af L.pos (iE (az T (bY l a i j0 j)))*af L.pos (az T (bY l a i j0 j))=1:=vu L.pos (fun e=>hd ((L.zero _).1 e));have eh:dE T (dz l a i j0 j).h=qE (bP l i j0 j):=fL _ _;have x1:w.1=(dE T q*az T (bT l a i j0 j).1-qE (bP l i j0 j)*-az T (bT l a i j0 j).2)*iE (az T (bY l a i j0 j)):=by rw[hw,<- eh];rfl
 have x2:w.2=(dE T q*az T (bT l a i j0 j).2-qE (bP l i j0 j)*az T (bT l a i j0 j).1)*iE (az T (bY l a i j0 j)):=by rw[hw,<- eh];rfl
 have G:=LV hD hI (t:=af L.pos (dE T q)) (hh:=af L.pos (qE (bP l i j0 j))) (w1:=af L.pos w.1) (w2:=af L.pos w.2) (by rw[x1,bD,bI,bD,bD,GD]) (by rw[x2,bD,bI,bD,bD])
 have P0:=L.pp (l:=l) (bs:=aO a) (bs':=a8 (aO a) [i] [B0]) (j:=j0) (i:=i) (by
  rcases t0.tie with⟨e,hb⟩ |⟨e,hb⟩
  ·exact .inl ⟨e,gn _ n1 hb⟩
  ·exact .inr ⟨fun e2=>hb (by simp[e2]),e,gn _ n0 hb⟩)
 have hja:=gn _ n2 tn;have pp:=L.pt l hja j.point;have hr:=CV L (l:=l) (g:=⟨3,[i],[z0,z1],0⟩) (bs:=aO a) (bs':=a8 (aO a) [i] [B0]) (fun _=>by rw[a0,b0];exact P0) (fun h=>acc h (by simp)) (fun h=>acc h (by simp)) (fun _ _ _ pt=>by rw[a1];exact L.pt l hja pt)
 have W1:af L.pos (az T (bT l a i j0 j).1)=af L.pos (aB l T (a8 (aO a) [i] [B0]) j.a j.point).1-af L.pos (pinP l T (a8 (aO a) [i] [B0]) j0 i).1:=by
  rw[pp.1,P0.1,<- L.sub,<- iV,<- oQ];rfl
 have W2:af L.pos (az T (bT l a i j0 j).2)=af L.pos (aB l T (a8 (aO a) [i] [B0]) j.a j.point).2-af L.pos (pinP l T (a8 (aO a) [i] [B0]) j0 i).2:=by
  rw[pp.2,P0.2,<- L.sub,<- iV,<- oQ];rfl
 have eon:aB l T (a8 (aO a) [i] [B0]) j.b j.on=br T B0 (aM l i j.on):=by unfold aB;rw[tb,g0]
 have eto:aB l T (a8 (aO a) [i] [B0]) j.b j.to=br T B0 (aM l i j.to):=by unfold aB;rw[tb,g0]
 have gg:=BP (w:=w) hv;have v1:(qE (cw l i j).1:Et T)=qE ((aM l i j.to).1-(ai l j0 i).1)-qE ((aM l i j.on).1-(ai l j0 i).1):=by rw[<- kl];congr 1;show(aM l i j.to).1-(aM l i j.on).1=_;grind
 have v2:(qE (cw l i j).2:Et T)=qE ((aM l i j.to).2-(ai l j0 i).2)-qE ((aM l i j.on).2-(ai l j0 i).2):=by rw[<- kl];congr 1;show(aM l i j.to).2-(aM l i j.on).2=_;grind
 have d1:(br T B0 (aM l i j.to)).1-(br T B0 (aM l i j.on)).1=w.1:=by
  rw[hB0,mS,mS];dsimp only;have g1:=gg.1;rw[v1,v2]at g1;rw[<- g1];generalize dF (cw l i j) w=C;generalize dt (cw l i j) w=S;clear g1;grind
 have d2:(br T B0 (aM l i j.to)).2-(br T B0 (aM l i j.on)).2=w.2:=by
  rw[hB0,mS,mS];dsimp only;have g1:=gg.2;rw[v1,v2]at g1;rw[<- g1];generalize dF (cw l i j) w=C;generalize dt (cw l i j) w=S;clear g1;grind
 have hdt:af L.pos (cR l T (a8 (aO a) [i] [B0]) ⟨3,[i],[z0,z1],0⟩)=af L.pos (dE T q):=by
  rw[Kb rfl,a0,a1,b0,eon,eto];unfold dm dotE aQ;dsimp only;rw[d1,d2,fc,bD,bD,bI,bI,<- W1,<- W2];exact G
 refine⟨L,?_,by rw[xG];exact hr⟩;show ao (cR l T (a8 (aO a) [i] [B0]) _)=n;rw[<- hm];exact um L.pos hdt
theorem Wt{i z0 z1:Int}{j0 j:Jt}(t0:TieO l 0 [i] z0 i j0)(t1:TieO l 1 [i] z1 i j)(ha:j.a≠i)(hi:0<=i)(hil:i.toNat<(aO a).length)(hn:∀j∈l.jo,0<=j.a/\0<=j.b)(hv:b9 (cw l i j) (cw l i j)≠0)
  {s:Sv} (hs:s∈jR l a i j0 j):DetH l a ⟨3,[i],[z0,z1],0⟩ s:=by
 unfold jR at hs;split at hs
 ·cases hs
 ·rename_i h1;split at hs
  ·cases hs
  ·rename_i h2;have hd:=uJ tw h2 h1;split at hs
   ·rename_i h3;have hp:=p7 tw.pos h3;have L:=pS (bw l a i j0 j) hp;have s1:=AW (Ep tw.pos h3);unfold jF at hs;obtain⟨m,hm,rfl⟩:=Y8.1 hs;have hm:=Y3.1 hm;unfold iY
    match m,hm with
    |0,_ =>
     exact zL tw hN t0 t1 ha hi hil hn hv hd L s1
    |1,_ =>
     refine zL tw hN t0 t1 ha hi hil hn hv hd L ?_;show ao (dE _ (sX (-bE (bw l a i j0 j))))=_;rw[eJ,Bj hp,s1];rfl
    |m+2,h=>exact acc h (by simp)
   ·rename_i h3;have hX:ao (bw l a i j0 j) = 0:=by omega
    have L:=m8 (ts:=llq a.rs) tw.pos;unfold jF at hs;obtain⟨m,hm,rfl⟩:=Y8.1 hs;have hm:=Y3.1 hm;unfold iY;have e0:(dE (llq a.rs) []:Et (llq a.rs))=0:=by rw[E.zero_def];exact gp _
    match m,hm with
    |0,_ =>
     refine zL tw hN t0 t1 ha hi hil hn hv hd L ?_;show ao (dE _ [])=_;rw[e0];exact(eF _ _ L.pos).zero
    |m+1,h=>exact acc h (by simp)
theorem HJ{g:Gr}(hg:DyK l g)(hgb:∀b∈g.bo,0<=b/\b.toNat<(aO a).length)(hli:aN l=0){x:Tn}{s:Sv}(hs:s∈eZ l a g x):DetH l a g s:=by
 have hn:∀j∈l.jo,0<=j.a/\0<=j.b:=fun j hj=>by
  obtain⟨n,hn⟩:=aby hj;obtain⟨i1,i2,_⟩:=cF hli hn;have i1:=df i1;have i2:=df i2;omega
 cases hg with
 | @drv b z d j dr t d0 hd hb =>
  have e:am l ⟨0,[b],[z],d⟩ 0=j:=aq t.hj;have hs:s∈kz l a b j x:=by rw[<- e];exact hs
  unfold kz at hs;split at hs
  ·cases hs
  ·rw[Za.1 hs];have L:=m8 (ts:=llq a.rs) tw.pos;have q1:(qE 1:Et (llq a.rs))=1:=rfl;refine⟨L,?_,?_⟩
   ·show ao (qE 1:Et (llq a.rs))=1;rw[q1];exact(eF _ _ tw.pos).one
   ·show af L.pos (qE 1:Et (llq a.rs))=af L.pos (az (llq a.rs) (qE 1));rw[dp]
 | @rrr i k z0 z1 z2 j0 j1 j2 ne t0 t1 h0 h2 kd tie =>
  have e0:am l ⟨1,[i,k],[z0,z1,z2],0⟩ 0=j0:=aq t0.hj;have e1:am l ⟨1,[i,k],[z0,z1,z2],0⟩ 1=j1:=aq t1.hj;have e2:am l ⟨1,[i,k],[z0,z1,z2],0⟩ 2=j2:=aq h2;have hs:s∈jw l a i k j0 j1 j2:=by rw[<- e0,<- e1,<- e2];exact hs
  obtain⟨b1,b2⟩:=hgb i (by simp);obtain⟨b3,b4⟩:=hgb k (by simp);exact WQ tw hN ne t0 t1 h2 b1 b3 b2 b4 hn hs
 | @pr i z0 z1 j0 j1 t0 t1 ha =>
  have e0:am l ⟨2,[i],[z0,z1],0⟩ 0=j0:=aq t0.hj;have e1:am l ⟨2,[i],[z0,z1],0⟩ 1=j1:=aq t1.hj;have hs:s∈jP l a i j0 j1:=by rw[<- e0,<- e1];exact hs
  obtain⟨b1,b2⟩:=hgb i (by simp);exact Uv tw hN t0 t1 ha b1 b2 hn hs
 | @rp i z0 z1 j0 j1 t0 t1 ha =>
  have e0:am l ⟨3,[i],[z0,z1],0⟩ 0=j0:=aq t0.hj;have e1:am l ⟨3,[i],[z0,z1],0⟩ 1=j1:=aq t1.hj;have hs:s∈jR l a i j0 j1:=by rw[<- e0,<- e1];exact hs
  obtain⟨b1,b2⟩:=hgb i (by simp)
  have tb:j1.b=i:=by
   rcases t1.tie with⟨e,_⟩ |⟨e,_⟩
   ·exact acc e ha
   ·exact e
  exact Wt tw hN t0 t1 ha b1 b2 hn (wA hli t1.hj (by rw[t1.kd];decide) tb) hs
end
def sF(l:Li)(a:Aq):Prop:=∀m g,m<a.ms.length->(splitG l)[m]?=some g->ao (cR l a.ts a.bs g)=a.ms.getD m 0
section
variable{l:Li}{xs:List Tn}{s g:Nat}(W:WkC l xs s g){gr:Gr}{a:Aq}(hg:(splitG l)[a.ms.length]?=some gr)
variable{j r E:Nat}(Q:QInv l j r E a)
include W hg Q
theorem Ex(ps:List Pq):∀m g2,m<a.ms.length->(splitG l)[m]?=some g2->∀b:Int,0<=b->(b∈g2.bo\/kn (fH l (splitG l) m) b=true)->dc a.bs (a8 a.bs gr.bo ps) a.ts.length b:=by
 obtain⟨dy,ok⟩:=W.grp hg;have N:=qR W.li W.sp hg;have hN':∀i,Nq a.ts.length (a.bs.getD i a7):=fun i=>BG (fun p hp=>(Q.bs p hp).nq) i
 have mono:∀(k m:Nat),m+k<=a.ms.length->∀b:Int,0<=b->kn (fH l (splitG l) m) b=true->kn (fH l (splitG l) (m+k)) b=true:=by
  intro k
  induction k with
  |zero=>intro m _ b _ h;exact h
  |succ k ih =>
   intro m hm b h0 h;have h1:=ih m oz b h0 h;have hlt:m+k<(splitG l).length:=by have:=(Y1.1 hg).1;omega
   obtain⟨g2,hg2⟩:=ay hlt;rw[show m+(k+1)=(m+k)+1 by omega,sf hg2 (W.grp hg2).2 h0,h1];simp
 intro m g2 hm hg2 b h0 hb
 have h1:kn (fH l (splitG l) (m+1)) b=true:=by
  rw[sf hg2 (W.grp hg2).2 h0];rcases hb with hb |hb
  ·have : g2.bo.any (fun x => decide (x = b)) = true := by rw [Zz]; exact ⟨b, hb, by simp⟩
   rw[this];rfl
  ·rw[hb];simp
 have h2:=mono (a.ms.length-(m+1)) (m+1) oz b h0 h1;rw[show m+1+(a.ms.length-(m+1))=a.ms.length by omega]at h2;have hb2:b∉gr.bo:=fun hb=>by rw[N.b b hb]at h2;cases h2
 exact⟨Bc (fun x hx=>(ok.b x hx).1) hb2 h0,hN' _⟩
theorem Mo(H:sF l a){sv:Sv}(hs:sv∈eZ l a.as gr (cB gr xs)):sF l (a.nxt gr sv):=by
 have tw:=QInv.twl W hg Q;have hq:(Lw.llq a.as.rs)=a.ts:=a.llq;obtain⟨dy,ok⟩:=W.grp hg
 have hN:∀p∈aO a.as,Nq (Lw.llq a.as.rs).length p:=by
  intro p hp;rw[lr]at hp;rw[hq];exact(Q.bs p hp).nq
 have D:=HJ tw hN dy (fun b hb=>by
  rw[lr];have:=ok.b b hb;have:=Q.ln;omega) W.li hs
 have L:Lf a.ts sv.ts:=yT hq D.lf;have hsg:=D.sg;rw[lr]at hsg;have hml:(a.nxt gr sv).ms.length=a.ms.length+1:=by show(a.ms++[sv.mode]).length=_;simp
 intro m g2 hm hg2;rw[hml]at hm;show ao (cR l sv.ts (a8 a.bs gr.bo sv.ps) g2)=(a.ms++[sv.mode]).getD m 0
 by_cases e:m=a.ms.length
 ·subst e;rw[hg]at hg2;cases hg2;rw[aaq,aa6 (aau _),Nat.sub_self];exact hsg
 ·have hlt : m < a.ms.length := by omega
  have S:=Ex W hg Q sv.ps m g2 hlt hg2;have h1:=H m g2 hlt hg2;have N2:=qR W.li W.sp hg2;obtain⟨dy2,ok2⟩:=W.grp hg2
  have jn:∀{z:Int}{jt:Jt},z∈g2.jo->l.jo[z.toNat]?=some jt->dc a.bs (a8 a.bs gr.bo sv.ps) a.ts.length jt.a/\dc a.bs (a8 a.bs gr.bo sv.ps) a.ts.length jt.b:=fun hz hj=>by
   obtain⟨i1,i2,_⟩:=cF W.li hj;have i1:=df i1;have i2:=df i2;obtain⟨na,nb⟩:=N2.j _ hz _ hj;exact⟨S _ i1.1 na,S _ i2.1 nb⟩
  have A:(g2.kind≠0->dc a.bs (a8 a.bs gr.bo sv.ps) a.ts.length (am l g2 0).a/\dc a.bs (a8 a.bs gr.bo sv.ps) a.ts.length (am l g2 0).b)/\(g2.kind≠0->dc a.bs (a8 a.bs gr.bo sv.ps) a.ts.length (am l g2 1).a/\dc a.bs (a8 a.bs gr.bo sv.ps) a.ts.length (am l g2 1).b) /\
    (g2.kind≠0->dc a.bs (a8 a.bs gr.bo sv.ps) a.ts.length (aL g2 0)):=by
   have own:∀b∈g2.bo,dc a.bs (a8 a.bs gr.bo sv.ps) a.ts.length b:=fun b hb=>S b (ok2.b b hb).1 (.inl hb)
   cases dy2 with
   | @drv b z d jt dr t d0 hd hb=>exact⟨fun h=>acc rfl h,fun h=>acc rfl h,fun h=>acc rfl h⟩
   | @rrr i k z0 z1 z2 j0 j1 j2 ne t0 t1 h0 h2 kd tie =>
    have e0:am l ⟨1,[i,k],[z0,z1,z2],0⟩ 0=j0:=aq t0.hj;have e1:am l ⟨1,[i,k],[z0,z1,z2],0⟩ 1=j1:=aq t1.hj;rw[e0,e1];exact⟨fun _=>jn (by simp) t0.hj,fun _=>jn (by simp) t1.hj,fun _=>own _ (by simp[aL])⟩
   | @pr i z0 z1 j0 j1 t0 t1 ha =>
    have e0:am l ⟨2,[i],[z0,z1],0⟩ 0=j0:=aq t0.hj;have e1:am l ⟨2,[i],[z0,z1],0⟩ 1=j1:=aq t1.hj;rw[e0,e1];exact⟨fun _=>jn (by simp) t0.hj,fun _=>jn (by simp) t1.hj,fun _=>own _ (by simp[aL])⟩
   | @rp i z0 z1 j0 j1 t0 t1 ha =>
    have e0:am l ⟨3,[i],[z0,z1],0⟩ 0=j0:=aq t0.hj;have e1:am l ⟨3,[i],[z0,z1],0⟩ 1=j1:=aq t1.hj;rw[e0,e1];exact⟨fun _=>jn (by simp) t0.hj,fun _=>jn (by simp) t1.hj,fun _=>own _ (by simp[aL])⟩
  have zd:=Lg L (l:=l) (g:=g2) A.1 A.2.1 A.2.2;rw[um L.pos zd,L.sg,h1,aaq,aaq,aa9 hlt]
end
theorem Er{l:Li}{xs:List Tn}{s g:Nat}(W:WkC l xs s g){F:Nat->Int->Bool}{sg:Bool}:∀(n:Nat)(a:Aq),WkSt l s g n a->sF l a->∀b∈(f8 F sg l xs (splitG l) n a).1,WkSt l s g 0 b/\sF l b
 |0,a,h,H,b,hb=>by rw[Za.1 hb];exact⟨h,H⟩
 |n+1,a,h,H,b,hb=>by
  obtain⟨gr,hg,_,hP,hn⟩:=h.next W;obtain⟨⟨j,r,E,y,Q,ok,hc⟩,hl⟩:=h;unfold f8 at hb;rw[aq hg]at hb;split at hb
  ·cases hb
  ·obtain⟨sv,hsv,h2⟩:=BS hb;exact Er W n _ (hn sv hsv) (Mo W hg Q H hsv) b h2
structure AqMd(l:Li)(a:Aq):Prop where
  sp:splitE l=0
  ml:a.ms.length=(splitG l).length
  md:sF l a
theorem Ps{l:Li}(hl:l.ok){xs:List Tn}(hL:i7 l xs=true)(hxw:∀x∈xs,x.t.wok){A:List Aq}{e:Nat}(h:je l xs=(A,e)):∀a∈A,AqMd l a:=by
 by_cases h0:cW l xs=0
 ·obtain⟨s,g,W,St⟩:=v6 hL hl hxw h0;have hw:=Er W (F:=gN) (sg:=false) (splitG l).length (eW l) St (fun m g h=>acc h (YF _));unfold je at h;rw[ab5 (fun h=>h h0)]at h;intro a ha;split at h
  ·cases h;cases ha
  ·have e1:(lP gN false l xs).1=A:=acd Prod.fst h;rw[<- e1]at ha;obtain⟨h1,h2⟩:=hw a ha;obtain⟨_,hl⟩:=h1;exact⟨W.sp,by omega,h2⟩
 ·unfold je at h;rw[ab6 h0]at h;cases h;intro a ha;cases ha
end Go.Lw
namespace Go.Lw
def mK(s:ByteArray)(n:Int):Bd:=⟨s,[⟨⟨#[97]⟩,rt ((0:Int):Rat),rt ((0:Int):Rat)⟩,⟨⟨#[98]⟩,rt (n:Rat),rt ((0:Int):Rat)⟩]⟩
def fb:Li:=⟨⟨#[102,111,117,114,98,97,114]⟩,[mK ⟨#[102,114,97,109,101]⟩ 4,mK ⟨#[99,114,97,110,107]⟩ 3,mK ⟨#[99,111,117,112,108,101,114]⟩ 5,mK ⟨#[114,111,99,107,101,114]⟩ 6],
  [⟨⟨#[111]⟩,0,1,0,0,0,0⟩,⟨⟨#[112]⟩,0,2,0,1,1,0⟩,⟨⟨#[113]⟩,0,3,0,0,1,0⟩,⟨⟨#[114]⟩,0,2,1,3,1,0⟩],[⟨⟨#[100]⟩,1⟩]⟩
def t0:Tn:=⟨⟨false,[],[]⟩,false⟩
theorem CX(a b:ByteArray):dT a b=(a.data.toList==b.data.toList):=by
 unfold dT;rw[Go.ByteArray.toList_eq,Go.ByteArray.toList_eq]
theorem Gb:aN fb=0:=by
 have h1:iH fb=0:=by
  unfold iH fC eO gU eH;simp only[CX];decide +kernel
 have h2:fg fb=0:=by
  unfold fg fC gB gU;simp only[CX];decide +kernel
 have h3:ic fb=0:=by
  unfold ic fC d9 gU;simp only[CX];decide +kernel
 unfold aN;rw[h1,h2,h3];decide +kernel
theorem Rk{s:ByteArray}(hs:s.size<=281474976710656){n:Int}(hn:-9223372036854775808<=n/\n<=9223372036854775807) :
  (mK s n).name.size<=281474976710656/\(mK s n).pts.length<=281474976710656/\∀m∈(mK s n).pts,m.name.size<=281474976710656/\m.x.wok/\m.y.wok:=by
 have h0:(rt ((0:Int):Rat)).ok:=(tW oz).ok;have h1:(rt (n:Rat)).ok:=(tW hn).ok;refine⟨hs,by show 2<=_;omega,fun m hm=>?_⟩;simp only[mK,abd,abb,or_false]at hm;rcases hm with rfl |rfl
 ·exact⟨by show 1<=_;omega,h0.wok,h0.wok⟩
 ·exact⟨by show 1<=_;omega,h1.wok,h0.wok⟩
theorem WF:fb.okw:=by
 refine⟨by decide,fun b hb=>?_,fun j hj=>?_,fun d hd=>?_,by decide,by decide,by decide⟩
 ·simp only[fb,abd,abb,or_false]at hb;rcases hb with rfl |rfl |rfl |rfl <;> exact Rk (by decide) oz
 ·simp only[fb,abd,abb,or_false]at hj;rcases hj with rfl |rfl |rfl |rfl <;> decide
 ·simp only[fb,abd,abb,or_false]at hd;rcases hd with rfl;decide
theorem wD:fb.ok:=xT (by decide +kernel) WF
open Go.Proofs
theorem kr.ofL{l l':List AV}(h:SubL l l')(ho:l'.all AV.one=true):kr (.agg l) (.agg l') :=
 ⟨h.len,fun j x y hx hy=>⟨aa3.1 ho y (aap hy),h.get j x y hx hy⟩⟩
theorem Hv(s:ByteArray)(x y:Int)(hx:-9223372036854775808<=x/\x<=9223372036854775807)(hy:-9223372036854775808<=y/\y<=9223372036854775807):FP 262 [.v (.string s),i64 x,i64 y] (Mk.av ⟨s,rt (x:Rat),rt (y:Rat)⟩):=by
 refine aj func262 ?_;refine gc (KE x hx) ?_;refine gc (KE y hy) ?_;refine ah ?_
 first |rfl |(simp;done)
theorem xa(s:ByteArray)(n:Int)(hn:-9223372036854775808<=n/\n<=9223372036854775807):FP 137 [.v (.string s),i64 n] (mK s n).av:=by
 refine aj func137 ?_;refine gc (Hv _ 0 0 oz oz) ?_;refine gc (Hv _ n 0 hn oz) ?_;refine ah ?_
 first |rfl |(simp;done)
theorem Tj:FP 51 [] fb.av:=by
 refine aj func51 ?_;refine gc (xa _ 4 oz) ?_;refine gc (xa _ 3 oz) ?_;refine gc (xa _ 5 oz) ?_;refine gc (xa _ 6 oz) ?_;refine ah ?_
 first |rfl |(simp;done)
deriving instance DecidableEq for Pq
deriving instance DecidableEq for Aq
def Vt:List Aq×Nat:=lP gN false fb [d6]
theorem O0:cW fb [d6]=0:=by
 unfold cW tV;rw[ab5 (by rw[Gb];decide),ab5 (show ¬splitE fb≠0 by decide +kernel),ab5 (show ¬[d6].length≠fb.dv.length by decide +kernel)];decide +kernel
def aF:Aq:=⟨[],[⟨[1],[],[],[]⟩,⟨[1],[],[],[]⟩,⟨[-1],[],[3],[]⟩,⟨[-1],[],[4],[]⟩],[1,0]⟩
theorem R9:Vt=([aF],0):=by decide +kernel
theorem xm:WkC fb [d6] 32 134:=by
 have z:d6.t.q=0:=by decide +kernel
 have h0:Qb 32 d6.t.q:=by rw[z];exact Qb.zero.mono oz
 refine⟨wD,Gb,by decide +kernel,?_,rfl,fun x hx=>?_⟩
 ·have h : ∀ b ∈ fb.bo, ∀ m ∈ b.pts, (m.x.q.num.natAbs < 2 ^ 32 /\ m.x.q.den < 2 ^ 32) /\ (m.y.q.num.natAbs < 2 ^ 32 /\ m.y.q.den < 2 ^ 32) := by decide +kernel
  exact h
 ·rw[Za.1 hx];exact⟨CK,by decide +kernel,KS,Cb.one (tM h0),Cb.one (tY h0)⟩
theorem Ko:WkSt fb 32 134 (splitG fb).length (eW fb):=by
 refine⟨⟨0,0,2,1,Jd fb,xM F4 ?_ (aau _),?_⟩,Yf _⟩
 ·decide +kernel
 ·decide +kernel
theorem zj:Sub (.lst 4 [.agg [.v (.bool false),nS,nS,.v (.bool false)]]) (.lst 4 [d6.av]) :=
 Sub.lst rfl (fun i x y hx hy=>by
  match i,hx,hy with
  |0,hx,hy=>cases hx;cases hy;exact .ofL (.cons (.refl _) (.cons (.nil _ _ _) (.cons (.nil _ _ _) (.cons (.refl _) .nil)))) rfl)
theorem rU{ts:LL}{r:Nat}(hr:r<=400000000)(h2:ts.length<=2):kB r ts.length<=1200000006:=by
 have h:=gX r h2;have h3:eB r 2=3*r+6:=by simp only[eB];omega
 show eB r ts.length<=_;omega
theorem iy{ts:LL}(h2:ts.length<=2):lm ts.length=200000000000:=by unfold lm;rw[ab6 h2]
theorem Sq{ts:LL}{r:Nat}(tw:Tw ts r):FP 32 [aT ts,nS] (i64 (0:Nat)):=by
 have h:=Aj (ts.map (List.map rt)) r 0 tw.tr [] (fun x hx=>by cases hx) (aa0 _) (by show 0<=_;omega)
 have e:bB (ts.map (List.map rt)) []=0:=by
  unfold bB;rw[ab5 (by rw[tw.chk];simp)];rfl
 rw[e,ip]at h;exact Con.sA (.cons (.refl _) (.cons (Sub.nil 1 none 0) .nil)) h
theorem Uc{ts:LL}{r e:Nat}(tw:Tw ts r){p:Pq}(hp:Pq.ok ts.length e p)(he:e<=lm ts.length):FP 32 [aT ts,.lst 1 [nA p.c,nA p.s,nA p.x,nA p.y]] (i64 (0:Nat)):=by
 have h:=Aj (ts.map (List.map rt)) r e tw.tr p.pl.l (hp.nr he) (by rw[aar];exact he) (by show 4<=_;omega)
 have e0:bB (ts.map (List.map rt)) p.pl.l=0:=by
  unfold bB;rw[ab5 (by rw[tw.chk];simp),aar];exact pK (fun x hx=>hp.num x hx)
 have e1:p.pl.l.map nR=[nA p.c,nA p.s,nA p.x,nA p.y]:=by
  unfold Pl.l Pq.pl;simp only[ab2,map_nil,eI]
 rw[e0,ip,e1]at h;exact h
section
variable{l:Li}{xs:List Tn}{a:Aq}(F:AqFin l xs a)
include F
end
theorem NZ{l:Li}{xs:List Tn}{A:List Aq}{e:Nat}(h:je l xs=(A,e))(he:e≠0):A=[]:=by
 unfold je at h;split at h
 ·exact(acd Prod.fst h).symm
 ·split at h
  ·exact(acd Prod.fst h).symm
  ·rename_i h1 h2;exact acc (acd Prod.snd h) (fun h9=>h2 (by rw[h9];exact he))
structure AsmS(l:Li)(xs:List Tn)(A:List Aq)(e:Nat):Prop where
  eq:je l xs=(A,e)
  all:FP 12 [l.av,.lst 4 (xs.map Tn.av)] (.tup [.lst 3 (A.map Aq.av),bF e])
  ln:A.length<=1000
theorem Q1{l:Li}(hl:l.ok){xs:List Tn}(hL:i7 l xs=true)(hxw:∀x∈xs,x.t.wok):∃A e,AsmS l xs A e:=by
 obtain⟨_,hx20,hxo⟩:=zC hL hxw;have hop:=DL l hl xs hxo oz
 by_cases h0:cW l xs=0
 ·obtain ⟨s, g, W, St⟩:=v6 hL hl hxw h0;have hsl:=ue W.li;have hlb:=(dg W.li).2.2.2;have hp:2 ^ (splitG l).length <= 256:=abe (cm (b:=8) oz) (by decide);have hw:=CB W gN false (fo:=151) (caps:=[]) (fun k m _=>LJ k m) (splitG l).length (eW l) St [] (by simp only [abg]; omega);have hA:=MU h0 hop oz oz (R:=lP gN false l xs) hw;have hlen:=A5 W gN false (splitG l).length (eW l) St;refine ⟨_,_,⟨?_,hA,?_⟩⟩
  ·unfold je;rw[ab5 (fun h=>h h0)]
   by_cases hE:(lP gN false l xs).2≠0
   ·rw[ab6 hE,ab6 hE]
   ·rw[ab5 hE,ab5 hE]
  ·split
   ·exact aa0 _
   ·exact abe hlen oz
 ·have hA:=Mu h0 hop;refine⟨[],cW l xs,⟨?_,hA,aa0 _⟩⟩;unfold je;rw[ab6 h0]
theorem Pr{p:Bool}{e:Nat}(h:cond (cond (!true) true (!p)) true (aa .neq (e:Int) 0)=false):p=true/\e=0:=by
 cases p
 ·simp at h
 ·exact⟨rfl,jW h⟩
theorem sS{ts:LL}{r e f:Nat}(tw:Tw ts r){x:List Rat}(hx:Nm ts.length e x){v:Rat}(hv:Qb f v)(he:e+2*f+1<=lm ts.length)(hf:f<=9000) :
  FP 310 [aT ts,nA x,qA v] (bl (it ts (ae ts.length x) (ae ts.length (sh 0 (v:Rat))))):=by
 have hlm:=j5 ts.length;refine aj func310 ?_;refine gc (mh (hv.qs oz)) ?_;refine gc (zM tw hx (Tv tw.five hv) oz) ?_;refine gD ?_;refine ah ?_;exact acd bl (Hu _)
theorem Xc{ts:LL}{r e:Nat}(tw:Tw ts r){x:List Rat}(hx:Nm ts.length e x)(he:e<=lm ts.length):FP 309 [aT ts,nA x] (bl true):=by
 have h:=Qh (ts.map (List.map rt)) r tw.tr (x.map rt) e (hx.rt he)
 have e0:bB (ts.map (List.map rt)) [x.map rt]=0:=by
  unfold bB;rw[ab5 (by rw[tw.chk];simp),aar];exact pK (fun y hy=>by rw[Za.1 hy];exact pq hx.nl)
 rw[e0,ip,eI]at h;exact h
theorem Sc{ts:LL}{r:Nat}(tw:Tw ts r):FP 138 [aT ts] (bF 0):=by
 have h:=rx (ts.map (List.map rt)) r tw.tr;rw[tw.chk,ip]at h;exact h
structure AqS(l:Li)(a:Aq):Prop where
  li:aN l=0
  tw:∃r,r<=400000000/\Tw a.ts r
  two:a.ts.length<=2
  bs:∀p∈a.bs,Pq.ok a.ts.length 3200000000 p
  ln:a.bs.length=l.bo.length
theorem AqFin.s{l:Li}{xs:List Tn}{a:Aq}(F:AqFin l xs a):AqS l a:=⟨F.li,F.tw,F.two,F.bs,F.ln⟩
theorem vi{l:Li}{a:Aq}(F:AqS l a)(hl:l.ok){body pt:Int}(h1:bA body l.bo.length=true)(h2:bA pt (cO l body).length=true) :
  Nm a.ts.length 12100000000 (sX (aB l a.ts a.bs body pt).1)/\Nm a.ts.length 12100000000 (sX (aB l a.ts a.bs body pt).2):=by
 obtain⟨n,k,bd,m,h⟩:=oN hl F.li h1 h2;obtain⟨r,hr,tw⟩:=F.tw;have hk:=rU hr F.two;obtain⟨p,hp⟩:=ay (l:=a.bs) (i:=n) (by rw[F.ln];exact(Y1.1 h.gbd).1);have po:=F.bs p (aap hp);have e:body.toNat=n:=by have:=h.hn;omega
 have hb:Pq.ok a.ts.length 3200000000 ⟨lq p.pl.c,lq p.pl.s,lq p.pl.x,lq p.pl.y⟩:=by
  unfold Pq.pl;dsimp only;rw[eL,eL,eL,eL];exact po
 have hq:=FD tw hb h.sm;unfold Pq.pl at hq;dsimp only[fX]at hq;rw[eL,eL,eL,eL]at hq;unfold aB;rw[e,aq hp];exact⟨hq.1.mono oz,hq.2.mono oz⟩
def vf(ts:LL)(p:Pq):Bool:=it ts (nJ ts (ae ts.length p.c) (ae ts.length p.s) (ae ts.length p.c) (ae ts.length p.s)) (T.ofQ ts.length 1)
def qH(ts:LL)(p:Pq):Bool:=it ts (ae ts.length p.c) (T.ofQ ts.length 1)&&it ts (ae ts.length p.s) (T.ofQ ts.length 0)&&it ts (ae ts.length p.x) (T.ofQ ts.length 0)&&it ts (ae ts.length p.y) (T.ofQ ts.length 0)
def me(l:Li)(a:Aq)(j:Jt):Bool :=
  if j.kind=0 then decide (T.sgn (au a.ts) a.ts.length (subT a.ts (aB l a.ts a.bs j.a j.point).1 (aB l a.ts a.bs j.b j.on).1)=0/\T.sgn (au a.ts) a.ts.length (subT a.ts (aB l a.ts a.bs j.a j.point).2 (aB l a.ts a.bs j.b j.on).2)=0)
  else decide (T.sgn (au a.ts) a.ts.length (qO a.ts (aB l a.ts a.bs j.b j.on).1 (aB l a.ts a.bs j.b j.on).2 (aB l a.ts a.bs j.b j.to).1 (aB l a.ts a.bs j.b j.to).2 (aB l a.ts a.bs j.a j.point).1 (aB l a.ts a.bs j.a j.point).2)=0)
theorem VL{ts:LL}{p:Pq}(h:CH ts p):vf ts p=true:=aca h
theorem Lj(ts:LL):qH ts lw=true:=by
 unfold qH lw;dsimp only;rw[lg,gp,T.ofQ_zero,xl,xl];rfl
theorem SK{l:Li}{a:Aq}{j:Jt}(h:JH l a.ts a.bs j):me l a j=true:=by
 unfold JH at h;unfold me;split
 ·rename_i hk;rw[ab6 hk]at h;exact aca h
 ·rename_i hk;rw[ab5 hk]at h;exact aca h
def Pq.l(p:Pq):LL:=[p.c,p.s,p.x,p.y]
theorem Pq.ok.mem{n e:Nat}{p:Pq}(h:Pq.ok n e p):∀x∈p.l,Nm n e x:=by
 intro x hx;simp only[Pq.l,abd,abb,or_false]at hx;rcases hx with rfl |rfl |rfl |rfl
 ·exact h.c
 ·exact h.s
 ·exact h.x
 ·exact h.y
theorem Sr{ts:LL}{r e:Nat}(tw:Tw ts r){p:Pq}(hp:Pq.ok ts.length e p)(he:e+1000<=lm ts.length):FP 183 [aT ts,p.av] (bl (qH ts p)):=by
 have hlm:=j5 ts.length
 have h1:FP 310 [aT ts,nA p.c,qA ((1:Int):Rat)] (bl (it ts (ae ts.length p.c) (T.ofQ ts.length 1))):=by
  have h:=sS tw hp.c Qb.one oz oz;rw[fL]at h;exact h
 have h0:∀x:List Rat,Nm ts.length e x->FP 310 [aT ts,nA x,.agg [.v (.bool false),nS,nS]] (bl (it ts (ae ts.length x) (T.ofQ ts.length 0))):=fun x hx=>by
  have h:=sS tw hx Qb.zero oz oz;rw[fL]at h;exact Con.sA (.cons (.refl _) (.cons (.refl _) (.cons kf .nil))) h
 refine aj func183 ?_;refine gc (kH 1 oz) ?_;refine gc h1 ?_;refine b8 (fun _=>(h0 _ hp.s)) ?_;refine b8 (fun _=>(h0 _ hp.x)) ?_;refine b8 (fun _=>(h0 _ hp.y)) ?_;refine gD ?_;refine ah ?_;exact acd bl (Lu _ _ _ _)
theorem Va{l:Li}{a:Aq}(F:AqS l a){p:Pq}(hpm:p∈a.bs):FP 182 [aT a.ts,p.av] (bl (vf a.ts p)):=by
 obtain⟨r,hr,tw⟩:=F.tw;have hkb:=rU hr F.two;have hlm:=iy F.two;have hp:=F.bs p hpm;refine aj func182 ?_;refine ge rfl ?_;refine aW [2,3,18,19] [2,3] (fun(k:Nat)=>[pP 20 (i64 k)]) (fun _=>[]) (fun k=>k<=4) (fun k=>4-k) 0 (aa0 _) ?_;rintro k hk K1 J1;refine gC (fun z=>?_) (fun z=>?_)
 ·have hkn:k<4:=a9 (b:=4) z;obtain⟨x,hx⟩:∃x,p.l[k]?=some x:=ay (l:=p.l) hkn;refine gi (aH hx) ?_;refine gc (Xc tw (hp.mem x (aap hx)) oz) ?_;refine gf ?_;refine ga aS ?_;exact aR J1 (k+1) hkn
 have hdn:=vt tw hp.c hp.s hp.c hp.s;have hdot:=sV tw hp.c hp.s hp.c hp.s oz;have heq:=sS tw hdn Qb.one oz oz;rw[bh,fL]at heq;refine gc hdot ?_;refine b8 (fun _=>(kH 1 oz)) ?_;refine b8 (fun _=>heq) ?_;refine gD ?_;refine ah ?_;rfl
def xq(ts:LL)(p:Pq)(x:Tn):Bool:=it ts (ae ts.length p.c) (ae ts.length (sh 0 (dW x.half x.t.q:Rat)))&&it ts (ae ts.length p.s) (ae ts.length (sh 0 (dR x.half x.t.q:Rat)))
theorem W0{ts:LL}{r e:Nat}(tw:Tw ts r){p:Pq}(hp:Pq.ok ts.length e p)(hle:e+20000<=lm ts.length){x:Tn}(hx:x.t.ok)(he:x.err=0)(hq:Qb 1000 x.t.q) :
  FP 189 [aT ts,p.av,x.av] (bl (xq ts p x)):=by
 have hc:=BU x hx hq oz;rw[ab6 he,he]at hc;have hs:=HY x hx hq oz;rw[ab6 he,he]at hs;refine aj func189 ?_;refine gc hc ?_;refine gf ?_;refine gc hs ?_;refine b8 (fun _=>(sS tw hp.c (To x.half hq) oz oz)) ?_;refine b8 (fun _=>(sS tw hp.s (Xb x.half hq) oz oz)) ?_;refine ah ?_;exact acd bl (jk _ _)
theorem CN{l:Li}(hl:l.ok){a:Aq}(F:AqS l a){body pt:Int}(h1:bA body l.bo.length=true)(h2:bA pt (cO l body).length=true) :
  FP 311 [l.av,a.av,i64 body,i64 pt] (.tup [aD (sX (aB l a.ts a.bs body pt).1) (sX (aB l a.ts a.bs body pt).2),.v .nilIface]):=by
 obtain⟨n,k,bd,m,h⟩:=oN hl F.li h1 h2;obtain⟨r,hr,tw⟩:=F.tw;have hkb:=rU hr F.two;have hlm:=iy F.two;have hlb:=(dg F.li).2.2.2.1;obtain⟨p,hp⟩:=ay (l:=a.bs) (i:=n) (by rw[F.ln];exact(Y1.1 h.gbd).1);have po:=F.bs p (aap hp);have hn:=h.hn;have hk:=h.hk
 have e:aB l a.ts a.bs body pt=br a.ts p (aM l body pt):=by
  unfold aB;rw[hn,abn,aq hp]
 have hat:FP 139 [aT a.ts,p.av,m.x.av,m.y.av] (.tup [aD (sX (aB l a.ts a.bs body pt).1) (sX (aB l a.ts a.bs body pt).2),.v .nilIface]):=by
  rw[h.ex,h.ey,e];exact ye tw po.c po.s po.x po.y (h.sm.x.mono oz) (h.sm.y.mono oz) oz
 have gb:=h.gbd;have gm:=h.gm;clear h h1 h2 e;subst hn;subst hk;refine aj func311 ?_;refine gi (aH gb) ?_;refine gi (aH gm) ?_;refine gi (aH hp) ?_;refine gc hat ?_;refine gD ?_;refine bt ?_
 first |rfl |(simp;done)
theorem Rw{l:Li}(hl:l.ok){a:Aq}(F:AqS l a){i:Nat}{j:Jt}(hj:l.jo[i]?=some j):FP 186 [l.av,a.av,j.av] (bl (me l a j)):=by
 obtain⟨r,hr,tw⟩:=F.tw;have hkb:=rU hr F.two;have hlm:=iy F.two;obtain⟨i1,i2,i3,i4,i5⟩:=cF F.li hj;have np:=vi F hl i1 i3;have nq:=vi F hl i2 i4;have ed:∀y:Et a.ts,ae a.ts.length (sX y)=y:=fun y=>bh _ _
 refine aj func186 ?_;refine gc (CN hl F i1 i3) ?_;refine gf ?_;refine gc (CN hl F i2 i4) ?_;refine gf ?_;refine gC (fun z=>?_) (fun z=>?_)
 ·have hk:j.kind=0:=cM z;have hsame:=QW tw np.1 np.2 nq.1 nq.2 oz;rw[ed,ed,ed,ed]at hsame;refine gc hsame ?_;refine ah ?_;unfold me;rw[ab6 hk];rfl
 have hk:j.kind≠0:=dk z;have nr:=vi F hl i2 (i5 hk);have hor:=Qg tw nq.1 nq.2 nr.1 nr.2 np.1 np.2 oz;rw[ed,ed,ed,ed,ed,ed]at hor;refine gc (CN hl F i2 (i5 hk)) ?_;refine gf ?_;refine gc hor ?_;refine ah ?_;unfold me;rw[ab5 hk];exact acd bl (Hu _)
theorem O6(bs:List Pq)(hl:bs.length<=281474976710656)(f:FuncId)(c:List AV)(ok:Nat->Bool)
  (hf:∀(i:Nat)(b:Pq),bs[i]?=some b->(∀j,j<i->ok j=true)->FP f ([i64 i,b.av]++[.iptr c]) (bl (!ok i))) :
  FP 180 [.lst 4 (bs.map Pq.av),.fn f [.iptr c]] (i64 (jB (cQ bs.length ok))):=by
 refine aj func180 ?_;refine gl ?_;refine aW [1,7,8] [] (fun(i:Nat)=>[pP 9 (i64 i)]) (fun _=>[]) (fun i=>i<=bs.length/\∀j,j<i->ok j=true) (fun i=>bs.length-i) 0 ⟨aa0 _,fun j h=>by omega⟩ ?_;rintro i ⟨hi,hj⟩ K1 J1;refine gC (fun z=>?_) (fun z=>?_)
 ·have hin:=a9 z;obtain⟨b,hb⟩:=ay hin;refine gi (aH hb) ?_;refine gs (wX (.tmp rfl) (hf i b hb hj) (bC rfl rfl) aG rfl rfl) ?_;refine gC (fun z=>?_) (fun z=>?_)
  ·have h2:=dl z;refine ah ?_;rw[gP hin hj h2];rfl
  have h2:=du z;refine ga aS ?_;exact aR J1 (i+1) ⟨hin,fun j h9=>by rcases aay j i with g |g;exact hj j g;(have:j=i:=by omega);subst this;exact h2⟩
 have hin:=bn hi z;subst hin;refine ah ?_;rw[f6 hj];rfl
theorem Rr(bs:List Jt)(hl:bs.length<=281474976710656)(f:FuncId)(c d:List AV)(ok:Nat->Bool)
  (hf:∀(i:Nat)(b:Jt),bs[i]?=some b->(∀j,j<i->ok j=true)->FP f ([i64 i,b.av]++[.iptr c,.iptr d]) (bl (!ok i))) :
  FP 184 [.lst 7 (bs.map Jt.av),.fn f [.iptr c,.iptr d]] (i64 (jB (cQ bs.length ok))):=by
 refine aj func184 ?_;refine gl ?_;refine aW [1,7,8] [] (fun(i:Nat)=>[pP 9 (i64 i)]) (fun _=>[]) (fun i=>i<=bs.length/\∀j,j<i->ok j=true) (fun i=>bs.length-i) 0 ⟨aa0 _,fun j h=>by omega⟩ ?_;rintro i ⟨hi,hj⟩ K1 J1;refine gC (fun z=>?_) (fun z=>?_)
 ·have hin:=a9 z;obtain⟨b,hb⟩:=ay hin;refine gi (aH hb) ?_;refine gs (wX (.tmp rfl) (hf i b hb hj) (bC rfl rfl) aG rfl rfl) ?_;refine gC (fun z=>?_) (fun z=>?_)
  ·have h2:=dl z;refine ah ?_;rw[gP hin hj h2];rfl
  have h2:=du z;refine ga aS ?_;exact aR J1 (i+1) ⟨hin,fun j h9=>by rcases aay j i with g |g;exact hj j g;(have:j=i:=by omega);subst this;exact h2⟩
 have hin:=bn hi z;subst hin;refine ah ?_;rw[f6 hj];rfl
theorem UK(bs:List Dr)(hl:bs.length<=281474976710656)(f:FuncId)(c d:List AV)(ok:Nat->Bool)
  (hf:∀(i:Nat)(b:Dr),bs[i]?=some b->(∀j,j<i->ok j=true)->FP f ([i64 i,b.av]++[.iptr c,.iptr d]) (bl (!ok i))) :
  FP 187 [.lst 2 (bs.map Dr.av),.fn f [.iptr c,.iptr d]] (i64 (jB (cQ bs.length ok))):=by
 refine aj func187 ?_;refine gl ?_;refine aW [1,7,8] [] (fun(i:Nat)=>[pP 9 (i64 i)]) (fun _=>[]) (fun i=>i<=bs.length/\∀j,j<i->ok j=true) (fun i=>bs.length-i) 0 ⟨aa0 _,fun j h=>by omega⟩ ?_;rintro i ⟨hi,hj⟩ K1 J1;refine gC (fun z=>?_) (fun z=>?_)
 ·have hin:=a9 z;obtain⟨b,hb⟩:=ay hin;refine gi (aH hb) ?_;refine gs (wX (.tmp rfl) (hf i b hb hj) (bC rfl rfl) aG rfl rfl) ?_;refine gC (fun z=>?_) (fun z=>?_)
  ·have h2:=dl z;refine ah ?_;rw[gP hin hj h2];rfl
  have h2:=du z;refine ga aS ?_;exact aR J1 (i+1) ⟨hin,fun j h9=>by rcases aay j i with g |g;exact hj j g;(have:j=i:=by omega);subst this;exact h2⟩
 have hin:=bn hi z;subst hin;refine ah ?_;rw[f6 hj];rfl
def pC(ts:LL)(i:Nat)(p:Pq):Bool:=vf ts p&&(decide (0<i)||qH ts p)
theorem SW(ts:LL)(i:Nat)(p:Pq):cond (!vf ts p) true (cond (aa .eql (i:Int) 0) (!qH ts p) false)=!pC ts i p:=by
 unfold pC
 have e:aa .eql (i:Int) 0=!decide (0<i):=by
  rw[oT,<- decide_not];exact decide_eq_decide.2 oz
 rw[e];cases vf ts p <;> cases decide (0<i) <;> cases qH ts p <;> rfl
theorem Wn{l:Li}{a:Aq}(F:AqS l a){i:Nat}{p:Pq}(hp:a.bs[i]?=some p):FP 181 [i64 i,p.av,.iptr a.cs] (bl (!pC a.ts i p)):=by
 obtain⟨r,hr,tw⟩:=F.tw;have hlm:=iy F.two;have hpm:=aap hp;refine aj func181 ?_;refine gc (Va F hpm) ?_;refine b8 (fun _=>(Sr tw (F.bs p hpm) oz)) ?_;refine ah ?_;exact acd bl (SW _ _ _)
theorem Qt{l:Li}(hl:l.ok){a:Aq}(F:AqS l a){i:Nat}{j:Jt}(hj:l.jo[i]?=some j):FP 185 [i64 i,j.av,.iptr l.av.cells,.iptr a.cs] (bl (!me l a j)):=by
 refine aj func185 ?_;refine gc (Rw hl F hj) ?_;refine ah ?_;rfl
def pg(l:Li)(ys:List Tn)(a:Aq)(i:Nat):Bool:=xq a.ts (a.bs.getD (l.dv.getD i default).body.toNat a7) (ys.getD i d6)
def jz(l:Li)(ys:List Tn)(a:Aq):Nat×Nat:=match cQ a.bs.length (fun i=>pC a.ts i (a.bs.getD i a7))with
  |some i=>(2,i)
  |none=>match cQ l.jo.length (fun i=>me l a (l.jo.getD i default))with
    |some i=>(3,i)
    |none=>match cQ l.dv.length (pg l ys a)with
      |none=>(0,0)
      |some i=>(4,i)
theorem PI{l:Li}{ys:List Tn}{a:Aq}:(((jz l ys a).1:Int)==0&&((jz l ys a).2:Int)==0)=(decide ((0:Nat)=0)&&decide ((jz l ys a).1=0)):=by
 unfold jz;split
 ·rfl
 ·split
  ·rfl
  ·split <;> rfl
theorem PG{l:Li}{a:Aq}(F:AqS l a){ys:List Tn}(hy:∀x∈ys,x.t.ok/\x.err=0/\Qb 1000 x.t.q)(hyl:ys.length=l.dv.length){i:Nat}{d:Dr}(hd:l.dv[i]?=some d) :
  FP 188 [i64 i,d.av,.iptr a.cs,.iptr [.lst 4 (ys.map Tn.av)]] (bl (!pg l ys a i)):=by
 have hin:=(Y1.1 hd).1;have hd2:=ym F.li;have hbl:=(dg F.li).2.2.2.1;have hln:=F.ln;obtain⟨r,hr,tw⟩:=F.tw;have hlm:=iy F.two;have hdb:=df (lM F.li hd);obtain⟨p,hp⟩:=ay (l:=a.bs) (i:=d.body.toNat) oz;obtain⟨x,hx⟩:=ay (l:=ys) (i:=i) oz;have hxo:=hy x (aap hx);have ht:=W0 tw (F.bs p (aap hp)) oz hxo.1 hxo.2.1 hxo.2.2
 have e:pg l ys a i=xq a.ts p x:=by
  unfold pg;rw[aq hd,aq hp,aq hx]
 refine aj func188 ?_;refine gi (aH hp) ?_;refine gi (aH hx) ?_;refine gc ht ?_;refine gD ?_;refine ah ?_;rw[e];rfl
theorem MZ{l:Li}(hl:l.ok){a:Aq}(F:AqS l a){ys:List Tn}(hy:∀x∈ys,x.t.ok/\x.err=0/\Qb 1000 x.t.q)(hyl:ys.length=l.dv.length) :
  FP 85 [l.av,.lst 4 (ys.map Tn.av),a.av] (CT (jz l ys a)):=by
 obtain⟨r,hr,tw⟩:=F.tw;have hbl:=(dg F.li).2.2.2.1;have hln:=F.ln;refine aj func85 ?_ (1,0);refine gW ((Wk.freezeB (k:=3) rfl rfl).trans<|(Wk.freezeB (k:=4) rfl rfl).trans<|(Wk.freezeB (k:=5) rfl rfl).trans<|Wk.o (sl:=[pP 3 (.iptr l.av.cells),pP 4 (.iptr [.lst 4 (ys.map Tn.av)]),pP 5 (.iptr a.cs),pP 6 (.ptr 6 0)]) (hp:=[pP 6 (.box [i64 0,i64 0])])) ?_;refine gc (Sc tw) ?_;refine cJ ?_;refine cJ ?_;refine gC (fun z=>?_) (fun z=>?_) (st1:=(2,0));exact((UC z).elim (fun h=>h rfl) (fun h=>h hln)).elim;refine gc (O6 a.bs oz 181 a.cs (fun i=>pC a.ts i (a.bs.getD i a7)) (fun i b hb _=>by have h:=Wn F hb;rw[<- aq (d:=a7) hb]at h ⊢;exact h)) ?_;refine gC (fun z=>?_) (fun z=>?_)
 ·obtain⟨i,hi⟩:=yY z;refine ah ?_;unfold jz;rw[hi];rfl
 have f1:=Ce z;refine gc (Rr l.jo hl.lj 185 l.av.cells a.cs (fun i=>me l a (l.jo.getD i default)) (fun i j hj _=>by have h:=Qt hl F hj;rw[<- aq (d:=default) hj]at h ⊢;exact h)) ?_;refine gC (fun z=>?_) (fun z=>?_)
 ·obtain⟨i,hi⟩:=yY z;refine ah ?_;unfold jz;rw[f1,hi];rfl
 have f2:=Ce z;refine gc (UK l.dv hl.ld 188 a.cs [.lst 4 (ys.map Tn.av)] (pg l ys a) (fun i d hd _=>PG F hy hyl hd)) ?_;refine gC (fun z=>?_) (fun z=>?_)
 ·obtain⟨i,hi⟩:=yY z;refine ah ?_;unfold jz;rw[f1,f2,hi];rfl
 have f3:=Ce z;refine ah ?_;unfold jz;rw[f1,f2,f3];rfl
theorem Sf{l:Li}(hl:l.ok){a:Aq}(F:AqS l a)(ys:List Tn)(hy:∀x∈ys,x.t.ok/\Qb 1000 x.t.q)(hyl:ys.length<=281474976710656) :
  FP 24 [l.av,.lst 4 (ys.map Tn.av),a.av] (.tup [bl (decide (kA l ys=0)&&decide ((jz l ys a).1=0)),CT (if kA l ys=0 then jz l ys a else(0,0)),bF (kA l ys)]):=by
 have hld:=hl.ld;refine aj func24 ?_;refine gc (yE l hl) ?_;refine gC (fun z=>?_) (fun z=>?_) (st1:=(3,0));exact acc F.li (dH z);have h1:=F.li;refine gl ?_;refine gl ?_;refine gC (fun z=>?_) (fun z=>?_)
 ·have h2 : ys.length ≠ l.dv.length := by have := nW z; omega
  have hb:kA l ys≠0:=by rw[GA h1 h2];decide
  refine w6 ?_;rw[ab5 hb,acb hb,GA h1 h2];rfl
 have h2:ys.length=l.dv.length:=by have:=s8 z;omega
 refine gl ?_;refine aW [1,3,5,7,28,29] [3,5,7] (fun(i:Nat)=>[pP 30 (i64 i)]) (fun _=>[]) (fun i=>i<=ys.length/\∀x∈ys.take i,x.err=0) (fun i=>ys.length-i) 0 ⟨aa0 _,fun x hx=>by simp at hx⟩ ?_;rintro i ⟨hi,hj⟩ K1 J1;refine gC (fun z=>?_) (fun z=>?_)
 ·have hin:=a9 z;obtain⟨x,hxx⟩:=ay hin;refine gi (aH hxx) ?_;refine gc (wF x (hy x (aap hxx)).1) ?_;refine gC (fun z=>?_) (fun z=>?_)
  ·have h3:=dH z;have hb:kA l ys ≠ 0:=by rw [Jb h1 h2 hxx hj h3]; exact h3
   refine w6 ?_;rw[ab5 hb,acb hb,Jb h1 h2 hxx hj h3];rfl
  have h3:=dD z;refine ga aS ?_;exact aR J1 (i+1) ⟨hin,fun y hy=>by rw[dK hxx]at hy;rcases aa2.1 hy with h9 |h9;exact hj y h9;(rw[Za.1 h9];exact h3)⟩
 have hin:=bn hi z;subst hin;rw[aa8]at hj;have hb:=In h1 h2 hj;refine gc (MZ hl F (fun x h9=>⟨(hy x h9).1,hj x h9,(hy x h9).2⟩) h2) ?_;refine gs (TW (.tmp rfl) (.tmp rfl) (by kernel_rfl) rfl) ?_;refine gD ?_;refine w6 ?_;rw[hb,ab6 rfl,PI];rfl
theorem cS{ts:LL}{e f:Nat}{x y:Et ts}(h1:Bz e x)(h2:Bz f y):Nm ts.length (e+f+1) (sX (x-y)):=Bz.sub h1 h2
section
variable{ts:LL}{r e f:Nat}(tw:Tw ts r){x y x2 y2:Et ts}
include tw
theorem mc(h1:Nm ts.length e (sX x))(h2:Nm ts.length e (sX y))(h3:Nm ts.length e (sX x2))(h4:Nm ts.length e (sX y2))(he:2*e<=lm ts.length) :
  FP 98 [aT ts,aD (sX x) (sX y),aD (sX x2) (sX y2)] (.tup [aD (sX (x-x2)) (sX (y-y2)),.v .nilIface]):=by
 have h:=BT tw h1 h2 h3 h4 he;have ew:∀z:Et ts,ae ts.length (sX z)=z:=fun z=>bh _ _
 rw[ew,ew,ew,ew]at h;exact h
theorem GU(h1:Nm ts.length e (sX x))(h2:Nm ts.length e (sX y))(h3:Nm ts.length e (sX x2))(h4:Nm ts.length e (sX y2))(he:2*(e+e+kB r ts.length)<=lm ts.length) :
  FP 99 [aT ts,aD (sX x) (sX y),aD (sX x2) (sX y2)] (.tup [nA (sX (crsE x y x2 y2)),.v .nilIface]):=by
 have h:=AF tw h1 h2 h3 h4 he;have ew:∀z:Et ts,ae ts.length (sX z)=z:=fun z=>bh _ _
 rw[ew,ew,ew,ew]at h;exact h
theorem tk(h1:Nm ts.length e (sX x))(h2:Nm ts.length e (sX y))(h3:Nm ts.length e (sX x2))(h4:Nm ts.length e (sX y2))(he:2*(e+e+kB r ts.length)<=lm ts.length) :
  FP 102 [aT ts,aD (sX x) (sX y),aD (sX x2) (sX y2)] (.tup [nA (sX (dotE x y x2 y2)),.v .nilIface]):=by
 have h:=sV tw h1 h2 h3 h4 he;have ew:∀z:Et ts,ae ts.length (sX z)=z:=fun z=>bh _ _
 rw[ew,ew,ew,ew]at h;exact h
theorem Dk(h1:Bz e x)(h2:Bz e y)(h3:Bz f x2)(h4:Bz f y2):Nm ts.length (2*(e+f+kB r ts.length)+1) (sX (crsE x y x2 y2)) :=
 ((h1.mul tw (aau _) h4).sub (h2.mul tw (aau _) h3)).mono (by show e+f+kB r ts.length+(e+f+kB r ts.length)+1<=_;omega)
theorem sr(h1:Bz e x)(h2:Bz e y)(h3:Bz f x2)(h4:Bz f y2):Nm ts.length (2*(e+f+kB r ts.length)+1) (sX (dotE x y x2 y2)) :=
 ((h1.mul tw (aau _) h3).add (h2.mul tw (aau _) h4)).mono (by show e+f+kB r ts.length+(e+f+kB r ts.length)+1<=_;omega)
end
def oL(l:Li)(a:As)(g:Gr):List Rat:=if g.kind=0 then sh 0 ((1:Int):Rat)else sX (iU l a g)
section
variable{E:Nat}{l:Li}{a:As}(D:DyW l a)(h3:(llq a.rs).length<=2)
include D h3
theorem ke{body pt:Int}(h1:bA body l.bo.length=true)(h2:bA pt (cO l body).length=true)(hb:Pd E a body) :
  Nm (llq a.rs).length (3*E+2400002022) (sX (aZ l a body pt).1)/\Nm (llq a.rs).length (3*E+2400002022) (sX (aZ l a body pt).2):=by
 obtain⟨n,k,bd,m,b,hp⟩:=p8 D.hl D.li D.al D.hc h1 h2 hb;obtain⟨tw,_⟩:=db D.al.tr D.hc;have kb:=oM h3;have c1:Qb 1000 m.x.q:=by rw[hp.mp.ex,cc];exact hp.mp.sm.x
 have c2:Qb 1000 m.y.q:=by rw[hp.mp.ey,cc];exact hp.mp.sm.y
 have h:=uG tw hp.ok c1 c2;unfold aZ;rw[hp.eq];exact⟨h.1.mono oz,h.2.mono oz⟩
theorem nv{i:Nat}{j:Jt}(hj:l.jo[i]?=some j){b:Int}(h:PinP E l a j b) :
  Nm (llq a.rs).length (3*E+2400002022) (sX (aw l a j b).1)/\Nm (llq a.rs).length (3*E+2400002022) (sX (aw l a j b).2):=by
 obtain⟨i1,i2,i3,i4,_⟩:=cF D.li hj;unfold aw;rcases h.tie with⟨e,hb⟩ |⟨e,e2,hb⟩
 ·rw[ab6 e];exact ke D h3 i2 i4 hb
 ·rw[ab5 e];exact ke D h3 i1 i3 hb
theorem wM{b:Int}(hb:Pd E a b){q:Rat×Rat}(hq:Sm 1000 q):Nm (llq a.rs).length (3*E+2400002022) (sX (k9 a b q).1)/\Nm (llq a.rs).length (3*E+2400002022) (sX (k9 a b q).2):=by
 obtain⟨p,hp,hn,hbn⟩:=hb;obtain⟨tw,_⟩:=db D.al.tr D.hc;have h5:a.rs.length<=5:=by have:=tw.five;rwa [rj]at this
 have h9:=(Cm hn hbn h5).2;rw[<- rj a.rs]at h9;have kb:=oM h3;have h:=FD tw h9 hq;unfold k9;rw[aq hp];exact⟨h.1.mono oz,h.2.mono oz⟩
theorem Dh(hE:E<=3200000000){b:Int}{p:Pl}(hp:a.bs[b.toNat]?=some p)(hn:bB a.rs p.l=0)(hbn:∀x∈p.l,NR x E){q:Rat×Rat}(hq:Sm 1000 q) :
  FP 139 [.agg [.lst 1 (a.rs.map nR)],p.av,qA q.1,qA q.2] (.tup [aD (sX (k9 a b q).1) (sX (k9 a b q).2),.v .nilIface]):=by
 obtain⟨tw,hta⟩:=db D.al.tr D.hc;have h5:a.rs.length<=5:=by have:=tw.five;rwa [rj]at this
 obtain⟨e1,ok⟩:=Cm hn hbn h5;rw[<- rj a.rs]at ok;have kb:=oM h3;have hlm:=iy h3;have h:=ye tw (ok.c.mono (f:=E+1000) oz) (ok.s.mono oz) (ok.x.mono oz) (ok.y.mono oz) (hq.x.mono (f:=E+1000) oz) (hq.y.mono (f:=E+1000) oz) oz;rw[e1,<- jD D.al.tr D.hc];unfold k9;rw[aq hp];exact h
end
theorem VI{E:Nat}{l:Li}{a:As}(D:DyW l a)(h3:(llq a.rs).length<=2){k:Int}{n:Nat}{g:Gr}(ok:DyOk E l k a true n g):Nm (llq a.rs).length (24*E+21600016203) (oL l a g):=by
 obtain⟨tw,hta⟩:=db D.al.tr D.hc;have kb:=oM h3;unfold oL
 by_cases h0:g.kind=0
 ·rw[ab6 h0];exact(Nm.ofQ tw.five (Cb.int (z:=1) (e:=1) (by decide))).mono oz
 ·rw[ab5 h0]
  by_cases h1:g.kind=1
  ·obtain⟨i,k2,z0,z1,z2,j0,j1,j2,P⟩:=ok.rrr h1;obtain⟨y1,y2⟩:=nv D h3 P.h0 P.p0;obtain⟨y3,y4⟩:=nv D h3 P.h1 P.p1;obtain⟨y5,y6⟩:=wM D h3 (ok.own (b:=i) (by rw[P.eq];simp)) (d7 D.hl D.li P.h2 P.t1);obtain⟨e0,e1,e2,b0,b1,_⟩:=P.at;unfold iU;rw[ab5 h0,ab6 h1,e0,e1,e2,b0,b1];exact(Dk tw (cS y3 y1) (cS y4 y2) (cS y5 y1) (cS y6 y2)).mono oz
  ·by_cases h2:g.kind=2
   ·obtain ⟨i, z0, z1, j0, j, P, ha, hb⟩:=ok.pr h2;obtain ⟨i1,i2,i3,i4,i5⟩:=cF D.li P.h1;have q2:Sm 1000 (aM l i j.point):=by rw [<- ha]; exact iu D.hl D.li i1 i3
    obtain⟨y1,y2⟩:=nv D h3 P.h0 P.p0;obtain⟨y3,y4⟩:=ke D h3 i2 (i5 P.hk) hb;obtain⟨y7,y8⟩:=ke D h3 i2 i4 hb;obtain⟨y5,y6⟩:=wM D h3 (ok.own (b:=i) (by rw[P.eq];simp)) q2;obtain⟨e0,e1,b0,_⟩:=P.at;unfold iU;rw[ab5 h0,ab5 h1,ab6 h2,e0,e1,b0];exact(sr tw (cS y3 y7) (cS y4 y8) (cS y5 y1) (cS y6 y2)).mono oz
   ·obtain ⟨i, z0, z1, j0, j, P, _, hj, hb⟩:=ok.rp h0 h1 h2;obtain ⟨i1,i2,i3,i4,i5⟩:=cF D.li P.h1;have hpi:Pd E a j.b:=by rw [hj]; exact ok.own (b:=i) (by rw [P.eq]; simp)
    obtain⟨y1,y2⟩:=nv D h3 P.h0 P.p0;obtain⟨y3,y4⟩:=ke D h3 i1 i3 hb;obtain⟨y5,y6⟩:=ke D h3 i2 i4 hpi;obtain⟨y7,y8⟩:=ke D h3 i2 (i5 P.hk) hpi;obtain⟨e0,e1,b0,_⟩:=P.at;unfold iU;rw[ab5 h0,ab5 h1,ab5 h2,e0,e1,b0];exact(sr tw (cS y7 y5) (cS y8 y6) (cS y3 y1) (cS y4 y2)).mono oz
theorem NC{E:Nat}(hE:E<=3200000000){l:Li}{k:Int}{a:As}{n:Nat}{g:Gr}(hop:Con prog 90 [l.av,i64 k,a.av,bl true] [] (.tup [.ptr 900 0,.v .nilIface]) [pP 900 (ci l g a)])(D:DyW l a)(h3:(llq a.rs).length<=2)(ok:DyOk E l k a true n g) :
  FP 86 [l.av,i64 k,a.av] (.tup [nA (oL l a g),.v .nilIface]):=by
 obtain⟨tw,hta⟩:=db D.al.tr D.hc;have kb:=oM h3;have hlm:=iy h3;have hgo:=ok.ok;have hbl:=D.al.bl;refine aj func86 ?_;refine gt (aE hop (.cons (.tmp rfl) (.cons (.tmp rfl) (.cons (.tmp rfl) (.cons (.const _) .nil)))) aG rfl rfl) ?_ (2,0);refine gW (Wk.o (sl:=[pP 5 (.ptr 5 0),pP 8 (.ptr 900 0),pP 9 (.v .nilIface)]) (hp:=[pP 5 (.box a.av.cells),pP 900 (ci l g a)])) ?_;refine gf ?_ (5,0);refine gW (Wk.o (sl:=[pP 5 (.ptr 5 0),pP 8 (.ptr 900 0),pP 10 (.ptr 35 0)]) (hp:=[pP 5 (.box a.av.cells),pP 900 (ci l g a),pP 35 (bR a.rs)])) ?_ (10,0);refine sP [8,10] [900,35] [pP 11 (nA (sX (iU l a g)))] [] (g.kind≠0) ?_ ?_ 2
 ·intro K1 J1;refine gC (fun y=>?_) (fun y=>?_)
  ·have hk:g.kind=0:=cM y;have hd:oL l a g=sh 0 ((1:Int):Rat):=ab6 hk;rw[hd];refine gc (HP) ?_;refine gR ?_;exact jg rfl
  have hk0:g.kind≠0:=dk y;refine gC (fun y=>?_) (fun y=>?_)
  ·have hk:g.kind = 1:=cM y;obtain ⟨i,k2,z0,z1,z2,j0,j1,j2,P⟩:=ok.rrr hk;obtain ⟨e0,e1,e2,b0,b1,_⟩:=P.at;have hE9:iU l a g = gy (aQ (aw l a j1 k2) (aw l a j0 i)) (aQ (k9 a i (ai l j2 i)) (aw l a j0 i)):=by unfold iU; rw [ab5 hk0,ab6 hk,e0,e1,e2,b0,b1]
   obtain rfl:=P.eq;have hi0:=(hgo.b i (by simp)).1;obtain⟨p,hp,hn,hbn⟩:=ok.own (b:=i) (by simp);have hil:=(Y1.1 hp).1;have hq:=d7 D.hl D.li P.h2 P.t1;obtain⟨y1,y2⟩:=nv D h3 P.h0 P.p0;obtain⟨y3,y4⟩:=nv D h3 P.h1 P.p1;obtain⟨y5,y6⟩:=wM D h3 (ok.own (b:=i) (by simp)) hq;have s1:=mc tw y3 y4 y1 y2 oz;have s2:=mc tw y5 y6 y1 y2 oz;have s3:=GU tw (cS y3 y1) (cS y4 y2) (cS y5 y1) (cS y6 y2) oz;rw[jD D.al.tr D.hc]at s1 s2 s3;refine gt (aE (Con.rB 900 rfl rfl rfl rfl (CY D.hl D.li D.al D.hc h3 hgo P.h0 P.h1 P.h2 P.p0 P.p1 P.t1 P.t2)) (cG rfl) aG rfl rfl) ?_;refine gi (rfl) ?_;refine gi (gG (n:=i.toNat) oz hp) ?_;refine gc (Dh D h3 hE (b:=i) hp hn hbn hq) ?_;refine gt (aV (Con.rB 35 rfl rfl rfl rfl (kX _ _ _)) (aJ rfl rfl rfl) rfl rfl rfl) ?_;refine gD ?_;refine gc s1 ?_;refine gt (aV (Con.rB 35 rfl rfl rfl rfl (kX _ _ _)) (aJ rfl rfl rfl) rfl rfl rfl) ?_;refine gc s2 ?_;refine gt (aV (Con.rB 35 rfl rfl rfl rfl (kX _ _ _)) (aJ rfl rfl rfl) rfl rfl rfl) ?_;refine gc s3 ?_;refine gt (aV (Con.rB 35 rfl rfl rfl rfl (lO _ _)) (aJ rfl rfl rfl) rfl rfl rfl) ?_;refine gD ?_;exact kC J1 hk0 (hw:=Wk.of (.cons rfl (Sub.of (acd (fun z=>nA (sX z)) hE9.symm)) (.k (.k .nil))) (.k (.k .nil)))
  have hk1:g.kind≠1:=dk y;refine gC (fun y=>?_) (fun y=>?_)
  ·have hk:g.kind = 2:=cM y;obtain ⟨i,z0,z1,j0,j,P,ha,hb⟩:=ok.pr hk;obtain ⟨e0,e1,b0,_⟩:=P.at;have hE9:iU l a g = dm (aQ (aZ l a j.b j.to) (aZ l a j.b j.on)) (aQ (k9 a i (aM l i j.point)) (aw l a j0 i)):=by unfold iU; rw [ab5 hk0,ab5 hk1,ab6 hk,e0,e1,b0]
   obtain rfl:=P.eq;obtain⟨i1,i2,i3,i4,i5⟩:=cF D.li P.h1;have hi0:=(hgo.b i (by simp)).1;obtain⟨p,hp,hn,hbn⟩:=ok.own (b:=i) (by simp);have hil:=(Y1.1 hp).1;have hq:Sm 1000 (aM l i j.point):=by rw[<- ha];exact iu D.hl D.li i1 i3
   obtain⟨y1,y2⟩:=nv D h3 P.h0 P.p0;obtain⟨y3,y4⟩:=ke D h3 i2 (i5 P.hk) hb;obtain⟨y7,y8⟩:=ke D h3 i2 i4 hb;obtain⟨y5,y6⟩:=wM D h3 (ok.own (b:=i) (by simp)) hq;have s1:=mc tw y3 y4 y7 y8 oz;have s2:=mc tw y5 y6 y1 y2 oz;have s3:=tk tw (cS y3 y7) (cS y4 y8) (cS y5 y1) (cS y6 y2) oz;rw[jD D.al.tr D.hc]at s1 s2 s3;refine gt (aE (Con.rB 900 rfl rfl rfl rfl (zO D.hl D.li D.al D.hc h3 hgo P.h0 P.h1 P.p0 ha P.hk hb)) (cG rfl) aG rfl rfl) ?_;refine gi (rfl) ?_;refine gi (gG (n:=i.toNat) oz hp) ?_;refine gc (Dh D h3 hE (b:=i) hp hn hbn hq) ?_;refine gt (aV (Con.rB 35 rfl rfl rfl rfl (kX _ _ _)) (aJ rfl rfl rfl) rfl rfl rfl) ?_;refine gD ?_;refine gc s1 ?_;refine gt (aV (Con.rB 35 rfl rfl rfl rfl (kX _ _ _)) (aJ rfl rfl rfl) rfl rfl rfl) ?_;refine gc s2 ?_;refine gt (aV (Con.rB 35 rfl rfl rfl rfl (kX _ _ _)) (aJ rfl rfl rfl) rfl rfl rfl) ?_;refine gc s3 ?_;refine gt (aV (Con.rB 35 rfl rfl rfl rfl (lO _ _)) (aJ rfl rfl rfl) rfl rfl rfl) ?_;refine gD ?_;exact kC J1 hk0 (hw:=Wk.of (.cons rfl (Sub.of (acd (fun z=>nA (sX z)) hE9.symm)) (.k (.k .nil))) (.k (.k .nil)))
  have hk2:g.kind≠2:=dk y;obtain⟨i,z0,z1,j0,j,P,ha,hj,hb⟩:=ok.rp hk0 hk1 hk2;obtain⟨e0,e1,b0,_⟩:=P.at;have hE9:iU l a g=dm (aQ (aZ l a j.b j.to) (aZ l a j.b j.on)) (bT l a i j0 j):=by unfold iU;rw[ab5 hk0,ab5 hk1,ab5 hk2,e0,e1,b0]
  obtain rfl:=P.eq;obtain⟨i1,i2,i3,i4,i5⟩:=cF D.li P.h1;have hpi:Pd E a j.b:=by rw[hj];exact ok.own (b:=i) (by simp)
  obtain⟨y1,y2⟩:=nv D h3 P.h0 P.p0;obtain⟨y5,y6⟩:=ke D h3 i1 i3 hb;obtain⟨y3,y4⟩:=ke D h3 i2 (i5 P.hk) hpi;obtain⟨y7,y8⟩:=ke D h3 i2 i4 hpi;have s0:=mc tw y5 y6 y1 y2 oz;have sd:=tk tw (cS y5 y1) (cS y6 y2) (cS y5 y1) (cS y6 y2) oz;have s1:=mc tw y3 y4 y7 y8 oz;have s3:=tk tw (cS y3 y7) (cS y4 y8) (cS y5 y1) (cS y6 y2) oz;rw[jD D.al.tr D.hc]at s0 sd s1 s3;refine gt (aV (Con.rB 900 rfl rfl rfl rfl (yu D.hl _ hgo a rfl P.h1)) (cG rfl) rfl rfl rfl) ?_;refine gt (aE (Con.rekeyBB 900 35 (by decide) (by decide) rfl rfl rfl rfl rfl rfl (BH (E:=E) oz D h3 hgo P.h0 P.h1 P.p0 hj P.hk hb s0 sd)) (bC rfl rfl) aG rfl rfl) ?_;refine gt (aE (Con.rB 900 rfl rfl rfl rfl (pH (E:=E) D.hl D.li _ D.al D.hc i2 (i5 P.hk) oz h3 hpi)) (aJ rfl rfl rfl) aG rfl rfl) ?_;refine gt (aE (Con.rB 900 rfl rfl rfl rfl (pH (E:=E) D.hl D.li _ D.al D.hc i2 i4 oz h3 hpi)) (aJ rfl rfl rfl) aG rfl rfl) ?_;refine gc s1 ?_;refine gt (aV (Con.rB 35 rfl rfl rfl rfl (kX _ _ _)) (aJ rfl rfl rfl) rfl rfl rfl) ?_;refine gD ?_;refine gc s3 ?_;refine gt (aV (Con.rB 35 rfl rfl rfl rfl (lO _ _)) (aJ rfl rfl rfl) rfl rfl rfl) ?_;refine gD ?_;exact kC J1 hk0 (hw:=Wk.of (.cons rfl (Sub.of (acd (fun z=>nA (sX z)) hE9.symm)) (.k (.k .nil))) (.k (.k .nil)))
 rintro hk9;rw[show oL l a g=sX (iU l a g)from ab5 hk9];refine gC (fun y=>?_) (fun y=>?_) (st2:=(77777,0))
 ·refine gf ?_;refine gR ?_;exact jg rfl
 cases y
def lZ(l:Li)(a:Aq)(g:Gr):List Rat:=if g.kind=0 then sh 0 ((1:Int):Rat)else sX (cR l a.ts a.bs g)
theorem D7(l:Li)(a:Aq)(g:Gr):oL l a.as g=lZ l a g:=by
 unfold oL lZ;split
 ·rfl
 ·rw[Ti]
  have:∀(T:LL)(bs:List Pq),T=a.ts->bs=a.bs->(sX (cR l T bs g):List Rat)=sX (cR l a.ts a.bs g):=by
   rintro _ _ rfl rfl;rfl
  exact this _ _ a.llq (lr a)
theorem K7{l:Li}{a:Aq}{g:Gr}:T.sgn (au a.ts) a.ts.length (ae a.ts.length (lZ l a g))=ao (cR l a.ts a.bs g):=by
 unfold lZ;split
 ·rename_i h;rw [fL];have e:cR l a.ts a.bs g = qE 1:=by unfold cR; rw [ab6 h]
  rw[e];rfl
 ·have e:ae a.ts.length (sX (cR l a.ts a.bs g))=cR l a.ts a.bs g:=bh _ _;rw[e];rfl
structure AqE(E:Nat)(l:Li)(a:Aq):Prop where
  s:AqS l a
  be:∀p∈a.bs,Pq.ok a.ts.length E p
  le:E<=3200000000
theorem AqS.e{l:Li}{a:Aq}(F:AqS l a):AqE 3200000000 l a:=⟨F,F.bs,aau _⟩
section
variable{E:Nat}{l:Li}(hl:l.ok){a:Aq}(F:AqE E l a)(hs:splitE l=0){k:Nat}{g:Gr}(hg:(splitG l)[k]?=some g)
include hl F hs hg
theorem sT(own:Bool):DyW l a.as/\DyOk E l k a.as own k g/\(Lw.llq a.as.rs).length<=2/\fP l k a.as own=0:=by
 obtain⟨r,hr,tw⟩:=F.s.tw;have hE:=F.le;have Q:QInv l 2 r E a:=⟨tw,F.s.two,F.be,F.s.ln⟩
 have D:DyW l a.as:=⟨hl,F.s.li,Q.ab F.s.li oz hr,Q.chk⟩
 have h0:=Q.dy0 F.s.li hs hg own;obtain⟨i,g',h⟩:=vF (Q.sma oz (aau _) k own) h0;have e:i=k:=by have:=h.hk;omega
 subst e;have h2:=h.hg;rw[hg]at h2;cases h2;exact⟨D,h,by rw[a.llq];exact F.s.two,h0⟩
theorem Qd:Nm a.ts.length (24*E+21600016203) (lZ l a g):=by
 obtain⟨D,ok,h3,_⟩:=sT hl F hs hg true;have h:=VI D h3 ok;rw[D7,a.llq]at h;exact h
theorem OW:FP 86 [l.av,i64 k,a.av] (.tup [nA (lZ l a g),.v .nilIface]):=by
 obtain⟨D,ok,h3,h0⟩:=sT hl F hs hg true;have hop:=A9 l hl k a.as D.al true;have hgA:iA l (k:Nat)=g:=aq hg;rw[h0,hgA]at hop;have h:=NC F.le hop D h3 ok;rw[Aq.as_av,D7]at h;exact h
end
section
variable{l:Li}(hl:l.ok){a:Aq}(F:AqS l a)(hs:splitE l=0){k:Nat}{g:Gr}(hg:(splitG l)[k]?=some g)
include hl F hs hg
theorem VG:Nm a.ts.length 99300000000 (lZ l a g):=(Qd hl F.e hs hg).mono oz
theorem Ju:FP 86 [l.av,i64 k,a.av] (.tup [nA (lZ l a g),.v .nilIface]):=OW hl F.e hs hg
theorem E3:FP 87 [aT a.ts,nA (lZ l a g)] (.tup [i64 (ao (cR l a.ts a.bs g)),.v .nilIface]):=by
 obtain⟨r,hr,tw⟩:=F.tw;have hlm:=iy F.two;have h:=rE tw (VG hl F hs hg) oz;rw[K7]at h;exact h
end
theorem LO{l:Li}{xs:List Tn}{a:Aq}(F:AqFin l xs a):kA l xs=0:=In F.li F.lx (fun x hx=>(F.xo x hx).1)
theorem Vg{l:Li}{xs:List Tn}{a:Aq}(F:AqFin l xs a):jz l xs a=(0,0):=by
 have f1:cQ a.bs.length (fun i=>pC a.ts i (a.bs.getD i a7))=none:=f6 (fun i hi=>by
  have hc:=F.cs i (by rw[<- F.ln];exact hi);unfold pC;rw[VL hc,Bool.true_and]
  by_cases h0:i=0
  ·subst h0;rw[F.fr,Lj];simp
  ·rw[aca (by omega:0<i)];rfl)
 have f2:cQ l.jo.length (fun i=>me l a (l.jo.getD i default))=none:=f6 (fun i hi=>by
  obtain⟨j,hj⟩:=ay hi;rw[aq hj];exact SK (F.js j (aap hj)))
 have f3:cQ l.dv.length (pg l xs a)=none:=f6 (fun i hi=>by
  obtain⟨d,hd⟩:=ay hi;have h:=F.dr i d hd;unfold pg xq;rw[aq hd,fL,fL];rw[show ae a.ts.length (a.bs.getD d.body.toNat a7).c=T.ofQ a.ts.length (dW (xs.getD i d6).half (xs.getD i d6).t.q)from h.1,show ae a.ts.length (a.bs.getD d.body.toNat a7).s=T.ofQ a.ts.length (dR (xs.getD i d6).half (xs.getD i d6).t.q)from h.2,xl,xl];rfl)
 unfold jz;rw[f1,f2,f3]
section
variable{l:Li}{xs:List Tn}{s g:Nat}(W:WkC l xs s g)
include W
end
section
variable{l:Li}{xs:List Tn}{s g:Nat}(W:WkC l xs s g)
include W
end
theorem Rn{l:Li}(hl:l.ok){xs:List Tn}{a:Aq}(F:AqFin l xs a)(hxl:xs.length<=281474976710656):FP 24 [l.av,.lst 4 (xs.map Tn.av),a.av] (.tup [bl true,CT (0,0),bF 0]):=by
 have hv:=Sf hl F.s xs (fun x hx=>⟨(F.xo x hx).2.2,(F.xo x hx).2.1⟩) hxl;rw[LO F,ab6 rfl,Vg F]at hv;exact hv
theorem SJ{l:Li}(hl:l.ok)(h1:aN l=0)(h2:splitE l=0):FP 113 [l.av] (.tup [.lst 4 ((splitG l).map Gr.av),bF 0]):=by
 have h:=BX l hl;rw[ab6 h1,ab6 h1,h2]at h;exact h
structure AqM0(l:Li)(a:Aq):Prop where
  sp:splitE l=0
  ml:a.ms.length=(splitG l).length
structure AqSg(l:Li)(a:Aq):Prop extends AqM0 l a where
  sg:∀m g,m<a.ms.length->(splitG l)[m]?=some g->ao (cR l a.ts a.bs g)=a.ms.getD m 0
theorem S5{l:Li}{a:Aq}(M:AqMd l a):AqSg l a:=⟨⟨M.sp,M.ml⟩,fun m g h hg=>M.md m g h hg⟩
open Lean.Grind (CommRing)
theorem Eg{ts:LL}{r:Nat}(hr:r<=60000000)(h2:ts.length<=2):kB r ts.length<=180000006:=by
 have h9:=gX r h2;have h8:=tp hr 2;have h7:eB 60000000 2=180000006:=by decide
 show eB r _<=_;omega
theorem LT{l:Li}(hl:aN l=0)(hs:splitE l=0){m:Nat}{g:Gr}(hg:(splitG l)[m]?=some g){b:Int}(hb:b∈cT l g false)(h0:0<=b):kn (fH l (splitG l) m) b=true:=by
 obtain⟨_,ok⟩:=mC hl (aap hg);have N:=qR hl hs hg;unfold cT at hb;rw[ab5 (by decide),ab3]at hb;unfold fS at hb;obtain⟨z,hz,rfl⟩:=Y8.1 hb;obtain⟨z0,z1⟩:=ok.j z hz;obtain⟨j,hj⟩:=ay (l:=l.jo) (i:=z.toNat) oz;obtain⟨na,nb⟩:=N.j z hz j hj;rw[aq hj]at h0 ⊢;unfold iQ at h0 ⊢;split at h0
 ·rename_i h1;rw[ab6 h1];split at h0
  ·omega
  ·rename_i h2;rw[ab5 h2];rcases nb with h |h
   ·exact acc (Zh.2 h) h2
   ·exact h
 ·rename_i h1;rw[ab5 h1];rcases na with h |h
  ·exact acc (Zh.2 h) h1
  ·exact h
def yi(l:Li)(a:Aq):Prop:=∀m g,m<a.ms.length->(splitG l)[m]?=some g->g.kind≠0->∀b∈cT l g false,0<=b->Pq.ok a.ts.length 3900000 (a.bs.getD b.toNat a7)
section
variable{l:Li}{xs:List Tn}{s g:Nat}(W:WkC l xs s g){gr:Gr}{a:Aq}(hg:(splitG l)[a.ms.length]?=some gr)
variable{j r E:Nat}(Q:QInv l j r E a)
include W hg Q
theorem LM{n y:Nat}(okz:eQ s g (n+1) y j r E=true)(hy:gr.kind≠0->0<y)(H:yi l a){sv:Sv}(hs:sv∈eZ l a.as gr (cB gr xs)):yi l (a.nxt gr sv):=by
 have tw:=QInv.twl W hg Q;have hq:(Lw.llq a.as.rs)=a.ts:=a.llq;obtain⟨dy,ok⟩:=W.grp hg
 have hN:∀p∈aO a.as,Nq (Lw.llq a.as.rs).length p:=by
  intro p hp;rw[lr]at hp;rw[hq];exact(Q.bs p hp).nq
 have D:=HJ tw hN dy (fun b hb=>by
  rw[lr];have:=ok.b b hb;have:=Q.ln;omega) W.li hs
 have L:Lf a.ts sv.ts:=yT hq D.lf;obtain⟨y',j',r',E',ok',ey,hQ⟩:=Je W hg Q okz hy;have h5:sv.ts.length<=5:=(hQ sv hs).tw.five;have hml:(a.nxt gr sv).ms.length=a.ms.length+1:=by show(a.ms++[sv.mode]).length=_;simp
 intro m g2 hm hg2 hk2 b hb h0;rw[hml]at hm;have hkn:=LT W.li W.sp hg2 hb h0;show Pq.ok sv.ts.length 3900000 ((a8 a.bs gr.bo sv.ps).getD b.toNat a7)
 by_cases e:m=a.ms.length
 ·subst e;rw [hg] at hg2;cases hg2;have N:=qR W.li W.sp hg;have hb2:b ∉ gr.bo:=fun hb=>by rw [N.b b hb] at hkn; cases hkn
  rw[Bc (fun x hx=>(ok.b x hx).1) hb2 h0];obtain⟨z,rfl⟩:∃z,y=z+1:=⟨y-1,by have:=hy hk2;omega⟩
  obtain⟨⟨_,hE,_⟩,_⟩:=rm okz;have h1:=vj W.li ok b hb;obtain⟨p,hp⟩:=ay (l:=a.bs) (i:=b.toNat) (by have:=Q.ln;omega);rw[aq hp];exact(Q.bs p (aap hp)).up L.len h5 hE
 ·have hlt : m < a.ms.length := by omega
  have S:=Ex W hg Q sv.ps m g2 hlt hg2 b h0 (.inr hkn);rw[S.1];exact(H m g2 hlt hg2 hk2 b hb h0).up L.len h5 (aau _)
end
theorem Dl{l:Li}{xs:List Tn}{s g:Nat}(W:WkC l xs s g){F:Nat->Int->Bool}{sg:Bool}:∀(n:Nat)(a:Aq),WkSt l s g n a->yi l a->∀b∈(f8 F sg l xs (splitG l) n a).1,WkSt l s g 0 b/\yi l b
 |0,a,h,H,b,hb=>by rw[Za.1 hb];exact⟨h,H⟩
 |n+1,a,h,H,b,hb=>by
  obtain⟨gr,hg,_,hP,hn⟩:=h.next W;obtain⟨⟨j,r,E,y,Q,ok,hc⟩,hl⟩:=h
  have hy:gr.kind≠0->0<y:=fun hk=>by
   have hdr:=rf hg;rw[hdr,Zn]at hc;have:kT gr=true:=aca hk;rw[ab6 this]at hc;omega
  unfold f8 at hb;rw[aq hg]at hb;split at hb
  ·cases hb
  ·obtain⟨sv,hsv,h2⟩:=BS hb;exact Dl W n _ (hn sv hsv) (LM W hg Q ok hy H hsv) b h2
structure AqD(l:Li)(a:Aq):Prop where
  tw:∃r,r<=60000000/\Tw a.ts r
  an:∀(m:Nat)(g:Gr),(splitG l)[m]?=some g->g.kind≠0->∀b∈cT l g false,0<=b->Pq.ok a.ts.length 3900000 (a.bs.getD b.toNat a7)
theorem Mx{l:Li}(hl:l.ok){xs:List Tn}(hL:i7 l xs=true)(hxw:∀x∈xs,x.t.wok){A:List Aq}{e:Nat}(h:je l xs=(A,e)):∀a∈A,AqD l a:=by
 by_cases h0:cW l xs=0
 ·obtain⟨s,g,W,St⟩:=v6 hL hl hxw h0;have hw:=Dl W (F:=gN) (sg:=false) (splitG l).length (eW l) St (fun m g h=>acc h (YF _));unfold je at h;rw[ab5 (fun h=>h h0)]at h;intro a ha;split at h
  ·cases h;cases ha
  ·have e1:(lP gN false l xs).1=A:=acd Prod.fst h;rw[<- e1]at ha;obtain⟨h1,h2⟩:=hw a ha;obtain⟨⟨j,r,E,y,Q,ok,hc⟩,hln⟩:=h1;obtain⟨_,hr,_⟩:=v5 ok;refine⟨⟨r,hr,Q.tw⟩,fun m g hg hk b hb hb0=>h2 m g ?_ hg hk b hb hb0⟩;have:=(Y1.1 hg).1;omega
 ·unfold je at h;rw[ab6 h0]at h;cases h;intro a ha;cases ha
section
variable{E r:Nat}{l:Li}{a:As}(D:DyW l a)(tw:Tw (llq a.rs) r)(hK:kB r (llq a.rs).length<=180000006)
include D tw hK
theorem Ac{body pt:Int}(h1:bA body l.bo.length=true)(h2:bA pt (cO l body).length=true)(hb:Pd E a body) :
  Nm (llq a.rs).length (3*E+360002022) (sX (aZ l a body pt).1)/\Nm (llq a.rs).length (3*E+360002022) (sX (aZ l a body pt).2):=by
 obtain⟨n,k,bd,m,b,hp⟩:=p8 D.hl D.li D.al D.hc h1 h2 hb;have c1:Qb 1000 m.x.q:=by rw[hp.mp.ex,cc];exact hp.mp.sm.x
 have c2:Qb 1000 m.y.q:=by rw[hp.mp.ey,cc];exact hp.mp.sm.y
 have h:=uG tw hp.ok c1 c2;unfold aZ;rw[hp.eq];exact⟨h.1.mono oz,h.2.mono oz⟩
theorem X2{i:Nat}{j:Jt}(hj:l.jo[i]?=some j){b:Int}(h:PinP E l a j b) :
  Nm (llq a.rs).length (3*E+360002022) (sX (aw l a j b).1)/\Nm (llq a.rs).length (3*E+360002022) (sX (aw l a j b).2):=by
 obtain⟨i1,i2,i3,i4,_⟩:=cF D.li hj;unfold aw;rcases h.tie with⟨e,hb⟩ |⟨e,e2,hb⟩
 ·rw[ab6 e];exact Ac D tw hK i2 i4 hb
 ·rw[ab5 e];exact Ac D tw hK i1 i3 hb
end
theorem Kf{l:Li}(hl:l.ok){a:Aq}(F:AqS l a)(DD:AqD l a)(hs:splitE l=0){k:Nat}{g:Gr}(hg:(splitG l)[k]?=some g)(h0:g.kind≠0):DyOk 3900000 l k a.as false k g:=by
 obtain⟨_,_,_,hd⟩:=sT hl F.e hs hg false;have hgA:iA l (k:Nat)=g:=aq hg
 have hS:sa 3900000 l (k:Nat) a.as false:=by
  intro b hb hb0 p hp x hx;rw[hgA]at hb;have h1:=DD.an k g hg h0 b hb hb0;have hp2:(a.bs.map Pq.pl)[b.toNat]?=some p:=hp;rw[aav,aas]at hp2;obtain⟨q,hq,rfl⟩:=hp2;rw[aq hq]at h1;exact h1.nr (by have:=j5 a.ts.length;omega) x hx
 obtain⟨i,g',h⟩:=vF hS hd;have e:i=k:=by have:=h.hk;omega
 subst e;have h2:=h.hg;rw[hg]at h2;cases h2;exact h
end Go.Lw
namespace Go.Lw
open Go.Proofs
def TJ(ts:LL)(a b c d p q:T ts.length):T ts.length:=nJ ts (subT ts a p) (subT ts b q) (subT ts c p) (subT ts d q)
def BY(ts:LL)(a b c d p q:T ts.length):Bool:=decide (T.sgn (au ts) ts.length (qO ts a b c d p q)=0)&&decide (T.sgn (au ts) ts.length (TJ ts a b c d p q)<=0)
theorem Uh(x y:Int):cond (aa .eql x 0) (aa .leq y 0) false=(decide (x=0)&&decide (y<=0)):=by
 by_cases h:x=0 <;> by_cases h2:y<=0 <;> simp[aa,h,h2]
theorem LU(x y:Int):cond (cond (aa .eql x 0) (aa .leq y 0) false) (d5 Value.nilIface) false=(decide (x=0)&&decide (y<=0)):=by
 rw[Uh];cases(decide (x=0)&&decide (y<=0)) <;> rfl
theorem QU{ts:LL}{r e:Nat}(tw:Tw ts r){a b c d p q:List Rat}(ha:Nm ts.length e a)(hb:Nm ts.length e b)(hc:Nm ts.length e c)(hd:Nm ts.length e d)(hp:Nm ts.length e p)(hq:Nm ts.length e q)
  (he:16*e+20+4*kB r ts.length<=lm ts.length) :
  FP 214 [aT ts,aD a b,aD c d,aD p q] (.tup [bl (BY ts (ae ts.length a) (ae ts.length b) (ae ts.length c) (ae ts.length d) (ae ts.length p) (ae ts.length q)),.v .nilIface]):=by
 have ho:=C8 tw ha hb hc hd hp hq;have s1:=ha.sub hp;have s2:=hb.sub hq;have s3:=hc.sub hp;have s4:=hd.sub hq;have hD:=Br tw s1 s2 s3 s4 oz;have hN:=vt tw s1 s2 s3 s4;simp only[bh]at hD hN;refine aj func214 ?_;refine gc (nT (e:=e) tw [(a,b),(c,d),(p,q)] (by simp only[abd,abb,or_false];rintro x (rfl |rfl |rfl);exact⟨ha,hb⟩;exact⟨hc,hd⟩;exact⟨hp,hq⟩) oz (by simp)) ?_;refine gf ?_;refine gt (aE (Con.rB 28 rfl rfl rfl rfl (Ie tw ha hb hc hd hp hq oz)) (.cons (.tmp rfl) (.cons (.tmp rfl) (.cons (.tmp rfl) (.cons (.tmp rfl) .nil)))) aG rfl rfl) ?_;refine gt (aV (Con.rB 28 rfl rfl rfl rfl (rY tw ha hb hp hq oz)) (aJ rfl rfl rfl) rfl rfl rfl) ?_;refine gt (aV (Con.rB 28 rfl rfl rfl rfl (rY tw hc hd hp hq oz)) (aJ rfl rfl rfl) rfl rfl rfl) ?_;refine gt (aV (Con.rB 28 rfl rfl rfl rfl hD) (aJ rfl rfl rfl) rfl rfl rfl) ?_;refine gt (aV (Con.rB 28 rfl rfl rfl rfl (xR _ _)) (bC rfl rfl) rfl rfl rfl) ?_;refine gD ?_;refine gf ?_;refine gc (rE tw ho oz) ?_;refine gf ?_;refine gc (rE tw hN oz) ?_;refine bt ?_;rw[bh,bh];exact acd (fun z=>AV.tup [bl z,.v .nilIface]) (LU _ _)
theorem IB{l:Li}(hl:l.ok){xs:List Tn}{a:Aq}(F:AqFin l xs a)(hs:splitE l=0)(hxl:xs.length<=281474976710656) :
  FP 105 [l.av,.lst 4 (xs.map Tn.av),a.av] (.tup [.lst 4 ((splitG l).map Gr.av),.v .nilIface]):=by
 have z0:d5 (jq 0)=true:=rfl;refine aj func105 ?_;refine gc (SJ hl F.li hs) ?_;refine gf ?_;refine gc (Rn hl F hxl) ?_;refine gf ?_;refine gf ?_;refine bt ?_;rfl
def oP(l:Li)(a:Aq)(g:Gr):AV:=nA (lZ l a g)
theorem M0{l:Li}(hl:l.ok){xs:List Tn}{a:Aq}(F:AqFin l xs a)(hs:splitE l=0) :
  FP 194 [l.av,i64 (splitG l).length,a.av] (.tup [.lst 1 ((splitG l).map (oP l a)),.v .nilIface]):=by
 have hgl:=xN F.li;refine aj func194 ?_;refine gW (Wk.virt 900 1 rfl) ?_;refine aW [3,5,12] [3,5] (fun(i:Nat)=>[pP 8 (.ms 900 1 0 i),pP 13 (i64 i)]) (fun i=>[pP 900 (.row 1 (((splitG l).take i).map (oP l a)))]) (fun i=>i<=(splitG l).length) (fun i=>(splitG l).length-i) 0 (aa0 _) ?_;rintro i hi K1 J1;refine gC (fun z=>?_) (fun z=>?_) (st2:=(10,0))
 ·have hin:i<(splitG l).length:=a9 z;obtain⟨g,hg⟩:=ay hin;refine gc (Ju hl F.s hs hg) ?_;refine gf ?_;refine gs (cK (.tmp rfl) rfl (I7 oz).symm (.tmp rfl) T42 rfl T53 rfl rfl (by simp only[aa4,abg];omega) rfl rfl) ?_ (9,0);refine gW (Wk.of (sl:=[pP 3 (.ptr 3 0),pP 5 (.ptr 5 0),pP 8 (.ms 29 1 0 (i+1)),pP 12 (i64 (splitG l).length),pP 13 (i64 i)]) (hp:=[pP 3 (.box l.av.cells),pP 5 (.box a.cs),pP 29 (.row 1 (((splitG l).take (i+1)).map (oP l a)))]) bb (.k (.k (.cons rfl (BlkSub.of (by rw[dK hg,abf];rfl)) .nil)))) ?_ (9,0);refine gW (Wk.rk (k:=29) (d:=900) rfl rfl) ?_;refine ga aS ?_;exact aR J1 (i+1) hin
 have hin:=bn hi z;subst hin;refine gW ((Wk.freeze (k:=900) rfl).trans<|Wk.of (sl:=[pP 8 (.lst 1 ((splitG l).map (oP l a)))]) (hp:=[]) (.cons rfl (Sub.of (by rw[b7 (I7 (aau _)).symm,aa8])) .nil) .nil) ?_;refine bt ?_
 first |rfl |(simp;done)
theorem SM{l:Li}(hl:l.ok){xs:List Tn}{a:Aq}(F:AqFin l xs a)(hs:splitE l=0)(hxl:xs.length<=281474976710656) :
  FP 89 [l.av,.lst 4 (xs.map Tn.av),a.av] (.tup [.lst 1 ((splitG l).map (oP l a)),.v .nilIface]):=by
 have hgl:=xN F.li;refine aj func89 ?_;refine gc (IB hl F hs hxl) ?_;refine gf ?_;refine gl ?_;refine gc (M0 hl F hs) ?_;refine bt ?_
 first |rfl |(simp;done)
def dh(ms:List Int)(n:Nat):List Int:=((List.range n).filter fun k=>decide (ms.getD k 0=0)).map Int.ofNat
theorem uC{ms:List Int}{n:Nat}(h:ms.getD n 0=0):dh ms (n+1)=dh ms n++[(n:Int)]:=by
 unfold dh;rw[List.range_succ,Zy,abf]
 congr 1;rw[Zf,ab6 (aca h)];rfl
theorem sY{ms:List Int}{n:Nat}(h:ms.getD n 0≠0):dh ms (n+1)=dh ms n:=by
 unfold dh;rw[List.range_succ,Zy,abf]
 have e:List.filter (fun k=>decide (ms.getD k 0=0)) [n]=[]:=by rw[Zf,ab5 (by rw[acb h];decide)];rfl
 rw[e];exact ab3 _
theorem DQ(ms:List Int)(n:Nat):(dh ms n).length<=n:=by
 unfold dh;rw[aar];exact abe (List.length_filter_le _ _) (by simp)
theorem FC{l:Li}(hl:l.ok){xs:List Tn}{a:Aq}(F:AqFin l xs a)(M:AqSg l a)(hxl:xs.length<=281474976710656) :
  FP 29 [l.av,.lst 4 (xs.map Tn.av),a.av] (.tup [.lst 1 ((dh a.ms (splitG l).length).map i64),.v .nilIface]):=by
 have hgl:=xN F.li;have hml:=M.ml;refine aj func29 ?_;refine gc (SM hl F M.sp hxl) ?_;refine gf ?_;refine gl ?_;refine gW (Wk.virt 900 1 rfl) ?_;refine aW [5,25,26] [5] (fun(i:Nat)=>[pP 10 (.ms 900 1 0 (dh a.ms i).length),pP 27 (i64 i)]) (fun i=>[pP 900 (.row 1 ((dh a.ms i).map i64))]) (fun i=>i<=(splitG l).length) (fun i=>(splitG l).length-i) 0 (aa0 _) ?_;rintro i hi K1 J1;refine gC (fun z=>?_) (fun z=>?_) (st2:=(14,0))
 ·have hin:i<(splitG l).length:=a9 z;obtain⟨g,hg⟩:=ay hin;have hsl:=DQ a.ms i;have hsn:=E3 hl F.s M.sp hg;rw[M.sg i g oz hg]at hsn;refine gi (aH hg) ?_;refine gc hsn ?_;refine gf ?_;refine gC (fun z=>?_) (fun z=>?_) (st2:=(77777,0))
  ·have hz:a.ms.getD i 0 = 0:=ab8 z;refine gs (cK (.tmp rfl) rfl (by simp) (.tmp rfl) T46 rfl T3 rfl rfl (by simp only [aa4,abg]; omega) rfl rfl) ?_ (13,0);refine gW (Wk.of (sl:=[pP 5 (.ptr 5 0),pP 10 (.ms 47 1 0 (dh a.ms (i + 1)).length),pP 25 (.lst 1 ((splitG l).map (oP l a))),pP 26 (i64 (splitG l).length),pP 27 (i64 i)]) (hp:=[pP 5 (.box a.cs),pP 47 (.row 1 ((dh a.ms (i + 1)).map i64))]) (.k (.cons rfl (Sub.of (by rw [uC hz]; simp)) (.k (.k (.k .nil))))) (.k (.cons rfl (BlkSub.of (by rw [uC hz]; simp)) .nil))) ?_ (13,0)
   refine gW (Wk.rk (k:=47) (d:=900) rfl rfl) ?_;refine ga aS ?_;exact aR J1 (i+1) hin
  have hz:a.ms.getD i 0≠0:=ab9 z;refine gW (Wk.of (sl:=[pP 5 (.ptr 5 0),pP 10 (.ms 900 1 0 (dh a.ms (i+1)).length),pP 25 (.lst 1 ((splitG l).map (oP l a))),pP 26 (i64 (splitG l).length),pP 27 (i64 i)]) (hp:=[pP 5 (.box a.cs),pP 900 (.row 1 ((dh a.ms (i+1)).map i64))]) (.k (.cons rfl (Sub.of (by rw[sY hz])) (.k (.k (.k .nil))))) (.k (.cons rfl (BlkSub.of (by rw[sY hz])) .nil))) ?_;refine ga aS ?_;exact aR J1 (i+1) hin
 have hin:=bn hi z;subst hin;refine gW ((Wk.freeze (k:=900) rfl).trans<|Wk.of (sl:=[pP 10 (.lst 1 ((dh a.ms (splitG l).length).map i64))]) (hp:=[]) (.cons rfl (Sub.of (by rw[b7 (by simp)])) .nil) .nil) ?_;refine bt ?_
 first |rfl |(simp;done)
theorem W8{l:Li}(hl:l.ok){a:Aq}(F:AqS l a){body pt:Int}(h1:bA body l.bo.length=true)(h2:bA pt (cO l body).length=true) :
  FP 213 [l.av,a.av,i64 body,i64 pt] (.tup [aD (sX (aB l a.ts a.bs body pt).1) (sX (aB l a.ts a.bs body pt).2),.v .nilIface]):=by
 obtain⟨n,k,bd,m,h⟩:=oN hl F.li h1 h2;obtain⟨r,hr,tw⟩:=F.tw;have hkb:=rU hr F.two;have hlm:=iy F.two;have hlb:=(dg F.li).2.2.2.1;obtain⟨p,hp⟩:=ay (l:=a.bs) (i:=n) (by rw[F.ln];exact(Y1.1 h.gbd).1);have po:=F.bs p (aap hp);have hn:=h.hn;have hk:=h.hk
 have e:aB l a.ts a.bs body pt=br a.ts p (aM l body pt):=by
  unfold aB;rw[hn,abn,aq hp]
 have hat:FP 139 [aT a.ts,p.av,m.x.av,m.y.av] (.tup [aD (sX (aB l a.ts a.bs body pt).1) (sX (aB l a.ts a.bs body pt).2),.v .nilIface]):=by
  rw[h.ex,h.ey,e];exact ye tw po.c po.s po.x po.y (h.sm.x.mono oz) (h.sm.y.mono oz) oz
 have gb:=h.gbd;have gm:=h.gm;clear h h1 h2 e;subst hn;subst hk;refine aj func213 ?_;refine gi (aH gb) ?_;refine gi (aH gm) ?_;refine gi (aH hp) ?_;refine gc hat ?_;refine gD ?_;refine bt ?_
 first |rfl |(simp;done)
def eg(l:Li)(a:Aq)(z:Int):Et a.ts×Et a.ts:=aB l a.ts a.bs (l.jo.getD z.toNat default).a (l.jo.getD z.toNat default).point
def o5(l:Li)(a:Aq)(zs:List Int):Bool :=
  BY a.ts (eg l a (zs.getD 0 0)).1 (eg l a (zs.getD 0 0)).2 (eg l a (zs.getD 1 0)).1 (eg l a (zs.getD 1 0)).2 (eg l a (zs.getD 2 0)).1 (eg l a (zs.getD 2 0)).2
def yP(l:Li)(a:Aq)(zs:List Int)(i k:Nat):List Rat:=if k<i then sX (eg l a (zs.getD k 0)).1 else[]
def Cl(l:Li)(a:Aq)(zs:List Int)(i k:Nat):List Rat:=if k<i then sX (eg l a (zs.getD k 0)).2 else[]
abbrev xS(l:Li)(a:Aq)(zs:List Int)(i:Nat):List AV:=[nA (yP l a zs i 0),nA (Cl l a zs i 0),nA (yP l a zs i 1),nA (Cl l a zs i 1),nA (yP l a zs i 2),nA (Cl l a zs i 2)]
abbrev E5(l:Li)(a:Aq)(z:Int):AV:=aD (sX (eg l a z).1) (sX (eg l a z).2)
theorem OA{l:Li}{a:Aq}{zs:List Int}{i:Nat}{z:Int}(hi:i<3)(hz:zs[i]?=some z) :
  over (xS l a zs i) (0+((i:Nat):Int).toNat*2) (AV.cells (E5 l a z))=xS l a zs (i+1):=by
 have e:zs.getD i 0=z:=aq hz;subst e;have h:i=0\/i=1\/i=2:=by omega
 rcases h with rfl |rfl |rfl <;> rfl
theorem M2{l:Li}{a:Aq}{zs:List Int}{i:Nat}(hi:i<3):Nat.ble (0+((i:Nat):Int).toNat*2+2) (xS l a zs i).length=true:=by
 rw[YS];show 0+((i:Nat):Int).toNat*2+2<=6;omega
theorem yU{l:Li}(hl:l.ok){a:Aq}(F:AqS l a){z:Int}(h:0<=z/\z<l.jo.length) :
  Nm a.ts.length 12100000000 (sX (eg l a z).1)/\Nm a.ts.length 12100000000 (sX (eg l a z).2):=by
 obtain⟨j,hj⟩:=ay (l:=l.jo) (i:=z.toNat) oz;obtain⟨i1,i2,i3,i4,_⟩:=cF F.li hj;unfold eg;rw[aq hj];exact vi F hl i1 i3
theorem Nt{l:Li}(hl:l.ok){a:Aq}(F:AqS l a){g:Gr}(hgo:GrOk l g)(h3:g.jo.length=3) :
  FP 106 [l.av,a.av,g.av] (.tup [i64 (if o5 l a g.jo=true then 1 else 2),.v .nilIface]):=by
 have hlj:=hl.lj;obtain⟨z0,hz0⟩:=ay (l:=g.jo) (i:=0) oz;obtain⟨z1,hz1⟩:=ay (l:=g.jo) (i:=1) oz;obtain⟨z2,hz2⟩:=ay (l:=g.jo) (i:=2) oz;have e0:g.jo.getD 0 0=z0:=aq hz0;have e1:g.jo.getD 1 0=z1:=aq hz1;have e2:g.jo.getD 2 0=z2:=aq hz2;obtain⟨r,hr,tw⟩:=F.tw;have hkb:=rU hr F.two;have hlm:=iy F.two;have n0:=yU hl F (hgo.j z0 (aap hz0));have n1:=yU hl F (hgo.j z1 (aap hz1));have n2:=yU hl F (hgo.j z2 (aap hz2));have hb:=QU tw n0.1 n0.2 n1.1 n1.2 n2.1 n2.2 oz;have ed:∀y:Et a.ts,ae a.ts.length (sX y)=y:=fun y=>bh _ _
 rw[ed,ed,ed,ed,ed,ed]at hb;have hd:o5 l a g.jo=BY a.ts (eg l a z0).1 (eg l a z0).2 (eg l a z1).1 (eg l a z1).2 (eg l a z2).1 (eg l a z2).2:=by unfold o5;rw[e0,e1,e2]
 rw[<- hd]at hb;refine aj func106 ?_;refine gl ?_;refine aW [3,4,8,17,18] [3,4] (fun(i:Nat)=>[pP 19 (i64 i)]) (fun i=>[pP 8 (.box (xS l a g.jo i))]) (fun i=>i<=g.jo.length) (fun i=>g.jo.length-i) 0 (aa0 _) ?_ (h2:=(.cons rfl (BlkSub.bL (.cons (Sub.nil _ _ _) (.cons (Sub.nil _ _ _) (.cons (Sub.nil _ _ _) (.cons (Sub.nil _ _ _) (.cons (Sub.nil _ _ _) (.cons (Sub.nil _ _ _) .nil)))))) rfl) .nil));rintro i hi K1 J1;refine gC (fun u=>?_) (fun u=>?_) (st2:=(11,0))
 ·have hin:i < g.jo.length:=a9 u;obtain ⟨z,hz⟩:=ay hin;have hzj:=hgo.j z (aap hz);obtain ⟨j,hj⟩:=ay (l:=l.jo) (i:=z.toNat) oz;obtain ⟨i1,i2,i3,i4,_⟩:=cF F.li hj;have hpl:=W8 hl F i1 i3;have ej:aB l a.ts a.bs j.a j.point = eg l a z:=by unfold eg; rw [aq hj]
  rw[ej]at hpl;have hpl2:FP 213 [l.av,a.av,i64 j.a,i64 j.point] (.tup [E5 l a z,.v .nilIface]):=hpl;refine gi (aH hz) ?_;refine gi (gG (n:=z.toNat) oz hj) ?_;refine gc hpl2 ?_;refine gf ?_;refine gs ((vU (.tmp rfl) (.tmp rfl) T309 rfl T117 rfl oz oz rfl)) ?_ (9,4);refine gs ((FO (.tmp rfl) rfl (.tmp rfl) rfl T117 rfl (M2 oz))) ?_;refine ga aS ?_;exact aR J1 (i+1) hin (hw:=Wk.of bb (.cons rfl (BlkSub.of (acd Blk.box (OA oz hz))) (.k (.k .nil))))
 have hin:=bn hi u;have hi3:i=3:=by omega
 subst hi3;refine gW (Wk.of (sl:=[pP 4 (.ptr 4 0),pP 8 (.ptr 8 0)]) (hp:=[pP 4 (.box a.cs),pP 8 (.box [nA (sX (eg l a z0).1),nA (sX (eg l a z0).2),nA (sX (eg l a z1).1),nA (sX (eg l a z1).2),nA (sX (eg l a z2).1),nA (sX (eg l a z2).2)])]) bb (.k (.cons rfl (BlkSub.of (by rw[<- e0,<- e1,<- e2];rfl)) .nil))) ?_;refine gs (vU (.tmp rfl) (.const _) T309 rfl T117 rfl oz oz rfl) ?_;refine gs (vU (.tmp rfl) (.const _) T309 rfl T117 rfl oz oz rfl) ?_;refine gs (vU (.tmp rfl) (.const _) T309 rfl T117 rfl oz oz rfl) ?_;refine gc hb ?_;refine gf ?_;refine gC (fun u=>?_) (fun u=>?_)
 ·have hd1:o5 l a g.jo=true:=u;refine bt ?_;rw[ab6 hd1];rfl
 have hd1:o5 l a g.jo=false:=u;refine bt ?_;rw[ab5 (by rw[hd1];decide)];rfl
def pO(l:Li)(a:Aq)(k:Nat):Int:=if a.ms.getD k 0≠0 then 0 else if((splitG l).getD k default).kind=1 then(if o5 l a ((splitG l).getD k default).jo=true then 1 else 2)else 3
theorem Ro{k n:Nat}(h:k<n)(h1:cond (aa .lss (k:Int) 0) true (aa .geq (k:Int) (n:Int))=true):False:=by
 rcases G6 h1 with h2 |h2 <;> omega
theorem R5{l:Li}{g:Gr}(h:DyK l g)(hk:g.kind=1):g.jo.length=3:=by
 cases h with
 |drv=>exact acc hk (by simp)
 |pr=>exact acc hk (by simp)
 |rp=>exact acc hk (by simp)
 |rrr=>rfl
theorem JN{l:Li}(hl:l.ok){xs:List Tn}{a:Aq}(F:AqFin l xs a)(M:AqSg l a)(hxl:xs.length<=281474976710656){k:Nat}(hk:k<(splitG l).length) :
  FP 31 [l.av,.lst 4 (xs.map Tn.av),a.av,i64 k] (.tup [i64 (pO l a k),.v .nilIface]):=by
 have hgl:=xN F.li;have hml:=M.ml;obtain⟨g,hg⟩:=ay hk;have ega:(splitG l).getD k default=g:=aq hg;have hsn:=E3 hl F.s M.sp hg;rw[M.sg k g oz hg]at hsn;have ekn:pO l a k=if a.ms.getD k 0≠0 then 0 else if g.kind=1 then(if o5 l a g.jo=true then 1 else 2)else 3:=by unfold pO;rw[ega]
 rw[ekn];obtain⟨dy,ok⟩:=mC F.li (aap hg);refine aj func31 ?_;refine gc (IB hl F M.sp hxl) ?_;refine gf ?_;refine cJ ?_;refine gC (fun z=>?_) (fun z=>?_) (st1:=(5,0));exact(Ro hk z).elim;refine gc (Ju hl F.s M.sp hg) ?_;refine gf ?_;refine gc hsn ?_;refine gf ?_;refine gC (fun z=>?_) (fun z=>?_)
 ·have h7:a.ms.getD k 0≠0:=nW z;refine bt ?_;rw[ab6 h7];rfl
 have h7:a.ms.getD k 0=0:=s8 z;rw[ab5 oz];refine gi (aH hg) ?_;refine gC (fun z=>?_) (fun z=>?_)
 ·have h8:g.kind=1:=cM z;refine gi (aH hg) ?_;refine gc (Nt hl F.s ok (R5 dy h8)) ?_;refine gD ?_;refine bt ?_;rw[ab6 h8]
 have h8:g.kind≠1:=dk z;refine bt ?_;rw[ab5 h8];rfl
section
variable{l:Li}(hl:l.ok){a:Aq}(F:AqS l a)(DD:AqD l a)(hs:splitE l=0)
include hl F DD hs
end
section
variable{ts:LL}{r:Nat}(tw:Tw ts r)
include tw
end
section
variable{ts:LL}{r e f:Nat}(tw:Tw ts r){v:AV}(ev:aT ts=v){a b:List Rat}{x y:Et ts}(ea:ae ts.length a=x)(eb:ae ts.length b=y)(ha:Nm ts.length e a)(hb:Nm ts.length f b)(he:e+f<=lm ts.length)
include tw ev ea eb ha hb he
theorem Wc:FP 250 [v,nA a,nA b] (.tup [nA (sX (x+y)),.v .nilIface]):=by
 have h:=xI tw ha hb he;rw[ea,eb,ev]at h;exact h
theorem xb:FP 209 [v,nA a,nA b] (.tup [nA (sX (x-y)),.v .nilIface]):=by
 have h:=oh tw ha hb he;rw[ea,eb,ev]at h;exact h
theorem oS:FP 210 [v,nA a,nA b] (.tup [nA (sX (x*y)),.v .nilIface]):=by
 have h:=xf tw ha hb he;rw[ea,eb,ev]at h;exact h
end
abbrev Ut{ts:LL}(p q o:Et ts×Et ts)(z:Rat):Et ts:=dotE (q.1-p.1) (q.2-p.2) (q.1-p.1) (q.2-p.2)*qE z-crsE (q.1-p.1) (q.2-p.2) (o.1-p.1) (o.2-p.2)*crsE (q.1-p.1) (q.2-p.2) (o.1-p.1) (o.2-p.2)
theorem r6{f:FuncId}{ts:LL}{v:AV}(ev:aT ts=v){args:List AV}{res:AV}(h:FP f (aT ts::args) res):FP f (v::args) res:=ev▸h
theorem fN{ts:LL}(x:Et ts):ae ts.length (sX x)=x:=bh _ _
theorem ns{ts:LL}(q:Rat):ae ts.length (sh 0 (q:Rat))=(qE q:Et ts):=fL _ _
section
variable{l:Li}{a:As}{r:Nat}(D:DyW l a)(tw:Tw (llq a.rs) r)(hK:kB r (llq a.rs).length<=180000006)(h3:(llq a.rs).length<=2)
include D tw hK
theorem xp{i:Nat}{j:Jt}(hj:l.jo[i]?=some j){b:Int}(h:PinP 3900000 l a j b):Nm (llq a.rs).length 371702022 (sX (aw l a j b).1)/\Nm (llq a.rs).length 371702022 (sX (aw l a j b).2):=by
 have h:=X2 D tw hK hj h;exact⟨h.1.mono oz,h.2.mono oz⟩
theorem BC{body pt:Int}(h1:bA body l.bo.length=true)(h2:bA pt (cO l body).length=true)(hb:Pd 3900000 a body):Nm (llq a.rs).length 371702022 (sX (aZ l a body pt).1)/\Nm (llq a.rs).length 371702022 (sX (aZ l a body pt).2):=by
 have h:=Ac D tw hK h1 h2 hb;exact⟨h.1.mono oz,h.2.mono oz⟩
include h3
theorem J9{g:Gr}{i k2 z0 z1 z2:Int}{j0 j1 j2:Jt}(P:RrrP 3900000 l a g i k2 z0 z1 z2 j0 j1 j2):CP l a i k2 j0 j1 j2/\Bz 12000000000 (bj ((aw l a j0 i).1,(aw l a j0 i).2) (qE (ba (ai l j2 i) (ai l j0 i))) ((aw l a j1 k2).1,(aw l a j1 k2).2) (qE (ba (ai l j2 k2) (ai l j1 k2)))):=by
 have hlm:=iy h3;have etw:=jD D.al.tr D.hc;have hq0:=d7 D.hl D.li P.h0 (by rcases P.p0.tie with h9 |h9;exact .inl h9.1;exact .inr h9.2.1);have hq1:=d7 D.hl D.li P.h1 (by rcases P.p1.tie with h9 |h9;exact .inl h9.1;exact .inr h9.2.1);have hq2:=d7 D.hl D.li P.h2 P.t1;have hq3:=d7 D.hl D.li P.h2 P.t2;obtain⟨y1,y2⟩:=xp D tw hK P.h0 P.p0;obtain⟨y3,y4⟩:=xp D tw hK P.h1 P.p1;have z1:Nm (llq a.rs).length 10000 (sh 0 (ba (ai l j2 i) (ai l j0 i):Rat)):=(Nm.ofQ tw.five (Cb.one (vV hq2 hq0))).mono oz;have z2:Nm (llq a.rs).length 10000 (sh 0 (ba (ai l j2 k2) (ai l j1 k2):Rat)):=(Nm.ofQ tw.five (Cb.one (vV hq3 hq1))).mono oz
 have hz:∀q∈[(sX (aw l a j0 i).1,sX (aw l a j0 i).2,sh 0 (ba (ai l j2 i) (ai l j0 i):Rat)),(sX (aw l a j1 k2).1,sX (aw l a j1 k2).2,sh 0 (ba (ai l j2 k2) (ai l j1 k2):Rat))],CiZ a.rs q:=fun q hq=>by
  simp only[abd,abb,or_false]at hq;rcases hq with rfl |rfl
  ·exact⟨y1.mono oz,y2.mono oz,z1.mono oz,by show 0<=ao (dE (llq a.rs) (sh 0 (ba (ai l j2 i) (ai l j0 i):Rat)));rw[show dE (llq a.rs) (sh 0 (ba (ai l j2 i) (ai l j0 i):Rat))=qE _ from fL _ _];exact tO _ _⟩
  ·exact⟨y3.mono oz,y4.mono oz,z2.mono oz,by show 0<=ao (dE (llq a.rs) (sh 0 (ba (ai l j2 k2) (ai l j1 k2):Rat)));rw[show dE (llq a.rs) (sh 0 (ba (ai l j2 k2) (ai l j1 k2):Rat))=qE _ from fL _ _];exact tO _ _⟩
 have hck:=IS D.al.tr D.hc _ hz (by show 2<=100;omega);unfold CP bj;generalize aw l a j0 i=p at *;generalize aw l a j1 k2=q at *;have hd:=HR D.hc D.al.tr tw y1 y2 y3 y4 (fN p.1) (fN p.2) (fN q.1) (fN q.2) oz
 have nd:Nm (llq a.rs).length 3400000000 (sX (aA (p.1,p.2) (q.1,q.2))):=by
  rw[<- IY];exact(sr tw (cS y3 y1) (cS y4 y2) (cS y3 y1) (cS y4 y2)).mono oz
 generalize hdd:aA (p.1,p.2) (q.1,q.2)=d at *;generalize ba (ai l j2 i) (ai l j0 i)=u at *;generalize ba (ai l j2 k2) (ai l j1 k2)=w at *;have zu:Bz 10000 (qE u:Et (llq a.rs)):=by unfold Bz;rw[lL];exact z1
 have zw:Bz 10000 (qE w:Et (llq a.rs)):=by unfold Bz;rw[lL];exact z2
 have q4:Cb 3 [((4:Int):Rat)]:=Cb.int (z:=4) (by decide);have nd2:Bz 3400000000 d:=nd;have n1:=zu.add nd2;have n2:=n1.sub zw;have n3:=zu.mul tw hK nd2;have n4:=n3.qm q4;have n5:=n2.mul tw hK n2;have m1:=ES (Wc tw etw (ns u) (fN d) z1 nd oz);have m2:=CS (xb tw etw (fN (qE u+d)) (ns w) n1 z2 oz);have m3:=wc (oS tw etw (ns u) (fN d) z1 nd oz);have m4:=J7 4 oz (wc (oS tw etw (ns ((4:Int):Rat)) (fN (qE u*d)) (Nm.ofQ tw.five q4) n3 oz));have m5:=wc (oS tw etw (fN (qE u+d-qE w)) (fN (qE u+d-qE w)) n2 n2 oz);have m6:=CS (xb tw etw (fN (qE ((4:Int):Rat)*(qE u*d))) (fN ((qE u+d-qE w)*(qE u+d-qE w))) n4 n5 oz);have h:=Tf hck (Gc hd m1 m2 m3 m4 m5 m6);exact⟨h,(n4.sub n5).mono (f:=12000000000) oz⟩
theorem Is{g:Gr}{i z0 z1:Int}{j0 j:Jt}(P:SlP 3900000 l a g 2 i z0 z1 j0 j)(ha:j.a=i)(hb:Pd 3900000 a j.b):PrF a (aZ l a j.b j.on) (aZ l a j.b j.to) (aw l a j0 i) (ba (aM l i j.point) (ai l j0 i))/\Bz 12000000000 (Ut (aZ l a j.b j.on) (aZ l a j.b j.to) (aw l a j0 i) (ba (aM l i j.point) (ai l j0 i))):=by
 have hlm:=iy h3;have etw:=jD D.al.tr D.hc;obtain⟨i1,i2,i3,i4,i5⟩:=cF D.li P.h1;have hq:Sm 1000 (aM l i j.point):=by rw[<- ha];exact iu D.hl D.li i1 i3
 have hq0:=d7 D.hl D.li P.h0 (by rcases P.p0.tie with h9 |h9;exact .inl h9.1;exact .inr h9.2.1);obtain⟨y1,y2⟩:=xp D tw hK P.h0 P.p0;obtain⟨y3,y4⟩:=BC D tw hK i2 (i5 P.hk) hb;obtain⟨y7,y8⟩:=BC D tw hK i2 i4 hb;have z1:Nm (llq a.rs).length 10000 (sh 0 (ba (aM l i j.point) (ai l j0 i):Rat)):=(Nm.ofQ tw.five (Cb.one (vV hq hq0))).mono oz;generalize ba (aM l i j.point) (ai l j0 i)=u at *;generalize aw l a j0 i=o at *;generalize aZ l a j.b j.on=p at *;generalize aZ l a j.b j.to=q at *;have v1:=cS y3 y7;have v2:=cS y4 y8;have w1:=cS y1 y7;have w2:=cS y2 y8;have dn:=sr tw v1 v2 v1 v2;have cn:=Dk tw v1 v2 w1 w2;have zu:Bz 10000 (qE u:Et (llq a.rs)):=by unfold Bz;rw[lL];exact z1
 have n1:=Bz.mul tw hK (x:=dotE (q.1-p.1) (q.2-p.2) (q.1-p.1) (q.2-p.2)) dn zu;have n2:=Bz.mul tw hK (x:=crsE (q.1-p.1) (q.2-p.2) (o.1-p.1) (o.2-p.2)) (y:=crsE (q.1-p.1) (q.2-p.2) (o.1-p.1) (o.2-p.2)) cn cn;have s3:=GU tw (x:=q.1-p.1) (y:=q.2-p.2) (x2:=o.1-p.1) (y2:=o.2-p.2) v1 v2 w1 w2 oz;have s4:=tk tw (x:=q.1-p.1) (y:=q.2-p.2) (x2:=q.1-p.1) (y2:=q.2-p.2) v1 v2 v1 v2 oz;refine⟨?_,(n1.sub n2).mono (f:=12000000000) oz⟩
 exact⟨r6 etw (mc tw y3 y4 y7 y8 oz),r6 etw (mc tw y1 y2 y7 y8 oz),r6 etw s3,r6 etw s4,
  ve (oS tw etw (fN _) (ns u) dn z1 oz),ve (oS tw etw (fN _) (fN _) cn cn oz),yL (xb tw etw (fN _) (fN _) n1 n2 oz)⟩
theorem IK{g:Gr}{i z0 z1:Int}{j0 j:Jt}(P:SlP 3900000 l a g 3 i z0 z1 j0 j)(hj:j.b=i)(hb:Pd 3900000 a j.a):RqF l a i j0 j/\Bz 12000000000 (qE (ft l i j)*bY l a i j0 j-qE (bP l i j0 j)*qE (bP l i j0 j)):=by
 have hlm:=iy h3;have etw:=jD D.al.tr D.hc;obtain⟨i1,i2,i3,i4,i5⟩:=cF D.li P.h1;have hs0:Sm 1000 (ai l j0 i):=d7 D.hl D.li P.h0 (by rcases P.p0.tie with h9 |h9;exact .inl h9.1;exact .inr h9.2.1);have hs1:Sm 1000 (aM l i j.on):=by rw[<- hj];exact iu D.hl D.li i2 i4
 have hs2:Sm 1000 (aM l i j.to):=by rw[<- hj];exact iu D.hl D.li i2 (i5 P.hk)
 have hv:Sm _ (cw l i j):=hs2.sub hs1;have cN:Cb 930000 [ft l i j]:=(oR (w:=3) (hv.dot hv) oz).cb;have cH:Cb 930000 [bP l i j0 j]:=(oR (w:=3) (hv.cross (hs1.sub hs0)) oz).cb;obtain⟨y1,y2⟩:=xp D tw hK P.h0 P.p0;obtain⟨y3,y4⟩:=BC D tw hK i1 i3 hb;have s1:=mc tw y3 y4 y1 y2 oz;have w1:=cS y3 y1;have w2:=cS y4 y2;have s2:=tk tw w1 w2 w1 w2 oz;have dn:=sr tw w1 w2 w1 w2;have zN:=Nm.ofQ tw.five cN;have zH:=Nm.ofQ tw.five cH;have bN:Bz 930000 (qE (ft l i j):Et (llq a.rs)):=by unfold Bz;rw[lL];exact zN
 have bH:Bz 930000 (qE (bP l i j0 j):Et (llq a.rs)):=by unfold Bz;rw[lL];exact zH
 have dn2:Bz _ (bY l a i j0 j):=dn;have n1:=bN.mul tw hK dn2;have n2:=bH.mul tw hK bH;refine⟨?_,(n1.sub n2).mono (f:=12000000000) oz⟩;exact⟨r6 etw s1,r6 etw s2,Dy (ve (oS tw etw (ns _) (fN _) zN dn2 oz)) (ve (oS tw etw (ns _) (ns _) zH zH oz)) (yL (xb tw etw (fN _) (fN _) n1 n2 oz))⟩
theorem Q9{k:Int}{n:Nat}{g:Gr}(ok:g.kind≠0->DyOk 3900000 l k a false n g):Nm (llq a.rs).length 12000000000 (oG l a g):=by
 unfold oG
 by_cases h0:g.kind=0
 ·rw[ab6 h0];exact(Nm.ofQ tw.five (Cb.int (z:=1) (e:=1) (by decide))).mono oz
 ·rw[ab5 h0];have ok:=ok h0
  by_cases h1:g.kind=1
  ·obtain⟨i,k2,z0,z1,z2,j0,j1,j2,P⟩:=ok.rrr h1;rw[I8 P,mJ,mJ];exact(J9 D tw hK h3 P).2
  ·by_cases h2:g.kind=2
   ·obtain⟨i,z0,z1,j0,j,P,ha,hb⟩:=ok.pr h2;rw[Fa P,mJ];exact(Is D tw hK h3 P ha hb).2
   ·obtain ⟨i, z0, z1, j0, j, P, _, hj, hb⟩:=ok.rp h0 h1 h2;obtain ⟨e0,e1,b0,_⟩:=P.at;have hE:jr l a g = qE (ft l i j) * bY l a i j0 j - qE (bP l i j0 j) * qE (bP l i j0 j):=by unfold jr; rw [ab5 h0,ab5 h1,ab5 h2,e0,e1,b0]
    rw[hE];exact(IK D tw hK h3 P hj hb).2
end
def pE(l:Li)(a:Aq)(g:Gr):List Rat:=if g.kind=0 then sh 0 ((1:Int):Rat)else sX (fi l a.ts a.bs g)
theorem Ha(l:Li)(a:Aq)(g:Gr):oG l a.as g=pE l a g:=by
 unfold oG pE;split
 ·rfl
 ·rw[xG]
  have:∀(T:LL)(bs:List Pq),T=a.ts->bs=a.bs->(sX (fi l T bs g):List Rat)=sX (fi l a.ts a.bs g):=by
   rintro _ _ rfl rfl;rfl
  exact this _ _ a.llq (lr a)
theorem WN{l:Li}{a:Aq}{g:Gr}:T.sgn (au a.ts) a.ts.length (ae a.ts.length (pE l a g))=ao (fi l a.ts a.bs g):=by
 unfold pE;split
 ·rename_i h;rw [fL];have e:fi l a.ts a.bs g = qE 1:=by unfold fi; rw [ab6 h]
  rw[e];rfl
 ·have e:ae a.ts.length (sX (fi l a.ts a.bs g))=fi l a.ts a.bs g:=bh _ _;rw[e];rfl
section
variable{l:Li}(hl:l.ok){a:Aq}(F:AqS l a)(DD:AqD l a)(hs:splitE l=0){k:Nat}{g:Gr}(hg:(splitG l)[k]?=some g)
include hl F DD hs hg
theorem VT:FP 30 [l.av,i64 k,a.av] (.tup [nA (pE l a g),.v .nilIface]):=by
 obtain⟨D,ok,h3,h0⟩:=sT hl F.e hs hg false;obtain⟨r,hr,tw⟩:=DD.tw;have tw2:Tw (llq a.as.rs) r:=by rw[a.llq];exact tw
 have hK:kB r (llq a.as.rs).length<=180000006:=by rw[a.llq];exact Eg hr F.two
 have hop:=A9 l hl k a.as D.al false;have hgA:iA l (k:Nat)=g:=aq hg;rw[h0,hgA]at hop;have h:=MH hop D h3 ok.ok (fun h9=>Kf hl F DD hs hg h9) (fun P=>(J9 D tw2 hK h3 P).1) (fun P ha hb=>(Is D tw2 hK h3 P ha hb).1) (fun P hj hb=>(IK D tw2 hK h3 P hj hb).1);rw[Aq.as_av,Ha]at h;exact h
theorem GV:Nm a.ts.length 12000000000 (pE l a g):=by
 obtain⟨D,ok,h3,h0⟩:=sT hl F.e hs hg false;obtain⟨r,hr,tw⟩:=DD.tw;have tw2:Tw (llq a.as.rs) r:=by rw[a.llq];exact tw
 have hK:kB r (llq a.as.rs).length<=180000006:=by rw[a.llq];exact Eg hr F.two
 have h:=Q9 D tw2 hK h3 (fun h9=>Kf hl F DD hs hg h9);rw[Ha,a.llq]at h;exact h
theorem Pc:FP 33 [aT a.ts,nA (pE l a g)] (i64 (ao (fi l a.ts a.bs g))):=by
 obtain⟨r,hr,tw⟩:=DD.tw;have hlm:=iy F.two;have h:=RP tw (GV hl F DD hs hg) oz;rw[WN]at h;exact h
end
open Lean.Grind (CommRing)
section
variable{R:Type}[CommRing R]
end
section
variable{T:LL}(hp:eU T)
include hp
theorem TE(k:Int)(D:Et T):ao (BW k D)=ao D*ao D:=by
 have H:=eF (au T) T.length hp;unfold BW;split
 ·have e:ao ((D+D)*(D+D))=ao (D+D)*ao (D+D):=H.mul _ _;rw[e,I1 hp]
 ·exact H.mul _ _
variable{hp} in
end
section
variable{l:Li}{T:LL}(hp:eU T){bs ds:List Pq}
include hp
end
end Go.Lw
namespace Go.Lw
open Go.Proofs
theorem Iv(ms:List Int)(k:Nat):∀n,k<=n->∃t,dh ms n=dh ms k++t/\∀z∈t,(k:Int)<=z
 |0,h=>by
  have:k=0:=by omega
  subst this;exact⟨[],by simp,fun z hz=>by cases hz⟩
 |n+1,h=>by
  rcases aay n k with h9 |h9
  ·have : k = n + 1 := by omega
   subst this;exact⟨[],by simp,fun z hz=>by cases hz⟩
  ·obtain⟨t,e,ht⟩:=Iv ms k n h9
   by_cases hz:ms.getD n 0=0
   ·refine ⟨t ++ [(n : Int)], by rw [uC hz, e, abu], fun z h8 => ?_⟩;rcases aa2.1 h8 with h8 | h8
    ·exact ht z h8
    ·rw[Za.1 h8];omega
   ·exact⟨t,by rw[sY hz,e],ht⟩
theorem LD{ms:List Int}{k n:Nat}(hk:k<n):∃z:Int,((dh ms k).length<(dh ms n).length->(dh ms n)[(dh ms k).length]?=some z) /\
  cond (aa .lss ((dh ms k).length:Int) ((dh ms n).length:Int)) (aa .eql z (k:Int)) false=decide (ms.getD k 0=0):=by
 obtain⟨t,e,ht⟩:=Iv ms (k+1) n oz
 by_cases hz:ms.getD k 0=0
 ·rw[uC hz,abu]at e;refine⟨k,fun _=>?_,?_⟩
  ·rw[e,aa6 (aau _),Nat.sub_self];rfl
  ·have h1 : aa .lss ((dh ms k).length : Int) ((dh ms n).length : Int)=true := aca (by rw[e,abi];simp;omega);have h2:aa .eql (k:Int) (k:Int)=true:=aca rfl;rw[h1,h2,aca hz];rfl
 ·rw[sY hz]at e;rw[acb hz];cases t with
  |nil =>
   refine⟨0,fun h=>?_,?_⟩
   ·rw[e,ab3]at h;omega
   ·have h1 : aa .lss ((dh ms k).length : Int) ((dh ms n).length : Int)=false := acb (by rw[e,ab3];omega);rw[h1];rfl
  |cons y ys =>
   refine⟨y,fun _=>?_,?_⟩
   ·rw[e,aa6 (aau _),Nat.sub_self];rfl
   ·have h2 : aa .eql y (k : Int)=false := acb (by have := ht y (by simp);omega);rw[h2];cases aa .lss ((dh ms k).length:Int) ((dh ms n).length:Int) <;> rfl
theorem Xx{l:Li}{xs:List Tn}{a:Aq}(F:AqFin l xs a)(M:AqSg l a){k:Nat}{g:Gr}(hg:(splitG l)[k]?=some g):ao (fi l a.ts a.bs g)=a.ms.getD k 0*a.ms.getD k 0:=by
 obtain⟨r,hr,tw⟩:=F.tw;have hk:=(Y1.1 hg).1;obtain⟨dy,ok⟩:=mC F.li (aap hg)
 have h:=XX (l:=l) (T:=a.ts) (bs:=a.bs) tw.pos dy (fun z hz=>by
  obtain⟨z0,z1⟩:=ok.j z hz;obtain⟨j,hj⟩:=ay (l:=l.jo) (i:=z.toNat) oz;rw[aq hj];exact F.js j (aap hj)) (fun b hb=>by
  have:=ok.b b hb;exact F.cs b.toNat oz)
 have h2:=um tw.pos h;rw[<- h2,TE tw.pos,M.sg k g (by rw[M.ml];exact hk) hg]
theorem Vl{l:Li}{a:Aq}{k:Nat}(h:a.ms.getD k 0≠0):pO l a k=0:=ab6 h
theorem Qk{l:Li}{a:Aq}{k:Nat}(h:a.ms.getD k 0=0):pO l a k≠0:=by
 unfold pO;rw[ab5 (fun h9=>h9 h)];split
 ·split <;> decide
 ·decide
theorem Nm.ng{n e:Nat}{a:List Rat}(ha:Nm n e a):Nm n e (a.map fun q=>-q):=⟨ha.five,pR ha.nl,ha.cb.minus⟩
theorem TC{l:Li}{a:Aq}(F:AqS l a):FP 16 [l.av,a.av] (bl true):=by
 have hln:=F.ln;obtain⟨r,hr,tw⟩:=F.tw;have hlm:=iy F.two;have hbl:=(dg F.li).2.2.2.1;refine aj func16 ?_;refine gc (Sq tw) ?_;refine cJ ?_;refine cJ ?_;refine gC (fun z=>?_) (fun z=>?_) (st1:=(2,0));exact acc (acd (Nat.cast (R:=Int)) hln) (by simpa[aa]using z);refine gl ?_;refine aW [2,3,4,21,22] [2,3] (fun(i:Nat)=>[pP 23 (i64 i)]) (fun _=>[]) (fun i=>i<=a.bs.length) (fun i=>a.bs.length-i) 0 (aa0 _) ?_;rintro i hi K1 J1;refine gC (fun z=>?_) (fun z=>?_)
 ·have hin:=a9 z;obtain⟨b,hb⟩:=ay hin;have hbm:=aap hb;refine gi (aH hb) ?_;refine gc (Uc tw (F.bs b hbm) oz) ?_;refine gf ?_;refine ga aS ?_;exact aR J1 (i+1) hin
 refine ah ?_
 first |rfl |(simp;done)
theorem WP:aF∈(f8 gN false fb [d6] (splitG fb) (splitG fb).length (eW fb)).1:=by
 have h:(f8 gN false fb [d6] (splitG fb) (splitG fb).length (eW fb))=([aF],0):=R9;rw[h];exact Za.2 rfl
theorem Fc:AqFin fb [d6] aF:=by
 obtain⟨h1,h2⟩:=yO xm (F:=gN) (sg:=false) _ _ Ko (JM fb _ (by decide)) _ WP;exact HQ xm h1 h2
theorem NO:(List.range 2).all (fun m=>decide (ao (cR fb aF.ts aF.bs ((splitG fb).getD m default))=aF.ms.getD m 0))=true:=by decide +kernel
theorem II:AqSg fb aF:=by
 refine⟨⟨xm.sp,by decide +kernel⟩,fun m g hm hg=>?_⟩;have h:=aa3.1 NO m (Y3.2 hm);rw[aq hg]at h;exact ab8 h
def Gu:List Aq×Nat:=lP (Hq [1,0]) true fb [d6]
theorem Ii:Gu=([aF],0):=by decide +kernel
theorem fb_one:FP 69 [fb.av,.lst 4 [d6.av],.lst 1 [i64 1,i64 0]] (.tup [aF.av,bF 0]):=by
 have hop:=DL fb wD [d6] (fun x hx=>by rw[Za.1 hx];exact CK) (by show 1<=100;omega);have hp:([]:List Aq).length+2^(splitG fb).length<=1000:=by decide +kernel
 have hs2:(splitG fb).length=2:=by decide +kernel
 have hw:=fun(hm:([1,0]:List Int).length=(splitG fb).length)=>CB xm (Hq [1,0]) true (fo:=162) (caps:=[.iptr [.lst 1 (([1,0]:List Int).map i64)]]) (fun k m hk=>X7 (modes:=[1,0]) (by show k<2;omega) (by decide) m) (splitG fb).length (eW fb) Ko [] hp
 have hA:=Ow (modes:=[1,0]) (by decide) O0 hop (by show 0<4;omega) (by show 4<=100;omega) oz (R:=Gu) hw (by rw[Ii];decide);rw[Ii,hs2]at hA;exact hA
theorem IT:FP 28 [] (bl true):=by
 have hA:=FC wD Fc II (by decide);rw[show dh aF.ms (splitG fb).length=[1] by decide +kernel]at hA;have hK:=JN wD Fc II (by decide) (show 1<(splitG fb).length by decide +kernel);rw[show pO fb aF 1=2 by decide +kernel]at hK;refine aj func28 ?_;refine gc Tj ?_;refine gc (Con.sA (.cons (.refl _) (.cons zj (.cons (.refl _) .nil))) fb_one) ?_;refine gc (Con.sA (.cons (.refl _) (.cons zj (.cons (.refl _) .nil))) hA) ?_;refine gc (Con.sA (.cons (.refl _) (.cons zj (.cons (.refl _) (.cons (.refl _) .nil)))) hK) ?_;refine b8 (fun _=>(MX [1] (by decide))) ?_;refine ah ?_;rfl
theorem OX{ts:LL}{r e:Nat}(tw:Tw ts r){x:List Rat}(hx:Nm ts.length e x)(he:e<=lm ts.length):FP 32 [aT ts,.lst 1 [nA x]] (i64 (0:Nat)):=by
 have h:=Aj (ts.map (List.map rt)) r e tw.tr [x.map rt] (fun y hy=>by rw[Za.1 hy];exact hx.rt he) (by rw[aar];exact he) (by show 1<=_;omega);have e0:bB (ts.map (List.map rt)) [x.map rt]=0:=tA tw hx
 have e1:[x.map rt].map nR=[nA x]:=by
  simp only[ab2,map_nil,eI]
 rw[e0,ip,e1]at h;exact h
theorem RJ{m c kd:Int}(hc:c=m*m)(h0:m=0->kd≠0)(h1:m≠0->kd=0) :
  cond (cond (cond (cond (cond (!d5 Value.nilIface) true (!d5 Value.nilIface)) true (aa .neq ((0:Nat):Int) 0)) true (decide (m=0) != aa .eql m 0)) true (decide (m=0) != aa .eql c 0)) true (decide (m=0) != aa .neq kd 0)=false:=by
 by_cases h:m=0
 ·have h2:=h0 h;subst hc;subst h;simp[aa,d5,h2]
 ·have h2:=h1 h
  have h3:c≠0:=by
   rw[hc];exact fun h9=>(Int.mul_eq_zero.1 h9).elim h h
  subst h2;simp[aa,d5,h,h3]
theorem XP(l:Li)(hw:l.okw)(xs:List Tn)(hxw:∀x∈xs,x.t.wok)(hxl:xs.length<=281474976710656):FP 5 [l.av,.lst 4 (xs.map Tn.av)] (bl true):=by
 refine aj func5 ?_;refine gc IT ?_;refine b8 (fun _=>(Pb l hw xs hxl)) ?_;refine b8 (fun h=>(Dt l (xT (zC (Nx h) hxw).1 hw))) ?_;refine gC (fun y=>?_) (fun y=>?_)
 ·refine gc IT ?_;refine ah ?_
  first |rfl |(simp;done)
 obtain⟨h1,hli⟩:=Pr y;obtain⟨g1,hx20,hxo⟩:=zC h1 hxw;have hl:=xT g1 hw;obtain⟨A,e,P⟩:=Q1 hl h1 hxw;have FF:=ON hl h1 hxw P.eq;have MM:=Ps hl h1 hxw P.eq;have DDD:=Mx hl h1 hxw P.eq;have hAl:=P.ln;refine gc P.all ?_;refine gC (fun y=>?_) (fun y=>?_)
 ·have he:e≠0:=dH y;have hA:=NZ P.eq he;subst hA;refine gl ?_;refine ah ?_;rfl
 refine gl ?_;refine aW [1,2,44,45] [2] (fun(i:Nat)=>[pP 46 (i64 i)]) (fun _=>[]) (fun i=>i<=A.length) (fun i=>A.length-i) 0 (aa0 _) ?_;rintro i hi K1 J1;refine gC (fun y=>?_) (fun y=>?_)
 ·have hin:=a9 y;obtain⟨a,ha⟩:=ay hin;have ham:=aap ha;have F:=FF a ham;have M:=S5 (MM a ham);have DD:=DDD a ham;have hml:=M.ml;have hlm:=F.lm;obtain⟨r,hr,tw⟩:=F.tw;have hlm2:=iy F.two;refine gi (aH ha) ?_;refine gc (FC hl F M hxl) ?_;refine b8 (fun _=>(TC F.s)) ?_;refine gf ?_;refine gl ?_;refine aW [1,2,44,45,46,8,9,66,67] [2,8] (fun(k:Nat)=>[pP 11 (i64 (dh a.ms k).length),pP 68 (i64 k)]) (fun _=>[]) (fun k=>k<=a.ms.length) (fun k=>a.ms.length-k) 0 (aa0 _) ?_;rintro k hk K2 J2;refine gC (fun y=>?_) (fun y=>?_)
  ·have hkn:=a9 y;obtain ⟨m,hm⟩:=ay hkn;have hkg:k < (splitG l).length:=by omega
   obtain⟨g,hg⟩:=ay hkg;obtain⟨z,hz,hzb⟩:=LD (ms:=a.ms) hkg;have hmk:a.ms.getD k 0=m:=aq hm;have hzl:=DQ a.ms k;have hrm:=Xx F M hg;have nrd:=GV hl F.s DD M.sp hg;refine gi (aH hm) ?_;refine gl ?_;refine nk (fun h=>(aH (hz (a9 h)))) ?_;refine sP [1,2,44,45,46,8,9,12,13,66,67,68] [2,8] [pP 11 (i64 (dh a.ms (k+1)).length),pP 14 (bl (decide (a.ms.getD k 0=0)))] [] (True) ?_ ?_
   ·intro K3 J3;refine gC (fun t85=>?_) (fun t85=>?_)
    ·have hz0:a.ms.getD k 0=0:=by
      rw[hzb]at t85;exact ab8 t85
     refine ga aS ?_;exact kC J3 trivial (hw:=Wk.of (.cons rfl (Sub.of (by rw[uC hz0,abi];rfl)) (.cons rfl (Sub.of (acd bl hzb)) (.k (.k (.k (.k (.k (.k (.k (.k (.k (.k (.k (.k .nil)))))))))))))) (.k (.k .nil)))
    have hz0:a.ms.getD k 0≠0:=by
     rw[hzb]at t85;exact ab9 t85
    exact kC J3 trivial (hw:=Wk.of (.cons rfl (Sub.of (by rw[sY hz0])) (.cons rfl (Sub.of (acd bl hzb)) (.k (.k (.k (.k (.k (.k (.k (.k (.k (.k (.k (.k .nil)))))))))))))) (.k (.k .nil)))
   rintro -;refine gc (VT hl F.s DD M.sp hg) ?_;refine gc (JN hl F M hxl hkg) ?_;refine b8 (fun _=>(OX tw nrd oz)) ?_;refine b8 (fun _=>(Pc hl F.s DD M.sp hg)) ?_;refine gC (fun y=>?_) (fun y=>?_) (st1:=(22,0))
   ·rw[hmk,RJ (by rw[hrm,hmk]) (fun h9=>Qk (hmk.trans h9)) (fun h9=>Vl (fun h8=>h9 (hmk.symm.trans h8)))]at y;cases y
   refine ga aS ?_;exact aR J2 (k+1) hkn
  have hkn:=bn hk y;subst hkn;rw[hml];refine gl ?_;refine gC (fun y=>?_) (fun y=>?_) (st1:=(25,0));exact acc y (by simp[aa]);refine ga aS ?_;exact aR J1 (i+1) hin
 refine ah ?_;rfl
open Go.Proofs Go.Proofs.YtokaoegjfpjjnaaGreat
open Go.ChangeShapes Go.WideShapes Go.ChangeAt Go.RowKit
set_option maxRecDepth 100000 in
theorem U3(os:Os)(started:os.Started)(H:Type)(enc:ach×acg->H) :
  ReturnsInHanded {} Tryz.checked os 5 .any (Rows.singularModesSpec.pre6 enc prog Tryz.f5 Rows.singularModesRow.domain false) (Rows.singularModesSpec.post enc prog Tryz.f5 false true false false):=by
 refine returnsInHanded_of_change_sized (C := Tryz.checked) own started (by kernel_rfl) func5
  (ChangeSpec.witness6 (enc:=enc) (C:=Tryz.checked) false ⟨#[],#[.agg #[.string ⟨#[]⟩,.slice none 0 0,.slice none 0 0,.slice none 0 0],.slice none 0 0],[]⟩ 8 (by kernel_rfl) (by kernel_rfl) (by kernel_rfl) (by kernel_rfl)) ?_
 intro W base args ds gs before hval0 hW hcnd hwt0 _;have hval:∀(j:Nat) t v,Tryz.f5.params[j]?=some t->args[j]?=some v->Value.okWide prog W .any base t v:=hval0;have hwt:(DataW.weightsEach prog (Tryz.f5.params.toList++Rows.singularModesSpec.plain.varTypes prog) (ds++gs)).all (· <= reachBytes)=true:=hwt0;have hW':=hW;obtain⟨p,q,hA0,hV,rfl,hfz,hnd⟩:=hW;have hA:DataW.TrodAll enc prog W 0 (fun _=>true) true Tryz.f5.params.toList args.toList ds p:=hA0;rw[Tryz.params5]at hA hval hwt;obtain⟨v0,v1,d0,d1,p0,p1,rfl,rfl,rfl,h0,h1⟩:=trodAll_two hA;obtain⟨rfl,rfl⟩:=trodVars_none hV;clear hA0 hval0 hwt0;have hlt:∀x∈p0++p1,x.block<W.heap.size:=fun x hx=>hW'.lt x (by simpa using hx)
 have hw0:∀n∈d0.weights prog 26,n<=reachBytes:=fun n hn=>by
  have:=aa3.1 hwt n (DataW.weights_mem_each (j:=0) rfl rfl n hn);simpa using this
 have hw1:∀n∈d1.weights prog 38,n<=reachBytes:=fun n hn=>by
  have:=aa3.1 hwt n (DataW.weights_mem_each (j:=1) rfl rfl n hn);simpa using this
 obtain⟨x0,q0,r0⟩:=KW Tryz.underlying26 P8 (hval 0 26 v0 rfl rfl) h0 hw0;obtain⟨x1,q1,r1⟩:=XQ TV (fun _=>rfl) (SC Tryz.underlying38 (hval 1 38 v1 rfl rfl)) h1 hw1
 have hc:=jc.calls (W:=W) (vs:=#[v0,v1]) (XP x0 q0 x1 q1.1 q1.2) rfl (fun j v x hv hx=>by
  match j,hv,hx with
  |0,hv,hx=>cases hv;cases hx;exact r0
  |1,hv,hx=>cases hv;cases hx;exact r1)
 refine hc.mono fun e W' ⟨he,hb⟩=>?_
 subst he;refine⟨_,rfl,NB hW' rfl rfl (fun _ _ _=>trodAll_mk1 (shut_bool Tryz.underlying4 _)) (fun sp hsp=>?_) rfl hb (ok_one (by kernel_rfl) rfl (okWide_bool_mk Tryz.underlying4 _))⟩;rw[Tryz.params5];have hs:∀x∈p0++p1,sp x.block=true:=fun x hx=>hsp x (by simpa using hx)
 have g0:=HH (sp':=sp) (by kernel_rfl) (ab8 (by kernel_rfl)) h0 hb (fun x hx=>hlt x (by simp[hx])) (fun x hx=>hs x (by simp[hx]));have g1:=HH (sp':=sp) (by kernel_rfl) (ab8 (by kernel_rfl)) h1 hb (fun x hx=>hlt x (by simp[hx])) (fun x hx=>hs x (by simp[hx]));have g:=trodAll_mk2 g0 g1;rw[show p0++p1++[]=p0++p1 from by simp];exact g
set_option maxRecDepth 100000 in
theorem Vk:prog.closure 5=[5,28,51,137,262,53,141,271,371,142,140,267,365,423,366,268,269,367,424,428,426,385,425,369,270,368,427,370,69,63,113,222,75,168,294,389,390,440,169,178,307,300,304,396,393,397,442,443,411,444,445,441,446,447,302,228,227,308,299,303,170,295,296,391,173,298,395,171,344,417,455,463,457,466,467,465,418,456,464,459,458,419,223,345,84,179,151,162,65,116,174,175,301,392,394,115,172,297,226,316,347,348,64,152,277,278,154,153,90,138,263,193,317,335,415,337,362,414,334,251,79,195,318,401,196,320,412,319,402,408,454,403,449,404,450,451,405,452,453,462,406,407,409,410,128,192,279,314,400,330,448,361,421,315,197,203,191,139,264,256,265,333,210,413,331,209,336,250,205,266,204,374,201,329,102,207,332,211,93,383,350,257,99,208,97,100,375,280,92,198,202,376,430,460,431,95,377,199,321,342,322,87,200,324,206,323,326,325,328,327,432,433,434,461,435,436,437,381,438,439,378,384,281,96,190,379,282,103,212,98,104,101,380,382,155,283,29,89,105,24,85,181,182,309,310,399,183,180,185,186,311,312,313,338,184,188,189,187,194,86,91,31,106,213,214,27,11,57,19,71,164,291,290,292,72,165,177,305,306,398,285,73,166,167,293,160,288,284,157,286,386,156,74,59,146,273,147,274,372,275,373,429,276,62,150,12,16,32,107,215,339,216,340,416,341,218,364,158,260,261,108,217,30,94,33,109]:=by kernel_rfl
theorem TU:joinedFacts prog 5 Tryz.f5 Rows.singularModesSpec Rows.singularModesRow=true:=by
 unfold joinedFacts Program.recurses Program.inPlace Program.unfollowed Program.varsNamed;rw[Vk,EE,TG,Xm,L6,U9,UX]
 kernel_rfl
theorem singularModes_holds:Rows.SingularModesSaid :=
 OpenClaim.holds_of_wide 5 Tryz.f5 rfl rfl rfl rfl rfl rfl rfl ⟨rfl, rfl, rfl, rfl, rfl⟩ rfl rfl rfl rfl rfl (by kernel_rfl) func5 TU
  (ab8 (by kernel_rfl)) (by unfold Func.isWrapper;first |(rw[ab6 (by decide +kernel)];kernel_rfl) |(rw[ab5 (by decide +kernel)];exact⟨rfl,rfl⟩))
  (fun os started H enc _=>U3 os started H enc)
end Go.Lw
namespace Go.Proofs.YtokaoegjfpjjnaaGreat
theorem singularModes_proved:Rows.SingularModesSaid:=Go.Lw.singularModes_holds
end Go.Proofs.YtokaoegjfpjjnaaGreat
