/- ModesImage: for any linkage and any turns the law returns true and leaves its arguments as they were. No other condition. Part 4 of 8: what the later parts need -/
import Derived.Test.YtokaoegjfpjjnaaGreatQc
import Derived.Test.YtokaoegjfpjjnaaGreatRows
set_option linter.unusedVariables false
open List (nil_append drop_drop map_take)
open List renaming mem_of_getElem? → apo, mem_cons_of_mem → aqq, mem_append → ap2, map_cons → aq2, mem_cons → aqf, length_cons → ap4, mem_cons_self → aqr, length_append → aqk, length_nil → ap9, getD_eq_getElem?_getD → apq, getElem?_eq_none → ap6, all_eq_true → ap3, getElem?_take → aqh, getElem?_map → apv, getElem?_eq_getElem → aps, drop_eq_nil_of_le → aqm, getElem?_replicate → aql, map_append → ap8, length_take → ap7, take_of_length_le → aqa, drop_zero → aq1, take_length → ap5, not_mem_nil → aqg, length_map → apr, length_replicate → aqp, map_replicate → aqu, map_set → aq0, length_set → aq4, mem_singleton → am8, replicate → ana, take_append_of_le_length → anb, drop_eq_getElem_cons → ani, length_pos_iff → anj, getElem_mem → anm, take_append_drop → ann, take_take → anp, find?_range_eq_none → anw, mem_map → anx, getElem?_eq_some_iff → anz, length_eq_zero_iff → an1, mem_range → an2, getLast?_eq_getElem? → an3, find?_range_eq_some → an6, length_eq_one_iff → an7, contains_iff_mem → an8
open Nat renaming le_refl → apu, lt_of_lt_of_le → aqd, lt_or_ge → apz, le_trans → aqe, mul_le_mul_right → aqi, mul_le_mul_left → ap0, zero_le → apx, pow_add → aqs, lt_of_le_of_lt → aqj, mul_assoc → alu, mod_lt → alw, mul_comm → alx, blt → aly, gcd_comm → al0, eq_zero_or_pos → al2, pow_pos → al7, mod_eq_of_lt → al8, div_lt_iff_lt_mul → al9, add_comm → ama, min_eq_left → amb, div_le_self → amc, pow_mul → amd, mul_add → ame, mul_lt_mul'' → amh, add_mul_mod_self_left → ami, add_zero → amj, pow_le_pow_right → amk, le_of_lt → amn, gcd → amo, pow_succ → amp, zero_add → ams, add_mul → amt, div_eq_of_lt → amv, div_add_mod → amy, add_mul_div_left → amz, div_div_eq_div_mul → am4, succ_mul → am5
open Option renaming map_eq_some_iff → apt, getD_some → apl
open Bool renaming and_eq_true → apw, or_eq_true → aqy, eq_false_iff → aou, eq_iff_iff → aov, not_eq_false' → aow, false_and → aox, false_eq_true → aoz, not_eq_true' → ao0
open Int renaming toNat_natCast → aqo, natAbs_natCast → aqn, gcd → aoa, mul_nonneg → aod, ofNat_inj → aoe, mul_ne_zero → aof, sign_trichotomy → aog, sign_eq_zero_iff_zero → aoh, sign_nonneg_iff → aoj, sign_eq_neg_one_iff_neg → aok
open Rat renaming num_divInt_den → aom, sub_eq_add_neg → aoo, divInt → aop, mul_pos → aot
open Decidable renaming not_not → apn
open Go renaming Value → arh, TypeId → ari, Program → arj, World → ark
open Go.Proofs.Tryz
namespace Go.Lw
open Go.Proofs
theorem PL(a b:List Nat)(ha:Ws a)(hb:Ws b)(na:Nz a)(nb:Nz b)(mr:b≠[])(la:a.length<aI)(lb:b.length<aI) :
  FP 396 [ws a,ws b] (.tup [ws (ofNat (val a/val b)),ws (ofNat (val a%val b))]):=by
 have la':=la;unfold aI at la lb;refine ai func396 ?_;refine gc (GG a b ha hb na nb) ?_;refine gC (fun t22=>?_) (fun t22=>?_)
 ·have h1:val a<val b:=by
   simp only[aa]at t22;split at t22
   ·assumption
   ·split at t22 <;> simp at t22
  refine gc (qU a ha oz) ?_;refine gR ?_;exact A6 (by rw[amv h1];exact Sub.nil _ _ _) (by rw[al8 h1];exact Sub.refl _)
 have h1:val b<=val a:=by
  simp only[aa]at t22;split at t22
  ·simp at t22
  ·omega
 refine gl ?_;refine gC (fun z=>?_) (fun z=>?_)
 ·have hl : b.length = 1 := by have := z; simp [aa] at this; omega
  obtain⟨x,rfl⟩:∃x,b=[x]:=an7.1 hl;have hx:x≠0:=nb x rfl;have hxB:x<4294967296:=hb x (by simp);have hv:val [x]=x:=by simp[val]
  have hm:=alw (val a) (show 0<x by omega);refine gi (show _=some (u32 x)from rfl) ?_;refine gc (ada a x ha oz oz hxB) ?_;refine gc (qU [val a%x] (yI oz) (by simp[aI])) ?_;refine bK ?_;rw[hv];simp[val]
 have hl:b.length≠1:=by have:=z;simp[aa]at this;omega
 obtain⟨n,hn⟩:∃n,b.length=n+2:=⟨b.length-2,by have:=anj.2 mr;omega⟩
 obtain⟨sh,v,lJ,Au,hv,wv,lv,vv,hvt,htop,DQ⟩:=aj8 hb nb hn
 have Si:b.length<=a.length:=by
  rcases apz a.length b.length with h2 |h2
  ·have:=zB ha nb h2;omega
  ·exact h2
 obtain⟨lq,Sj⟩:∃lq,a.length+1=lq+(n+2):=⟨a.length+1-(n+2),by omega⟩
 have DU:=cI hb (n+1);refine gl ?_;refine ga (show _=((n+1:Nat):Int) by rw[fu oz];omega) ?_;refine gi (kp (n:=n+1) oz (by first |omega |(simp;omega))) ?_;refine gc (show kK _ _ _ (i64 (sh:Nat)) by rw[lJ];exact aff _ DU) ?_;refine gt (aK (LB 900 rfl b sh hb (by unfold aI;omega) Au) (bO rfl rfl) aL rfl rfl) ?_;refine gl ?_;refine gs (AJ (.tmp rfl) (.none _) (.some _ (.tmp rfl) oz) T104 rfl T354 rfl oz oz rfl) ?_;refine gt (aK (LB 901 rfl a sh ha (by unfold aI;omega) Au) (bO rfl rfl) aL rfl rfl) ?_;refine gD ?_ (8,0);refine gW ((Wk.freeze (k:=900) rfl).trans<|Wk.of (sl:=[pP 0 (ws a),pP 1 (ws b),pP 8 (i64 sh),pP 9 (ws v),pP 10 (.ms 901 1 0 (a.length+1))]) (hp:=[pP 901 (.row 1 ((bC (a.length+1) (2^sh*val a)).map u32))]) (.k (.k (.k (.cons rfl (.of (Vs hn hv)) (.k .nil))))) (.k .nil)) ?_;refine gl ?_;refine ga (show _=(lq:Int) by rw[lv,fu oz];omega) ?_;refine gs (kJ (.tmp rfl) T104 rfl T354 rfl rfl oz (by dsimp only;omega) rfl) ?_;refine gl ?_;refine ga (show _=((n+1:Nat):Int) by rw[lv,fu oz];omega) ?_;refine gi (kp (n:=n+1) oz (by first |omega |(simp;omega))) ?_;refine gv (u64_in (by have:=cI wv (n+1);omega)) ?_;refine gl ?_;refine ga (show _=(n:Int) by rw[lv,fu oz];omega) ?_;refine gi (kp (n:=n) oz (by first |omega |(simp;omega))) ?_;refine gv (u64_in (by have:=cI wv n;omega)) ?_;refine gD ?_;refine ga (fu oz) ?_;refine lS [8,9,12,13] [] (fun(q u:List Nat)(j:Nat)=>[pP 10 (.ms 901 1 0 (a.length+1)),pP 11 (.ms 61 1 0 lq),pP 14 (i64 ((j:Int)-1))]) (fun q u _=>[pP 901 (.row 1 (u.map u32)),pP 61 (.row 1 (q.map u32))]) (fun q u j=>q.length=lq/\u.length=a.length+1/\Ws q/\Ws u/\j<=lq/\val (u.drop j)<val v/\2^sh*val a=val v*(4294967296^j*val (q.drop j))+val u) (fun _ _ j=>j) (ana lq 0) (bC (a.length+1) (2^sh*val a)) lq ⟨by simp,it _ _,p7 _,nU _ _,apu _,by rw[vv];exact(Pe ha Au Sj DQ).2,by rw[(Pe ha Au Sj DQ).1];simp[val]⟩ ?_ (h2:=(.k (.cons rfl (.of (by rw[aqu];rfl)) .nil)))
 rintro q u j ⟨td,xi,wq,wu,hj,hlt,hU⟩ K1 J1;refine gC (fun z=>?_) (fun z=>?_) (st2:=(23,0))
 ·have jB : 1 <= j := by have := z; simp [aa] at this; omega
  obtain⟨k,rfl⟩:∃k,j=k+1:=⟨j-1,by omega⟩
  obtain⟨W,hW⟩:∃W,W=val (bP u k (n+3)):=⟨_,rfl⟩
  have Sc:val v<4294967296^(n+2):=by have:=cU v wv;rwa [lv]at this
  obtain⟨e1,e2,e3⟩:=UB (u:=u) (q:=q) (k:=k) (lv:=n+2) wu oz oz Sc hlt hU;simp only[show n+2+1=n+3 from rfl]at e1 e2 e3;have pg:=ac9 wv (sr wu k (n+3)) lv (tI oz) hvt e1;rw[<- hW]at e1 e2 e3 pg;have wp:=sr wu k (n+3);have b1:=cI wp n;have b2:=cI wp (n+1);have b3:=cI wp (n+2);have b4:=pg.htop;have b5:=pg.htopB;have b6:=pg.hnext;obtain⟨top,Sk⟩:∃top,top=ak v (n+1):=⟨_,rfl⟩
  obtain⟨nx,Sl⟩:∃nx,nx=ak v n:=⟨_,rfl⟩
  obtain⟨hd,Sn⟩:∃hd,hd=ak (bP u k (n+3)) (n+2)*4294967296+ak (bP u k (n+3)) (n+1):=⟨_,rfl⟩
  obtain⟨th,DV⟩:∃th,th=ak (bP u k (n+3)) n:=⟨_,rfl⟩
  rw[<- Sk,<- Sl,<- Sn,<- DV]at pg;rw[<- Sk]at b4 b5 ⊢;rw[<- Sl]at b6 ⊢;rw[<- DV]at b1;have hdB:hd<18446744073709551616:=by omega
  refine gl ?_;refine ga (show _=((k+n+2:Nat):Int) by rw[lv,eF oz];omega) ?_;refine ga (show _=((k+n+3:Nat):Int) by rw[eF oz];omega) ?_;refine gs (AJ (.tmp rfl) (.some _ (.tmp rfl) oz) (.some _ (.tmp rfl) oz) T104 rfl T354 rfl oz oz rfl) ?_ (14,0);refine gW (Wk.of (sl:=[pP 8 (i64 sh),pP 9 (ws v),pP 10 (.ms 901 1 0 (a.length+1)),pP 11 (.ms 61 1 0 lq),pP 12 (u64 top),pP 13 (u64 nx),pP 14 (i64 k),pP 15 (.ms 901 1 k (n+3))]) (hp:=[pP 901 (.row 1 (u.map u32)),pP 61 (.row 1 (q.map u32))]) (.k (.k (.k (.k (.k (.k (.cons rfl (Sub.int oz) (.cons rfl (.of (by congr 1 <;> omega)) .nil)))))))) (.k (.k .nil))) ?_
  refine gl ?_;refine gs (sL (n:=n+2) (.tmp rfl) (.tmp rfl) T104 rfl T354 rfl oz oz rfl) ?_;refine gs (f0 (.tmp rfl) rfl (E9 (n:=n+3) (i:=n+2) oz oz) T354 rfl rfl rfl) ?_;refine gv (u64_in oz) ?_;refine gs (kH (.tmp rfl) (.const _) oz (v7 (n:=32) oz oz) rfl) ?_;refine gl ?_;refine ga (show _=((n+1:Nat):Int) by rw[lv,fu oz];omega) ?_;refine gs (sL (n:=n+1) (.tmp rfl) (.tmp rfl) T104 rfl T354 rfl oz oz rfl) ?_;refine gs (f0 (.tmp rfl) rfl (E9 (n:=n+3) (i:=n+1) oz oz) T354 rfl rfl rfl) ?_;refine gv (u64_in oz) ?_;refine gs (mN (.tmp rfl) (.tmp rfl) rfl ((zJ oz oz).trans (show _=(hd:Int) by rw[zK oz,Sn])) rfl) ?_;refine gD ?_;refine gs (ib (.tmp rfl) (.tmp rfl) oz (Pm hdB) rfl) ?_;refine gs (Dc (.tmp rfl) (.tmp rfl) oz Q2 rfl) ?_;refine gD ?_;refine kg [8,9,12,13,14] [901,61] (fun(g r:Nat)=>[pP 10 (.ms 901 1 0 (a.length+1)),pP 11 (.ms 61 1 0 lq),pP 15 (.ms 901 1 k (n+3)),pP 17 (u64 g),pP 18 (u64 r)]) (fun _ _=>[]) (fun g r=>W/val v<=g/\g*top+r=hd/\g<18446744073709551616/\r<8589934592) (fun g _=>g) (hd/top) (hd%top) ⟨pg.first,by rw[alx];exact amy _ _,by have:=amc hd top;omega,by have:=alw hd (show 0<top by omega);omega⟩ ?_
  rintro g r ⟨hg,lI,hgB,hrB⟩ K2 J2;refine uv (fun⟨h,h2⟩=>(B3 (by simp[aa]at h2;have:=Bk (x:=g) (y:=nx) oz b6;omega))) ?_;refine gs (vX rfl rfl rfl (fun h h2=>kH (.opt rfl (o2 h h2)) (.const _) oz (v7 (n:=32) oz (by simp[aa]at h;omega)) rfl)) ?_;refine cA ?_;refine uv (fun _=>(show _=(n:Int) by rw[lv,fu oz];omega)) ?_;refine gs (vX rfl rfl rfl (fun h h2=>sL (n:=n) (.opt rfl (o2 h h2)) (.opt rfl (o2 h h2)) T104 rfl T354 rfl oz oz rfl)) ?_;refine gs (vX rfl rfl rfl (fun h h2=>f0 (.opt rfl (o2 h h2)) rfl (E9 (n:=n+3) (i:=n) oz oz) T354 rfl rfl rfl)) ?_;refine gvG (fun _=>(u64_in oz)) ?_;refine gs (vX rfl rfl rfl (fun h h2=>mN (.opt rfl (o2 h h2)) (.opt rfl (o2 h h2)) rfl ((zJ (by simp[aa]at h;omega) oz).trans (by rw[zK oz])) rfl)) ?_;refine gC (fun t133=>?_) (fun t133=>?_)
  ·have hc:r<4294967296/\(4294967296<=g\/r*4294967296+th<g*nx):=by
    rw[DV];have h9:=Oe.1 t133
    rwa [show r*2^32=r*4294967296 from rfl]at h9
   have rG:=pg.step hg lI hc.2;have Se:1<=g:=Nat.succ_le_of_lt (aqj (apx _) rG);refine ga (QK oz oz) ?_;refine ga (lW oz) ?_;exact jI J2 (g-1) (r+top) ⟨Nat.le_sub_one_of_lt rG,by rw[Nat.sub_mul];have:=aqi top (show 1<=g by omega);omega,by omega,by omega⟩
  have hc:¬(r<4294967296/\(4294967296<=g\/r*4294967296+th<g*nx)):=by
   rw[DV];intro hh;rw[show r*4294967296=r*2^32 from rfl]at hh;exact aou.1 t133 (Oe.2 hh)
  obtain⟨ala,hgq⟩:=pg.last lI hc;have IQ:=pg.vpos;have So:val (bP u k (n+3))<4294967296^(n+3):=by have:=cU _ wp;rwa [tI oz]at this
  obtain⟨p1,p2⟩:=adg IQ (show val v<=4294967296^(n+3) by have:=amk (show 0<4294967296 by omega) (show n+2<=n+3 by omega);omega) (hW▸So) hg hgq;have IW:k+(n+3)<=u.length:=by omega
  have xb:(wr u k (bC (n+3) (nN g (val v) W (n+3)))).length=a.length+1:=by rw[qR (by rw[it];omega),xi]
  refine gt (aK (Con.rk 901 rfl rfl (U8 u v k (n+3) g wu wv oz IW ala (by unfold bf;omega))) (aO rfl rfl rfl) aL rfl rfl) ?_;refine gC (fun z=>?_) (fun z=>?_)
  ·have DR : W < g * val v := by rw [hW]; simpa using z
   obtain⟨q1,q2,q3⟩:=p1 DR;have Av:nN g (val v) W (n+3)<4294967296^(n+3):=by unfold nN;rw[aq6 oz];rw[<- hW]at So;omega
   refine ga (QK oz oz) ?_;refine gt (aK (Con.rk 901 rfl rfl (TW (wr u k (bC (n+3) (nN g (val v) (val (bP u k (n+3))) (n+3)))) v k (n+3) (vL wu (nU _ _)) wv oz (by rw[<- hW,xb];omega) (by rw[<- hW,xb];unfold bf;omega))) (bO rfl rfl) aL rfl rfl) ?_;refine gv ((fm _).trans (by rw[al8 oz])) ?_;refine gs (cM (n:=k) (.tmp rfl) (.tmp rfl) T104 rfl T354 rfl oz oz rfl) ?_;refine gs (fg (.tmp rfl) rfl (dc (i:=k) oz) rfl (.tmp rfl) rfl rfl T354 rfl rfl) ?_;refine ga (fu oz) ?_;exact kL J1 (q.set k (W/val v)) (wr u k (bC (n+3) (W%val v))) k ⟨by simp[td],by rw[qR (by rw[it];omega),xi],jH wq pg.q_lt,vL wu (nU _ _),by omega,e2,e3⟩ (hw:=Wk.of a6 (.cons rfl (.of (by rw[<- hW];first |(rw[q1];done) |(rw[NN (r:=W%val v) IW (it _ _) (by rw[pL _ _ Av];exact q1)];done))) (.cons rfl (.of (by rw[aq0,q2];rfl)) .nil)))
  have DR:¬W<g*val v:=by rw[hW];simpa using z
  obtain⟨q1,q2⟩:=p2 DR;refine gv ((fm _).trans (by rw[al8 oz])) ?_;refine gs (cM (n:=k) (.tmp rfl) (.tmp rfl) T104 rfl T354 rfl oz oz rfl) ?_;refine gs (fg (.tmp rfl) rfl (dc (i:=k) oz) rfl (.tmp rfl) rfl rfl T354 rfl rfl) ?_;refine ga (fu oz) ?_;exact kL J1 (q.set k (W/val v)) (wr u k (bC (n+3) (W%val v))) k ⟨by simp[td],by rw[qR (by rw[it];omega),xi],jH wq pg.q_lt,vL wu (nU _ _),by omega,e2,e3⟩ (hw:=Wk.of a6 (.cons rfl (.of (by rw[<- hW];first |(rw[q1];done) |(rw[NN (r:=W%val v) IW (it _ _) (by rw[pL _ _ Av];exact q1)];done))) (.cons rfl (.of (by rw[aq0,q2];rfl)) .nil)))
 have jB:j=0:=by have:=z;simp[aa]at this;omega
 subst jB;have hU':2^sh*val a=2^sh*val b*val q+val u:=by rw[<- vv];simpa using hU
 obtain⟨hQ,hR⟩:=Tk hU' (by rw[<- vv];simpa using hlt);refine gW ((Wk.freeze (k:=61) rfl).trans<|(Wk.freeze (k:=901) rfl).trans<|Wk.of (sl:=[pP 8 (i64 sh),pP 10 (ws u),pP 11 (ws q)]) (hp:=[]) (.k (.cons rfl (.of (b8 (by simp[xi]))) (.cons rfl (.of (by rw[show AV.fz 61 1 (q.map u32) (.ms 61 1 0 lq)=ws q from b8 (by simp[td])];rfl)) .nil))) .nil) ?_;refine gc (qU q wq (by unfold aI;omega)) ?_;refine gc (aeu u sh wu (by unfold aI;omega) Au) ?_;refine bK ?_;rw[<- hQ,<- hR]
theorem DH{b:Bool}{n:Nat}:(cond b (aa .gtr ((ofNat n).length:Int) 0) false)=true↔(b=true/\0<n):=by
 have h:aa .gtr ((ofNat n).length:Int) 0=true↔0<n:=by
  simp only[aa,aq8];constructor
  ·intro h;rcases al2 n with h1 |h1;(subst h1;simp[acn]at h);exact h1
  ·intro h;have:ofNat n ≠ []:=by intro h1; have:=db n; rw [h1] at this; simp [val] at this; omega
   have:=anj.2 this;omega
 cases b with
 |false=>simp
 |true=>exact⟨fun h1=>⟨rfl,h.1 h1⟩,fun h1=>h.2 h1.2⟩
theorem Hc(a:Wh)(ha:a.ok):FP 299 [a.av] (i64 a.z.sign):=by
 obtain⟨e1,e2,e3⟩:=Lx ha;refine ai func299 ?_;refine gc (n7 a ha) ?_;refine gl ?_;refine gC (fun z=>?_) (fun z=>?_)
 ·have h0 : a.m.length = 0 := by simpa [aa] using z
  refine ah ?_;rw[e1 h0];rfl
 have h0:a.m.length≠0:=by simpa[aa]using z
 refine gC (fun z=>?_) (fun z=>?_)
 ·refine ah ?_;rw[e2 h0 z];rfl
 refine ah ?_;rw[e3 h0 z];rfl
theorem VI(a b:Wh)(ha:a.ok)(hb:b.ok):FP 308 [a.av,b.av] (i64 (ke a.z b.z)):=by
 refine ai func308 ?_;refine gc (Hc a ha) ?_;refine gc (Hc b hb) ?_;refine gD ?_;refine gC (fun z=>?_) (fun z=>?_)
 ·have h0 : a.z.sign ≠ b.z.sign := by simpa [aa] using z
  obtain⟨e1,e2⟩:=ag4 h0;refine gC (fun z=>?_) (fun z=>?_)
  ·have h1 : a.z.sign < b.z.sign := by simpa [aa] using z
   refine ah ?_;rw[e1 h1];rfl
  have h1:¬a.z.sign<b.z.sign:=by simpa[aa]using z
  refine ah ?_;rw[e2 h1];rfl
 have h0:a.z.sign=b.z.sign:=by simpa[aa]using z
 have e1:=aau h0;refine gc (n7 a ha) ?_;refine gc (n7 b hb) ?_;refine gc (GG a.m b.m (Wh.ws ha) (Wh.ws hb) a.nz b.nz) ?_;refine gD ?_;refine gc (l8 a ha) ?_;refine gC (fun z=>?_) (fun z=>?_)
 ·rw[z,aq7 rfl]at e1;refine gs (Bh (.tmp rfl) rfl) ?_;refine ah ?_;rw[e1];split
  ·rfl
  ·split <;> rfl
 rw[z,aq6 Bool.false_ne_true]at e1;refine ah ?_
 first |(rw[e1];done) |(rw[e1];rfl)
theorem abe(a:Wh)(ha:a.ok)(la:a.mag.length<aI):FP 175 [a.av] (zA (-a.z)):=by
 refine ai func175 ?_;refine gc (l8 a ha) ?_;refine gc (n7 a ha) ?_;refine gc (nI _ a.m (Wh.ws ha) (amn (Wh.small ha la))) ?_;refine gD ?_;refine ah ?_;rw[Wh.z_eq,<- OU];rfl
theorem aix(a b:Wh)(ha:a.ok)(hb:b.ok)(la:a.mag.length+b.mag.length<=aI):FP 298 [a.av,b.av] (zA (a.z*b.z)):=by
 have h1:=Wh.m_le (w:=a);have h2:=Wh.m_le (w:=b);have h3:(ofNat (val a.m*val b.m)).length<=a.m.length+b.m.length:=iF (by rw[aqs];exact amh (cU _ (Wh.ws ha)) (cU _ (Wh.ws hb)));refine ai func298 ?_;refine gc (l8 a ha) ?_;refine gc (l8 b hb) ?_;refine gc (n7 a ha) ?_;refine gc (n7 b hb) ?_;refine gc (aa2 a.m b.m (Wh.ws ha) (Wh.ws hb) oz) ?_;refine gc (nI _ _ (eQ _) oz) ?_;refine gD ?_;refine ah ?_;rw[db,NG];rfl
theorem Ty(a b:Wh)(ha:a.ok)(hb:b.ok)(la:a.mag.length<aI)(lb:b.mag.length<aI):FP 297 [a.av,b.av] (zA (a.z+b.z)):=by
 have h1:=Wh.m_le (w:=a);have h2:=Wh.m_le (w:=b);have ns:val a.m<4294967296^(max a.m.length b.m.length):=aqd (cU _ (Wh.ws ha)) (amk oz oz);have eY:val b.m<4294967296^(max a.m.length b.m.length):=aqd (cU _ (Wh.ws hb)) (amk oz oz);have h3:(ofNat (val a.m+val b.m)).length<=max a.m.length b.m.length+1:=iF (by rw[amp];omega);have h4:(ofNat (val a.m-val b.m)).length<=max a.m.length b.m.length:=iF oz;have h5:(ofNat (val b.m-val a.m)).length<=max a.m.length b.m.length:=iF oz;refine ai func297 ?_;refine gc (n7 a ha) ?_;refine gc (n7 b hb) ?_;refine gD ?_;refine gc (l8 a ha) ?_;refine gc (l8 b hb) ?_;refine gD ?_;refine gC (fun z=>?_) (fun z=>?_)
 ·have h0 : a.n = b.n := by simpa using z
  refine gc (l8 a ha) ?_;refine gc (Km a.m b.m (Wh.ws ha) (Wh.ws hb) oz oz) ?_;refine gc (nI _ _ (eQ _) oz) ?_;refine ah ?_;rw[db,P4 h0];rfl
 have h0:a.n≠b.n:=by simpa using z
 refine gc (GG a.m b.m (Wh.ws ha) (Wh.ws hb) a.nz b.nz) ?_;refine gC (fun t23=>?_) (fun t23=>?_)
 ·have h6:val b.m<=val a.m:=by
   rcases apz (val a.m) (val b.m)with h |h
   ·rw[aq7 h]at t23;cases t23
   ·exact h
  refine gc (l8 a ha) ?_;refine gc (Gn a.m b.m (Wh.ws ha) (Wh.ws hb) oz (by rcases apz a.m.length b.m.length with h |h;(have:=zB (Wh.ws ha) b.nz h;omega);exact h) h6) ?_;refine gc (nI _ _ (eQ _) oz) ?_;refine ah ?_;rw[db,Hk h0 h6];rfl
 have h6:val a.m<val b.m:=by
  rcases apz (val a.m) (val b.m)with h |h
  ·exact h
  ·rw[aq6 oz]at t23;split at t23 <;> cases t23
 refine gc (l8 b hb) ?_;refine gc (Gn b.m a.m (Wh.ws hb) (Wh.ws ha) oz (by rcases apz b.m.length a.m.length with h |h;(have:=zB (Wh.ws hb) a.nz h;omega);exact h) oz) ?_;refine gc (nI _ _ (eQ _) oz) ?_;refine ah ?_;rw[db,LS h0 oz];rfl
theorem NH(a b:Wh)(ha:a.ok)(hb:b.ok)(la:a.mag.length<aI)(lb:b.mag.length<aI):FP 300 [a.av,b.av] (zA (aoa a.z b.z)):=by
 refine ai func300 ?_;refine gc (n7 a ha) ?_;refine gc (n7 b hb) ?_;refine gD ?_;refine kg [4] [4] (fun(x y:List Nat)=>[pP 5 (ws x),pP 6 (ws y)]) (fun _ _=>[]) (fun x y=>Ws x/\Ws y/\Nz x/\Nz y/\x.length<aI/\y.length<aI/\amo (val x) (val y)=aoa a.z b.z) (fun _ y=>val y) a.m b.m ⟨Wh.ws ha,Wh.ws hb,a.nz,b.nz,Wh.small ha la,Wh.small hb lb,by rw[aoa,Wh.abs,Wh.abs]⟩ ?_;rintro x y ⟨wx,wy,nx,ny,lx,ly,hg⟩ K1 J1;refine gl ?_;refine gC (fun t15=>?_) (fun t15=>?_)
 ·have hy : y ≠ [] := by intro h; subst h; simp [aa] at t15
  have IX:=tD ny hy;have hm:=alw (val x) IX;refine gc (PL x y wx wy nx ny hy lx ly) ?_;exact jI J1 y (ofNat (val x%val y)) ⟨wy,eQ _,ny,wz _,ly,aqj (iF (Nat.lt_trans hm (cU y wy))) ly,by rw[db,<- hg,al0 (val x) (val y),al0 (val y) (val x%val y)];exact(Nat.gcd_rec _ _).symm⟩ (by show val (ofNat _)<val y;rw[db];exact hm)
 have hy:y=[]:=by
  cases y with
  |nil=>rfl
  |cons c l=>simp[aa]at t15
 subst hy;have hg':val x=aoa a.z b.z:=by rw[<- hg];simp[val]
 refine gc (nI false x wx (amn lx)) ?_;refine ah ?_;rw[hg'];rfl
theorem abq(a b:Wh)(ha:a.ok)(hb:b.ok)(la:a.mag.length+1<aI)(lb:b.mag.length<aI)(h0:b.z≠0):FP 301 [a.av,b.av] (.tup [zA (a.z/b.z),zA (a.z%b.z),.v .nilIface]):=by
 have je:=Wh.m_le (w:=a);have mn:=Wh.m_le (w:=b);have cE:val b.m≠0:=by have:=Wh.abs (w:=b);omega
 have bF:b.m≠[]:=fun h=>cE (by rw[h];rfl)
 have s7:(ofNat (val a.m/val b.m)).length<=a.m.length:=iF (aqj (amc _ _) (cU _ (Wh.ws ha)));have Ak:=alw (val a.m) (show 0<val b.m by omega);have uV:(ofNat (val a.m%val b.m)).length<=b.m.length:=iF (Nat.lt_trans Ak (cU _ (Wh.ws hb)));have hl3:(ofNat (val a.m/val b.m+1)).length<=a.m.length+1:=iF (by have h7:=aqj (amc (val a.m) (val b.m)) (cU _ (Wh.ws ha));rw[amp];generalize val a.m/val b.m=m at *;omega);have hl4:(ofNat (val b.m-val a.m%val b.m)).length<=b.m.length:=iF (by have:=cU _ (Wh.ws hb);omega);have xh:val [1]=1:=rfl;refine ai func301 ?_;refine gc (n7 b hb) ?_;refine gl ?_;refine gC (fun z=>?_) (fun z=>?_) (st1:=(3,0));exact ard (an1.1 (by simpa[aa]using z)) bF;refine gc (n7 a ha) ?_;refine gc (PL a.m b.m (Wh.ws ha) (Wh.ws hb) a.nz b.nz bF oz oz) ?_;refine gc (l8 a ha) ?_;refine cA ?_;refine gC (fun z=>?_) (fun z=>?_)
 ·have h1:a.n = true /\ 0 < val a.m % val b.m:=DH.1 z;obtain ⟨e1,e2⟩:=KO cE h1.1 h1.2;refine gc (Km (ofNat (val a.m / val b.m)) [1] (eQ _) (yI oz) oz (by unfold aI; simp)) ?_;refine gc (Gn b.m (ofNat (val a.m % val b.m)) (Wh.ws hb) (eQ _) oz uV (by rw [db]; omega)) ?_ (7,0);refine gW (Wk.of (sl:=[pP 2 (.ptr 2 0),pP 3 (.ptr 3 0),pP 4 (.ptr 4 0),pP 5 (.ptr 5 0),pP 8 (ws (ofNat (val a.m / val b.m + 1))),pP 9 (ws (ofNat (val b.m - val a.m % val b.m)))]) (hp:=[pP 2 (.box [bl a.neg,ws a.mag]),pP 3 (.box [bl b.neg,ws b.mag]),pP 4 (.box [.v (.bool false),nS]),pP 5 (.box [.v (.bool false),nS])]) (.k (.k (.k (.k (.cons rfl (.of (by rw [db,xh])) (.cons rfl (.of (by rw [db])) .nil)))))) (.k (.k (.k (.k .nil))))) ?_
  refine gc (l8 a ha) ?_;refine gc (l8 b hb) ?_;refine gc (by apply nI _ _ (eQ _) oz) ?_;refine gc (by apply nI _ _ (eQ _) oz) ?_;refine gD ?_;refine gR ?_;exact yU (by rw[db,db,e1,show sgn false _=_ from e2];rfl)
 have h1:¬(a.n=true/\0<val a.m%val b.m):=fun h=>aou.1 z (DH.2 h)
 obtain⟨e1,e2⟩:=Nu cE h1;refine gc (l8 a ha) ?_;refine gc (l8 b hb) ?_;refine gc (by apply nI _ _ (eQ _) oz) ?_;refine gc (by apply nI _ _ (eQ _) oz) ?_;refine gD ?_;refine gR ?_;exact yU (by rw[db,db,e1,show sgn false _=_ from e2];rfl)
theorem CY{N:Nat}(h:N<18446744073709551616):val [N%4294967296,N/2^32]=N:=by
 simp only[val];omega
theorem AW{N:Nat}(h:N<18446744073709551616):Ws [N%4294967296,N/2^32]:=by
 intro x hx;simp only[aqf,aqg,or_false]at hx;rcases hx with rfl |rfl <;> omega
theorem Ry(n:Int)(h:-9223372036854775808<=n/\n<=9223372036854775807):FP 227 [i64 n] (zA n):=by
 obtain⟨N,hN⟩:∃N,N=n.natAbs:=⟨_,rfl⟩
 have rH:N<18446744073709551616:=by omega
 refine ai func227 ?_;refine gv (show IntKind.u64.wrap n=((n%18446744073709551616:Int)) by simp only[IntKind.wrap,IntKind.signed,IntKind.bits,aox,if_false,aoz];omega) ?_;refine gC (fun z=>?_) (fun z=>?_) (st2:=(77777,0))
 ·have hn : n < 0 := by simpa [aa] using z
  refine gs (Bh (.tmp rfl) rfl) ?_ (4,0);refine gW (Wk.of (sl:=[pP 0 (i64 n),pP 2 (.ptr 2 0),pP 3 (u64 N)]) (hp:=[pP 2 (.box [.v (.bool false),nS])]) (.k (.k (.cons rfl (Sub.int (by simp only[IntKind.wrap,IntKind.signed,IntKind.bits,aox,if_false,aoz];omega)) .nil))) (.k .nil)) ?_;refine gv (fm _) ?_;refine gs (gX (.tmp rfl) (.const _) oz (jV _ 32 oz) rfl) ?_;refine gv ((fm _).trans (by rw[al8 (show N/2^32<4294967296 by omega)])) ?_;refine gc (nI (aa .lss n 0) [N%4294967296,N/2^32] (AW rH) (by unfold aI;simp)) ?_;refine ah ?_;rw[CY rH,show sgn (aa .lss n 0) N=n by simp only[sgn,aa,aq8];split <;> omega];rfl
 have hn:¬n<0:=by simpa[aa]using z
 refine gW (Wk.of (sl:=[pP 0 (i64 n),pP 2 (.ptr 2 0),pP 3 (u64 N)]) (hp:=[pP 2 (.box [.v (.bool false),nS])]) (.k (.k (.cons rfl (Sub.int oz) .nil))) (.k .nil)) ?_;refine gv (fm _) ?_;refine gs (gX (.tmp rfl) (.const _) oz (jV _ 32 oz) rfl) ?_;refine gv ((fm _).trans (by rw[al8 (show N/2^32<4294967296 by omega)])) ?_;refine gc (nI (aa .lss n 0) [N%4294967296,N/2^32] (AW rH) (by unfold aI;simp)) ?_;refine ah ?_;rw[CY rH,show sgn (aa .lss n 0) N=n by simp only[sgn,aa,aq8];split <;> omega];rfl
theorem Fu:∀(j k v:Nat),j<=k->(bC k v).take j=bC j v
 |0,_,_,_=>by simp[bC]
 |j+1,0,_,h=>by omega
 |j+1,k+1,v,h=>by
  rw[bC,bC,List.take_succ_cons,Fu j k _ oz]
theorem Nv{m:List Nat}(h:Ws m):(ofNat (val m)).length<=m.length:=iF (cU m h)
theorem PV{m:List Nat}(h:Ws m):m.take (ofNat (val m)).length=ofNat (val m):=by
 have h1:=yk m h;have h2:=yk (ofNat (val m)) (eQ _);rw[db]at h2;have h3:=Fu _ _ (val m) (Nv h);rw[<- h1,<- h2]at h3;exact h3
theorem M6{m:List Nat}{n:Nat}(h:Ws m)(hn:n<=m.length)(hv:val (m.take n)=val m)(h0:n=0\/ak m (n-1)≠0):n=(ofNat (val m)).length:=by
 have h1:m.take n=ofNat (val m):=by
  refine PO (jN h n) ?_ hv;intro x hx;rcases h0 with h0 |h0
  ·subst h0;simp at hx
  ·have oD : n ≠ 0 := by intro h3; subst h3; simp at hx
   rw[an3,ap7,amb hn,aqh,aq7 oz,mC oz]at hx;cases hx;exact h0
 rw[<- h1,ap7,amb hn]
theorem Fz(l:List Nat)(i:Nat):val l=val (l.take i)+4294967296^i*val (l.drop i):=by
 rcases apz i l.length with h |h
 ·exact ES oz
 ·rw[gS h,aqm h];simp[val]
theorem yA(l:List Nat)(i:Nat):val (l.drop i)=ak l i+4294967296*val (l.drop (i+1)):=by
 rcases apz i l.length with h |h
 ·exact vQ h
 ·rw[wk h,aqm h,aqm oz];rfl
theorem Ls{a b:List Nat}{i:Nat}(ha:Ws a)(he:val (a.drop (i+1))=val (b.drop (i+1)))(hx:ak a i<ak b i):val a<val b:=by
 rw[Fz a (i+1),Fz b (i+1),he];have:=Ni ha hx;omega
theorem ZS{xs ys:List AV}(hl:xs.length=ys.length)(h1:∀(j:Nat)(y:AV),ys[j]?=some y->y.one=true)(h:∀(j:Nat)(x y:AV),xs[j]?=some x->ys[j]?=some y->Sub x y):Sub (.agg xs) (.agg ys):=by
 intro g S m v hr;cases hr with
 |agg hn h2 hr =>
  refine .agg (hn.trans hl) h1 ?_;intro j u c hu hc
  have hj:j<xs.length:=by
   rw[hl];rcases apz j ys.length with h |h
   ·exact h
   ·rw[ap6 h]at hc;cases hc
  exact h j _ c (aps hj) hc _ _ _ _ (hr j u _ hu (aps hj))
theorem S3:Sub (.agg [.v (.bool false),.v (.slice none 0 0)]) (zA 0):=by
 show Sub (.agg [.v (.bool false),.v (.slice none 0 0)]) (.agg [bl false,ws []]);refine ZS rfl ?_ ?_
 ·intro j y hy
  match j,hy with
  |0,hy=>cases hy;rfl
  |1,hy=>cases hy;rfl
 ·intro j x y hx hy
  match j,hx,hy with
  |0,hx,hy=>cases hx;cases hy;exact Sub.refl _
  |1,hx,hy=>cases hx;cases hy;exact Sub.nil _ _ _
theorem L9{out:List Nat}{i x:Nat}(h:out.length=i):val (out++[x])=val out+4294967296^i*x:=by
 rw[vO,h];simp[val]
theorem M4{o c P x y u w:Nat}(hu:u<4294967296)(hw:w<4294967296)(hc:c<=1)(h:o+y=x+c*P) :
  (o+P*((4294967296+u-w-c)%4294967296))+(y+P*w)=(x+P*u)+(1-(4294967296+u-w-c)/2^32)*(P*4294967296):=by
 have h0:(4294967296+u-w-c)%4294967296+w+c=u+(1-(4294967296+u-w-c)/2^32)*4294967296:=by omega
 generalize(1-(4294967296+u-w-c)/2^32)=q at *;generalize(4294967296+u-w-c)%4294967296=r at *;grind
theorem N6{a b out:List Nat}{c:Nat}(ha:Ws a)(hw:Ws out)(ho:out.length=a.length)(cG:val b<=val a)
  (h:val out+val (b.take a.length)=val (a.take a.length)+c*4294967296^a.length):val out=val a-val b:=by
 have hb:=Fz b a.length;have h2:=cU a ha
 have h3:val (b.drop a.length)=0:=by
  rcases al2 (val (b.drop a.length))with h4 |h4
  ·exact h4
  ·have:=ap0 (4294967296^a.length) h4;omega
 rw[h3,Nat.mul_zero,amj]at hb;rw[<- hb,ap5]at h;have h1:=cU out hw;rw[ho]at h1;cases c with
 |zero=>omega
 |succ c=>rw[am5]at h;omega
theorem Qt{z:Int}{k:Nat}(h:Lz k z)(hk:k<=bf):(ofInt z).ok:=⟨eQ _,aqe h.len hk⟩
theorem RD{z:Int}{k:Nat}(h:Lz k z):(ofInt z).mag.length<=k:=h.len
theorem ad1(x y:Int):(x-y).sign=ke x y:=by
 unfold ke;have h:=Eu (x-y)
 (repeat' split) <;> omega
theorem pE(m:List Nat)(i:Nat)(hm:Ws m):FP 428 [ws m,i64 i] (u64 (ak m i)):=by
 refine ai func428 ?_;refine gl ?_;refine gC (fun z=>?_) (fun z=>?_)
 ·simp[aa]at z;have:=cI hm i;refine gi (dc (i:=i) z) ?_;refine gv (u64_in oz) ?_;refine ah ?_;rfl
 simp[aa]at z;refine ah ?_;simp[u64,wk z]
theorem Mx(w:Wh)(h:w.ok):FP 423 [w.av] (bl w.valid):=by
 have hl:w.mag.length<=bf:=h.2;refine ai func423 ?_;refine gl ?_;refine gC (fun z=>?_) (fun z=>?_)
 ·have h0 : w.mag = [] := by simpa [aa] using z
  refine ah ?_;simp[bl,Wh.valid,h0]
 have h0:w.mag.length≠0:=by simpa[aa]using z
 refine gl ?_;refine ga (mU oz oz) ?_;refine gi (dc (i:=w.mag.length-1) oz) ?_;refine ah ?_;have h1:w.mag≠[]:=fun h=>h0 (by rw[h];rfl)
 simp only[bl,Wh.valid,aq6 h1,an3,mC (show w.mag.length-1<w.mag.length by omega),aa];congr 2;generalize ak w.mag _=x;rw[aov];simp
theorem oH(w:Wh)(h:w.ok):FP 365 [w.av] (ws w.m):=by
 refine ai func365 ?_;refine gc (Mx w h) ?_;refine gC (fun z=>?_) (fun z=>?_)
 ·have h0 : w.valid = false := by simpa [aa] using z
  refine gR ?_;exact o7 (by rw[show w.m=[] by simp[Wh.m,h0]];exact Sub.nil _ _ _)
 have h0:w.valid=true:=by simpa[aa]using z
 refine ah ?_;simp only[Wh.m,h0];rfl
theorem lP(w:Wh)(h:w.ok):FP 366 [w.av] (bl w.n):=by
 refine ai func366 ?_;refine gc (Mx w h) ?_;refine ah ?_;simp only[Wh.n,bl];cases w.valid <;> rfl
theorem EO(d:Nat)(hd:aly d 1000=true)(m:List Nat)(hm:Ws m)(hb:m.length<=aI) :
  Con prog 371 [ws m] [] (.ms d 1 0 (ofNat (val m)).length) [(d,some (.row 1 (m.map u32)))]:=by
 have hb':=hb;unfold aI at hb;refine gF func371 (fun k z h=>by cases h) ?_;refine gs (j6 T104 rfl T354 rfl rfl rfl) ?_;refine gs (cF (.tmp rfl) rfl rfl (.tmp rfl) T104 rfl T354 rfl rfl (by simp only[apr];omega) rfl rfl) ?_;refine aS [] [6] (fun(n:Nat)=>[pP 3 (.ms 6 1 0 n)]) (fun _=>[]) (fun n=>n<=m.length/\val (m.take n)=val m) (fun n=>n) m.length ⟨apu _,by rw[ap5]⟩ ?_ (h1:=(.cons rfl (.of (by rw[apr,ams])) .nil));rintro n ⟨hn,hv⟩ K1 J1;refine uv (fun h=>(mU (by simp[aa]at h;omega) (by unfold bf;omega))) ?_;refine gs (gK rfl rfl rfl (fun h=>cM (n:=n-1) (.opt rfl (o1 h)) (.opt rfl (o1 h)) T104 rfl T354 rfl oz (by simp[aa]at h;omega) rfl)) ?_;refine gs (gK rfl rfl rfl (fun h=>f0 (.opt rfl (o1 h)) rfl (dc (i:=n-1) (by simp[aa]at h;omega)) T354 rfl rfl rfl)) ?_;refine gC (fun t18=>?_) (fun t18=>?_)
 ·have t18 : 0 < n /\ ak m (n - 1) = 0 := by simpa [aa] using t18
  refine ga (mU oz (by unfold bf;omega)) ?_;refine gs (AJ (.tmp rfl) (.none _) (.some _ (.tmp rfl) oz) T104 rfl T354 rfl oz oz rfl) ?_;exact aM J1 (n-1) ⟨by omega,by have h:=@eV m (n-1);rw[show n-1+1=n by omega,t18.2]at h;simp at h;omega⟩ (hw:=Wk.of (.cons rfl (.of (by congr 1)) .nil) (.k .nil))
 have t18:0<n->ak m (n-1)≠0:=by simpa[aa]using t18
 have kV:=M6 hm hn hv (by rcases al2 n with h |h;(exact .inl h);exact .inr (t18 h));subst kV;refine gR ?_;exact aD.own1 rfl hd rfl
theorem vd(m:List Nat)(hm:Ws m)(hb:m.length<=aI):FP 371 [ws m] (ws (ofNat (val m))):=by
 have h:=Con.freeze (by rw[apr,ams];exact Nv hm) (EO 0 rfl m hm hb)
 rwa [aq1,<- map_take,PV hm]at h
theorem n6(b:Bool)(m:List Nat)(hm:Ws m)(hb:m.length<=aI):FP 271 [bl b,ws m] (zA (sgn b (val m))):=by
 refine ai func271 ?_;refine gc (vd m hm hb) ?_;refine gl ?_;refine gC (fun t9=>?_) (fun t9=>?_)
 ·have h0:val m=0:=by
   have:=db (val m);have h9:ofNat (val m)=[]:=an1.1 (by simpa[aa]using t9);rw[h9]at this;exact this.symm
  refine gR ?_;exact o7 (by rw[h0,show sgn b 0=0 by cases b <;> rfl];exact S3)
 have h0:val m≠0:=by
  intro h;rw[h]at t9;cases t9
 refine ah ?_
 rw[show zA (sgn b (val m))=.agg [bl b,ws (ofNat (val m))] by
  unfold zA ofInt Wh.av;rw[show(sgn b (val m)).natAbs=val m by unfold sgn;split <;> omega,show decide (sgn b (val m)<0)=b by cases b <;> simp[sgn] <;> omega]]
theorem Fv(a b:List Nat)(ha:Ws a)(hb:Ws b):FP 385 [ws a,ws b] (i64 (if val a<val b then -1 else if val b<val a then 1 else 0)):=by
 refine ai func385 ?_ (0,0);refine yz (t:=0) rfl (fun ns=>?_);refine yz (t:=1) rfl (fun eY=>?_);unfold bf at ns eY;refine go ?_;refine gl ?_;refine gl ?_;refine gs (w6 (.tmp rfl) (.tmp rfl) rfl) ?_;refine ga (fu oz) ?_;refine aS [0,1] [] (fun(n:Nat)=>[pP 5 (i64 ((n:Int)-1))]) (fun _=>[]) (fun n=>n<=281474976710656/\val (a.drop n)=val (b.drop n)) (fun n=>n) (max a.length b.length) ⟨by omega,by rw[aqm oz,aqm oz]⟩ ?_ (h1:=(.cons rfl (Sub.int oz) .nil));rintro n ⟨hn,hd⟩ K1 J1;refine gC (fun z=>?_) (fun z=>?_)
 ·have oD : 1 <= n := by have := z; simp [aa] at this; omega
  obtain⟨k,rfl⟩:∃k,n=k+1:=⟨n-1,by omega⟩
  have hk:((k+1:Nat):Int)-1=(k:Int):=by omega
  rw[hk];refine gc (pE a k ha) ?_;refine gc (pE b k hb) ?_;refine gC (fun z=>?_) (fun z=>?_)
  ·have h3 : ak a k ≠ ak b k := by simpa [aa, aoe] using z
   refine gc (pE a k ha) ?_;refine gc (pE b k hb) ?_;refine gC (fun z=>?_) (fun z=>?_)
   ·have h4 : ak a k < ak b k := by simpa [aa] using z
    have h5:=Ls ha hd h4;refine ah ?_;simp[i64,h5]
   have h4:ak b k<ak a k:=by have:ak b k<=ak a k:=(by simpa[aa]using z);omega
   have h5:=Ls hb hd.symm h4;refine ah ?_;simp[i64,h5,Nat.lt_asymm h5]
  have h3:ak a k=ak b k:=by simpa[aa,aoe]using z
  refine ga (fu oz) ?_;exact aM J1 k ⟨by omega,by rw[yA a,yA b,hd,h3]⟩
 have oD:n=0:=by have:=z;simp[aa]at this;omega
 subst oD;refine ah ?_;simp at hd;simp[i64,hd]
theorem HP(a b:List Nat)(ha:Ws a)(hb:Ws b)(la:a.length<aI)(lb:b.length<aI):FP 369 [ws a,ws b] (ws (ofNat (val a+val b))):=by
 unfold aI at la lb;obtain⟨n,hn⟩:∃n,n=max a.length b.length+1:=⟨_,rfl⟩
 refine ai func369 ?_;refine gl ?_;refine gl ?_;refine gs (w6 (.tmp rfl) (.tmp rfl) rfl) ?_;refine ga (show _=(n:Int) by rw[eF oz];omega) ?_;refine gW (Wk.virt 900 1 rfl) ?_;refine lS [0,1,14] [] (fun(out:List Nat)(c i:Nat)=>[pP 5 (.ms 900 1 0 i),pP 6 (u64 c),pP 15 (i64 i)]) (fun out _ _=>[pP 900 (.row 1 (out.map u32))]) (fun out c i=>out.length=i/\i<=n/\Ws out/\c<=1/\val out+c*4294967296^i=val (a.take i)+val (b.take i)) (fun _ _ i=>n-i) ([]) 0 0 ⟨rfl,by omega,Aa,by omega,by simp[val]⟩ ?_;rintro out c i ⟨ho,hi,hw,hc,hv⟩ K1 J1;refine gC (fun z=>?_) (fun z=>?_) (st2:=(9,0))
 ·have ae : i < n := by simpa [aa] using z
  have h1:=cI ha i;have h2:=cI hb i;obtain⟨s,hs⟩:∃s,s=c+(ak a i+ak b i):=⟨_,rfl⟩
  have h3:=GN (u:=ak a i) (w:=ak b i) hv;rw[<- hs]at h3;refine gc (by apply pE <;> assumption) ?_;refine gc (by apply pE <;> assumption) ?_;refine ga (lW oz) ?_;refine ga ((lW oz).trans (show _=(s:Int) by congr 1;omega)) ?_;refine gv (fm _) ?_;refine gs (cF (.tmp rfl) rfl (by rw[apr,ho]) (.tmp rfl) T104 rfl T354 rfl rfl (by simp;omega) rfl rfl) ?_;refine gs (gX (.tmp rfl) (.const _) oz (jV _ 32 oz) rfl) ?_ (8,0);refine gW (Wk.of (sl:=[pP 0 (ws a),pP 1 (ws b),pP 5 (.ms 31 1 0 (i+1)),pP 6 (u64 (s/2^32)),pP 14 (i64 n),pP 15 (i64 i)]) (hp:=[pP 31 (.row 1 ((out++[s%4294967296]).map u32))]) a6 (.cons rfl (.of (by rw[ap8];rfl)) .nil)) ?_ (8,0);refine gW (Wk.rk (k:=31) (d:=900) rfl rfl) ?_;refine ga (eF oz) ?_;exact kL J1 (out++[s%4294967296]) (s/2^32) (i+1) ⟨by simp[ho],by omega,DA hw (yI oz),by omega,by rw[L9 ho,eV,eV,amp];exact h3⟩
 have ae:i=n:=by have:n<=i:=(by simpa[aa]using z);omega
 refine gW ((Wk.freeze (k:=900) rfl).trans<|Wk.of (sl:=[pP 5 (ws out)]) (hp:=[]) (.cons rfl (.of (b8 (by simp[ho]))) .nil) .nil) ?_;refine gc (vd out hw (by unfold aI;omega)) ?_;refine ah ?_;subst ae;rw[LU ha hb hn ho (by rw[gS (l:=out) oz];exact hv)]
theorem EB(a b:List Nat)(ha:Ws a)(hb:Ws b)(la:a.length<aI)(cG:val b<=val a):FP 370 [ws a,ws b] (ws (ofNat (val a-val b))):=by
 unfold aI at la;obtain⟨n,hn⟩:∃n,n=a.length:=⟨_,rfl⟩
 refine ai func370 ?_;refine gl ?_;refine gW (Wk.virt 900 1 rfl) ?_;refine lS [0,1] [] (fun(out:List Nat)(c i:Nat)=>[pP 5 (.ms 900 1 0 i),pP 6 (u64 c),pP 10 (i64 n),pP 11 (i64 i)]) (fun out _ _=>[pP 900 (.row 1 (out.map u32))]) (fun out c i=>out.length=i/\i<=n/\Ws out/\c<=1/\val out+val (b.take i)=val (a.take i)+c*4294967296^i) (fun _ _ i=>n-i) ([]) 0 0 ⟨rfl,by omega,Aa,by omega,by simp[val]⟩ ?_ (h1:=(.k (.k (.cons rfl (Sub.int (by rw[hn])) (.k .nil)))))
 rintro out c i ⟨ho,hi,hw,hc,hv⟩ K1 J1;refine gC (fun z=>?_) (fun z=>?_) (st2:=(9,0))
 ·have ae : i < n := by simpa [aa] using z
  have h1:=cI ha i;have h2:=cI hb i;obtain⟨s,hs⟩:∃s,s=4294967296+ak a i-ak b i-c:=⟨_,rfl⟩
  have h3:=M4 h1 h2 hc hv;rw[<- hs]at h3;refine gc (by apply pE <;> assumption) ?_;refine ga ((lW (x:=4294967296) oz)) ?_;refine gc (by apply pE <;> assumption) ?_;refine ga ((oK oz oz).trans (by rw[aq7 oz])) ?_;refine ga ((oK oz oz).trans (show _=(s:Int) by rw[aq7 oz];congr 1;omega)) ?_;refine gv (fm _) ?_;refine gs (cF (.tmp rfl) rfl (by rw[apr,ho]) (.tmp rfl) T104 rfl T354 rfl rfl (by simp;omega) rfl rfl) ?_;refine gs (gX (.tmp rfl) (.const _) oz (jV _ 32 oz) rfl) ?_;refine ga ((oK (x:=1) oz oz).trans (by rw[aq7 oz])) ?_ (8,0);refine gW (Wk.of (sl:=[pP 0 (ws a),pP 1 (ws b),pP 5 (.ms 28 1 0 (i+1)),pP 6 (u64 (1-s/2^32:Nat)),pP 10 (i64 n),pP 11 (i64 i)]) (hp:=[pP 28 (.row 1 ((out++[s%4294967296]).map u32))]) a6 (.cons rfl (.of (by rw[ap8];rfl)) .nil)) ?_ (8,0);refine gW (Wk.rk (k:=28) (d:=900) rfl rfl) ?_;refine ga (eF oz) ?_;exact kL J1 (out++[s%4294967296]) (1-s/2^32) (i+1) ⟨by simp[ho],by omega,DA hw (yI oz),by omega,by rw[L9 ho,eV,eV,amp];exact h3⟩
 have ae:i=n:=by have:n<=i:=(by simpa[aa]using z);omega
 refine gW ((Wk.freeze (k:=900) rfl).trans<|Wk.of (sl:=[pP 5 (ws out)]) (hp:=[]) (.cons rfl (.of (b8 (by simp[ho]))) .nil) .nil) ?_;refine gc (vd out hw (by unfold aI;omega)) ?_;refine ah ?_;subst ae;subst hn;rw[N6 ha hw ho cG hv]
theorem Y1(a b:List Nat)(ha:Ws a)(hb:Ws b)(la:a.length+b.length<=aI):FP 386 [ws a,ws b] (ws (ofNat (val a*val b))):=by
 have la':=la;unfold aI at la;refine ai func386 ?_;refine gl ?_;refine gl ?_;refine ga (m9 (by unfold bf;omega) (by unfold bf;omega)) ?_;refine gs (kJ (.tmp rfl) T104 rfl T354 rfl rfl oz (by dsimp only;omega) rfl) ?_;refine gl ?_;refine kg [0,1,17] [] (fun(out:List Nat)(i:Nat)=>[pP 5 (.ms 15 1 0 (a.length+b.length)),pP 18 (i64 i)]) (fun out _=>[pP 15 (.row 1 (out.map u32))]) (fun out i=>out.length=a.length+b.length/\i<=a.length/\Ws out/\val (out.take (i+b.length))=val (a.take i)*val b) (fun _ i=>a.length-i) (ana (a.length+b.length) 0) 0 ⟨by simp,by omega,p7 _,by simp[val,AP]⟩ ?_ (h2:=(.cons rfl (.of (by rw[aqu];rfl)) .nil))
 rintro out i ⟨ho,hi,hw,hv⟩ K1 J1;refine gC (fun z=>?_) (fun z=>?_) (st2:=(14,0))
 ·have ae : i < a.length := by simpa [aa] using z
  have h1:=cI ha i;refine gl ?_;refine lS [0,1,17,18,6,22] [] (fun(o:List Nat)(c k:Nat)=>[pP 5 (.ms 15 1 0 (a.length+b.length)),pP 7 (u64 c),pP 23 (i64 k)]) (fun o _ _=>[pP 15 (.row 1 (o.map u32))]) (fun o c k=>o.length=a.length+b.length/\k<=b.length/\Ws o/\c<4294967296/\val (o.take (i+b.length))+c*4294967296^(i+k)=val (out.take (i+b.length))+4294967296^i*(ak a i*val (b.take k))) (fun _ _ k=>b.length-k) out 0 0 ⟨ho,by omega,hw,by omega,by simp[val]⟩ ?_
  rintro o c k ⟨iJ,hk,mt,hc,jA⟩ K2 J2;refine gC (fun z=>?_) (fun z=>?_)
  ·have bp : k < b.length := by simpa [aa] using z
   have h2:=cI hb k;have h3:=cI mt (i+k);have h4:=Bk h1 h2;obtain⟨s,hs⟩:∃s,s=c+(ak a i*ak b k+ak o (i+k)):=⟨_,rfl⟩
   have h5:=N8 (x:=s%4294967296) (show i+k<o.length by omega) (show i+k<i+b.length by omega);have h6:=Lo h5 hs jA;refine gi (kp (n:=i) oz (by first |omega |(simp;omega))) ?_;refine gv (u64_in oz) ?_;refine gi (kp (n:=k) oz (by first |omega |(simp;omega))) ?_;refine gv (u64_in oz) ?_;refine ga (B3 oz) ?_;refine ga (m9 (by unfold bf;omega) (by unfold bf;omega)) ?_;refine gs (cM (n:=i+k) (.tmp rfl) (.tmp rfl) T104 rfl T354 rfl oz (by first |omega |(simp;omega)) rfl) ?_;refine gs (f0 (.tmp rfl) rfl (dc (i:=i+k) oz) T354 rfl rfl rfl) ?_;refine gv (u64_in oz) ?_;refine ga (lW oz) ?_;refine ga ((lW oz).trans (show _=(s:Int) by congr 1;omega)) ?_;refine gD ?_;refine ga (m9 (by unfold bf;omega) (by unfold bf;omega)) ?_;refine gv (fm _) ?_;refine gs (gX (.tmp rfl) (.const _) oz (jV _ 32 oz) rfl) ?_;refine gs (cM (n:=i+k) (.tmp rfl) (.tmp rfl) T104 rfl T354 rfl oz (by first |omega |(simp;omega)) rfl) ?_;refine gs (fg (.tmp rfl) rfl (dc (i:=i+k) oz) rfl (.tmp rfl) rfl rfl T354 rfl rfl) ?_;refine ga (eF oz) ?_;exact kL J2 (o.set (i+k) (s%4294967296)) (s/2^32) (k+1) ⟨by simp[iJ],by omega,jH mt oz,by omega,by rw[show i+(k+1)=(i+k)+1 from rfl,show s/2^32=s/4294967296 from rfl,amp,h6,eV];simp only[aqs];grind⟩ (hw:=Wk.of a6 (.cons rfl (.of (by rw[aq0];rfl)) .nil))
  have bp:k=b.length:=by have:b.length<=k:=(by simpa[aa]using z);omega
  subst bp;have h5:=pR (x:=c) (show i+b.length<o.length by omega);rw[ap5]at jA;refine gl ?_;refine ga (m9 (by unfold bf;omega) (by unfold bf;omega)) ?_;refine gv ((fm c).trans (by rw[al8 hc])) ?_;refine gs (cM (n:=i+b.length) (.tmp rfl) (.tmp rfl) T104 rfl T354 rfl oz (by first |omega |(simp;omega)) rfl) ?_;refine gs (fg (.tmp rfl) rfl (dc (i:=i+b.length) oz) rfl (.tmp rfl) rfl rfl T354 rfl rfl) ?_;refine ga (eF oz) ?_;exact jI J1 (o.set (i+b.length) c) (i+1) ⟨by simp[iJ],by omega,jH mt hc,by rw[show i+1+b.length=i+b.length+1 by omega,h5,eV];simp only[aqs]at *;grind⟩ (hw:=Wk.of a6 (.cons rfl (.of (by rw[aq0];rfl)) .nil))
 have ae:i=a.length:=by have:a.length<=i:=(by simpa[aa]using z);omega
 subst ae;rw[ap5,gS oz]at hv;refine gW ((Wk.freeze (k:=15) rfl).trans<|Wk.of (sl:=[pP 5 (ws out)]) (hp:=[]) (.cons rfl (.of (b8 (by simp[ho]))) .nil) .nil) ?_;refine gc (vd out hw oz) ?_;refine ah ?_;rw[hv]
theorem HH(a:Wh)(ha:a.ok):FP 267 [a.av] (i64 a.z.sign):=by
 obtain⟨e1,e2,e3⟩:=Lx ha;refine ai func267 ?_;refine gc (oH a ha) ?_;refine gl ?_;refine gC (fun z=>?_) (fun z=>?_)
 ·have h0 : a.m.length = 0 := by simpa [aa] using z
  refine ah ?_;rw[e1 h0];rfl
 have h0:a.m.length≠0:=by simpa[aa]using z
 have ic:a.valid=true:=by
  unfold Wh.m at h0;split at h0
  ·assumption
  ·exact ard rfl h0
 refine gc (lP a ha) ?_;refine gC (fun z=>?_) (fun z=>?_)
 ·have h1 : a.neg = true := by unfold Wh.n at z; rw [ic] at z; simpa using z
  refine ah ?_;rw[e2 h0 h1];rfl
 have h1:a.neg=false:=by unfold Wh.n at z;rw[ic]at z;simpa using z
 refine ah ?_;rw[e3 h0 h1];rfl
theorem JE(a:Wh)(ha:a.ok)(la:a.mag.length<aI):FP 268 [a.av] (zA (-a.z)):=by
 refine ai func268 ?_;refine gc (lP a ha) ?_;refine gc (oH a ha) ?_;refine gc (n6 _ a.m (Wh.ws ha) (amn (Wh.small ha la))) ?_;refine gD ?_;refine ah ?_;rw[Wh.z_eq,<- OU];rfl
theorem Yn(a b:Wh)(ha:a.ok)(hb:b.ok)(la:a.mag.length+b.mag.length<=aI):FP 286 [a.av,b.av] (zA (a.z*b.z)):=by
 have h1:=Wh.m_le (w:=a);have h2:=Wh.m_le (w:=b);have h3:(ofNat (val a.m*val b.m)).length<=a.m.length+b.m.length:=iF (by rw[aqs];exact amh (cU _ (Wh.ws ha)) (cU _ (Wh.ws hb)));refine ai func286 ?_;refine gc (lP a ha) ?_;refine gc (lP b hb) ?_;refine gc (oH a ha) ?_;refine gc (oH b hb) ?_;refine gc (Y1 a.m b.m (Wh.ws ha) (Wh.ws hb) oz) ?_;refine gc (n6 _ _ (eQ _) oz) ?_;refine gD ?_;refine ah ?_;rw[db,NG];rfl
theorem LR(a b:Wh)(ha:a.ok)(hb:b.ok)(la:a.mag.length<aI)(lb:b.mag.length<aI):FP 285 [a.av,b.av] (zA (a.z+b.z)):=by
 have h1:=Wh.m_le (w:=a);have h2:=Wh.m_le (w:=b);have ns:val a.m<4294967296^(max a.m.length b.m.length):=aqd (cU _ (Wh.ws ha)) (amk oz oz);have eY:val b.m<4294967296^(max a.m.length b.m.length):=aqd (cU _ (Wh.ws hb)) (amk oz oz);have h3:(ofNat (val a.m+val b.m)).length<=max a.m.length b.m.length+1:=iF (by rw[amp];omega);have h4:(ofNat (val a.m-val b.m)).length<=max a.m.length b.m.length:=iF oz;have h5:(ofNat (val b.m-val a.m)).length<=max a.m.length b.m.length:=iF oz;refine ai func285 ?_;refine gc (oH a ha) ?_;refine gc (oH b hb) ?_;refine gD ?_;refine gc (lP a ha) ?_;refine gc (lP b hb) ?_;refine gD ?_;refine gC (fun z=>?_) (fun z=>?_)
 ·have h0 : a.n = b.n := by simpa using z
  refine gc (lP a ha) ?_;refine gc (HP a.m b.m (Wh.ws ha) (Wh.ws hb) oz oz) ?_;refine gc (n6 _ _ (eQ _) oz) ?_;refine ah ?_;rw[db,P4 h0];rfl
 have h0:a.n≠b.n:=by simpa using z
 refine gc (Fv a.m b.m (Wh.ws ha) (Wh.ws hb)) ?_;refine gC (fun t25=>?_) (fun t25=>?_)
 ·have h6:val b.m<=val a.m:=by
   rcases apz (val a.m) (val b.m)with h |h
   ·rw[aq7 h]at t25;cases t25
   ·exact h
  refine gc (lP a ha) ?_;refine gc (EB a.m b.m (Wh.ws ha) (Wh.ws hb) oz oz) ?_;refine gc (n6 _ _ (eQ _) oz) ?_;refine ah ?_;rw[db,Hk h0 h6];rfl
 have h6:val a.m<val b.m:=by
  rcases apz (val a.m) (val b.m)with h |h
  ·exact h
  ·rw[aq6 oz]at t25;split at t25 <;> cases t25
 refine gc (lP b hb) ?_;refine gc (EB b.m a.m (Wh.ws hb) (Wh.ws ha) oz oz) ?_;refine gc (n6 _ _ (eQ _) oz) ?_;refine ah ?_;rw[db,LS h0 oz];rfl
theorem Nn(n:Int)(h:-9223372036854775808<=n/\n<=9223372036854775807):FP 141 [i64 n] (zA n):=by
 obtain⟨N,hN⟩:∃N,N=n.natAbs:=⟨_,rfl⟩
 have rH:N<18446744073709551616:=by omega
 refine ai func141 ?_;refine gv (show IntKind.u64.wrap n=((n%18446744073709551616:Int)) by simp only[IntKind.wrap,IntKind.signed,IntKind.bits,aox,if_false,aoz];omega) ?_;refine gC (fun z=>?_) (fun z=>?_) (st2:=(77777,0))
 ·have hn : n < 0 := by simpa [aa] using z
  refine gs (Bh (.tmp rfl) rfl) ?_ (4,0);refine gW (Wk.of (sl:=[pP 0 (i64 n),pP 2 (.ptr 2 0),pP 3 (u64 N)]) (hp:=[pP 2 (.box [.v (.bool false),nS])]) (.k (.k (.cons rfl (Sub.int (by simp only[IntKind.wrap,IntKind.signed,IntKind.bits,aox,if_false,aoz];omega)) .nil))) (.k .nil)) ?_;refine gv (fm _) ?_;refine gs (gX (.tmp rfl) (.const _) oz (jV _ 32 oz) rfl) ?_;refine gv ((fm _).trans (by rw[al8 (show N/2^32<4294967296 by omega)])) ?_;refine gc (n6 (aa .lss n 0) [N%4294967296,N/2^32] (AW rH) (by unfold aI;simp)) ?_;refine ah ?_;rw[CY rH,show sgn (aa .lss n 0) N=n by simp only[sgn,aa,aq8];split <;> omega];rfl
 have hn:¬n<0:=by simpa[aa]using z
 refine gW (Wk.of (sl:=[pP 0 (i64 n),pP 2 (.ptr 2 0),pP 3 (u64 N)]) (hp:=[pP 2 (.box [.v (.bool false),nS])]) (.k (.k (.cons rfl (Sub.int oz) .nil))) (.k .nil)) ?_;refine gv (fm _) ?_;refine gs (gX (.tmp rfl) (.const _) oz (jV _ 32 oz) rfl) ?_;refine gv ((fm _).trans (by rw[al8 (show N/2^32<4294967296 by omega)])) ?_;refine gc (n6 (aa .lss n 0) [N%4294967296,N/2^32] (AW rH) (by unfold aI;simp)) ?_;refine ah ?_;rw[CY rH,show sgn (aa .lss n 0) N=n by simp only[sgn,aa,aq8];split <;> omega];rfl
theorem ZU(a b:Wh)(ha:a.ok)(hb:b.ok)(la:a.mag.length<aI)(lb:b.mag.length<aI):FP 398 [a.av,b.av] (zA (a.z-b.z)):=by
 have h1:=(Wh.lz hb).neg;have h2:=RD h1;refine ai func398 ?_;refine gc (JE b hb lb) ?_;refine gc (LR a (ofInt (-b.z)) ha (Qt h1 hb.2) la oz) ?_;refine gD ?_;refine ah ?_;rw[fC,<- Int.sub_eq_add_neg];rfl
theorem V5(a b:Wh)(ha:a.ok)(hb:b.ok)(la:a.mag.length<aI)(lb:b.mag.length<aI):FP 306 [a.av,b.av] (i64 (ke a.z b.z)):=by
 have h1:=(Wh.lz ha).sub (Wh.lz hb);have h2:=RD h1;refine ai func306 ?_;refine gc (ZU a b ha hb la lb) ?_;refine gc (HH (ofInt (a.z-b.z)) (Qt h1 (by unfold bf;unfold aI at la lb;omega))) ?_;refine ah ?_;rw[fC,ad1]
theorem wh{A:List Nat}{n:Nat}:AV.lst 1 (((A.map u32).drop 0).take n)=ws (A.take n):=by
 rw[aq1,<- map_take];rfl
theorem Nd(A:List Nat):(Blk.row 1 (A.map u32)).sc=true:=by
 simp only[Blk.sc,List.all_map];rw[ap3];intro x _;rfl
theorem tW{A:List Nat}{n i:Nat}(h:i<n):ak (A.take n) i=ak A i:=by
 simp[ak,h]
theorem J0{A:List Nat}{n i:Nat}(h:n<=i):ak (A.take n) i=0:=wk (by simp;omega)
theorem Wl{x:Nat}(h:0<x):bm x=bm (x/2)+1:=by
 rcases apz x 2 with h1 |h1
 ·have : x = 1 := by omega
  subst this;decide
 ·have:=zW (x:=x) (k:=1) oz;rw[show x/2^1=x/2 from rfl]at this;omega
theorem ahp{a:List Nat}{n:Nat}(ha:Ws a)(na:Nz a)(hl:a.length=n+1):bm (val a)=32*n+bm (ak a n):=by
 have ht:ak a n≠0:=by
  refine na _ ?_;rw[an3,hl];exact mC oz
 have hv:val a=val (a.take n)+4294967296^n*ak a n:=by rw[<- eV,gS oz]
 have hlt:=uE ha n;have hp:(4294967296:Nat)^n=2^(32*n):=by rw[amd]
 rw[hp]at hv hlt
 have h1:val a/2^(32*n)=ak a n:=by
  rw[hv,amz _ _ (al7 oz),amv hlt,ams]
 have h2:2^(32*n)<=val a:=by
  have:=ap0 (2^(32*n)) (show 1<=ak a n by omega);omega
 rw[zW h2,h1]
theorem LM{o A:List Nat}{n v:Nat}(ho:Ws o)(hl:o.length=A.length)(hn:n<=A.length)(hd:o.drop n=A.drop n)(hv:val (o.take n)=v):o=wr A 0 (bC n v):=by
 have h1:bP o 0 n=bC n v:=AM (sr ho _ _) (tI oz) (by rw[bP,aq1,hv]);rw[<- h1];exact G6 (by simp) (by rw[ams];exact hd) oz
theorem Gb(k:Nat)(A:List Nat)(n i:Nat)(hA:Ws A)(hn:n<=A.length) :
  Con prog 428 [.ms k 1 0 n,i64 i] [(k,some (.row 1 (A.map u32)))] (u64 (ak (A.take n) i)) [(k,some (.row 1 (A.map u32)))]:=by
 refine Con.borrow (args:=[ws (A.take n),i64 i]) k 1 (A.map u32) rfl rfl rfl ?_ rfl (fun k' x h=>by cases h) (pE (A.take n) i (jN hA n));intro j x' hj
 match j,hj with
 |0,hj=>cases hj;exact .inr ⟨0,n,rfl,by simpa using hn,by rw[wh];rfl⟩
 |1,hj=>cases hj;exact .inl rfl
theorem agr(k1 k2:Nat)(hk:k1≠k2)(A D:List Nat)(n p:Nat)(hA:Ws A)(hD:Ws D)(hn:n<=A.length)(hp:p<=D.length) :
  Con prog 385 [.ms k1 1 0 n,.ms k2 1 0 p] [(k1,some (.row 1 (A.map u32))),(k2,some (.row 1 (D.map u32)))]
   (i64 (if val (A.take n)<val (D.take p)then -1 else if val (D.take p)<val (A.take n)then 1 else 0)) [(k1,some (.row 1 (A.map u32))),(k2,some (.row 1 (D.map u32)))]:=by
 have h1:Con prog 385 [ws (A.take n),.ms k2 1 0 p] [(k2,some (.row 1 (D.map u32)))]
   (i64 (if val (A.take n)<val (D.take p)then -1 else if val (D.take p)<val (A.take n)then 1 else 0)) [(k2,some (.row 1 (D.map u32)))]:=by
  refine Con.borrow (args:=[ws (A.take n),ws (D.take p)]) k2 1 (D.map u32) rfl rfl rfl ?_ rfl (fun k' x h=>by cases h) (Fv (A.take n) (D.take p) (jN hA n) (jN hD p));intro j x' hj
  match j,hj with
  |0,hj=>cases hj;exact .inl rfl
  |1,hj=>cases hj;exact .inr ⟨0,p,rfl,by simpa using hp,by rw[wh];rfl⟩
 refine Con.borrow (args:=[ws (A.take n),.ms k2 1 0 p]) k1 1 (A.map u32) ?_ ?_ rfl ?_ rfl ?_ h1
 ·rw[a5,aq6 hk];rfl
 ·rw[a5,aq6 hk];rfl
 ·intro j x' hj
  match j,hj with
  |0,hj=>cases hj;exact .inr ⟨0,n,rfl,by simpa using hn,by rw[wh];rfl⟩
  |1,hj=>cases hj;exact .inl rfl
 ·intro k' x h;obtain⟨_,h⟩:=i9 h;cases h;exact Nd D
theorem agw(k:Nat)(A b:List Nat)(n:Nat)(hA:Ws A)(hb:Ws b)(hn:n<=A.length) :
  Con prog 385 [.ms k 1 0 n,ws b] [(k,some (.row 1 (A.map u32)))]
   (i64 (if val (A.take n)<val b then -1 else if val b<val (A.take n)then 1 else 0)) [(k,some (.row 1 (A.map u32)))]:=by
 refine Con.borrow (args:=[ws (A.take n),ws b]) k 1 (A.map u32) rfl rfl rfl ?_ rfl (fun k' x h=>by cases h) (Fv (A.take n) b (jN hA n) hb);intro j x' hj
 match j,hj with
 |0,hj=>cases hj;exact .inr ⟨0,n,rfl,by simpa using hn,by rw[wh];rfl⟩
 |1,hj=>cases hj;exact .inl rfl
theorem Wp(a:List Nat)(ha:Ws a)(na:Nz a)(la:a.length<=aI):FP 427 [ws a] (i64 (bm (val a))):=by
 unfold aI at la;refine ai func427 ?_;refine gl ?_;refine gC (fun z=>?_) (fun z=>?_)
 ·have h0 : a=[] := an1.1 (by simpa[aa]using z);refine ah ?_;subst h0;rfl
 have h0:a.length≠0:=by simpa[aa]using z
 obtain⟨n,hn⟩:∃n,a.length=n+1:=⟨a.length-1,by omega⟩
 have hB:=ahp ha na hn;have ht:=cI ha n;refine gl ?_;refine ga (show _=(n:Int) by rw[fu oz];omega) ?_;refine ga (show _=((32*n:Nat):Int) by rw[GS oz];omega) ?_;refine gl ?_;refine ga (show _=(n:Int) by rw[fu oz];omega) ?_;refine gi (kp (n:=n) oz (by first |omega |(simp;omega))) ?_;refine kg [] [] (fun(x c:Nat)=>[pP 3 (i64 c),pP 4 (u32 x)]) (fun _ _=>[]) (fun x c=>x<4294967296/\c<=281474976710656/\c+bm x=bm (val a)) (fun x _=>x) (ak a n) (32*n) ⟨ht,by omega,hB.symm⟩ ?_;rintro x c ⟨hx,hc,hv⟩ K1 J1;refine gC (fun z=>?_) (fun z=>?_)
 ·have ik : 0 < x := by simpa [aa] using z
  have h2:=Wl ik
  have h3:bm (val a)<=32*n+32:=by
   have:=(F2 (x:=ak a n)  (by
    refine na _ ?_;rw[an3,hn];exact mC oz) ht).1
   omega
  refine ga (show _=((c+1:Nat):Int) by rw[eF oz];omega) ?_;refine gs (gX (.tmp rfl) (.const _) oz (u9 x 1 oz) rfl) ?_;exact jI J1 (x/2^1) (c+1) ⟨by omega,by omega,by rw[show x/2^1=x/2 from rfl];omega⟩
 have ik:x=0:=by have:x<=0:=(by simpa[aa]using z);omega
 subst ik;refine ah ?_;rw[<- hv];rfl
theorem EA(A:List Nat)(n:Nat)(hA:Ws A)(hn:n<=A.length)(la:A.length<=aI) :
  Con prog 426 [.ms 1000 1 0 n] [pP 1000 (.row 1 (A.map u32))] (.ms 1000 1 0 (ofNat (val (A.take n))).length) [pP 1000 (.row 1 (A.map u32))]:=by
 unfold aI at la;refine gF func426 (fun k z h=>bX h) ?_;refine aS [] [1000] (fun(j:Nat)=>[pP 0 (.ms 1000 1 0 j)]) (fun _=>[]) (fun j=>j<=n/\val (A.take j)=val (A.take n)) (fun j=>j) n ⟨apu _,rfl⟩ ?_;rintro j ⟨hj,hv⟩ K1 J1;refine uv (fun h=>(mU (by simp[aa]at h;omega) (by unfold bf;omega))) ?_;refine gs (gK rfl rfl rfl (fun h=>cM (n:=j-1) (.opt rfl (o1 h)) (.opt rfl (o1 h)) T104 rfl T354 rfl oz (by simp[aa]at h;omega) rfl)) ?_;refine gs (gK rfl rfl rfl (fun h=>f0 (.opt rfl (o1 h)) rfl (dc (i:=j-1) (by simp[aa]at h;omega)) T354 rfl rfl rfl)) ?_;refine gC (fun t14=>?_) (fun t14=>?_)
 ·have t14 : 0 < j /\ ak A (j - 1) = 0 := by simpa [aa] using t14
  refine ga (mU oz (by unfold bf;omega)) ?_;refine gs (AJ (.tmp rfl) (.none _) (.some _ (.tmp rfl) oz) T104 rfl T354 rfl oz oz rfl) ?_;exact aM J1 (j-1) ⟨by omega,by have h:=@eV A (j-1);rw[show j-1+1=j by omega,t14.2]at h;simp at h;omega⟩ (hw:=Wk.of (.cons rfl (.of (by congr 1)) .nil) (.k .nil))
 have t14:0<j->ak A (j-1)≠0:=by simpa[aa]using t14
 have kV := M6 (m := A.take n) (n := j) (jN hA n) (by simp; omega) (by rw [anp, amb hj]; exact hv) (by
  rcases al2 j with h |h
  ·exact .inl h
  ·exact .inr (by rw[tW oz];exact t14 h))
 subst kV;refine gR ?_;exact aD.own2 rfl rfl rfl
theorem BY(A:List Nat)(n:Nat)(hA:Ws A)(hn:n<=A.length)(la:A.length<=aI) :
  Con prog 424 [.ms 1000 1 0 n] [pP 1000 (.row 1 (A.map u32))] (.ms 1000 1 0 (ofNat (val (A.take n)/2)).length) [pP 1000 (.row 1 ((wr A 0 (bC n (val (A.take n)/2))).map u32))]:=by
 have la':=la;unfold aI at la;refine gF func424 (fun k z h=>bX h) ?_;refine kg [5] [] (fun(o:List Nat)(i:Nat)=>[pP 0 (.ms 1000 1 0 n),pP 6 (i64 i)]) (fun o _=>[pP 1000 (.row 1 (o.map u32))]) (fun o i=>o.length=A.length/\i<=n/\Ws o/\o.drop i=A.drop i/\val (o.take i)=val (A.take n)/2^1%4294967296^i) (fun _ i=>n-i) A 0 ⟨rfl,by omega,hA,rfl,by simp[val,Nat.mod_one]⟩ ?_;rintro o i ⟨ho,hi,hw,hd,hv⟩ K1 J1;refine gC (fun u=>?_) (fun u=>?_)
 ·have ae : i < n := by simpa [aa] using u
  have e1:ak (o.take n) i=ak (A.take n) i:=by rw[tW ae,tW ae];exact vJ hd
  have dP:o.drop (i+1)=A.drop (i+1):=by
   have h1:(o.drop i).drop 1=(A.drop i).drop 1:=by rw[hd]
   rwa [drop_drop,drop_drop]at h1
  have e2:ak (o.take n) (i+1)=ak (A.take n) (i+1):=by
   rcases apz (i+1) n with h |h
   ·rw[tW h,tW h];exact vJ dP
   ·rw[J0 h,J0 h]
  have b1:=cI (jN hA n) i;have b2:=cI (jN hA n) (i+1);have h3:=QN (n:=1) (jN hA n) (show i<(A.take n).length by simp;omega) (show i<o.length by omega) oz hv;refine gt (aK (Gb 1000 o n i hw oz) (bO rfl rfl) aL rfl rfl) ?_;refine gs (gX (.tmp rfl) (.const _) oz ((jV _ 1 oz).trans (by rw[e1])) rfl) ?_;refine ga (m9 (y:=1) (by unfold bf;omega) (by unfold bf;omega)) ?_;refine gt (aK (Gb 1000 o n (i+1) hw oz) (bO rfl rfl) aL rfl rfl) ?_;refine gs (kH (.tmp rfl) (.const _) oz ((v7 (n:=31) oz oz).trans (by rw[e2])) rfl) ?_;refine gs (mN (.tmp rfl) (.tmp rfl) rfl ((zJ oz oz).trans (by rw[Ho oz])) rfl) ?_;refine gv ((fm _).trans (show _=(((ak (A.take n) i+ak (A.take n) (i+1)*2^32)/2^1%4294967296:Nat):Int) by congr 1;omega)) ?_;refine gs (cM (n:=i) (.tmp rfl) (.tmp rfl) T104 rfl T354 rfl oz (by first |omega |(simp;omega)) rfl) ?_;refine gs (fg (.tmp rfl) rfl (dc (i:=i) oz) rfl (.tmp rfl) rfl rfl T354 rfl rfl) ?_;refine ga (eF oz) ?_;exact jI J1 (o.set i ((ak (A.take n) i+ak (A.take n) (i+1)*2^32)/2^1%4294967296)) (i+1) ⟨by simp[ho],by omega,jH hw oz,yX hd,h3⟩ (hw:=Wk.of a6 (.cons rfl (.of (by rw[aq0];rfl)) .nil))
 have ae:i=n:=by have:n<=i:=(by simpa[aa]using u);omega
 subst ae;have hlt:=uE hA i;have hv':val (o.take i)=val (A.take i)/2:=by rw[hv,al8 oz]
 have h9:=LM hw ho hn hd hv';refine gt (aK (EA o i hw oz oz) (du rfl) aL rfl rfl) ?_;refine gR ?_;exact aD.own2 rfl (by rw[<- h9]) (by rw[hv'];rfl)
theorem Rs(A b:List Nat)(n:Nat)(hA:Ws A)(hb:Ws b)(hn:n<=A.length)(la:A.length<=aI)(cG:val b<=val (A.take n)) :
  Con prog 425 [.ms 1000 1 0 n,ws b] [pP 1000 (.row 1 (A.map u32))] (.tup []) [pP 1000 (.row 1 ((wr A 0 (bC n (val (A.take n)-val b))).map u32))]:=by
 unfold aI at la;refine gF func425 (fun k z h=>bX h) ?_;refine lS [1,8] [] (fun(o:List Nat)(c i:Nat)=>[pP 0 (.ms 1000 1 0 n),pP 4 (u64 c),pP 9 (i64 i)]) (fun o _ _=>[pP 1000 (.row 1 (o.map u32))]) (fun o c i=>o.length=A.length/\i<=n/\Ws o/\c<=1/\o.drop i=A.drop i/\val (o.take i)+val (b.take i)=val (A.take i)+c*4294967296^i) (fun _ _ i=>n-i) A 0 0 ⟨rfl,by omega,hA,by omega,rfl,by simp[val]⟩ ?_;rintro o c i ⟨ho,hi,hw,hc,hd,hv⟩ K1 J1;refine gC (fun y=>?_) (fun y=>?_)
 ·have ae : i < n := by simpa [aa] using y
  have e1:ak (o.take n) i=ak A i:=by rw[tW ae];exact vJ hd
  have h1:=cI hA i;have h2:=cI hb i;obtain⟨s,hs⟩:∃s,s=4294967296+ak A i-ak b i-c:=⟨_,rfl⟩
  have h3:=M4 h1 h2 hc hv;rw[<- hs]at h3;refine gt (aK (Gb 1000 o n i hw oz) (bO rfl rfl) aL rfl rfl) ?_;refine ga ((lW (x:=4294967296) oz).trans (by rw[e1])) ?_;refine gc (pE b i hb) ?_;refine ga ((oK oz oz).trans (by rw[aq7 oz])) ?_;refine ga ((oK oz oz).trans (show _=(s:Int) by rw[aq7 oz];congr 1;omega)) ?_;refine gv (fm _) ?_;refine gs (gX (.tmp rfl) (.const _) oz (jV _ 32 oz) rfl) ?_;refine ga ((oK (x:=1) oz oz).trans (by rw[aq7 oz])) ?_;refine gs (cM (n:=i) (.tmp rfl) (.tmp rfl) T104 rfl T354 rfl oz (by first |omega |(simp;omega)) rfl) ?_;refine gs (fg (.tmp rfl) rfl (dc (i:=i) oz) rfl (.tmp rfl) rfl rfl T354 rfl rfl) ?_;refine ga (eF oz) ?_;exact kL J1 (o.set i (s%4294967296)) (1-s/2^32) (i+1) ⟨by simp[ho],by omega,jH hw oz,by omega,yX hd,by rw[pR oz,eV,eV,amp];exact h3⟩ (hw:=Wk.of a6 (.cons rfl (.of (by rw[aq0];rfl)) .nil))
 have ae:i=n:=by have:n<=i:=(by simpa[aa]using y);omega
 subst ae;have hl:(A.take i).length=i:=by simp;omega
 have h4:=N6 (a:=A.take i) (b:=b) (out:=o.take i) (jN hA i) (jN hw i) (by simp;omega) cG (by rw[hl,aqa (show(A.take i).length<=i by omega)];exact hv);have h9:=LM hw ho hn hd h4;refine gR ?_;exact aD.own2 rfl (by rw[<- h9]) rfl
theorem Ks{x:Nat}(h:x<=9223372036854775807):IntKind.i64.wrap ((x:Int).tdiv 32)=((x/32:Nat):Int):=by
 rw[show(32:Int)=((32:Nat):Int)from rfl,<- Int.ofNat_tdiv];exact i64_in oz
theorem RA{x:Nat}:(x:Int).tmod 32=((x%32:Nat):Int):=(Int.ofNat_tmod _ _).symm
theorem zO(i:Nat):(4294967296:Nat)^i=2^(32*i):=by rw[amd]
theorem aah{a:List Nat}(ha:Ws a){k:Nat}(hk:k/32<a.length):ak a (k/32)/2^(k%32)%2=val a/2^k%2:=by
 have h1:val a/2^k=(val a/4294967296^(k/32))/2^(k%32):=by
  rw[zO,am4,<- aqs];congr 2;omega
 rw[h1,Cu ha _ oz,yA];generalize val (a.drop (k/32+1))=R
 have h2:4294967296*R=2^(k%32)*(2*(2^(31-k%32)*R)):=by
  have:(4294967296:Nat)=2^(k%32)*(2*2^(31-k%32)):=by
   rw[<- Nat.pow_succ',<- aqs,show k%32+(31-k%32).succ=32 by omega]
  conv=>lhs;rw[this]
  grind
 rw[h2,amz _ _ (al7 oz),ami]
theorem Ux{w c:Nat}(hc:c<=1):w*2^1%4294967296 ||| c=w*2^1%4294967296+c:=by
 have h:w*2^1%4294967296=(w%2147483648)*2^1:=by omega
 rw[h];exact zK oz
theorem afu{o c P rt w bit:Nat}(hw:w<4294967296)(h:o+c*P=2*rt+bit) :
  (o+P*(w*2^1%4294967296+c))+(w/2^31)*(P*4294967296)=2*(rt+P*w)+bit:=by
 have h0:w*2^1%4294967296+(w/2^31)*4294967296=2*w:=by omega
 generalize w*2^1%4294967296=r at *;generalize w/2^31=q at *;grind
theorem V3{q:List Nat}(hq:Ws q){k Y:Nat}(hk:k/32<q.length)(h:val q=2^(k+1)*Y) :
  ak q (k/32) ||| 2^(k%32)=ak q (k/32)+2^(k%32)/\ak q (k/32)+2^(k%32)<4294967296:=by
 have h1:=Cu hq (k/32) oz;rw[yA,h,zO,show k+1=32*(k/32)+(k%32+1) by omega,aqs,alu,Nat.mul_div_cancel_left _ (al7 oz)]at h1;have hw:=cI hq (k/32);generalize ak q (k/32)=w at *;generalize val (q.drop (k/32+1))=R at *
 have hB:(4294967296:Nat)=2^(k%32+1)*2^(31-k%32):=by
  rw[<- aqs,show k%32+1+(31-k%32)=32 by omega]
 have h2:w%2^(k%32+1)=0:=by
  have h3:(w+4294967296*R)%2^(k%32+1)=0:=by rw[<- h1];exact Nat.mul_mod_right _ _
  rw[hB,alu,ami]at h3;exact h3
 have h4:w=2^(k%32+1)*(w/2^(k%32+1)):=by
  have:=amy w (2^(k%32+1));omega
 have h5:2^(k%32)<2^(k%32+1):=by rw[amp];have:=al7 (n:=k%32) (show 0<2 by omega);omega
 constructor
 ·rw[h4];exact(Nat.two_pow_add_eq_or_of_lt h5 _).symm
 ·have h6:w/2^(k%32+1)<2^(31-k%32):=by
   rw[al9 (al7 oz),alx,<- hB];exact hw
  have h7:=ap0 (2^(k%32+1)) (show w/2^(k%32+1)+1<=2^(31-k%32)from h6);rw[<- hB,ame,<- h4]at h7;omega
theorem ZZ{q:List Nat}(hq:Ws q){k Y:Nat}(hk:k/32<q.length)(h:val q=2^(k+1)*Y) :
  val (q.set (k/32) (ak q (k/32)+2^(k%32)))=2^k*(2*Y+1):=by
 have h1:=EK (x:=ak q (k/32)+2^(k%32)) hk;rw[ame]at h1;have h2:4294967296^(k/32)*2^(k%32)=2^k:=by rw[zO,<- aqs];congr 1;omega
 rw[h2,h,amp]at h1;grind
theorem ZO{V Bv k:Nat}(hB:0<Bv) :
  (Bv<=2*(V/2^(k+1)%Bv)+V/2^k%2->V/2^k%Bv=2*(V/2^(k+1)%Bv)+V/2^k%2-Bv/\V/2^k/Bv=2*(V/2^(k+1)/Bv)+1) /\
  (2*(V/2^(k+1)%Bv)+V/2^k%2<Bv->V/2^k%Bv=2*(V/2^(k+1)%Bv)+V/2^k%2/\V/2^k/Bv=2*(V/2^(k+1)/Bv)):=by
 have h1:V/2^(k+1)=V/2^k/2:=by rw[amp,am4]
 rw[h1];generalize V/2^k=X;have h2:=amy X 2;have h3:=amy (X/2) Bv;have h4:=alw (X/2) hB;have h5:=alw X (show 0<2 by omega);generalize X/2%Bv=r at *;generalize X/2/Bv=q at *;generalize X%2=b at *;generalize X/2=Y at *;constructor
 ·intro h;have:=CQ (a:=X) (w:=Bv) (q:=2*q+1) (r:=2*r+b-Bv) (by rw[ame,Nat.mul_one,show Bv*(2*q)=2*(Bv*q) by grind];omega) oz;exact⟨this.2,this.1⟩
 ·intro h;have:=CQ (a:=X) (w:=Bv) (q:=2*q) (r:=2*r+b) (by rw[show Bv*(2*q)=2*(Bv*q) by grind];omega) oz;exact⟨this.2,this.1⟩
theorem XQ{A l:List Nat}(h:l.length=A.length):wr A 0 l=l:=by
 unfold wr;rw[aqm oz];simp
theorem Pf{V:Nat}:V/2^bm V=0:=amv CT
theorem Rh{a:List Nat}(ha:Ws a){k:Nat}(h:k<bm (val a)):k/32<a.length:=by
 rcases apz (k/32) a.length with h1 |h1
 ·exact h1
 ·exfalso;have h2:=cU a ha;rw [zO] at h2;have h3:val a ≠ 0:=by intro h0; rw [h0] at h; simp [bm] at h
  have h4:=DB h3;have h5:2^(32*a.length)<=2^(bm (val a)-1):=uz oz;omega
theorem WG(a b:List Nat)(ha:Ws a)(hb:Ws b)(na:Nz a)(mr:val b≠0)(la:a.length<aI)(lb:b.length<aI) :
  FP 368 [ws a,ws b] (.tup [ws (ofNat (val a/val b)),ws (ofNat (val a%val b))]):=by
 have la':=la;have lb':=lb;unfold aI at la lb;obtain⟨V,hV⟩:∃V,V=val a:=⟨_,rfl⟩
 obtain⟨Bv,DW⟩:∃Bv,Bv=val b:=⟨_,rfl⟩
 have IY:0<Bv:=by omega
 have hBl:2*Bv<=4294967296^(b.length+1):=by have:=cU b hb;rw[amp];omega
 have nv:bm V<=32*a.length:=by
  rcases al2 (bm V)with h |h
  ·omega
  ·have := Rh ha (k := bm V-1) (by rw[<- hV];omega);omega
 rw[<- hV,<- DW];refine ai func368 ?_;refine gl ?_;refine gs (kJ (.tmp rfl) T104 rfl T354 rfl rfl oz (by dsimp only;omega) rfl) ?_;refine gl ?_;refine ga (m9 (y:=1) (by unfold bf;omega) (by unfold bf;omega)) ?_;refine gs (kJ (.tmp rfl) T104 rfl T354 rfl rfl oz (by dsimp only;omega) rfl) ?_;refine gc (hV▸Wp a ha na oz) ?_;refine ga (fu oz) ?_;refine lS [0,1] [] (fun(q r:List Nat)(i:Nat)=>[pP 6 (.ms 13 1 0 a.length),pP 7 (.ms 17 1 0 (b.length+1)),pP 8 (i64 ((i:Int)-1))]) (fun q r _=>[pP 13 (.row 1 (q.map u32)),pP 17 (.row 1 (r.map u32))]) (fun q r i=>q.length=a.length/\r.length=b.length+1/\Ws q/\Ws r/\i<=bm V/\val r=V/2^i%Bv/\val q=2^i*(V/2^i/Bv)) (fun _ _ i=>i) (ana a.length 0) (ana (b.length+1) 0) (bm V) ⟨by simp,by simp,p7 _,p7 _,apu _,by rw[AP,Pf,Nat.zero_mod],by rw[AP,Pf,Nat.zero_div,Nat.mul_zero]⟩ ?_ (h2:=(.cons rfl (.of (by rw[aqu];rfl)) (.cons rfl (.of (by rw[aqu];rfl)) .nil)))
 rintro q r i ⟨td,Av,wq,wr',hi,hr,hq⟩ K1 J1;refine gC (fun z=>?_) (fun z=>?_) (st2:=(15,0))
 ·have DX : 1 <= i := by have := z; simp [aa] at this; omega
  obtain⟨k,rfl⟩:∃k,i=k+1:=⟨i-1,by omega⟩
  rw[show((k+1:Nat):Int)-1=(k:Int) by omega];have hka:=Rh ha (k:=k) (by rw[<- hV];omega);have Sp:=aah ha hka;have hwB:=cI ha (k/32);rw[<- hV]at Sp;obtain⟨bit,DU⟩:∃bit,bit=V/2^k%2:=⟨_,rfl⟩
  have cE:bit<=1:=by omega
  have aln:=alw (V/2^(k+1)) IY;have hdw:ak a (k/32)/2^(k%32)<=ak a (k/32):=amc _ _;refine gs (ib (.tmp rfl) (.const _) oz (Ks oz) rfl) ?_;refine gi (kp (n:=k/32) oz (by first |omega |(simp;omega))) ?_;refine gs (Dc (.tmp rfl) (.const _) oz RA rfl) ?_;refine gs (gX (.tmp rfl) (.tmp rfl) oz (u9 _ (k%32) oz) rfl) ?_;refine gs (mN (.tmp rfl) (.const _) rfl ((KT (y:=1) oz oz).trans (show _=(bit:Int) by rw[Nat.and_one_is_mod,Sp,DU])) rfl) ?_;refine lS [0,1,8,35] [13] (fun(o:List Nat)(c j:Nat)=>[pP 6 (.ms 13 1 0 a.length),pP 7 (.ms 17 1 0 (b.length+1)),pP 9 (u32 c),pP 36 (i64 j)]) (fun o _ _=>[pP 17 (.row 1 (o.map u32))]) (fun o c j=>o.length=b.length+1/\Ws o/\j<=b.length+1/\c<=1/\o.drop j=r.drop j/\val (o.take j)+c*4294967296^j=2*val (r.take j)+bit) (fun _ _ j=>b.length+1-j) r bit 0 ⟨Av,wr',by omega,cE,rfl,by simp[val]⟩ ?_
  rintro o c j ⟨oA,wo,hj,hc,hd,hv⟩ K2 J2;refine gC (fun z=>?_) (fun z=>?_)
  ·have fL : j < b.length + 1 := by have := z; simp [aa] at this; omega
   have e1:ak o j=ak r j:=vJ hd;have h1:=cI wr' j;have h3:=afu (w:=ak r j) h1 hv;refine gs (cM (n:=j) (.tmp rfl) (.tmp rfl) T104 rfl T354 rfl oz (by first |omega |(simp;omega)) rfl) ?_;refine gs (f0 (.tmp rfl) rfl (by rw[dc (show j<o.length by omega),e1]) T354 rfl rfl rfl) ?_;refine gs (kH (.tmp rfl) (.const _) oz (MU (n:=1) oz) rfl) ?_;refine gs (mN (.tmp rfl) (.tmp rfl) rfl ((F0 oz oz).trans (by rw[Ux hc])) rfl) ?_;refine gs (cM (n:=j) (.tmp rfl) (.tmp rfl) T104 rfl T354 rfl oz (by first |omega |(simp;omega)) rfl) ?_;refine gs (f0 (.tmp rfl) rfl (by rw[dc (show j<o.length by omega),e1]) T354 rfl rfl rfl) ?_;refine gs (gX (.tmp rfl) (.const _) oz (u9 _ 31 oz) rfl) ?_;refine gs (cM (n:=j) (.tmp rfl) (.tmp rfl) T104 rfl T354 rfl oz (by first |omega |(simp;omega)) rfl) ?_;refine gs (fg (.tmp rfl) rfl (dc (i:=j) oz) rfl (.tmp rfl) rfl rfl T354 rfl rfl) ?_;refine gD ?_;refine ga (eF oz) ?_;exact kL J2 (o.set j (ak r j*2^1%4294967296+c)) (ak r j/2^31) (j+1) ⟨by simp[oA],jH wo oz,by omega,by omega,yX hd,by rw[pR oz,eV];rw[show 4294967296^(j+1)=4294967296^j*4294967296 from amp _ _];exact h3⟩ (hw:=Wk.of a6 (.cons rfl (.of (by rw[aq0];rfl)) (.k .nil)))
  have fL:j=b.length+1:=by have:b.length+1<=j:=(by have:=z;simp[aa]at this;omega);omega
  subst fL;rw[gS (l:=r) oz,gS (l:=o) oz,hr]at hv
  have uU:c=0:=by
   cases c with
   |zero=>rfl
   |succ c=>rw[am5]at hv;omega
  subst uU;rw[Nat.zero_mul,amj]at hv;have IZ:o.take (b.length+1)=o:=aqa oz;obtain⟨d1,d2⟩:=ZO (V:=V) (k:=k) IY;rw[<- DU]at d1 d2;have Sq:=agw 17 o b (b.length+1) wo hb oz;rw[IZ,<- DW,hv]at Sq;have DY:k/32<q.length:=by omega
  obtain⟨w1,w2⟩:=V3 wq DY hq;have w3:=ZZ wq DY hq;refine gt (aK Sq (bO rfl rfl) aL rfl rfl) ?_;refine gC (fun t58=>?_) (fun t58=>?_)
  ·have hge:Bv<=2*(V/2^(k+1)%Bv)+bit:=by
    rcases apz (2*(V/2^(k+1)%Bv)+bit) Bv with h |h
    ·rw[aq7 h]at t58;cases t58
    ·exact h
   obtain⟨d3,d4⟩:=d1 hge;have Sr:=Rs o b (b.length+1) wo hb oz (by unfold aI;omega) (by rw[IZ,<- DW,hv];exact hge);rw[IZ,<- DW,hv,<- d3,XQ (by rw[it,oA])]at Sr;have o9:V/2^k%Bv<4294967296^(b.length+1):=by have:=alw (V/2^k) IY;omega
   refine gt (aK (Con.rk 17 rfl rfl Sr) (bO rfl rfl) aL rfl rfl) ?_;refine gs (ib (.tmp rfl) (.const _) oz (Ks oz) rfl) ?_;refine gs (cM (n:=k/32) (.tmp rfl) (.tmp rfl) T104 rfl T354 rfl oz oz rfl) ?_;refine gs (f0 (.tmp rfl) rfl (dc (i:=k/32) DY) T354 rfl rfl rfl) ?_;refine gs (Dc (.tmp rfl) (.const _) oz RA rfl) ?_;refine gs (kH (.const _) (.tmp rfl) oz ((MU (x:=1) (n:=k%32) oz).trans (show _=((2^(k%32):Nat):Int) by rw[Nat.one_mul,al8 (aqj (Nat.le_add_left _ _) w2)])) rfl) ?_;refine gs (mN (.tmp rfl) (.tmp rfl) rfl ((F0 (cI wq _) (aqj (Nat.le_add_left _ _) w2)).trans (by rw[w1])) rfl) ?_;refine gs (cM (n:=k/32) (.tmp rfl) (.tmp rfl) T104 rfl T354 rfl oz oz rfl) ?_;refine gs (fg (.tmp rfl) rfl (dc (i:=k/32) DY) rfl (.tmp rfl) rfl rfl T354 rfl rfl) ?_;refine gD ?_;refine ga (fu oz) ?_;exact kL J1 (q.set (k/32) (ak q (k/32)+2^(k%32))) (bC (b.length+1) (V/2^k%Bv)) k ⟨by simp[td],it _ _,jH wq w2,nU _ _,by omega,pL _ _ o9,by rw[w3,d4]⟩ (hw:=Wk.of a6 (.cons rfl (.of (by first |rfl |(rw[aq0];rfl))) (.k .nil)))
  have hge:2*(V/2^(k+1)%Bv)+bit<Bv:=by
   rcases apz (2*(V/2^(k+1)%Bv)+bit) Bv with h |h
   ·exact h
   ·rw[aq6 oz]at t58;split at t58 <;> cases t58
  obtain⟨d3,d4⟩:=d2 hge;refine ga (fu oz) ?_;exact kL J1 q o k ⟨td,oA,wq,wo,by omega,by rw[hv,d3],by rw[hq,d4,amp,alu]⟩ (hw:=Wk.of a6 (.cons rfl (.of (by first |rfl |(rw[aq0];rfl))) (.k .nil)))
 have DX:i=0:=by have:=z;simp[aa]at this;omega
 subst DX;refine gW ((Wk.freeze (k:=13) rfl).trans<|(Wk.freeze (k:=17) rfl).trans<|Wk.of (sl:=[pP 6 (ws q),pP 7 (ws r)]) (hp:=[]) (.cons rfl (.of (by rw[show AV.fz 13 1 (q.map u32) (.ms 13 1 0 a.length)=ws q from b8 (by simp[td])];rfl)) (.cons rfl (.of (b8 (by simp[Av]))) .nil)) .nil) ?_;refine gc (vd q wq oz) ?_;refine gc (vd r wr' (by unfold aI;omega)) ?_;refine bK ?_;rw[hr,hq];simp[]
def lD(L:Nat)(A:List Nat)(n:Nat):Prop:=Ws A/\n<=A.length/\A.length<=L/\n=(ofNat (val (A.take n))).length
theorem Th(v:Nat):ofNat v=bC (ofNat v).length v:=by
 have h:=yk (ofNat v) (eQ _)
 rwa [db]at h
theorem mT{L:Nat}{A:List Nat}{n v:Nat}(h:lD L A n)(hv:v<=val (A.take n)) :
  lD L (wr A 0 (bC n v)) (ofNat v).length/\val ((wr A 0 (bC n v)).take (ofNat v).length)=v/\val ((wr A 0 (bC n v)).take n)=v:=by
 obtain⟨hw,hn,hl,hN⟩:=h;have hlt:=uE hw n;have pf:v<4294967296^n:=by omega
 have cG:(ofNat v).length<=n:=iF pf
 have ht:(wr A 0 (bC n v)).take n=bC n v:=by
  unfold wr;rw[List.take_zero,nil_append,anb (by rw[it];omega),aqa (by rw[it];omega)]
 have Ss:(wr A 0 (bC n v)).take (ofNat v).length=ofNat v:=by
  have h1:((wr A 0 (bC n v)).take n).take (ofNat v).length=(wr A 0 (bC n v)).take (ofNat v).length:=by rw[anp,amb cG]
  rw[<- h1,ht,Fu _ _ _ cG,<- Th]
 have bV:(wr A 0 (bC n v)).length=A.length:=qR (by rw[it];omega);refine⟨⟨vL hw (nU _ _),by omega,by omega,by rw[Ss,db]⟩,by rw[Ss,db],by rw[ht,pL _ _ pf]⟩
theorem kI{L:Nat}{A:List Nat}{n:Nat}(h:lD L A n)(hx:0<val (A.take n)):0<n/\val (A.take n)%2=ak A 0%2:=by
 have hn:0<n:=by
  rcases al2 n with h0 |h0
  ·subst h0;simp[val]at hx
  ·exact h0
 refine⟨hn,?_⟩;have:=yA (A.take n) 0;rw[aq1,tW hn]at this;omega
theorem YT{L:Nat}{A:List Nat}{n:Nat}(h:lD L A n):A.take n=ofNat (val (A.take n)):=by
 obtain⟨hw,hn,hl,hN⟩:=h;have h1:=PV (jN hw n);rw[<- hN,anp,Nat.min_self]at h1;exact h1
theorem Qf{L:Nat}{A:List Nat}{n:Nat}(h:lD L A n):n=0↔val (A.take n)=0:=by
 constructor
 ·intro h0;subst h0;rfl
 ·intro h0;have h1:=h.2.2.2;rw[h0]at h1;exact h1
theorem abi{x y:Nat}(hx:x%2=0)(hy:y%2=0):amo x y=2*amo (x/2) (y/2):=by
 rw[<- Nat.gcd_mul_left,Nat.mul_div_cancel' (Nat.dvd_of_mod_eq_zero hx),Nat.mul_div_cancel' (Nat.dvd_of_mod_eq_zero hy)]
theorem QU{x y:Nat}(hx:x%2=0)(hy:y%2=1):amo (x/2) y=amo x y:=by
 have h1:x=2*(x/2):=by omega
 have h2:Nat.Coprime 2 y:=by
  rw[Nat.Coprime,Nat.gcd_rec,hy];rfl
 conv=>rhs;rw[h1]
 exact(Nat.Coprime.gcd_mul_left_cancel _ h2).symm
theorem Lp{x y:Nat}(h:y<=x):amo (x-y) y=amo x y:=Nat.gcd_sub_self_left h
theorem Oz{t L g V:Nat}(hg:0<g)(h:2^t*g<=V)(hV:V<4294967296^L):t<32*L:=by
 rw[zO]at hV;have h1:=ap0 (2^t) (show 1<=g from hg);rcases apz t (32*L)with h2 |h2
 ·exact h2
 ·have:=uz h2;omega
theorem PF(A D:List Nat)(n p:Nat)(hA:Ws A)(hD:Ws D)(hn:n<=A.length)(hp:p<=D.length)(la:A.length<=aI)(cG:val (D.take p)<=val (A.take n)) :
  Con prog 425 [.ms 901 1 0 n,.ms 902 1 0 p] [pP 902 (.row 1 (D.map u32)),pP 901 (.row 1 (A.map u32))] (.tup [])
   [pP 902 (.row 1 (D.map u32)),pP 901 (.row 1 ((wr A 0 (bC n (val (A.take n)-val (D.take p)))).map u32))]:=by
 have h1:=Con.rk 901 rfl rfl (Rs A (D.take p) n hA (jN hD p) hn la cG);refine Con.borrow (args:=[.ms 901 1 0 n,ws (D.take p)]) 902 1 (D.map u32) rfl rfl rfl ?_ rfl ?_ h1
 ·intro j x' hj
  match j,hj with
  |0,hj=>cases hj;exact .inl rfl
  |1,hj=>cases hj;exact .inr ⟨0,p,rfl,by simpa using hp,by rw[wh];rfl⟩
 ·intro k' x h;obtain⟨_,h⟩:=i9 h;cases h;exact Nd _
theorem Ba{A:List Nat}(hA:Ws A){i:Nat}:tO .and .u32 (ak A i:Int) 1=((ak A i%2:Nat):Int) :=
 (KT (y:=1) (cI hA i) oz).trans (by rw[Nat.and_one_is_mod])
theorem agq(a b:List Nat)(ha:Ws a)(hb:Ws b)(na:Nz a)(nb:Nz b)(la:a.length+b.length<aI):FP 367 [ws a,ws b] (ws (ofNat (amo (val a) (val b)))):=by
 have la':=la;unfold aI at la;have ea:=vG ha na;have eb:=vG hb nb;obtain⟨L,hL⟩:∃L,L=a.length+b.length:=⟨_,rfl⟩
 obtain⟨G,hG⟩:∃G,G=amo (val a) (val b):=⟨_,rfl⟩
 rw[<- hG];refine ai func367 ?_;refine gt (aK (EO 901 rfl a ha (by unfold aI;omega)) (du rfl) aL rfl rfl) ?_;refine gt (aK (EO 902 rfl b hb (by unfold aI;omega)) (du rfl) aL rfl rfl) ?_ (2,0);refine gW (Wk.of (sl:=[pP 0 (.ms 901 1 0 a.length),pP 1 (.ms 902 1 0 b.length)]) (hp:=[pP 901 (.row 1 (a.map u32)),pP 902 (.row 1 (b.map u32))]) (.cons rfl (.of (by rw[ea])) (.cons rfl (.of (by rw[eb])) .nil)) (.k (.k .nil))) ?_;refine gC (fun z=>?_) (fun z=>?_) (st1:=(3,0))
 ·have h0 : a=[] := an1.1 (by simpa[aa]using z);refine gW ((Wk.freeze (k:=902) rfl).trans<|Wk.of (sl:=[pP 1 (ws b)]) (hp:=[]) (.cons rfl (.of (b8 (by simp))) .nil) .nil) ?_;refine ah ?_;rw[hG,h0];simp[val,eb]
 have h0:a≠[]:=fun h=>by rw[h]at z;simp[aa]at z
 refine gC (fun z=>?_) (fun z=>?_) (st1:=(5,0))
 ·have h1 : b=[] := an1.1 (by simpa[aa]using z);refine gW ((Wk.freeze (k:=901) rfl).trans<|Wk.of (sl:=[pP 0 (ws a)]) (hp:=[]) (.cons rfl (.of (b8 (by simp))) .nil) .nil) ?_;refine ah ?_;rw[hG,h1];simp[val,ea]
 have h1:b≠[]:=fun h=>by rw[h]at z;simp[aa]at z
 have va:=tD na h0;have vb:=tD nb h1;have hGp:0<G:=by rw[hG];exact Nat.gcd_pos_of_pos_left _ va
 have Su:G<=val a:=by rw[hG];exact Nat.gcd_le_left _ va
 have vla:=cU a ha;refine NC [] [] (fun(A D:List Nat)(n p t:Nat)=>[pP 0 (.ms 901 1 0 n),pP 1 (.ms 902 1 0 p),pP 5 (i64 t)]) (fun A D _ _ _=>[pP 901 (.row 1 (A.map u32)),pP 902 (.row 1 (D.map u32))]) (fun A D n p t=>lD L A n/\lD L D p/\0<val (A.take n)/\0<val (D.take p)/\G=2^t*amo (val (A.take n)) (val (D.take p))) (fun A _ n _ _=>val (A.take n)) a b a.length b.length 0 ⟨⟨ha,apu _,by omega,by rw[ap5,ea]⟩,⟨hb,apu _,by omega,by rw[ap5,eb]⟩,by rw[ap5];exact va,by rw[ap5];exact vb,by rw[ap5,ap5,hG];simp⟩ ?_
 rintro A D n p t ⟨gA,gD,pA,pD,hg⟩ K1 J1;refine gs (cM (n:=0) (.tmp rfl) (.const _) T104 rfl T354 rfl oz (by have:=(kI gA pA).1;omega) rfl) ?_;refine gs (f0 (.tmp rfl) rfl (dc (i:=0) (by have:=(kI gA pA).1;have:=gA.2.1;omega)) T354 rfl rfl rfl) ?_;refine gs (mN (.tmp rfl) (.const _) rfl (Ba gA.1) rfl) ?_;refine gs (gK rfl rfl rfl (fun h=>cM (n:=0) (.opt rfl (o1 h)) (.const _) T104 rfl T354 rfl oz (by have:=(kI gD pD).1;omega) rfl)) ?_;refine gs (gK rfl rfl rfl (fun h=>f0 (.opt rfl (o1 h)) rfl (dc (i:=0) (by have:=(kI gD pD).1;have:=gD.2.1;omega)) T354 rfl rfl rfl)) ?_;refine gs (gK rfl rfl rfl (fun h=>mN (.opt rfl (o1 h)) (.const _) rfl (Ba gD.1) rfl)) ?_;refine gC (fun t29=>?_) (fun t29=>?_)
 ·have kU:ak A 0%2=0/\ak D 0%2=0:=by
   have:=t29;simp[aa]at this;omega
  have xA:val (A.take n)%2=0:=by rw[(kI gA pA).2];exact kU.1
  have xD:val (D.take p)%2=0:=by rw[(kI gD pD).2];exact kU.2
  obtain⟨k1,k2,k3⟩:=mT gA (v:=val (A.take n)/2) oz;obtain⟨m1,m2,m3⟩:=mT gD (v:=val (D.take p)/2) oz;have ht:t<32*a.length:=Oz (Nat.gcd_pos_of_pos_left _ pA) (by rw[<- hg];exact Su) vla;refine gt (aK (Con.rekeyR 901 rfl (BY A n gA.1 gA.2.1 (by have:=gA.2.2.1;unfold aI;omega))) (du rfl) aL rfl rfl) ?_;refine gt (aK (Con.rekeyR 902 rfl (BY D p gD.1 gD.2.1 (by have:=gD.2.2.1;unfold aI;omega))) (du rfl) aL rfl rfl) ?_;refine ga (show _=((t+1:Nat):Int) by rw[eF oz];omega) ?_;exact LW J1 (wr A 0 (bC n (val (A.take n)/2))) (wr D 0 (bC p (val (D.take p)/2))) ((ofNat (val (A.take n)/2)).length) ((ofNat (val (D.take p)/2)).length) (t+1) ⟨k1,m1,by rw[k2];omega,by rw[m2];omega,by rw[k2,m2,hg,abi xA xD,amp];grind⟩ (by rw[k2];omega)
 have hod:val (A.take n)%2=1\/val (D.take p)%2=1:=by
  rw[(kI gA pA).2,(kI gD pD).2];have:=t29;simp[aa]at this;omega
 refine gL4 [5] [] (fun(A1 D1:List Nat)(n1 p1:Nat)=>[pP 0 (.ms 901 1 0 n1),pP 1 (.ms 902 1 0 p1)]) (fun A1 D1 _ _=>[pP 901 (.row 1 (A1.map u32)),pP 902 (.row 1 (D1.map u32))]) (fun A1 D1 n1 p1=>lD L A1 n1/\lD L D1 p1/\0<val (D1.take p1)/\(val (A1.take n1)%2=1\/val (D1.take p1)%2=1)/\G=2^t*amo (val (A1.take n1)) (val (D1.take p1))) (fun A1 D1 n1 p1=>val (A1.take n1)+val (D1.take p1)) A D n p ⟨gA,gD,pD,hod,hg⟩ ?_
 rintro A1 D1 n1 p1 ⟨gA1,gD1,pD1,alb,rG⟩ K2 J2;refine gC (fun t38=>?_) (fun t38=>?_) (st2:=(19,0))
 ·have pA1:0<val (A1.take n1):=by
   have h3:n1≠0:=by have:=t38;simp[aa]at this;omega
   exact Nat.pos_of_ne_zero (fun h=>h3 ((Qf gA1).2 h))
  refine kg [5] [902] (fun(A2:List Nat)(n2:Nat)=>[pP 0 (.ms 901 1 0 n2),pP 1 (.ms 902 1 0 p1)]) (fun A2 _=>[pP 901 (.row 1 (A2.map u32))]) (fun A2 n2=>lD L A2 n2/\0<val (A2.take n2)/\val (A2.take n2)<=val (A1.take n1)/\(val (A2.take n2)%2=1\/val (D1.take p1)%2=1)/\amo (val (A2.take n2)) (val (D1.take p1))=amo (val (A1.take n1)) (val (D1.take p1))) (fun A2 n2=>val (A2.take n2)) A1 n1 ⟨gA1,pA1,apu _,alb,rfl⟩ ?_
  rintro A2 n2 ⟨gA2,pA2,lA2,alo,cZ⟩ K3 J3;refine gs (cM (n:=0) (.tmp rfl) (.const _) T104 rfl T354 rfl oz (by have:=(kI gA2 pA2).1;omega) rfl) ?_;refine gs (f0 (.tmp rfl) rfl (dc (i:=0) (by have:=(kI gA2 pA2).1;have:=gA2.2.1;omega)) T354 rfl rfl rfl) ?_;refine gs (mN (.tmp rfl) (.const _) rfl (Ba gA2.1) rfl) ?_;refine gC (fun t43=>?_) (fun t43=>?_)
  ·have xA2:val (A2.take n2)%2=0:=by
    rw[(kI gA2 pA2).2];have:=t43;simp[aa]at this;omega
   obtain⟨k1,k2,k3⟩:=mT gA2 (v:=val (A2.take n2)/2) oz;refine gt (aK (Con.rekeyR 901 rfl (BY A2 n2 gA2.1 gA2.2.1 (by have:=gA2.2.2.1;unfold aI;omega))) (du rfl) aL rfl rfl) ?_;exact jI J3 (wr A2 0 (bC n2 (val (A2.take n2)/2))) ((ofNat (val (A2.take n2)/2)).length) ⟨k1,by rw[k2];omega,by rw[k2];omega,.inr oz,by rw[k2,QU xA2 oz,cZ]⟩ (by rw[k2];omega)
  have xA2:val (A2.take n2)%2=1:=by
   rw[(kI gA2 pA2).2];have:=t43;simp[aa]at this;omega
  refine kg [5] [901] (fun(D2:List Nat)(p2:Nat)=>[pP 0 (.ms 901 1 0 n2),pP 1 (.ms 902 1 0 p2)]) (fun D2 _=>[pP 902 (.row 1 (D2.map u32))]) (fun D2 p2=>lD L D2 p2/\0<val (D2.take p2)/\val (D2.take p2)<=val (D1.take p1)/\amo (val (A2.take n2)) (val (D2.take p2))=amo (val (A2.take n2)) (val (D1.take p1))) (fun D2 p2=>val (D2.take p2)) D1 p1 ⟨gD1,pD1,apu _,rfl⟩ ?_;rintro D2 p2 ⟨gD2,pD2,lD2,I0⟩ K4 J4;refine gs (cM (n:=0) (.tmp rfl) (.const _) T104 rfl T354 rfl oz (by have:=(kI gD2 pD2).1;omega) rfl) ?_;refine gs (f0 (.tmp rfl) rfl (dc (i:=0) (by have:=(kI gD2 pD2).1;have:=gD2.2.1;omega)) T354 rfl rfl rfl) ?_;refine gs (mN (.tmp rfl) (.const _) rfl (Ba gD2.1) rfl) ?_;refine gC (fun t50=>?_) (fun t50=>?_)
  ·have xD2:val (D2.take p2)%2=0:=by
    rw[(kI gD2 pD2).2];have:=t50;simp[aa]at this;omega
   obtain⟨k1,k2,k3⟩:=mT gD2 (v:=val (D2.take p2)/2) oz;refine gt (aK (Con.rekeyR 902 rfl (BY D2 p2 gD2.1 gD2.2.1 (by have:=gD2.2.2.1;unfold aI;omega))) (du rfl) aL rfl rfl) ?_;exact jI J4 (wr D2 0 (bC p2 (val (D2.take p2)/2))) ((ofNat (val (D2.take p2)/2)).length) ⟨k1,by rw[k2];omega,by rw[k2];omega,by rw[k2,al0,QU xD2 xA2,al0,I0]⟩ (by rw[k2];omega)
  have xD2:val (D2.take p2)%2=1:=by
   rw[(kI gD2 pD2).2];have:=t50;simp[aa]at this;omega
  refine gt (aK (agr 901 902 oz A2 D2 n2 p2 gA2.1 gD2.1 gA2.2.1 gD2.2.1) (bO rfl rfl) aL rfl rfl) ?_;refine gC (fun t56=>?_) (fun t56=>?_) (st1:=(17,0)) (st2:=(77777,0))
  ·have hlt:val (A2.take n2)<val (D2.take p2):=by
    rcases apz (val (A2.take n2)) (val (D2.take p2))with h |h
    ·exact h
    ·rw[aq6 oz]at t56;split at t56 <;> cases t56
   refine gW (Wk.o (sl:=[pP 0 (.ms 902 1 0 p2),pP 1 (.ms 901 1 0 n2),pP 5 (i64 t)]) (hp:=[pP 901 (.row 1 (A2.map u32)),pP 902 (.row 1 (D2.map u32))])) ?_ (17,0);refine gW (Wk.rk (k:=901) (d:=903) rfl rfl) ?_ (17,0);refine gW (Wk.rk (k:=902) (d:=901) rfl rfl) ?_ (17,0);refine gW (Wk.rk (k:=903) (d:=902) rfl rfl) ?_ (17,0);refine gW (Wk.of (sl:=[pP 0 (.ms 901 1 0 p2),pP 1 (.ms 902 1 0 n2),pP 5 (i64 t)]) (hp:=[pP 901 (.row 1 (D2.map u32)),pP 902 (.row 1 (A2.map u32))]) (.cons rfl (Sub.refl _) (.cons rfl (Sub.refl _) (.cons rfl (Sub.refl _) .nil))) (.k (.k .nil))) ?_ (17,0);obtain⟨A3,D3,n3,p3,gA3,gD3,xA3,xD3,Aw,I1,hs3,e1,e2,e3,e4⟩:∃A3 D3 n3 p3,lD L A3 n3/\lD L D3 p3/\val (A3.take n3)%2=1/\val (D3.take p3)%2=1/\val (D3.take p3)<=val (A3.take n3)/\amo (val (A3.take n3)) (val (D3.take p3))=amo (val (A2.take n2)) (val (D2.take p2))/\val (A3.take n3)+val (D3.take p3)=val (A2.take n2)+val (D2.take p2)/\A3=D2/\n3=p2/\D3=A2/\p3=n2:=⟨D2,A2,p2,n2,gD2,gA2,xD2,xA2,by omega,al0 _ _,ama _ _,rfl,rfl,rfl,rfl⟩
   rw[<- e1,<- e2,<- e3,<- e4];refine go ?_;refine gt (aK (PF A3 D3 n3 p3 gA3.1 gD3.1 gA3.2.1 gD3.2.1 (by have:=gA3.2.2.1;unfold aI;omega) Aw) (bO rfl rfl) aL rfl rfl) ?_;refine gt (aK (Con.rekeyR 901 rfl (EA (wr A3 0 (bC n3 (val (A3.take n3)-val (D3.take p3)))) n3 (vL gA3.1 (nU _ _)) (by rw[qR (by rw[it];have:=gA3.2.1;omega)];exact gA3.2.1) (by rw[qR (by rw[it];have:=gA3.2.1;omega)];have:=gA3.2.2.1;unfold aI;omega))) (du rfl) aL rfl rfl) ?_;exact J8 J2 (wr A3 0 (bC n3 (val (A3.take n3)-val (D3.take p3)))) D3 ((ofNat (val (A3.take n3)-val (D3.take p3))).length) p3 ⟨(mT gA3 oz).1,gD3,by omega,.inr xD3,by rw[(mT gA3 (v:=val (A3.take n3)-val (D3.take p3)) oz).2.1,Lp Aw,I1,I0,cZ,rG]⟩ (by rw[(mT gA3 (v:=val (A3.take n3)-val (D3.take p3)) oz).2.1];omega) (hw:=Wk.of (.cons rfl (.of (by rw[(mT gA3 (v:=val (A3.take n3)-val (D3.take p3)) oz).2.2])) (.k (.k .nil))) (.k (.k .nil)))
  have hlt:val (D2.take p2)<=val (A2.take n2):=by
   rcases apz (val (A2.take n2)) (val (D2.take p2))with h |h
   ·rw[aq7 h]at t56;cases t56
   ·exact h
  refine gW (Wk.o (sl:=[pP 0 (.ms 901 1 0 n2),pP 1 (.ms 902 1 0 p2),pP 5 (i64 t)]) (hp:=[pP 901 (.row 1 (A2.map u32)),pP 902 (.row 1 (D2.map u32))])) ?_ (77777,0);obtain⟨A3,D3,n3,p3,gA3,gD3,xA3,xD3,Aw,I1,hs3,e1,e2,e3,e4⟩:∃A3 D3 n3 p3,lD L A3 n3/\lD L D3 p3/\val (A3.take n3)%2=1/\val (D3.take p3)%2=1/\val (D3.take p3)<=val (A3.take n3)/\amo (val (A3.take n3)) (val (D3.take p3))=amo (val (A2.take n2)) (val (D2.take p2))/\val (A3.take n3)+val (D3.take p3)=val (A2.take n2)+val (D2.take p2)/\A3=A2/\n3=n2/\D3=D2/\p3=p2:=⟨A2,D2,n2,p2,gA2,gD2,xA2,xD2,hlt,rfl,rfl,rfl,rfl,rfl,rfl⟩
  rw[<- e1,<- e2,<- e3,<- e4];obtain⟨k1,k2,k3⟩:=mT gA3 (v:=val (A3.take n3)-val (D3.take p3)) oz;refine go ?_;refine gt (aK (PF A3 D3 n3 p3 gA3.1 gD3.1 gA3.2.1 gD3.2.1 (by have:=gA3.2.2.1;unfold aI;omega) Aw) (bO rfl rfl) aL rfl rfl) ?_;refine gt (aK (Con.rekeyR 901 rfl (EA (wr A3 0 (bC n3 (val (A3.take n3)-val (D3.take p3)))) n3 (vL gA3.1 (nU _ _)) (by rw[qR (by rw[it];have:=gA3.2.1;omega)];exact gA3.2.1) (by rw[qR (by rw[it];have:=gA3.2.1;omega)];have:=gA3.2.2.1;unfold aI;omega))) (du rfl) aL rfl rfl) ?_;exact J8 J2 (wr A3 0 (bC n3 (val (A3.take n3)-val (D3.take p3)))) D3 ((ofNat (val (A3.take n3)-val (D3.take p3))).length) p3 ⟨(mT gA3 oz).1,gD3,by omega,.inr xD3,by rw[(mT gA3 (v:=val (A3.take n3)-val (D3.take p3)) oz).2.1,Lp Aw,I1,I0,cZ,rG]⟩ (by rw[(mT gA3 (v:=val (A3.take n3)-val (D3.take p3)) oz).2.1];omega) (hw:=Wk.of (.cons rfl (.of (by rw[(mT gA3 (v:=val (A3.take n3)-val (D3.take p3)) oz).2.2])) (.k (.k .nil))) (.k (.k .nil)))
 have zA1:val (A1.take n1)=0:=by
  have h3:n1=0:=by have:=t38;simp[aa]at this;omega
  exact(Qf gA1).1 h3
 rw[zA1,Nat.gcd_zero_left]at rG;refine gW ((Wk.freeze (k:=902) rfl).trans<|Wk.of (sl:=[pP 1 (ws (ofNat (val (D1.take p1)))),pP 5 (i64 t)]) (hp:=[]) (.cons rfl (.of (by rw[Cq (by rw[apr];have:=gD1.2.1;omega),wh,<- YT gD1])) (.k .nil)) .nil) ?_;refine aS [64] [] (fun(i:Nat)=>[pP 1 (ws (ofNat (2^i*val (D1.take p1)))),pP 65 (i64 i)]) (fun _=>[]) (fun i=>i<=t) (fun i=>t-i) 0 (apx _) ?_ (h1:=(.cons rfl (.of (by rw[Nat.pow_zero,Nat.one_mul])) (.k .nil)));rintro i hit K5 J5;refine gC (fun z=>?_) (fun z=>?_)
 ·have ae : i < t := by simpa [aa] using z
  have h3:2^i*val (D1.take p1)<=G:=by rw[rG];exact aqi _ (uz oz)
  have h4:(ofNat (2^i*val (D1.take p1))).length<=a.length:=iF oz;have ht:t<32*a.length:=Oz pD1 (by rw[<- rG];exact Su) vla;refine gc (HP _ _ (eQ _) (eQ _) (by unfold aI;omega) (by unfold aI;omega)) ?_;refine ga (eF oz) ?_;exact aM J5 (i+1) ae (hw:=Wk.of (.cons rfl (.of (by rw[db,amp];congr 2;grind)) (.k (.k .nil))) .nil)
 have ae:i=t:=by have:t<=i:=(by simpa[aa]using z);omega
 subst ae;refine ah ?_;rw[rG]
theorem LN(a b:Wh)(ha:a.ok)(hb:b.ok)(la:a.mag.length+b.mag.length<aI):FP 269 [a.av,b.av] (zA (aoa a.z b.z)):=by
 have h1:=Wh.m_le (w:=a);have h2:=Wh.m_le (w:=b);have h3:aoa a.z b.z=amo (val a.m) (val b.m):=by rw[aoa,Wh.abs,Wh.abs]
 have h4:(ofNat (amo (val a.m) (val b.m))).length<=a.m.length+b.m.length:=by
  rcases al2 (val a.m)with h |h
  ·rw[h,Nat.gcd_zero_left,Wh.ofNat_m hb];omega
  ·exact aqe (iF (aqj (Nat.gcd_le_left _ h) (cU _ (Wh.ws ha)))) oz
 refine ai func269 ?_;refine gc (oH a ha) ?_;refine gc (oH b hb) ?_;refine gc (agq a.m b.m (Wh.ws ha) (Wh.ws hb) a.nz b.nz oz) ?_;refine gc (n6 false _ (eQ _) oz) ?_;refine gD ?_;refine ah ?_;rw[db,h3];rfl
theorem ai9(a b:Wh)(ha:a.ok)(hb:b.ok)(la:a.mag.length+1<aI)(lb:b.mag.length<aI)(h0:b.z≠0):FP 270 [a.av,b.av] (.tup [zA (a.z/b.z),zA (a.z%b.z),i64 0]):=by
 have je:=Wh.m_le (w:=a);have mn:=Wh.m_le (w:=b);have cE:val b.m≠0:=by have:=Wh.abs (w:=b);omega
 have s7:(ofNat (val a.m/val b.m)).length<=a.m.length:=iF (aqj (amc _ _) (cU _ (Wh.ws ha)));have Ak:=alw (val a.m) (show 0<val b.m by omega);have uV:(ofNat (val a.m%val b.m)).length<=b.m.length:=iF (Nat.lt_trans Ak (cU _ (Wh.ws hb)));have hl3:(ofNat (val a.m/val b.m+1)).length<=a.m.length+1:=iF (by have h7:=aqj (amc (val a.m) (val b.m)) (cU _ (Wh.ws ha));rw[amp];generalize val a.m/val b.m=m at *;omega);have hl4:(ofNat (val b.m-val a.m%val b.m)).length<=b.m.length:=iF (by have:=cU _ (Wh.ws hb);omega);have xh:val [1]=1:=rfl;refine ai func270 ?_;refine gc (HH b hb) ?_;refine gC (fun z=>?_) (fun z=>?_) (st1:=(2,0));exact ard (aoh.1 (by simpa[aa]using z)) h0;refine gc (oH a ha) ?_;refine gc (oH b hb) ?_;refine gc (WG a.m b.m (Wh.ws ha) (Wh.ws hb) a.nz cE oz oz) ?_;refine gD ?_;refine gc (lP a ha) ?_;refine cA ?_;refine gC (fun z=>?_) (fun z=>?_)
 ·have h1:a.n = true /\ 0 < val a.m % val b.m:=DH.1 z;obtain ⟨e1,e2⟩:=KO cE h1.1 h1.2;refine gc (HP (ofNat (val a.m / val b.m)) [1] (eQ _) (yI oz) oz (by unfold aI; simp)) ?_;refine gc (oH b hb) ?_;refine gc (EB b.m (ofNat (val a.m % val b.m)) (Wh.ws hb) (eQ _) oz (by rw [db]; omega)) ?_;refine gD ?_ (6,0);refine gW (Wk.of (sl:=[pP 2 (.ptr 2 0),pP 3 (.ptr 3 0),pP 4 (.ptr 4 0),pP 5 (.ptr 5 0),pP 7 (ws (ofNat (val a.m / val b.m + 1))),pP 8 (ws (ofNat (val b.m - val a.m % val b.m)))]) (hp:=[pP 2 (.box [bl a.neg,ws a.mag]),pP 3 (.box [bl b.neg,ws b.mag]),pP 4 (.box [.v (.bool false),nS]),pP 5 (.box [.v (.bool false),nS])]) (.k (.k (.k (.k (.cons rfl (.of (by rw [db,xh])) (.cons rfl (.of (by rw [db])) .nil)))))) (.k (.k (.k (.k .nil))))) ?_
  refine gc (lP a ha) ?_;refine gc (lP b hb) ?_;refine gc (by apply n6 _ _ (eQ _) oz) ?_;refine gc (by apply n6 _ _ (eQ _) oz) ?_;refine gD ?_;refine gR ?_;exact yU (by rw[db,db,e1,show sgn false _=_ from e2];rfl)
 have h1:¬(a.n=true/\0<val a.m%val b.m):=fun h=>aou.1 z (DH.2 h)
 obtain⟨e1,e2⟩:=Nu cE h1;refine gc (lP a ha) ?_;refine gc (lP b hb) ?_;refine gc (by apply n6 _ _ (eQ _) oz) ?_;refine gc (by apply n6 _ _ (eQ _) oz) ?_;refine gD ?_;refine gR ?_;exact yU (by rw[db,db,e1,show sgn false _=_ from e2];rfl)
theorem xN{x:Int}(hx:Zs x):FP 299 [zA x] (i64 x.sign):=by
 have h:=Hc (ofInt x) hx.ok;rw[fC]at h;exact h
theorem CG{x:Int}(hx:Zs x):FP 175 [zA x] (zA (-x)):=by
 have h:=abe (ofInt x) hx.ok (by have:=hx.len;unfold aI;omega);rw[fC]at h;exact h
theorem PX{x y:Int}(hx:Zs x)(hy:Zs y):FP 308 [zA x,zA y] (i64 (ke x y)):=by
 have h:=VI (ofInt x) (ofInt y) hx.ok hy.ok;rw[fC,fC]at h;exact h
theorem YK{x y:Int}(hx:Zs x)(hy:Zs y):FP 297 [zA x,zA y] (zA (x+y)):=by
 have h:=Ty (ofInt x) (ofInt y) hx.ok hy.ok (by have:=hx.len;unfold aI;omega) (by have:=hy.len;unfold aI;omega);rw[fC,fC]at h;exact h
theorem ri{x y:Int}(hx:Zs x)(hy:Zs y):FP 298 [zA x,zA y] (zA (x*y)):=by
 have h:=aix (ofInt x) (ofInt y) hx.ok hy.ok (by have:=hx.len;have:=hy.len;unfold aI;omega);rw[fC,fC]at h;exact h
theorem Yd{x y:Int}(hx:Zs x)(hy:Zs y):FP 300 [zA x,zA y] (zA (aoa x y)):=by
 have h:=NH (ofInt x) (ofInt y) hx.ok hy.ok (by have:=hx.len;unfold aI;omega) (by have:=hy.len;unfold aI;omega);rw[fC,fC]at h;exact h
theorem PS{x y:Int}(hx:Zs x)(hy:Zs y)(h0:y≠0):FP 301 [zA x,zA y] (.tup [zA (x/y),zA (x%y),.v .nilIface]):=by
 have h:=abq (ofInt x) (ofInt y) hx.ok hy.ok (by have:=hx.len;unfold aI;omega) (by have:=hy.len;unfold aI;omega) (by rw[fC];exact h0);rw[fC,fC]at h;exact h
theorem GE{x:Int}(hx:Zs x):FP 267 [zA x] (i64 x.sign):=by
 have h:=HH (ofInt x) hx.ok;rw[fC]at h;exact h
theorem Em{x:Int}(hx:Zs x):FP 268 [zA x] (zA (-x)):=by
 have h:=JE (ofInt x) hx.ok (by have:=hx.len;unfold aI;omega);rw[fC]at h;exact h
theorem UG{x y:Int}(hx:Zs x)(hy:Zs y):FP 306 [zA x,zA y] (i64 (ke x y)):=by
 have h:=V5 (ofInt x) (ofInt y) hx.ok hy.ok (by have:=hx.len;unfold aI;omega) (by have:=hy.len;unfold aI;omega);rw[fC,fC]at h;exact h
theorem X0{x y:Int}(hx:Zs x)(hy:Zs y):FP 285 [zA x,zA y] (zA (x+y)):=by
 have h:=LR (ofInt x) (ofInt y) hx.ok hy.ok (by have:=hx.len;unfold aI;omega) (by have:=hy.len;unfold aI;omega);rw[fC,fC]at h;exact h
theorem x4{x y:Int}(hx:Zs x)(hy:Zs y):FP 286 [zA x,zA y] (zA (x*y)):=by
 have h:=Yn (ofInt x) (ofInt y) hx.ok hy.ok (by have:=hx.len;have:=hy.len;unfold aI;omega);rw[fC,fC]at h;exact h
theorem ahh{x y:Int}(hx:Zs x)(hy:Zs y):FP 269 [zA x,zA y] (zA (aoa x y)):=by
 have h:=LN (ofInt x) (ofInt y) hx.ok hy.ok (by have:=hx.len;have:=hy.len;unfold aI;omega);rw[fC,fC]at h;exact h
theorem Mb{x y:Int}(hx:Zs x)(hy:Zs y)(h0:y≠0):FP 270 [zA x,zA y] (.tup [zA (x/y),zA (x%y),i64 0]):=by
 have h:=ai9 (ofInt x) (ofInt y) hx.ok hy.ok (by have:=hx.len;unfold aI;omega) (by have:=hy.len;unfold aI;omega) (by rw[fC];exact h0);rw[fC,fC]at h;exact h
def lw(e:Nat):arh:=match e with |0=>.nilIface |e+1=>.iface 41 (.int .i64 ((e+1:Nat):Int))
def bG(e:Nat):AV:=.v (lw e)
theorem Vf(e:Nat):lw e=.nilIface\/∃T u,lw e=.iface T u:=by cases e;exact .inl rfl;exact .inr ⟨_,_,rfl⟩
theorem G9(e:Nat):gI (lw e)=decide (e=0):=by cases e <;> simp[lw,gI]
theorem aha{e:Nat}(h:gI (lw e)=true):e=0:=by rw[G9]at h;exact aq9 h
theorem O7{e:Nat}(h:gI (lw e)=false):e≠0:=by rw[G9]at h;exact ara h
theorem ef{e:Nat}(h:(!gI (lw e))=true):e≠0:=O7 (by cases h':gI (lw e) <;> simp_all)
theorem dS{e:Nat}(h:(!gI (lw e))=false):e=0:=aha (by cases h':gI (lw e) <;> simp_all)
theorem H7:FP 228 [] (zA 1):=by
 refine ai func228 ?_;refine gc (Ry 1 oz) ?_;refine ah ?_
 first |rfl |(simp;done)
theorem yB(r:Rt)(h:r.ok):FP 178 [r.av] (bl r.valid):=by
 have hn:=h.n0;have hd:=h.d0;refine ai func178 ?_;refine gl ?_;refine cA ?_;refine gC (fun t14=>?_) (fun t14=>?_)
 ·have h0 : r.num = [] /\ r.den = [] := by simpa [aa] using t14
  refine ah ?_;unfold Rt.valid;rw[aq7 h0];rfl
 have h0:¬(r.num=[]/\r.den=[]):=by
  have:=t14;simp[aa]at this;exact fun h=>this h.1 h.2
 refine gD ?_;refine gl ?_;refine cA ?_;refine bT (fun _=>(BH r.n0 hn)) ?_;refine bT (fun _=>(BH r.d0 hd)) ?_;refine gC (fun z=>?_) (fun z=>?_)
 ·have h1:r.valid=false:=FW h0 z;refine ah ?_;rw[h1];rfl
 have h1:=KZ h0 z;refine gc (NH r.n0 r.d0 hn hd h.n0l h.d0l) ?_;refine gc (by apply H7) ?_;refine gc (PX (Rt.gcd_zs h) Do) ?_;refine ah ?_;rw[h1];rfl
theorem qi(r:Rt)(h:r.ok):FP 173 [r.av] (.tup [zA r.q.num,zA r.q.den]):=by
 have s7:r.num.length<=137438953472:=h.2.2.1;have uV:r.den.length<=137438953472:=h.2.2.2;refine ai func173 ?_;refine gc (yB r h) ?_;refine cA ?_;refine gC (fun t12=>?_) (fun t12=>?_)
 ·have h0:¬(r.valid=true/\r.num≠[]):=by
   have:=t12;intro h';simp[aa,h'.1,h'.2]at this
  refine gc H7 ?_;refine gR ?_;exact fv (by rw[Rt.zero h0];exact Sub.tup (.cons Ku (.cons (.refl _) .nil)))
 have h0:r.valid=true/\r.num≠[]:=by
  have:=t12;cases hv:r.valid
  ·rw[hv]at this;cases this
  ·rw[hv]at this;exact⟨rfl,by simpa[aa]using this⟩
 obtain⟨e1,e2,e3,e4,e5,e6⟩:=Rt.parts h h0.1 h0.2;refine gs (j6 T104 rfl T354 rfl rfl rfl) ?_;refine gs (cF (.tmp rfl) rfl rfl (.tmp rfl) T104 rfl T354 rfl rfl (by simp only[apr];omega) rfl rfl) ?_;refine gD ?_ (4,0);refine gW ((Wk.freeze (k:=20) rfl).trans<|Wk.of (sl:=[pP 1 (.ptr 1 0),pP 2 (.ptr 2 0),pP 3 (.ptr 3 0)]) (hp:=[pP 1 (.box [bl r.neg,ws r.num,ws r.den]),pP 2 (.box [bl r.neg,ws r.num]),pP 3 (.box [bl false,nS])]) a6 (.k (.cons rfl (BlkSub.bL (.cons (.refl _) (.cons (.of (b8 (by simp))) .nil)) rfl) (.k .nil)))) ?_;refine gs (j6 T104 rfl T354 rfl rfl rfl) ?_;refine gs (cF (.tmp rfl) rfl rfl (.tmp rfl) T104 rfl T354 rfl rfl (by simp only[apr];omega) rfl rfl) ?_;refine gD ?_ (77777,0);refine gW ((Wk.freeze (k:=26) rfl).trans<|Wk.of (sl:=[pP 2 (.ptr 2 0),pP 3 (.ptr 3 0)]) (hp:=[pP 2 (.box [bl r.neg,ws r.num]),pP 3 (.box [bl false,ws r.den])]) a6 (.k (.cons rfl (BlkSub.bL (.cons (.refl _) (.cons (.of (b8 (by simp))) .nil)) rfl) .nil))) ?_;refine bK ?_;rw[e1,e2];exact QF e3 e4 e5
theorem zp{n d:Int}(hn:Zs n)(hd:Zs d)(h0:d≠0):FP 174 [zA n,zA d] (qA (aop n d)):=by
 refine ai func174 ?_;refine gc (xN hn) ?_;refine gC (fun z=>?_) (fun z=>?_)
 ·have e0 : n=0 := aoh.1 (by simpa[aa]using z);refine gR ?_;exact o7 (by rw[e0,Rat.zero_divInt];exact mV)
 have e0:n≠0:=fun h=>by rw[h]at z;cases z
 refine gc (xN hd) ?_;refine Hw [2,3,4] [4] (fun(n1 d1:Int)=>[]) (fun n1 d1=>[pP 2 (.box (zA n1).cells),pP 3 (.box (zA d1).cells)]) (fun n1 d1=>0<d1/\n1≠0/\Zs n1/\Zs d1/\aop n1 d1=aop n d) ?_ ?_
 ·intro K1 J1;refine gC (fun t13=>?_) (fun t13=>?_)
  ·have e1 : d<0 := aok.1 (by have := aog d;have h9 : d.sign<0 := (by simpa[aa]using t13);omega);refine gc (CG hn) ?_;refine gc (CG hd) ?_;refine gD ?_;exact wJ J1 (-n) (-d) ⟨by omega,by omega,hn.neg,hd.neg,Kd n d⟩
  have e1:0<d:=by
   have h9:0<=d.sign:=by simpa[aa]using t13
   have:=aoj.1 h9;omega
  exact wJ J1 n d ⟨e1,e0,hn,hd,rfl⟩
 rintro n1 d1 ⟨f1,f2,f3,f4,f5⟩;refine gc (Yd f3 f4) ?_;refine gc (xN f3) ?_;refine Fh [2,3,4,5] [3,4,5] (fun(n2:Int)=>[pP 6 (bl (decide (n1<0)))]) (fun n2=>[pP 2 (.box (zA n2).cells)]) (fun n2=>n2=(n1.natAbs:Int)) ?_ ?_
 ·intro K2 J2;refine gC (fun t24=>?_) (fun t24=>?_)
  ·have e2 : n1<0 := aok.1 (by have := aog n1;have h9 : n1.sign<0 := (by simpa[aa]using t24);omega);refine gc (CG f3) ?_;exact wi J2 (-n1) oz (hw:=Wk.of (.cons rfl (.of (by rw[show aa .lss n1.sign 0=true from t24,arb e2];rfl)) (.k (.k (.k (.k .nil))))) (.k (.k (.k (.k .nil)))))
  have e2:0<n1:=by
   have h9:0<=n1.sign:=by simpa[aa]using t24
   have:=aoj.1 h9;omega
  exact wi J2 n1 oz (hw:=Wk.of (.cons rfl (.of (by rw[show aa .lss n1.sign 0=false from t24,arc oz];rfl)) (.k (.k (.k (.k .nil))))) (.k (.k (.k (.k .nil)))))
 rintro n2 g1;have g2:Zs (aoa n1 d1:Int):=f3.of_le (by rw[aqn];exact Nat.le_of_dvd oz (Int.gcd_dvd_natAbs_left _ _));have g3:(aoa n1 d1:Int)≠0:=by have:=Int.gcd_pos_of_ne_zero_left d1 f2;omega
 have g4:Zs n2:=f3.of_le oz;refine gc (PS g4 g2 g3) ?_;refine gc (PS f4 g2 g3) ?_;refine ah ?_;rw[<- f5,<- Xh f1 f2,<- g1];rfl
theorem UF{n d:Int}(hn:Zs n)(hd:Zs d):FP 421 [zA n,zA d] (.tup [qA (aop n d),bG (if d=0 then 8 else 0)]):=by
 refine ai func421 ?_;refine gc (xN hd) ?_;refine gC (fun z=>?_) (fun z=>?_)
 ·have h0 : d=0 := aoh.1 (by simpa[aa]using z);refine gR ?_;exact fv (by rw[aq7 h0,h0,Rat.divInt_zero];exact Sub.tup (.cons mV (.cons (.refl _) .nil)))
 have h0:d≠0:=fun h=>by rw[h]at z;cases z
 refine gc (zp hn hd h0) ?_;refine bK ?_;rw[aq6 h0];rfl
theorem oQ(n:Int)(h:-9223372036854775808<=n/\n<=9223372036854775807):FP 116 [i64 n] (qA n):=by
 have hz:Zs n:=⟨2,by omega,by unfold Lz;simp only[Nat.reducePow];omega⟩
 refine ai func116 ?_;refine gc (Ry n h) ?_;refine gc H7 ?_;refine gc (zp hz Do oz) ?_;refine ah ?_;exact are qA (aom (n:Rat))
theorem xt(a:Rt)(ha:a.ok):FP 79 [a.av] (qA (-a.q)):=by
 have za:=ha.qs;refine ai func79 ?_;refine gc (qi a ha) ?_;refine gc (CG za.num) ?_;refine gc (zp za.num.neg za.den (by have:=a.q.den_nz;omega)) ?_;refine gD ?_;refine ah ?_;rw[Lq];rfl
theorem CR(a:Rt)(ha:a.ok):FP 179 [a.av] (i64 (ci a.q)):=by
 refine ai func179 ?_;refine gc (qi a ha) ?_;refine gc (xN ha.qs.num) ?_;refine ah ?_;rw[KP]
theorem Q5(a b:Rt)(ha:a.ok)(hb:b.ok):FP 391 [a.av,b.av] (i64 (ci (a.q-b.q))):=by
 have za:=ha.qs;have zb:=hb.qs;have m1:=za.mul zb;have m2:=zb.mul za;refine ai func391 ?_;refine gc (qi a ha) ?_;refine gc (qi b hb) ?_;refine gc (ri za.num zb.den) ?_;refine gc (ri zb.num za.den) ?_;refine gc (PX m1.1 m2.1) ?_;refine gD ?_;refine ah ?_;rw[Tp]
theorem sH(a b:Rt)(ha:a.ok)(hb:b.ok):FP 172 [a.av,b.av] (qA (a.q+b.q)):=by
 have za:=ha.qs;have zb:=hb.qs;have m1:=za.mul zb;have m2:=zb.mul za;refine ai func172 ?_;refine gc (qi a ha) ?_;refine gc (qi b hb) ?_;refine gc (ri za.num zb.den) ?_;refine gc (ri zb.num za.den) ?_;refine gc (YK m1.1 m2.1) ?_;refine gc (ri za.den zb.den) ?_;refine gc (zp (za.cross zb) m1.2.2.1 (aof (by have:=a.q.den_nz;omega) (by have:=b.q.den_nz;omega))) ?_;refine gD ?_;refine ah ?_;rw[FN];rfl
theorem ab5(a b:Rt)(ha:a.ok)(hb:b.ok):FP 330 [a.av,b.av] (qA (a.q-b.q)):=by
 refine ai func330 ?_;refine gc (xt b hb) ?_;refine gc (sH a (rt (-b.q)) ha hb.qs.neg.ok) ?_;refine gD ?_;refine ah ?_;rw[bN,<- aoo];rfl
theorem Rq(a b:Rt)(ha:a.ok)(hb:b.ok):FP 337 [a.av,b.av] (qA (a.q*b.q)):=by
 have za:=ha.qs;have zb:=hb.qs;have m1:=za.mul zb;refine ai func337 ?_;refine gc (qi a ha) ?_;refine gc (qi b hb) ?_;refine gc (ri za.num zb.num) ?_;refine gc (ri za.den zb.den) ?_;refine gc (zp m1.2.1 m1.2.2.1 (aof (by have:=a.q.den_nz;omega) (by have:=b.q.den_nz;omega))) ?_;refine gD ?_;refine ah ?_;rw[HN];rfl
theorem OD(a b:Rt)(ha:a.ok)(hb:b.ok):FP 361 [a.av,b.av] (.tup [qA (a.q/b.q),bG (if b.q=0 then 8 else 0)]):=by
 have za:=ha.qs;have zb:=hb.qs;have m1:=za.mul zb;refine ai func361 ?_;refine gc (qi a ha) ?_;refine gc (qi b hb) ?_;refine gc (ri za.num zb.den) ?_;refine gc (ri za.den zb.num) ?_;refine gc (UF m1.1 m1.2.2.2) ?_;refine gD ?_;refine bK ?_
 have e1:((a.q.den:Int)*b.q.num=0)=(b.q=0):=by
  apply propext;rw[<- Rat.num_eq_zero,Int.mul_eq_zero];exact⟨fun h=>h.resolve_left (by have:=a.q.den_nz;omega),.inr⟩
 simp only[Px,e1];rfl
structure Pq where
  c:List Rat
  s:List Rat
  x:List Rat
  y:List Rat
def Pq.av(p:Pq):AV:=.agg [nA p.c,nA p.s,nA p.x,nA p.y]
structure Pq.ok(n e:Nat)(p:Pq):Prop where
  c:Nm n e p.c
  s:Nm n e p.s
  x:Nm n e p.x
  y:Nm n e p.y
def Oa(p:Pse):Pq:=⟨sh 0 (dT p.turn.half p.turn.t.q:Rat),sh 0 (dV p.turn.half p.turn.t.q:Rat),sh 0 (p.at_.x.q:Rat),sh 0 (p.at_.y.q:Rat)⟩
def Nj(ps:List Pse):Nat:=if ps.all Pse.ok=true then 0 else 2
def ofL(ps:List Pse):List Pq:=if ps.all Pse.ok=true then ps.map Oa else[]
theorem xX{half:Bool}{t:Rat}{e:Nat}(h:Qb e t):Qb (4*e+6) (dT half t):=by
 unfold dT;split
 ·exact Qb.one.neg.mono oz
 ·exact((Qb.one.sub (h.mul h)).div (Qb.one.add (h.mul h))).mono oz
theorem xZ{half:Bool}{t:Rat}{e:Nat}(h:Qb e t):Qb (4*e+6) (dV half t):=by
 unfold dV;split
 ·exact Qb.zero.mono oz
 ·exact((h.add h).div (Qb.one.add (h.mul h))).mono oz
theorem X4{n e:Nat}{q:Rat}(hn:n<=5)(h:Qb e q):Nm n (e+e) (sh 0 (q:Rat)):=by
 have h1:Nl n (sh 0 (q:Rat)):=by
  have:Nl 0 (sh 0 (q:Rat)):=gk 0 _;rcases this with h |⟨j,hj,h⟩
  ·exact .inl h
  ·exact .inr ⟨j,by omega,h⟩
 refine⟨hn,h1,?_⟩
 have hm:∀p∈sh 0 (q:Rat),Qb e p:=by
  intro p hp
  have:p=q:=by
   unfold sh at hp;split at hp
   ·cases hp
   ·exact am8.1 hp
  rw[this];exact h
 obtain⟨D,N,h3,h4,h5⟩:=NS hm
 have h6:(sh 0 (q:Rat)).length<=1:=by
  rcases(gk 0 (q:Rat))with h |⟨j,hj,h⟩
  ·rw[h];simp
  ·have : j = 0 := by omega
   subst this;rw[h];simp
 have h7:e*(sh 0 (q:Rat)).length<=e*1:=ap0 _ h6;exact⟨D,N,h3,aqe h4 (cV oz),aqe h5 (cV oz)⟩
def af2(ts:LL)(b:Pl)(w:Pq):Bool :=
  iS ts (af ts.length (lq b.c)) (af ts.length w.c)&&iS ts (af ts.length (lq b.s)) (af ts.length w.s)&&iS ts (af ts.length (lq b.x)) (af ts.length w.x)&&iS ts (af ts.length (lq b.y)) (af ts.length w.y)
def mE(a:As)(ps:List Pse):Nat :=
  if bS a.rs≠0 then bS a.rs else if Nj ps≠0 then Nj ps else if a.bs.length≠ps.length then 10 else fV (a.bs.map (fun b=>bY a.rs b.l))
def mB(a:As)(ps:List Pse):Bool:=decide (mE a ps=0)&&(a.bs.zip ps).all (fun z=>af2 (llq a.rs) z.1 (Oa z.2))
theorem BM{α:Type}{l:List α}{f:α->Nat}{i:Nat}{x:α}(hx:l[i]?=some x)(hb:∀y∈l.take i,f y=0)(hn:f x≠0):fV (l.map f)=f x:=by
 have e:l=l.take i++l.drop i:=(ann i l).symm;have hi:=(anz.1 hx).1
 have e2:l.drop i=x::l.drop (i+1):=by
  rw[ani hi,(anz.1 hx).2]
 rw[e,ap8,yc _ _ (rV (fun v hv=>by
  obtain⟨y,hy,rfl⟩:=anx.1 hv;exact hb y hy)),e2]
 show(if f x≠0 then f x else _)=_;rw[aq7 hn]
theorem Ii{rs:List (List Rt)}{b:Pl}{E:Nat}(h:bY rs b.l=0)(hb:∀x∈b.l,NR x E)(h5:rs.length<=5) :
  b.av=Pq.av ⟨lq b.c,lq b.s,lq b.x,lq b.y⟩/\Pq.ok rs.length E ⟨lq b.c,lq b.s,lq b.x,lq b.y⟩:=by
 have h1:=(sV h).2
 have g:∀x∈b.l,nR x=nA (lq x)/\Nm rs.length E (lq x):=fun x hx=>by
  obtain⟨e1,e2⟩:=(hb x hx).num (h1 x hx);exact⟨e1,h5,e2,(hb x hx).cb⟩
 have c:=g b.c (by simp[Pl.l]);have s:=g b.s (by simp[Pl.l]);have x:=g b.x (by simp[Pl.l]);have y:=g b.y (by simp[Pl.l]);exact⟨by unfold Pl.av Pq.av;rw[c.1,s.1,x.1,y.1],c.2,s.2,x.2,y.2⟩
instance:Inhabited Tn:=⟨⟨⟨false,[],[]⟩,false⟩⟩
def dt(n:Nat)(ok:Nat->Bool):Option Nat:=(List.range n).find? (fun i=>!ok i)
theorem j7{n i:Nat}{ok:Nat->Bool}(hi:i<n)(h:∀j,j<i->ok j=true)(he:ok i=false):dt n ok=some i:=by
 unfold dt;rw[an6];exact⟨by rw[he];rfl,by simpa using hi,fun j hj=>by rw[h j hj];rfl⟩
theorem jm{n:Nat}{ok:Nat->Bool}(h:∀j,j<n->ok j=true):dt n ok=none:=by
 unfold dt;rw[anw];exact fun j hj=>by rw[h j hj];rfl
theorem Vt{n:Nat}{ok:Nat->Bool}(h:dt n ok=none):∀j,j<n->ok j=true:=by
 unfold dt at h;rw[anw]at h;intro j hj;have:=h j hj;simpa using this
def mF:Option Nat->Int
  |none=>-1
  |some i=>i
theorem Gy{o:Option Nat}(h:aa .geq (mF o) 0=true):∃i,o=some i:=by
 cases o with
 |none=>cases h
 |some i=>exact⟨i,rfl⟩
theorem H2{o:Option Nat}(h:aa .geq (mF o) 0=false):o=none:=by
 cases o with
 |none=>rfl
 |some i =>
  have h1:¬((i:Int)>=0):=ara h;omega
abbrev jl(ts:LL)(x:List Rt):T ts.length:=af ts.length (lq x)
def tV(ts:LL)(b:Pl)(m:Mk):T ts.length×T ts.length:=(zw ts (jl ts b.c) (jl ts b.s) (jl ts b.x) m.x.q m.y.q,yt ts (jl ts b.c) (jl ts b.s) (jl ts b.y) m.x.q m.y.q)
def zY(l:Li)(a:As)(body pt:Int):T (llq a.rs).length×T (llq a.rs).length:=tV (llq a.rs) (a.bs.getD body.toNat default) ((dm l body).getD pt.toNat default)
def EC(p:Nat×Nat):AV:=.agg [i64 p.1,i64 p.2]
theorem dK{l:Li}(h:aG l=0):jw l=0/\fR l=0/\iP l=0/\l.bo.length<=8/\l.bo.length≠0:=by
 unfold aG at h;split at h
 ·cases h
 ·split at h
  ·cases h
  ·split at h
   ·cases h
   ·split at h
    ·rename_i h1;exact ard h h1
    ·rename_i g1 _ h1;split at h
     ·rename_i h2;exact ard h h2
     ·rename_i h2;exact⟨apn.1 h1,apn.1 h2,h,by omega,by omega⟩
theorem L2{l:Li}(h:aG l=0){i:Nat}{j:Jt}(hj:l.jo[i]?=some j):fy l j=0:=by
 have h1:=(dK h).2.1;unfold fR at h1;split at h1
 ·cases h1
 ·have h2:=r6 h1 i (anz.1 hj).1;unfold ji at h2;rw[ax hj]at h2;split at h2
  ·cases h2
  ·split at h2
   ·cases h2
   ·exact h2
theorem ee{l:Li}(h:aG l=0){i:Nat}{j:Jt}(hj:l.jo[i]?=some j) :
  bR j.a l.bo.length=true/\bR j.b l.bo.length=true/\bR j.point (dm l j.a).length=true/\bR j.on (dm l j.b).length=true/\(j.kind≠0->bR j.to (dm l j.b).length=true):=by
 have h1:=L2 h hj;unfold fy at h1;split at h1
 ·cases h1
 ·split at h1
  ·cases h1
  ·rename_i h2;split at h1
   ·cases h1
   ·split at h1
    ·cases h1
    ·rename_i h3;have a1:bR j.a l.bo.length = true:=by cases h:bR j.a l.bo.length <;> simp_all
     have a2:bR j.b l.bo.length=true:=by cases h:bR j.b l.bo.length <;> simp_all
     have a3:bR j.point (dm l j.a).length=true:=by cases h:bR j.point (dm l j.a).length <;> simp_all
     have a4:bR j.on (dm l j.b).length=true:=by cases h:bR j.on (dm l j.b).length <;> simp_all
     refine⟨a1,a2,a3,a4,fun hk=>?_⟩;rw[aq6 hk]at h1;split at h1
     ·cases h1
     ·rename_i h4;cases h:bR j.to (dm l j.b).length <;> simp_all
theorem pW{l:Li}(h:aG l=0){i:Nat}{d:Dr}(hd:l.dv[i]?=some d):bR d.body l.bo.length=true:=by
 have h1:=(dK h).2.2.1;unfold iP at h1;split at h1
 ·cases h1
 ·have h2:=r6 h1 i (anz.1 hd).1;unfold fw at h2;rw[ax hd]at h2;split at h2
  ·cases h2
  ·split at h2
   ·cases h2
   ·split at h2
    ·cases h2
    ·rename_i h3;cases h:bR d.body l.bo.length <;> simp_all
theorem aij{l:Li}(h:aG l=0){n k:Nat}{b:Bd}{m:Mk}(hb:l.bo[n]?=some b)(hm:b.pts[k]?=some m):m.x.valid=true/\m.y.valid=true:=by
 have h2:=r6 (dK h).1 n (anz.1 hb).1;unfold fi at h2;rw[ax hb]at h2;split at h2
 ·cases h2
 ·split at h2
  ·cases h2
  ·split at h2
   ·cases h2
   ·have h3:=r6 h2 k (anz.1 hm).1;unfold fh at h3;rw[ax hm]at h3;split at h3
    ·cases h3
    ·split at h3
     ·cases h3
     ·split at h3
      ·assumption
      ·cases h3
theorem Dq{ts:LL}{r e f:Nat}(tw:Tw ts r){b:Pl}{m:Mk}(hb:Pq.ok ts.length e ⟨lq b.c,lq b.s,lq b.x,lq b.y⟩)(hx:Qb f m.x.q)(hy:Qb f m.y.q) :
  Nm ts.length (3*e+2*f+2*kB r ts.length+10) (sh ts.length (tV ts b m).1)/\Nm ts.length (3*e+2*f+2*kB r ts.length+10) (sh ts.length (tV ts b m).2):=by
 have nx:=Nm.ofQ tw.five (Cb.one hx);have ny:=Nm.ofQ tw.five (Cb.one hy);have h1:=(Bc tw hb.c hb.s nx ny).add hb.x;rw[Ei]at h1;have h2:=(AU tw hb.c hb.s nx ny).add hb.y;rw[HM]at h2;exact⟨h1.mono oz,h2.mono oz⟩
def oq(l:Li)(xs:List Tn):Nat:=if aG l≠0 then aG l else if xs.length≠l.dv.length then 10 else fV (xs.map Tn.err)
theorem O9{l:Li}{xs:List Tn}(h:aG l=0)(h1:xs.length≠l.dv.length):oq l xs=10:=by unfold oq;rw[aq6 (by rw[h];simp),aq7 h1]
theorem Ko{l:Li}{xs:List Tn}(h:aG l=0)(h1:xs.length=l.dv.length){i:Nat}{x:Tn}(hx:xs[i]?=some x)(hb:∀y∈xs.take i,y.err=0)(hn:x.err≠0):oq l xs=x.err:=by
 unfold oq;rw[aq6 (by rw[h];simp),aq6 (by rw[h1];simp),BM hx hb hn]
theorem Pg{l:Li}{xs:List Tn}(h:aG l=0)(h1:xs.length=l.dv.length)(hb:∀y∈xs,y.err=0):oq l xs=0:=by
 unfold oq;rw[aq6 (by rw[h];simp),aq6 (by rw[h1];simp)]
 exact rV (fun e he=>by obtain⟨x,hx,rfl⟩:=anx.1 he;exact hb x hx)
theorem ah2{e n m:Nat}(h:cond (!(gI (lw e))) true (aa .neq (n:Int) (m:Int))=true):e≠0\/n≠m:=by
 cases h1:gI (lw e)
 ·exact .inl (O7 h1)
 ·rw[h1]at h;have:=ut h;exact .inr oz
structure Gr where
  kind:Int
  bo:List Int
  jo:List Int
  driver:Int
instance:Inhabited Gr:=⟨⟨0,[],[],0⟩⟩
def Gr.av(g:Gr):AV:=.agg [i64 g.kind,.lst 1 (g.bo.map i64),.lst 1 (g.jo.map i64),i64 g.driver]
def kn(k:List Bool)(i:Int):Bool:=k.getD i.toNat false
def dw(n:Nat)(b:Int):List Bool:=(ana n false).set b.toNat true
def rx(l:Li)(b:Int):Bool:=l.dv.any (fun d=>decide (d.body=b))
def freeB(l:Li)(kw:List Bool)(b:Int):Bool:=!kn kw b&&!rx l b
def qe(kind body:Int)(oth:List Bool)(j:Jt):Bool:=decide (j.kind=kind)&&(decide (j.a=body)&&kn oth j.b||decide (j.b=body)&&kn oth j.a)
def jointI(l:Li)(kind body:Int)(oth:List Bool):Int:=mF (dt l.jo.length (fun i=>!qe kind body oth (l.jo.getD i default)))
def drHit(l:Li)(kw:List Bool)(i:Nat):Bool:=!kn kw (l.dv.getD i default).body&&decide (0<=jointI l 0 (l.dv.getD i default).body kw)
def driverG(l:Li)(kw:List Bool):Option Gr :=
  (dt l.dv.length (fun i=>!drHit l kw i)).map fun i=>⟨0,[(l.dv.getD i default).body],[jointI l 0 (l.dv.getD i default).body kw],i⟩
def prHit(l:Li)(kw:List Bool)(i k:Nat):Bool :=
  (freeB l kw i&&freeB l kw k)&&(decide (0<=jointI l 0 i kw)&&decide (0<=jointI l 0 k kw)&&decide (0<=jointI l 0 i (dw l.bo.length k)))
def prAt(l:Li)(kw:List Bool)(i:Nat):Option Nat:=(dt (l.bo.length-(i+1)) (fun k=>!prHit l kw i (i+1+k))).map (·+(i+1))
def prG(l:Li)(kw:List Bool)(i k:Nat):Gr:=⟨1,[i,k],[jointI l 0 i kw,jointI l 0 k kw,jointI l 0 i (dw l.bo.length k)],0⟩
def pairG(l:Li)(kw:List Bool):Option Gr :=
  (dt l.bo.length (fun i=>(prAt l kw i).isNone)).map fun i=>match prAt l kw i with
    |some k=>prG l kw i k
    |none=>default
def sgHit(l:Li)(kw:List Bool)(i:Nat):Bool:=freeB l kw i&&(decide (0<=jointI l 0 i kw)&&decide (0<=jointI l 1 i kw))
def sgG(l:Li)(kw:List Bool)(i:Nat):Gr :=
  ⟨if(l.jo.getD (jointI l 1 i kw).toNat default).a=i then 2 else 3,[i],[jointI l 0 i kw,jointI l 1 i kw],0⟩
def singleG(l:Li)(kw:List Bool):Option Gr:=(dt l.bo.length (fun i=>!sgHit l kw i)).map (sgG l kw)
def nextG(l:Li)(kw:List Bool):Option Gr:=(driverG l kw).or ((pairG l kw).or (singleG l kw))
def bQ(kw:List Bool)(bs:List Int):List Bool:=bs.foldl (fun k b=>k.set b.toNat true) kw
def findFrom(l:Li):Nat->List Bool->List Gr->List Bool×List Gr
  |0,kw,out=>(kw,out)
  |n+1,kw,out=>match nextG l kw with
    |none=>(kw,out)
    |some g=>findFrom l n (bQ kw g.bo) (out++[g])
def findG(l:Li):List Gr:=(findFrom l l.bo.length (dw l.bo.length 0) []).2
def cD(l:Li):List Bool:=(findG l).foldl (fun k g=>bQ k g.bo) (dw l.bo.length 0)
def fM(l:Li):List Bool:=(findG l).foldl (fun k g=>bQ k g.jo) (ana l.jo.length false)
def gN(k:List Bool):List Int:=((List.range k.length).filter (fun i=>!k.getD i false)).map (fun i:Nat=>((i:Nat):Int))
def splitE(l:Li):Nat:=if(gN (cD l)).length+(gN (fM l)).length=0 then 0 else 7
def splitG(l:Li):List Gr:=if splitE l=0 then findG l else[]
theorem Nr{kind body:Int}{oth:List Bool}{j:Jt}{va vb:Bool}(ea:kn oth j.a=va)(eb:kn oth j.b=vb) :
  cond (aa .eql j.kind kind) (cond (cond (aa .eql j.a body) vb false) true (cond (aa .eql j.b body) va false)) false=qe kind body oth j:=by
 unfold qe;rw[ux,ux,ux,ea,eb,lN,lN,lN,l7]
theorem kN(n:Nat)(b:Int):(dw n b).length=n:=by unfold dw;simp
theorem mI:∀(bs:List Int)(k:List Bool),(bQ k bs).length=k.length
 |[],k=>rfl
 |b::bs,k=>by
  show(bQ (k.set b.toNat true) bs).length=_;rw[mI bs];simp
theorem ip{n i:Nat}{ok:Nat->Bool}(h:dt n ok=some i):i<n/\ok i=false:=by
 unfold dt at h;rw[an6]at h;exact⟨by simpa using h.2.1,by simpa using h.1⟩
theorem rX{l:Li}{kind body:Int}{oth:List Bool}:-1<=jointI l kind body oth/\jointI l kind body oth<l.jo.length:=by
 unfold jointI;cases h:dt l.jo.length (fun i=>!qe kind body oth (l.jo.getD i default))with
 |none=>exact⟨by decide,by show(-1:Int)<_;omega⟩
 |some i=>have:=(ip h).1;exact⟨by show(-1:Int)<=(i:Int);omega,by show(i:Int)<_;omega⟩
structure GrOk(l:Li)(g:Gr):Prop where
  b:∀x∈g.bo,0<=x/\x<l.bo.length
  j:∀x∈g.jo,0<=x/\x<l.jo.length
  lb:g.bo.length<=2
  lj:g.jo.length<=3
theorem XH{l:Li}(hl:aG l=0){kw:List Bool}{g:Gr}(h:driverG l kw=some g):GrOk l g:=by
 unfold driverG at h;rw[apt]at h;obtain⟨i,hi,rfl⟩:=h;obtain⟨h1,h2⟩:=ip hi;obtain⟨d,hd⟩:=ay h1;have h3:=d5 (pW hl hd);unfold drHit at h2;simp only[aow,apw,aq8]at h2;rw[ax hd]at h2 ⊢;have h4:=rX (l:=l) (kind:=0) (body:=d.body) (oth:=kw);refine⟨fun x hx=>?_,fun x hx=>?_,by simp,by simp⟩
 ·rw[am8.1 hx];exact h3
 ·rw[am8.1 hx];exact⟨h2.2,h4.2⟩
theorem YN{l:Li}{kw:List Bool}{g:Gr}(h:pairG l kw=some g):GrOk l g:=by
 unfold pairG at h;rw[apt]at h;obtain⟨i,hi,h⟩:=h;obtain⟨h1,h2⟩:=ip hi;split at h
 ·rename_i k hk;subst h;unfold prAt at hk;rw [apt] at hk;obtain ⟨k',hk',rfl⟩:=hk;obtain ⟨h3,h4⟩:=ip hk';rw [show i + 1 + k' = k' + (i + 1) by omega] at h4;unfold prHit at h4;simp only [aow,apw,aq8] at h4;obtain ⟨_,⟨j1,j2⟩,j3⟩:=h4;refine ⟨fun x hx=>?_,fun x hx=>?_,by simp [prG],by simp [prG]⟩
  ·simp only[prG,aqf,aqg,or_false]at hx;rcases hx with rfl |rfl <;> constructor <;> omega
  ·simp only[prG,aqf,aqg,or_false]at hx;rcases hx with rfl |rfl |rfl
   ·exact⟨j1,rX.2⟩
   ·exact⟨j2,rX.2⟩
   ·exact⟨j3,rX.2⟩
 ·rename_i hk;rw[hk]at h2;cases h2
theorem Wc{l:Li}{kw:List Bool}{g:Gr}(h:singleG l kw=some g):GrOk l g:=by
 unfold singleG at h;rw[apt]at h;obtain⟨i,hi,rfl⟩:=h;obtain⟨h1,h2⟩:=ip hi;unfold sgHit at h2;simp only[aow,apw,aq8]at h2;obtain⟨_,j1,j2⟩:=h2;refine⟨fun x hx=>?_,fun x hx=>?_,by simp[sgG],by simp[sgG]⟩
 ·simp only[sgG,aqf,aqg,or_false]at hx;subst hx;constructor <;> omega
 ·simp only[sgG,aqf,aqg,or_false]at hx;rcases hx with rfl |rfl
  ·exact⟨j1,rX.2⟩
  ·exact⟨j2,rX.2⟩
theorem C0{l:Li}(hl:aG l=0){kw:List Bool}{g:Gr}(h:nextG l kw=some g):GrOk l g:=by
 unfold nextG at h;cases h1:driverG l kw with
 |some g'=>rw[h1]at h;cases h;exact XH hl h1
 |none =>
  rw[h1]at h;cases h2:pairG l kw with
  |some g'=>rw[h2]at h;cases h;exact YN h2
  |none=>rw[h2]at h;exact Wc h
theorem Rr{l:Li}(hl:aG l=0):∀(n:Nat)(kw:List Bool)(out:List Gr),(∀g∈out,GrOk l g)->(∀g∈(findFrom l n kw out).2,GrOk l g)/\(findFrom l n kw out).2.length<=out.length+n
 |0,kw,out,h=>⟨h,by simp[findFrom]⟩
 |n+1,kw,out,h=>by
  unfold findFrom;cases hg:nextG l kw with
  |none=>exact⟨h,by simp⟩
  |some g =>
   have h1:=Rr hl n (bQ kw g.bo) (out++[g]) (fun x hx=>by
    rcases ap2.1 hx with hx |hx
    ·exact h x hx
    ·rw[am8.1 hx];exact C0 hl hg)
   refine⟨h1.1,?_⟩;have:=h1.2;rw[aqk]at this;show(findFrom l n (bQ kw g.bo) (out++[g])).2.length<=_;simp only[ap4,ap9]at this;omega
theorem wc{l:Li}(hl:aG l=0):(∀g∈findG l,GrOk l g)/\(findG l).length<=8:=by
 have h:=Rr hl l.bo.length (dw l.bo.length 0) [] (fun g hg=>by cases hg);have h8:=(dK hl).2.2.2.1;exact⟨h.1,by have:=h.2;simp only[ap9]at this;unfold findG;omega⟩
def nO(j:Jt)(b:Int):Int:=if b=j.a then j.b else if b=j.b then j.a else -1
def Ce(kind body:Int)(p:Int->Bool)(j:Jt):Bool:=decide (j.kind=kind)&&(decide (0<=nO j body)&&p (nO j body))
def gJ(l:Li)(kind body:Int)(p:Int->Bool):Int:=mF (dt l.jo.length (fun i=>!Ce kind body p (l.jo.getD i default)))
theorem aa5{b:Bool}{z:Int}(h:cond b (aa .geq z 0) false=true):0<=z:=by
 cases b
 ·cases h
 ·exact aq9 h
theorem aef{a k z:Int}{q:Bool}:cond (cond (aa .eql a k) (aa .geq z 0) false) q false=(decide (a=k)&&(decide (0<=z)&&q)):=by
 rw[ux,show aa .geq z 0=decide (0<=z)from rfl,lN,lN,Bool.and_assoc]
theorem ZF{l:Li}(au:aG l=0){i:Nat}{j:Jt}(hj:l.jo[i]?=some j)(b:Int):nO j b<l.bo.length:=by
 obtain⟨i1,i2,_⟩:=ee au hj;have b1:=d5 i1;have b2:=d5 i2;unfold nO;split
 ·omega
 ·split <;> omega
theorem Ps{n:Nat}{ok ok':Nat->Bool}(h:∀i,i<n->ok i=ok' i):dt n ok=dt n ok':=by
 unfold dt
 have:∀l:List Nat,(∀i∈l,i<n)->l.find? (fun i=>!ok i)=l.find? (fun i=>!ok' i):=by
  intro l
  induction l with
  |nil=>intro _;rfl
  |cons a l ih =>
   intro hl;simp only[List.find?_cons,h a (hl a (by simp)),ih (fun i hi=>hl i (by simp[hi]))]
 exact this _ (fun i hi=>an2.1 hi)
theorem FA{l:Li}(au:aG l=0){kind body:Int}{p:Int->Bool}{oth:List Bool}(h:∀o:Int,0<=o->o<l.bo.length->p o=kn oth o):gJ l kind body p=jointI l kind body oth:=by
 unfold gJ jointI;rw[Ps];intro i hi;obtain⟨j,hj⟩:=ay hi;rw[ax hj];obtain⟨i1,i2,_⟩:=ee au hj;have b1:=d5 i1;have b2:=d5 i2;congr 1;unfold Ce qe;congr 1;unfold nO
 by_cases h1:body=j.a
 ·subst h1;rw[aq7 rfl,h _ b2.1 b2.2]
  by_cases h2:j.b=j.a
  ·simp[h2,b1.1]
  ·simp[h2,b2.1]
 ·rw[aq6 h1]
  by_cases h2:body=j.b
  ·subst h2;rw[aq7 rfl,h _ b1.1 b1.2];have h3:¬j.a=j.b:=fun e=>h1 e.symm
   simp[h3,b1.1]
  ·rw[aq6 h2];have h3:¬j.a=body:=fun e=>h1 e.symm
   have h4:¬j.b=body:=fun e=>h2 e.symm
   simp[h3,h4]
theorem MO{k:List Bool}{i:Nat}{b:Int}(h0:0<=b)(hi:i<k.length):kn (k.set i true) b=(decide (b=i)||kn k b):=by
 unfold kn;rw[apq,List.getElem?_set,apq]
 by_cases h:b=i
 ·rw[arb h,Bool.true_or,aq7 oz];rw[aq7 oz];rfl
 ·rw[arc h,Bool.false_or,aq6 oz]
theorem Hl:∀{bs:List Int}{k:List Bool}{b:Int},0<=b->(∀x∈bs,0<=x/\x<k.length)->kn (bQ k bs) b=(bs.any (fun x=>decide (x=b))||kn k b)
 |[],k,b,h0,h=>by simp[bQ]
 |x::bs,k,b,h0,h=>by
  show kn (bQ (k.set x.toNat true) bs) b=_;obtain⟨ik,mh⟩:=h x (by simp);rw[Hl h0 (fun y hy=>by rw[aq4];exact h y (by simp[hy])),MO h0 oz,List.any_cons];have e:decide (b=(x.toNat:Int))=decide (x=b):=decide_eq_decide.2 oz;rw[e];cases decide (x=b) <;> simp
theorem Cg(n:Nat)(b:Int):kn (ana n false) b=false:=by
 unfold kn;rw[apq,aql];split <;> rfl
def cR(l:Li):List Bool:=bQ (ana l.bo.length false) (l.dv.map Dr.body)
theorem xR(l:Li):(cR l).length=l.bo.length:=by unfold cR;rw[mI,aqp]
theorem Tb{l:Li}(au:aG l=0){b:Int}(h0:0<=b):kn (cR l) b=rx l b:=by
 unfold cR rx;rw[Hl h0,Cg,Bool.or_false,List.any_map]
 ·rfl
 ·intro x hx;obtain⟨d,hd,rfl⟩:=anx.1 hx;obtain⟨i,hi⟩:=List.mem_iff_getElem?.1 hd;have:=d5 (pW au hi);rw[aqp];omega
theorem uk{n:Nat}{b o:Int}(h0:0<=o)(mr:0<=b)(hb:b<n):kn (dw n b) o=decide (o=b):=by
 unfold dw;rw[MO h0 (by rw[aqp];omega),Cg,Bool.or_false];exact decide_eq_decide.2 oz
def fA(k:List Bool):Nat:=k.countP (fun x=>!x)
theorem Ur{k:List Bool}{i:Nat}(h:k[i]?=some false):fA (k.set i true)+1=fA k:=by
 unfold fA;have hi:=(anz.1 h).1;have he:=(anz.1 h).2;rw[List.countP_set hi,he];have:0<k.countP (fun x=>!x):=List.countP_pos_iff.2 ⟨false,apo h,rfl⟩;simp;omega
theorem aiv(k:List Bool)(i:Nat):fA (k.set i true)<=fA k:=by
 by_cases hi:i<k.length
 ·unfold fA;rw[List.countP_set hi];simp
 ·rw[List.set_eq_of_length_le oz];exact apu _
theorem LJ:∀(bs:List Int)(k:List Bool),fA (bQ k bs)<=fA k
 |[],k=>apu _
 |x::bs,k=>aqe (LJ bs (k.set x.toNat true)) (aiv k _)
theorem acb{x:Int}{bs:List Int}{k:List Bool}(h:k[x.toNat]?=some false):fA (bQ k (x::bs))<fA k:=by
 have h1:=LJ bs (k.set x.toNat true);have h2:=Ur h;show fA (bQ (k.set x.toNat true) bs)<_;omega
theorem Es{k:List Bool}{b:Int}(h:kn k b=false)(h1:b.toNat<k.length):k[b.toNat]?=some false:=by
 unfold kn at h;rw[apq,aps h1]at h;rw[aps h1];simpa using h
theorem Za{l:Li}(hl:aG l=0){kw:List Bool}(hk:kw.length=l.bo.length){g:Gr}(h:nextG l kw=some g):∃x bs,g.bo=x::bs/\kw[x.toNat]?=some false:=by
 unfold nextG at h;cases h1:driverG l kw with
 |some g' =>
  rw[h1]at h;cases h
  unfold driverG at h1;rw[apt]at h1;obtain⟨i,hi,rfl⟩:=h1;obtain⟨h2,h3⟩:=ip hi;obtain⟨d,hd⟩:=ay h2;have h4:=d5 (pW hl hd);rw[ax hd]at *;unfold drHit at h3;rw[ax hd]at h3;simp only[aow,apw,ao0,aq8]at h3;exact⟨_,_,rfl,Es h3.1 oz⟩
 |none =>
  rw[h1]at h;cases h2:pairG l kw with
  |some g' =>
   rw[h2]at h;cases h
   unfold pairG at h2;rw[apt]at h2;obtain⟨i,hi,h2⟩:=h2;obtain⟨h3,h4⟩:=ip hi;split at h2
   ·rename_i k hk';subst h2;unfold prAt at hk';rw[apt]at hk';obtain⟨k',hk',rfl⟩:=hk';obtain⟨h5,h6⟩:=ip hk';unfold prHit freeB at h6;simp only[aow,apw,ao0,aq8]at h6;exact⟨_,_,rfl,Es h6.1.1.1 oz⟩
   ·rename_i hk';rw[hk']at h4;cases h4
  |none =>
   rw[h2]at h;have h:singleG l kw=some g:=h;unfold singleG at h;rw[apt]at h;obtain⟨i,hi,rfl⟩:=h;obtain⟨h3,h4⟩:=ip hi;unfold sgHit freeB at h4;simp only[aow,apw,ao0,aq8]at h4;exact⟨_,_,rfl,Es h4.1.1 oz⟩
theorem yw{l:Li}(hl:aG l=0){kw:List Bool}(hk:kw.length=l.bo.length){g:Gr}(h:nextG l kw=some g):fA (bQ kw g.bo)<fA kw:=by
 obtain⟨x,bs,e,h1⟩:=Za hl hk h;rw[e];exact acb h1
theorem Hr{l:Li}(hl:aG l=0):∀(n m:Nat)(kw:List Bool)(out:List Gr),kw.length=l.bo.length->fA kw<=n->fA kw<=m->findFrom l n kw out=findFrom l m kw out
 |0,0,kw,out,hk,h1,h2=>rfl
 |0,m+1,kw,out,hk,h1,h2=>by
  unfold findFrom;cases hg:nextG l kw with
  |none=>rfl
  |some g=>have:=yw hl hk hg;omega
 |n+1,0,kw,out,hk,h1,h2=>by
  unfold findFrom;cases hg:nextG l kw with
  |none=>rfl
  |some g=>have:=yw hl hk hg;omega
 |n+1,m+1,kw,out,hk,h1,h2=>by
  unfold findFrom;cases hg:nextG l kw with
  |none=>rfl
  |some g =>
   have:=yw hl hk hg;exact Hr hl n m _ _ (by rw[mI];exact hk) oz oz
theorem E5{l:Li}:∀(n:Nat)(kw:List Bool)(out:List Gr),∃gs,findFrom l n kw out=(gs.foldl (fun k g=>bQ k g.bo) kw,out++gs)
 |0,kw,out=>⟨[],by simp[findFrom]⟩
 |n+1,kw,out=>by
  unfold findFrom;cases hg:nextG l kw with
  |none=>exact⟨[],by simp⟩
  |some g =>
   obtain⟨gs,e⟩:=E5 n (bQ kw g.bo) (out++[g]);exact⟨g::gs,by show findFrom l n _ _=_;rw[e];simp⟩
theorem Qu(l:Li):findFrom l l.bo.length (dw l.bo.length 0) []=(cD l,findG l):=by
 obtain⟨gs,e⟩:=E5 (l:=l) l.bo.length (dw l.bo.length 0) [];unfold cD findG;rw[e];simp
theorem Bx{k:List Bool}:(gN k).length=0↔k.contains false=false:=by
 unfold gN;rw[apr,an1,List.filter_eq_nil_iff];constructor
 ·intro h;rw[<- Bool.not_eq_true,an8];intro hm;obtain⟨i,hi⟩:=List.mem_iff_getElem?.1 hm;have hlt:=(anz.1 hi).1;have:=h i (an2.2 hlt);rw[apq,hi]at this;simp at this
 ·intro h i hi;rw[<- Bool.not_eq_true,an8]at h;intro hc;have hlt:=an2.1 hi;rw[apq,aps hlt]at hc;simp at hc;exact h (hc▸anm hlt)
theorem wK:Sub (.agg [.v (.int .i64 0),.v (.slice none 0 0),.v (.slice none 0 0),.v (.int .i64 0)]) (Gr.av default):=.agg (.cons (.refl _) (.cons (.nil _ _ _) (.cons (.nil _ _ _) (.cons (.refl _) .nil)))) rfl
theorem Om{z:Int}(h:aa .geq z 0=true):0<=z:=aq9 h
theorem Lu{z:Int}(h:aa .geq z 0=false):¬0<=z:=ara h
theorem Di{a b c:Int}:cond (cond (aa .geq a 0) (aa .geq b 0) false) (aa .geq c 0) false=(decide (0<=a)&&decide (0<=b)&&decide (0<=c)):=by
 have e:∀z:Int,aa .geq z 0=decide (0<=z):=fun z=>rfl
 rw[e,e,e,lN,lN]
theorem Q6{a b:Int}:cond (aa .lss a 0) true (aa .lss b 0)=!(decide (0<=a)&&decide (0<=b)):=by
 have e:∀z:Int,aa .lss z 0=!decide (0<=z):=fun z=>by rw[<- decide_not];exact decide_eq_decide.2 oz
 rw[e,e,l7,Bool.not_and]
theorem Mi{a b:Int}(h:cond (aa .lss a 0) true (aa .lss b 0)=true):(decide (0<=a)&&decide (0<=b))=false:=by rw[Q6]at h;exact eI h
theorem KI{a b:Int}(h:cond (aa .lss a 0) true (aa .lss b 0)=false):0<=a/\0<=b:=by
 rw[Q6]at h;have:=eH h;simpa using this
structure TieO(l:Li)(kind:Int)(bs:List Int)(z b:Int)(j:Jt):Prop where
  hz:0<=z
  hj:l.jo[z.toNat]?=some j
  kd:j.kind=kind
  tie:(j.a=b/\j.b∉bs)\/(j.b=b/\j.a∉bs)
inductive DyK(l:Li):Gr->Prop where
  |drv {b z d:Int} {j:Jt} {x:Dr} (t:TieO l 0 [b] z b j) (d0:0<=d) (hd:l.dv[d.toNat]?=some x) (hb:x.body=b):DyK l ⟨0,[b],[z],d⟩
  |rrr {i k z0 z1 z2:Int} {j0 j1 j2:Jt} (ne:i≠k) (t0:TieO l 0 [i,k] z0 i j0) (t1:TieO l 0 [i,k] z1 k j1) (h0:0<=z2) (h2:l.jo[z2.toNat]?=some j2) (kd:j2.kind=0)
      (tie:(j2.a=i/\j2.b=k)\/(j2.b=i/\j2.a=k)):DyK l ⟨1,[i,k],[z0,z1,z2],0⟩
  |pr {i z0 z1:Int} {j0 j1:Jt} (t0:TieO l 0 [i] z0 i j0) (t1:TieO l 1 [i] z1 i j1) (ha:j1.a=i):DyK l ⟨2,[i],[z0,z1],0⟩
  |rp {i z0 z1:Int} {j0 j1:Jt} (t0:TieO l 0 [i] z0 i j0) (t1:TieO l 1 [i] z1 i j1) (ha:j1.a≠i):DyK l ⟨3,[i],[z0,z1],0⟩
theorem Cl{l:Li}{kind b:Int}{oth:List Bool}(h:0<=jointI l kind b oth) :
  ∃(i:Nat)(j:Jt),jointI l kind b oth=(i:Int)/\l.jo[i]?=some j/\j.kind=kind/\((j.a=b/\kn oth j.b=true)\/(j.b=b/\kn oth j.a=true)):=by
 unfold jointI at h ⊢;cases hf:dt l.jo.length (fun i=>!qe kind b oth (l.jo.getD i default))with
 |none=>rw[hf]at h;exact ard h (by decide)
 |some i =>
  obtain⟨h1,h2⟩:=ip hf;obtain⟨j,hj⟩:=ay h1;rw[ax hj]at h2;unfold qe at h2;simp only[aow,apw,aqy,aq8]at h2;exact⟨i,j,rfl,hj,h2.1,h2.2⟩
theorem ya{l:Li}{kind b:Int}{kw:List Bool}{bs:List Int}(hb:∀x∈bs,kn kw x=false)(h:0<=jointI l kind b kw):∃j,TieO l kind bs (jointI l kind b kw) b j:=by
 obtain⟨i,j,e,hj,hk,ht⟩:=Cl h;have hn:∀x,kn kw x=true->x∉bs:=fun x hx hm=>by rw[hb x hm]at hx;cases hx
 refine⟨j,h,by rw[e,aqo];exact hj,hk,?_⟩;rcases ht with⟨h1,h2⟩ |⟨h1,h2⟩
 ·exact .inl ⟨h1,hn _ h2⟩
 ·exact .inr ⟨h1,hn _ h2⟩
theorem wH{l:Li}{kw:List Bool}{b:Int}(h:freeB l kw b=true):kn kw b=false:=by
 unfold freeB at h;simp only[apw,ao0]at h;exact h.1
theorem Dv{kw:List Bool}{b:Int}(h:kn kw b=false):∀x∈[b],kn kw x=false:=fun x hx=>by rw[am8.1 hx];exact h
theorem aak{l:Li}(hl:aG l=0){kw:List Bool}{g:Gr}(h:driverG l kw=some g):DyK l g:=by
 unfold driverG at h;rw[apt]at h;obtain⟨i,hi,rfl⟩:=h;obtain⟨h1,h2⟩:=ip hi;obtain⟨d,hd⟩:=ay h1;unfold drHit at h2;simp only[aow,apw,aq8,ao0]at h2;rw[ax hd]at h2 ⊢;obtain⟨j,hj⟩:=ya (Dv h2.1) h2.2;exact .drv hj oz (by rw[aqo];exact hd) rfl
theorem XX{l:Li}(hl:aG l=0){kw:List Bool}{g:Gr}(h:pairG l kw=some g):DyK l g:=by
 unfold pairG at h;rw[apt]at h;obtain⟨i,hi,h⟩:=h;obtain⟨h1,h2⟩:=ip hi;split at h
 ·rename_i k hk;subst h;unfold prAt at hk;rw [apt] at hk;obtain ⟨k',hk',rfl⟩:=hk;obtain ⟨h3,h4⟩:=ip hk';rw [show i + 1 + k' = k' + (i + 1) by omega] at h4;unfold prHit at h4;simp only [aow,apw,aq8] at h4;obtain ⟨⟨f1,f2⟩,⟨j1,j2⟩,j3⟩:=h4
  have hb:∀x∈[(i:Int),((k'+(i+1):Nat):Int)],kn kw x=false:=fun x hx=>by
   simp only[aqf,aqg,or_false]at hx;rcases hx with rfl |rfl
   ·exact wH f1
   ·exact wH f2
  obtain⟨a0,t0⟩:=ya hb j1;obtain⟨a1,t1⟩:=ya hb j2;obtain⟨n,a2,e,hj,nk,ht⟩:=Cl j3;obtain⟨i1,i2,_⟩:=ee hl hj;have i1:=(d5 i1).1;have i2:=(d5 i2).1;refine .rrr oz t0 t1 j3 (by rw[e,aqo];exact hj) nk ?_;rcases ht with⟨e1,e2⟩ |⟨e1,e2⟩
  ·rw[uk i2 oz oz]at e2;exact .inl ⟨e1,aq9 e2⟩
  ·rw[uk i1 oz oz]at e2;exact .inr ⟨e1,aq9 e2⟩
 ·rename_i hk;rw[hk]at h2;cases h2
theorem abx{l:Li}{kw:List Bool}{g:Gr}(h:singleG l kw=some g):DyK l g:=by
 unfold singleG at h;rw[apt]at h;obtain⟨i,hi,rfl⟩:=h;obtain⟨h1,h2⟩:=ip hi;unfold sgHit at h2;simp only[aow,apw,aq8]at h2;obtain⟨f1,j1,j2⟩:=h2;obtain⟨a0,t0⟩:=ya (Dv (wH f1)) j1;obtain⟨a1,t1⟩:=ya (Dv (wH f1)) j2;unfold sgG;rw[ax t1.hj]
 by_cases e:a1.a=i
 ·rw[aq7 e];exact .pr t0 t1 e
 ·rw[aq6 e];exact .rp t0 t1 e
theorem abk{l:Li}(hl:aG l=0){kw:List Bool}{g:Gr}(h:nextG l kw=some g):DyK l g:=by
 unfold nextG at h;cases h1:driverG l kw with
 |some g'=>rw[h1]at h;cases h;exact aak hl h1
 |none =>
  rw[h1]at h;cases h2:pairG l kw with
  |some g'=>rw[h2]at h;cases h;exact XX hl h2
  |none=>rw[h2]at h;exact abx h
theorem Mq{l:Li}(hl:aG l=0):∀(n:Nat)(kw:List Bool)(out:List Gr),(∀g∈out,DyK l g)->∀g∈(findFrom l n kw out).2,DyK l g
 |0,kw,out,h=>h
 |n+1,kw,out,h=>by
  unfold findFrom;cases hg:nextG l kw with
  |none=>exact h
  |some g=>exact Mq hl n (bQ kw g.bo) (out++[g]) (fun x hx=>by
    rcases ap2.1 hx with hx |hx
    ·exact h x hx
    ·rw[am8.1 hx];exact abk hl hg)
theorem vj{l:Li}(hl:aG l=0){g:Gr}(h:g∈splitG l):DyK l g/\GrOk l g:=by
 unfold splitG at h;split at h
 ·exact⟨Mq hl _ _ _ (fun g hg=>by cases hg) g h,(wc hl).1 g h⟩
 ·cases h
open Lean.Grind
def E(r:(k:Nat)->T k)(n:Nat):Type:=T n
namespace T
theorem ofQ_zero:∀n,ofQ n 0=zero n
 |0=>rfl
 |n+1=>by simp only[ofQ,zero,ofQ_zero n]
theorem ofQ_add:∀n (p q:Rat),ofQ n (p+q)=add n (ofQ n p) (ofQ n q)
 |0,p,q=>rfl
 |n+1,p,q=>by simp only[ofQ,add,ofQ_add n,add_zero]
theorem ofQ_neg:∀n (p:Rat),ofQ n (-p)=neg n (ofQ n p)
 |0,p=>rfl
 |n+1,p=>by simp only[ofQ,neg,ofQ_neg n,neg_zero]
end T
structure Laws(r:(k:Nat)->T k)(n:Nat):Prop where
  assoc:∀x y z,T.mul r n (T.mul r n x y) z=T.mul r n x (T.mul r n y z)
  dist:∀x y z,T.mul r n x (T.add n y z)=T.add n (T.mul r n x y) (T.mul r n x z)
  one:∀x,T.mul r n (T.ofQ n 1) x=x
theorem T.neg_mul'{r:(k:Nat)->T k}{n:Nat}(h:Laws r n)(x y:T n):T.mul r n (T.neg n x) y=T.neg n (T.mul r n x y):=by
 have h1:T.add n (T.mul r n x y) (T.mul r n (T.neg n x) y)=T.zero n:=by
  rw[T.mul_comm r n x,T.mul_comm r n (T.neg n x),<- h.dist,T.add_neg,T.mul_zero]
 have h2:=are (fun z=>T.add n (T.neg n (T.mul r n x y)) z) h1;simp only[T.add_zero]at h2;rw[<- T.add_assoc,T.add_comm n (T.neg n _),T.add_neg,T.zero_add]at h2;exact h2
theorem T.mul_addr{r:(k:Nat)->T k}{n:Nat}(h:Laws r n)(a b c:T n):T.mul r n (T.add n a b) c=T.add n (T.mul r n a c) (T.mul r n b c):=by
 rw[T.mul_comm r n _ c,h.dist,T.mul_comm r n c,T.mul_comm r n c]
instance (r:(k:Nat)->T k)(n:Nat):Add (E r n):=⟨T.add n⟩
instance (r:(k:Nat)->T k)(n:Nat):Mul (E r n):=⟨T.mul r n⟩
instance (r:(k:Nat)->T k)(n:Nat):Neg (E r n):=⟨T.neg n⟩
instance (r:(k:Nat)->T k)(n:Nat):_root_.Sub (E r n):=⟨fun x y=>T.add n x (T.neg n y)⟩
instance (r:(k:Nat)->T k)(n c:Nat):OfNat (E r n) c:=⟨T.ofQ n (c:Rat)⟩
instance (r:(k:Nat)->T k)(n:Nat):NatCast (E r n):=⟨fun c=>T.ofQ n (c:Rat)⟩
instance (r:(k:Nat)->T k)(n:Nat):IntCast (E r n):=⟨fun c=>T.ofQ n (c:Rat)⟩
instance (r:(k:Nat)->T k)(n:Nat):SMul Nat (E r n):=⟨fun c x=>T.mul r n (T.ofQ n (c:Rat)) x⟩
instance (r:(k:Nat)->T k)(n:Nat):SMul Int (E r n):=⟨fun c x=>T.mul r n (T.ofQ n (c:Rat)) x⟩
def E.pow{r:(k:Nat)->T k}{n:Nat}(x:E r n):Nat->E r n
  |0=>T.ofQ n 1
  |c+1=>T.mul r n (E.pow x c) x
instance (r:(k:Nat)->T k)(n:Nat):HPow (E r n) Nat (E r n):=⟨E.pow⟩
@[reducible] def Laws.ring {r:(k:Nat)->T k} {n:Nat} (h:Laws r n):CommRing (E r n) where
  add_zero a:=by
    show T.add n a (T.ofQ n ((0:Nat):Rat))=a;rw[show(((0:Nat):Rat))=0 from rfl,T.ofQ_zero];exact T.add_zero n a
  add_comm a b:=T.add_comm n a b
  add_assoc a b c:=T.add_assoc n a b c
  mul_assoc a b c:=h.assoc a b c
  mul_one a:=(T.mul_comm r n a _).trans (h.one a)
  one_mul a:=h.one a
  left_distrib a b c:=h.dist a b c
  right_distrib a b c:=T.mul_addr h a b c
  zero_mul a:=by
    show T.mul r n (T.ofQ n ((0:Nat):Rat)) a=T.ofQ n ((0:Nat):Rat);rw[show(((0:Nat):Rat))=0 from rfl,T.ofQ_zero];exact T.zero_mul r n a
  mul_zero a:=by
    show T.mul r n a (T.ofQ n ((0:Nat):Rat))=T.ofQ n ((0:Nat):Rat);rw[show(((0:Nat):Rat))=0 from rfl,T.ofQ_zero];exact T.mul_zero r n a
  pow_zero a:=rfl
  pow_succ a c:=rfl
  ofNat_succ c:=by
    show T.ofQ n ((c+1:Nat):Rat)=T.add n (T.ofQ n (c:Rat)) (T.ofQ n ((1:Nat):Rat));rw[<- T.ofQ_add];congr 1;exact Rat.natCast_add c 1
  ofNat_eq_natCast c:=rfl
  nsmul_eq_natCast_mul c a:=rfl
  neg_add_cancel a:=(T.add_comm n (T.neg n a) a).trans ((T.add_neg n a).trans (T.ofQ_zero n).symm)
  sub a b:=T.add n a (T.neg n b)
  sub_eq_add_neg a b:=rfl
  neg_zsmul i a:=(are (fun z=>T.mul r n z a) (show T.ofQ n ((-i:Int):Rat)=T.neg n (T.ofQ n (i:Rat)) by rw[Rat.intCast_neg,T.ofQ_neg])).trans (T.neg_mul' h _ a)
  zsmul_natCast_eq_nsmul c a:=rfl
  intCast_ofNat c:=rfl
  intCast_neg i:=by
    show T.ofQ n ((-i:Int):Rat)=T.neg n (T.ofQ n (i:Rat));rw[Rat.intCast_neg,T.ofQ_neg]
  mul_comm a b:=T.mul_comm r n a b
section
variable{R:Type}[CommRing R](x y u v p q d:R)
theorem ZW:(x*u+y*v*d)*p+(x*v+y*u)*q*d=x*(u*p+v*q*d)+y*(u*q+v*p)*d:=by grind
theorem ace:(x*u+y*v*d)*q+(x*v+y*u)*p=x*(u*q+v*p)+y*(u*p+v*q*d):=by grind
theorem WH:x*(u+p)+y*(v+q)*d=(x*u+y*v*d)+(x*p+y*q*d):=by grind
theorem VT:x*(v+q)+y*(u+p)=(x*v+y*u)+(x*q+y*p):=by grind
end
theorem sP(r:(k:Nat)->T k):∀n,Laws r n
 |0=>⟨fun x y z=>Rat.mul_assoc x y z,fun x y z=>Rat.mul_add x y z,fun x=>Rat.one_mul x⟩
 |n+1=>by
  have I:=(sP r n).ring;have h1:=(sP r n).one;refine⟨?_,?_,?_⟩
  ·rintro⟨x,y⟩ ⟨u,v⟩ ⟨p,q⟩;exact Prod.ext (@ZW (E r n) (sP r n).ring x y u v p q (r n)) (@ace (E r n) (sP r n).ring x y u v p q (r n))
  ·rintro⟨x,y⟩ ⟨u,v⟩ ⟨p,q⟩;exact Prod.ext (@WH (E r n) (sP r n).ring x y u v p q (r n)) (@VT (E r n) (sP r n).ring x y u v p q)
  ·rintro⟨u,v⟩;refine Prod.ext ?_ ?_
   ·show T.add n (T.mul r n (T.ofQ n 1) u) (T.mul r n (T.mul r n (T.zero n) v) (r n))=u;rw[h1,T.zero_mul,T.zero_mul,T.add_zero]
   ·show T.add n (T.mul r n (T.ofQ n 1) v) (T.mul r n (T.zero n) u)=v;rw[h1,T.zero_mul,T.add_zero]
instance eRing(r:(k:Nat)->T k)(n:Nat):CommRing (E r n):=(sP r n).ring
structure Sg(R:Type)[CommRing R](s:R->Int):Prop where
  cs:∀x,s x=-1\/s x=0\/s x=1
  one:s 1=1
  neg:∀x,s (-x)=-s x
  mul:∀x y,s (x*y)=s x*s y
  add:∀x y,0<=s x->0<=s y->0<=s (x+y)
namespace Sg
variable{R:Type}[CommRing R]{s:R->Int}
theorem zero(h:Sg R s):s 0=0:=by
 have h1:=h.neg 0;rw[show -(0:R)=0 by grind]at h1;omega
theorem zadd(h:Sg R s){x y:R}(hx:s x=0):s (x+y)=s y:=by
 have h1:=h.cs y;have h2:=h.cs (x+y);have n1:=h.neg x;have n2:=h.neg y;have n3:=h.neg (x+y);have a1:=h.add x y;have a2:=h.add (-x) (-y);have a3:=h.add (-x) (x+y);have a4:=h.add x (-(x+y));rw[show -x+-y=-(x+y) by grind]at a2;rw[show -x+(x+y)=y by grind]at a3;rw[show x+-(x+y)=-y by grind]at a4;omega
theorem padd(h:Sg R s){x y:R}(hx:s x=1)(hy:0<=s y):s (x+y)=1:=by
 have h2:=h.cs (x+y);have a1:=h.add x y;have n2:=h.neg y;have n3:=h.neg (x+y);have a4:=h.add (-(x+y)) y;have e:-(x+y)+y=-x:=by grind
 have n1:=h.neg x;rw[e]at a4;rcases h2 with h2 |h2 |h2
 ·omega
 ·have:=h.zadd (x:=-(x+y)) (y:=y) oz;rw[e]at this;omega
 ·exact h2
theorem sq(h:Sg R s)(x:R):0<=s (x*x):=by
 rw[h.mul];rcases h.cs x with e |e |e <;> rw[e] <;> decide
theorem sub0(h:Sg R s){x y:R}(hx:s (x-y)=0):s x=s y:=by
 have:=h.zadd (y:=y) hx
 rwa [show x-y+y=x by grind]at this
theorem sqle(h:Sg R s){a b:R}(ha:0<=s a)(hb:0<=s (a*a-b*b)):0<=s (a+b):=by
 have c1:=h.cs (a+b);rcases c1 with c1 |c1 |c1
 ·exfalso;have n1:=h.neg (a+b);have p1:s (-(a+b)+a)=1:=h.padd oz ha;rw[show -(a+b)+a=-b by grind]at p1;have p2:s (-b+a)=1:=h.padd p1 ha;have m:=h.mul (-b+a) (a+b);rw[show(-b+a)*(a+b)=a*a-b*b by grind,p2,c1]at m;omega
 ·omega
 ·omega
theorem cancel(h:Sg R s){p x:R}(hp:s p=1)(hx:0<=s (p*x)):0<=s x:=by
 rw[h.mul,hp]at hx;omega
end Sg
def cc{r:(k:Nat)->T k}{n:Nat}(x y:E r n):E r (n+1):=((x,y):T n×T n)
def sg(r:(k:Nat)->T k)(n:Nat)(x:E r n):Int:=T.sgn r n x
def b7(r:(k:Nat)->T k)(n:Nat):E r n:=r n
variable{r:(k:Nat)->T k}{n:Nat}
theorem nV(z:E r (n+1)):∃x y:E r n,z=cc x y:=⟨z.1,z.2,rfl⟩
theorem uH(x y u v:E r n):cc x y+cc u v=cc (x+u) (y+v):=rfl
theorem yr(x y:E r n):-cc x y=cc (-x) (-y):=rfl
theorem o0(x y u v:E r n):cc x y*cc u v=cc (x*u+y*v*b7 r n) (x*v+y*u):=rfl
theorem E.zero_def:(0:E r n)=T.zero n:=T.ofQ_zero n
theorem Bm:(1:E r (n+1))=cc 1 0:=by
 show T.ofQ (n+1) ((1:Nat):Rat)=(T.ofQ n ((1:Nat):Rat),T.ofQ n ((0:Nat):Rat));rw[show(((0:Nat):Rat))=0 from rfl,T.ofQ_zero];rfl
def a8(x y:E r n):E r n:=x*x+-(y*y*b7 r n)
theorem oV(x y:E r n):sg r (n+1) (cc x y)=T.sgn3 (sg r n x) (sg r n y) (sg r n (b7 r n)) (sg r n (a8 x y)):=rfl
def PE(x y:E r n):Prop:=(0<=sg r n x/\0<=sg r n (a8 x y))\/(0<=sg r n y/\0 <= -sg r n (a8 x y))
theorem wY(h:Sg (E r n) (sg r n))(hd:sg r n (b7 r n)=1)(x y:E r n):0<=sg r (n+1) (cc x y)↔PE x y:=by
 rw[oV,hd];unfold PE
 have f1:sg r n y=0->sg r n (a8 x y)=sg r n x*sg r n x:=by
  intro hy;have h1:sg r n (-(y*y*b7 r n))=0:=by rw[h.neg,h.mul,h.mul,hy];simp
  have:=h.zadd (y:=x*x) h1;unfold a8;rw[show x*x+-(y*y*b7 r n)=-(y*y*b7 r n)+x*x by grind,this,h.mul]
 have f2:sg r n x=0->sg r n (a8 x y)=-(sg r n y*sg r n y):=by
  intro hx;have h1:sg r n (x*x)=0:=by rw[h.mul,hx];simp
  have:=h.zadd (y:=-(y*y*b7 r n)) h1;unfold a8;rw[this,h.neg,h.mul,h.mul,hd];simp
 have c1:=h.cs x;have c2:=h.cs y;have c3:=h.cs (a8 x y)
 revert f1 f2 c1 c2 c3
 generalize sg r n x=a;generalize sg r n y=b;generalize sg r n (a8 x y)=c;intro f1 f2 c1 c2 c3;rcases c1 with rfl |rfl |rfl <;> rcases c2 with rfl |rfl |rfl <;> rcases c3 with rfl |rfl |rfl <;> first |decide |(exfalso;revert f1 f2;decide)
theorem aae(h:Sg (E r n) (sg r n))(hd:sg r n (b7 r n)=1){x y u v:E r n}(h1:PE x y)(h2:PE u v):PE (x*u+y*v*b7 r n) (x*v+y*u):=by
 have nm:a8 (x*u+y*v*b7 r n) (x*v+y*u)=a8 x y*a8 u v:=by unfold a8;grind
 have hn:=h.mul (a8 x y) (a8 u v);have d0:0<=sg r n (b7 r n):=by omega
 unfold PE;rw[nm,hn];rcases h1 with⟨a1,a2⟩ |⟨a1,a2⟩ <;> rcases h2 with⟨b1,b2⟩ |⟨b1,b2⟩
 ·refine .inl ⟨h.sqle ?_ ?_,aod a2 b2⟩
  ·rw[h.mul];exact aod a1 b1
  ·have e : x * u * (x * u) - y * v * b7 r n * (y * v * b7 r n) = a8 x y * (u * u) + y * y * b7 r n * a8 u v := by unfold a8; grind
   rw[e];refine h.add _ _ ?_ ?_
   ·rw[h.mul];exact aod a2 (h.sq u)
   ·rw[h.mul,h.mul];exact aod (aod (h.sq y) d0) b2
 ·refine .inr ⟨h.sqle ?_ ?_,?_⟩
  ·rw[h.mul];exact aod a1 b1
  ·have e : x * v * (x * v) - y * u * (y * u) = a8 x y * (v * v) + y * y * -a8 u v := by unfold a8; grind
   rw[e];refine h.add _ _ ?_ ?_
   ·rw[h.mul];exact aod a2 (h.sq v)
   ·rw[h.mul,h.neg];exact aod (h.sq y) b2
  ·rw[<- Int.mul_neg];exact aod a2 b2
 ·refine .inr ⟨?_,?_⟩
  ·rw [show x * v + y * u = y * u + x * v by grind];refine h.sqle ?_ ?_
   ·rw[h.mul];exact aod a1 b1
   ·have e : y * u * (y * u) - x * v * (x * v) = a8 u v * (y * y) + v * v * -a8 x y := by unfold a8; grind
    rw[e];refine h.add _ _ ?_ ?_
    ·rw[h.mul];exact aod b2 (h.sq y)
    ·rw[h.mul,h.neg];exact aod (h.sq v) a2
  ·rw[<- Int.neg_mul];exact aod a2 b2
 ·refine .inl ⟨?_,?_⟩
  ·rw [show x * u + y * v * b7 r n = y * v * b7 r n + x * u by grind];refine h.sqle ?_ ?_
   ·rw[h.mul,h.mul];exact aod (aod a1 b1) d0
   ·have e : y * v * b7 r n * (y * v * b7 r n) - x * u * (x * u) = -a8 x y * (v * v * b7 r n) + x * x * -a8 u v := by unfold a8; grind
    rw[e];refine h.add _ _ ?_ ?_
    ·rw[h.mul,h.neg,h.mul];exact aod a2 (aod (h.sq v) d0)
    ·rw[h.mul,h.neg];exact aod (h.sq x) b2
  ·rw[<- Int.neg_mul_neg];exact aod a2 b2
theorem PK(h:Sg (E r n) (sg r n))(hd:sg r n (b7 r n)=1){x y u v:E r n}(a1:0<=sg r n x)(a2:0<=sg r n (a8 x y))(b1:0<=sg r n v)(b2:0 <= -sg r n (a8 u v)):PE (x+u) (y+v):=by
  have cX:=h.cs (x+u);have cY:=h.cs (y+v);have cN:=h.cs (a8 (x+u) (y+v));unfold PE
  by_cases hX:0<=sg r n (x+u)
  · by_cases hN:0<=sg r n (a8 (x+u) (y+v))
    · exact .inl ⟨hX,hN⟩
    · by_cases hY:0<=sg r n (y+v)
      · exact .inr ⟨hY,by omega⟩
      · -- Y < 0: then N is at least 0
        exfalso;have hY':sg r n (-(y+v))=1:=by rw[h.neg];omega
        have ny:sg r n (-y)=1:=by
          have:=h.padd hY' b1
          rwa [show -(y+v)+v=-y by grind]at this
        have k1:0<=sg r n (x*v+y*u):=by
          refine h.sqle (by rw[h.mul];exact aod a1 b1) ?_;have e:x*v*(x*v)-y*u*(y*u)=a8 x y*(v*v)+y*y*-a8 u v:=by unfold a8;grind
          rw[e];refine h.add _ _ ?_ ?_
          · rw[h.mul];exact aod a2 (h.sq v)
          · rw[h.mul,h.neg];exact aod (h.sq y) b2
        have k2:0<=sg r n (x*v+-(y*u)):=by
          refine h.sqle (by rw[h.mul];exact aod a1 b1) ?_;have e:x*v*(x*v) - -(y*u)*-(y*u)=a8 x y*(v*v)+y*y*-a8 u v:=by unfold a8;grind
          rw[e];refine h.add _ _ ?_ ?_
          · rw[h.mul];exact aod a2 (h.sq v)
          · rw[h.mul,h.neg];exact aod (h.sq y) b2
        have k3:0<=sg r n (-y*(x+u)-x*-(y+v)):=by
          rw[show -y*(x+u)-x*-(y+v)=x*v+-(y*u) by grind];exact k2
        have k4:0<=sg r n (-y*(x+u)+x*-(y+v)):=by
          rw[show -y*(x+u)+x*-(y+v)=(-y*(x+u)-x*-(y+v))+(x*-(y+v)+x*-(y+v)) by grind];refine h.add _ _ k3 (h.add _ _ ?_ ?_) <;> (rw[h.mul,hY'];omega)
        have k5:0<=sg r n ((y*y)*a8 (x+u) (y+v)):=by
          have e:(y*y)*a8 (x+u) (y+v)=(-y*(x+u)-x*-(y+v))*(-y*(x+u)+x*-(y+v))+a8 x y*(-(y+v)*-(y+v)):=by unfold a8;grind
          rw[e];refine h.add _ _ (by rw[h.mul];exact aod k3 k4) (by rw[h.mul];exact aod a2 (h.sq _))
        have k6 := h.cancel (by rw [h.mul]; rw [h.neg] at ny; have : sg r n y = -1 := by omega
                                rw[this];rfl) k5
        exact hN k6
  · have hX' : sg r n (-(x + u)) = 1 := by rw [h.neg]; omega
    have nu:sg r n (-u)=1:=by
      have:=h.padd hX' a1
      rwa [show -(x+u)+x=-u by grind]at this
    have su:sg r n u=-1:=by rw[h.neg]at nu;omega
    have hv:sg r n v=1:=by
      rcases h.cs v with e |e |e
      · omega
      · exfalso
        have h1:sg r n (-(v*v*b7 r n))=0:=by rw[h.neg,h.mul,h.mul,e];simp
        have:=h.zadd (y:=u*u) h1;rw[show -(v*v*b7 r n)+u*u=a8 u v by unfold a8;grind,h.mul,su]at this;omega
      · exact e
    have k1:0<=sg r n (x*v+y*-u):=by
      refine h.sqle (by rw[h.mul];exact aod a1 b1) ?_;have e:x*v*(x*v)-y*-u*(y*-u)=a8 x y*(v*v)+y*y*-a8 u v:=by unfold a8;grind
      rw[e];refine h.add _ _ ?_ ?_
      · rw[h.mul];exact aod a2 (h.sq v)
      · rw[h.mul,h.neg];exact aod (h.sq y) b2
    have k3:0<=sg r n (-u*(y+v)-v*-(x+u)):=by
      rw[show -u*(y+v)-v*-(x+u)=x*v+y*-u by grind];exact k1
    have k4:0<=sg r n (v*-(x+u)):=by rw[h.mul,hv,hX'];decide
    have kY:0<=sg r n (y+v):=by
      refine h.cancel nu ?_;rw[show -u*(y+v)=(-u*(y+v)-v*-(x+u))+v*-(x+u) by grind];exact h.add _ _ k3 k4
    refine .inr ⟨kY,?_⟩
    have k5:0<=sg r n ((v*v)*-a8 (x+u) (y+v)):=by
      have e:(v*v)*-a8 (x+u) (y+v)=(-u*(y+v)-v*-(x+u))*(-u*(y+v)+v*-(x+u))+-a8 u v*((y+v)*(y+v)):=by unfold a8;grind
      rw[e];have k6:0<=sg r n (-u*(y+v)+v*-(x+u)):=h.add _ _ (by rw[h.mul,nu];omega) k4;refine h.add _ _ (by rw[h.mul];exact aod k3 k6) (by rw[h.mul,h.neg];exact aod b2 (h.sq _))
    have k7:=h.cancel (by rw[h.mul,hv];rfl) k5
    rwa [h.neg]at k7
theorem af1(h:Sg (E r n) (sg r n))(hd:sg r n (b7 r n)=1){x y u v:E r n}(h1:PE x y)(h2:PE u v):PE (x+u) (y+v):=by
 have d0:0<=sg r n (b7 r n):=by omega
 rcases h1 with⟨a1,a2⟩ |⟨a1,a2⟩ <;> rcases h2 with⟨b1,b2⟩ |⟨b1,b2⟩
 ·refine .inl ⟨h.add _ _ a1 b1,?_⟩
  have k:0<=sg r n (x*u+-(y*v*b7 r n)):=by
   refine h.sqle (by rw[h.mul];exact aod a1 b1) ?_;have e:x*u*(x*u) - -(y*v*b7 r n)*-(y*v*b7 r n)=a8 x y*(u*u)+y*y*b7 r n*a8 u v:=by unfold a8;grind
   rw[e];refine h.add _ _ ?_ ?_
   ·rw[h.mul];exact aod a2 (h.sq u)
   ·rw[h.mul,h.mul];exact aod (aod (h.sq y) d0) b2
  rw[show a8 (x+u) (y+v)=(a8 x y+a8 u v)+((x*u+-(y*v*b7 r n))+(x*u+-(y*v*b7 r n))) by unfold a8;grind];exact h.add _ _ (h.add _ _ a2 b2) (h.add _ _ k k)
 ·exact PK h hd a1 a2 b1 b2
 ·rw[show x+u=u+x by grind,show y+v=v+y by grind];exact PK h hd b1 b2 a1 a2
 ·refine .inr ⟨h.add _ _ a1 b1,?_⟩
  have k:0<=sg r n (y*v*b7 r n+-(x*u)):=by
   refine h.sqle (by rw[h.mul,h.mul];exact aod (aod a1 b1) d0) ?_;have e:y*v*b7 r n*(y*v*b7 r n) - -(x*u)*-(x*u)=-a8 x y*(v*v*b7 r n)+x*x*-a8 u v:=by unfold a8;grind
   rw[e];refine h.add _ _ ?_ ?_
   ·rw[h.mul,h.neg,h.mul];exact aod a2 (aod (h.sq v) d0)
   ·rw[h.mul,h.neg];exact aod (h.sq x) b2
  have k2:0<=sg r n (-a8 (x+u) (y+v)):=by
   rw[show -a8 (x+u) (y+v)=(-a8 x y+-a8 u v)+((y*v*b7 r n+-(x*u))+(y*v*b7 r n+-(x*u))) by unfold a8;grind];exact h.add _ _ (h.add _ _ (by rw[h.neg];exact a2) (by rw[h.neg];exact b2)) (h.add _ _ k k)
  rwa [h.neg]at k2
theorem adi(a b c d:Int):T.sgn3 (-a) (-b) c d=-T.sgn3 a b c d:=by
 unfold T.sgn3;have e:(-a=-b \/ -b=0)↔(a=b\/b=0):=by omega
 simp only[e];split
 ·rfl
 ·split
  ·rfl
  ·by_cases h:a=0
   ·rw[aq7 oz,aq7 h]
   ·rw[aq6 oz,aq6 h,Int.neg_mul]
theorem ab2(h:Sg (E r n) (sg r n))(hd:0<=sg r n (b7 r n)):Sg (E r (n+1)) (sg r (n+1)):=by
 have cB:∀z:E r (n+1),sg r (n+1) z=-1\/sg r (n+1) z=0\/sg r (n+1) z=1:=fun z=>T.sgn_cases r (n+1) z
 have rF:sg r (n+1) 1=1:=by
  rw[Bm,oV,h.one,h.zero];unfold T.sgn3;split
  ·rfl
  ·simp
 have kX:∀z:E r (n+1),sg r (n+1) (-z)=-sg r (n+1) z:=by
  intro z;obtain⟨x,y,rfl⟩:=nV z;rw[yr,oV,oV,h.neg,h.neg,show a8 (-x) (-y)=a8 x y by unfold a8;grind,adi]
 by_cases f9:sg r n (b7 r n)=0
 ·have e0:∀x y:E r n,sg r (n+1) (cc x y)=sg r n x:=by
   intro x y;rw[oV,f9];unfold T.sgn3;rw[aq7 rfl]
  refine⟨cB,rF,kX,?_,?_⟩
  ·intro z w;obtain ⟨x,y,rfl⟩:=nV z;obtain ⟨u,v,rfl⟩:=nV w;rw [o0,e0,e0,e0];have h1:sg r n (y * v * b7 r n) = 0:=by rw [h.mul,f9]; simp
   have:=h.zadd (y:=x*u) h1;rw[show x*u+y*v*b7 r n=y*v*b7 r n+x*u by grind,this,h.mul]
  ·intro z w;obtain⟨x,y,rfl⟩:=nV z;obtain⟨u,v,rfl⟩:=nV w;rw[uH,e0,e0,e0];exact h.add x u
 ·have iW : sg r n (b7 r n) = 1 := by rcases h.cs (b7 r n) with e | e | e <;> omega
  have jf:∀z w:E r (n+1),0<=sg r (n+1) z->0<=sg r (n+1) w->0<=sg r (n+1) (z+w):=by
   intro z w;obtain⟨x,y,rfl⟩:=nV z;obtain⟨u,v,rfl⟩:=nV w;rw[uH,wY h iW,wY h iW,wY h iW];exact af1 h iW
  have lG:∀z w:E r (n+1),0<=sg r (n+1) z->0<=sg r (n+1) w->0<=sg r (n+1) (z*w):=by
   intro z w;obtain⟨x,y,rfl⟩:=nV z;obtain⟨u,v,rfl⟩:=nV w;rw[o0,wY h iW,wY h iW,wY h iW];exact aae h iW
  have DZ:∀z w:E r (n+1),sg r (n+1) z=0->sg r (n+1) (w*z)=0:=by
   intro z w hz;have n1:=kX z;have n2:=kX w;have n3:=kX (w*z);have m1:=lG w z;have m2:=lG w (-z);have m3:=lG (-w) z;have m4:=lG (-w) (-z);rw[show w*-z=-(w*z) by grind]at m2;rw[show -w*z=-(w*z) by grind]at m3;rw[show -w*-z=w*z by grind]at m4;rcases cB w with e |e |e <;> omega
  have Sw:∀(a u v:E r n),sg r (n+1) (cc (a*u) (a*v))=sg r n a*sg r (n+1) (cc u v):=by
   intro a u v;rw[oV,oV,show a8 (a*u) (a*v)=a*a*a8 u v by unfold a8;grind,h.mul,h.mul,h.mul,h.mul,iW]
   have f1:sg r n v=0->sg r n (a8 u v)=sg r n u*sg r n u:=by
    intro hy;have h1:sg r n (-(v*v*b7 r n))=0:=by rw[h.neg,h.mul,h.mul,hy];simp
    have:=h.zadd (y:=u*u) h1;unfold a8;rw[show u*u+-(v*v*b7 r n)=-(v*v*b7 r n)+u*u by grind,this,h.mul]
   have c1:=h.cs u;have c2:=h.cs v;have c3:=h.cs (a8 u v);have c4:=h.cs a
   revert c1 c2 c3 c4
   generalize sg r n u=a1;generalize sg r n v=b1;generalize sg r n (a8 u v)=c1;generalize sg r n a=e1;intro c1 c2 c3 c4;rcases c1 with rfl |rfl |rfl <;> rcases c2 with rfl |rfl |rfl <;> rcases c3 with rfl |rfl |rfl <;> rcases c4 with rfl |rfl |rfl <;> decide
  have alc:∀z w:E r (n+1),sg r (n+1) z=1->0<=sg r (n+1) w->sg r (n+1) (z+w)=1:=by
   intro z w hz hw;have a1:=jf z w oz hw;rcases cB (z+w)with e |e |e
   ·omega
   ·exfalso;have n1:=kX z;have n2:=kX (z+w);have a2:=jf (-(z+w)) w oz hw;rw[show -(z+w)+w=-z by grind]at a2;omega
   ·exact e
  have xj:∀z w:E r (n+1),sg r (n+1) z=1->sg r (n+1) w=1->sg r (n+1) (z*w)=1:=by
   intro z w hz hw;obtain⟨x,y,rfl⟩:=nV z;obtain⟨u,v,rfl⟩:=nV w;have p0:=lG _ _ (by omega:0<=sg r (n+1) (cc x y)) (by omega:0<=sg r (n+1) (cc u v));rcases cB (cc x y*cc u v)with e |e |e
   ·omega
   ·exfalso
    by_cases hN:sg r n (a8 x y)=0
    ·have Sx:sg r n x=1/\sg r n y=1:=by
      rw[oV,iW,hN]at hz
      have f1:sg r n y=0->sg r n (a8 x y)=sg r n x*sg r n x:=by
       intro hy;have h1:sg r n (-(y*y*b7 r n))=0:=by rw[h.neg,h.mul,h.mul,hy];simp
       have:=h.zadd (y:=x*x) h1;unfold a8;rw[show x*x+-(y*y*b7 r n)=-(y*y*b7 r n)+x*x by grind,this,h.mul]
      have f2:sg r n x=0->sg r n (a8 x y)=-(sg r n y*sg r n y):=by
       intro hx;have h1:sg r n (x*x)=0:=by rw[h.mul,hx];simp
       have:=h.zadd (y:=-(y*y*b7 r n)) h1;unfold a8;rw[this,h.neg,h.mul,h.mul,iW];simp
      rw[hN]at f1 f2;have c1:=h.cs x;have c2:=h.cs y
      revert hz f1 f2 c1 c2
      generalize sg r n x=a;generalize sg r n y=b;intro hz f1 f2 c1 c2;rcases c1 with rfl |rfl |rfl <;> rcases c2 with rfl |rfl |rfl <;> revert hz f1 f2 <;> decide
     have k1:sg r (n+1) (cc (x*u) (x*v))=1:=by rw[Sw,Sx.1,hw];rfl
     have k2:0<=sg r (n+1) (cc 0 y):=by
      rw[oV,h.zero,Sx.2,iW];unfold T.sgn3;simp
     have k3:=lG _ _ k2 (by omega:0<=sg r (n+1) (cc u v));have k4:=alc _ _ k1 k3;rw[o0,uH]at k4;rw[o0]at e;rw[show x*u+(0*u+y*v*b7 r n)=x*u+y*v*b7 r n by grind,show x*v+(0*v+y*u)=x*v+y*u by grind]at k4;omega
    ·have k1:=DZ _ (cc x (-y)) e;rw[show cc x (-y)*(cc x y*cc u v)=cc (a8 x y*u) (a8 x y*v) by rw[o0,o0];unfold a8;congr 1 <;> grind,Sw,hw]at k1;omega
   ·exact e
  refine⟨cB,rF,kX,?_,jf⟩;intro z w;rcases cB w with e |e |e
  ·rcases cB z with e' |e' |e'
   ·have := xj (-z) (-w) (by rw[kX];omega) (by rw[kX];omega);rw[show -z*-w=z*w by grind]at this;rw[this,e,e'];rfl
   ·have:=DZ z w e';rw[show w*z=z*w by grind]at this;rw[this,e'];simp
   ·have := xj z (-w) e' (by rw[kX];omega);rw[show z*-w=-(z*w) by grind,kX]at this;rw[e,e'];omega
  ·rw[DZ w z e,e];simp
  ·rcases cB z with e' |e' |e'
   ·have := xj (-z) w (by rw[kX];omega) e;rw[show -z*w=-(z*w) by grind,kX]at this;rw[e,e'];omega
   ·have:=DZ z w e';rw[show w*z=z*w by grind]at this;rw[this,e'];simp
   ·rw[xj z w e' e,e,e'];rfl
theorem sF(q:Rat):ci q=-1/\q<0\/ci q=0/\q=0\/ci q=1/\0<q:=by
 unfold ci;split
 ·exact .inl ⟨rfl,by assumption⟩
 ·split
  ·exact .inr (.inr ⟨rfl,by assumption⟩)
  ·exact .inr (.inl ⟨rfl,by grind⟩)
theorem Cc{q:Rat}(h:0<q):ci q=1:=by
 rcases sF q with⟨_,h'⟩ |⟨_,h'⟩ |⟨e,_⟩
 ·grind
 ·grind
 ·exact e
theorem HG{q:Rat}(h:q<0):ci q=-1:=by
 rcases sF q with⟨e,_⟩ |⟨_,h'⟩ |⟨_,h'⟩
 ·exact e
 ·grind
 ·grind
theorem N4(q:Rat):ci (-q)=-ci q:=by
 rcases sF q with⟨e,h⟩ |⟨e,h⟩ |⟨e,h⟩
 ·rw[e,Cc (by grind)];rfl
 ·rw[h];rfl
 ·rw[e,HG (by grind)]
theorem akj(p q:Rat):ci (p*q)=ci p*ci q:=by
 have h0:ci 0=0:=rfl;rcases sF p with⟨e,h⟩ |⟨e,h⟩ |⟨e,h⟩ <;> rcases sF q with⟨e',h'⟩ |⟨e',h'⟩ |⟨e',h'⟩
 ·have := aot (a := -p) (b := -q) (by grind) (by grind);rw[e,e',Cc (by grind)];rfl
 ·rw[h',Rat.mul_zero,h0];simp
 ·have := aot (a := -p) (b := q) (by grind) h';rw[e,e',HG (by grind)];rfl
 ·rw[h,Rat.zero_mul,h0];simp
 ·rw[h,Rat.zero_mul,h0];simp
 ·rw[h,Rat.zero_mul,h0];simp
 ·have := aot (a := p) (b := -q) h (by grind);rw[e,e',HG (by grind)];rfl
 ·rw[h',Rat.mul_zero,h0];simp
 ·rw[e,e',Cc (aot h h')];rfl
theorem afb(p q:Rat)(h1:0<=ci p)(h2:0<=ci q):0<=ci (p+q):=by
 rcases sF (p+q)with⟨e,h⟩ |⟨e,h⟩ |⟨e,h⟩
 ·exfalso;rcases sF p with⟨e1,g1⟩ |⟨e1,g1⟩ |⟨e1,g1⟩ <;> rcases sF q with⟨e2,g2⟩ |⟨e2,g2⟩ |⟨e2,g2⟩ <;> first |omega |grind
 ·omega
 ·omega
theorem afi(r:(k:Nat)->T k):Sg (E r 0) (sg r 0) :=
 ⟨fun q=>T.sgnQ_cases q,rfl,fun q=>N4 q,fun p q=>akj p q,fun p q=>afb p q⟩
def iz(r:(k:Nat)->T k)(n:Nat):Prop:=∀j,j<n->0<=T.sgn r j (r j)
theorem fZ(r:(k:Nat)->T k):∀n,iz r n->Sg (E r n) (sg r n)
 |0,_=>afi r
 |n+1,h=>ab2 (fZ r n (fun j hj=>h j oz)) (h n oz)
end Go.Lw
namespace Go.Lw
def xA{r:(k:Nat)->T k}{n:Nat}(x:E r n):AV:=nA (sh n x)
abbrev Pn(r:(k:Nat)->T k)(n:Nat):Type:=E r n×E r n
def rz(r:(k:Nat)->T k)(n:Nat):LL:=(List.range n).map fun k=>enc k (r k)
def qE{r:(k:Nat)->T k}{n:Nat}(q:Rat):E r n:=T.ofQ n q
theorem El:∀(n:Nat)(q:Rat),sh n (T.ofQ n q)=sh 0 (q:Rat)
 |0,q=>rfl
 |n+1,q=>by
  show(if T.isZ n (T.zero n)=true then sh n (T.ofQ n q)else _)=_;rw[aq7 ((T.isZ_iff n _).2 rfl),El n q]
theorem O4:∀n:Nat,sh n (T.zero n)=[]
 |0=>rfl
 |n+1=>by
  show(if T.isZ n (T.zero n)=true then sh n (T.zero n)else _)=_;rw[aq7 ((T.isZ_iff n _).2 rfl),O4 n]
theorem zi(r:(k:Nat)->T k)(n:Nat):(rz r n).length=n:=by simp[rz]
theorem J9{r:(k:Nat)->T k}{n j:Nat}(h:j<n):(rz r n).getD j []=enc j (r j):=by
 unfold rz;rw[apq,apv,List.getElem?_range h];rfl
theorem aiw{r:(k:Nat)->T k}{n j:Nat}(h:j<n):aw (rz r n) j=r j:=by
 unfold aw;rw[J9 h,CO]
theorem Q7{ts:LL}{R:Nat}(tw:Tw ts R):ts=rz (aw ts) ts.length:=by
 apply List.ext_getElem?;intro j
 by_cases hj:j<ts.length
 ·have h1:=J9 (r:=aw ts) hj;have h2:=tw.len j hj;rw[apq]at h1;rw[aps (show j<(rz (aw ts) ts.length).length by rw[zi];exact hj)]at h1 ⊢;rw[apl]at h1;rw[h1,aps hj];unfold aw;rw[wa _ _ h2,apq,aps hj];rfl
 ·rw[ap6 oz,ap6 (by rw[zi];omega)]
class Cx(r:(k:Nat)->T k)(n:Nat)(u k:outParam Nat):Prop where
  ex:∃R,Tw (rz r n) R/\eB R n<=k
  k1:1<=k
  u3:3<=u
class Zu(u k:Nat){r:(k:Nat)->T k}{n:Nat}(x:E r n)(w v:outParam Nat):Prop where
  nm:Nm n (w*u+v*k) (sh n x)
class Zp(u k:Nat){r:(k:Nat)->T k}{n:Nat}(p:Pn r n)(w v:outParam Nat):Prop where
  x:Nm n (w*u+v*k) (sh n p.1)
  y:Nm n (w*u+v*k) (sh n p.2)
class Qz(u:Nat)(q:Rat)(w:outParam Nat):Prop where
  cb:Cb (w*u) [q]
section
variable{r:(k:Nat)->T k}{n u k:Nat}
theorem Cx.five(c:Cx r n u k):n<=5:=by obtain⟨R,tw,_⟩:=c.ex;have:=tw.five;rwa [zi]at this
theorem Cx.three(c:Cx r n u k):n<=3:=by obtain⟨R,tw,_⟩:=c.ex;have:=tw.three;rwa [zi]at this
theorem BJ(w v w' v' u k:Nat):(w*u+v*k)+(w'*u+v'*k)=(w+w')*u+(v+v')*k:=by
 rw[amt,amt];omega
theorem Nm.eq{n e f:Nat}{l:List Rat}(h:Nm n e l)(hf:e=f):Nm n f l:=hf▸h
theorem Nm.addT{e f:Nat}{x y:T n}(hx:Nm n e (sh n x))(hy:Nm n f (sh n y)):Nm n (e+f+1) (sh n (T.add n x y)):=by
 have h:=hx.add hy
 rwa [bu,bu]at h
theorem Nm.subT{e f:Nat}{x y:T n}(hx:Nm n e (sh n x))(hy:Nm n f (sh n y)):Nm n (e+f+1) (sh n (T.add n x (T.neg n y))):=by
 have h:=hx.sub hy
 rwa [bu,bu]at h
theorem Nm.negT{e:Nat}{x:T n}(hx:Nm n e (sh n x)):Nm n e (sh n (T.neg n x)):=by
 have h:=hx.neg
 rwa [bu]at h
theorem Nm.mulT{R e f:Nat}(tw:Tw (rz r n) R){x y:T n}(hx:Nm n e (sh n x))(hy:Nm n f (sh n y)):Nm n (e+f+eB R n) (sh n (T.mul r n x y)):=by
 have h:=Nm.mul tw (zi r n).symm hx hy
 rwa [bu,bu,T.mul_congr n (fun j hj=>aiw hj)]at h
instance Zu.add[c:Cx r n u k]{x y:E r n}{w v w' v':Nat}[hx:Zu u k x w v][hy:Zu u k y w' v']:Zu u k (x+y) (w+w') (v+v'+1) :=
  ⟨(Nm.addT hx.nm hy.nm).mono (by rw[BJ,amt _ 1];have:=c.k1;omega)⟩
instance Zu.sub[c:Cx r n u k]{x y:E r n}{w v w' v':Nat}[hx:Zu u k x w v][hy:Zu u k y w' v']:Zu u k (x-y) (w+w') (v+v'+1) :=
  ⟨(Nm.subT hx.nm hy.nm).mono (by rw[BJ,amt _ 1];have:=c.k1;omega)⟩
instance Zu.neg{x:E r n}{w v:Nat}[hx:Zu u k x w v]:Zu u k (-x) w v:=⟨Nm.negT hx.nm⟩
instance Zu.mul[c:Cx r n u k]{x y:E r n}{w v w' v':Nat}[hx:Zu u k x w v][hy:Zu u k y w' v']:Zu u k (x*y) (w+w') (v+v'+1):=by
  obtain⟨R,tw,hk⟩:=c.ex;exact⟨(Nm.mulT tw hx.nm hy.nm).mono (by rw[BJ,amt _ 1];omega)⟩
instance Zu.qE[c:Cx r n u k]{q:Rat}{w:Nat}[h:Qz u q w]:Zu u k (qE q:E r n) w 0:=⟨by
  show Nm n _ (sh n (T.ofQ n q));rw[El];exact(Nm.ofQ c.five h.cb).eq oz⟩
theorem Cb.int{e:Nat}{z:Int}(h:z.natAbs<=2^e):Cb e [(z:Rat)] :=
 ⟨1,z.natAbs,⟨by omega,fun q hq=>⟨z,by rw[am8.1 hq];exact Rat.mul_one _,apu _⟩⟩,Nat.one_le_two_pow,h⟩
theorem Qz.int[c:Cx r n u k]{z:Int}(h:z.natAbs<=8):Qz u (z:Rat) 1:=⟨Cb.int (aqe h (show 2^3<=_ from cV (by have:=c.u3;omega)))⟩
instance Zu.c0[c:Cx r n u k]:Zu u k (0:E r n) 0 0:=⟨by
  show Nm n _ (sh n (T.ofQ n ((0:Nat):Rat)));rw[show(((0:Nat):Rat))=0 from rfl,T.ofQ_zero,O4];exact⟨c.five,.inl rfl,Cb.nil.mono (apx _)⟩⟩
instance Zu.c1[c:Cx r n u k]:Zu u k (1:E r n) 1 0:=by
  haveI:Qz u ((1:Nat):Rat) 1:=Qz.int (c:=c) (z:=1) (by decide);exact(arf:Zu u k (Go.Lw.qE ((1:Nat):Rat):E r n) 1 0)
instance Zu.c2[c:Cx r n u k]:Zu u k (2:E r n) 1 0:=by
  haveI:Qz u ((2:Nat):Rat) 1:=Qz.int (c:=c) (z:=2) (by decide);exact(arf:Zu u k (Go.Lw.qE ((2:Nat):Rat):E r n) 1 0)
instance Zu.c4[c:Cx r n u k]:Zu u k (4:E r n) 1 0:=by
  haveI:Qz u ((4:Nat):Rat) 1:=Qz.int (c:=c) (z:=4) (by decide);exact(arf:Zu u k (Go.Lw.qE ((4:Nat):Rat):E r n) 1 0)
instance Zu.px{p:Pn r n}{w v:Nat}[h:Zp u k p w v]:Zu u k p.1 w v:=⟨h.x⟩
instance Zu.py{p:Pn r n}{w v:Nat}[h:Zp u k p w v]:Zu u k p.2 w v:=⟨h.y⟩
theorem F1{w v w' v' u k:Nat}(h:w<=w')(h':v<=v'):w*u+v*k<=w'*u+v'*k:=Nat.add_le_add (aqi _ h) (aqi _ h')
instance Zp.mk'{x y:E r n}{w v w' v':Nat}[hx:Zu u k x w v][hy:Zu u k y w' v']:Zp u k ((x,y):Pn r n) (max w w') (max v v') :=
  ⟨hx.nm.mono (F1 (Nat.le_max_left ..) (Nat.le_max_left ..)),hy.nm.mono (F1 (Nat.le_max_right ..) (Nat.le_max_right ..))⟩
def acq(p q:Pn r n):Pn r n:=(p.1+q.1,p.2+q.2)
def XA(p q:Pn r n):Pn r n:=(p.1-q.1,p.2-q.2)
def WL(c:E r n)(p:Pn r n):Pn r n:=(c*p.1,c*p.2)
def agi(p q:Pn r n):E r n:=p.1*q.1+p.2*q.2
def YI(p q:Pn r n):E r n:=p.1*q.2-p.2*q.1
def WU(c s:E r n)(p:Pn r n):Pn r n:=(c*p.1-s*p.2,s*p.1+c*p.2)
def pQ(x y:Rat):Pn r n:=(qE x,qE y)
def YC(p:Pn r n):Pn r n:=(-p.2,p.1)
instance Zp.add[c:Cx r n u k]{p q:Pn r n}{w v w' v':Nat}[hp:Zp u k p w v][hq:Zp u k q w' v']:Zp u k (acq p q) (w+w') (v+v'+1) :=
  ⟨(arf:Zu u k (p.1+q.1) (w+w') (v+v'+1)).nm,(arf:Zu u k (p.2+q.2) (w+w') (v+v'+1)).nm⟩
instance Zp.sub[c:Cx r n u k]{p q:Pn r n}{w v w' v':Nat}[hp:Zp u k p w v][hq:Zp u k q w' v']:Zp u k (XA p q) (w+w') (v+v'+1) :=
  ⟨(arf:Zu u k (p.1-q.1) (w+w') (v+v'+1)).nm,(arf:Zu u k (p.2-q.2) (w+w') (v+v'+1)).nm⟩
instance Zp.scale[c:Cx r n u k]{a:E r n}{q:Pn r n}{w v w' v':Nat}[hp:Zu u k a w v][hq:Zp u k q w' v']:Zp u k (WL a q) (w+w') (v+v'+1) :=
  ⟨(arf:Zu u k (a*q.1) (w+w') (v+v'+1)).nm,(arf:Zu u k (a*q.2) (w+w') (v+v'+1)).nm⟩
instance Zu.dot[c:Cx r n u k]{p q:Pn r n}{w v w' v':Nat}[hp:Zp u k p w v][hq:Zp u k q w' v']:Zu u k (agi p q) (w+w'+(w+w')) (v+v'+1+(v+v'+1)+1) :=
  (arf:Zu u k (p.1*q.1+p.2*q.2) _ _)
instance Zu.cross[c:Cx r n u k]{p q:Pn r n}{w v w' v':Nat}[hp:Zp u k p w v][hq:Zp u k q w' v']:Zu u k (YI p q) (w+w'+(w+w')) (v+v'+1+(v+v'+1)+1) :=
  (arf:Zu u k (p.1*q.2-p.2*q.1) _ _)
instance Zp.turn[c:Cx r n u k]{a b:E r n}{p:Pn r n}{w v w' v' w2 v2:Nat}[ha:Zu u k a w v][hb:Zu u k b w' v'][hp:Zp u k p w2 v2] :
    Zp u k (WU a b p) (w+w2+(w'+w2)) (v+v2+1+(v'+v2+1)+1) :=
  ⟨(arf:Zu u k (a*p.1-b*p.2) _ _).nm,by
    have h:=(arf:Zu u k (b*p.1+a*p.2) _ _).nm;exact h.eq (by rw[ama (w'+w2),ama (v'+v2+1)])⟩
instance Zp.ofQ[c:Cx r n u k]{x y:Rat}{w w':Nat}[hx:Qz u x w][hy:Qz u y w']:Zp u k (pQ x y:Pn r n) (max w w') (max 0 0) :=
  (arf:Zp u k ((qE x,qE y):Pn r n) _ _)
instance Zp.quart{p:Pn r n}{w v:Nat}[hp:Zp u k p w v]:Zp u k (YC p) w v:=⟨(arf:Zu u k (-p.2) w v).nm,hp.x⟩
end
theorem vD(rs:List (List Rt)):(llq rs).length=rs.length:=by simp[llq]
abbrev Et(ts:LL):Type:=E (aw ts) ts.length
def dE(ts:LL)(a:List Rat):Et ts:=af ts.length a
def sX{ts:LL}(x:Et ts):List Rat:=sh ts.length x
def ao{ts:LL}(x:Et ts):Int:=T.sgn (aw ts) ts.length x
class Ct(ts:LL)(u k:outParam Nat):Prop where
  ex:∃R,Tw ts R/\eB R ts.length<=k
  k1:1<=k
  u3:3<=u
  ub:u<=1000000
  kb:k<=1000000
instance Ct.cx{ts:LL}{u k:Nat}[c:Ct ts u k]:Cx (aw ts) ts.length u k:=by
  obtain⟨R,tw,h⟩:=c.ex;exact⟨⟨R,Q7 tw▸tw,h⟩,c.k1,c.u3⟩
class Zl(ts:LL)(u k:Nat)(a:List Rat)(x:outParam (Et ts))(w v:outParam Nat):Prop where
  eq:af ts.length a=x
  nm:Nm ts.length (w*u+v*k) a
section
variable{ts:LL}{u k:Nat}
instance Zl.sX{x:Et ts}{w v:Nat}[h:Zu u k x w v]:Zl ts u k (sX x) x w v:=⟨bu _ _,h.nm⟩
instance Zl.q[c:Ct ts u k]{q:Rat}{w:Nat}[h:Qz u q w]:Zl ts u k (sh 0 (q:Rat)) (qE q:Et ts) w 0:=⟨kl _ q,by
  obtain⟨R,tw,_⟩:=c.ex;exact(Nm.ofQ tw.five h.cb).eq oz⟩
instance Zl.nil [c : Ct ts u k] : Zl ts u k [] (0 : Et ts) 0 0 := ⟨by rw [jM]; exact E.zero_def.symm, by
  obtain⟨R,tw,_⟩:=c.ex;exact⟨tw.five,.inl rfl,Cb.nil.mono (apx _)⟩⟩
theorem Zl.zu{a:List Rat}{x:Et ts}{w v:Nat}(h:Zl ts u k a x w v):Zu u k x w v:=⟨by
 have h1:=h.nm;have h2:=Cb.sh h1.cb h1.nl;rw[h.eq]at h2;exact⟨h1.five,gk _ _,h2⟩⟩
theorem Zl.at{a:List Rat}{e:Nat}(h:Nm ts.length e a)(he:e<=u):Zl ts u k a (dE ts a) 1 0:=⟨rfl,h.mono oz⟩
theorem Rx(c:Ct ts u k){w v m:Nat}(h:w+v<=m):w*u+v*k<=m*1000000:=by
 have h1:w*u<=w*1000000:=ap0 _ c.ub;have h2:v*k<=v*1000000:=ap0 _ c.kb;omega
theorem Zl.up(c:Ct ts u k){a:List Rat}{x:Et ts}{w v m:Nat}(h:Zl ts u k a x w v)(hm:w+v<=m):Nm ts.length (m*1000000) a:=h.nm.mono (Rx c hm)
theorem Ct.kk(c:Ct ts u k){R:Nat}(h:eB R ts.length<=k):kB R ts.length<=1000000:=aqe h c.kb
def dotE(x y z t:Et ts):Et ts:=x*z+y*t
def crsE(x y z t:Et ts):Et ts:=x*t-y*z
instance Zu.dotE[c:Ct ts u k]{x y z t:Et ts}{w1 v1 w2 v2 w3 v3 w4 v4:Nat}[Zu u k x w1 v1][Zu u k y w2 v2][Zu u k z w3 v3][Zu u k t w4 v4]:Zu u k (dotE x y z t) (w1+w3+(w2+w4)) (v1+v3+1+(v2+v4+1)+1) :=
  (arf:Zu u k (x*z+y*t) _ _)
instance Zu.crsE[c:Ct ts u k]{x y z t:Et ts}{w1 v1 w2 v2 w3 v3 w4 v4:Nat}[Zu u k x w1 v1][Zu u k y w2 v2][Zu u k z w3 v3][Zu u k t w4 v4]:Zu u k (crsE x y z t) (w1+w4+(w2+w3)) (v1+v4+1+(v2+v3+1)+1) :=
  (arf:Zu u k (x*t-y*z) _ _)
end
def gG(xs:List Int):List Int:=xs.mergeSort (fun a b=>decide (a<=b))
theorem H9(xs:List Int):(gG xs).Perm xs:=List.mergeSort_perm _ _
theorem ahq(xs:List Int):(gG xs).Pairwise (· <= ·):=by
 have h:=List.pairwise_mergeSort (le:=fun a b:Int=>decide (a<=b)) (fun a b c h1 h2=>by simp only[aq8]at *;omega) (fun a b=>by simp only[aqy,aq8];omega) xs;exact h.imp (fun h=>aq9 h)
theorem UX{xs ys:List Int}(hp:ys.Perm xs)(hs:ys.Pairwise (· <= ·)):ys=gG xs :=
 List.Perm.eq_of_pairwise (le:=fun a b:Int=>a<=b) (fun a b _ _ h1 h2=>by omega) hs (ahq xs) (hp.trans (H9 xs).symm)
theorem OY(xs:List Int):(gG xs).length=xs.length:=(H9 xs).length_eq
theorem H3{xs:List Int}{b:Int}:b∈gG xs↔b∈xs:=(H9 xs).mem_iff
theorem QL(e:Nat)(l:List Nat):fV (e::l)=if e≠0 then e else fV l:=rfl
theorem rf{α:Type}{f:α->Nat}{L:List α}(h:∀x∈L,f x=0):fV (L.map f)=0:=by
 induction L with
 |nil=>rfl
 |cons x L ih =>
  rw[aq2,QL,aq6 (by rw[h x (aqr ..)];simp)];exact ih (fun y hy=>h y (aqq _ hy))
def mK(g:Gr)(j:Jt):Int:=if g.bo.contains j.a=true then(if g.bo.contains j.b=true then -1 else j.b)else j.a
def ju(l:Li)(g:Gr):List Int:=g.jo.map (fun j=>mK g (l.jo.getD j.toNat default))
theorem wG(l:Li)(g:Gr):(ju l g).length=g.jo.length:=by unfold ju;rw[apr]
theorem Va{l:Li}(hl:aG l=0){g:Gr}(hg:GrOk l g):∀b∈ju l g,b<l.bo.length:=by
 intro b hb;unfold ju at hb;obtain⟨z,hz,rfl⟩:=anx.1 hb;obtain⟨z0,z1⟩:=hg.j z hz;obtain⟨j,hj⟩:=ay (l:=l.jo) (i:=z.toNat) oz;rw[ax hj];obtain⟨i1,i2,_⟩:=ee hl hj;have i1:=d5 i1;have i2:=d5 i2;unfold mK;split
 ·split
  ·omega
  ·omega
 ·omega
def dR(l:Li)(g:Gr)(own:Bool):List Int:=ju l g++(if own=true then g.bo else[])
theorem GF{l:Li}(hl:aG l=0){g:Gr}(hg:GrOk l g){own:Bool}:∀b∈dR l g own,b<l.bo.length:=by
 intro b hb;rcases ap2.1 hb with hb |hb
 ·exact Va hl hg b hb
 ·split at hb
  ·exact(hg.b b hb).2
  ·cases hb
theorem ab9{l:Li}{g:Gr}(hg:GrOk l g){own:Bool}:(dR l g own).length<=5:=by
 unfold dR;have h1:=hg.lb;have h2:=hg.lj;rw[aqk,wG];split
 ·omega
 ·simp only[ap9];omega
def jW(a:As)(b:Int):Nat:=if b<0 then 0 else bY a.rs (a.bs.getD b.toNat default).l
def lO(l:Li)(k:Int):Gr:=(splitG l).getD k.toNat default
def oe(l:Li)(k:Int)(a:As)(own:Bool):Nat :=
  if splitE l≠0 then splitE l else if k<0\/((splitG l).length:Int)<=k then 9 else if a.bs.length≠l.bo.length then 10 else if bS a.rs≠0 then bS a.rs
  else fV ((gG (dR l (lO l k) own)).map (jW a))
def iY(l:Li)(k:Int)(a:As)(own:Bool):Nat:=if aG l≠0 then aG l else oe l k a own
section
variable{l:Li}{k:Int}{a:As}{own:Bool}
theorem vP(h:aG l=0):iY l k a own=oe l k a own:=by unfold iY;rw[aq6 oz]
theorem VL{e:Nat}(he:(if aG l=0 then splitE l else aG l)=e)(h:e≠0):iY l k a own=e:=by
 by_cases h1:aG l=0
 ·rw[aq7 h1]at he;rw[vP h1];unfold oe;rw[aq7 oz];exact he
 ·rw[aq6 h1]at he;unfold iY;rw[aq7 h1];exact he
theorem P3(h:(if aG l=0 then splitE l else aG l)=0):aG l=0/\splitE l=0:=by
 by_cases h1:aG l=0
 ·rw[aq7 h1]at h;exact⟨h1,h⟩
 ·rw[aq6 h1]at h;exact ard h h1
theorem V7(hs:splitE l=0)(hk:k<0\/((splitG l).length:Int)<=k):oe l k a own=9:=by unfold oe;rw[aq6 oz,aq7 hk]
theorem afy(hs:splitE l=0)(hk:¬(k<0\/((splitG l).length:Int)<=k))(hb:a.bs.length≠l.bo.length):oe l k a own=10:=by
 unfold oe;rw[aq6 oz,aq6 hk,aq7 hb]
theorem ajs(hs:splitE l=0)(hk:¬(k<0\/((splitG l).length:Int)<=k))(hb:a.bs.length=l.bo.length)(hc:bS a.rs≠0):oe l k a own=bS a.rs:=by
 unfold oe;rw[aq6 oz,aq6 hk,aq6 oz,aq7 hc]
theorem KH(hs:splitE l=0)(hk:¬(k<0\/((splitG l).length:Int)<=k))(hb:a.bs.length=l.bo.length)(hc:bS a.rs=0):oe l k a own=fV ((gG (dR l (lO l k) own)).map (jW a)):=by
 unfold oe;rw[aq6 oz,aq6 hk,aq6 oz,aq6 oz]
end
structure DyOk(E:Nat)(l:Li)(k:Int)(a:As)(own:Bool)(i:Nat)(g:Gr):Prop where
  li:aG l=0
  sp:splitE l=0
  hk:k=(i:Int)
  hg:(splitG l)[i]?=some g
  ok:GrOk l g
  dy:DyK l g
  ln:a.bs.length=l.bo.length
  chk:bS a.rs=0
  nd:∀b∈dR l g own,jW a b=0
  sm:∀b∈dR l g own,0<=b->∀p,a.bs[b.toNat]?=some p->∀x∈p.l,NR x E
def CK(E:Nat)(l:Li)(k:Int)(a:As)(own:Bool):Prop:=∀b∈dR l (lO l k) own,0<=b->∀p,a.bs[b.toNat]?=some p->∀x∈p.l,NR x E
theorem EL{l:Li}{k:Int}{a:As}{own:Bool}{E:Nat}(hs:CK E l k a own)(h:iY l k a own=0):∃i g,DyOk E l k a own i g:=by
 unfold iY at h;split at h
 ·rename_i h1;exact ard h h1
 ·rename_i h1;have h1:=apn.1 h1;unfold oe at h;split at h
  ·rename_i h2;exact ard h h2
  ·rename_i h2;split at h
   ·cases h
   ·rename_i h3;split at h
    ·cases h
    ·rename_i h4;split at h
     ·rename_i h5;exact ard h h5
     ·rename_i h5;obtain⟨g,hg⟩:=ay (l:=splitG l) (i:=k.toNat) oz;have e:lO l k=g:=ax hg;rw[e]at h;obtain⟨d1,d2⟩:=vj h1 (apo hg);refine⟨k.toNat,g,h1,by omega,by omega,hg,d2,d1,by omega,by omega,fun b hb=>?_,e▸hs⟩;exact uJ h _ (anx.2 ⟨b,H3.2 hb,rfl⟩)
theorem DyOk.body{E:Nat}{l:Li}{k:Int}{a:As}{own:Bool}{i:Nat}{g:Gr}(h:DyOk E l k a own i g){b:Int}(hb:b∈dR l g own)(h0:0<=b):∃p,a.bs[b.toNat]?=some p/\bY a.rs p.l=0/\∀x∈p.l,NR x E:=by
 have h1:=GF h.li h.ok b hb;obtain⟨p,hp⟩:=ay (l:=a.bs) (i:=b.toNat) (by have:=h.ln;omega);have h2:=h.nd b hb;unfold jW at h2;rw[aq6 oz,ax hp]at h2;exact⟨p,hp,h2,h.sm b hb h0 p hp⟩
theorem VH(n:Nat):50000000000<=lm n:=mD n
theorem acs{k:Int}{n:Nat}(h:cond (aa .lss k 0) true (aa .geq k (n:Int))=true):k<0\/(n:Int)<=k:=by
 by_cases h1:k<0
 ·exact .inl h1
 ·refine .inr ?_;have h2:aa .lss k 0=false:=arc h1;rw[h2]at h;exact aq9 (p:=k>=n) h
theorem Vu{k:Int}{n:Nat}(h:cond (aa .lss k 0) true (aa .geq k (n:Int))=false):¬(k<0\/(n:Int)<=k):=by
 intro h1
 by_cases h2:k<0
 ·rw[show aa .lss k 0=true from arb h2]at h;cases h
 ·rw[show aa .lss k 0=false from arc h2]at h;have h3:¬(k>=n):=ara h;omega
theorem US{k:Int}{n:Nat}(h:¬(k<0\/(n:Int)<=k)):∃i:Nat,k=i/\i<n:=⟨k.toNat,by omega,by omega⟩
theorem wN{a b:Nat}(h:aa .neq (a:Int) (b:Int)=true):a≠b:=by
 have h1:((a:Int) != (b:Int))=true:=h;have h2:=bne_iff_ne.1 h1;omega
theorem yn{a b:Nat}(h:aa .neq (a:Int) (b:Int)=false):a=b:=by
 have h1:((a:Int) != (b:Int))=false:=h;have h2:(a:Int)=b:=by simpa only[bne_eq_false_iff_eq]using h1
 omega
theorem vE{r:(k:Nat)->T k}{n:Nat}(p q:Rat):(qE (p+q):E r n)=qE p+qE q:=T.ofQ_add n p q
theorem ZG{r:(k:Nat)->T k}{n:Nat}(p:Rat):(qE (-p):E r n)=-qE p:=T.ofQ_neg n p
theorem qL{r:(k:Nat)->T k}{n:Nat}(p q:Rat):(qE (p-q):E r n)=qE p-qE q:=by
 rw[aoo,vE,ZG];grind
theorem rm{r:(k:Nat)->T k}{n:Nat}(p q:Rat):(qE (p*q):E r n)=qE p*qE q:=(T.mul_ofQ r n p q).symm
def aX(l:Li)(body pt:Int):Rat×Rat:=(((dm l body).getD pt.toNat default).x.q,((dm l body).getD pt.toNat default).y.q)
abbrev qC(p:Rat×Rat):List AV:=[bl (rt p.1).neg,ws (rt p.1).num,ws (rt p.1).den,bl (rt p.2).neg,ws (rt p.2).num,ws (rt p.2).den]
abbrev qP(p:Rat×Rat):AV:=.agg (qC p)
structure Sm(e:Nat)(p:Rat×Rat):Prop where
  x:Qb e p.1
  y:Qb e p.2
structure MkP(l:Li)(body pt:Int)(n k:Nat)(bd:Bd)(m:Mk):Prop where
  hn:body=n
  hk:pt=k
  gbd:l.bo[n]?=some bd
  gm:bd.pts[k]?=some m
  ex:m.x=rt (aX l body pt).1
  ey:m.y=rt (aX l body pt).2
  sm:Sm 1000 (aX l body pt)
theorem vY{l:Li}(hl:l.ok)(au:aG l=0){body pt:Int}(h1:bR body l.bo.length=true)(h2:bR pt (dm l body).length=true):∃n k bd m,MkP l body pt n k bd m:=by
 obtain⟨bd,g1,g2,g3,g4⟩:=vN h1;rw[g2]at h2;obtain⟨m,g5,g6,g7,g8⟩:=yW h2;have hv:=aij au g1 g5;have ho:=(hl.bo bd g3).pts m g7;have e:aX l body pt=(m.x.q,m.y.q):=by unfold aX;rw[g2,g6]
 exact⟨body.toNat,pt.toNat,bd,m,by omega,by omega,g1,g5,by rw[e];exact Rt.eq_rt ho.x hv.1,by rw[e];exact Rt.eq_rt ho.y hv.2,by rw[e];exact⟨ho.qx.mono oz,ho.qy.mono oz⟩⟩
theorem oa{l:Li}(hl:l.ok)(au:aG l=0){body pt:Int}(h1:bR body l.bo.length=true)(h2:bR pt (dm l body).length=true):Sm 1000 (aX l body pt):=by
 obtain⟨n,k,bd,m,h⟩:=vY hl au h1 h2;exact h.sm
def bi(l:Li)(a:As)(body pt:Int):Et (llq a.rs)×Et (llq a.rs):=zY l a body pt
structure PlP(E:Nat)(l:Li)(a:As)(body pt:Int)(n k:Nat)(bd:Bd)(m:Mk)(b:Pl):Prop where
  mp:MkP l body pt n k bd m
  gb:a.bs[n]?=some b
  eq:zY l a body pt=tV (llq a.rs) b m
  av:b.av=Pq.av ⟨lq b.c,lq b.s,lq b.x,lq b.y⟩
  ok:Pq.ok (llq a.rs).length E ⟨lq b.c,lq b.s,lq b.x,lq b.y⟩
def Pd(E:Nat)(a:As)(body:Int):Prop:=∃p,a.bs[body.toNat]?=some p/\bY a.rs p.l=0/\∀x∈p.l,NR x E
theorem zy{E:Nat}{l:Li}(hl:l.ok)(au:aG l=0){a:As}(al:AB a)(hc:bS a.rs=0){body pt:Int}(h1:bR body l.bo.length=true)(h2:bR pt (dm l body).length=true)(hb:Pd E a body):∃n k bd m b,PlP E l a body pt n k bd m b:=by
 obtain⟨n,k,bd,m,h⟩:=vY hl au h1 h2;obtain⟨b,gb,hb,oC⟩:=hb;obtain⟨tw,_⟩:=d9 al.tr hc;have h5:a.rs.length<=5:=by have:=tw.five;rwa [vD]at this
 have h9:=Ii hb oC h5;have e:body.toNat=n:=by have:=h.hn;omega
 have e2:pt.toNat=k:=by have:=h.hk;omega
 rw[e]at gb;obtain⟨bd',g1,g2,_,_⟩:=vN h1;rw[e]at g1;have:bd'=bd:=Option.some.inj (g1.symm.trans h.gbd);subst this;refine⟨n,k,bd',m,b,h,gb,?_,h9.1,by rw[vD];exact h9.2⟩;unfold zY;rw[e,e2,ax gb,g2,ax h.gm]
structure DyS(a:As):Prop where
  tr:TR a.rs 64990
  one:bS a.rs=0->(llq a.rs).length<=1
theorem DyS.ct{a:As}(h:DyS a)(hc:bS a.rs=0):Ct (llq a.rs) 310000 65000:=by
 obtain⟨tw,_⟩:=d9 h.tr hc;refine⟨⟨64990,tw,?_⟩,by omega,by omega,by omega,by omega⟩;have h1:=kR 64990 (h.one hc);have h2:eB 64990 1=64992:=by simp only[eB]
 omega
theorem sT{l:Li}(hl:l.ok)(au:aG l=0){a:As}(al:AB a)(S:DyS a)(hc:bS a.rs=0){body pt:Int}(h1:bR body l.bo.length=true)(h2:bR pt (dm l body).length=true)(hb:Pd 3900000 a body) :
  Zu 310000 65000 (bi l a body pt).1 40 40/\Zu 310000 65000 (bi l a body pt).2 40 40:=by
 obtain⟨n,k,bd,m,b,hp⟩:=zy hl au al hc h1 h2 hb;obtain⟨tw,_⟩:=d9 S.tr hc
 have kb:kB 64990 (llq a.rs).length<=65000:=by
  have h1:=kR 64990 (S.one hc);have h2:eB 64990 1=64992:=by simp only[eB]
  show eB 64990 _<=_;omega
 have qx:Qb 1000 m.x.q:=by rw[hp.mp.ex,bN];exact hp.mp.sm.x
 have qy:Qb 1000 m.y.q:=by rw[hp.mp.ey,bN];exact hp.mp.sm.y
 have h:=Dq tw hp.ok qx qy;unfold bi;rw[hp.eq];exact⟨⟨h.1.mono oz⟩,⟨h.2.mono oz⟩⟩
theorem pI{rs:List (List Rt)}{r:Nat}(h:TR rs r)(hc:bS rs=0):aZ (llq rs)=.agg [.lst 1 (rs.map nR)]:=(d9 h hc).2.symm
theorem WF{x y:Option Blk}{k:Nat}{z:Blk}(h:lk [(1000,x),(1001,y)] k=some z):1000<=k:=by
 rw[a5]at h;split at h
 ·omega
 ·rw[a5]at h;split at h
  ·omega
  ·cases h
theorem q6{s:AS}{k k':Nat}{x y:Blk}(h:lk s.hp k=some x)(h':lk s.hp k'=some y):∀q z,lk [(k,some x),(k',some y)] q=some z->lk s.hp q=some z:=by
 intro q z hz;rw[a5]at hz;split at hz
 ·rename_i e;cases hz;rw[e];exact h
 ·rw[a5]at hz;split at hz
  ·rename_i e;cases hz;rw[e];exact h'
  ·cases hz
def cf(p q:Rat×Rat):Rat×Rat:=(p.1-q.1,p.2-q.2)
def cr(p q:Rat×Rat):Rat:=p.1*q.1+p.2*q.2
def we(p q:Rat×Rat):Rat:=p.1*q.2-p.2*q.1
theorem Sm.sub{e f:Nat}{p q:Rat×Rat}(hp:Sm e p)(hq:Sm f q):Sm (e+f+1) (cf p q):=⟨hp.x.sub hq.x,hp.y.sub hq.y⟩
theorem Sm.dot{e f:Nat}{p q:Rat×Rat}(hp:Sm e p)(hq:Sm f q):Qb (e+f+(e+f)+1) (cr p q):=(hp.x.mul hq.x).add (hp.y.mul hq.y)
theorem Sm.cross{e f:Nat}{p q:Rat×Rat}(hp:Sm e p)(hq:Sm f q):Qb (e+f+(e+f)+1) (we p q):=(hp.x.mul hq.y).sub (hp.y.mul hq.x)
theorem Sm.mono{e f:Nat}{p:Rat×Rat}(hp:Sm e p)(h:e<=f):Sm f p:=⟨hp.x.mono h,hp.y.mono h⟩
theorem zF{q:Rat}{e w:Nat}(h:Qb e q)(he:e<=w*310000):Qz 310000 q w:=⟨(Cb.one h).mono he⟩
def am(l:Li)(j:Jt)(b:Int):Rat×Rat:=if j.a=b then aX l b j.point else aX l b j.on
def aC(l:Li)(a:As)(j:Jt)(b:Int):Et (llq a.rs)×Et (llq a.rs):=if j.a=b then bi l a j.b j.on else bi l a j.a j.point
structure PinP(E:Nat)(l:Li)(a:As)(j:Jt)(b:Int):Prop where
  tie:(j.a=b/\Pd E a j.b)\/(j.a≠b/\j.b=b/\Pd E a j.a)
theorem PinP.or{E:Nat}{l:Li}{a:As}{j:Jt}{b:Int}(h:PinP E l a j b):j.a=b\/j.b=b:=by
 rcases h.tie with h9 |h9
 ·exact .inl h9.1
 ·exact .inr h9.2.1
theorem qT{l:Li}(hl:l.ok)(au:aG l=0){a:As}(al:AB a)(S:DyS a)(hc:bS a.rs=0){i:Nat}{j:Jt}(hj:l.jo[i]?=some j){b:Int}(h:PinP 3900000 l a j b) :
  Zu 310000 65000 (aC l a j b).1 40 40/\Zu 310000 65000 (aC l a j b).2 40 40:=by
 obtain⟨i1,i2,i3,i4,_⟩:=ee au hj;unfold aC;rcases h.tie with⟨e,hb⟩ |⟨e,e2,hb⟩
 ·rw[aq7 e];exact sT hl au al S hc i2 i4 hb
 ·rw[aq6 e];exact sT hl au al S hc i1 i3 hb
theorem ki{l:Li}(hl:l.ok)(au:aG l=0){i:Nat}{j:Jt}(hj:l.jo[i]?=some j){b:Int}(h:j.a=b\/j.b=b):Sm 1000 (am l j b):=by
 obtain⟨i1,i2,i3,i4,_⟩:=ee au hj;unfold am
 by_cases e:j.a=b
 ·rw[aq7 e];subst e;exact oa hl au i1 i3
 ·rw[aq6 e];rcases h with h |h
  ·exact ard h e
  ·subst h;exact oa hl au i2 i4
theorem agb{bs:List Int}{b:Int}(h:b∈bs):bs.contains b=true:=an8.2 h
theorem NQ{bs:List Int}{b:Int}(h:b∉bs):bs.contains b=false:=by
 cases hc:bs.contains b with
 |false=>rfl
 |true=>exact ard (an8.1 hc) h
theorem DyOk.ancs{E:Nat}{l:Li}{k:Int}{a:As}{own:Bool}{n:Nat}{g:Gr}(h:DyOk E l k a own n g){z b:Int}{j:Jt}(hz:z∈g.jo)(hj:l.jo[z.toNat]?=some j)(hb:mK g j=b)(h0:0<=b):Pd E a b:=by
 refine h.body ?_ h0;unfold dR ju;refine List.mem_append_left _ (anx.2 ⟨z,hz,?_⟩);rw[ax hj];exact hb
theorem DyOk.pin{E:Nat}{l:Li}{k:Int}{a:As}{own:Bool}{n:Nat}{g:Gr}(h:DyOk E l k a own n g){kd z b:Int}{j:Jt}{bs:List Int}(ez:g.bo=bs)(t:TieO l kd bs z b j)(hz:z∈g.jo)(hb:b∈bs):PinP E l a j b:=by
 subst ez;obtain⟨i1,i2,_⟩:=ee h.li t.hj;have i1:=d5 i1;have i2:=d5 i2;rcases t.tie with⟨e,hn⟩ |⟨e,hn⟩
 ·refine⟨.inl ⟨e,h.ancs hz t.hj ?_ i2.1⟩⟩;unfold mK;rw[aq7 (agb (e▸hb)),aq6 (by rw[NQ hn];simp)]
 ·refine⟨.inr ⟨fun e2=>hn (e2▸hb),e,h.ancs hz t.hj ?_ i1.1⟩⟩;unfold mK;rw[aq6 (by rw[NQ hn];simp)]
theorem DyOk.own{E:Nat}{l:Li}{k:Int}{a:As}{n:Nat}{g:Gr}(h:DyOk E l k a true n g){b:Int}(hb:b∈g.bo):Pd E a b:=by
 refine h.body ?_ (h.ok.b b hb).1;unfold dR;rw[aq7 rfl];exact List.mem_append_right _ hb
structure RrrP(E:Nat)(l:Li)(a:As)(g:Gr)(i k z0 z1 z2:Int)(j0 j1 j2:Jt):Prop where
  eq:g=⟨1,[i,k],[z0,z1,z2],0⟩
  h0:l.jo[z0.toNat]?=some j0
  h1:l.jo[z1.toNat]?=some j1
  h2:l.jo[z2.toNat]?=some j2
  p0:PinP E l a j0 i
  p1:PinP E l a j1 k
  t1:j2.a=i\/j2.b=i
  t2:j2.a=k\/j2.b=k
structure SlP(E:Nat)(l:Li)(a:As)(g:Gr)(kd i z0 z1:Int)(j0 j:Jt):Prop where
  eq:g=⟨kd,[i],[z0,z1],0⟩
  h0:l.jo[z0.toNat]?=some j0
  h1:l.jo[z1.toNat]?=some j
  p0:PinP E l a j0 i
  p1:PinP E l a j i
  hk:j.kind≠0
theorem DyOk.rrr{E:Nat}{l:Li}{k:Int}{a:As}{own:Bool}{n:Nat}{g:Gr}(h:DyOk E l k a own n g)(hk:g.kind=1):∃i k z0 z1 z2 j0 j1 j2,RrrP E l a g i k z0 z1 z2 j0 j1 j2:=by
 have hd:=h.dy;cases hd with
 |drv _ _ _ _=>exact ard hk (by simp)
 |pr _ _ _=>exact ard hk (by simp)
 |rp _ _ _=>exact ard hk (by simp)
 | @rrr i k z0 z1 z2 j0 j1 j2 ne t0 t1 h0 h2 kd tie =>
  refine⟨i,k,z0,z1,z2,j0,j1,j2,rfl,t0.hj,t1.hj,h2,h.pin rfl t0 (by simp) (by simp),h.pin rfl t1 (by simp) (by simp),?_,?_⟩
  ·rcases tie with h9 |h9
   ·exact .inl h9.1
   ·exact .inr h9.1
  ·rcases tie with h9 |h9
   ·exact .inr h9.2
   ·exact .inl h9.2
theorem DyOk.pr{E:Nat}{l:Li}{k:Int}{a:As}{own:Bool}{n:Nat}{g:Gr}(h:DyOk E l k a own n g)(hk:g.kind=2):∃i z0 z1 j0 j,SlP E l a g 2 i z0 z1 j0 j/\j.a=i/\Pd E a j.b:=by
 have hd:=h.dy;cases hd with
 |drv _ _ _ _=>exact ard hk (by simp)
 |rrr _ _ _ _ _ _ _=>exact ard hk (by simp)
 |rp _ _ _=>exact ard hk (by simp)
 | @pr i z0 z1 j0 j1 t0 t1 ha =>
  have p1:PinP E l a j1 i:=h.pin rfl t1 (by simp) (by simp);refine⟨i,z0,z1,j0,j1,⟨rfl,t0.hj,t1.hj,h.pin rfl t0 (by simp) (by simp),p1,by rw[t1.kd];decide⟩,ha,?_⟩;rcases p1.tie with h9 |h9
  ·exact h9.2
  ·exact ard ha h9.1
theorem DyOk.rp{E:Nat}{l:Li}{k:Int}{a:As}{own:Bool}{n:Nat}{g:Gr}(h:DyOk E l k a own n g)(h0:g.kind≠0)(h1:g.kind≠1)(h2:g.kind≠2):∃i z0 z1 j0 j,SlP E l a g 3 i z0 z1 j0 j/\j.a≠i/\j.b=i/\Pd E a j.a:=by
 have hd:=h.dy;cases hd with
 |drv _ _ _ _=>exact ard rfl h0
 |rrr _ _ _ _ _ _ _=>exact ard rfl h1
 |pr _ _ _=>exact ard rfl h2
 | @rp i z0 z1 j0 j1 t0 t1 ha =>
  have p1:PinP E l a j1 i:=h.pin rfl t1 (by simp) (by simp);refine⟨i,z0,z1,j0,j1,⟨rfl,t0.hj,t1.hj,h.pin rfl t0 (by simp) (by simp),p1,by rw[t1.kd];decide⟩,ha,?_⟩;rcases p1.tie with h9 |h9
  ·exact ard h9.1 ha
  ·exact⟨h9.2.1,h9.2.2⟩
def oX(a:As)(b:Int)(q:Rat×Rat):Et (llq a.rs)×Et (llq a.rs) :=
  (zw (llq a.rs) (jl (llq a.rs) (a.bs.getD b.toNat default).c) (jl (llq a.rs) (a.bs.getD b.toNat default).s) (jl (llq a.rs) (a.bs.getD b.toNat default).x) q.1 q.2,
   yt (llq a.rs) (jl (llq a.rs) (a.bs.getD b.toNat default).c) (jl (llq a.rs) (a.bs.getD b.toNat default).s) (jl (llq a.rs) (a.bs.getD b.toNat default).y) q.1 q.2)
theorem LQ{ts:LL}{r e f:Nat}(tw:Tw ts r){b:Pl}{q:Rat×Rat}(hb:Pq.ok ts.length e ⟨lq b.c,lq b.s,lq b.x,lq b.y⟩)(hq:Sm f q) :
  Nm ts.length (3*e+2*f+2*kB r ts.length+10) (sh ts.length (zw ts (jl ts b.c) (jl ts b.s) (jl ts b.x) q.1 q.2))/\Nm ts.length (3*e+2*f+2*kB r ts.length+10) (sh ts.length (yt ts (jl ts b.c) (jl ts b.s) (jl ts b.y) q.1 q.2)):=by
 have nx:=Nm.ofQ tw.five (Cb.one hq.x);have ny:=Nm.ofQ tw.five (Cb.one hq.y);have h1:=(Bc tw hb.c hb.s nx ny).add hb.x;rw[Ei]at h1;have h2:=(AU tw hb.c hb.s nx ny).add hb.y;rw[HM]at h2;exact⟨h1.mono oz,h2.mono oz⟩
def bI(c p:Rat×Rat):Rat:=cr (cf c p) (cf c p)
theorem ae1{e f:Nat}{c p:Rat×Rat}(hc:Sm e c)(hp:Sm f p):Qb (e+f+1+(e+f+1)+(e+f+1+(e+f+1))+1) (bI c p):=(hc.sub hp).dot (hc.sub hp)
def aq(l:Li)(g:Gr)(n:Nat):Jt:=l.jo.getD (g.jo.getD n 0).toNat default
def aV(g:Gr)(n:Nat):Int:=g.bo.getD n 0
section
variable(l:Li)(a:As)
def cK(i:Int)(j:Jt):Rat×Rat:=cf (aX l i j.to) (aX l i j.on)
def cH(i:Int)(j0 j:Jt):Rat:=we (cK l i j) (cf (aX l i j.on) (am l j0 i))
def jr(i:Int)(j:Jt):Rat:=cr (cK l i j) (cK l i j)
def aT{ts:LL}(p q:Et ts×Et ts):Et ts×Et ts:=(p.1-q.1,p.2-q.2)
def cJ{ts:LL}(p q:Et ts×Et ts):Et ts:=dotE p.1 p.2 q.1 q.2
def j8{ts:LL}(p q:Et ts×Et ts):Et ts:=crsE p.1 p.2 q.1 q.2
def cm(i:Int)(j0 j:Jt):Et (llq a.rs)×Et (llq a.rs):=aT (bi l a j.a j.point) (aC l a j0 i)
def cO(i:Int)(j0 j:Jt):Et (llq a.rs):=cJ (cm l a i j0 j) (cm l a i j0 j)
def Hu(g:Gr):Et (llq a.rs) :=
  if g.kind=0 then qE 1
  else if g.kind=1 then
    qE 4*(qE (bI (am l (aq l g 2) (aV g 0)) (am l (aq l g 0) (aV g 0)))*cJ (aT (aC l a (aq l g 0) (aV g 0)) (aC l a (aq l g 1) (aV g 1))) (aT (aC l a (aq l g 0) (aV g 0)) (aC l a (aq l g 1) (aV g 1))))
      - ((qE (bI (am l (aq l g 2) (aV g 0)) (am l (aq l g 0) (aV g 0)))+cJ (aT (aC l a (aq l g 0) (aV g 0)) (aC l a (aq l g 1) (aV g 1))) (aT (aC l a (aq l g 0) (aV g 0)) (aC l a (aq l g 1) (aV g 1))))-qE (bI (am l (aq l g 2) (aV g 1)) (am l (aq l g 1) (aV g 1))))
        * ((qE (bI (am l (aq l g 2) (aV g 0)) (am l (aq l g 0) (aV g 0)))+cJ (aT (aC l a (aq l g 0) (aV g 0)) (aC l a (aq l g 1) (aV g 1))) (aT (aC l a (aq l g 0) (aV g 0)) (aC l a (aq l g 1) (aV g 1))))-qE (bI (am l (aq l g 2) (aV g 1)) (am l (aq l g 1) (aV g 1))))
  else if g.kind=2 then
    cJ (aT (bi l a (aq l g 1).b (aq l g 1).to) (bi l a (aq l g 1).b (aq l g 1).on)) (aT (bi l a (aq l g 1).b (aq l g 1).to) (bi l a (aq l g 1).b (aq l g 1).on))*qE (bI (aX l (aV g 0) (aq l g 1).point) (am l (aq l g 0) (aV g 0)))
      - j8 (aT (bi l a (aq l g 1).b (aq l g 1).to) (bi l a (aq l g 1).b (aq l g 1).on)) (aT (aC l a (aq l g 0) (aV g 0)) (bi l a (aq l g 1).b (aq l g 1).on))
        * j8 (aT (bi l a (aq l g 1).b (aq l g 1).to) (bi l a (aq l g 1).b (aq l g 1).on)) (aT (aC l a (aq l g 0) (aV g 0)) (bi l a (aq l g 1).b (aq l g 1).on))
  else qE (jr l (aV g 0) (aq l g 1))*cO l a (aV g 0) (aq l g 0) (aq l g 1)-qE (cH l (aV g 0) (aq l g 0) (aq l g 1))*qE (cH l (aV g 0) (aq l g 0) (aq l g 1))
def lT(g:Gr):Et (llq a.rs) :=
  if g.kind=0 then qE 1
  else if g.kind=1 then j8 (aT (aC l a (aq l g 1) (aV g 1)) (aC l a (aq l g 0) (aV g 0))) (aT (oX a (aV g 0) (am l (aq l g 2) (aV g 0))) (aC l a (aq l g 0) (aV g 0)))
  else if g.kind=2 then cJ (aT (bi l a (aq l g 1).b (aq l g 1).to) (bi l a (aq l g 1).b (aq l g 1).on)) (aT (oX a (aV g 0) (aX l (aV g 0) (aq l g 1).point)) (aC l a (aq l g 0) (aV g 0)))
  else cJ (aT (bi l a (aq l g 1).b (aq l g 1).to) (bi l a (aq l g 1).b (aq l g 1).on)) (cm l a (aV g 0) (aq l g 0) (aq l g 1))
end
section
variable{E:Nat}{l:Li}{a:As}{g:Gr}
theorem RrrP.at{i k z0 z1 z2:Int}{j0 j1 j2:Jt}(h:RrrP E l a g i k z0 z1 z2 j0 j1 j2):aq l g 0=j0/\aq l g 1=j1/\aq l g 2=j2/\aV g 0=i/\aV g 1=k/\g.kind=1:=by
 rw[h.eq];exact⟨ax h.h0,ax h.h1,ax h.h2,rfl,rfl,rfl⟩
theorem SlP.at{kd i z0 z1:Int}{j0 j:Jt}(h:SlP E l a g kd i z0 z1 j0 j):aq l g 0=j0/\aq l g 1=j/\aV g 0=i/\g.kind=kd:=by
 rw[h.eq];exact⟨ax h.h0,ax h.h1,rfl,rfl⟩
end
section
variable{ts:LL}
def aE(p q:Et ts×Et ts):Et ts:=cJ (aT p q) (aT p q)
theorem BS(q:Rat):ao (qE q:Et ts)=ci q:=T.sgn_ofQ _ _ q
theorem un(x:Rat):0<=x*x:=by
 rcases(Rat.le_total:0<=x\/x<=0)with h |h
 ·exact Rat.mul_nonneg h h
 ·have h1 : 0 <= -x := by grind
  have h2:=Rat.mul_nonneg h1 h1;grind
theorem UL(p q:Rat×Rat):0<=bI p q:=by
 unfold bI cr cf;have h1:=un (p.1-q.1);have h2:=un (p.2-q.2);dsimp only;grind
theorem HX(p q:Rat×Rat):0<=ao (qE (bI p q):Et ts):=by
 rw[BS];have h:=UL p q;unfold ci;split
 ·grind
 ·split <;> omega
def bw(p:Et ts×Et ts)(r:Et ts)(q:Et ts×Et ts)(s:Et ts):Et ts:=qE 4*(r*aE p q)-((r+aE p q)-s)*((r+aE p q)-s)
end
section
variable{E:Nat}{l:Li}{a:As}{g:Gr}
end
theorem DyOk.ne{E:Nat}{l:Li}{k:Int}{a:As}{own:Bool}{n:Nat}{i k2 z0 z1 z2:Int}(h:DyOk E l k a own n ⟨1,[i,k2],[z0,z1,z2],0⟩):i≠k2:=by
 have hd:=h.dy;generalize hg:(⟨1,[i,k2],[z0,z1,z2],0⟩:Gr)=g at hd;cases hd with
 |drv _ _ _ _=>simp at hg
 |pr _ _ _=>simp at hg
 |rp _ _ _=>simp at hg
 |rrr ne _ _ _ _ _ _=>simp at hg;obtain⟨⟨rfl,rfl⟩,_⟩:=hg;exact ne
structure Bulk{H:Type}(bk:DataW H->Nat)(bka:List (DataW H)->Nat):Prop where
  one:∀d,1<=bk d
  nil:bka []=0
  cons:∀d l,bka (d::l)=bk d+bka l
  slice:∀e s,bka e+1<=bk (.slice e s)
  agg:∀l,bka l<=bk (.agg l)
section
variable{P:arj}{W:ark}{H:Type}{enc:ari×arh->H}{bk:DataW H->Nat}{bka:List (DataW H)->Nat}
theorem Bulk.pick(B:Bulk bk bka){α:Type}{m:α->Nat}:∀{l:List α}{xs:List (DataW H)},l.length<=xs.length->(∀(i:Nat)(a:α),l[i]?=some a->∃x,xs[i]?=some x/\m a<=bk x)->(l.map m).sum<=bka xs
 |[],xs,_,_=>by simp
 |a::l,[],hl,_=>by simp at hl
 |a::l,x::xs,hl,h=>by
  obtain⟨y,hy,h1⟩:=h 0 a rfl;cases hy;have h2:=B.pick (l:=l) (xs:=xs) (by simpa using hl) (fun i b hb=>h (i+1) b hb);rw[B.cons,aq2,List.sum_cons];omega
def xu(P:arj)(W:ark)(enc:ari×arh->H)(bk:DataW H->Nat)(t:ari){α:Type}(f:α->AV)(p:α->Prop)(m:α->Nat):Prop :=
  ∀(sp:Nat->Bool)(fuel:Nat)(cs:List arh)(x:DataW H×List MemPlace),DataW.trod enc P W 0 sp true fuel t cs=some x->(∀n∈x.1.weights P t,n<=reachBytes)->∃a,p a/\sJ W cs (f a).cells/\m a<=bk x.1
theorem e8.m{t:ari}{α:Type}{f:α->AV}{p:α->Prop}(h:e8 P W enc t f p):xu P W enc bk t f p (fun _=>0):=by
 intro sp fuel cs x hx hw;obtain⟨a,h1,h2⟩:=h sp fuel cs x hx hw;exact⟨a,h1,h2,apx _⟩
theorem e8.m1(B:Bulk bk bka){t:ari}{α:Type}{f:α->AV}{p:α->Prop}(h:e8 P W enc t f p):xu P W enc bk t f p (fun _=>1):=by
 intro sp fuel cs x hx hw;obtain⟨a,h1,h2⟩:=h sp fuel cs x hx hw;exact⟨a,h1,h2,B.one _⟩
theorem xu.map{α β:Type}{t:ari}{f:α->AV}{p:α->Prop}{m:α->Nat}(h:xu P W enc bk t f p m)(g:α->β)(f':β->AV)(p':β->Prop)(m':β->Nat)(hg:∀a,p a->p' (g a)/\f' (g a)=f a/\m' (g a)<=m a):xu P W enc bk t f' p' m':=by
 intro sp fuel cs x hx er;obtain⟨a,ha,hc,hm⟩:=h sp fuel cs x hx er;obtain⟨h1,h2,h3⟩:=hg a ha;exact⟨g a,h1,by rw[h2];exact hc,aqe h3 hm⟩
end
open Go.Proofs
section
variable{W:ark}{H:Type}{enc:ari×arh->H}
theorem TB:e8 prog W enc 354 (fun n:Nat=>u32 n) (fun n=>n<4294967296) :=
 (PI (k:=.u32) Tryz.underlying354).map Int.toNat _ _ (fun n h=>by
  have h1:0<=n/\n<=4294967295:=by simpa[Lit.wf,IntKind.min,IntKind.max,IntKind.signed,IntKind.bits]using h
  have h2:((n.toNat:Nat):Int)=n:=by omega
  exact⟨by omega,by unfold u32;rw[h2]⟩)
theorem ML:e8 prog W enc 104 ws (fun l=>Ws l/\l.length<=281474976710656) :=
 (wD Tryz.underlying104 (n:=1) (by kernel_rfl) oz (by kernel_rfl) TB (fun _=>rfl)).map id _ _ (fun l h=>⟨⟨fun x hx=>h.1 x hx,h.2⟩,rfl⟩)
theorem Jx:e8 prog W enc 4 bl (fun _=>True):=Us Tryz.underlying4
theorem um:e8 prog W enc 3 i64 (fun _=>True):=(PI (k:=.i64) Tryz.underlying3).map id _ _ (fun n h=>⟨trivial,rfl⟩)
theorem Ab:e8 prog W enc 9 (fun s:ByteArray=>AV.v (.string s)) (fun s=>s.size<=281474976710656):=Yr Tryz.underlying9
theorem Ff:e8 prog W enc 106 Rt.av Rt.wok :=
 (tN (n := 3) Tryz.underlying106 (by kernel_rfl)
  (.cons rfl (n:=1) (by kernel_rfl) Jx (fun _=>rfl) (.cons rfl (n:=1) (by kernel_rfl) ML (fun _=>rfl) (.cons rfl (n:=1) (by kernel_rfl) ML (fun _=>rfl) (.nil _)))) (fun _=>rfl)).map
  (fun z=>⟨z.1,z.2.1,z.2.2.1⟩) _ _ (fun z h=>⟨⟨h.2.1.1,h.2.2.1.1⟩,rfl⟩)
theorem Z4:e8 prog W enc 115 Tn.av (fun x=>x.t.wok) :=
 (tN (n := 4) Tryz.underlying115 (by kernel_rfl) (.cons rfl (n := 3) (by kernel_rfl) Ff (fun _ => rfl) (.cons rfl (n := 1) (by kernel_rfl) Jx (fun _ => rfl) (.nil _))) (fun _ => rfl)).map
  (fun z=>⟨z.1,z.2.1⟩) _ _ (fun z h=>⟨h.1,rfl⟩)
theorem Xj:e8 prog W enc 141 Mk.av (fun m=>m.name.size<=281474976710656/\m.x.wok/\m.y.wok) :=
 (tN (n := 7) Tryz.underlying141 (by kernel_rfl)
  (.cons rfl (n:=1) (by kernel_rfl) Ab (fun _=>rfl) (.cons rfl (n:=3) (by kernel_rfl) Ff (fun _=>rfl) (.cons rfl (n:=3) (by kernel_rfl) Ff (fun _=>rfl) (.nil _)))) (fun _=>rfl)).map
  (fun z=>⟨z.1,z.2.1,z.2.2.1⟩) _ _ (fun z h=>⟨⟨h.1,h.2.1,h.2.2.1⟩,rfl⟩)
theorem W8:e8 prog W enc 139 Bd.av (fun b=>b.name.size<=281474976710656/\b.pts.length<=281474976710656/\∀m∈b.pts,m.name.size<=281474976710656/\m.x.wok/\m.y.wok) :=
 (tN (n := 2) Tryz.underlying139 (by kernel_rfl)
  (.cons rfl (n:=1) (by kernel_rfl) Ab (fun _=>rfl) (.cons rfl (n:=1) (by kernel_rfl) (wD Tryz.underlying137 (n:=7) (by kernel_rfl) oz (by kernel_rfl) Xj (fun _=>rfl)) (fun _=>rfl) (.nil _))) (fun _=>rfl)).map
  (fun z=>⟨z.1,z.2.1⟩) _ _ (fun z h=>⟨⟨h.1,h.2.1.2,h.2.1.1⟩,rfl⟩)
theorem Ua:e8 prog W enc 135 Jt.av (fun j=>j.name.size<=281474976710656) :=
 (tN (n := 7) Tryz.underlying135 (by kernel_rfl)
  (.cons rfl (n := 1) (by kernel_rfl) Ab (fun _ => rfl) (.cons rfl (n := 1) (by kernel_rfl) um (fun _ => rfl) (.cons rfl (n := 1) (by kernel_rfl) um (fun _ => rfl) (.cons rfl (n := 1) (by kernel_rfl) um (fun _ => rfl)
   (.cons rfl (n:=1) (by kernel_rfl) um (fun _=>rfl) (.cons rfl (n:=1) (by kernel_rfl) um (fun _=>rfl) (.cons rfl (n:=1) (by kernel_rfl) um (fun _=>rfl) (.nil _)))))))) (fun _=>rfl)).map
  (fun z=>⟨z.1,z.2.1,z.2.2.1,z.2.2.2.1,z.2.2.2.2.1,z.2.2.2.2.2.1,z.2.2.2.2.2.2.1⟩) _ _ (fun z h=>⟨h.1,rfl⟩)
theorem Wm:e8 prog W enc 151 Dr.av (fun d=>d.name.size<=281474976710656) :=
 (tN (n := 2) Tryz.underlying151 (by kernel_rfl) (.cons rfl (n := 1) (by kernel_rfl) Ab (fun _ => rfl) (.cons rfl (n := 1) (by kernel_rfl) um (fun _ => rfl) (.nil _))) (fun _ => rfl)).map
  (fun z=>⟨z.1,z.2.1⟩) _ _ (fun z h=>⟨h.1,rfl⟩)
abbrev liG(l:Li):List AV:=[.v (.string l.name),.lst 2 (l.bo.map Bd.av),.lst 7 (l.jo.map Jt.av),.lst 2 (l.dv.map Dr.av)]
theorem WA:e8 prog W enc 26 (fun l:Li=>.agg (liG l)) Li.okw :=
 (tN (n := 4) Tryz.underlying26 (by kernel_rfl)
  (.cons rfl (n := 1) (by kernel_rfl) Ab (fun _ => rfl)
   (.cons rfl (n := 1) (by kernel_rfl) (wD Tryz.underlying22 (n := 2) (by kernel_rfl) oz (by kernel_rfl) W8 (fun _ => rfl)) (fun _ => rfl)
    (.cons rfl (n := 1) (by kernel_rfl) (wD Tryz.underlying23 (n := 7) (by kernel_rfl) oz (by kernel_rfl) Ua (fun _ => rfl)) (fun _ => rfl)
     (.cons rfl (n:=1) (by kernel_rfl) (wD Tryz.underlying24 (n:=2) (by kernel_rfl) oz (by kernel_rfl) Wm (fun _=>rfl)) (fun _=>rfl) (.nil _))))) (fun _=>rfl)).map
  (fun z=>⟨z.1,z.2.1,z.2.2.1,z.2.2.2.1⟩) _ _ (fun z h=>⟨⟨h.1,h.2.1.1,h.2.2.1.1,h.2.2.2.1.1,h.2.1.2,h.2.2.1.2,h.2.2.2.1.2⟩,rfl⟩)
theorem Zv:e8 prog W enc 38 (fun l:List Tn=>.lst 4 (l.map Tn.av)) (fun l=>(∀x∈l,x.t.wok)/\l.length<=281474976710656) :=
 wD Tryz.underlying38 (n:=4) (by kernel_rfl) oz (by kernel_rfl) Z4 (fun _=>rfl)
end
open Go.Proofs Go.Proofs.YtokaoegjfpjjnaaGreat
open Go.ChangeShapes Go.WideShapes Go.ChangeAt Go.RowKit
theorem own:ownKnob prog.godebug=none:=by kernel_rfl
theorem J6:laidOutB prog=true:=by kernel_rfl
theorem aaw:prog.stopsHeard=true:=by kernel_rfl
theorem Vc:prog.plainKeys=true:=by kernel_rfl
theorem ajy:mapsRowed prog=true:=by kernel_rfl
theorem Tv:prog.mayEnter=true:=by kernel_rfl
theorem W9:prog.liftsFinal=false:=by kernel_rfl
theorem Um{v:arh}(h:∀cs,v≠.agg cs):v.cells=#[v]:=by
 cases v <;> first |rfl |exact ard rfl (h _)
theorem ZA{P:arj}{W:ark}{r:Reach}{b0:Nat}{t e:ari}{v:arh}(ht:P.underlying t=some (.slice e))(ic:Value.okWide P W r b0 t v):v.cells=#[v]:=by
 refine Um (fun cs h=>?_);subst h;unfold Value.okWide at ic;rw[ht]at ic;unfold Cell.okWide at ic;rw[ht]at ic;unfold Cell.ok at ic;rw[ht]at ic;exact ic
theorem N1{H:Type}{enc:ari×arh->H}{W W':ark}{t:ari}{v:arh}{d:DataW H}{ps:List MemPlace}{sp':Nat->Bool}(hr:prog.readableRec t=true)(ht:t<prog.types.size)
  (h:DataW.Trod enc prog W 0 (fun _=>true) true t v d ps) (hb:Below W.heap.size W W') (hlt:∀x∈ps,x.block<W.heap.size) (hs:∀p∈ps,sp' p.block=true):DataW.Trod enc prog W' 0 sp' true t v d ps :=
 WideElems.Trod_stays J6 hr ht h (fun x hx=>hb.same (hlt x hx)) hs
end Go.Lw
namespace Go.Lw
open Go.Proofs
theorem JY(m:List Nat)(hm:Ws m)(hl:m.length<=ir):FP 305 [ws m] (bl (!decide (m=[])&&(⟨false,m⟩:Wh).valid)):=by
 refine ai func305 ?_;refine gl ?_;refine cA ?_;refine uv (fun h=>(mU (by simp[aa]at h;omega) (by unfold ir at hl;unfold bf;exact aqe hl oz))) ?_;refine tY (fun h=>(dc (i:=m.length-1) (by simp[aa]at h;omega))) ?_;refine ah ?_
 by_cases h:m=[]
 ·subst h;rfl
 ·have h1:0 < m.length:=anj.2 h;have h2:aa .gtr (m.length:Int) 0 = true:=by simp [aa,h1]
  simp only[bl,h,decide_false,Bool.not_false,Bool.true_and,Wh.valid,an3,mC (show m.length-1<m.length by omega),aa];congr 2;generalize ak m _=x;rw[aov];simp[h1]
theorem Gx:FP 142 [] (zA 1):=by
 refine ai func142 ?_;refine gc (Nn 1 oz) ?_;refine ah ?_
 first |rfl |(simp;done)
theorem xB(r:Rt)(h:r.ok):FP 177 [r.av] (bl r.valid):=by
 have hr:=h;have hn:=h.n0;have hd:=h.d0;have s7:r.num.length<=137438953472:=h.2.2.1;have uV:r.den.length<=137438953472:=h.2.2.2;refine ai func177 ?_;refine gl ?_;refine cA ?_;refine gC (fun t12=>?_) (fun t12=>?_)
 ·have h0 : r.num = [] /\ r.den = [] := by simpa [aa] using t12
  refine ah ?_;unfold Rt.valid;rw[aq7 h0];rfl
 have h0:¬(r.num=[]/\r.den=[]):=by
  have:=t12;simp[aa]at this;exact fun h=>this h.1 h.2
 refine gc (JY r.num hr.1 hr.2.2.1) ?_;refine bT (fun _=>(JY r.den hr.2.1 hr.2.2.2)) ?_;refine bT (fun _=>(LN r.n0 r.d0 hn hd (by show r.num.length+r.den.length<_;unfold aI;omega))) ?_;refine bT (fun _=>Gx) ?_;refine bT (fun _=>(UG (Rt.gcd_zs hr) Do)) ?_;refine ah ?_;exact are bl (agu h0).symm
theorem wP(r:Rt)(h:r.ok):FP 284 [r.av] (.tup [zA r.q.num,zA r.q.den]):=by
 have s7:r.num.length<=137438953472:=h.2.2.1;have uV:r.den.length<=137438953472:=h.2.2.2;refine ai func284 ?_;refine gc (xB r h) ?_;refine cA ?_;refine gC (fun t12=>?_) (fun t12=>?_)
 ·have h0:¬(r.valid=true/\r.num≠[]):=by
   have:=t12;intro h';simp[aa,h'.1,h'.2]at this
  refine gc Gx ?_;refine gR ?_;exact fv (by rw[Rt.zero h0];exact Sub.tup (.cons Ku (.cons (.refl _) .nil)))
 have h0:r.valid=true/\r.num≠[]:=by
  have:=t12;cases hv:r.valid
  ·rw[hv]at this;cases this
  ·rw[hv]at this;exact⟨rfl,by simpa[aa]using this⟩
 obtain⟨e1,e2,e3,e4,e5,e6⟩:=Rt.parts h h0.1 h0.2;refine gD ?_;refine bK ?_;rw[e1,e2];exact QF e3 e4 e5
theorem Bw{n d:Int}(hn:Zs n)(hd:Zs d)(h0:d≠0):FP 140 [zA n,zA d] (qA (aop n d)):=by
 refine ai func140 ?_;refine gc (GE hn) ?_;refine gC (fun z=>?_) (fun z=>?_)
 ·have e0 : n=0 := aoh.1 (by simpa[aa]using z);refine gR ?_;exact o7 (by rw[e0,Rat.zero_divInt];exact mV)
 have e0:n≠0:=fun h=>by rw[h]at z;cases z
 refine gc (GE hd) ?_;refine Hw [2,3,4] [4] (fun(n1 d1:Int)=>[]) (fun n1 d1=>[pP 2 (.box (zA n1).cells),pP 3 (.box (zA d1).cells)]) (fun n1 d1=>0<d1/\n1≠0/\Zs n1/\Zs d1/\aop n1 d1=aop n d) ?_ ?_
 ·intro K1 J1;refine gC (fun t18=>?_) (fun t18=>?_)
  ·have e1 : d<0 := aok.1 (by have := aog d;have h9 : d.sign<0 := (by simpa[aa]using t18);omega);refine gc (Em hn) ?_;refine gc (Em hd) ?_;refine gD ?_;exact wJ J1 (-n) (-d) ⟨by omega,by omega,hn.neg,hd.neg,Kd n d⟩
  have e1:0<d:=by
   have h9:0<=d.sign:=by simpa[aa]using t18
   have:=aoj.1 h9;omega
  exact wJ J1 n d ⟨e1,e0,hn,hd,rfl⟩
 rintro n1 d1 ⟨f1,f2,f3,f4,f5⟩;have g2:Zs (aoa n1 d1:Int):=f3.of_le (by rw[aqn];exact Nat.le_of_dvd oz (Int.gcd_dvd_natAbs_left _ _));have g3:(aoa n1 d1:Int)≠0:=by have:=Int.gcd_pos_of_ne_zero_left d1 f2;omega
 refine gc (ahh f3 f4) ?_;refine gc (Mb f3 g2 g3) ?_;refine gc (Mb f4 g2 g3) ?_;refine ah ?_;rw[<- f5,<- W6 f1 f2];rfl
theorem NT(n:Int)(h:-9223372036854775808<=n/\n<=9223372036854775807):FP 53 [i64 n] (qA n):=by
 have hz:Zs n:=⟨2,by omega,by unfold Lz;simp only[Nat.reducePow];omega⟩
 refine ai func53 ?_;refine gc (Nn n h) ?_;refine gc Gx ?_;refine gc (Bw hz Do oz) ?_;refine ah ?_;exact are qA (aom (n:Rat))
theorem K0(a:Rt)(ha:a.ok):FP 288 [a.av] (qA (-a.q)):=by
 have za:=ha.qs;refine ai func288 ?_;refine gc (wP a ha) ?_;refine gc (Em za.num) ?_;refine gc (Bw za.num.neg za.den (by have:=a.q.den_nz;omega)) ?_;refine gD ?_;refine ah ?_;rw[Lq];rfl
theorem GO(a:Rt)(ha:a.ok):FP 156 [a.av] (i64 (ci a.q)):=by
 refine ai func156 ?_;refine gc (wP a ha) ?_;refine gc (GE ha.qs.num) ?_;refine ah ?_;rw[KP]
theorem Jw(a b:Rt)(ha:a.ok)(hb:b.ok):FP 157 [a.av,b.av] (qA (a.q+b.q)):=by
 have za:=ha.qs;have zb:=hb.qs;have m1:=za.mul zb;have m2:=zb.mul za;refine ai func157 ?_;refine gc (wP a ha) ?_;refine gc (wP b hb) ?_;refine gc (x4 za.num zb.den) ?_;refine gc (x4 zb.num za.den) ?_;refine gc (X0 m1.1 m2.1) ?_;refine gc (x4 za.den zb.den) ?_;refine gc (Bw (za.cross zb) m1.2.2.1 (aof (by have:=a.q.den_nz;omega) (by have:=b.q.den_nz;omega))) ?_;refine gD ?_;refine ah ?_;rw[FN];rfl
theorem S6(a b:Rt)(ha:a.ok)(hb:b.ok):FP 160 [a.av,b.av] (qA (a.q-b.q)):=by
 refine ai func160 ?_;refine gc (K0 b hb) ?_;refine gc (Jw a (rt (-b.q)) ha hb.qs.neg.ok) ?_;refine gD ?_;refine ah ?_;rw[bN,<- aoo];rfl
theorem ahk(a b:Rt)(ha:a.ok)(hb:b.ok):FP 158 [a.av,b.av] (qA (a.q*b.q)):=by
 have za:=ha.qs;have zb:=hb.qs;have m1:=za.mul zb;refine ai func158 ?_;refine gc (wP a ha) ?_;refine gc (wP b hb) ?_;refine gc (x4 za.num zb.num) ?_;refine gc (x4 za.den zb.den) ?_;refine gc (Bw m1.2.1 m1.2.2.1 (aof (by have:=a.q.den_nz;omega) (by have:=b.q.den_nz;omega))) ?_;refine gD ?_;refine ah ?_;rw[HN];rfl
theorem Np(a b:Rt)(ha:a.ok)(hb:b.ok)(hs:Qs (a.q-b.q)):FP 293 [a.av,b.av] (i64 (ci (a.q-b.q))):=by
 refine ai func293 ?_;refine gc (S6 a b ha hb) ?_;refine gc (GO (rt (a.q-b.q)) hs.ok) ?_;refine ah ?_;rw[bN]
end Go.Lw
